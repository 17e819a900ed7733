import Derived.Test.YtefkhaccplcieaaGreatDoorOvD
import Derived.Test.YtefkhaccplcieaaGreatDoorOvA
import Derived.Test.YtefkhaccplcieaaGreatDoorOvC
set_option linter.all false
open Go.Ovl.Sat renaming ret->A,bic->B,bindS->E,bindE->S,bifT->U,bindR->aC
open Bool renaming true->C,false->J
open Go.Ovl renaming inR->H,Sat->O,NewCar->R
open Option renaming some->I
open Go.IntKind renaming i64->L,wrap->aB
open Int renaming toNat->P
open Go.Ovl.Duty renaming mk->aA
open BitVec renaming ofInt->aD
namespace Go.Ovl
open Go Go.Ab
set_option maxRecDepth 100000
variable{b:Bldg}{fl n e:Int}{d:Bool}{c:Car}
def UQ{p:Nat→Bool}:∀m i:Nat,(∀k,i≤k→k<i+m→p k=C)→Qc p m i=C
 |0,_,_=>rfl
 |m+1,i,h=>by simp only[Qc];rw[h i (A_ _) ω,u_];exact UQ m (i+1) λk h1 h2=>h k ω ω
def TP{p:Nat→Bool}:∀m i:Nat,Qc p m i=C→∀k,i≤k→k<i+m→p k=C
 |0,_,_,k,h1,h2=>by omega
 |m+1,i,h,k,h1,h2=>by
  simp only[Qc,e_]at h;rcases g3_ i k with g | g
  ·exact TP m (i+1) h.2 k ω ω
  ·obtain rfl:k=i:=ω;exact h.1
def SG{xs:List Int}(hl:xs.length≤100000)(h:∀x∈xs,0≤x∧x≤1000000):Ip xs=I ((C,()),()):=by
 have l:Bu ((xs,(),(xs.length:Int),(0:Int),()),())=I (.inl ((),())):=HC hl (λi=>((xs,(),(xs.length:Int),(i:Int),()),())) (λi hi=>by
  have hx:=h _ (BU 0 hi);have e:Jg (xs.getD i 0)=I ((J,()),()):=by unfold Jg;rw[f_ ω,f_ ω];rfl
  simp only[lp,Un.u,Cw,OV hi,Ht hi,KL hl hi,h_,e,d_,c_,a_]) (by simp only[lp,Un.u,Cw,Lq,c_])
 unfold Ip Cm CH;rw[l];rfl
def Ab5(x:Debounced):List Int:=[x.H5,x.I5,x.K5,x.L5,x.M5,x.N5,x.O5,x.Q5,x.R5,x.S5,x.F4,x.G4,x.H4,x.I4,x.J4,x.K4,x.L4,x.M4,x.N4,x.O4,x.P4,x.Q4,x.R4,x.S4,x.T4,x.U4,x.V4,x.X4,x.Y4,x.Z4,x.A5,x.B5,x.C5,x.E5,x.F5,x.G5]
def Amp(n:Int)(x:Debounced)(i:Nat):Bool:=decide (0≤(Ab5 x).getD i 0)&&decide ((Ab5 x).getD i 0<n)
def Va(n:Int)(x:Debounced):Bool:=decide (1≤n)&&(decide (n≤16)&&Qc (Amp n x) 36 0)
def YF{x:Debounced}(h:Va n x=C):EC n x.V0 x.I2 x.T1 x.U1 x.D1 x.H5 x.I5 x.K5 x.L5 x.M5 x.N5 x.O5 x.Q5 x.R5 x.S5 x.F4 x.G4 x.H4 x.I4 x.J4 x.K4 x.L4 x.M4 x.N4 x.O4 x.P4 x.Q4 x.R4 x.S4 x.T4 x.U4 x.V4 x.X4 x.Y4 x.Z4 x.A5 x.B5 x.C5 x.E5 x.F5 x.G5=I ((C,()),()):=by unfold Va at h;simp only[e_,t_]at h;obtain⟨h1,h2,h3⟩:=h;have l:ES ((n,(x.H5,x.I5,x.K5,x.L5,x.M5,x.N5,x.O5,x.Q5,x.R5,x.S5,x.F4,x.G4,x.H4,x.I4,x.J4,x.K4,x.L4,x.M4,x.N4,x.O4,x.P4,x.Q4,x.R4,x.S4,x.T4,x.U4,x.V4,x.X4,x.Y4,x.Z4,x.A5,x.B5,x.C5,x.E5,x.F5,x.G5,()),(0:Int),()),())=I (.inl ((),())):=HC (N:=36) τ (λi=>((n,(x.H5,x.I5,x.K5,x.L5,x.M5,x.N5,x.O5,x.Q5,x.R5,x.S5,x.F4,x.G4,x.H4,x.I4,x.J4,x.K4,x.L4,x.M4,x.N4,x.O4,x.P4,x.Q4,x.R4,x.S4,x.T4,x.U4,x.V4,x.X4,x.Y4,x.Z4,x.A5,x.B5,x.C5,x.E5,x.F5,x.G5,()),(i:Int),()),())) (λi hi=>by have hx:=TP 36 0 h3 i (a5_ _) ω;unfold Amp at hx;simp only[e_,t_]at hx;show CV n x.H5 x.I5 x.K5 x.L5 x.M5 x.N5 x.O5 x.Q5 x.R5 x.S5 x.F4 x.G4 x.H4 x.I4 x.J4 x.K4 x.L4 x.M4 x.N4 x.O4 x.P4 x.Q4 x.R4 x.S4 x.T4 x.U4 x.V4 x.X4 x.Y4 x.Z4 x.A5 x.B5 x.C5 x.E5 x.F5 x.G5 (i:Int)=_;unfold CV;simp only[b_ (ω:(i:Int)<36),Ht hi,KL (show 36≤100000 by decide) hi,h_,d_];show(bif decide ((Ab5 x).getD i 0<0)then _ else bif decide (n≤(Ab5 x).getD i 0)then _ else _)=_;rw[f_ ω,f_ ω];rfl) (by rfl);unfold EC;rw[f_ ω,f_ ω,l];rfl
def Vn(a b:Duty):Bool:=decide (a.D0<b.D0)||(a.D0==b.D0&&decide (a.I0<b.I0))
def Aax{a b:Duty}(h:Vn a b=C):∃n:Int,CO a.D0 a.I0 a.E4 b.D0 b.I0 b.E4=I ((n,()),())∧decide (0≤n)=J:=by
 unfold CO;rw[Ig,Ig];simp only[a_];rw[YD];refine⟨_,rfl,?_⟩;unfold Vn at h;simp only[S_,e_,t_,U_]at h;unfold WT;rcases h with h | ⟨h,h'⟩
 ·rw[b_ h];rfl
 ·rw[h,f_ (M_ _),b_ h'];rfl
def TU(n lo hi:Int):DG n lo hi=I ((H lo hi n,()),()):=by unfold DG H;cases decide (lo≤n)<;>rfl
def Auh(x:Belief)(i:Nat):Bool:=i==0||Vn (x.W0.getD (i-1) HJ) (x.W0.getD i HJ)
def Am2(b:Bldg)(car:Nat)(x:Belief)(i:Nat):Bool:=Ap b (x.W0.getD i HJ).D0 (x.W0.getD i HJ).I0&&(H 0 (Kx b car).I1 (x.W0.getD i HJ).E4&&Auh x i)
def Adz(b:Bldg)(car:Nat)(x:Belief):Bool:=H (-1) (b.C0-1) x.D0&&(H 0 3 x.I0&&(H 0 3 x.F3&&(H 0 1000000 x.Z2&&(!(x.R3&&decide ((0:Int)<(x.W0.length:Int)))&&Qc (Am2 b car x) x.W0.length 0))))
def SE(hb:b.small)(hcode:b.code=0){car:Nat}(hcar:car<b.B0.length){x:Belief}(hx:x.W0.length≤100000)(h:Adz b car x=C):Cs b.C0 b.F0 b.H0 b.M0 b.K0 b.L0 b.N0 b.B0 (car:Int) x.D0 x.I0 x.F3 x.W0 x.Z2 x.R3=I ((C,()),()):=by
 have lo:=hb.lo;have hi8:=hb.hi;have hcc:=Aj hcode;unfold Adz at h;simp only[e_]at h;obtain⟨h1,h2,h3,h4,h5,h6⟩:=h;have l:Jl (((car:Int),(),(),x.W0,(x.W0.length:Int),(0:Int),()),(b.tup,x.tup,()))=I (.inl ((),())):=HC hx (λi=>(((car:Int),(),(),x.W0,(x.W0.length:Int),(i:Int),()),(b.tup,x.tup,()))) (λi hi=>by
  have hp:=TP _ 0 h6 i (a5_ _) ω;unfold Am2 Auh at hp;simp only[e_]at hp;obtain⟨p1,p2,p3⟩:=hp;show Hf (car:Int) x.W0 (x.W0.length:Int) (i:Int) b.C0 b.F0 b.H0 b.M0 b.K0 b.L0 b.N0 b.B0 x.D0 x.I0 x.F3 x.W0 x.Z2 x.R3=_;unfold Hf;have p2:H 0 (b.B0.getD car (Car.mk 0 0 0 0 0 0 0 0 0)).I1 (x.W0.getD i (aA 0 0 0)).E4=C:=p2;have p1:Ap b (x.W0.getD i (aA 0 0 0)).D0 (x.W0.getD i (aA 0 0 0)).I0=C:=p1;simp only[OV hi,Ht hi,Ht hcar,KL hx hi,d_,h_,MR hb,TU,a_,p1,p2,o_,c_];cases i with
  |zero=>rfl
  |succ j=>rw[b_ (ω:(0:Int)<((j+1:Nat):Int)),Aa (n:=((j+1:Nat):Int)-1) ω ω,show((j+1:Nat):Int)-1=(j:Int)by omega,Ht (ω:j<x.W0.length)];obtain⟨n,e1,e2⟩:=Aax p3;simp only[d_,h_];rw[show CO (x.W0.getD j (aA 0 0 0)).D0 (x.W0.getD j (aA 0 0 0)).I0 (x.W0.getD j (aA 0 0 0)).E4 (x.W0.getD (j+1) (aA 0 0 0)).D0 (x.W0.getD (j+1) (aA 0 0 0)).I0 (x.W0.getD (j+1) (aA 0 0 0)).E4=_ from e1];simp only[a_,e2,KL hx hi];rfl) (by
  show Hf (car:Int) x.W0 (x.W0.length:Int) (x.W0.length:Int) b.C0 b.F0 b.H0 b.M0 b.K0 b.L0 b.N0 b.B0 x.D0 x.I0 x.F3 x.W0 x.Z2 x.R3=_;simp only[lp,Un.u,Hf,Lq,c_])
 have r:(bif x.R3 then decide ((0:Int)<(x.W0.length:Int))else J)=J:=by
  cases hL:x.R3 with
  |false=>rfl
  |true=>rw[hL]at h5;simpa using h5
 unfold Cs;rw[AR,hcode];simp only[TU,a_,Q_,c_,Aa (n:=(b.B0.length:Int)-1) ω ω,Aa (n:=b.C0-1) ω ω,show H 0 ((b.B0.length:Int)-1) (car:Int)=C from As.2 ⟨ω,ω⟩,h1,h2,h3,h4,o_];cases hL:x.R3 with
 |false=>rw[Belief.tup,hL]at l;exact Ae rfl (Ae l rfl)
 |true=>rw[hL]at r;rw[Belief.tup,hL]at l;have r:decide ((0:Int)<(x.W0.length:Int))=J:=r;rw[d_,r];exact Ae rfl (Ae l rfl)
def Ra(x:R):Bool:=H 0 2 x.V1&&H 0 7 x.F1
def SY(x:R):Bool:=(x.Y0==0)&&((x.N1==0)&&((x.H1==0)&&((x.K1==J)&&((x.E1==0)&&C))))
def Sb(x:R):Bool:=bif x.Y0==0 then SY x else H 0 3 x.Y0&&(H 0 1000000 x.N1&&(H 0 1000000 x.H1&&H 0 1000000 x.E1))
def Aoc(x:R):Bool:=(x.T0==0)&&((x.X0==0)&&((x.S0==0)&&C))
def Vq(fl:Int)(x:R):Bool:=H 0 1000000 x.X0&&(bif x.T0==0 then x.S0==0 else bif x.T0==1 then H 0 (fl-1) x.S0&&H 0 (fl-1) (x.S0+1)else bif x.T0==2 then H 0 (fl-1) x.S0&&H 0 (fl-1) (x.S0-1)else J)
def Ags(x:R):Bool:=(x.V1==0)&&((x.F1==0)&&((x.Y0==0)&&((x.N1==0)&&((x.H1==0)&&((x.K1==J)&&((x.E1==0)&&((x.T0==0)&&((x.X0==0)&&((x.S0==0)&&((x.E2==0)&&((x.A3==0)&&((x.O3==0)&&((x.E3==C)&&C)))))))))))))
def Afo(fl:Int)(x:R):Bool:=(Int.fdiv x.E2 ((2:Int)^(P fl))==0)&&(H 0 2 x.A3&&H 0 1000000 x.O3)
def Wy(fl:Int)(x:R):Bool:=Ra x&&(Sb x&&(Vq fl x&&((SY x||Aoc x)&&Afo fl x)))
def HQ(b:Bldg)(x:R):Bool:=bif x.E3 then Ags x else Wy b.C0 x
def Ky(x:R):FA x.V1 x.F1=I ((Ra x,()),()):=by unfold FA Ra H;cases decide (0≤x.V1)<;>cases decide (x.V1≤2)<;>cases decide (0≤x.F1)<;>rfl
def Aef(n:Int):HW n=I ((H 0 1000000 n,()),()):=by unfold HW H;cases decide (0≤n)<;>rfl
def Qk(x:R):Gq x.Y0 x.N1 x.H1 x.K1 x.E1=I ((Sb x,()),()):=by
 unfold Gq Sb SY;simp only[Aef,a_];cases x.Y0==0 with
 |true=>rfl
 |false=>unfold H;cases decide (0≤x.Y0)<;>cases decide (x.Y0≤3)<;>cases(decide (0≤x.N1)&&decide (x.N1≤1000000))<;>cases(decide (0≤x.H1)&&decide (x.H1≤1000000))<;>rfl
def NM(h:2≤fl∧fl≤8)(x:R):Gs fl x.T0 x.X0 x.S0=I ((Vq fl x,()),()):=by
 unfold Gs Vq;rw[f_ (ω:¬fl<2),f_ (ω:¬32<fl)];simp only[c_];by_cases t:0≤x.X0∧x.X0≤1000000
 ·rw[f_ (ω:¬x.X0<0),f_ (ω:¬1000000<x.X0),show H 0 1000000 x.X0=C from As.2 t];simp only[c_,u_];by_cases f:0≤x.S0∧x.S0<fl
  ·rw[f_ (ω:¬x.S0<0),f_ (ω:¬fl≤x.S0),show H 0 (fl-1) x.S0=C from As.2 ⟨f.1,ω⟩];simp only[c_,u_];by_cases c0:x.T0=0
   ·rw[c0];rfl
   ·rw[Ao c0];simp only[c_];unfold FF;by_cases c1:x.T0=1
    ·rw[c1];simp only[Q_,c_,a_,show inB 1 3=C from rfl,d_,l_];rw[show List.getD [(0:Int),1,-1] (P 1) 0=1 from rfl,Aa ω ω];unfold H;by_cases z:x.S0+1<fl
     ·rw[b_ z,b_ (ω:0≤x.S0+1),b_ (ω:x.S0+1≤fl-1)];rfl
     ·rw[f_ z,b_ (ω:0≤x.S0+1),f_ (ω:¬x.S0+1≤fl-1)];rfl
    ·rw[GT c1,Ao c1];simp only[d_,c_];by_cases c2:x.T0=2
     ·rw[c2];simp only[Q_,c_,a_,show inB 2 3=C from rfl,d_,l_];rw[show List.getD [(0:Int),1,-1] (P 2) 0=-1 from rfl,Aa ω ω,show x.S0+ -1=x.S0-1 by omega];unfold H;by_cases z:0≤x.S0-1
      ·rw[b_ z,b_ (ω:x.S0-1<fl),b_ (ω:x.S0-1≤fl-1)];rfl
      ·rw[f_ z];rfl
     ·rw[GT c2,Ao c2];rfl
  ·have hf:H 0 (fl-1) x.S0=J:=by
    cases hq:H 0 (fl-1) x.S0 with
    |false=>rfl
    |true=>have:=As.1 hq;omega
   rw[hf];have hz:(x.S0==0)=J:=Ao ω;rw[hz];simp only[a8_];have e:(bif x.T0==0 then J else bif x.T0==1 then J else bif x.T0==2 then J else J)=J:=by cases x.T0==0<;>cases x.T0==1<;>cases x.T0==2<;>rfl
   rw[e];by_cases z:x.S0<0
   ·rw[b_ z];rfl
   ·rw[f_ z,b_ (ω:fl≤x.S0)];rfl
 ·have hf:H 0 1000000 x.X0=J:=by
   cases hq:H 0 1000000 x.X0 with
   |false=>rfl
   |true=>exact absurd (As.1 hq) t
  rw[hf];simp only[a8_];by_cases z:x.X0<0
  ·rw[b_ z];rfl
  ·rw[f_ z,b_ (ω:1000000<x.X0)];rfl
def JW(hb:b.small)(hcode:b.code=0)(x:R):Ef b.C0 b.F0 b.H0 b.M0 b.K0 b.L0 b.N0 b.B0 x.V1 x.F1 x.Y0 x.N1 x.H1 x.K1 x.E1 x.T0 x.X0 x.S0 x.E2 x.A3 x.O3 x.E3=I ((HQ b x,()),()):=by
 have lo:=hb.lo;have hi8:=hb.hi;have hmin:Min.min (P b.C0) (IntKind.bits IntKind.u32)=P b.C0:=c8_ (by show _≤32;omega);unfold Ef HQ;rw[AR,hcode];simp only[a_,Q_,c_];have main:Wy b.C0 x=Wy b.C0 x:=rfl;cases hF:x.E3 with
 |true=>
  have hZ:Ags x=((x.V1==0)&&((x.F1==0)&&((x.Y0==0)&&((x.N1==0)&&((x.H1==0)&&((x.K1==J)&&((x.E1==0)&&((x.T0==0)&&((x.X0==0)&&((x.S0==0)&&((x.E2==0)&&((x.A3==0)&&((x.O3==0)&&((C==C)&&C)))))))))))))):=by unfold Ags;rw[hF]
  rw[d_,← hZ];cases hq:Ags x with
  |false=>rfl
  |true=>
   have hq':=hq;unfold Ags at hq';simp only[e_,U_]at hq';obtain⟨e1,e2,e3,e4,e5,e6,e7,e8,e9,e10,e11,e12,e13,_⟩:=hq';simp only[o_,a_,c_,d_,Ky,Qk,NM ⟨lo,hi8⟩];have s1:Ra x=C:=by unfold Ra;rw[e1,e2];rfl
   have s2:Sb x=C:=by unfold Sb SY;rw[e3,e4,e5,e6,e7];rfl
   have s3:Vq b.C0 x=C:=by unfold Vq;rw[e8,e9,e10];rfl
   rw[s1,s2,s3,e3,e4,e5,e6,e7,e11,e12,e13];simp only[l_,d5_,o_,c_,a_];rw[b_ (ω:0≤b.C0),hmin];simp only[d_];rw[show Int.fdiv 0 ((2:Int)^P b.C0)=0 from Int.zero_fdiv _];rfl
 |false=>
  simp only[a_,c_,Ky,Qk,NM ⟨lo,hi8⟩];unfold Wy;cases Ra x with
  |false=>rfl
  |true=>
  cases Sb x with
  |false=>rfl
  |true=>
  cases Vq b.C0 x with
  |false=>rfl
  |true=>
   simp only[o_,c_,u_];rw[show((x.Y0==0)&&((x.N1==0)&&((x.H1==0)&&((x.K1==J)&&((x.E1==0)&&C)))))=SY x from rfl,show((x.T0==0)&&((x.X0==0)&&((x.S0==0)&&C)))=Aoc x from rfl];have fin:(bif decide (0≤b.C0)then bif(Int.fdiv x.E2 ((2:Int)^(P b.C0))==0)then bif decide (0≤x.A3)then bif decide (x.A3≤2)then bif decide (0≤x.O3)then I ((decide (x.O3≤1000000),()),())else I ((J,()),())else I ((J,()),())else I ((J,()),())else I ((J,()),())else none)=I ((Afo b.C0 x,()),()):=by rw[b_ (ω:0≤b.C0)];unfold Afo H;cases Int.fdiv x.E2 ((2:Int)^(P b.C0))==0<;>cases decide (0≤x.A3)<;>cases decide (x.A3≤2)<;>cases decide (0≤x.O3)<;>rfl
   cases SY x with
   |true=>simp only[o_,c_,a_,Bool.true_or,u_];rw[hmin,fin];rfl
   |false=>
    cases Aoc x with
    |true=>simp only[o_,d4_,d_,c_,a_,Bool.false_or,u_];rw[hmin,fin];rfl
    |false=>rfl
def Aaz(hb:b.small)(hcode:b.code=0){l:List Debounced}(hn:l.length=b.B0.length)(h:∀x∈l,Va b.F0 x=C):AZ l (b.B0.length:Int) b.C0 b.F0 b.H0 b.M0 b.K0 b.L0 b.N0 b.B0=I ((C,()),(b.tup,())):=by
 have hcc:=Aj hcode;have q:AX (((),l,(l.length:Int),(0:Int),()),(b.tup,()))=I (.inl ((),(b.tup,()))):=HC (N:=l.length) ω (λi=>(((),l,(l.length:Int),(i:Int),()),(b.tup,()))) (λi hi=>by
  have e:=YF (h _ (BU Fy hi));show AJ l (l.length:Int) (i:Int) b.C0 b.F0 b.H0 b.M0 b.K0 b.L0 b.N0 b.B0=_;unfold AJ Gt;simp only[OV hi,Ht hi,KL (ω:l.length≤100000) hi,h_,d_];exact Ae (Ae e rfl) rfl) (by
  show AJ l (l.length:Int) (l.length:Int) b.C0 b.F0 b.H0 b.M0 b.K0 b.L0 b.N0 b.B0=_;simp only[lp,Un.u,AJ,Lq,c_];rfl)
 unfold AZ;rw[hn,Q_,← hn];exact Ae q rfl
def Ag0(hb:b.small)(hcode:b.code=0){l:List Belief}(hn:l.length=b.B0.length)(h:∀i,i<l.length→Adz b i (l.getD i (Belief.mk 0 0 0 [] 0 J))=C)(hd:∀x∈l,x.W0.length≤100000):Bh l (b.B0.length:Int) b.C0 b.F0 b.H0 b.M0 b.K0 b.L0 b.N0 b.B0=I ((C,()),(b.tup,())):=by
 have hcc:=Aj hcode;have q:Be (((),l,(l.length:Int),(0:Int),()),(b.tup,()))=I (.inl ((),(b.tup,()))):=HC (N:=l.length) ω (λi=>(((),l,(l.length:Int),(i:Int),()),(b.tup,()))) (λi hi=>by
  have e:=SE hb hcode (ω:i<b.B0.length) (hd _ (BU (Belief.mk 0 0 0 [] 0 J) hi)) (h i hi);show AM l (l.length:Int) (i:Int) b.C0 b.F0 b.H0 b.M0 b.K0 b.L0 b.N0 b.B0=_;unfold AM Gu;simp only[OV hi,Ht hi,KL (ω:l.length≤100000) hi,h_,d_];exact Ae (Ae e rfl) rfl) (by
  show AM l (l.length:Int) (l.length:Int) b.C0 b.F0 b.H0 b.M0 b.K0 b.L0 b.N0 b.B0=_;simp only[lp,Un.u,AM,Lq,c_];rfl)
 unfold Bh;rw[hn,Q_,← hn];exact Ae q rfl
def Ag2(hb:b.small)(hcode:b.code=0){l:List R}(hn:l.length=b.B0.length)(h:∀x∈l,HQ b x=C):Bi l (b.B0.length:Int) b.C0 b.F0 b.H0 b.M0 b.K0 b.L0 b.N0 b.B0=I ((C,()),(b.tup,())):=by
 have hcc:=Aj hcode;have q:Bf (((),l,(l.length:Int),(0:Int),()),(b.tup,()))=I (.inl ((),(b.tup,()))):=HC (N:=l.length) ω (λi=>(((),l,(l.length:Int),(i:Int),()),(b.tup,()))) (λi hi=>by
  have e:=JW hb hcode (l.getD i Bw);rw[h _ (BU Bw hi)]at e;show AN l (l.length:Int) (i:Int) b.C0 b.F0 b.H0 b.M0 b.K0 b.L0 b.N0 b.B0=_;unfold AN Gv;simp only[OV hi,Ht hi,KL (ω:l.length≤100000) hi,h_,d_];exact Ae (Ae e rfl) rfl) (by
  show AN l (l.length:Int) (l.length:Int) b.C0 b.F0 b.H0 b.M0 b.K0 b.L0 b.N0 b.B0=_;simp only[lp,Un.u,AN,Lq,c_];rfl)
 unfold Bi;rw[hn,Q_,← hn];exact Ae q rfl
def Ag1{l:List Loaded}(hl:l.length≤100000)(hn:(l.length:Int)=n)(h:∀x∈l,0≤x.V5∧x.V5≤4):BG l n=I ((C,()),()):=by
 have q:By (((),l,(l.length:Int),(0:Int),()),())=I (.inl ((),())):=HC hl (λi=>(((),l,(l.length:Int),(i:Int),()),())) (λi hi=>by
  have hx:=h _ (BU (Loaded.mk 0) hi);have e:Hn (i:Int) (l.getD i (Loaded.mk 0)).V5=I ((C,()),()):=by unfold Hn;rw[b_ hx.1,b_ hx.2];rfl
  simp only[lp,Un.u,CC,OV hi,Ht hi,KL hl hi,h_,d_];exact Ae e rfl) (by simp only[lp,Un.u,CC,Lq,c_])
 unfold BG;rw[hn,Q_,← hn];exact Ae q rfl
def Amq(h:b.code=0):1≤b.F0∧b.F0≤16:=by
 unfold Bldg.code at h;cases h1:H 2 32 b.C0<;>rw[h1]at h
 ·cases h
 cases h2:H 1 8 (b.B0.length:Int)<;>rw[h2]at h
 ·cases h
 cases h3:H 1 16 b.F0<;>rw[h3]at h
 ·cases h
 exact As.1 h3
def Awq(h:Co fl c=C):0≤c.I1∧c.I1≤1000000:=by
 unfold Co at h;rw[e_,N_]at h
 have:=As.1 (h.1 c.I1 (q_ ..))
 omega
def Aik(h:b.code=0)(hc:c∈b.B0):0≤c.I1∧c.I1≤1000000:=by
 unfold Bldg.code at h;cases h1:H 2 32 b.C0<;>rw[h1]at h
 ·cases h
 cases h2:H 1 8 (b.B0.length:Int)<;>rw[h2]at h
 ·cases h
 cases h3:H 1 16 b.F0<;>rw[h3]at h
 ·cases h
 cases h4:H 1 10000 b.M0<;>rw[h4]at h
 ·cases h
 cases h5:b.B0.all (Co b.C0)<;>rw[h5]at h
 ·cases h
 exact Awq (N_.1 h5 c hc)
def Bfy(h:1≤n∧n≤16):Va n Fy=C:=by
 unfold Va;rw[b_ h.1,b_ h.2,u_,u_];refine UQ 36 0 λk _ hk=>?_;unfold Amp
 have:(Ab5 Fy).getD k 0=0:=by show(List.replicate 36 (0:Int)).getD k 0=0;rw[k_,List.getElem?_replicate];split<;>rfl
 rw[this,b_ (ω:(0:Int)<n)];rfl
def HV(n:Int):0≤IntKind.u32.wrap n∧IntKind.u32.wrap n<4294967296:=by simp only[aB,IntKind.signed,IntKind.bits];simp;exact⟨Int.emod_nonneg _ τ,Int.emod_lt_of_pos _ τ⟩
def Adk(n:Int):0≤IntKind.u8.wrap n∧IntKind.u8.wrap n<256:=by simp only[aB,IntKind.signed,IntKind.bits];simp;exact⟨Int.emod_nonneg _ τ,Int.emod_lt_of_pos _ τ⟩
def Awr(n:Int):O (CP n) λy=>0≤y.1.1∧y.1.1≤32:=by
 unfold CP;refine B (λ_=>A (show(0:Int)≤32∧(32:Int)≤32 by decide)) λ_=>U (Ac ?_ ?_) (A ?_)
 ·rw[a6_ _ τ];exact Int.ediv_nonneg (HV _).1 τ
 ·rw[a6_ _ τ];refine Int.ediv_lt_of_lt_mul τ ?_;exact(HV _).2
 ·have h:∀(l:List Int) (k:Nat),(∀x∈l,0≤x∧x≤32)→0≤L.wrap (l.getD k 0)∧L.wrap (l.getD k 0)≤32:=λl k h=>by
   have:0≤l.getD k 0∧l.getD k 0≤32:=by
    by_cases hk:k<l.length
    ·rw[k_,j_ hk];exact h _ (b2_ hk)
    ·rw[k_,List.getElem?_eq_none ω];decide
   rw[Aa ω ω];exact this
  exact h _ _ τ
instance tz_ti(n:Int):SatT (CP n):=⟨(Awr n).any⟩
def Bak(s:ByteArray)(i:Nat):0≤Bs s i∧Bs s i≤255:=by
 unfold Bs
 have:=(s.data.getD i 0).toNat_lt
 omega
def Avl(n:Int):O (Kb n) λy=>0≤y.1.1∧y.1.1≤300:=by
 unfold Kb;refine E (Q:=λy=>y.1.2.1=0∨y.1.2.1=16) (B (λ_=>A (.inr rfl)) λ_=>A (.inl rfl)) λy1 h1=>E (Q:=λy=>0≤y.1.2.1∧y.1.2.1≤24) (B (λ_=>A ?_) λ_=>A ?_) λy2 h2=>?_
 ·show 0≤L.wrap (y1.1.2.1+8)∧L.wrap (y1.1.2.1+8)≤24;rw[Aa ω ω];omega
 ·show 0≤y1.1.2.1∧y1.1.2.1≤24;omega
 refine U (Ac (Adk _).1 (Adk _).2) (A ?_);have h:∀s i,0≤L.wrap (y2.1.2.1+L.wrap (Bs s i))∧L.wrap (y2.1.2.1+L.wrap (Bs s i))≤300:=λs i=>by
  have:=Bak s i
  rw[Aa (n:=Bs s i) ω ω,Aa ω ω];omega
 exact h _ _
instance len_ti(n:Int):SatT (Kb n):=⟨(Avl n).any⟩
def Aml(a b c d:Int):O (Ct a b c d) λ_=>True:=⟨_,Gb (a,b) (c,d),trivial⟩
def Abc(a b:Int){F D:Int}(hF:0≤F∧F<32)(hD:D=1∨D=2):O (Dy a b F D) λ_=>True:=⟨_,Qg (a,b) hF hD,trivial⟩
def Btc(fl d o f a b c:Int)(h:0≤fl)(hf:0≤f∧f<32):O (JP fl d o f a b c) λy=>y.2.1.2.2.2.2.2.1=o:=by unfold JP;have g:=b_ hf.1;refine U (b_ h) (E (Aml ..) λy1 _=>U g (E (Abc _ _ hf (.inl rfl)) λy2 _=>E (Abc _ _ hf (.inr rfl)) λy3 _=>?_));refine E (Q:=λy=>y.1.1=f∧y.2.2.1.2.2.2.2.2.1=o) (U g (B (λ_=>E (Awr _) λ_ _=>A ⟨rfl,rfl⟩) λ_=>A ⟨rfl,rfl⟩)) λy5 h5=>?_;refine U (b_ (by rw[h5.1];exact hf.1)) (B (λ_=>E (Avl _) λ_ _=>A h5.2) λ_=>A h5.2)
def Bcu(a b c:Bool)(d e o:Int):O (Fq a b c d e o) λy=>y.2.1.2.2.2.2.2.1=o∨y.2.1.2.2.2.2.2.1=0:=by
 unfold Fq;refine E (Q:=λy=>y.2.1.2.2.2.2.2.1=o) ?_ λy1 h1=>?_
 ·refine B (λ_=>?_) λ_=>?_<;>exact B (λ_=>B (λ_=>A rfl) λ_=>A rfl) λ_=>B (λ_=>A rfl) λ_=>A rfl
 refine E (Q:=λy=>y.2.2.1.2.2.2.2.2.1=o) ?_ λy2 h2=>?_
 ·refine B (λ_=>?_) λ_=>?_<;>exact B (λ_=>B (λ_=>A h1) λ_=>A h1) λ_=>B (λ_=>A h1) λ_=>A h1
 exact B (λ_=>A (.inl h2)) λ_=>B (λ_=>A (.inl h2)) λ_=>B (λ_=>A (.inl h2)) λ_=>B (λ_=>A (.inl h2)) λ_=>B (λ_=>A (.inl h2)) λ_=>A (.inr rfl)
def dir2(n:Int):Prop:=0≤n∧n≤2
def dir2.zero:dir2 0:=⟨τ,τ⟩
def dir2.one:dir2 1:=⟨τ,τ⟩
def dir2.two:dir2 2:=⟨τ,τ⟩
def Bfu(a b c:Bool)(d e o:Int):O (FB a b c d e o) λy=>dir2 y.1.1:=by unfold FB;refine E (Q:=λ_=>True) Sat.go λy1 _=>?_;exact B (λ_=>A dir2.one) λ_=>B (λ_=>A dir2.two) λ_=>A dir2.zero
def chP(y:(Unit×Unit)×((Int×Int×Int×Unit)×Unit)):Prop:=dir2 y.2.1.2.1∧dir2 y.2.1.2.2.1
def Aso{f:Int}(c:Bool)(a:Int){s:Int}(o:Bool)(b:Int)(hf:dir2 f)(hs:dir2 s):O (GZ f c a s o b) λy=>dir2 y.1.1:=by unfold GZ;exact B (λ_=>A hf) λ_=>B (λ_=>A hf) λ_=>B (λ_=>A hs) λ_=>B (λ_=>A hs) λ_=>A dir2.zero
def Wt(h:dir2 n):O (Dz n) chP:=A ⟨h,h⟩
def Bcj(a b c:Bool)(d e o:Int):O (Fp a b c d e o) chP:=by unfold Fp;refine E (Bfu ..) λy h=>?_;refine B (λ_=>E (Wt dir2.one) λ_ h=>A h) λ_=>B (λ_=>E (Wt dir2.two) λ_ h=>A h) λ_=>B (λ_=>E (Wt h) λ_ h=>A h) λ_=>?_;exact B (λ_=>A ⟨h,dir2.zero⟩) λ_=>B (λ_=>A ⟨h,dir2.zero⟩) λ_=>A ⟨dir2.zero,dir2.zero⟩
def Aix(a b c:Bool)(d e o:Int):O (DH a b c d e o) chP:=by unfold DH;refine E (Q:=λ_=>True) Sat.go λy1 _=>?_;refine B (λ_=>E (Aso _ _ _ _ dir2.two dir2.one) λ_ h=>E (Wt h) λ_ h=>A h) λ_=>B (λ_=>A ⟨dir2.two,dir2.zero⟩) λ_=>?_;exact B (λ_=>E (Wt dir2.one) λ_ h=>A h) λ_=>B (λ_=>A ⟨dir2.one,dir2.zero⟩) λ_=>A ⟨dir2.zero,dir2.zero⟩
def Bgb(a b c:Bool)(d e o:Int):O (FC a b c d e o) chP:=by unfold FC;refine E (Q:=λ_=>True) Sat.go λy1 _=>?_;refine B (λ_=>E (Aso _ _ _ _ dir2.one dir2.two) λ_ h=>E (Wt h) λ_ h=>A h) λ_=>B (λ_=>A ⟨dir2.one,dir2.zero⟩) λ_=>?_;exact E (Aix ..) λ_ h=>A h
def Amo{w o f:Int}(a b c:Int)(h:0≤fl)(hf:0≤f∧f<32)(hw:dir2 w):O (Gl fl w o f a b c) λy=>chP ((((),()),y.2))∧(y.1.2.1=o∨y.1.2.1=0):=by
 unfold Gl;refine E (Btc _ _ _ _ _ _ _ h hf) λy1 h1=>E (Bcu ..) λy2 h2=>?_;rw[h1]at h2;refine E (Q:=λy=>chP ((((),()),y.2))∧(y.1.2.1=o∨y.1.2.1=0)) ?_ λy6 h6=>A h6;refine U (Ac hw.1 (by have:=hw.2;show w<(3:Int);omega)) ?_;refine B (λ_=>E (Bcj ..) λ_ h=>A ⟨h,h2⟩) λn0=>B (λ_=>E (Bgb ..) λ_ h=>A ⟨h,h2⟩) λn1=>?_;have e:Nat.beq (P w) 2=C:=by
  have a0:¬P w=0:=λq=>by rw[q]at n0;cases n0
  have a1:¬P w=1:=λq=>by rw[q]at n1;cases n1
  have:P w=2:=by have:=hw.1;have:=hw.2;omega
  rw[this];rfl
 exact U e (E (Aix ..) λ_ h=>A ⟨h,h2⟩)
def S2(d o:Int):Prop:=dir2 d∧0≤o∧o≤7
def S2.zero{d:Int}(h:dir2 d):S2 d 0:=⟨h,τ,τ⟩
def Aop(fl w o f:Int):O (Gm fl w o f) λy=>y.1.1=C→2≤fl∧fl≤32∧0≤f∧f<fl∧S2 w o:=by
 unfold Gm;refine E (Q:=λy=>y.1.1=C→2≤fl∧fl≤32∧0≤f∧f<fl∧S2 w o) ?_ λy hy=>A hy;refine B (λa=>B (λb=>B (λc=>B (λd=>?_) λ_=>A λq=>by cases q) λ_=>A λq=>by cases q) λ_=>A λq=>by cases q) λ_=>A λq=>by cases q
 refine S (Ky { Bw with V1:=w,F1:=o }) (A λq=>?_);have q:(H 0 2 w&&H 0 7 o)=C:=q;rw[e_]at q;exact⟨m_ a,m_ b,m_ c,m_ d,As.1 q.1,As.1 q.2⟩
def Bc1(fl w o f a b c:Int):O (Iy fl w o f a b c) chP:=by unfold Iy;refine E (Aop ..) λy h=>B (λ_=>A ⟨dir2.zero,dir2.zero⟩) λq=>?_;obtain⟨h1,h2,h3,h4,h5⟩:=h (by simpa using q);exact E (Amo _ _ _ ω ⟨h3,ω⟩ h5.1) λ_ h=>A h.1
def Bf6:∀(o:Fin 8) (s:Fin 3),0≤L.wrap (stk ((o.val:Nat):Int) (aB L ((1:Int)*((2:Int)^(Min.min (P ((s.val:Nat):Int)) (IntKind.bits L))))) (BitVec.toNat ((aD (IntKind.bits L) ((o.val:Nat):Int))|||(aD (IntKind.bits L) (aB L ((1:Int)*((2:Int)^(Min.min (P ((s.val:Nat):Int)) (IntKind.bits L)))))))))∧L.wrap (stk ((o.val:Nat):Int) (aB L ((1:Int)*((2:Int)^(Min.min (P ((s.val:Nat):Int)) (IntKind.bits L))))) (BitVec.toNat ((aD (IntKind.bits L) ((o.val:Nat):Int))|||(aD (IntKind.bits L) (aB L ((1:Int)*((2:Int)^(Min.min (P ((s.val:Nat):Int)) (IntKind.bits L)))))))))≤7:=by decide
def Bl4(fl w o f a b c:Int):O (JO fl w o f a b c) λy=>S2 y.2.1.1 y.2.1.2.1:=by
 unfold JO;refine E (Aop ..) λy h=>B (λ_=>A (S2.zero dir2.zero)) λq=>?_;obtain⟨h1,h2,h3,h4,h5⟩:=h (by simpa using q);refine E (Amo _ _ _ ω ⟨h3,ω⟩ h5.1) λy2 h=>?_;refine B (λ_=>A (S2.zero h.1.1)) λ_=>U (b_ h.1.2.1) (A ⟨h.1.1,?_⟩);have ho:0≤y2.1.2.1∧y2.1.2.1<8:=by have h5a:=h5.2.1;have h5b:=h5.2.2;rcases h.2 with e | e<;>rw[e]<;>omega
 have hs:dir2 y2.2.1.2.2.1:=h.1.2;have key:=Bf6 ⟨y2.1.2.1.toNat,ω⟩ ⟨y2.2.1.2.2.1.toNat,by have:=hs.1;have:=hs.2;omega⟩;rw[show((y2.1.2.1.toNat:Nat):Int)=y2.1.2.1 from f3_ ho.1,show((y2.2.1.2.2.1.toNat:Nat):Int)=y2.2.1.2.2.1 from f3_ hs.1]at key;exact key
def D5(a b c:Int)(d:Bool)(e:Int):Prop:=(a=0∧b=0∧c=0∧d=J∧e=0)∨(0<a∧a≤3∧0≤b∧b≤1000000∧0≤c∧c≤1000000∧0≤e∧e≤1000000)
def D5.zero:D5 0 0 0 J 0:=.inl ⟨rfl,rfl,rfl,rfl,rfl⟩
def D5.at{a c:Int}(h:0<a∧a≤3)(hc:0≤c)(hc':c≤1000000)(he:0≤e)(he':e≤1000000):D5 a 0 c d e:=.inr ⟨h.1,h.2,c7_ 0,show(0:Int)≤1000000 from by decide,hc,hc',he,he'⟩
def dN(a b c:Int)(d:Bool)(e:Int):R:={ Bw with Y0:=a,N1:=b,H1:=c,K1:=d,E1:=e }
def Aee(x:R):Sb x=C↔D5 x.Y0 x.N1 x.H1 x.K1 x.E1:=by
 unfold Sb D5 SY H;by_cases g:x.Y0=0
 ·rw[g];simp
 ·rw[Ao g];simp;omega
def Wk(a b c:Int)(d:Bool)(e:Int):∃r,Gq a b c d e=I ((r,()),())∧(r=C↔D5 a b c d e):=⟨_,Qk (dN a b c d e),Aee (dN a b c d e)⟩
def up1(n:Int):Int:=bif decide (1000000<L.wrap (n+1))then 1000000 else L.wrap (n+1)
def KK(h:0≤n∧n≤1000000):0≤up1 n∧up1 n≤1000000:=by
 unfold up1;rw[Aa ω ω];by_cases g:1000000<n+1
 ·rw[b_ g,d_];decide
 ·rw[f_ g,c_];omega
def Uf(n:Int):LR n=I ((up1 n,()),()):=rfl
def Vd(a b c:Int)(d:Bool)(e:Int):Ke a b c d e=I (((),()),((a,b,bif c !=0 then up1 c else c,d,e,()),())):=by unfold Ke;cases c !=0<;>rfl
def Aqb{a b c:Int}(h:D5 a b c d e):O (NN a b c d e) λy=>letI f:=y.2.1.2;D5 y.2.1.1 f.1 f.2.1 f.2.2.1 f.2.2.2.1:=by
 obtain⟨r,h1,h2⟩:=Wk a b c d e;have hr:r=C:=h2.2 h;subst hr;unfold NN;refine S h1 (B (λ_=>A h) λ_=>B (λ_=>A h) λg=>?_);have g:¬a=0:=by simpa using g
 rcases h with h | ⟨p1,p2,p3,p4,p5,p6,p7,p8⟩
 ·exact absurd h.1 g
 refine S (Vd ..) (S (Uf _) (A (.inr ⟨p1,p2,(KK ⟨p3,p4⟩).1,(KK ⟨p3,p4⟩).2,?_,?_,p7,p8⟩)))
 ·show 0≤(bif c !=0 then up1 c else c)
  cases c !=0 with
  |true=>exact(KK ⟨p5,p6⟩).1
  |false=>exact p5
 ·show(bif c !=0 then up1 c else c)≤1000000;cases c !=0 with
  |true=>exact(KK ⟨p5,p6⟩).2
  |false=>exact p6
def Abf(c0 c1 c2 c3 c4 c5 c6 c7 c8 a b c:Int)(d:Bool)(e f:Int)(g h:Bool):O (NO c0 c1 c2 c3 c4 c5 c6 c7 c8 a b c d e f g h) λy=>letI f:=y.2.1.2;D5 y.2.1.1 f.1 f.2.1 f.2.2.1 f.2.2.2.1:=by
 unfold NO;refine E (Q:=λy=>letI f:=y.2.2.1;D5 f.1 f.2.1 f.2.2.1 f.2.2.2.1 f.2.2.2.2.1) ?_ λy hy=>?_
 ·obtain⟨r,h1,h2⟩:=Wk a b c d e;refine S h1 (B (λ_=>A D5.zero) λk=>A (h2.1 (by simpa using k)))
 refine B (λ_=>B (λ_=>A (D5.at (a:=1) τ τ τ τ τ)) λ_=>A hy) λk=>?_;have k:¬y.2.2.1.1=0:=by simpa using k
 obtain⟨p1,p2,p3,p4,p5,p6,p7,p8⟩:=hy.resolve_left λq=>k q.1;have hc:0≤(bif y.2.2.1.2.2.1 !=0 then up1 y.2.2.1.2.2.1 else y.2.2.1.2.2.1)∧(bif y.2.2.1.2.2.1 !=0 then up1 y.2.2.1.2.2.1 else y.2.2.1.2.2.1)≤1000000:=by
  cases y.2.2.1.2.2.1 !=0 with
  |true=>exact KK ⟨p5,p6⟩
  |false=>exact⟨p5,p6⟩
 refine S (Vd ..) ?_;refine E (Q:=λz=>0<z.2.2.1.1∧z.2.2.1.1≤3∧0≤z.2.2.1.2.1∧z.2.2.1.2.1≤1000000∧0≤z.2.2.1.2.2.1∧z.2.2.1.2.2.1≤1000000∧0≤z.2.2.1.2.2.2.2.1∧z.2.2.1.2.2.2.2.1≤1000000) (B (λ_=>A ⟨p1,p2,p3,p4,hc.1,hc.2,p7,p8⟩) λ_=>A ⟨p1,p2,p3,p4,hc.1,hc.2,p7,p8⟩) λz hz=>?_;refine B (λ_=>S rfl (A (D5.at (a:=2) τ ?_ ?_ hz.2.2.2.2.2.2.1 hz.2.2.2.2.2.2.2))) λ_=>?_
 ·show 0≤(bif decide (z.2.2.1.2.2.1<1)then 1 else z.2.2.1.2.2.1)
  cases decide (z.2.2.1.2.2.1<1)with
  |true=>exact show(0:Int)≤1 from by decide
  |false=>exact hz.2.2.2.2.1
 ·show(bif decide (z.2.2.1.2.2.1<1)then 1 else z.2.2.1.2.2.1)≤1000000;cases decide (z.2.2.1.2.2.1<1)with
  |true=>exact show(1:Int)≤1000000 from by decide
  |false=>exact hz.2.2.2.2.2.1
 refine E (Q:=λw=>w.2.2.1=z.2.2.1) (B (λ_=>A rfl) λ_=>A rfl) λw hw=>?_;refine B (λ_=>A D5.zero) λ_=>?_;refine E (Q:=λv=>v.2.2.1=z.2.2.1) (B (λ_=>B (λ_=>A hw) λ_=>A hw) λ_=>A hw) λv hv=>?_;have stay:∀n:Int,O (Rl v.2.2.1.1 v.2.2.1.2.1 v.2.2.1.2.2.1 v.2.2.1.2.2.2.1 v.2.2.1.2.2.2.2.1 n) λy=>letI b:=y.2.1.2;D5 y.2.1.1 b.1 b.2.1 b.2.2.1 b.2.2.2.1:=λn=>by rw[hv];exact S (Uf _) (A (.inr ⟨hz.1,hz.2.1,(KK ⟨hz.2.2.1,hz.2.2.2.1⟩).1,(KK ⟨hz.2.2.1,hz.2.2.2.1⟩).2,hz.2.2.2.2.1,hz.2.2.2.2.2.1,hz.2.2.2.2.2.2.1,hz.2.2.2.2.2.2.2⟩))
 refine B (λ_=>E (stay 5) λ_ h=>A h) λ_=>?_;refine B (λ_=>?_) λ_=>?_
 ·rw[hv];exact S rfl (A (D5.at (a:=3) τ hz.2.2.2.2.1 hz.2.2.2.2.2.1 hz.2.2.2.2.2.2.1 hz.2.2.2.2.2.2.2))
 refine B (λ_=>E (stay 3) λ_ h=>A h) λ_=>?_;refine B (λ_=>?_) λ_=>?_
 ·refine E (Q:=λu=>u.2.1=v.2.2.1) (B (λ_=>A rfl) λ_=>A rfl) λu hu=>?_;rw[hu];refine B (λ_=>?_) λ_=>E (stay 0) λ_ h=>A h;rw[hv];exact S rfl (A (D5.at (a:=3) τ hz.2.2.2.2.1 hz.2.2.2.2.2.1 hz.2.2.2.2.2.2.1 hz.2.2.2.2.2.2.2))
 refine B (λ_=>?_) λ_=>E (stay 4) λ_ h=>A h;rw[hv];exact S (Uf _) (S rfl (A (D5.at (a:=1) τ hz.2.2.2.2.1 hz.2.2.2.2.2.1 (KK ⟨hz.2.2.2.2.2.2.1,hz.2.2.2.2.2.2.2⟩).1 (KK ⟨hz.2.2.2.2.2.2.1,hz.2.2.2.2.2.2.2⟩).2)))
def Aqa(c0 c1 c2 c3 c4 c5 c6 c7 c8 a b c:Int)(d:Bool)(e:Int):O (Rk c0 c1 c2 c3 c4 c5 c6 c7 c8 a b c d e) λ_=>True:=by unfold Rk;exact Sat.go
def M3(fl c t f:Int):Prop:=0≤t∧t≤1000000∧((c=0∧f=0)∨(c=1∧0≤f∧f+1<fl)∨(c=2∧0<f∧f<fl))
def M3.zero:M3 fl 0 0 0:=⟨τ,τ,.inl ⟨rfl,rfl⟩⟩
def Ajn(hf:2≤fl)(x:R):Vq fl x=C↔M3 fl x.T0 x.X0 x.S0:=by
 unfold Vq M3 H;by_cases g:x.T0=0
 ·rw[g];simp;omega
 by_cases g1:x.T0=1
 ·rw[g1];simp;omega
 by_cases g2:x.T0=2
 ·rw[g2];simp;omega
 ·rw[Ao g,Ao g1,Ao g2];simp;omega
def mN(c t f:Int):R:={ Bw with T0:=c,X0:=t,S0:=f }
def Acw(h:2≤fl∧fl≤8)(c t f:Int):∃r,Gs fl c t f=I ((r,()),())∧(r=C↔M3 fl c t f):=⟨_,NM h (mN c t f),Ajn h.1 (mN c t f)⟩
def Vr{f c:Int}(hf:0≤f∧f<fl)(h:fl≤8):O (FF fl f c) λy=>y.1.2.1=C→(c=1∧0≤f∧f+1<fl)∨(c=2∧0<f∧f<fl):=by
 unfold FF;by_cases c1:c=1
 ·subst c1;refine aC (Sat.bifF rfl (U rfl (Sat.bindC (λ_=>aC (A λg=>.inl ⟨rfl,hf.1,?_⟩)) λ_=>aC (A λg=>by cases g))));have g:=m_ g;have e:L.wrap (f+List.getD [(0:Int),1,-1] (P 1) 0)=f+1:=Aa (ω:(-9223372036854775808:Int)≤f+1) (ω:f+1<9223372036854775808);exact e▸g
 ·rw[GT c1];by_cases c2:c=2
  ·subst c2;have e:L.wrap (f+List.getD [(0:Int),1,-1] (P 2) 0)=f+ -1:=Aa (ω:(-9223372036854775808:Int)≤f+ -1) (ω:f+ -1<9223372036854775808);refine aC (Sat.bifF rfl (U rfl (Sat.bindC (λg0=>aC (A λg=>.inr ⟨rfl,?_,hf.2⟩)) λ_=>aC (A λg=>by cases g))));have g0:0≤f+ -1:=e▸m_ g0;omega
  ·rw[GT c2];exact aC (U rfl (A λg=>by cases g))
def Akv{c t f:Int}(h:M3 fl c t f):O (LB c t f) λy=>M3 fl y.2.1.1 y.2.1.2.1 y.2.1.2.2.1:=by
 unfold LB;refine E (Q:=λy=>y.2.1=(c,t,f,())∧(y.1.2.2.1=C→t<1000000)) ?_ λy hy=>?_
 ·refine B (λ_=>B (λ_=>A ⟨rfl,λg=>m_ g⟩) λ_=>A ⟨rfl,λg=>by cases g⟩) λ_=>?_;exact B (λ_=>B (λ_=>A ⟨rfl,λg=>m_ g⟩) λ_=>A ⟨rfl,λg=>by cases g⟩) λ_=>A ⟨rfl,λg=>by cases g⟩
 refine B (λg=>A ?_) λ_=>A ?_
 ·rw[hy.1];have ht:=hy.2 g
  have:=h.1
  show M3 fl c (aB L (t+1)) f;rw[Aa ω ω];exact⟨ω,ω,h.2.2⟩
 ·rw[hy.1];exact h
def MZ(y:Int×Int×Int×Unit):Prop:=y=(0,0,0,())
def Akx(h:2≤fl∧fl≤8)(c t f g:Int)(l:Bool)(d:Int)(k:Bool)(w:Int):O (Of fl c t f g l d k w) λy=>M3 fl y.2.1.1 y.2.1.2.1 y.2.1.2.2.1∧(y.1.2.2.1=C→MZ y.2.1)∧(c=0→w=0→l=C→MZ y.2.1):=by
 unfold Of;obtain⟨r,h1,h2⟩:=Acw h c t f;have hz:M3 fl 0 0 0:=M3.zero;refine S h1 (B (λ_=>A ⟨hz,λ_=>rfl,λ_ _ _=>rfl⟩) λhr=>B (λ_=>A ⟨hz,λ_=>rfl,λ_ _ _=>rfl⟩) λa1=>B (λ_=>A ⟨hz,λ_=>rfl,λ_ _ _=>rfl⟩) λa2=>?_);have hm:M3 fl c t f:=h2.1 (by simpa using hr);have hg:0≤g∧g<fl:=⟨by have:=D_ a1;omega,by have:=D_ a2;omega⟩
 have hf:0≤f∧f<fl:=by rcases hm.2.2 with q | q | q<;>omega
 refine E (Vr hf h.2) λy2 b2=>?_;have nb:c=0→y2.1.2.1=J:=λc0=>by
  cases q:y2.1.2.1 with
  |false=>rfl
  |true=>rcases b2 q with e | e<;>omega
 refine E (Q:=λy=>(y.1.1=fl∧y.1.2.1=w∧y.2.1=(c,t,f,())∧y.2.2.1.1=g)∧y.1.2.2.2.2.2.1=y2.1.2.1∧y.2.2.1.2.1=l) ?_ λy3 h3=>?_
 ·exact B (λ_=>B (λ_=>A ⟨⟨rfl,rfl,rfl,rfl⟩,rfl,rfl⟩) λ_=>A ⟨⟨rfl,rfl,rfl,rfl⟩,rfl,rfl⟩) λ_=>A ⟨⟨rfl,rfl,rfl,rfl⟩,rfl,rfl⟩
 refine B (λ_=>A ⟨hz,λ_=>rfl,λ_ _ _=>rfl⟩) λ_=>?_;refine E (Q:=λy=>(y.1.1=fl∧y.1.2.1=w∧y.2.1=(c,t,f,())∧y.2.2.1.1=g)∧(c=0→l=C→y.1.2.2.2.2.2.1=J)) ?_ λy4 h4=>?_
 ·refine B (λq=>A ⟨h3.1,λc0 _=>?_⟩) λ_=>A ⟨h3.1,λ_ l1=>?_⟩
  ·rw[h3.2.1,nb c0]at q;cases q
  ·show(!y3.2.2.1.2.1)=J;rw[h3.2.2,l1];rfl
 obtain⟨⟨e1,e2,e3,e4⟩,e5⟩:=h4;refine B (λq=>A ⟨?_,λg=>(by cases g),λc0 _ l1=>?_⟩) λ_=>?_
 ·rw[e3];exact⟨(KK ⟨hm.1,hm.2.1⟩).1,(KK ⟨hm.1,hm.2.1⟩).2,hm.2.2⟩
 ·rw[e5 c0 l1]at q;cases q
 rw[e1,e2,e4];refine E (Vr hg h.2) λy5 h5=>B (λq=>A ⟨?_,λg=>(by cases g),λ_ w0 _=>?_⟩) λ_=>A ⟨hz,λ_=>rfl,λ_ _ _=>rfl⟩
 ·exact⟨show(0:Int)≤0 from by decide,show(0:Int)≤1000000 from by decide,.inr (h5 q)⟩
 ·rcases h5 q with e | e<;>omega
def Aku(c0 c1 c2 c3 c4 c5 c6 c7 c8 a b c:Int):O (Sn c0 c1 c2 c3 c4 c5 c6 c7 c8 a b c) λ_=>True:=A trivial
def Aqk(hcode:b.code=0)(hv:AK b.C0 b.F0 b.H0 b.M0 b.K0 b.L0 b.N0 b.B0=I ((b.code,()),()))(car idle floor:Int):O (Rn b.C0 b.F0 b.H0 b.M0 b.K0 b.L0 b.N0 b.B0 car idle floor) λy=>y.1.1=0∨y.1.1=1∨y.1.1=2:=by unfold Rn;refine S hv (B (λ_=>A (.inl rfl)) λ_=>B (λ_=>A (.inl rfl)) λh1=>B (λ_=>A (.inl rfl)) λh2=>?_);have h1:=D_ h1;have h2:=D_ h2;refine B (λ_=>A (.inl rfl)) λ_=>B (λ_=>A (.inl rfl)) λ_=>B (λ_=>A (.inl rfl)) λ_=>?_;refine U (Ac ω ω) (B (λ_=>A (.inr (.inl rfl))) λ_=>B (λ_=>A (.inr (.inr rfl))) λ_=>A (.inl rfl))
end Go.Ovl
