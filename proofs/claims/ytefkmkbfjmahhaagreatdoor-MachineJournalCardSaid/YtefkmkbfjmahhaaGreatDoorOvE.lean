import Derived.Test.YtefkmkbfjmahhaaGreatDoorOvD
import Derived.Test.YtefkmkbfjmahhaaGreatDoorOvA
import Derived.Test.YtefkmkbfjmahhaaGreatDoorOvC
set_option linter.all false
open Go.Ovl.Sat renaming ret->A,bic->B,bindS->E,bindE->S,bifT->U,bindR->aC
open Bool renaming true->C,false->J
open Go.Ovl renaming inR->H,Sat->O,NewCar->R
open Option renaming some->I
open Go.IntKind renaming i64->L,wrap->aB
open Int renaming toNat->P
open Go.Ovl.Duty renaming mk->aA
open BitVec renaming ofInt->aD
namespace Go.Ovl
open Go Go.Ab
set_option maxRecDepth 100000
variable{b:Bldg}{fl n e:Int}{d:Bool}{c:Car}
def UG{p:Nat→Bool}:∀m i:Nat,(∀k,i≤k→k<i+m→p k=C)→PO p m i=C
 |0,_,_=>rfl
 |m+1,i,h=>by simp only[PO];rw[h i (A_ _) ω,q_];exact UG m (i+1) λk h1 h2=>h k ω ω
def TF{p:Nat→Bool}:∀m i:Nat,PO p m i=C→∀k,i≤k→k<i+m→p k=C
 |0,_,_,k,h1,h2=>by omega
 |m+1,i,h,k,h1,h2=>by
  simp only[PO,e_]at h;rcases g1_ i k with g | g
  ·exact TF m (i+1) h.2 k ω ω
  ·obtain rfl:k=i:=ω;exact h.1
def So{xs:List Int}(hl:xs.length≤100000)(h:∀x∈xs,0≤x∧x≤1000000):HJ xs=I ((C,()),()):=by
 have l:BE ((xs,(),(xs.length:Int),(0:Int),()),())=I (.inl ((),())):=Fs hl (λi=>((xs,(),(xs.length:Int),(i:Int),()),())) (λi hi=>by
  have hx:=h _ (CD 0 hi);have e:IG (xs.getD i 0)=I ((J,()),()):=by unfold IG;rw[f_ ω,f_ ω];rfl
  simp only[lp,Un.u,CJ,Mr hi,FM hi,HP hl hi,i_,e,d_,b_,a_]) (by simp only[lp,Un.u,CJ,IW,b_])
 unfold HJ CE CO;rw[l];rfl
def Abo(x:Debounced):List Int:=[x.B5,x.C5,x.E5,x.F5,x.G5,x.H5,x.I5,x.K5,x.L5,x.M5,x.Z3,x.A4,x.B4,x.C4,x.D4,x.E4,x.F4,x.G4,x.H4,x.I4,x.J4,x.K4,x.L4,x.M4,x.N4,x.O4,x.P4,x.Q4,x.R4,x.S4,x.T4,x.U4,x.V4,x.W4,x.X4,x.Y4]
def Al3(n:Int)(x:Debounced)(i:Nat):Bool:=decide (0≤(Abo x).getD i 0)&&decide ((Abo x).getD i 0<n)
def UM(n:Int)(x:Debounced):Bool:=decide (1≤n)&&(decide (n≤16)&&PO (Al3 n x) 36 0)
def Yn{x:Debounced}(h:UM n x=C):Ey n x.V0 x.Y1 x.K1 x.L1 x.E1 x.B5 x.C5 x.E5 x.F5 x.G5 x.H5 x.I5 x.K5 x.L5 x.M5 x.Z3 x.A4 x.B4 x.C4 x.D4 x.E4 x.F4 x.G4 x.H4 x.I4 x.J4 x.K4 x.L4 x.M4 x.N4 x.O4 x.P4 x.Q4 x.R4 x.S4 x.T4 x.U4 x.V4 x.W4 x.X4 x.Y4=I ((C,()),()):=by unfold UM at h;simp only[e_,v_]at h;obtain⟨h1,h2,h3⟩:=h;have l:EH ((n,(x.B5,x.C5,x.E5,x.F5,x.G5,x.H5,x.I5,x.K5,x.L5,x.M5,x.Z3,x.A4,x.B4,x.C4,x.D4,x.E4,x.F4,x.G4,x.H4,x.I4,x.J4,x.K4,x.L4,x.M4,x.N4,x.O4,x.P4,x.Q4,x.R4,x.S4,x.T4,x.U4,x.V4,x.W4,x.X4,x.Y4,()),(0:Int),()),())=I (.inl ((),())):=Fs (N:=36) τ (λi=>((n,(x.B5,x.C5,x.E5,x.F5,x.G5,x.H5,x.I5,x.K5,x.L5,x.M5,x.Z3,x.A4,x.B4,x.C4,x.D4,x.E4,x.F4,x.G4,x.H4,x.I4,x.J4,x.K4,x.L4,x.M4,x.N4,x.O4,x.P4,x.Q4,x.R4,x.S4,x.T4,x.U4,x.V4,x.W4,x.X4,x.Y4,()),(i:Int),()),())) (λi hi=>by have hx:=TF 36 0 h3 i (a6_ _) ω;unfold Al3 at hx;simp only[e_,v_]at hx;show Dd n x.B5 x.C5 x.E5 x.F5 x.G5 x.H5 x.I5 x.K5 x.L5 x.M5 x.Z3 x.A4 x.B4 x.C4 x.D4 x.E4 x.F4 x.G4 x.H4 x.I4 x.J4 x.K4 x.L4 x.M4 x.N4 x.O4 x.P4 x.Q4 x.R4 x.S4 x.T4 x.U4 x.V4 x.W4 x.X4 x.Y4 (i:Int)=_;unfold Dd;simp only[c_ (ω:(i:Int)<36),FM hi,HP (show 36≤100000 by decide) hi,i_,d_];show(bif decide ((Abo x).getD i 0<0)then _ else bif decide (n≤(Abo x).getD i 0)then _ else _)=_;rw[f_ ω,f_ ω];rfl) (by rfl);unfold Ey;rw[f_ ω,f_ ω,l];rfl
def UW(a b:Duty):Bool:=decide (a.E0<b.E0)||(a.E0==b.E0&&decide (a.J0<b.J0))
def Aag{a b:Duty}(h:UW a b=C):∃n:Int,CX a.E0 a.J0 a.Z4 b.E0 b.J0 b.Z4=I ((n,()),())∧decide (0≤n)=J:=by
 unfold CX;rw[HB,HB];simp only[a_];rw[Yl];refine⟨_,rfl,?_⟩;unfold UW at h;simp only[a2_,e_,v_,U_]at h;unfold WG;rcases h with h | ⟨h,h'⟩
 ·rw[c_ h];rfl
 ·rw[h,f_ (J_ _),c_ h'];rfl
def TJ(n lo hi:Int):DR n lo hi=I ((H lo hi n,()),()):=by unfold DR H;cases decide (lo≤n)<;>rfl
def Atn(x:Belief)(i:Nat):Bool:=i==0||UW (x.W0.getD (i-1) Hh) (x.W0.getD i Hh)
def Amh(b:Bldg)(car:Nat)(x:Belief)(i:Nat):Bool:=Ao b (x.W0.getD i Hh).E0 (x.W0.getD i Hh).J0&&(H 0 (Kb b car).G1 (x.W0.getD i Hh).Z4&&Atn x i)
def Ac9(b:Bldg)(car:Nat)(x:Belief):Bool:=H (-1) (b.D0-1) x.E0&&(H 0 3 x.J0&&(H 0 3 x.D3&&(H 0 1000000 x.T2&&(!(x.H3&&decide ((0:Int)<(x.W0.length:Int)))&&PO (Amh b car x) x.W0.length 0))))
def Sm(hb:b.small)(hcode:b.code=0){car:Nat}(hcar:car<b.B0.length){x:Belief}(hx:x.W0.length≤100000)(h:Ac9 b car x=C):CI b.D0 b.G0 b.I0 b.M0 b.L0 b.N0 b.O0 b.B0 (car:Int) x.E0 x.J0 x.D3 x.W0 x.T2 x.H3=I ((C,()),()):=by
 have lo:=hb.lo;have hi8:=hb.hi;have hcc:=An hcode;unfold Ac9 at h;simp only[e_]at h;obtain⟨h1,h2,h3,h4,h5,h6⟩:=h;have l:II (((car:Int),(),(),x.W0,(x.W0.length:Int),(0:Int),()),(b.tup,x.tup,()))=I (.inl ((),())):=Fs hx (λi=>(((car:Int),(),(),x.W0,(x.W0.length:Int),(i:Int),()),(b.tup,x.tup,()))) (λi hi=>by
  have hp:=TF _ 0 h6 i (a6_ _) ω;unfold Amh Atn at hp;simp only[e_]at hp;obtain⟨p1,p2,p3⟩:=hp;show GF (car:Int) x.W0 (x.W0.length:Int) (i:Int) b.D0 b.G0 b.I0 b.M0 b.L0 b.N0 b.O0 b.B0 x.E0 x.J0 x.D3 x.W0 x.T2 x.H3=_;unfold GF;have p2:H 0 (b.B0.getD car (Car.mk 0 0 0 0 0 0 0 0 0)).G1 (x.W0.getD i (aA 0 0 0)).Z4=C:=p2;have p1:Ao b (x.W0.getD i (aA 0 0 0)).E0 (x.W0.getD i (aA 0 0 0)).J0=C:=p1;simp only[Mr hi,FM hi,FM hcar,HP hx hi,d_,i_,Mm hb,TJ,a_,p1,p2,m_,b_];cases i with
  |zero=>rfl
  |succ j=>rw[c_ (ω:(0:Int)<((j+1:Nat):Int)),Aa (n:=((j+1:Nat):Int)-1) ω ω,show((j+1:Nat):Int)-1=(j:Int)by omega,FM (ω:j<x.W0.length)];obtain⟨n,e1,e2⟩:=Aag p3;simp only[d_,i_];rw[show CX (x.W0.getD j (aA 0 0 0)).E0 (x.W0.getD j (aA 0 0 0)).J0 (x.W0.getD j (aA 0 0 0)).Z4 (x.W0.getD (j+1) (aA 0 0 0)).E0 (x.W0.getD (j+1) (aA 0 0 0)).J0 (x.W0.getD (j+1) (aA 0 0 0)).Z4=_ from e1];simp only[a_,e2,HP hx hi];rfl) (by
  show GF (car:Int) x.W0 (x.W0.length:Int) (x.W0.length:Int) b.D0 b.G0 b.I0 b.M0 b.L0 b.N0 b.O0 b.B0 x.E0 x.J0 x.D3 x.W0 x.T2 x.H3=_;simp only[lp,Un.u,GF,IW,b_])
 have r:(bif x.H3 then decide ((0:Int)<(x.W0.length:Int))else J)=J:=by
  cases hL:x.H3 with
  |false=>rfl
  |true=>rw[hL]at h5;simpa using h5
 unfold CI;rw[Bk,hcode];simp only[TJ,a_,Q_,b_,Aa (n:=(b.B0.length:Int)-1) ω ω,Aa (n:=b.D0-1) ω ω,show H 0 ((b.B0.length:Int)-1) (car:Int)=C from Ar.2 ⟨ω,ω⟩,h1,h2,h3,h4,m_];cases hL:x.H3 with
 |false=>rw[Belief.tup,hL]at l;exact Ae rfl (Ae l rfl)
 |true=>rw[hL]at r;rw[Belief.tup,hL]at l;have r:decide ((0:Int)<(x.W0.length:Int))=J:=r;rw[d_,r];exact Ae rfl (Ae l rfl)
def QP(x:R):Bool:=H 0 2 x.S1&&H 0 7 x.C1
def SO(x:R):Bool:=(x.Z0==0)&&((x.I1==0)&&((x.F1==0)&&((x.H1==J)&&((x.D1==0)&&C))))
def RP(x:R):Bool:=bif x.Z0==0 then SO x else H 0 3 x.Z0&&(H 0 1000000 x.I1&&(H 0 1000000 x.F1&&H 0 1000000 x.D1))
def Ano(x:R):Bool:=(x.T0==0)&&((x.Y0==0)&&((x.S0==0)&&C))
def UZ(fl:Int)(x:R):Bool:=H 0 1000000 x.Y0&&(bif x.T0==0 then x.S0==0 else bif x.T0==1 then H 0 (fl-1) x.S0&&H 0 (fl-1) (x.S0+1)else bif x.T0==2 then H 0 (fl-1) x.S0&&H 0 (fl-1) (x.S0-1)else J)
def Agb(x:R):Bool:=(x.S1==0)&&((x.C1==0)&&((x.Z0==0)&&((x.I1==0)&&((x.F1==0)&&((x.H1==J)&&((x.D1==0)&&((x.T0==0)&&((x.Y0==0)&&((x.S0==0)&&((x.V1==0)&&((x.Y2==0)&&((x.J3==0)&&((x.Z2==C)&&C)))))))))))))
def Ae3(fl:Int)(x:R):Bool:=(Int.fdiv x.V1 ((2:Int)^(P fl))==0)&&(H 0 2 x.Y2&&H 0 1000000 x.J3)
def Wn(fl:Int)(x:R):Bool:=QP x&&(RP x&&(UZ fl x&&((SO x||Ano x)&&Ae3 fl x)))
def Hn(b:Bldg)(x:R):Bool:=bif x.Z2 then Agb x else Wn b.D0 x
def Kc(x:R):Ff x.S1 x.C1=I ((QP x,()),()):=by unfold Ff QP H;cases decide (0≤x.S1)<;>cases decide (x.S1≤2)<;>cases decide (0≤x.C1)<;>rfl
def Adq(n:Int):Hv n=I ((H 0 1000000 n,()),()):=by unfold Hv H;cases decide (0≤n)<;>rfl
def PY(x:R):FV x.Z0 x.I1 x.F1 x.H1 x.D1=I ((RP x,()),()):=by
 unfold FV RP SO;simp only[Adq,a_];cases x.Z0==0 with
 |true=>rfl
 |false=>unfold H;cases decide (0≤x.Z0)<;>cases decide (x.Z0≤3)<;>cases(decide (0≤x.I1)&&decide (x.I1≤1000000))<;>cases(decide (0≤x.F1)&&decide (x.F1≤1000000))<;>rfl
def Nm(h:2≤fl∧fl≤8)(x:R):FX fl x.T0 x.Y0 x.S0=I ((UZ fl x,()),()):=by
 unfold FX UZ;rw[f_ (ω:¬fl<2),f_ (ω:¬32<fl)];simp only[b_];by_cases t:0≤x.Y0∧x.Y0≤1000000
 ·rw[f_ (ω:¬x.Y0<0),f_ (ω:¬1000000<x.Y0),show H 0 1000000 x.Y0=C from Ar.2 t];simp only[b_,q_];by_cases f:0≤x.S0∧x.S0<fl
  ·rw[f_ (ω:¬x.S0<0),f_ (ω:¬fl≤x.S0),show H 0 (fl-1) x.S0=C from Ar.2 ⟨f.1,ω⟩];simp only[b_,q_];by_cases c0:x.T0=0
   ·rw[c0];rfl
   ·rw[Am c0];simp only[b_];unfold Fk;by_cases c1:x.T0=1
    ·rw[c1];simp only[Q_,b_,a_,show inB 1 3=C from rfl,d_,l_];rw[show List.getD [(0:Int),1,-1] (P 1) 0=1 from rfl,Aa ω ω];unfold H;by_cases z:x.S0+1<fl
     ·rw[c_ z,c_ (ω:0≤x.S0+1),c_ (ω:x.S0+1≤fl-1)];rfl
     ·rw[f_ z,c_ (ω:0≤x.S0+1),f_ (ω:¬x.S0+1≤fl-1)];rfl
    ·rw[Gx c1,Am c1];simp only[d_,b_];by_cases c2:x.T0=2
     ·rw[c2];simp only[Q_,b_,a_,show inB 2 3=C from rfl,d_,l_];rw[show List.getD [(0:Int),1,-1] (P 2) 0=-1 from rfl,Aa ω ω,show x.S0+ -1=x.S0-1 by omega];unfold H;by_cases z:0≤x.S0-1
      ·rw[c_ z,c_ (ω:x.S0-1<fl),c_ (ω:x.S0-1≤fl-1)];rfl
      ·rw[f_ z];rfl
     ·rw[Gx c2,Am c2];rfl
  ·have hf:H 0 (fl-1) x.S0=J:=by
    cases hq:H 0 (fl-1) x.S0 with
    |false=>rfl
    |true=>have:=Ar.1 hq;omega
   rw[hf];have hz:(x.S0==0)=J:=Am ω;rw[hz];simp only[a7_];have e:(bif x.T0==0 then J else bif x.T0==1 then J else bif x.T0==2 then J else J)=J:=by cases x.T0==0<;>cases x.T0==1<;>cases x.T0==2<;>rfl
   rw[e];by_cases z:x.S0<0
   ·rw[c_ z];rfl
   ·rw[f_ z,c_ (ω:fl≤x.S0)];rfl
 ·have hf:H 0 1000000 x.Y0=J:=by
   cases hq:H 0 1000000 x.Y0 with
   |false=>rfl
   |true=>exact absurd (Ar.1 hq) t
  rw[hf];simp only[a7_];by_cases z:x.Y0<0
  ·rw[c_ z];rfl
  ·rw[f_ z,c_ (ω:1000000<x.Y0)];rfl
def Jw(hb:b.small)(hcode:b.code=0)(x:R):Eh b.D0 b.G0 b.I0 b.M0 b.L0 b.N0 b.O0 b.B0 x.S1 x.C1 x.Z0 x.I1 x.F1 x.H1 x.D1 x.T0 x.Y0 x.S0 x.V1 x.Y2 x.J3 x.Z2=I ((Hn b x,()),()):=by
 have lo:=hb.lo;have hi8:=hb.hi;have hmin:Min.min (P b.D0) (IntKind.bits IntKind.u32)=P b.D0:=d0_ (by show _≤32;omega);unfold Eh Hn;rw[Bk,hcode];simp only[a_,Q_,b_];have main:Wn b.D0 x=Wn b.D0 x:=rfl;cases hF:x.Z2 with
 |true=>
  have hZ:Agb x=((x.S1==0)&&((x.C1==0)&&((x.Z0==0)&&((x.I1==0)&&((x.F1==0)&&((x.H1==J)&&((x.D1==0)&&((x.T0==0)&&((x.Y0==0)&&((x.S0==0)&&((x.V1==0)&&((x.Y2==0)&&((x.J3==0)&&((C==C)&&C)))))))))))))):=by unfold Agb;rw[hF]
  rw[d_,← hZ];cases hq:Agb x with
  |false=>rfl
  |true=>
   have hq':=hq;unfold Agb at hq';simp only[e_,U_]at hq';obtain⟨e1,e2,e3,e4,e5,e6,e7,e8,e9,e10,e11,e12,e13,_⟩:=hq';simp only[m_,a_,b_,d_,Kc,PY,Nm ⟨lo,hi8⟩];have s1:QP x=C:=by unfold QP;rw[e1,e2];rfl
   have s2:RP x=C:=by unfold RP SO;rw[e3,e4,e5,e6,e7];rfl
   have s3:UZ b.D0 x=C:=by unfold UZ;rw[e8,e9,e10];rfl
   rw[s1,s2,s3,e3,e4,e5,e6,e7,e11,e12,e13];simp only[l_,d5_,m_,b_,a_];rw[c_ (ω:0≤b.D0),hmin];simp only[d_];rw[show Int.fdiv 0 ((2:Int)^P b.D0)=0 from Int.zero_fdiv _];rfl
 |false=>
  simp only[a_,b_,Kc,PY,Nm ⟨lo,hi8⟩];unfold Wn;cases QP x with
  |false=>rfl
  |true=>
  cases RP x with
  |false=>rfl
  |true=>
  cases UZ b.D0 x with
  |false=>rfl
  |true=>
   simp only[m_,b_,q_];rw[show((x.Z0==0)&&((x.I1==0)&&((x.F1==0)&&((x.H1==J)&&((x.D1==0)&&C)))))=SO x from rfl,show((x.T0==0)&&((x.Y0==0)&&((x.S0==0)&&C)))=Ano x from rfl];have fin:(bif decide (0≤b.D0)then bif(Int.fdiv x.V1 ((2:Int)^(P b.D0))==0)then bif decide (0≤x.Y2)then bif decide (x.Y2≤2)then bif decide (0≤x.J3)then I ((decide (x.J3≤1000000),()),())else I ((J,()),())else I ((J,()),())else I ((J,()),())else I ((J,()),())else none)=I ((Ae3 b.D0 x,()),()):=by rw[c_ (ω:0≤b.D0)];unfold Ae3 H;cases Int.fdiv x.V1 ((2:Int)^(P b.D0))==0<;>cases decide (0≤x.Y2)<;>cases decide (x.Y2≤2)<;>cases decide (0≤x.J3)<;>rfl
   cases SO x with
   |true=>simp only[m_,b_,a_,Bool.true_or,q_];rw[hmin,fin];rfl
   |false=>
    cases Ano x with
    |true=>simp only[m_,c1_,d_,b_,a_,Bool.false_or,q_];rw[hmin,fin];rfl
    |false=>rfl
def Aai(hb:b.small)(hcode:b.code=0){l:List Debounced}(hn:l.length=b.B0.length)(h:∀x∈l,UM b.G0 x=C):Bd l (b.B0.length:Int) b.D0 b.G0 b.I0 b.M0 b.L0 b.N0 b.O0 b.B0=I ((C,()),(b.tup,())):=by
 have hcc:=An hcode;have q:Bb (((),l,(l.length:Int),(0:Int),()),(b.tup,()))=I (.inl ((),(b.tup,()))):=Fs (N:=l.length) ω (λi=>(((),l,(l.length:Int),(i:Int),()),(b.tup,()))) (λi hi=>by
  have e:=Yn (h _ (CD Ht hi));show AJ l (l.length:Int) (i:Int) b.D0 b.G0 b.I0 b.M0 b.L0 b.N0 b.O0 b.B0=_;unfold AJ FZ;simp only[Mr hi,FM hi,HP (ω:l.length≤100000) hi,i_,d_];exact Ae (Ae e rfl) rfl) (by
  show AJ l (l.length:Int) (l.length:Int) b.D0 b.G0 b.I0 b.M0 b.L0 b.N0 b.O0 b.B0=_;simp only[lp,Un.u,AJ,IW,b_];rfl)
 unfold Bd;rw[hn,Q_,← hn];exact Ae q rfl
def Agl(hb:b.small)(hcode:b.code=0){l:List Belief}(hn:l.length=b.B0.length)(h:∀i,i<l.length→Ac9 b i (l.getD i (Belief.mk 0 0 0 [] 0 J))=C)(hd:∀x∈l,x.W0.length≤100000):Bl l (b.B0.length:Int) b.D0 b.G0 b.I0 b.M0 b.L0 b.N0 b.O0 b.B0=I ((C,()),(b.tup,())):=by
 have hcc:=An hcode;have q:Bi (((),l,(l.length:Int),(0:Int),()),(b.tup,()))=I (.inl ((),(b.tup,()))):=Fs (N:=l.length) ω (λi=>(((),l,(l.length:Int),(i:Int),()),(b.tup,()))) (λi hi=>by
  have e:=Sm hb hcode (ω:i<b.B0.length) (hd _ (CD (Belief.mk 0 0 0 [] 0 J) hi)) (h i hi);show AL l (l.length:Int) (i:Int) b.D0 b.G0 b.I0 b.M0 b.L0 b.N0 b.O0 b.B0=_;unfold AL Ga;simp only[Mr hi,FM hi,HP (ω:l.length≤100000) hi,i_,d_];exact Ae (Ae e rfl) rfl) (by
  show AL l (l.length:Int) (l.length:Int) b.D0 b.G0 b.I0 b.M0 b.L0 b.N0 b.O0 b.B0=_;simp only[lp,Un.u,AL,IW,b_];rfl)
 unfold Bl;rw[hn,Q_,← hn];exact Ae q rfl
def Agn(hb:b.small)(hcode:b.code=0){l:List R}(hn:l.length=b.B0.length)(h:∀x∈l,Hn b x=C):Bm l (b.B0.length:Int) b.D0 b.G0 b.I0 b.M0 b.L0 b.N0 b.O0 b.B0=I ((C,()),(b.tup,())):=by
 have hcc:=An hcode;have q:Bj (((),l,(l.length:Int),(0:Int),()),(b.tup,()))=I (.inl ((),(b.tup,()))):=Fs (N:=l.length) ω (λi=>(((),l,(l.length:Int),(i:Int),()),(b.tup,()))) (λi hi=>by
  have e:=Jw hb hcode (l.getD i BG);rw[h _ (CD BG hi)]at e;show AM l (l.length:Int) (i:Int) b.D0 b.G0 b.I0 b.M0 b.L0 b.N0 b.O0 b.B0=_;unfold AM Gb;simp only[Mr hi,FM hi,HP (ω:l.length≤100000) hi,i_,d_];exact Ae (Ae e rfl) rfl) (by
  show AM l (l.length:Int) (l.length:Int) b.D0 b.G0 b.I0 b.M0 b.L0 b.N0 b.O0 b.B0=_;simp only[lp,Un.u,AM,IW,b_];rfl)
 unfold Bm;rw[hn,Q_,← hn];exact Ae q rfl
def Agm{l:List Loaded}(hl:l.length≤100000)(hn:(l.length:Int)=n)(h:∀x∈l,0≤x.O5∧x.O5≤4):BV l n=I ((C,()),()):=by
 have q:BK (((),l,(l.length:Int),(0:Int),()),())=I (.inl ((),())):=Fs hl (λi=>(((),l,(l.length:Int),(i:Int),()),())) (λi hi=>by
  have hx:=h _ (CD (Loaded.mk 0) hi);have e:GN (i:Int) (l.getD i (Loaded.mk 0)).O5=I ((C,()),()):=by unfold GN;rw[c_ hx.1,c_ hx.2];rfl
  simp only[lp,Un.u,CM,Mr hi,FM hi,HP hl hi,i_,d_];exact Ae e rfl) (by simp only[lp,Un.u,CM,IW,b_])
 unfold BV;rw[hn,Q_,← hn];exact Ae q rfl
def Al4(h:b.code=0):1≤b.G0∧b.G0≤16:=by
 unfold Bldg.code at h;cases h1:H 2 32 b.D0<;>rw[h1]at h
 ·cases h
 cases h2:H 1 8 (b.B0.length:Int)<;>rw[h2]at h
 ·cases h
 cases h3:H 1 16 b.G0<;>rw[h3]at h
 ·cases h
 exact Ar.1 h3
def Avo(h:CG fl c=C):0≤c.G1∧c.G1≤1000000:=by
 unfold CG at h;rw[e_,M_]at h
 have:=Ar.1 (h.1 c.G1 (s_ ..))
 omega
def Ah7(h:b.code=0)(hc:c∈b.B0):0≤c.G1∧c.G1≤1000000:=by
 unfold Bldg.code at h;cases h1:H 2 32 b.D0<;>rw[h1]at h
 ·cases h
 cases h2:H 1 8 (b.B0.length:Int)<;>rw[h2]at h
 ·cases h
 cases h3:H 1 16 b.G0<;>rw[h3]at h
 ·cases h
 cases h4:H 1 10000 b.M0<;>rw[h4]at h
 ·cases h
 cases h5:b.B0.all (CG b.D0)<;>rw[h5]at h
 ·cases h
 exact Avo (M_.1 h5 c hc)
def Bek(h:1≤n∧n≤16):UM n Ht=C:=by
 unfold UM;rw[c_ h.1,c_ h.2,q_,q_];refine UG 36 0 λk _ hk=>?_;unfold Al3
 have:(Abo Ht).getD k 0=0:=by show(List.replicate 36 (0:Int)).getD k 0=0;rw[k_,List.getElem?_replicate];split<;>rfl
 rw[this,c_ (ω:(0:Int)<n)];rfl
def Hu(n:Int):0≤IntKind.u32.wrap n∧IntKind.u32.wrap n<4294967296:=by simp only[aB,IntKind.signed,IntKind.bits];simp;exact⟨Int.emod_nonneg _ τ,Int.emod_lt_of_pos _ τ⟩
def Acv(n:Int):0≤IntKind.u8.wrap n∧IntKind.u8.wrap n<256:=by simp only[aB,IntKind.signed,IntKind.bits];simp;exact⟨Int.emod_nonneg _ τ,Int.emod_lt_of_pos _ τ⟩
def Avp(n:Int):O (CY n) λy=>0≤y.1.1∧y.1.1≤32:=by
 unfold CY;refine B (λ_=>A (show(0:Int)≤32∧(32:Int)≤32 by decide)) λ_=>U (Ac ?_ ?_) (A ?_)
 ·rw[a9_ _ τ];exact Int.ediv_nonneg (Hu _).1 τ
 ·rw[a9_ _ τ];refine Int.ediv_lt_of_lt_mul τ ?_;exact(Hu _).2
 ·have h:∀(l:List Int) (k:Nat),(∀x∈l,0≤x∧x≤32)→0≤L.wrap (l.getD k 0)∧L.wrap (l.getD k 0)≤32:=λl k h=>by
   have:0≤l.getD k 0∧l.getD k 0≤32:=by
    by_cases hk:k<l.length
    ·rw[k_,j_ hk];exact h _ (b3_ hk)
    ·rw[k_,List.getElem?_eq_none ω];decide
   rw[Aa ω ω];exact this
  exact h _ _ τ
instance tz_ti(n:Int):SatT (CY n):=⟨(Avp n).any⟩
def Aza(s:ByteArray)(i:Nat):0≤By s i∧By s i≤255:=by
 unfold By
 have:=(s.data.getD i 0).toNat_lt
 omega
def Aul(n:Int):O (JB n) λy=>0≤y.1.1∧y.1.1≤300:=by
 unfold JB;refine E (Q:=λy=>y.1.2.1=0∨y.1.2.1=16) (B (λ_=>A (.inr rfl)) λ_=>A (.inl rfl)) λy1 h1=>E (Q:=λy=>0≤y.1.2.1∧y.1.2.1≤24) (B (λ_=>A ?_) λ_=>A ?_) λy2 h2=>?_
 ·show 0≤L.wrap (y1.1.2.1+8)∧L.wrap (y1.1.2.1+8)≤24;rw[Aa ω ω];omega
 ·show 0≤y1.1.2.1∧y1.1.2.1≤24;omega
 refine U (Ac (Acv _).1 (Acv _).2) (A ?_);have h:∀s i,0≤L.wrap (y2.1.2.1+L.wrap (By s i))∧L.wrap (y2.1.2.1+L.wrap (By s i))≤300:=λs i=>by
  have:=Aza s i
  rw[Aa (n:=By s i) ω ω,Aa ω ω];omega
 exact h _ _
instance len_ti(n:Int):SatT (JB n):=⟨(Aul n).any⟩
def Alz(a b c d:Int):O (Eg a b c d) λ_=>True:=⟨_,Lh (a,b) (c,d),trivial⟩
def Aas(a b:Int){F D:Int}(hF:0≤F∧F<32)(hD:D=1∨D=2):O (DG a b F D) λ_=>True:=⟨_,PU (a,b) hF hD,trivial⟩
def Brl(fl d o f a b c:Int)(h:0≤fl)(hf:0≤f∧f<32):O (Jo fl d o f a b c) λy=>y.2.1.2.2.2.2.2.1=o:=by unfold Jo;have g:=c_ hf.1;refine U (c_ h) (E (Alz ..) λy1 _=>U g (E (Aas _ _ hf (.inl rfl)) λy2 _=>E (Aas _ _ hf (.inr rfl)) λy3 _=>?_));refine E (Q:=λy=>y.1.1=f∧y.2.2.1.2.2.2.2.2.1=o) (U g (B (λ_=>E (Avp _) λ_ _=>A ⟨rfl,rfl⟩) λ_=>A ⟨rfl,rfl⟩)) λy5 h5=>?_;refine U (c_ (by rw[h5.1];exact hf.1)) (B (λ_=>E (Aul _) λ_ _=>A h5.2) λ_=>A h5.2)
def Bbn(a b c:Bool)(d e o:Int):O (EX a b c d e o) λy=>y.2.1.2.2.2.2.2.1=o∨y.2.1.2.2.2.2.2.1=0:=by
 unfold EX;refine E (Q:=λy=>y.2.1.2.2.2.2.2.1=o) ?_ λy1 h1=>?_
 ·refine B (λ_=>?_) λ_=>?_<;>exact B (λ_=>B (λ_=>A rfl) λ_=>A rfl) λ_=>B (λ_=>A rfl) λ_=>A rfl
 refine E (Q:=λy=>y.2.2.1.2.2.2.2.2.1=o) ?_ λy2 h2=>?_
 ·refine B (λ_=>?_) λ_=>?_<;>exact B (λ_=>B (λ_=>A h1) λ_=>A h1) λ_=>B (λ_=>A h1) λ_=>A h1
 exact B (λ_=>A (.inl h2)) λ_=>B (λ_=>A (.inl h2)) λ_=>B (λ_=>A (.inl h2)) λ_=>B (λ_=>A (.inl h2)) λ_=>B (λ_=>A (.inl h2)) λ_=>A (.inr rfl)
def dir2(n:Int):Prop:=0≤n∧n≤2
def dir2.zero:dir2 0:=⟨τ,τ⟩
def dir2.one:dir2 1:=⟨τ,τ⟩
def dir2.two:dir2 2:=⟨τ,τ⟩
def Beg(a b c:Bool)(d e o:Int):O (Fg a b c d e o) λy=>dir2 y.1.1:=by unfold Fg;refine E (Q:=λ_=>True) Sat.go λy1 _=>?_;exact B (λ_=>A dir2.one) λ_=>B (λ_=>A dir2.two) λ_=>A dir2.zero
def chP(y:(Unit×Unit)×((Int×Int×Int×Unit)×Unit)):Prop:=dir2 y.2.1.2.1∧dir2 y.2.1.2.2.1
def Ar1{f:Int}(c:Bool)(a:Int){s:Int}(o:Bool)(b:Int)(hf:dir2 f)(hs:dir2 s):O (GB f c a s o b) λy=>dir2 y.1.1:=by unfold GB;exact B (λ_=>A hf) λ_=>B (λ_=>A hf) λ_=>B (λ_=>A hs) λ_=>B (λ_=>A hs) λ_=>A dir2.zero
def Wf(h:dir2 n):O (DK n) chP:=A ⟨h,h⟩
def Bba(a b c:Bool)(d e o:Int):O (EW a b c d e o) chP:=by unfold EW;refine E (Beg ..) λy h=>?_;refine B (λ_=>E (Wf dir2.one) λ_ h=>A h) λ_=>B (λ_=>E (Wf dir2.two) λ_ h=>A h) λ_=>B (λ_=>E (Wf h) λ_ h=>A h) λ_=>?_;exact B (λ_=>A ⟨h,dir2.zero⟩) λ_=>B (λ_=>A ⟨h,dir2.zero⟩) λ_=>A ⟨dir2.zero,dir2.zero⟩
def Aik(a b c:Bool)(d e o:Int):O (DS a b c d e o) chP:=by unfold DS;refine E (Q:=λ_=>True) Sat.go λy1 _=>?_;refine B (λ_=>E (Ar1 _ _ _ _ dir2.two dir2.one) λ_ h=>E (Wf h) λ_ h=>A h) λ_=>B (λ_=>A ⟨dir2.two,dir2.zero⟩) λ_=>?_;exact B (λ_=>E (Wf dir2.one) λ_ h=>A h) λ_=>B (λ_=>A ⟨dir2.one,dir2.zero⟩) λ_=>A ⟨dir2.zero,dir2.zero⟩
def Bey(a b c:Bool)(d e o:Int):O (Fh a b c d e o) chP:=by unfold Fh;refine E (Q:=λ_=>True) Sat.go λy1 _=>?_;refine B (λ_=>E (Ar1 _ _ _ _ dir2.one dir2.two) λ_ h=>E (Wf h) λ_ h=>A h) λ_=>B (λ_=>A ⟨dir2.one,dir2.zero⟩) λ_=>?_;exact E (Aik ..) λ_ h=>A h
def Al2{w o f:Int}(a b c:Int)(h:0≤fl)(hf:0≤f∧f<32)(hw:dir2 w):O (FR fl w o f a b c) λy=>chP ((((),()),y.2))∧(y.1.2.1=o∨y.1.2.1=0):=by
 unfold FR;refine E (Brl _ _ _ _ _ _ _ h hf) λy1 h1=>E (Bbn ..) λy2 h2=>?_;rw[h1]at h2;refine E (Q:=λy=>chP ((((),()),y.2))∧(y.1.2.1=o∨y.1.2.1=0)) ?_ λy6 h6=>A h6;refine U (Ac hw.1 (by have:=hw.2;show w<(3:Int);omega)) ?_;refine B (λ_=>E (Bba ..) λ_ h=>A ⟨h,h2⟩) λn0=>B (λ_=>E (Bey ..) λ_ h=>A ⟨h,h2⟩) λn1=>?_;have e:Nat.beq (P w) 2=C:=by
  have a0:¬P w=0:=λq=>by rw[q]at n0;cases n0
  have a1:¬P w=1:=λq=>by rw[q]at n1;cases n1
  have:P w=2:=by have:=hw.1;have:=hw.2;omega
  rw[this];rfl
 exact U e (E (Aik ..) λ_ h=>A ⟨h,h2⟩)
def S2(d o:Int):Prop:=dir2 d∧0≤o∧o≤7
def S2.zero{d:Int}(h:dir2 d):S2 d 0:=⟨h,τ,τ⟩
def An2(fl w o f:Int):O (FS fl w o f) λy=>y.1.1=C→2≤fl∧fl≤32∧0≤f∧f<fl∧S2 w o:=by
 unfold FS;refine E (Q:=λy=>y.1.1=C→2≤fl∧fl≤32∧0≤f∧f<fl∧S2 w o) ?_ λy hy=>A hy;refine B (λa=>B (λb=>B (λc=>B (λd=>?_) λ_=>A λq=>by cases q) λ_=>A λq=>by cases q) λ_=>A λq=>by cases q) λ_=>A λq=>by cases q
 refine S (Kc { BG with S1:=w,C1:=o }) (A λq=>?_);have q:(H 0 2 w&&H 0 7 o)=C:=q;rw[e_]at q;exact⟨n_ a,n_ b,n_ c,n_ d,Ar.1 q.1,Ar.1 q.2⟩
def Bbt(fl w o f a b c:Int):O (HQ fl w o f a b c) chP:=by unfold HQ;refine E (An2 ..) λy h=>B (λ_=>A ⟨dir2.zero,dir2.zero⟩) λq=>?_;obtain⟨h1,h2,h3,h4,h5⟩:=h (by simpa using q);exact E (Al2 _ _ _ ω ⟨h3,ω⟩ h5.1) λ_ h=>A h.1
def Bes:∀(o:Fin 8) (s:Fin 3),0≤L.wrap (stk ((o.val:Nat):Int) (aB L ((1:Int)*((2:Int)^(Min.min (P ((s.val:Nat):Int)) (IntKind.bits L))))) (BitVec.toNat ((aD (IntKind.bits L) ((o.val:Nat):Int))|||(aD (IntKind.bits L) (aB L ((1:Int)*((2:Int)^(Min.min (P ((s.val:Nat):Int)) (IntKind.bits L)))))))))∧L.wrap (stk ((o.val:Nat):Int) (aB L ((1:Int)*((2:Int)^(Min.min (P ((s.val:Nat):Int)) (IntKind.bits L))))) (BitVec.toNat ((aD (IntKind.bits L) ((o.val:Nat):Int))|||(aD (IntKind.bits L) (aB L ((1:Int)*((2:Int)^(Min.min (P ((s.val:Nat):Int)) (IntKind.bits L)))))))))≤7:=by decide
def Bkj(fl w o f a b c:Int):O (Jn fl w o f a b c) λy=>S2 y.2.1.1 y.2.1.2.1:=by
 unfold Jn;refine E (An2 ..) λy h=>B (λ_=>A (S2.zero dir2.zero)) λq=>?_;obtain⟨h1,h2,h3,h4,h5⟩:=h (by simpa using q);refine E (Al2 _ _ _ ω ⟨h3,ω⟩ h5.1) λy2 h=>?_;refine B (λ_=>A (S2.zero h.1.1)) λ_=>U (c_ h.1.2.1) (A ⟨h.1.1,?_⟩);have ho:0≤y2.1.2.1∧y2.1.2.1<8:=by have h5a:=h5.2.1;have h5b:=h5.2.2;rcases h.2 with e | e<;>rw[e]<;>omega
 have hs:dir2 y2.2.1.2.2.1:=h.1.2;have key:=Bes ⟨y2.1.2.1.toNat,ω⟩ ⟨y2.2.1.2.2.1.toNat,by have:=hs.1;have:=hs.2;omega⟩;rw[show((y2.1.2.1.toNat:Nat):Int)=y2.1.2.1 from g0_ ho.1,show((y2.2.1.2.2.1.toNat:Nat):Int)=y2.2.1.2.2.1 from g0_ hs.1]at key;exact key
def D5(a b c:Int)(d:Bool)(e:Int):Prop:=(a=0∧b=0∧c=0∧d=J∧e=0)∨(0<a∧a≤3∧0≤b∧b≤1000000∧0≤c∧c≤1000000∧0≤e∧e≤1000000)
def D5.zero:D5 0 0 0 J 0:=.inl ⟨rfl,rfl,rfl,rfl,rfl⟩
def D5.at{a c:Int}(h:0<a∧a≤3)(hc:0≤c)(hc':c≤1000000)(he:0≤e)(he':e≤1000000):D5 a 0 c d e:=.inr ⟨h.1,h.2,e0_ 0,show(0:Int)≤1000000 from by decide,hc,hc',he,he'⟩
def dN(a b c:Int)(d:Bool)(e:Int):R:={ BG with Z0:=a,I1:=b,F1:=c,H1:=d,D1:=e }
def Adp(x:R):RP x=C↔D5 x.Z0 x.I1 x.F1 x.H1 x.D1:=by
 unfold RP D5 SO H;by_cases g:x.Z0=0
 ·rw[g];simp
 ·rw[Am g];simp;omega
def VW(a b c:Int)(d:Bool)(e:Int):∃r,FV a b c d e=I ((r,()),())∧(r=C↔D5 a b c d e):=⟨_,PY (dN a b c d e),Adp (dN a b c d e)⟩
def up1(n:Int):Int:=bif decide (1000000<L.wrap (n+1))then 1000000 else L.wrap (n+1)
def Kk(h:0≤n∧n≤1000000):0≤up1 n∧up1 n≤1000000:=by
 unfold up1;rw[Aa ω ω];by_cases g:1000000<n+1
 ·rw[c_ g,d_];decide
 ·rw[f_ g,b_];omega
def TT(n:Int):Lm n=I ((up1 n,()),()):=rfl
def UP(a b c:Int)(d:Bool)(e:Int):JE a b c d e=I (((),()),((a,b,bif c !=0 then up1 c else c,d,e,()),())):=by unfold JE;cases c !=0<;>rfl
def Apo{a b c:Int}(h:D5 a b c d e):O (Nn a b c d e) λy=>letI f:=y.2.1.2;D5 y.2.1.1 f.1 f.2.1 f.2.2.1 f.2.2.2.1:=by
 obtain⟨r,h1,h2⟩:=VW a b c d e;have hr:r=C:=h2.2 h;subst hr;unfold Nn;refine S h1 (B (λ_=>A h) λ_=>B (λ_=>A h) λg=>?_);have g:¬a=0:=by simpa using g
 rcases h with h | ⟨p1,p2,p3,p4,p5,p6,p7,p8⟩
 ·exact absurd h.1 g
 refine S (UP ..) (S (TT _) (A (.inr ⟨p1,p2,(Kk ⟨p3,p4⟩).1,(Kk ⟨p3,p4⟩).2,?_,?_,p7,p8⟩)))
 ·show 0≤(bif c !=0 then up1 c else c)
  cases c !=0 with
  |true=>exact(Kk ⟨p5,p6⟩).1
  |false=>exact p5
 ·show(bif c !=0 then up1 c else c)≤1000000;cases c !=0 with
  |true=>exact(Kk ⟨p5,p6⟩).2
  |false=>exact p6
def Aau(c0 c1 c2 c3 c4 c5 c6 c7 c8 a b c:Int)(d:Bool)(e f:Int)(g h:Bool):O (Np c0 c1 c2 c3 c4 c5 c6 c7 c8 a b c d e f g h) λy=>letI f:=y.2.1.2;D5 y.2.1.1 f.1 f.2.1 f.2.2.1 f.2.2.2.1:=by
 unfold Np;refine E (Q:=λy=>letI f:=y.2.2.1;D5 f.1 f.2.1 f.2.2.1 f.2.2.2.1 f.2.2.2.2.1) ?_ λy hy=>?_
 ·obtain⟨r,h1,h2⟩:=VW a b c d e;refine S h1 (B (λ_=>A D5.zero) λk=>A (h2.1 (by simpa using k)))
 refine B (λ_=>B (λ_=>A (D5.at (a:=1) τ τ τ τ τ)) λ_=>A hy) λk=>?_;have k:¬y.2.2.1.1=0:=by simpa using k
 obtain⟨p1,p2,p3,p4,p5,p6,p7,p8⟩:=hy.resolve_left λq=>k q.1;have hc:0≤(bif y.2.2.1.2.2.1 !=0 then up1 y.2.2.1.2.2.1 else y.2.2.1.2.2.1)∧(bif y.2.2.1.2.2.1 !=0 then up1 y.2.2.1.2.2.1 else y.2.2.1.2.2.1)≤1000000:=by
  cases y.2.2.1.2.2.1 !=0 with
  |true=>exact Kk ⟨p5,p6⟩
  |false=>exact⟨p5,p6⟩
 refine S (UP ..) ?_;refine E (Q:=λz=>0<z.2.2.1.1∧z.2.2.1.1≤3∧0≤z.2.2.1.2.1∧z.2.2.1.2.1≤1000000∧0≤z.2.2.1.2.2.1∧z.2.2.1.2.2.1≤1000000∧0≤z.2.2.1.2.2.2.2.1∧z.2.2.1.2.2.2.2.1≤1000000) (B (λ_=>A ⟨p1,p2,p3,p4,hc.1,hc.2,p7,p8⟩) λ_=>A ⟨p1,p2,p3,p4,hc.1,hc.2,p7,p8⟩) λz hz=>?_;refine B (λ_=>S rfl (A (D5.at (a:=2) τ ?_ ?_ hz.2.2.2.2.2.2.1 hz.2.2.2.2.2.2.2))) λ_=>?_
 ·show 0≤(bif decide (z.2.2.1.2.2.1<1)then 1 else z.2.2.1.2.2.1)
  cases decide (z.2.2.1.2.2.1<1)with
  |true=>exact show(0:Int)≤1 from by decide
  |false=>exact hz.2.2.2.2.1
 ·show(bif decide (z.2.2.1.2.2.1<1)then 1 else z.2.2.1.2.2.1)≤1000000;cases decide (z.2.2.1.2.2.1<1)with
  |true=>exact show(1:Int)≤1000000 from by decide
  |false=>exact hz.2.2.2.2.2.1
 refine E (Q:=λw=>w.2.2.1=z.2.2.1) (B (λ_=>A rfl) λ_=>A rfl) λw hw=>?_;refine B (λ_=>A D5.zero) λ_=>?_;refine E (Q:=λv=>v.2.2.1=z.2.2.1) (B (λ_=>B (λ_=>A hw) λ_=>A hw) λ_=>A hw) λv hv=>?_;have stay:∀n:Int,O (QW v.2.2.1.1 v.2.2.1.2.1 v.2.2.1.2.2.1 v.2.2.1.2.2.2.1 v.2.2.1.2.2.2.2.1 n) λy=>letI b:=y.2.1.2;D5 y.2.1.1 b.1 b.2.1 b.2.2.1 b.2.2.2.1:=λn=>by rw[hv];exact S (TT _) (A (.inr ⟨hz.1,hz.2.1,(Kk ⟨hz.2.2.1,hz.2.2.2.1⟩).1,(Kk ⟨hz.2.2.1,hz.2.2.2.1⟩).2,hz.2.2.2.2.1,hz.2.2.2.2.2.1,hz.2.2.2.2.2.2.1,hz.2.2.2.2.2.2.2⟩))
 refine B (λ_=>E (stay 5) λ_ h=>A h) λ_=>?_;refine B (λ_=>?_) λ_=>?_
 ·rw[hv];exact S rfl (A (D5.at (a:=3) τ hz.2.2.2.2.1 hz.2.2.2.2.2.1 hz.2.2.2.2.2.2.1 hz.2.2.2.2.2.2.2))
 refine B (λ_=>E (stay 3) λ_ h=>A h) λ_=>?_;refine B (λ_=>?_) λ_=>?_
 ·refine E (Q:=λu=>u.2.1=v.2.2.1) (B (λ_=>A rfl) λ_=>A rfl) λu hu=>?_;rw[hu];refine B (λ_=>?_) λ_=>E (stay 0) λ_ h=>A h;rw[hv];exact S rfl (A (D5.at (a:=3) τ hz.2.2.2.2.1 hz.2.2.2.2.2.1 hz.2.2.2.2.2.2.1 hz.2.2.2.2.2.2.2))
 refine B (λ_=>?_) λ_=>E (stay 4) λ_ h=>A h;rw[hv];exact S (TT _) (S rfl (A (D5.at (a:=1) τ hz.2.2.2.2.1 hz.2.2.2.2.2.1 (Kk ⟨hz.2.2.2.2.2.2.1,hz.2.2.2.2.2.2.2⟩).1 (Kk ⟨hz.2.2.2.2.2.2.1,hz.2.2.2.2.2.2.2⟩).2)))
def Apn(c0 c1 c2 c3 c4 c5 c6 c7 c8 a b c:Int)(d:Bool)(e:Int):O (QV c0 c1 c2 c3 c4 c5 c6 c7 c8 a b c d e) λ_=>True:=by unfold QV;exact Sat.go
def M3(fl c t f:Int):Prop:=0≤t∧t≤1000000∧((c=0∧f=0)∨(c=1∧0≤f∧f+1<fl)∨(c=2∧0<f∧f<fl))
def M3.zero:M3 fl 0 0 0:=⟨τ,τ,.inl ⟨rfl,rfl⟩⟩
def Ai7(hf:2≤fl)(x:R):UZ fl x=C↔M3 fl x.T0 x.Y0 x.S0:=by
 unfold UZ M3 H;by_cases g:x.T0=0
 ·rw[g];simp;omega
 by_cases g1:x.T0=1
 ·rw[g1];simp;omega
 by_cases g2:x.T0=2
 ·rw[g2];simp;omega
 ·rw[Am g,Am g1,Am g2];simp;omega
def mN(c t f:Int):R:={ BG with T0:=c,Y0:=t,S0:=f }
def Acd(h:2≤fl∧fl≤8)(c t f:Int):∃r,FX fl c t f=I ((r,()),())∧(r=C↔M3 fl c t f):=⟨_,Nm h (mN c t f),Ai7 h.1 (mN c t f)⟩
def Va{f c:Int}(hf:0≤f∧f<fl)(h:fl≤8):O (Fk fl f c) λy=>y.1.2.1=C→(c=1∧0≤f∧f+1<fl)∨(c=2∧0<f∧f<fl):=by
 unfold Fk;by_cases c1:c=1
 ·subst c1;refine aC (Sat.bifF rfl (U rfl (Sat.bindC (λ_=>aC (A λg=>.inl ⟨rfl,hf.1,?_⟩)) λ_=>aC (A λg=>by cases g))));have g:=n_ g;have e:L.wrap (f+List.getD [(0:Int),1,-1] (P 1) 0)=f+1:=Aa (ω:(-9223372036854775808:Int)≤f+1) (ω:f+1<9223372036854775808);exact e▸g
 ·rw[Gx c1];by_cases c2:c=2
  ·subst c2;have e:L.wrap (f+List.getD [(0:Int),1,-1] (P 2) 0)=f+ -1:=Aa (ω:(-9223372036854775808:Int)≤f+ -1) (ω:f+ -1<9223372036854775808);refine aC (Sat.bifF rfl (U rfl (Sat.bindC (λg0=>aC (A λg=>.inr ⟨rfl,?_,hf.2⟩)) λ_=>aC (A λg=>by cases g))));have g0:0≤f+ -1:=e▸n_ g0;omega
  ·rw[Gx c2];exact aC (U rfl (A λg=>by cases g))
def Akb{c t f:Int}(h:M3 fl c t f):O (KY c t f) λy=>M3 fl y.2.1.1 y.2.1.2.1 y.2.1.2.2.1:=by
 unfold KY;refine E (Q:=λy=>y.2.1=(c,t,f,())∧(y.1.2.2.1=C→t<1000000)) ?_ λy hy=>?_
 ·refine B (λ_=>B (λ_=>A ⟨rfl,λg=>n_ g⟩) λ_=>A ⟨rfl,λg=>by cases g⟩) λ_=>?_;exact B (λ_=>B (λ_=>A ⟨rfl,λg=>n_ g⟩) λ_=>A ⟨rfl,λg=>by cases g⟩) λ_=>A ⟨rfl,λg=>by cases g⟩
 refine B (λg=>A ?_) λ_=>A ?_
 ·rw[hy.1];have ht:=hy.2 g
  have:=h.1
  show M3 fl c (aB L (t+1)) f;rw[Aa ω ω];exact⟨ω,ω,h.2.2⟩
 ·rw[hy.1];exact h
def MZ(y:Int×Int×Int×Unit):Prop:=y=(0,0,0,())
def Akd(h:2≤fl∧fl≤8)(c t f g:Int)(l:Bool)(d:Int)(k:Bool)(w:Int):O (NE fl c t f g l d k w) λy=>M3 fl y.2.1.1 y.2.1.2.1 y.2.1.2.2.1∧(y.1.2.2.1=C→MZ y.2.1)∧(c=0→w=0→l=C→MZ y.2.1):=by
 unfold NE;obtain⟨r,h1,h2⟩:=Acd h c t f;have hz:M3 fl 0 0 0:=M3.zero;refine S h1 (B (λ_=>A ⟨hz,λ_=>rfl,λ_ _ _=>rfl⟩) λhr=>B (λ_=>A ⟨hz,λ_=>rfl,λ_ _ _=>rfl⟩) λa1=>B (λ_=>A ⟨hz,λ_=>rfl,λ_ _ _=>rfl⟩) λa2=>?_);have hm:M3 fl c t f:=h2.1 (by simpa using hr);have hg:0≤g∧g<fl:=⟨by have:=H_ a1;omega,by have:=H_ a2;omega⟩
 have hf:0≤f∧f<fl:=by rcases hm.2.2 with q | q | q<;>omega
 refine E (Va hf h.2) λy2 b2=>?_;have nb:c=0→y2.1.2.1=J:=λc0=>by
  cases q:y2.1.2.1 with
  |false=>rfl
  |true=>rcases b2 q with e | e<;>omega
 refine E (Q:=λy=>(y.1.1=fl∧y.1.2.1=w∧y.2.1=(c,t,f,())∧y.2.2.1.1=g)∧y.1.2.2.2.2.2.1=y2.1.2.1∧y.2.2.1.2.1=l) ?_ λy3 h3=>?_
 ·exact B (λ_=>B (λ_=>A ⟨⟨rfl,rfl,rfl,rfl⟩,rfl,rfl⟩) λ_=>A ⟨⟨rfl,rfl,rfl,rfl⟩,rfl,rfl⟩) λ_=>A ⟨⟨rfl,rfl,rfl,rfl⟩,rfl,rfl⟩
 refine B (λ_=>A ⟨hz,λ_=>rfl,λ_ _ _=>rfl⟩) λ_=>?_;refine E (Q:=λy=>(y.1.1=fl∧y.1.2.1=w∧y.2.1=(c,t,f,())∧y.2.2.1.1=g)∧(c=0→l=C→y.1.2.2.2.2.2.1=J)) ?_ λy4 h4=>?_
 ·refine B (λq=>A ⟨h3.1,λc0 _=>?_⟩) λ_=>A ⟨h3.1,λ_ l1=>?_⟩
  ·rw[h3.2.1,nb c0]at q;cases q
  ·show(!y3.2.2.1.2.1)=J;rw[h3.2.2,l1];rfl
 obtain⟨⟨e1,e2,e3,e4⟩,e5⟩:=h4;refine B (λq=>A ⟨?_,λg=>(by cases g),λc0 _ l1=>?_⟩) λ_=>?_
 ·rw[e3];exact⟨(Kk ⟨hm.1,hm.2.1⟩).1,(Kk ⟨hm.1,hm.2.1⟩).2,hm.2.2⟩
 ·rw[e5 c0 l1]at q;cases q
 rw[e1,e2,e4];refine E (Va hg h.2) λy5 h5=>B (λq=>A ⟨?_,λg=>(by cases g),λ_ w0 _=>?_⟩) λ_=>A ⟨hz,λ_=>rfl,λ_ _ _=>rfl⟩
 ·exact⟨show(0:Int)≤0 from by decide,show(0:Int)≤1000000 from by decide,.inr (h5 q)⟩
 ·rcases h5 q with e | e<;>omega
def Aka(c0 c1 c2 c3 c4 c5 c6 c7 c8 a b c:Int):O (Sa c0 c1 c2 c3 c4 c5 c6 c7 c8 a b c) λ_=>True:=A trivial
def Apw(hcode:b.code=0)(hv:AV b.D0 b.G0 b.I0 b.M0 b.L0 b.N0 b.O0 b.B0=I ((b.code,()),()))(car idle floor:Int):O (QY b.D0 b.G0 b.I0 b.M0 b.L0 b.N0 b.O0 b.B0 car idle floor) λy=>y.1.1=0∨y.1.1=1∨y.1.1=2:=by unfold QY;refine S hv (B (λ_=>A (.inl rfl)) λ_=>B (λ_=>A (.inl rfl)) λh1=>B (λ_=>A (.inl rfl)) λh2=>?_);have h1:=H_ h1;have h2:=H_ h2;refine B (λ_=>A (.inl rfl)) λ_=>B (λ_=>A (.inl rfl)) λ_=>B (λ_=>A (.inl rfl)) λ_=>?_;refine U (Ac ω ω) (B (λ_=>A (.inr (.inl rfl))) λ_=>B (λ_=>A (.inr (.inr rfl))) λ_=>A (.inl rfl))
end Go.Ovl
