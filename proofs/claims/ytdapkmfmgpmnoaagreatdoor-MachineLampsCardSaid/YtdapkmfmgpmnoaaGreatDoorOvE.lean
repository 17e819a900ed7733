/- Layer 26: which machines belong to a building: the program's side. -/
import Derived.Test.YtdapkmfmgpmnoaaGreatDoorOvD
import Derived.Test.YtdapkmfmgpmnoaaGreatDoorOvA
import Derived.Test.YtdapkmfmgpmnoaaGreatDoorOvC
set_option linter.all false
open Go.Ovl.Sat renaming ret->A,bic->B,bindS->H,bindE->U,bifT->V,bindR->aD
open Go.Ovl renaming inR->C,Sat->P,NewCar->S
open Bool renaming false->E,true->I
open Option renaming some->J
open Go renaming b_->L,c_->O
open Go.IntKind renaming i64->N,wrap->aC
open Int renaming toNat->R
open Go.Ovl.Belief renaming mk->aA
open Go.Ovl.Bldg renaming tup->aB
open BitVec renaming ofInt->aE
namespace Go.Ovl
open Go Go.Ab
set_option maxRecDepth 100000
variable{b:Bldg}{fl n e:Int}{d:Bool}{c:Car}
def Rm{p:Nat→Bool}:∀m i:Nat,(∀k,i≤k→k<i+m→p k=I)→Lw p m i=I
 |0,_,_=>rfl
 |m+1,i,h=>by
  simp only[Lw];rw[h i (z_ _) ω,n_]
  exact Rm m (i+1) λk h1 h2=>h k ω ω
def ltD(a b:Int):decide (a<b)=!decide (b≤a):=by
 by_cases h:a<b
 ·rw[L h,f_ (ω:¬b≤a)];rfl
 ·rw[f_ h,L (ω:b≤a)];rfl
def leD(a b:Int):decide (a≤b)=!decide (b<a):=by rw[ltD b a,Bool.not_not]
def PE(xs:List Int):Bool:=xs.all (C 0 1000000)
def Aov(n:Int):IR n=J ((!C 0 1000000 n,()),()):=by
 unfold IR C;rw[ltD n 0,ltD 1000000 n];cases decide (0≤n)<;>cases decide (n≤1000000)<;>rfl
def Sa{xs:List Int}(hl:xs.length≤1000000):HV xs=J ((PE xs,()),()):=by
 have key:∀(k i:Nat),i+k=xs.length→∃y,BQ (λx=>AO x.1.1 x.1.2.2.1 x.1.2.2.2.1) (k+1) ((xs,(),(xs.length:Int),(i:Int),()),())=J y∧(match y with | .inl _=>(xs.drop i).all (C 0 1000000)=I | .inr z=>0≤z.1.1∧(xs.drop i).all (C 0 1000000)=E):=by
  intro k
  induction k with
  |zero=>
   intro i hi;refine⟨.inl ((),()),Az ?_,?_⟩
   ·show AO xs (xs.length:Int) (i:Int)=_
    unfold AO;rw[f_ (ω:¬(i:Int)<(xs.length:Int))];rfl
   ·rw[show i=xs.length by omega,a5_];rfl
  |succ k ih=>
   intro i hi;have hi':i<xs.length:=ω
   have hs:AO xs (xs.length:Int) (i:Int)=J (bif C 0 1000000 (xs.getD i 0)then .inl ((xs,(),(xs.length:Int),((i+1:Nat):Int),()),())else .inr (.inr (((i:Int),()),()))):=by
    unfold AO;rw[L (ω:(i:Int)<(xs.length:Int)),Ac ω ω,Aov,Dp hi' (show xs.length≤AG by unfold AG;omega)]
    simp only[d_,i_,a_];cases C 0 1000000 (xs.getD i 0)<;>rfl
   rw[BU (0:Int) hi',X_];cases hq:C 0 1000000 (xs.getD i 0)with
   |true=>
    rw[hq]at hs;obtain⟨y,h1,h2⟩:=ih (i+1) ω
    exact⟨y,(Bu hs).trans h1,by rw[n_];exact h2⟩
   |false=>
    rw[hq]at hs;exact⟨_,Az hs,by show(0:Int)≤(i:Int)∧_;exact⟨ω,rfl⟩⟩
 obtain⟨y,h1,h2⟩:=key xs.length 0 ω
 have h1':Bt ((xs,(),(xs.length:Int),(0:Int),()),())=J y:=Ai h1 ω
 rw[Q_]at h2;unfold HV Cj Cz PE;rw[h1'];cases y with
 |inl z=>simp only at h2;rw[h2];rfl
 |inr z=>
  simp only at h2;rw[h2.2];simp only[a_];rw[L h2.1];rfl
def Qk(x:Debounced):List Int:=[x.E5,x.F5,x.G5,x.H5,x.I5,x.K5,x.L5,x.M5,x.N5,x.O5,x.B4,x.C4,x.D4,x.E4,x.F4,x.G4,x.H4,x.I4,x.J4,x.K4,x.L4,x.M4,x.N4,x.O4,x.P4,x.Q4,x.R4,x.S4,x.T4,x.U4,x.V4,x.W4,x.X4,x.Y4,x.Z4,x.A5]
def Afo(n:Int)(x:Debounced)(i:Nat):Bool:=decide (0≤(Qk x).getD i 0)&&decide ((Qk x).getD i 0<n)
def LQ(n:Int)(x:Debounced):Bool:=decide (1≤n)&&(decide (n≤16)&&Lw (Afo n x) 36 0)
def XV(n:Int)(x:Debounced):Et n x.V0 x.T1 x.F1 x.G1 x.C1 x.E5 x.F5 x.G5 x.H5 x.I5 x.K5 x.L5 x.M5 x.N5 x.O5 x.B4 x.C4 x.D4 x.E4 x.F4 x.G4 x.H4 x.I4 x.J4 x.K4 x.L4 x.M4 x.N4 x.O4 x.P4 x.Q4 x.R4 x.S4 x.T4 x.U4 x.V4 x.W4 x.X4 x.Y4 x.Z4 x.A5=J ((LQ n x,()),()):=by
 have h:=Ai (Ml (step:=λx=>letI g:=x.1.2.1.2;letI l:=g.2.2;letI c:=l.2.2.2;letI d:=c.2.2.2.2;letI j:=d.2.2;letI a:=j.2.2.2.2;letI f:=a.2.2.2.2;letI m:=f.2.2;letI b:=m.2.2.2;letI e:=b.2.2.2.2;letI k:=e.2.2;BD x.1.1 x.1.2.1.1 g.1 g.2.1 l.1 l.2.1 l.2.2.1 c.1 c.2.1 c.2.2.1 c.2.2.2.1 d.1 d.2.1 j.1 j.2.1 j.2.2.1 j.2.2.2.1 a.1 a.2.1 a.2.2.1 a.2.2.2.1 f.1 f.2.1 m.1 m.2.1 m.2.2.1 b.1 b.2.1 b.2.2.1 b.2.2.2.1 e.1 e.2.1 k.1 k.2.1 k.2.2.1 k.2.2.2.1 k.2.2.2.2.1 x.1.2.2.1) 36 (λi=>((n,(x.E5,x.F5,x.G5,x.H5,x.I5,x.K5,x.L5,x.M5,x.N5,x.O5,x.B4,x.C4,x.D4,x.E4,x.F4,x.G4,x.H4,x.I4,x.J4,x.K4,x.L4,x.M4,x.N4,x.O4,x.P4,x.Q4,x.R4,x.S4,x.T4,x.U4,x.V4,x.W4,x.X4,x.Y4,x.Z4,x.A5,()),(i:Int),()),())) (Afo n x) (Sum.inl ((),())) (Sum.inr ((E,()),())) (λi hi=>by
  show BD n x.E5 x.F5 x.G5 x.H5 x.I5 x.K5 x.L5 x.M5 x.N5 x.O5 x.B4 x.C4 x.D4 x.E4 x.F4 x.G4 x.H4 x.I4 x.J4 x.K4 x.L4 x.M4 x.N4 x.O4 x.P4 x.Q4 x.R4 x.S4 x.T4 x.U4 x.V4 x.W4 x.X4 x.Y4 x.Z4 x.A5 (i:Int)=_;unfold BD;simp only[L (ω:(i:Int)<36),Ac (ω:(0:Int)≤(i:Int)) (ω:(i:Int)<((36:Nat):Int)),d_,i_,Dp hi (show 36≤AG by decide)]
  show(bif decide ((Qk x).getD i 0<0)then _ else bif decide (n≤(Qk x).getD i 0)then _ else _)=J (bif(decide (0≤(Qk x).getD i 0)&&decide ((Qk x).getD i 0<n))then _ else _);rw[ltD ((Qk x).getD i 0) 0,leD n ((Qk x).getD i 0)];cases decide (0≤(Qk x).getD i 0)<;>cases decide ((Qk x).getD i 0<n)<;>rfl) (by
  show BD n x.E5 x.F5 x.G5 x.H5 x.I5 x.K5 x.L5 x.M5 x.N5 x.O5 x.B4 x.C4 x.D4 x.E4 x.F4 x.G4 x.H4 x.I4 x.J4 x.K4 x.L4 x.M4 x.N4 x.O4 x.P4 x.Q4 x.R4 x.S4 x.T4 x.U4 x.V4 x.W4 x.X4 x.Y4 x.Z4 x.A5 (36:Int)=_;unfold BD;simp only[show decide ((36:Int)<36)=E from rfl,O]) 36 0 ω) ω
 have h':EF ((n,(x.E5,x.F5,x.G5,x.H5,x.I5,x.K5,x.L5,x.M5,x.N5,x.O5,x.B4,x.C4,x.D4,x.E4,x.F4,x.G4,x.H4,x.I4,x.J4,x.K4,x.L4,x.M4,x.N4,x.O4,x.P4,x.Q4,x.R4,x.S4,x.T4,x.U4,x.V4,x.W4,x.X4,x.Y4,x.Z4,x.A5,()),(0:Int),()),())=_:=h;unfold Et LQ;rw[ltD n 1,ltD 16 n];cases decide (1≤n)with
 |false=>rfl
 |true=>
  cases decide (n≤16)with
  |false=>rfl
  |true=>
   simp only[o_,O,n_,h'];cases Lw (Afo n x) 36 0<;>rfl
def SJ(a b:Duty):Bool:=decide (a.D0<b.D0)||(a.D0==b.D0&&decide (a.I0<b.I0))
def ZM(a b:Duty):∃n:Int,Da a.D0 a.I0 a.C5 b.D0 b.I0 b.C5=J ((n,()),())∧decide (0≤n)=!SJ a b:=by
 unfold Da;rw[HN,HN];simp only[a_];rw[XT];refine⟨_,rfl,?_⟩;unfold SJ Wi;by_cases h1:a.D0<b.D0
 ·rw[L h1];rfl
 ·rw[f_ h1]
  by_cases h2:b.D0<a.D0
  ·rw[L h2,An (ω:¬a.D0=b.D0)];rfl
  ·rw[f_ h2,show(a.D0==b.D0)=I by simp;omega]
   by_cases h3:a.I0<b.I0
   ·rw[L h3];rfl
   ·rw[f_ h3]
    cases decide (b.I0<a.I0)<;>rfl
def Tr(n lo hi:Int):Dz n lo hi=J ((C lo hi n,()),()):=by
 unfold Dz C;cases decide (lo≤n)<;>rfl
def As4(x:Belief)(i:Nat):Bool:=i==0||SJ (x.U0.getD (i-1) DH) (x.U0.getD i DH)
def Ya(b:Bldg)(car:Nat)(x:Belief)(i:Nat):Bool:=Am b (x.U0.getD i DH).D0 (x.U0.getD i DH).I0&&(C 0 (HY b car).I1 (x.U0.getD i DH).C5&&As4 x i)
def Pt(b:Bldg)(car:Nat)(x:Belief):Bool:=C (-1) (b.C0-1) x.D0&&(C 0 3 x.I0&&(C 0 3 x.E3&&(C 0 1000000 x.V2&&(!(x.N3&&decide ((0:Int)<(x.U0.length:Int)))&&Lw (Ya b car x) x.U0.length 0))))
def RX(hb:b.small)(hcode:b.code=0){car:Nat}(hcar:car<b.B0.length)(x:Belief)(hx:x.U0.length≤100000):Co b.C0 b.E0 b.H0 b.M0 b.J0 b.L0 b.N0 b.B0 (car:Int) x.D0 x.I0 x.E3 x.U0 x.V2 x.N3=J ((Pt b car x,()),()):=by
 have lo:=hb.lo;have hi8:=hb.hi;have hcc:=Aj hcode;have h5:100000≤AG:=by decide
 have h:=Ai (Ml (step:=λx=>letI a:=x.2.1.2.2;letI c:=x.2.2.1.2;letI d:=a.2.2;EX x.1.1 x.1.2.2.2.1 x.1.2.2.2.2.1 x.1.2.2.2.2.2.1 x.2.1.1 x.2.1.2.1 a.1 a.2.1 d.1 d.2.1 d.2.2.1 d.2.2.2.1 x.2.2.1.1 c.1 c.2.1 c.2.2.1 c.2.2.2.1 c.2.2.2.2.1) x.U0.length (λi=>(((car:Int),(),(),x.U0,(x.U0.length:Int),(i:Int),()),(b.tup,(x.D0,x.I0,x.E3,x.U0,x.V2,x.N3,()),()))) (Ya b car x) (Sum.inl ((),())) (Sum.inr ((E,()),())) (λi hi=>by
  show EX (car:Int) x.U0 (x.U0.length:Int) (i:Int) b.C0 b.E0 b.H0 b.M0 b.J0 b.L0 b.N0 b.B0 x.D0 x.I0 x.E3 x.U0 x.V2 x.N3=_;unfold EX;simp only[L (ω:(i:Int)<(x.U0.length:Int)),Ac (ω:(0:Int)≤(i:Int)) (ω:(i:Int)<(x.U0.length:Int)),Ac (ω:(0:Int)≤(car:Int)) (ω:(car:Int)<(b.B0.length:Int)),d_,i_,Mf hb,Tr,a_]
  rw[show Duty.mk 0 0 0=DH from rfl,show Car.mk 0 0 0 0 0 0 0 0 0=⟨0,0,0,0,0,0,0,0,0⟩from rfl]
  rw[show b.B0.getD car ⟨0,0,0,0,0,0,0,0,0⟩=HY b car from rfl]
  unfold Ya As4;cases Am b (x.U0.getD i DH).D0 (x.U0.getD i DH).I0 with
  |false=>rfl
  |true=>
  cases C 0 (HY b car).I1 (x.U0.getD i DH).C5 with
  |false=>rfl
  |true=>
   simp only[o_,O,n_];by_cases i0:i=0
   ·subst i0
    simp only[show decide ((0:Int)<((0:Nat):Int))=E from rfl,O,a_,Dp hi (ω:x.U0.length≤AG)]
    rfl
   ·rw[L (ω:(0:Int)<(i:Int)),show(i==0)=E by simpa using i0]
    simp only[d_,g6_,Aa (n:=(i:Int)-1) ω ω,Ac (ω:(0:Int)≤(i:Int)-1) (ω:(i:Int)-1<(x.U0.length:Int))]
    obtain⟨n,e1,e2⟩:=ZM (x.U0.getD (i-1) DH) (x.U0.getD i DH);rw[show R ((i:Int)-1)=i-1 by omega]
    rw[e1];simp only[a_,e2,Dp hi (ω:x.U0.length≤AG)]
    cases SJ (x.U0.getD (i-1) DH) (x.U0.getD i DH)<;>rfl) (by
  show EX (car:Int) x.U0 (x.U0.length:Int) (x.U0.length:Int) b.C0 b.E0 b.H0 b.M0 b.J0 b.L0 b.N0 b.B0 x.D0 x.I0 x.E3 x.U0 x.V2 x.N3=_;unfold EX;simp only[f_ (H_ (x.U0.length:Int)),O]) x.U0.length 0 ω) ω
 have h':IT (((car:Int),(),(),x.U0,(x.U0.length:Int),(0:Int),()),(b.tup,(x.D0,x.I0,x.E3,x.U0,x.V2,x.N3,()),()))=_:=h;simp only[aB]at h';unfold Co Pt;rw[Bi,hcode];simp only[Tr,a_,T_,O,Aa (n:=(b.B0.length:Int)-1) ω ω,Aa (n:=b.C0-1) ω ω,show C 0 ((b.B0.length:Int)-1) (car:Int)=I from Ao.2 ⟨ω,ω⟩,o_]
 cases C (-1) (b.C0-1) x.D0 with
 |false=>rfl
 |true=>
 cases C 0 3 x.I0 with
 |false=>rfl
 |true=>
 cases C 0 3 x.E3 with
 |false=>rfl
 |true=>
 cases C 0 1000000 x.V2 with
 |false=>rfl
 |true=>
  simp only[o_,O,n_];cases hL:x.N3 with
  |false=>
   rw[hL]at h';simp only[O,a_,a4_,c0_,n_,h'];cases Lw (Ya b car x) x.U0.length 0<;>rfl
  |true=>
   rw[hL]at h';cases hD:decide ((0:Int)<(x.U0.length:Int))with
   |true=>simp only[d_,a_];rfl
   |false=>
    simp only[d_,O,a_,c2_,c0_,n_,h'];cases Lw (Ya b car x) x.U0.length 0<;>rfl
def Qv(x:S):Bool:=C 0 2 x.V1&&C 0 7 x.E1
def SA(x:S):Bool:=(x.Y0==0)&&((x.N1==0)&&((x.H1==0)&&((x.K1==E)&&((x.D1==0)&&I))))
def Ry(x:S):Bool:=bif x.Y0==0 then SA x else C 0 3 x.Y0&&(C 0 1000000 x.N1&&(C 0 1000000 x.H1&&C 0 1000000 x.D1))
def Am1(x:S):Bool:=(x.T0==0)&&((x.X0==0)&&((x.Q0==0)&&I))
def UE(fl:Int)(x:S):Bool:=C 0 1000000 x.X0&&(bif x.T0==0 then x.Q0==0 else bif x.T0==1 then C 0 (fl-1) x.Q0&&C 0 (fl-1) (x.Q0+1)else bif x.T0==2 then C 0 (fl-1) x.Q0&&C 0 (fl-1) (x.Q0-1)else E)
def Afm(x:S):Bool:=(x.V1==0)&&((x.E1==0)&&((x.Y0==0)&&((x.N1==0)&&((x.H1==0)&&((x.K1==E)&&((x.D1==0)&&((x.T0==0)&&((x.X0==0)&&((x.Q0==0)&&((x.Y1==0)&&((x.X2==0)&&((x.I3==0)&&((x.Z2==I)&&I)))))))))))))
def Aeh(fl:Int)(x:S):Bool:=(Int.fdiv x.Y1 ((2:Int)^(R fl))==0)&&(C 0 2 x.X2&&C 0 1000000 x.I3)
def VQ(fl:Int)(x:S):Bool:=Qv x&&(Ry x&&(UE fl x&&((SA x||Am1 x)&&Aeh fl x)))
def EN(b:Bldg)(x:S):Bool:=bif x.Z2 then Afm x else VQ b.C0 x
def JZ(x:S):Fm x.V1 x.E1=J ((Qv x,()),()):=by
 unfold Fm Qv C;cases decide (0≤x.V1)<;>cases decide (x.V1≤2)<;>cases decide (0≤x.E1)<;>rfl
def Ac9(n:Int):HH n=J ((C 0 1000000 n,()),()):=by
 unfold HH C;cases decide (0≤n)<;>rfl
def PF(x:S):Gi x.Y0 x.N1 x.H1 x.K1 x.D1=J ((Ry x,()),()):=by
 unfold Gi Ry SA;simp only[Ac9,a_];cases x.Y0==0 with
 |true=>rfl
 |false=>
  unfold C;cases decide (0≤x.Y0)<;>cases decide (x.Y0≤3)<;>cases(decide (0≤x.N1)&&decide (x.N1≤1000000))<;>cases(decide (0≤x.H1)&&decide (x.H1≤1000000))<;>rfl
def Nk(h:2≤fl∧fl≤8)(x:S):Gj fl x.T0 x.X0 x.Q0=J ((UE fl x,()),()):=by
 unfold Gj UE;rw[f_ (ω:¬fl<2),f_ (ω:¬32<fl)]
 simp only[O];by_cases t:0≤x.X0∧x.X0≤1000000
 ·rw[f_ (ω:¬x.X0<0),f_ (ω:¬1000000<x.X0),show C 0 1000000 x.X0=I from Ao.2 t]
  simp only[O,n_];by_cases f:0≤x.Q0∧x.Q0<fl
  ·rw[f_ (ω:¬x.Q0<0),f_ (ω:¬fl≤x.Q0),show C 0 (fl-1) x.Q0=I from Ao.2 ⟨f.1,ω⟩]
   simp only[O,n_];by_cases c0:x.T0=0
   ·rw[c0];rfl
   ·rw[An c0]
    simp only[O];unfold Fu;by_cases c1:x.T0=1
    ·rw[c1]
     simp only[T_,O,a_,show inB 1 3=I from rfl,d_,l_]
     rw[show List.getD [(0:Int),1,-1] (R 1) 0=1 from rfl,Aa ω ω]
     unfold C;by_cases z:x.Q0+1<fl
     ·rw[L z,L (ω:0≤x.Q0+1),L (ω:x.Q0+1≤fl-1)];rfl
     ·rw[f_ z,L (ω:0≤x.Q0+1),f_ (ω:¬x.Q0+1≤fl-1)];rfl
    ·rw[FG c1,An c1]
     simp only[d_,O];by_cases c2:x.T0=2
     ·rw[c2]
      simp only[T_,O,a_,show inB 2 3=I from rfl,d_,l_]
      rw[show List.getD [(0:Int),1,-1] (R 2) 0=-1 from rfl,Aa ω ω,show x.Q0+ -1=x.Q0-1 by omega]
      unfold C;by_cases z:0≤x.Q0-1
      ·rw[L z,L (ω:x.Q0-1<fl),L (ω:x.Q0-1≤fl-1)];rfl
      ·rw[f_ z];rfl
     ·rw[FG c2,An c2]
      rfl
  ·have hf:C 0 (fl-1) x.Q0=E:=by
    cases hq:C 0 (fl-1) x.Q0 with
    |false=>rfl
    |true=>have:=Ao.1 hq;omega
   rw[hf];have hz:(x.Q0==0)=E:=An ω
   rw[hz];simp only[a4_]
   have e:(bif x.T0==0 then E else bif x.T0==1 then E else bif x.T0==2 then E else E)=E:=by
    cases x.T0==0<;>cases x.T0==1<;>cases x.T0==2<;>rfl
   rw[e];by_cases z:x.Q0<0
   ·rw[L z];rfl
   ·rw[f_ z,L (ω:fl≤x.Q0)];rfl
 ·have hf:C 0 1000000 x.X0=E:=by
   cases hq:C 0 1000000 x.X0 with
   |false=>rfl
   |true=>exact absurd (Ao.1 hq) t
  rw[hf];simp only[a4_];by_cases z:x.X0<0
  ·rw[L z];rfl
  ·rw[f_ z,L (ω:1000000<x.X0)];rfl
def Jy(hb:b.small)(hcode:b.code=0)(x:S):DU b.C0 b.E0 b.H0 b.M0 b.J0 b.L0 b.N0 b.B0 x.V1 x.E1 x.Y0 x.N1 x.H1 x.K1 x.D1 x.T0 x.X0 x.Q0 x.Y1 x.X2 x.I3 x.Z2=J ((EN b x,()),()):=by
 have lo:=hb.lo;have hi8:=hb.hi;have hmin:Min.min (R b.C0) (IntKind.bits IntKind.u32)=R b.C0:=d0_ (by show _≤32;omega)
 unfold DU EN;rw[Bi,hcode];simp only[a_,T_,O];have main:VQ b.C0 x=VQ b.C0 x:=rfl;cases hF:x.Z2 with
 |true=>
  have hZ:Afm x=((x.V1==0)&&((x.E1==0)&&((x.Y0==0)&&((x.N1==0)&&((x.H1==0)&&((x.K1==E)&&((x.D1==0)&&((x.T0==0)&&((x.X0==0)&&((x.Q0==0)&&((x.Y1==0)&&((x.X2==0)&&((x.I3==0)&&((I==I)&&I)))))))))))))):=by unfold Afm;rw[hF]
  rw[d_,← hZ];cases hq:Afm x with
  |false=>rfl
  |true=>
   have hq':=hq;unfold Afm at hq';simp only[e_,R_]at hq';obtain⟨e1,e2,e3,e4,e5,e6,e7,e8,e9,e10,e11,e12,e13,_⟩:=hq';simp only[o_,a_,O,d_,JZ,PF,Nk ⟨lo,hi8⟩];have s1:Qv x=I:=by unfold Qv;rw[e1,e2];rfl
   have s2:Ry x=I:=by unfold Ry SA;rw[e3,e4,e5,e6,e7];rfl
   have s3:UE b.C0 x=I:=by unfold UE;rw[e8,e9,e10];rfl
   rw[s1,s2,s3,e3,e4,e5,e6,e7,e11,e12,e13];simp only[l_,c6_,o_,O,a_];rw[L (ω:0≤b.C0),hmin]
   simp only[d_];rw[show Int.fdiv 0 ((2:Int)^R b.C0)=0 from Int.zero_fdiv _]
   rfl
 |false=>
  simp only[a_,O,JZ,PF,Nk ⟨lo,hi8⟩];unfold VQ;cases Qv x with
  |false=>rfl
  |true=>
  cases Ry x with
  |false=>rfl
  |true=>
  cases UE b.C0 x with
  |false=>rfl
  |true=>
   simp only[o_,O,n_];rw[show((x.Y0==0)&&((x.N1==0)&&((x.H1==0)&&((x.K1==E)&&((x.D1==0)&&I)))))=SA x from rfl,show((x.T0==0)&&((x.X0==0)&&((x.Q0==0)&&I)))=Am1 x from rfl]
   have fin:(bif decide (0≤b.C0)then bif(Int.fdiv x.Y1 ((2:Int)^(R b.C0))==0)then bif decide (0≤x.X2)then bif decide (x.X2≤2)then bif decide (0≤x.I3)then J ((decide (x.I3≤1000000),()),())else J ((E,()),())else J ((E,()),())else J ((E,()),())else J ((E,()),())else none)=J ((Aeh b.C0 x,()),()):=by
    rw[L (ω:0≤b.C0)]
    unfold Aeh C;cases Int.fdiv x.Y1 ((2:Int)^(R b.C0))==0<;>cases decide (0≤x.X2)<;>cases decide (x.X2≤2)<;>cases decide (0≤x.I3)<;>rfl
   cases SA x with
   |true=>
    simp only[o_,O,a_,Bool.true_or,n_];rw[hmin,fin];rfl
   |false=>
    cases Am1 x with
    |true=>
     simp only[o_,c0_,d_,O,a_,g6_,n_];rw[hmin,fin];rfl
    |false=>rfl
def FY{α:Type}(p:Nat→α→Bool)(d:α)(l:List α)(n:Int):Bool:=((l.length:Int)==n)&&Lw (λi=>p i (l.getD i d)) l.length 0
def RD(x:Loaded):Bool:=C 0 4 x.T5
def ZO(hb:b.small)(hcode:b.code=0){l:List Debounced}(_hl:l.length≤100000):Bd l (b.B0.length:Int) b.C0 b.E0 b.H0 b.M0 b.J0 b.L0 b.N0 b.B0=J ((FY (λ_ x=>LQ b.E0 x) Ct l (b.B0.length:Int),()),(b.tup,())):=by
 have h5:100000≤AG:=by decide
 have lo:=hb.lo;have hcc:=Aj hcode;unfold Bd FY;by_cases hn:l.length=b.B0.length
 ·have h:=Ai (Ml (step:=λx=>letI a:=x.2.1.2.2;letI c:=a.2.2;Aw x.1.2.1 x.1.2.2.1 x.1.2.2.2.1 x.2.1.1 x.2.1.2.1 a.1 a.2.1 c.1 c.2.1 c.2.2.1 c.2.2.2.1) l.length (λi=>(((),l,(l.length:Int),(i:Int),()),(b.tup,()))) (λi=>(λ_ x=>LQ b.E0 x) i (l.getD i Ct)) (Sum.inl ((),(b.tup,()))) (Sum.inr ((E,()),(b.tup,()))) (λi hi=>by
   show Aw l (l.length:Int) (i:Int) b.C0 b.E0 b.H0 b.M0 b.J0 b.L0 b.N0 b.B0=_;unfold Aw Gk;simp only[L (ω:(i:Int)<(l.length:Int)),Ac (ω:(0:Int)≤(i:Int)) (ω:(i:Int)<(l.length:Int)),d_,i_,Dp hi (ω:l.length≤AG)]
   rw[show Debounced.mk 0 E E E E 0 0 0 0 0 0 0 0 0 0 0 0 0 0 0 0 0 0 0 0 0 0 0 0 0 0 0 0 0 0 0 0 0 0 0 0=Ct from rfl]
   rw[XV b.E0 (l.getD i Ct)];simp only[a_];generalize LQ b.E0 (l.getD i Ct)=q;cases q<;>rfl) (by
   show Aw l (l.length:Int) (l.length:Int) b.C0 b.E0 b.H0 b.M0 b.J0 b.L0 b.N0 b.B0=_;unfold Aw;simp only[f_ (H_ (l.length:Int)),O];rfl) l.length 0 ω) ω
  have h':Bb (((),l,(l.length:Int),(0:Int),()),(b.tup,()))=_:=h;simp only[aB]at h';rw[show((l.length:Int) !=(b.B0.length:Int))=E by rw[hn,T_],show((l.length:Int)==(b.B0.length:Int))=I by rw[hn];exact l_ _]
  simp only[O,n_,h'];generalize Lw (λi=>(λ_ x=>LQ b.E0 x) i (l.getD i Ct)) l.length 0=q
  cases q<;>rfl
 ·rw[show((l.length:Int) !=(b.B0.length:Int))=I from FG ω,An (ω:¬(l.length:Int)=(b.B0.length:Int))]
  rfl
def Afu(hb:b.small)(hcode:b.code=0){l:List Belief}(_hl:l.length≤100000)(hd:∀x∈l,x.U0.length≤100000):Bk l (b.B0.length:Int) b.C0 b.E0 b.H0 b.M0 b.J0 b.L0 b.N0 b.B0=J ((FY (λi x=>Pt b i x) (aA 0 0 0 [] 0 E) l (b.B0.length:Int),()),(b.tup,())):=by
 have h5:100000≤AG:=by decide
 have lo:=hb.lo;have hcc:=Aj hcode;unfold Bk FY;by_cases hn:l.length=b.B0.length
 ·have h:=Ai (Ml (step:=λx=>letI a:=x.2.1.2.2;letI c:=a.2.2;AD x.1.2.1 x.1.2.2.1 x.1.2.2.2.1 x.2.1.1 x.2.1.2.1 a.1 a.2.1 c.1 c.2.1 c.2.2.1 c.2.2.2.1) l.length (λi=>(((),l,(l.length:Int),(i:Int),()),(b.tup,()))) (λi=>(λi x=>Pt b i x) i (l.getD i (aA 0 0 0 [] 0 E))) (Sum.inl ((),(b.tup,()))) (Sum.inr ((E,()),(b.tup,()))) (λi hi=>by
   show AD l (l.length:Int) (i:Int) b.C0 b.E0 b.H0 b.M0 b.J0 b.L0 b.N0 b.B0=_;unfold AD Gl;simp only[L (ω:(i:Int)<(l.length:Int)),Ac (ω:(0:Int)≤(i:Int)) (ω:(i:Int)<(l.length:Int)),d_,i_,Dp hi (ω:l.length≤AG)]
   
   have hm:=CA (aA 0 0 0 [] 0 E) hi;rw[RX hb hcode (ω:i<b.B0.length) (l.getD i (aA 0 0 0 [] 0 E)) (hd _ hm)]
   simp only[a_];generalize Pt b i (l.getD i (aA 0 0 0 [] 0 E))=q;cases q<;>rfl) (by
   show AD l (l.length:Int) (l.length:Int) b.C0 b.E0 b.H0 b.M0 b.J0 b.L0 b.N0 b.B0=_;unfold AD;simp only[f_ (H_ (l.length:Int)),O];rfl) l.length 0 ω) ω
  have h':Bg (((),l,(l.length:Int),(0:Int),()),(b.tup,()))=_:=h;simp only[aB]at h';rw[show((l.length:Int) !=(b.B0.length:Int))=E by rw[hn,T_],show((l.length:Int)==(b.B0.length:Int))=I by rw[hn];exact l_ _]
  simp only[O,n_,h'];generalize Lw (λi=>(λi x=>Pt b i x) i (l.getD i (aA 0 0 0 [] 0 E))) l.length 0=q
  cases q<;>rfl
 ·rw[show((l.length:Int) !=(b.B0.length:Int))=I from FG ω,An (ω:¬(l.length:Int)=(b.B0.length:Int))]
  rfl
def Afw(hb:b.small)(hcode:b.code=0){l:List S}(_hl:l.length≤100000):Bl l (b.B0.length:Int) b.C0 b.E0 b.H0 b.M0 b.J0 b.L0 b.N0 b.B0=J ((FY (λ_ x=>EN b x) AX l (b.B0.length:Int),()),(b.tup,())):=by
 have h5:100000≤AG:=by decide
 have lo:=hb.lo;have hcc:=Aj hcode;unfold Bl FY;by_cases hn:l.length=b.B0.length
 ·have h:=Ai (Ml (step:=λx=>letI a:=x.2.1.2.2;letI c:=a.2.2;AE x.1.2.1 x.1.2.2.1 x.1.2.2.2.1 x.2.1.1 x.2.1.2.1 a.1 a.2.1 c.1 c.2.1 c.2.2.1 c.2.2.2.1) l.length (λi=>(((),l,(l.length:Int),(i:Int),()),(b.tup,()))) (λi=>(λ_ x=>EN b x) i (l.getD i AX)) (Sum.inl ((),(b.tup,()))) (Sum.inr ((E,()),(b.tup,()))) (λi hi=>by
   show AE l (l.length:Int) (i:Int) b.C0 b.E0 b.H0 b.M0 b.J0 b.L0 b.N0 b.B0=_;unfold AE Gm;simp only[L (ω:(i:Int)<(l.length:Int)),Ac (ω:(0:Int)≤(i:Int)) (ω:(i:Int)<(l.length:Int)),d_,i_,Dp hi (ω:l.length≤AG)]
   rw[show NewCar.mk 0 0 0 0 0 E 0 0 0 0 0 0 0 E=AX from rfl]
   rw[Jy hb hcode (l.getD i AX)];simp only[a_];generalize EN b (l.getD i AX)=q;cases q<;>rfl) (by
   show AE l (l.length:Int) (l.length:Int) b.C0 b.E0 b.H0 b.M0 b.J0 b.L0 b.N0 b.B0=_;unfold AE;simp only[f_ (H_ (l.length:Int)),O];rfl) l.length 0 ω) ω
  have h':Bh (((),l,(l.length:Int),(0:Int),()),(b.tup,()))=_:=h;simp only[aB]at h';rw[show((l.length:Int) !=(b.B0.length:Int))=E by rw[hn,T_],show((l.length:Int)==(b.B0.length:Int))=I by rw[hn];exact l_ _]
  simp only[O,n_,h'];generalize Lw (λi=>(λ_ x=>EN b x) i (l.getD i AX)) l.length 0=q
  cases q<;>rfl
 ·rw[show((l.length:Int) !=(b.B0.length:Int))=I from FG ω,An (ω:¬(l.length:Int)=(b.B0.length:Int))]
  rfl
def Afv(hb:b.small)(hcode:b.code=0){l:List Loaded}(_hl:l.length≤100000):BH l (b.B0.length:Int)=J ((FY (λ_ x=>RD x) Hs l (b.B0.length:Int),()),()):=by
 have h5:100000≤AG:=by decide
 have lo:=hb.lo;have hcc:=Aj hcode;unfold BH FY;by_cases hn:l.length=b.B0.length
 ·have h:=Ai (Ml (step:=λx=>AQ x.1.2.1 x.1.2.2.1 x.1.2.2.2.1) l.length (λi=>(((),l,(l.length:Int),(i:Int),()),())) (λi=>(λ_ x=>RD x) i (l.getD i Hs)) (Sum.inl ((),())) (Sum.inr ((E,()),())) (λi hi=>by
   show AQ l (l.length:Int) (i:Int)=_;unfold AQ JM;simp only[L (ω:(i:Int)<(l.length:Int)),Ac (ω:(0:Int)≤(i:Int)) (ω:(i:Int)<(l.length:Int)),d_,i_,Dp hi (ω:l.length≤AG)]
   rw[show Loaded.mk 0=Hs from rfl]
   have hk:∀c:Int,(Option.bind (bif decide (0≤c)then J ((decide (c≤4),()),())else J ((E,()),())) λy1:(Bool×Unit)×Unit=>J ((y1.1.1,()),()))=J ((C 0 4 c,()),()):=λc=>by
    unfold C;cases decide (0≤c)<;>rfl
   rw[hk];simp only[a_];show(bif !(RD (l.getD i Hs))then _ else _)=_;generalize RD (l.getD i Hs)=q;cases q<;>rfl) (by
   show AQ l (l.length:Int) (l.length:Int)=_;unfold AQ;simp only[f_ (H_ (l.length:Int)),O]) l.length 0 ω) ω
  have h':Bw (((),l,(l.length:Int),(0:Int),()),())=_:=h
  skip
  rw[show((l.length:Int) !=(b.B0.length:Int))=E by rw[hn,T_],show((l.length:Int)==(b.B0.length:Int))=I by rw[hn];exact l_ _]
  simp only[O,n_,h'];generalize Lw (λi=>(λ_ x=>RD x) i (l.getD i Hs)) l.length 0=q
  cases q<;>rfl
 ·rw[show((l.length:Int) !=(b.B0.length:Int))=I from FG ω,An (ω:¬(l.length:Int)=(b.B0.length:Int))]
  rfl
def Zx(b:Bldg)(m:Mch):Bool:=PI b m.G0&&(decide (m.Z0.ok b.H0)&&(((m.U1.length:Int)==(m.G0.A0.length:Int))&&(PE m.U1&&(PE [m.T3,m.T2,m.H2]&&(FY (λ_ x=>LQ b.E0 x) Ct m.S1 (b.B0.length:Int)&&(FY (λi x=>Pt b i x) (aA 0 0 0 [] 0 E) m.W0 (b.B0.length:Int)&&(FY (λ_ x=>EN b x) AX m.B0 (b.B0.length:Int)&&(FY (λ_ x=>RD x) Hs m.R2 (b.B0.length:Int)&&((m.B3.length:Int)==(b.B0.length:Int))))))))))
def Xa(hb:b.small)(hcode:b.code=0){m:Mch}(hm:m.fit):Gf b.C0 b.E0 b.H0 b.M0 b.J0 b.L0 b.N0 b.B0 m.G0.F0 m.G0.O0 m.G0.K0 m.G0.A0 m.Z0.h0 m.Z0.h1 m.Z0.sel m.S1 m.W0 m.B0 m.R2 m.U1 m.B3 m.T3 m.T2 m.H2=J ((Zx b m,()),()):=by
 have hcc:=Aj hcode;have hex:=hm.ex;unfold Gf Zx;rw[Aei hb m.G0 ω hm.im,IS,Sa (xs:=m.U1) ω,Sa (xs:=[m.T3,m.T2,m.H2]) (by show 3≤1000000;omega)]
 simp only[a_];rw[show decide (Sto.ok b.H0 ⟨m.Z0.h0,m.Z0.h1,m.Z0.sel⟩)=decide (m.Z0.ok b.H0)from rfl]
 cases PI b m.G0 with
 |false=>rfl
 |true=>
 cases decide (m.Z0.ok b.H0)with
 |false=>rfl
 |true=>
 simp only[bne];cases((m.U1.length:Int)==(m.G0.A0.length:Int))with
 |false=>rfl
 |true=>
 cases PE m.U1 with
 |false=>rfl
 |true=>
 cases PE [m.T3,m.T2,m.H2]with
 |false=>rfl
 |true=>
 simp only[o_,O,n_];rw[ZO hb hcode hm.co];simp only[a_,aB];rw[Afu hb hcode hm.be hm.du];simp only[a_,aB];rw[Afw hb hcode hm.ca];simp only[a_,aB];rw[Afv hb hcode hm.lo];simp only[a_];generalize FY (λ_ x=>LQ b.E0 x) Ct m.S1 (b.B0.length:Int)=q1
 generalize FY (λi x=>Pt b i x) (aA 0 0 0 [] 0 E) m.W0 (b.B0.length:Int)=q2
 generalize FY (λ_ x=>EN b x) AX m.B0 (b.B0.length:Int)=q3
 generalize FY (λ_ x=>RD x) Hs m.R2 (b.B0.length:Int)=q4
 cases q1<;>cases q2<;>cases q3<;>cases q4<;>rfl
def Alh(h:b.code=0):1≤b.E0∧b.E0≤16:=by
 unfold Bldg.code at h;cases h1:C 2 32 b.C0<;>rw[h1]at h
 ·cases h
 cases h2:C 1 8 (b.B0.length:Int)<;>rw[h2]at h
 ·cases h
 cases h3:C 1 16 b.E0<;>rw[h3]at h
 ·cases h
 exact Ao.1 h3
def Au5(h:Cm fl c=I):0≤c.I1∧c.I1≤1000000:=by
 unfold Cm at h;rw[e_,E_]at h
 have:=Ao.1 (h.1 c.I1 (s_ ..))
 omega
def Ahd(h:b.code=0)(hc:c∈b.B0):0≤c.I1∧c.I1≤1000000:=by
 unfold Bldg.code at h;cases h1:C 2 32 b.C0<;>rw[h1]at h
 ·cases h
 cases h2:C 1 8 (b.B0.length:Int)<;>rw[h2]at h
 ·cases h
 cases h3:C 1 16 b.E0<;>rw[h3]at h
 ·cases h
 cases h4:C 1 10000 b.M0<;>rw[h4]at h
 ·cases h
 cases h5:b.B0.all (Cm b.C0)<;>rw[h5]at h
 ·cases h
 exact Au5 (E_.1 h5 c hc)
def Bc7(h:1≤n∧n≤16):LQ n Ct=I:=by
 unfold LQ;rw[L h.1,L h.2,n_,n_];refine Rm 36 0 λk _ hk=>?_
 unfold Afo
 have:(Qk Ct).getD k 0=0:=by
  show(List.replicate 36 (0:Int)).getD k 0=0;rw[k_,List.getElem?_replicate];split<;>rfl
 rw[this,L (ω:(0:Int)<n)];rfl
def HG(n:Int):0≤IntKind.u32.wrap n∧IntKind.u32.wrap n<4294967296:=by
 simp only[aC,IntKind.signed,IntKind.bits];simp;exact⟨Int.emod_nonneg _ (by decide),Int.emod_lt_of_pos _ (by decide)⟩
def Aca(n:Int):0≤IntKind.u8.wrap n∧IntKind.u8.wrap n<256:=by
 simp only[aC,IntKind.signed,IntKind.bits];simp;exact⟨Int.emod_nonneg _ (by decide),Int.emod_lt_of_pos _ (by decide)⟩
def Au6(n:Int):P (CH n) λy=>0≤y.1.1∧y.1.1≤32:=by
 unfold CH;refine B (λ_=>A (show(0:Int)≤32∧(32:Int)≤32 by decide)) λ_=>V (Ac ?_ ?_) (A ?_)
 ·rw[V_ _ (by decide)]
  exact Int.ediv_nonneg (HG _).1 (by decide)
 ·rw[V_ _ (by decide)]
  refine Int.ediv_lt_of_lt_mul (by decide) ?_
  exact(HG _).2
 ·have h:∀(l:List Int) (k:Nat),(∀x∈l,0≤x∧x≤32)→0≤N.wrap (l.getD k 0)∧N.wrap (l.getD k 0)≤32:=λl k h=>by
   have:0≤l.getD k 0∧l.getD k 0≤32:=by
    by_cases hk:k<l.length
    ·rw[k_,j_ hk];exact h _ (b2_ hk)
    ·rw[k_,List.getElem?_eq_none ω];decide
   rw[Aa ω ω]
   exact this
  exact h _ _ (by decide)
instance tz_ti(n:Int):SatT (CH n):=⟨(Au6 n).any⟩
def Aya(s:ByteArray)(i:Nat):0≤AF s i∧AF s i≤255:=by
 unfold AF
 have:=(s.data.getD i 0).toNat_lt
 omega
def At1(n:Int):P (JB n) λy=>0≤y.1.1∧y.1.1≤300:=by
 unfold JB;refine H (Q:=λy=>y.1.2.1=0∨y.1.2.1=16) (B (λ_=>A (.inr rfl)) λ_=>A (.inl rfl)) λy1 h1=>H (Q:=λy=>0≤y.1.2.1∧y.1.2.1≤24) (B (λ_=>A ?_) λ_=>A ?_) λy2 h2=>?_
 ·show 0≤N.wrap (y1.1.2.1+8)∧N.wrap (y1.1.2.1+8)≤24
  rw[Aa ω ω];omega
 ·show 0≤y1.1.2.1∧y1.1.2.1≤24
  omega
 refine V (Ac (Aca _).1 (Aca _).2) (A ?_)
 have h:∀s i,0≤N.wrap (y2.1.2.1+N.wrap (AF s i))∧N.wrap (y2.1.2.1+N.wrap (AF s i))≤300:=λs i=>by
  have:=Aya s i
  rw[Aa (n:=AF s i) ω ω,Aa ω ω]
  omega
 exact h _ _
instance len_ti(n:Int):SatT (JB n):=⟨(At1 n).any⟩
def Ald(a b c d:Int):P (DT a b c d) λ_=>True:=⟨_,Ld (a,b) (c,d),trivial⟩
def ZY(a b:Int){F D:Int}(hF:0≤F∧F<32)(hD:D=1∨D=2):P (Dq a b F D) λ_=>True:=⟨_,Pz (a,b) hF hD,trivial⟩
def Bps(fl d o f a b c:Int)(h:0≤fl)(hf:0≤f∧f<32):P (Jo fl d o f a b c) λy=>y.2.1.2.2.2.2.2.1=o:=by
 unfold Jo;have g:=L hf.1;refine V (L h) (H (Ald ..) λy1 _=>V g (H (ZY _ _ hf (.inl rfl)) λy2 _=>H (ZY _ _ hf (.inr rfl)) λy3 _=>?_))
 refine H (Q:=λy=>y.1.1=f∧y.2.2.1.2.2.2.2.2.1=o) (V g (B (λ_=>H (Au6 _) λ_ _=>A ⟨rfl,rfl⟩) λ_=>A ⟨rfl,rfl⟩)) λy5 h5=>?_
 refine V (L (by rw[h5.1];exact hf.1)) (B (λ_=>H (At1 _) λ_ _=>A h5.2) λ_=>A h5.2)
def Bah(a b c:Bool)(d e o:Int):P (Fd a b c d e o) λy=>y.2.1.2.2.2.2.2.1=o∨y.2.1.2.2.2.2.2.1=0:=by
 unfold Fd;refine H (Q:=λy=>y.2.1.2.2.2.2.2.1=o) ?_ λy1 h1=>?_
 ·refine B (λ_=>?_) λ_=>?_<;>exact B (λ_=>B (λ_=>A rfl) λ_=>A rfl) λ_=>B (λ_=>A rfl) λ_=>A rfl
 refine H (Q:=λy=>y.2.2.1.2.2.2.2.2.1=o) ?_ λy2 h2=>?_
 ·refine B (λ_=>?_) λ_=>?_<;>exact B (λ_=>B (λ_=>A h1) λ_=>A h1) λ_=>B (λ_=>A h1) λ_=>A h1
 exact B (λ_=>A (.inl h2)) λ_=>B (λ_=>A (.inl h2)) λ_=>B (λ_=>A (.inl h2)) λ_=>B (λ_=>A (.inl h2)) λ_=>B (λ_=>A (.inl h2)) λ_=>A (.inr rfl)
def dir2(n:Int):Prop:=0≤n∧n≤2
def dir2.zero:dir2 0:=⟨by decide,by decide⟩
def dir2.one:dir2 1:=⟨by decide,by decide⟩
def dir2.two:dir2 2:=⟨by decide,by decide⟩
def Bc3(a b c:Bool)(d e o:Int):P (Fp a b c d e o) λy=>dir2 y.1.1:=by
 unfold Fp;refine H (Q:=λ_=>True) Sat.go λy1 _=>?_
 exact B (λ_=>A dir2.one) λ_=>B (λ_=>A dir2.two) λ_=>A dir2.zero
def chP(y:(Unit×Unit)×((Int×Int×Int×Unit)×Unit)):Prop:=dir2 y.2.1.2.1∧dir2 y.2.1.2.2.1
def Arf{f:Int}(c:Bool)(a:Int){s:Int}(o:Bool)(b:Int)(hf:dir2 f)(hs:dir2 s):P (GK f c a s o b) λy=>dir2 y.1.1:=by
 unfold GK;exact B (λ_=>A hf) λ_=>B (λ_=>A hf) λ_=>B (λ_=>A hs) λ_=>B (λ_=>A hs) λ_=>A dir2.zero
def VL(h:dir2 n):P (Ds n) chP:=A ⟨h,h⟩
def Az6(a b c:Bool)(d e o:Int):P (Fc a b c d e o) chP:=by
 unfold Fc;refine H (Bc3 ..) λy h=>?_
 refine B (λ_=>H (VL dir2.one) λ_ h=>A h) λ_=>B (λ_=>H (VL dir2.two) λ_ h=>A h) λ_=>B (λ_=>H (VL h) λ_ h=>A h) λ_=>?_
 exact B (λ_=>A ⟨h,dir2.zero⟩) λ_=>B (λ_=>A ⟨h,dir2.zero⟩) λ_=>A ⟨dir2.zero,dir2.zero⟩
def Aho(a b c:Bool)(d e o:Int):P (DA a b c d e o) chP:=by
 unfold DA;refine H (Q:=λ_=>True) Sat.go λy1 _=>?_
 refine B (λ_=>H (Arf _ _ _ _ dir2.two dir2.one) λ_ h=>H (VL h) λ_ h=>A h) λ_=>B (λ_=>A ⟨dir2.two,dir2.zero⟩) λ_=>?_
 exact B (λ_=>H (VL dir2.one) λ_ h=>A h) λ_=>B (λ_=>A ⟨dir2.one,dir2.zero⟩) λ_=>A ⟨dir2.zero,dir2.zero⟩
def Bdk(a b c:Bool)(d e o:Int):P (Fq a b c d e o) chP:=by
 unfold Fq;refine H (Q:=λ_=>True) Sat.go λy1 _=>?_
 refine B (λ_=>H (Arf _ _ _ _ dir2.one dir2.two) λ_ h=>H (VL h) λ_ h=>A h) λ_=>B (λ_=>A ⟨dir2.one,dir2.zero⟩) λ_=>?_
 exact H (Aho ..) λ_ h=>A h
def Alg{w o f:Int}(a b c:Int)(h:0≤fl)(hf:0≤f∧f<32)(hw:dir2 w):P (Gd fl w o f a b c) λy=>chP ((((),()),y.2))∧(y.1.2.1=o∨y.1.2.1=0):=by
 unfold Gd;refine H (Bps _ _ _ _ _ _ _ h hf) λy1 h1=>H (Bah ..) λy2 h2=>?_
 rw[h1]at h2;refine H (Q:=λy=>chP ((((),()),y.2))∧(y.1.2.1=o∨y.1.2.1=0)) ?_ λy6 h6=>A h6
 refine V (Ac hw.1 (by have:=hw.2;show w<(3:Int);omega)) ?_
 refine B (λ_=>H (Az6 ..) λ_ h=>A ⟨h,h2⟩) λn0=>B (λ_=>H (Bdk ..) λ_ h=>A ⟨h,h2⟩) λn1=>?_
 have e:Nat.beq (R w) 2=I:=by
  have a0:¬R w=0:=λq=>by rw[q]at n0;cases n0
  have a1:¬R w=1:=λq=>by rw[q]at n1;cases n1
  have:R w=2:=by have:=hw.1;have:=hw.2;omega
  rw[this];rfl
 exact V e (H (Aho ..) λ_ h=>A ⟨h,h2⟩)
def S2(d o:Int):Prop:=dir2 d∧0≤o∧o≤7
def S2.zero{d:Int}(h:dir2 d):S2 d 0:=⟨h,by decide,by decide⟩
def Anf(fl w o f:Int):P (Ge fl w o f) λy=>y.1.1=I→2≤fl∧fl≤32∧0≤f∧f<fl∧S2 w o:=by
 unfold Ge;refine H (Q:=λy=>y.1.1=I→2≤fl∧fl≤32∧0≤f∧f<fl∧S2 w o) ?_ λy hy=>A hy
 refine B (λa=>B (λb=>B (λc=>B (λd=>?_) λ_=>A λq=>by cases q) λ_=>A λq=>by cases q) λ_=>A λq=>by cases q) λ_=>A λq=>by cases q
 refine U (JZ { AX with V1:=w,E1:=o }) (A λq=>?_)
 have q:(C 0 2 w&&C 0 7 o)=I:=q;rw[e_]at q;exact⟨m_ a,m_ b,m_ c,m_ d,Ao.1 q.1,Ao.1 q.2⟩
def Ban(fl w o f a b c:Int):P (Ie fl w o f a b c) chP:=by
 unfold Ie;refine H (Anf ..) λy h=>B (λ_=>A ⟨dir2.zero,dir2.zero⟩) λq=>?_
 obtain⟨h1,h2,h3,h4,h5⟩:=h (by simpa using q)
 exact H (Alg _ _ _ ω ⟨h3,ω⟩ h5.1) λ_ h=>A h.1
def Bdf:∀(o:Fin 8) (s:Fin 3),0≤N.wrap (stk ((o.val:Nat):Int) (aC N ((1:Int)*((2:Int)^(Min.min (R ((s.val:Nat):Int)) (IntKind.bits N))))) (BitVec.toNat ((aE (IntKind.bits N) ((o.val:Nat):Int))|||(aE (IntKind.bits N) (aC N ((1:Int)*((2:Int)^(Min.min (R ((s.val:Nat):Int)) (IntKind.bits N)))))))))∧N.wrap (stk ((o.val:Nat):Int) (aC N ((1:Int)*((2:Int)^(Min.min (R ((s.val:Nat):Int)) (IntKind.bits N))))) (BitVec.toNat ((aE (IntKind.bits N) ((o.val:Nat):Int))|||(aE (IntKind.bits N) (aC N ((1:Int)*((2:Int)^(Min.min (R ((s.val:Nat):Int)) (IntKind.bits N)))))))))≤7:=by decide
def Bi0(fl w o f a b c:Int):P (Jn fl w o f a b c) λy=>S2 y.2.1.1 y.2.1.2.1:=by
 unfold Jn;refine H (Anf ..) λy h=>B (λ_=>A (S2.zero dir2.zero)) λq=>?_
 obtain⟨h1,h2,h3,h4,h5⟩:=h (by simpa using q)
 refine H (Alg _ _ _ ω ⟨h3,ω⟩ h5.1) λy2 h=>?_
 refine B (λ_=>A (S2.zero h.1.1)) λ_=>V (L h.1.2.1) (A ⟨h.1.1,?_⟩)
 have ho:0≤y2.1.2.1∧y2.1.2.1<8:=by
  have h5a:=h5.2.1;have h5b:=h5.2.2;rcases h.2 with e | e<;>rw[e]<;>omega
 have hs:dir2 y2.2.1.2.2.1:=h.1.2;have key:=Bdf ⟨y2.1.2.1.toNat,ω⟩ ⟨y2.2.1.2.2.1.toNat,by have:=hs.1;have:=hs.2;omega⟩
 rw[show((y2.1.2.1.toNat:Nat):Int)=y2.1.2.1 from f3_ ho.1,show((y2.2.1.2.2.1.toNat:Nat):Int)=y2.2.1.2.2.1 from f3_ hs.1]at key
 exact key
def D5(a b c:Int)(d:Bool)(e:Int):Prop:=(a=0∧b=0∧c=0∧d=E∧e=0)∨(0<a∧a≤3∧0≤b∧b≤1000000∧0≤c∧c≤1000000∧0≤e∧e≤1000000)
def D5.zero:D5 0 0 0 E 0:=.inl ⟨rfl,rfl,rfl,rfl,rfl⟩
def D5.at{a c:Int}(h:0<a∧a≤3)(hc:0≤c)(hc':c≤1000000)(he:0≤e)(he':e≤1000000):D5 a 0 c d e:=.inr ⟨h.1,h.2,e1_ 0,show(0:Int)≤1000000 from by decide,hc,hc',he,he'⟩
def dN(a b c:Int)(d:Bool)(e:Int):S:={ AX with Y0:=a,N1:=b,H1:=c,K1:=d,D1:=e }
def Ac8(x:S):Ry x=I↔D5 x.Y0 x.N1 x.H1 x.K1 x.D1:=by
 unfold Ry D5 SA C;by_cases g:x.Y0=0
 ·rw[g];simp
 ·rw[An g]
  simp;omega
def VC(a b c:Int)(d:Bool)(e:Int):∃r,Gi a b c d e=J ((r,()),())∧(r=I↔D5 a b c d e):=⟨_,PF (dN a b c d e),Ac8 (dN a b c d e)⟩
def up1(n:Int):Int:=bif decide (1000000<N.wrap (n+1))then 1000000 else N.wrap (n+1)
def Ki(h:0≤n∧n≤1000000):0≤up1 n∧up1 n≤1000000:=by
 unfold up1;rw[Aa ω ω]
 by_cases g:1000000<n+1
 ·rw[L g,d_];decide
 ·rw[f_ g,O];omega
def TA(n:Int):Lk n=J ((up1 n,()),()):=rfl
def Uv(a b c:Int)(d:Bool)(e:Int):JE a b c d e=J (((),()),((a,b,bif c !=0 then up1 c else c,d,e,()),())):=by
 unfold JE;cases c !=0<;>rfl
def Ao2{a b c:Int}(h:D5 a b c d e):P (Nl a b c d e) λy=>letI f:=y.2.1.2;D5 y.2.1.1 f.1 f.2.1 f.2.2.1 f.2.2.2.1:=by
 obtain⟨r,h1,h2⟩:=VC a b c d e;have hr:r=I:=h2.2 h;subst hr;unfold Nl;refine U h1 (B (λ_=>A h) λ_=>B (λ_=>A h) λg=>?_)
 have g:¬a=0:=by simpa using g
 rcases h with h | ⟨p1,p2,p3,p4,p5,p6,p7,p8⟩
 ·exact absurd h.1 g
 refine U (Uv ..) (U (TA _) (A (.inr ⟨p1,p2,(Ki ⟨p3,p4⟩).1,(Ki ⟨p3,p4⟩).2,?_,?_,p7,p8⟩)))
 ·show 0≤(bif c !=0 then up1 c else c)
  cases c !=0 with
  |true=>exact(Ki ⟨p5,p6⟩).1
  |false=>exact p5
 ·show(bif c !=0 then up1 c else c)≤1000000
  cases c !=0 with
  |true=>exact(Ki ⟨p5,p6⟩).2
  |false=>exact p6
def Aaa(c0 c1 c2 c3 c4 c5 c6 c7 c8 a b c:Int)(d:Bool)(e f:Int)(g h:Bool):P (Nm c0 c1 c2 c3 c4 c5 c6 c7 c8 a b c d e f g h) λy=>letI f:=y.2.1.2;D5 y.2.1.1 f.1 f.2.1 f.2.2.1 f.2.2.2.1:=by
 unfold Nm;refine H (Q:=λy=>letI f:=y.2.2.1;D5 f.1 f.2.1 f.2.2.1 f.2.2.2.1 f.2.2.2.2.1) ?_ λy hy=>?_
 ·obtain⟨r,h1,h2⟩:=VC a b c d e
  refine U h1 (B (λ_=>A D5.zero) λk=>A (h2.1 (by simpa using k)))
 refine B (λ_=>B (λ_=>A (D5.at (a:=1) (by decide) (by decide) (by decide) (by decide) (by decide))) λ_=>A hy) λk=>?_
 have k:¬y.2.2.1.1=0:=by simpa using k
 obtain⟨p1,p2,p3,p4,p5,p6,p7,p8⟩:=hy.resolve_left λq=>k q.1
 have hc:0≤(bif y.2.2.1.2.2.1 !=0 then up1 y.2.2.1.2.2.1 else y.2.2.1.2.2.1)∧(bif y.2.2.1.2.2.1 !=0 then up1 y.2.2.1.2.2.1 else y.2.2.1.2.2.1)≤1000000:=by
  cases y.2.2.1.2.2.1 !=0 with
  |true=>exact Ki ⟨p5,p6⟩
  |false=>exact⟨p5,p6⟩
 refine U (Uv ..) ?_;refine H (Q:=λz=>0<z.2.2.1.1∧z.2.2.1.1≤3∧0≤z.2.2.1.2.1∧z.2.2.1.2.1≤1000000∧0≤z.2.2.1.2.2.1∧z.2.2.1.2.2.1≤1000000∧0≤z.2.2.1.2.2.2.2.1∧z.2.2.1.2.2.2.2.1≤1000000) (B (λ_=>A ⟨p1,p2,p3,p4,hc.1,hc.2,p7,p8⟩) λ_=>A ⟨p1,p2,p3,p4,hc.1,hc.2,p7,p8⟩) λz hz=>?_
 refine B (λ_=>U rfl (A (D5.at (a:=2) (by decide) ?_ ?_ hz.2.2.2.2.2.2.1 hz.2.2.2.2.2.2.2))) λ_=>?_
 ·show 0≤(bif decide (z.2.2.1.2.2.1<1)then 1 else z.2.2.1.2.2.1)
  cases decide (z.2.2.1.2.2.1<1)with
  |true=>exact show(0:Int)≤1 from by decide
  |false=>exact hz.2.2.2.2.1
 ·show(bif decide (z.2.2.1.2.2.1<1)then 1 else z.2.2.1.2.2.1)≤1000000
  cases decide (z.2.2.1.2.2.1<1)with
  |true=>exact show(1:Int)≤1000000 from by decide
  |false=>exact hz.2.2.2.2.2.1
 refine H (Q:=λw=>w.2.2.1=z.2.2.1) (B (λ_=>A rfl) λ_=>A rfl) λw hw=>?_
 refine B (λ_=>A D5.zero) λ_=>?_
 refine H (Q:=λv=>v.2.2.1=z.2.2.1) (B (λ_=>B (λ_=>A hw) λ_=>A hw) λ_=>A hw) λv hv=>?_
 have stay:∀n:Int,P (QC v.2.2.1.1 v.2.2.1.2.1 v.2.2.1.2.2.1 v.2.2.1.2.2.2.1 v.2.2.1.2.2.2.2.1 n) λy=>letI b:=y.2.1.2;D5 y.2.1.1 b.1 b.2.1 b.2.2.1 b.2.2.2.1:=λn=>by
  rw[hv];exact U (TA _) (A (.inr ⟨hz.1,hz.2.1,(Ki ⟨hz.2.2.1,hz.2.2.2.1⟩).1,(Ki ⟨hz.2.2.1,hz.2.2.2.1⟩).2,hz.2.2.2.2.1,hz.2.2.2.2.2.1,hz.2.2.2.2.2.2.1,hz.2.2.2.2.2.2.2⟩))
 refine B (λ_=>H (stay 5) λ_ h=>A h) λ_=>?_
 refine B (λ_=>?_) λ_=>?_
 ·rw[hv]
  exact U rfl (A (D5.at (a:=3) (by decide) hz.2.2.2.2.1 hz.2.2.2.2.2.1 hz.2.2.2.2.2.2.1 hz.2.2.2.2.2.2.2))
 refine B (λ_=>H (stay 3) λ_ h=>A h) λ_=>?_
 refine B (λ_=>?_) λ_=>?_
 ·refine H (Q:=λu=>u.2.1=v.2.2.1) (B (λ_=>A rfl) λ_=>A rfl) λu hu=>?_
  rw[hu];refine B (λ_=>?_) λ_=>H (stay 0) λ_ h=>A h
  rw[hv];exact U rfl (A (D5.at (a:=3) (by decide) hz.2.2.2.2.1 hz.2.2.2.2.2.1 hz.2.2.2.2.2.2.1 hz.2.2.2.2.2.2.2))
 refine B (λ_=>?_) λ_=>H (stay 4) λ_ h=>A h
 rw[hv];exact U (TA _) (U rfl (A (D5.at (a:=1) (by decide) hz.2.2.2.2.1 hz.2.2.2.2.2.1 (Ki ⟨hz.2.2.2.2.2.2.1,hz.2.2.2.2.2.2.2⟩).1 (Ki ⟨hz.2.2.2.2.2.2.1,hz.2.2.2.2.2.2.2⟩).2)))
def Ao1(c0 c1 c2 c3 c4 c5 c6 c7 c8 a b c:Int)(d:Bool)(e:Int):P (QB c0 c1 c2 c3 c4 c5 c6 c7 c8 a b c d e) λ_=>True:=by
 unfold QB;exact Sat.go
def M3(fl c t f:Int):Prop:=0≤t∧t≤1000000∧((c=0∧f=0)∨(c=1∧0≤f∧f+1<fl)∨(c=2∧0<f∧f<fl))
def M3.zero:M3 fl 0 0 0:=⟨by decide,by decide,.inl ⟨rfl,rfl⟩⟩
def Aig(hf:2≤fl)(x:S):UE fl x=I↔M3 fl x.T0 x.X0 x.Q0:=by
 unfold UE M3 C;by_cases g:x.T0=0
 ·rw[g];simp
  omega
 by_cases g1:x.T0=1
 ·rw[g1];simp
  omega
 by_cases g2:x.T0=2
 ·rw[g2];simp
  omega
 ·rw[An g,An g1,An g2];simp
  omega
def mN(c t f:Int):S:={ AX with T0:=c,X0:=t,Q0:=f }
def Abr(h:2≤fl∧fl≤8)(c t f:Int):∃r,Gj fl c t f=J ((r,()),())∧(r=I↔M3 fl c t f):=⟨_,Nk h (mN c t f),Aig h.1 (mN c t f)⟩
def UF{f c:Int}(hf:0≤f∧f<fl)(h:fl≤8):P (Fu fl f c) λy=>y.1.2.1=I→(c=1∧0≤f∧f+1<fl)∨(c=2∧0<f∧f<fl):=by
 unfold Fu;by_cases c1:c=1
 ·subst c1
  refine aD (Sat.bifF rfl (V rfl (Sat.bindC (λ_=>aD (A λg=>.inl ⟨rfl,hf.1,?_⟩)) λ_=>aD (A λg=>by cases g))))
  have g:=m_ g;have e:N.wrap (f+List.getD [(0:Int),1,-1] (R 1) 0)=f+1:=Aa (ω:(-9223372036854775808:Int)≤f+1) (ω:f+1<9223372036854775808)
  exact e▸g
 ·rw[FG c1]
  by_cases c2:c=2
  ·subst c2
   have e:N.wrap (f+List.getD [(0:Int),1,-1] (R 2) 0)=f+ -1:=Aa (ω:(-9223372036854775808:Int)≤f+ -1) (ω:f+ -1<9223372036854775808)
   refine aD (Sat.bifF rfl (V rfl (Sat.bindC (λg0=>aD (A λg=>.inr ⟨rfl,?_,hf.2⟩)) λ_=>aD (A λg=>by cases g))))
   have g0:0≤f+ -1:=e▸m_ g0;omega
  ·rw[FG c2]
   exact aD (V rfl (A λg=>by cases g))
def Ajn{c t f:Int}(h:M3 fl c t f):P (KV c t f) λy=>M3 fl y.2.1.1 y.2.1.2.1 y.2.1.2.2.1:=by
 unfold KV;refine H (Q:=λy=>y.2.1=(c,t,f,())∧(y.1.2.2.1=I→t<1000000)) ?_ λy hy=>?_
 ·refine B (λ_=>B (λ_=>A ⟨rfl,λg=>m_ g⟩) λ_=>A ⟨rfl,λg=>by cases g⟩) λ_=>?_
  exact B (λ_=>B (λ_=>A ⟨rfl,λg=>m_ g⟩) λ_=>A ⟨rfl,λg=>by cases g⟩) λ_=>A ⟨rfl,λg=>by cases g⟩
 refine B (λg=>A ?_) λ_=>A ?_
 ·rw[hy.1]
  have ht:=hy.2 g
  have:=h.1
  show M3 fl c (aC N (t+1)) f;rw[Aa ω ω]
  exact⟨ω,ω,h.2.2⟩
 ·rw[hy.1];exact h
def MZ(y:Int×Int×Int×Unit):Prop:=y=(0,0,0,())
def Ajp(h:2≤fl∧fl≤8)(c t f g:Int)(l:Bool)(d:Int)(k:Bool)(w:Int):P (NA fl c t f g l d k w) λy=>M3 fl y.2.1.1 y.2.1.2.1 y.2.1.2.2.1∧(y.1.2.2.1=I→MZ y.2.1)∧(c=0→w=0→l=I→MZ y.2.1):=by
 unfold NA;obtain⟨r,h1,h2⟩:=Abr h c t f;have hz:M3 fl 0 0 0:=M3.zero;refine U h1 (B (λ_=>A ⟨hz,λ_=>rfl,λ_ _ _=>rfl⟩) λhr=>B (λ_=>A ⟨hz,λ_=>rfl,λ_ _ _=>rfl⟩) λa1=>B (λ_=>A ⟨hz,λ_=>rfl,λ_ _ _=>rfl⟩) λa2=>?_)
 have hm:M3 fl c t f:=h2.1 (by simpa using hr)
 have hg:0≤g∧g<fl:=⟨by have:=F_ a1;omega,by have:=F_ a2;omega⟩
 have hf:0≤f∧f<fl:=by rcases hm.2.2 with q | q | q<;>omega
 refine H (UF hf h.2) λy2 b2=>?_
 have nb:c=0→y2.1.2.1=E:=λc0=>by
  cases q:y2.1.2.1 with
  |false=>rfl
  |true=>rcases b2 q with e | e<;>omega
 refine H (Q:=λy=>(y.1.1=fl∧y.1.2.1=w∧y.2.1=(c,t,f,())∧y.2.2.1.1=g)∧y.1.2.2.2.2.2.1=y2.1.2.1∧y.2.2.1.2.1=l) ?_ λy3 h3=>?_
 ·exact B (λ_=>B (λ_=>A ⟨⟨rfl,rfl,rfl,rfl⟩,rfl,rfl⟩) λ_=>A ⟨⟨rfl,rfl,rfl,rfl⟩,rfl,rfl⟩) λ_=>A ⟨⟨rfl,rfl,rfl,rfl⟩,rfl,rfl⟩
 refine B (λ_=>A ⟨hz,λ_=>rfl,λ_ _ _=>rfl⟩) λ_=>?_
 refine H (Q:=λy=>(y.1.1=fl∧y.1.2.1=w∧y.2.1=(c,t,f,())∧y.2.2.1.1=g)∧(c=0→l=I→y.1.2.2.2.2.2.1=E)) ?_ λy4 h4=>?_
 ·refine B (λq=>A ⟨h3.1,λc0 _=>?_⟩) λ_=>A ⟨h3.1,λ_ l1=>?_⟩
  ·rw[h3.2.1,nb c0]at q;cases q
  ·show(!y3.2.2.1.2.1)=E
   rw[h3.2.2,l1];rfl
 obtain⟨⟨e1,e2,e3,e4⟩,e5⟩:=h4;refine B (λq=>A ⟨?_,λg=>(by cases g),λc0 _ l1=>?_⟩) λ_=>?_
 ·rw[e3]
  exact⟨(Ki ⟨hm.1,hm.2.1⟩).1,(Ki ⟨hm.1,hm.2.1⟩).2,hm.2.2⟩
 ·rw[e5 c0 l1]at q;cases q
 rw[e1,e2,e4];refine H (UF hg h.2) λy5 h5=>B (λq=>A ⟨?_,λg=>(by cases g),λ_ w0 _=>?_⟩) λ_=>A ⟨hz,λ_=>rfl,λ_ _ _=>rfl⟩
 ·exact⟨show(0:Int)≤0 from by decide,show(0:Int)≤1000000 from by decide,.inr (h5 q)⟩
 ·rcases h5 q with e | e<;>omega
def Ajm(c0 c1 c2 c3 c4 c5 c6 c7 c8 a b c:Int):P (RK c0 c1 c2 c3 c4 c5 c6 c7 c8 a b c) λ_=>True:=A trivial
def Apa(hcode:b.code=0)(hv:AU b.C0 b.E0 b.H0 b.M0 b.J0 b.L0 b.N0 b.B0=J ((b.code,()),()))(car idle floor:Int):P (QE b.C0 b.E0 b.H0 b.M0 b.J0 b.L0 b.N0 b.B0 car idle floor) λy=>y.1.1=0∨y.1.1=1∨y.1.1=2:=by
 unfold QE;refine U hv (B (λ_=>A (.inl rfl)) λ_=>B (λ_=>A (.inl rfl)) λh1=>B (λ_=>A (.inl rfl)) λh2=>?_)
 have h1:=F_ h1;have h2:=F_ h2;refine B (λ_=>A (.inl rfl)) λ_=>B (λ_=>A (.inl rfl)) λ_=>B (λ_=>A (.inl rfl)) λ_=>?_
 refine V (Ac ω ω) (B (λ_=>A (.inr (.inl rfl))) λ_=>B (λ_=>A (.inr (.inr rfl))) λ_=>A (.inl rfl))
end Go.Ovl
