/- Layer 26: which machines belong to a building: the program's side. -/
import Derived.Test.YtfkphlpmkolemaaGreatDoorOvD
import Derived.Test.YtfkphlpmkolemaaGreatDoorOvC
set_option linter.all false
open Go.Ovl.Sat renaming ret->A,bic->B,bindS->H,bindE->U,bifT->V,bindR->aD
open Go.Ovl renaming inR->C,Sat->P,NewCar->S
open Bool renaming false->E,true->I
open Option renaming some->J
open Go renaming b_->L,c_->O
open Go.IntKind renaming i64->N,wrap->aC
open Int renaming toNat->R
open Go.Ovl.Belief renaming mk->aA
open Go.Ovl.Bldg renaming tup->aB
open BitVec renaming ofInt->aE
namespace Go.Ovl
open Go Go.Ab
set_option maxRecDepth 100000
variable{b:Bldg}{fl n e:Int}{d:Bool}{c:Car}
def QO{p:Nat→Bool}:∀m i:Nat,(∀k,i≤k→k<i+m→p k=I)→HS p m i=I
 |0,_,_=>rfl
 |m+1,i,h=>by
  simp only[HS];rw[h i (z_ _) ω,o_]
  exact QO m (i+1) λk h1 h2=>h k ω ω
def ltD(a b:Int):decide (a<b)=!decide (b≤a):=by
 by_cases h:a<b
 ·rw[L h,e_ (ω:¬b≤a)];rfl
 ·rw[e_ h,L (ω:b≤a)];rfl
def leD(a b:Int):decide (a≤b)=!decide (b<a):=by rw[ltD b a,Bool.not_not]
def Pm(xs:List Int):Bool:=xs.all (C 0 1000000)
def Ans(n:Int):Ix n=J ((!C 0 1000000 n,()),()):=by
 unfold Ix C;rw[ltD n 0,ltD 1000000 n];cases decide (0≤n)<;>cases decide (n≤1000000)<;>rfl
def RC{xs:List Int}(hl:xs.length≤1000000):HA xs=J ((Pm xs,()),()):=by
 have key:∀(k i:Nat),i+k=xs.length→∃y,Bz (λx=>AL x.1.1 x.1.2.2.1 x.1.2.2.2.1) (k+1) ((xs,(),(xs.length:Int),(i:Int),()),())=J y∧(match y with | .inl _=>(xs.drop i).all (C 0 1000000)=I | .inr z=>0≤z.1.1∧(xs.drop i).all (C 0 1000000)=E):=by
  intro k
  induction k with
  |zero=>
   intro i hi;refine⟨.inl ((),()),Au ?_,?_⟩
   ·show AL xs (xs.length:Int) (i:Int)=_
    unfold AL;rw[e_ (ω:¬(i:Int)<(xs.length:Int))];rfl
   ·rw[show i=xs.length by omega,a4_];rfl
  |succ k ih=>
   intro i hi;have hi':i<xs.length:=ω
   have hs:AL xs (xs.length:Int) (i:Int)=J (bif C 0 1000000 (xs.getD i 0)then .inl ((xs,(),(xs.length:Int),((i+1:Nat):Int),()),())else .inr (.inr (((i:Int),()),()))):=by
    unfold AL;rw[L (ω:(i:Int)<(xs.length:Int)),Aa ω ω,Ans,CD hi' (show xs.length≤AA by unfold AA;omega)]
    simp only[d_,j_,a_];cases C 0 1000000 (xs.getD i 0)<;>rfl
   rw[Bw (0:Int) hi',X_];cases hq:C 0 1000000 (xs.getD i 0)with
   |true=>
    rw[hq]at hs;obtain⟨y,h1,h2⟩:=ih (i+1) ω
    exact⟨y,(Bk hs).trans h1,by rw[o_];exact h2⟩
   |false=>
    rw[hq]at hs;exact⟨_,Au hs,by show(0:Int)≤(i:Int)∧_;exact⟨ω,rfl⟩⟩
 obtain⟨y,h1,h2⟩:=key xs.length 0 ω
 have h1':Br ((xs,(),(xs.length:Int),(0:Int),()),())=J y:=Ah h1 ω
 rw[R_]at h2;unfold HA Cc Cr Pm;rw[h1'];cases y with
 |inl z=>simp only at h2;rw[h2];rfl
 |inr z=>
  simp only at h2;rw[h2.2];simp only[a_];rw[L h2.1];rfl
def PV(x:Debounced):List Int:=[x.Z4,x.A5,x.B5,x.C5,x.E5,x.F5,x.G5,x.H5,x.I5,x.K5,x.X3,x.Y3,x.Z3,x.A4,x.B4,x.C4,x.D4,x.E4,x.F4,x.G4,x.H4,x.I4,x.J4,x.K4,x.L4,x.M4,x.N4,x.O4,x.P4,x.Q4,x.R4,x.S4,x.T4,x.U4,x.V4,x.W4]
def Aev(n:Int)(x:Debounced)(i:Nat):Bool:=decide (0≤(PV x).getD i 0)&&decide ((PV x).getD i 0<n)
def Ly(n:Int)(x:Debounced):Bool:=decide (1≤n)&&(decide (n≤16)&&HS (Aev n x) 36 0)
def Xs(n:Int)(x:Debounced):Ec n x.V0 x.X1 x.L1 x.M1 x.E1 x.Z4 x.A5 x.B5 x.C5 x.E5 x.F5 x.G5 x.H5 x.I5 x.K5 x.X3 x.Y3 x.Z3 x.A4 x.B4 x.C4 x.D4 x.E4 x.F4 x.G4 x.H4 x.I4 x.J4 x.K4 x.L4 x.M4 x.N4 x.O4 x.P4 x.Q4 x.R4 x.S4 x.T4 x.U4 x.V4 x.W4=J ((Ly n x,()),()):=by
 have h:=Ah (GF (step:=λx=>letI g:=x.1.2.1.2;letI l:=g.2.2;letI c:=l.2.2.2;letI d:=c.2.2.2.2;letI j:=d.2.2;letI a:=j.2.2.2.2;letI f:=a.2.2.2.2;letI m:=f.2.2;letI b:=m.2.2.2;letI e:=b.2.2.2.2;letI k:=e.2.2;BD x.1.1 x.1.2.1.1 g.1 g.2.1 l.1 l.2.1 l.2.2.1 c.1 c.2.1 c.2.2.1 c.2.2.2.1 d.1 d.2.1 j.1 j.2.1 j.2.2.1 j.2.2.2.1 a.1 a.2.1 a.2.2.1 a.2.2.2.1 f.1 f.2.1 m.1 m.2.1 m.2.2.1 b.1 b.2.1 b.2.2.1 b.2.2.2.1 e.1 e.2.1 k.1 k.2.1 k.2.2.1 k.2.2.2.1 k.2.2.2.2.1 x.1.2.2.1) 36 (λi=>((n,(x.Z4,x.A5,x.B5,x.C5,x.E5,x.F5,x.G5,x.H5,x.I5,x.K5,x.X3,x.Y3,x.Z3,x.A4,x.B4,x.C4,x.D4,x.E4,x.F4,x.G4,x.H4,x.I4,x.J4,x.K4,x.L4,x.M4,x.N4,x.O4,x.P4,x.Q4,x.R4,x.S4,x.T4,x.U4,x.V4,x.W4,()),(i:Int),()),())) (Aev n x) (Sum.inl ((),())) (Sum.inr ((E,()),())) (λi hi=>by
  show BD n x.Z4 x.A5 x.B5 x.C5 x.E5 x.F5 x.G5 x.H5 x.I5 x.K5 x.X3 x.Y3 x.Z3 x.A4 x.B4 x.C4 x.D4 x.E4 x.F4 x.G4 x.H4 x.I4 x.J4 x.K4 x.L4 x.M4 x.N4 x.O4 x.P4 x.Q4 x.R4 x.S4 x.T4 x.U4 x.V4 x.W4 (i:Int)=_;unfold BD;simp only[L (ω:(i:Int)<36),Aa (ω:(0:Int)≤(i:Int)) (ω:(i:Int)<((36:Nat):Int)),d_,j_,CD hi (show 36≤AA by decide)]
  show(bif decide ((PV x).getD i 0<0)then _ else bif decide (n≤(PV x).getD i 0)then _ else _)=J (bif(decide (0≤(PV x).getD i 0)&&decide ((PV x).getD i 0<n))then _ else _);rw[ltD ((PV x).getD i 0) 0,leD n ((PV x).getD i 0)];cases decide (0≤(PV x).getD i 0)<;>cases decide ((PV x).getD i 0<n)<;>rfl) (by
  show BD n x.Z4 x.A5 x.B5 x.C5 x.E5 x.F5 x.G5 x.H5 x.I5 x.K5 x.X3 x.Y3 x.Z3 x.A4 x.B4 x.C4 x.D4 x.E4 x.F4 x.G4 x.H4 x.I4 x.J4 x.K4 x.L4 x.M4 x.N4 x.O4 x.P4 x.Q4 x.R4 x.S4 x.T4 x.U4 x.V4 x.W4 (36:Int)=_;unfold BD;simp only[show decide ((36:Int)<36)=E from rfl,O]) 36 0 ω) ω
 have h':Eo ((n,(x.Z4,x.A5,x.B5,x.C5,x.E5,x.F5,x.G5,x.H5,x.I5,x.K5,x.X3,x.Y3,x.Z3,x.A4,x.B4,x.C4,x.D4,x.E4,x.F4,x.G4,x.H4,x.I4,x.J4,x.K4,x.L4,x.M4,x.N4,x.O4,x.P4,x.Q4,x.R4,x.S4,x.T4,x.U4,x.V4,x.W4,()),(0:Int),()),())=_:=h;unfold Ec Ly;rw[ltD n 1,ltD 16 n];cases decide (1≤n)with
 |false=>rfl
 |true=>
  cases decide (n≤16)with
  |false=>rfl
  |true=>
   simp only[m_,O,o_,h'];cases HS (Aev n x) 36 0<;>rfl
def Se(a b:Duty):Bool:=decide (a.E0<b.E0)||(a.E0==b.E0&&decide (a.J0<b.J0))
def Zg(a b:Duty):∃n:Int,CQ a.E0 a.J0 a.N5 b.E0 b.J0 b.N5=J ((n,()),())∧decide (0≤n)=!Se a b:=by
 unfold CQ;rw[Hs,Hs];simp only[a_];rw[Xq];refine⟨_,rfl,?_⟩;unfold Se VO;by_cases h1:a.E0<b.E0
 ·rw[L h1];rfl
 ·rw[e_ h1]
  by_cases h2:b.E0<a.E0
  ·rw[L h2,Ar (ω:¬a.E0=b.E0)];rfl
  ·rw[e_ h2,show(a.E0==b.E0)=I by simp;omega]
   by_cases h3:a.J0<b.J0
   ·rw[L h3];rfl
   ·rw[e_ h3]
    cases decide (b.J0<a.J0)<;>rfl
def SW(n lo hi:Int):Dm n lo hi=J ((C lo hi n,()),()):=by
 unfold Dm C;cases decide (lo≤n)<;>rfl
def Arw(x:Belief)(i:Nat):Bool:=i==0||Se (x.T0.getD (i-1) Dv) (x.T0.getD i Dv)
def Xx(b:Bldg)(car:Nat)(x:Belief)(i:Nat):Bool:=Aj b (x.T0.getD i Dv).E0 (x.T0.getD i Dv).J0&&(C 0 (HE b car).G1 (x.T0.getD i Dv).N5&&Arw x i)
def Pd(b:Bldg)(car:Nat)(x:Belief):Bool:=C (-1) (b.C0-1) x.E0&&(C 0 3 x.J0&&(C 0 3 x.A3&&(C 0 1000000 x.L2&&(!(x.G3&&decide ((0:Int)<(x.T0.length:Int)))&&HS (Xx b car x) x.T0.length 0))))
def RA(hb:b.small)(hcode:b.code=0){car:Nat}(hcar:car<b.B0.length)(x:Belief)(hx:x.T0.length≤100000):Cg b.C0 b.F0 b.I0 b.N0 b.K0 b.M0 b.O0 b.B0 (car:Int) x.E0 x.J0 x.A3 x.T0 x.L2 x.G3=J ((Pd b car x,()),()):=by
 have lo:=hb.lo;have hi8:=hb.hi;have hcc:=Ak hcode;have h5:100000≤AA:=by decide
 have h:=Ah (GF (step:=λx=>letI a:=x.2.1.2.2;letI c:=x.2.2.1.2;letI d:=a.2.2;EL x.1.1 x.1.2.2.2.1 x.1.2.2.2.2.1 x.1.2.2.2.2.2.1 x.2.1.1 x.2.1.2.1 a.1 a.2.1 d.1 d.2.1 d.2.2.1 d.2.2.2.1 x.2.2.1.1 c.1 c.2.1 c.2.2.1 c.2.2.2.1 c.2.2.2.2.1) x.T0.length (λi=>(((car:Int),(),(),x.T0,(x.T0.length:Int),(i:Int),()),(b.tup,(x.E0,x.J0,x.A3,x.T0,x.L2,x.G3,()),()))) (Xx b car x) (Sum.inl ((),())) (Sum.inr ((E,()),())) (λi hi=>by
  show EL (car:Int) x.T0 (x.T0.length:Int) (i:Int) b.C0 b.F0 b.I0 b.N0 b.K0 b.M0 b.O0 b.B0 x.E0 x.J0 x.A3 x.T0 x.L2 x.G3=_;unfold EL;simp only[L (ω:(i:Int)<(x.T0.length:Int)),Aa (ω:(0:Int)≤(i:Int)) (ω:(i:Int)<(x.T0.length:Int)),Aa (ω:(0:Int)≤(car:Int)) (ω:(car:Int)<(b.B0.length:Int)),d_,j_,LQ hb,SW,a_]
  rw[show Duty.mk 0 0 0=Dv from rfl,show Car.mk 0 0 0 0 0 0 0 0 0=⟨0,0,0,0,0,0,0,0,0⟩from rfl]
  rw[show b.B0.getD car ⟨0,0,0,0,0,0,0,0,0⟩=HE b car from rfl]
  unfold Xx Arw;cases Aj b (x.T0.getD i Dv).E0 (x.T0.getD i Dv).J0 with
  |false=>rfl
  |true=>
  cases C 0 (HE b car).G1 (x.T0.getD i Dv).N5 with
  |false=>rfl
  |true=>
   simp only[m_,O,o_];by_cases i0:i=0
   ·subst i0
    simp only[show decide ((0:Int)<((0:Nat):Int))=E from rfl,O,a_,CD hi (ω:x.T0.length≤AA)]
    rfl
   ·rw[L (ω:(0:Int)<(i:Int)),show(i==0)=E by simpa using i0]
    simp only[d_,Bool.false_or,Ac (n:=(i:Int)-1) ω ω,Aa (ω:(0:Int)≤(i:Int)-1) (ω:(i:Int)-1<(x.T0.length:Int))]
    obtain⟨n,e1,e2⟩:=Zg (x.T0.getD (i-1) Dv) (x.T0.getD i Dv);rw[show R ((i:Int)-1)=i-1 by omega]
    rw[e1];simp only[a_,e2,CD hi (ω:x.T0.length≤AA)]
    cases Se (x.T0.getD (i-1) Dv) (x.T0.getD i Dv)<;>rfl) (by
  show EL (car:Int) x.T0 (x.T0.length:Int) (x.T0.length:Int) b.C0 b.F0 b.I0 b.N0 b.K0 b.M0 b.O0 b.B0 x.E0 x.J0 x.A3 x.T0 x.L2 x.G3=_;unfold EL;simp only[e_ (C_ (x.T0.length:Int)),O]) x.T0.length 0 ω) ω
 have h':Iz (((car:Int),(),(),x.T0,(x.T0.length:Int),(0:Int),()),(b.tup,(x.E0,x.J0,x.A3,x.T0,x.L2,x.G3,()),()))=_:=h;simp only[aB]at h';unfold Cg Pd;rw[Be,hcode];simp only[SW,a_,N_,O,Ac (n:=(b.B0.length:Int)-1) ω ω,Ac (n:=b.C0-1) ω ω,show C 0 ((b.B0.length:Int)-1) (car:Int)=I from Am.2 ⟨ω,ω⟩,m_]
 cases C (-1) (b.C0-1) x.E0 with
 |false=>rfl
 |true=>
 cases C 0 3 x.J0 with
 |false=>rfl
 |true=>
 cases C 0 3 x.A3 with
 |false=>rfl
 |true=>
 cases C 0 1000000 x.L2 with
 |false=>rfl
 |true=>
  simp only[m_,O,o_];cases hL:x.G3 with
  |false=>
   rw[hL]at h';simp only[O,a_,a3_,b6_,o_,h'];cases HS (Xx b car x) x.T0.length 0<;>rfl
  |true=>
   rw[hL]at h';cases hD:decide ((0:Int)<(x.T0.length:Int))with
   |true=>simp only[d_,a_];rfl
   |false=>
    simp only[d_,O,a_,b7_,b6_,o_,h'];cases HS (Xx b car x) x.T0.length 0<;>rfl
def Qe(x:S):Bool:=C 0 2 x.R1&&C 0 7 x.C1
def RW(x:S):Bool:=(x.Z0==0)&&((x.I1==0)&&((x.F1==0)&&((x.H1==E)&&((x.D1==0)&&I))))
def QX(x:S):Bool:=bif x.Z0==0 then RW x else C 0 3 x.Z0&&(C 0 1000000 x.I1&&(C 0 1000000 x.F1&&C 0 1000000 x.D1))
def Alx(x:S):Bool:=(x.R0==0)&&((x.X0==0)&&((x.Q0==0)&&I))
def Uj(fl:Int)(x:S):Bool:=C 0 1000000 x.X0&&(bif x.R0==0 then x.Q0==0 else bif x.R0==1 then C 0 (fl-1) x.Q0&&C 0 (fl-1) (x.Q0+1)else bif x.R0==2 then C 0 (fl-1) x.Q0&&C 0 (fl-1) (x.Q0-1)else E)
def Aet(x:S):Bool:=(x.R1==0)&&((x.C1==0)&&((x.Z0==0)&&((x.I1==0)&&((x.F1==0)&&((x.H1==E)&&((x.D1==0)&&((x.R0==0)&&((x.X0==0)&&((x.Q0==0)&&((x.V1==0)&&((x.Y2==0)&&((x.H3==0)&&((x.Z2==I)&&I)))))))))))))
def Adr(fl:Int)(x:S):Bool:=(Int.fdiv x.V1 ((2:Int)^(R fl))==0)&&(C 0 2 x.Y2&&C 0 1000000 x.H3)
def Vw(fl:Int)(x:S):Bool:=Qe x&&(QX x&&(Uj fl x&&((RW x||Alx x)&&Adr fl x)))
def EC(b:Bldg)(x:S):Bool:=bif x.Z2 then Aet x else Vw b.C0 x
def JJ(x:S):EY x.R1 x.C1=J ((Qe x,()),()):=by
 unfold EY Qe C;cases decide (0≤x.R1)<;>cases decide (x.R1≤2)<;>cases decide (0≤x.C1)<;>rfl
def Acd(n:Int):Hn n=J ((C 0 1000000 n,()),()):=by
 unfold Hn C;cases decide (0≤n)<;>rfl
def Pn(x:S):FR x.Z0 x.I1 x.F1 x.H1 x.D1=J ((QX x,()),()):=by
 unfold FR QX RW;simp only[Acd,a_];cases x.Z0==0 with
 |true=>rfl
 |false=>
  unfold C;cases decide (0≤x.Z0)<;>cases decide (x.Z0≤3)<;>cases(decide (0≤x.I1)&&decide (x.I1≤1000000))<;>cases(decide (0≤x.F1)&&decide (x.F1≤1000000))<;>rfl
def MN(h:2≤fl∧fl≤8)(x:S):FU fl x.R0 x.X0 x.Q0=J ((Uj fl x,()),()):=by
 unfold FU Uj;rw[e_ (ω:¬fl<2),e_ (ω:¬32<fl)]
 simp only[O];by_cases t:0≤x.X0∧x.X0≤1000000
 ·rw[e_ (ω:¬x.X0<0),e_ (ω:¬1000000<x.X0),show C 0 1000000 x.X0=I from Am.2 t]
  simp only[O,o_];by_cases f:0≤x.Q0∧x.Q0<fl
  ·rw[e_ (ω:¬x.Q0<0),e_ (ω:¬fl≤x.Q0),show C 0 (fl-1) x.Q0=I from Am.2 ⟨f.1,ω⟩]
   simp only[O,o_];by_cases c0:x.R0=0
   ·rw[c0];rfl
   ·rw[Ar c0]
    simp only[O];unfold Fd;by_cases c1:x.R0=1
    ·rw[c1]
     simp only[N_,O,a_,show inB 1 3=I from rfl,d_,k_]
     rw[show List.getD [(0:Int),1,-1] (R 1) 0=1 from rfl,Ac ω ω]
     unfold C;by_cases z:x.Q0+1<fl
     ·rw[L z,L (ω:0≤x.Q0+1),L (ω:x.Q0+1≤fl-1)];rfl
     ·rw[e_ z,L (ω:0≤x.Q0+1),e_ (ω:¬x.Q0+1≤fl-1)];rfl
    ·rw[FK c1,Ar c1]
     simp only[d_,O];by_cases c2:x.R0=2
     ·rw[c2]
      simp only[N_,O,a_,show inB 2 3=I from rfl,d_,k_]
      rw[show List.getD [(0:Int),1,-1] (R 2) 0=-1 from rfl,Ac ω ω,show x.Q0+ -1=x.Q0-1 by omega]
      unfold C;by_cases z:0≤x.Q0-1
      ·rw[L z,L (ω:x.Q0-1<fl),L (ω:x.Q0-1≤fl-1)];rfl
      ·rw[e_ z];rfl
     ·rw[FK c2,Ar c2]
      rfl
  ·have hf:C 0 (fl-1) x.Q0=E:=by
    cases hq:C 0 (fl-1) x.Q0 with
    |false=>rfl
    |true=>have:=Am.1 hq;omega
   rw[hf];have hz:(x.Q0==0)=E:=Ar ω
   rw[hz];simp only[a3_]
   have e:(bif x.R0==0 then E else bif x.R0==1 then E else bif x.R0==2 then E else E)=E:=by
    cases x.R0==0<;>cases x.R0==1<;>cases x.R0==2<;>rfl
   rw[e];by_cases z:x.Q0<0
   ·rw[L z];rfl
   ·rw[e_ z,L (ω:fl≤x.Q0)];rfl
 ·have hf:C 0 1000000 x.X0=E:=by
   cases hq:C 0 1000000 x.X0 with
   |false=>rfl
   |true=>exact absurd (Am.1 hq) t
  rw[hf];simp only[a3_];by_cases z:x.X0<0
  ·rw[L z];rfl
  ·rw[e_ z,L (ω:1000000<x.X0)];rfl
def Jf(hb:b.small)(hcode:b.code=0)(x:S):DJ b.C0 b.F0 b.I0 b.N0 b.K0 b.M0 b.O0 b.B0 x.R1 x.C1 x.Z0 x.I1 x.F1 x.H1 x.D1 x.R0 x.X0 x.Q0 x.V1 x.Y2 x.H3 x.Z2=J ((EC b x,()),()):=by
 have lo:=hb.lo;have hi8:=hb.hi;have hmin:Min.min (R b.C0) (IntKind.bits IntKind.u32)=R b.C0:=c4_ (by show _≤32;omega)
 unfold DJ EC;rw[Be,hcode];simp only[a_,N_,O];have main:Vw b.C0 x=Vw b.C0 x:=rfl;cases hF:x.Z2 with
 |true=>
  have hZ:Aet x=((x.R1==0)&&((x.C1==0)&&((x.Z0==0)&&((x.I1==0)&&((x.F1==0)&&((x.H1==E)&&((x.D1==0)&&((x.R0==0)&&((x.X0==0)&&((x.Q0==0)&&((x.V1==0)&&((x.Y2==0)&&((x.H3==0)&&((I==I)&&I)))))))))))))):=by unfold Aet;rw[hF]
  rw[d_,← hZ];cases hq:Aet x with
  |false=>rfl
  |true=>
   have hq':=hq;unfold Aet at hq';simp only[f_,Z_]at hq';obtain⟨e1,e2,e3,e4,e5,e6,e7,e8,e9,e10,e11,e12,e13,_⟩:=hq';simp only[m_,a_,O,d_,JJ,Pn,MN ⟨lo,hi8⟩];have s1:Qe x=I:=by unfold Qe;rw[e1,e2];rfl
   have s2:QX x=I:=by unfold QX RW;rw[e3,e4,e5,e6,e7];rfl
   have s3:Uj b.C0 x=I:=by unfold Uj;rw[e8,e9,e10];rfl
   rw[s1,s2,s3,e3,e4,e5,e6,e7,e11,e12,e13];simp only[k_,c5_,m_,O,a_];rw[L (ω:0≤b.C0),hmin]
   simp only[d_];rw[show Int.fdiv 0 ((2:Int)^R b.C0)=0 from Int.zero_fdiv _]
   rfl
 |false=>
  simp only[a_,O,JJ,Pn,MN ⟨lo,hi8⟩];unfold Vw;cases Qe x with
  |false=>rfl
  |true=>
  cases QX x with
  |false=>rfl
  |true=>
  cases Uj b.C0 x with
  |false=>rfl
  |true=>
   simp only[m_,O,o_];rw[show((x.Z0==0)&&((x.I1==0)&&((x.F1==0)&&((x.H1==E)&&((x.D1==0)&&I)))))=RW x from rfl,show((x.R0==0)&&((x.X0==0)&&((x.Q0==0)&&I)))=Alx x from rfl]
   have fin:(bif decide (0≤b.C0)then bif(Int.fdiv x.V1 ((2:Int)^(R b.C0))==0)then bif decide (0≤x.Y2)then bif decide (x.Y2≤2)then bif decide (0≤x.H3)then J ((decide (x.H3≤1000000),()),())else J ((E,()),())else J ((E,()),())else J ((E,()),())else J ((E,()),())else none)=J ((Adr b.C0 x,()),()):=by
    rw[L (ω:0≤b.C0)]
    unfold Adr C;cases Int.fdiv x.V1 ((2:Int)^(R b.C0))==0<;>cases decide (0≤x.Y2)<;>cases decide (x.Y2≤2)<;>cases decide (0≤x.H3)<;>rfl
   cases RW x with
   |true=>
    simp only[m_,O,a_,Bool.true_or,o_];rw[hmin,fin];rfl
   |false=>
    cases Alx x with
    |true=>
     simp only[m_,b6_,d_,O,a_,Bool.false_or,o_];rw[hmin,fin];rfl
    |false=>rfl
def FL{α:Type}(p:Nat→α→Bool)(d:α)(l:List α)(n:Int):Bool:=((l.length:Int)==n)&&HS (λi=>p i (l.getD i d)) l.length 0
def Rf(x:Loaded):Bool:=C 0 4 x.T5
def Zi(hb:b.small)(hcode:b.code=0){l:List Debounced}(_hl:l.length≤100000):AZ l (b.B0.length:Int) b.C0 b.F0 b.I0 b.N0 b.K0 b.M0 b.O0 b.B0=J ((FL (λ_ x=>Ly b.F0 x) Cn l (b.B0.length:Int),()),(b.tup,())):=by
 have h5:100000≤AA:=by decide
 have lo:=hb.lo;have hcc:=Ak hcode;unfold AZ FL;by_cases hn:l.length=b.B0.length
 ·have h:=Ah (GF (step:=λx=>letI a:=x.2.1.2.2;letI c:=a.2.2;Aw x.1.2.1 x.1.2.2.1 x.1.2.2.2.1 x.2.1.1 x.2.1.2.1 a.1 a.2.1 c.1 c.2.1 c.2.2.1 c.2.2.2.1) l.length (λi=>(((),l,(l.length:Int),(i:Int),()),(b.tup,()))) (λi=>(λ_ x=>Ly b.F0 x) i (l.getD i Cn)) (Sum.inl ((),(b.tup,()))) (Sum.inr ((E,()),(b.tup,()))) (λi hi=>by
   show Aw l (l.length:Int) (i:Int) b.C0 b.F0 b.I0 b.N0 b.K0 b.M0 b.O0 b.B0=_;unfold Aw FW;simp only[L (ω:(i:Int)<(l.length:Int)),Aa (ω:(0:Int)≤(i:Int)) (ω:(i:Int)<(l.length:Int)),d_,j_,CD hi (ω:l.length≤AA)]
   rw[show Debounced.mk 0 E E E E 0 0 0 0 0 0 0 0 0 0 0 0 0 0 0 0 0 0 0 0 0 0 0 0 0 0 0 0 0 0 0 0 0 0 0 0=Cn from rfl]
   rw[Xs b.F0 (l.getD i Cn)];simp only[a_];generalize Ly b.F0 (l.getD i Cn)=q;cases q<;>rfl) (by
   show Aw l (l.length:Int) (l.length:Int) b.C0 b.F0 b.I0 b.N0 b.K0 b.M0 b.O0 b.B0=_;unfold Aw;simp only[e_ (C_ (l.length:Int)),O];rfl) l.length 0 ω) ω
  have h':AX (((),l,(l.length:Int),(0:Int),()),(b.tup,()))=_:=h;simp only[aB]at h';rw[show((l.length:Int) !=(b.B0.length:Int))=E by rw[hn,N_],show((l.length:Int)==(b.B0.length:Int))=I by rw[hn];exact k_ _]
  simp only[O,o_,h'];generalize HS (λi=>(λ_ x=>Ly b.F0 x) i (l.getD i Cn)) l.length 0=q
  cases q<;>rfl
 ·rw[show((l.length:Int) !=(b.B0.length:Int))=I from FK ω,Ar (ω:¬(l.length:Int)=(b.B0.length:Int))]
  rfl
def Ae0(hb:b.small)(hcode:b.code=0){l:List Belief}(_hl:l.length≤100000)(hd:∀x∈l,x.T0.length≤100000):Bf l (b.B0.length:Int) b.C0 b.F0 b.I0 b.N0 b.K0 b.M0 b.O0 b.B0=J ((FL (λi x=>Pd b i x) (aA 0 0 0 [] 0 E) l (b.B0.length:Int),()),(b.tup,())):=by
 have h5:100000≤AA:=by decide
 have lo:=hb.lo;have hcc:=Ak hcode;unfold Bf FL;by_cases hn:l.length=b.B0.length
 ·have h:=Ah (GF (step:=λx=>letI a:=x.2.1.2.2;letI c:=a.2.2;AB x.1.2.1 x.1.2.2.1 x.1.2.2.2.1 x.2.1.1 x.2.1.2.1 a.1 a.2.1 c.1 c.2.1 c.2.2.1 c.2.2.2.1) l.length (λi=>(((),l,(l.length:Int),(i:Int),()),(b.tup,()))) (λi=>(λi x=>Pd b i x) i (l.getD i (aA 0 0 0 [] 0 E))) (Sum.inl ((),(b.tup,()))) (Sum.inr ((E,()),(b.tup,()))) (λi hi=>by
   show AB l (l.length:Int) (i:Int) b.C0 b.F0 b.I0 b.N0 b.K0 b.M0 b.O0 b.B0=_;unfold AB FX;simp only[L (ω:(i:Int)<(l.length:Int)),Aa (ω:(0:Int)≤(i:Int)) (ω:(i:Int)<(l.length:Int)),d_,j_,CD hi (ω:l.length≤AA)]
   
   have hm:=CB (aA 0 0 0 [] 0 E) hi;rw[RA hb hcode (ω:i<b.B0.length) (l.getD i (aA 0 0 0 [] 0 E)) (hd _ hm)]
   simp only[a_];generalize Pd b i (l.getD i (aA 0 0 0 [] 0 E))=q;cases q<;>rfl) (by
   show AB l (l.length:Int) (l.length:Int) b.C0 b.F0 b.I0 b.N0 b.K0 b.M0 b.O0 b.B0=_;unfold AB;simp only[e_ (C_ (l.length:Int)),O];rfl) l.length 0 ω) ω
  have h':Bc (((),l,(l.length:Int),(0:Int),()),(b.tup,()))=_:=h;simp only[aB]at h';rw[show((l.length:Int) !=(b.B0.length:Int))=E by rw[hn,N_],show((l.length:Int)==(b.B0.length:Int))=I by rw[hn];exact k_ _]
  simp only[O,o_,h'];generalize HS (λi=>(λi x=>Pd b i x) i (l.getD i (aA 0 0 0 [] 0 E))) l.length 0=q
  cases q<;>rfl
 ·rw[show((l.length:Int) !=(b.B0.length:Int))=I from FK ω,Ar (ω:¬(l.length:Int)=(b.B0.length:Int))]
  rfl
def Ae2(hb:b.small)(hcode:b.code=0){l:List S}(_hl:l.length≤100000):Bg l (b.B0.length:Int) b.C0 b.F0 b.I0 b.N0 b.K0 b.M0 b.O0 b.B0=J ((FL (λ_ x=>EC b x) AT l (b.B0.length:Int),()),(b.tup,())):=by
 have h5:100000≤AA:=by decide
 have lo:=hb.lo;have hcc:=Ak hcode;unfold Bg FL;by_cases hn:l.length=b.B0.length
 ·have h:=Ah (GF (step:=λx=>letI a:=x.2.1.2.2;letI c:=a.2.2;AC x.1.2.1 x.1.2.2.1 x.1.2.2.2.1 x.2.1.1 x.2.1.2.1 a.1 a.2.1 c.1 c.2.1 c.2.2.1 c.2.2.2.1) l.length (λi=>(((),l,(l.length:Int),(i:Int),()),(b.tup,()))) (λi=>(λ_ x=>EC b x) i (l.getD i AT)) (Sum.inl ((),(b.tup,()))) (Sum.inr ((E,()),(b.tup,()))) (λi hi=>by
   show AC l (l.length:Int) (i:Int) b.C0 b.F0 b.I0 b.N0 b.K0 b.M0 b.O0 b.B0=_;unfold AC FY;simp only[L (ω:(i:Int)<(l.length:Int)),Aa (ω:(0:Int)≤(i:Int)) (ω:(i:Int)<(l.length:Int)),d_,j_,CD hi (ω:l.length≤AA)]
   rw[show NewCar.mk 0 0 0 0 0 E 0 0 0 0 0 0 0 E=AT from rfl]
   rw[Jf hb hcode (l.getD i AT)];simp only[a_];generalize EC b (l.getD i AT)=q;cases q<;>rfl) (by
   show AC l (l.length:Int) (l.length:Int) b.C0 b.F0 b.I0 b.N0 b.K0 b.M0 b.O0 b.B0=_;unfold AC;simp only[e_ (C_ (l.length:Int)),O];rfl) l.length 0 ω) ω
  have h':Bd (((),l,(l.length:Int),(0:Int),()),(b.tup,()))=_:=h;simp only[aB]at h';rw[show((l.length:Int) !=(b.B0.length:Int))=E by rw[hn,N_],show((l.length:Int)==(b.B0.length:Int))=I by rw[hn];exact k_ _]
  simp only[O,o_,h'];generalize HS (λi=>(λ_ x=>EC b x) i (l.getD i AT)) l.length 0=q
  cases q<;>rfl
 ·rw[show((l.length:Int) !=(b.B0.length:Int))=I from FK ω,Ar (ω:¬(l.length:Int)=(b.B0.length:Int))]
  rfl
def Ae1(hb:b.small)(hcode:b.code=0){l:List Loaded}(_hl:l.length≤100000):BG l (b.B0.length:Int)=J ((FL (λ_ x=>Rf x) Ha l (b.B0.length:Int),()),()):=by
 have h5:100000≤AA:=by decide
 have lo:=hb.lo;have hcc:=Ak hcode;unfold BG FL;by_cases hn:l.length=b.B0.length
 ·have h:=Ah (GF (step:=λx=>AM x.1.2.1 x.1.2.2.1 x.1.2.2.2.1) l.length (λi=>(((),l,(l.length:Int),(i:Int),()),())) (λi=>(λ_ x=>Rf x) i (l.getD i Ha)) (Sum.inl ((),())) (Sum.inr ((E,()),())) (λi hi=>by
   show AM l (l.length:Int) (i:Int)=_;unfold AM Js;simp only[L (ω:(i:Int)<(l.length:Int)),Aa (ω:(0:Int)≤(i:Int)) (ω:(i:Int)<(l.length:Int)),d_,j_,CD hi (ω:l.length≤AA)]
   rw[show Loaded.mk 0=Ha from rfl]
   have hk:∀c:Int,(Option.bind (bif decide (0≤c)then J ((decide (c≤4),()),())else J ((E,()),())) λy1:(Bool×Unit)×Unit=>J ((y1.1.1,()),()))=J ((C 0 4 c,()),()):=λc=>by
    unfold C;cases decide (0≤c)<;>rfl
   rw[hk];simp only[a_];show(bif !(Rf (l.getD i Ha))then _ else _)=_;generalize Rf (l.getD i Ha)=q;cases q<;>rfl) (by
   show AM l (l.length:Int) (l.length:Int)=_;unfold AM;simp only[e_ (C_ (l.length:Int)),O]) l.length 0 ω) ω
  have h':Bu (((),l,(l.length:Int),(0:Int),()),())=_:=h
  skip
  rw[show((l.length:Int) !=(b.B0.length:Int))=E by rw[hn,N_],show((l.length:Int)==(b.B0.length:Int))=I by rw[hn];exact k_ _]
  simp only[O,o_,h'];generalize HS (λi=>(λ_ x=>Rf x) i (l.getD i Ha)) l.length 0=q
  cases q<;>rfl
 ·rw[show((l.length:Int) !=(b.B0.length:Int))=I from FK ω,Ar (ω:¬(l.length:Int)=(b.B0.length:Int))]
  rfl
def YP(b:Bldg)(m:Mch):Bool:=Pq b m.G0&&(decide (m.Y0.ok b.I0)&&(((m.Z1.length:Int)==(m.G0.A0.length:Int))&&(Pm m.Z1&&(Pm [m.L3,m.Q2,m.G2]&&(FL (λ_ x=>Ly b.F0 x) Cn m.J1 (b.B0.length:Int)&&(FL (λi x=>Pd b i x) (aA 0 0 0 [] 0 E) m.W0 (b.B0.length:Int)&&(FL (λ_ x=>EC b x) AT m.B0 (b.B0.length:Int)&&(FL (λ_ x=>Rf x) Ha m.M2 (b.B0.length:Int)&&((m.V3.length:Int)==(b.B0.length:Int))))))))))
def WE(hb:b.small)(hcode:b.code=0){m:Mch}(hm:m.fit):En b.C0 b.F0 b.I0 b.N0 b.K0 b.M0 b.O0 b.B0 m.G0.D0 m.G0.L0 m.G0.H0 m.G0.A0 m.Y0.h0 m.Y0.h1 m.Y0.sel m.J1 m.W0 m.B0 m.M2 m.Z1 m.V3 m.L3 m.Q2 m.G2=J ((YP b m,()),()):=by
 have hcc:=Ak hcode;have hex:=hm.ex;unfold En YP;rw[Ads hb m.G0 ω hm.im,Iy,RC (xs:=m.Z1) ω,RC (xs:=[m.L3,m.Q2,m.G2]) (by show 3≤1000000;omega)]
 simp only[a_];rw[show decide (Sto.ok b.I0 ⟨m.Y0.h0,m.Y0.h1,m.Y0.sel⟩)=decide (m.Y0.ok b.I0)from rfl]
 cases Pq b m.G0 with
 |false=>rfl
 |true=>
 cases decide (m.Y0.ok b.I0)with
 |false=>rfl
 |true=>
 simp only[bne];cases((m.Z1.length:Int)==(m.G0.A0.length:Int))with
 |false=>rfl
 |true=>
 cases Pm m.Z1 with
 |false=>rfl
 |true=>
 cases Pm [m.L3,m.Q2,m.G2]with
 |false=>rfl
 |true=>
 simp only[m_,O,o_];rw[Zi hb hcode hm.co];simp only[a_,aB];rw[Ae0 hb hcode hm.be hm.du];simp only[a_,aB];rw[Ae2 hb hcode hm.ca];simp only[a_,aB];rw[Ae1 hb hcode hm.lo];simp only[a_];generalize FL (λ_ x=>Ly b.F0 x) Cn m.J1 (b.B0.length:Int)=q1
 generalize FL (λi x=>Pd b i x) (aA 0 0 0 [] 0 E) m.W0 (b.B0.length:Int)=q2
 generalize FL (λ_ x=>EC b x) AT m.B0 (b.B0.length:Int)=q3
 generalize FL (λ_ x=>Rf x) Ha m.M2 (b.B0.length:Int)=q4
 cases q1<;>cases q2<;>cases q3<;>cases q4<;>rfl
def Akj(h:b.code=0):1≤b.F0∧b.F0≤16:=by
 unfold Bldg.code at h;cases h1:C 2 32 b.C0<;>rw[h1]at h
 ·cases h
 cases h2:C 1 8 (b.B0.length:Int)<;>rw[h2]at h
 ·cases h
 cases h3:C 1 16 b.F0<;>rw[h3]at h
 ·cases h
 exact Am.1 h3
def Atv(h:Ce fl c=I):0≤c.G1∧c.G1≤1000000:=by
 unfold Ce at h;rw[f_,F_]at h
 have:=Am.1 (h.1 c.G1 (M_ ..))
 omega
def Ago(h:b.code=0)(hc:c∈b.B0):0≤c.G1∧c.G1≤1000000:=by
 unfold Bldg.code at h;cases h1:C 2 32 b.C0<;>rw[h1]at h
 ·cases h
 cases h2:C 1 8 (b.B0.length:Int)<;>rw[h2]at h
 ·cases h
 cases h3:C 1 16 b.F0<;>rw[h3]at h
 ·cases h
 cases h4:C 1 10000 b.N0<;>rw[h4]at h
 ·cases h
 cases h5:b.B0.all (Ce b.C0)<;>rw[h5]at h
 ·cases h
 exact Atv (F_.1 h5 c hc)
def Bcp(h:1≤n∧n≤16):Ly n Cn=I:=by
 unfold Ly;rw[L h.1,L h.2,o_,o_];refine QO 36 0 λk _ hk=>?_
 unfold Aev
 have:(PV Cn).getD k 0=0:=by
  show(List.replicate 36 (0:Int)).getD k 0=0;rw[l_,List.getElem?_replicate];split<;>rfl
 rw[this,L (ω:(0:Int)<n)];rfl
def Hm(n:Int):0≤IntKind.u32.wrap n∧IntKind.u32.wrap n<4294967296:=by
 simp only[aC,IntKind.signed,IntKind.bits];simp;exact⟨Int.emod_nonneg _ (by decide),Int.emod_lt_of_pos _ (by decide)⟩
def Abh(n:Int):0≤IntKind.u8.wrap n∧IntKind.u8.wrap n<256:=by
 simp only[aC,IntKind.signed,IntKind.bits];simp;exact⟨Int.emod_nonneg _ (by decide),Int.emod_lt_of_pos _ (by decide)⟩
def Atw(n:Int):P (CA n) λy=>0≤y.1.1∧y.1.1≤32:=by
 unfold CA;refine B (λ_=>A (show(0:Int)≤32∧(32:Int)≤32 by decide)) λ_=>V (Aa ?_ ?_) (A ?_)
 ·rw[a2_ _ (by decide)]
  exact Int.ediv_nonneg (Hm _).1 (by decide)
 ·rw[a2_ _ (by decide)]
  refine Int.ediv_lt_of_lt_mul (by decide) ?_
  exact(Hm _).2
 ·have h:∀(l:List Int) (k:Nat),(∀x∈l,0≤x∧x≤32)→0≤N.wrap (l.getD k 0)∧N.wrap (l.getD k 0)≤32:=λl k h=>by
   have:0≤l.getD k 0∧l.getD k 0≤32:=by
    by_cases hk:k<l.length
    ·rw[l_,i_ hk];exact h _ (a7_ hk)
    ·rw[l_,List.getElem?_eq_none ω];decide
   rw[Ac ω ω]
   exact this
  exact h _ _ (by decide)
instance tz_ti(n:Int):SatT (CA n):=⟨(Atw n).any⟩
def Axm(s:ByteArray)(i:Nat):0≤Bo s i∧Bo s i≤255:=by
 unfold Bo
 have:=(s.data.getD i 0).toNat_lt
 omega
def Ast(n:Int):P (Ji n) λy=>0≤y.1.1∧y.1.1≤300:=by
 unfold Ji;refine H (Q:=λy=>y.1.2.1=0∨y.1.2.1=16) (B (λ_=>A (.inr rfl)) λ_=>A (.inl rfl)) λy1 h1=>H (Q:=λy=>0≤y.1.2.1∧y.1.2.1≤24) (B (λ_=>A ?_) λ_=>A ?_) λy2 h2=>?_
 ·show 0≤N.wrap (y1.1.2.1+8)∧N.wrap (y1.1.2.1+8)≤24
  rw[Ac ω ω];omega
 ·show 0≤y1.1.2.1∧y1.1.2.1≤24
  omega
 refine V (Aa (Abh _).1 (Abh _).2) (A ?_)
 have h:∀s i,0≤N.wrap (y2.1.2.1+N.wrap (Bo s i))∧N.wrap (y2.1.2.1+N.wrap (Bo s i))≤300:=λs i=>by
  have:=Axm s i
  rw[Ac (n:=Bo s i) ω ω,Ac ω ω]
  omega
 exact h _ _
instance len_ti(n:Int):SatT (Ji n):=⟨(Ast n).any⟩
def Akf(a b c d:Int):P (DI a b c d) λ_=>True:=⟨_,KM (a,b) (c,d),trivial⟩
def Zv(a b:Int){F D:Int}(hF:0≤F∧F<32)(hD:D=1∨D=2):P (Df a b F D) λ_=>True:=⟨_,Ph (a,b) hF hD,trivial⟩
def Bpm(fl d o f a b c:Int)(h:0≤fl)(hf:0≤f∧f<32):P (IV fl d o f a b c) λy=>y.2.1.2.2.2.2.2.1=o:=by
 unfold IV;have g:=L hf.1;refine V (L h) (H (Akf ..) λy1 _=>V g (H (Zv _ _ hf (.inl rfl)) λy2 _=>H (Zv _ _ hf (.inr rfl)) λy3 _=>?_))
 refine H (Q:=λy=>y.1.1=f∧y.2.2.1.2.2.2.2.2.1=o) (V g (B (λ_=>H (Atw _) λ_ _=>A ⟨rfl,rfl⟩) λ_=>A ⟨rfl,rfl⟩)) λy5 h5=>?_
 refine V (L (by rw[h5.1];exact hf.1)) (B (λ_=>H (Ast _) λ_ _=>A h5.2) λ_=>A h5.2)
def Azv(a b c:Bool)(d e o:Int):P (EP a b c d e o) λy=>y.2.1.2.2.2.2.2.1=o∨y.2.1.2.2.2.2.2.1=0:=by
 unfold EP;refine H (Q:=λy=>y.2.1.2.2.2.2.2.1=o) ?_ λy1 h1=>?_
 ·refine B (λ_=>?_) λ_=>?_<;>exact B (λ_=>B (λ_=>A rfl) λ_=>A rfl) λ_=>B (λ_=>A rfl) λ_=>A rfl
 refine H (Q:=λy=>y.2.2.1.2.2.2.2.2.1=o) ?_ λy2 h2=>?_
 ·refine B (λ_=>?_) λ_=>?_<;>exact B (λ_=>B (λ_=>A h1) λ_=>A h1) λ_=>B (λ_=>A h1) λ_=>A h1
 exact B (λ_=>A (.inl h2)) λ_=>B (λ_=>A (.inl h2)) λ_=>B (λ_=>A (.inl h2)) λ_=>B (λ_=>A (.inl h2)) λ_=>B (λ_=>A (.inl h2)) λ_=>A (.inr rfl)
def dir2(n:Int):Prop:=0≤n∧n≤2
def dir2.zero:dir2 0:=⟨by decide,by decide⟩
def dir2.one:dir2 1:=⟨by decide,by decide⟩
def dir2.two:dir2 2:=⟨by decide,by decide⟩
def Bcl(a b c:Bool)(d e o:Int):P (EZ a b c d e o) λy=>dir2 y.1.1:=by
 unfold EZ;refine H (Q:=λ_=>True) Sat.go λy1 _=>?_
 exact B (λ_=>A dir2.one) λ_=>B (λ_=>A dir2.two) λ_=>A dir2.zero
def chP(y:(Unit×Unit)×((Int×Int×Int×Unit)×Unit)):Prop:=dir2 y.2.1.2.1∧dir2 y.2.1.2.2.1
def Aqb{f:Int}(c:Bool)(a:Int){s:Int}(o:Bool)(b:Int)(hf:dir2 f)(hs:dir2 s):P (Gx f c a s o b) λy=>dir2 y.1.1:=by
 unfold Gx;exact B (λ_=>A hf) λ_=>B (λ_=>A hf) λ_=>B (λ_=>A hs) λ_=>B (λ_=>A hs) λ_=>A dir2.zero
def Vr(h:dir2 n):P (Dg n) chP:=A ⟨h,h⟩
def Azi(a b c:Bool)(d e o:Int):P (EO a b c d e o) chP:=by
 unfold EO;refine H (Bcl ..) λy h=>?_
 refine B (λ_=>H (Vr dir2.one) λ_ h=>A h) λ_=>B (λ_=>H (Vr dir2.two) λ_ h=>A h) λ_=>B (λ_=>H (Vr h) λ_ h=>A h) λ_=>?_
 exact B (λ_=>A ⟨h,dir2.zero⟩) λ_=>B (λ_=>A ⟨h,dir2.zero⟩) λ_=>A ⟨dir2.zero,dir2.zero⟩
def Agz(a b c:Bool)(d e o:Int):P (Dn a b c d e o) chP:=by
 unfold Dn;refine H (Q:=λ_=>True) Sat.go λy1 _=>?_
 refine B (λ_=>H (Aqb _ _ _ _ dir2.two dir2.one) λ_ h=>H (Vr h) λ_ h=>A h) λ_=>B (λ_=>A ⟨dir2.two,dir2.zero⟩) λ_=>?_
 exact B (λ_=>H (Vr dir2.one) λ_ h=>A h) λ_=>B (λ_=>A ⟨dir2.one,dir2.zero⟩) λ_=>A ⟨dir2.zero,dir2.zero⟩
def Bc2(a b c:Bool)(d e o:Int):P (Fa a b c d e o) chP:=by
 unfold Fa;refine H (Q:=λ_=>True) Sat.go λy1 _=>?_
 refine B (λ_=>H (Aqb _ _ _ _ dir2.one dir2.two) λ_ h=>H (Vr h) λ_ h=>A h) λ_=>B (λ_=>A ⟨dir2.one,dir2.zero⟩) λ_=>?_
 exact H (Agz ..) λ_ h=>A h
def Aki{w o f:Int}(a b c:Int)(h:0≤fl)(hf:0≤f∧f<32)(hw:dir2 w):P (FN fl w o f a b c) λy=>chP ((((),()),y.2))∧(y.1.2.1=o∨y.1.2.1=0):=by
 unfold FN;refine H (Bpm _ _ _ _ _ _ _ h hf) λy1 h1=>H (Azv ..) λy2 h2=>?_
 rw[h1]at h2;refine H (Q:=λy=>chP ((((),()),y.2))∧(y.1.2.1=o∨y.1.2.1=0)) ?_ λy6 h6=>A h6
 refine V (Aa hw.1 (by have:=hw.2;show w<(3:Int);omega)) ?_
 refine B (λ_=>H (Azi ..) λ_ h=>A ⟨h,h2⟩) λn0=>B (λ_=>H (Bc2 ..) λ_ h=>A ⟨h,h2⟩) λn1=>?_
 have e:Nat.beq (R w) 2=I:=by
  have a0:¬R w=0:=λq=>by rw[q]at n0;cases n0
  have a1:¬R w=1:=λq=>by rw[q]at n1;cases n1
  have:R w=2:=by have:=hw.1;have:=hw.2;omega
  rw[this];rfl
 exact V e (H (Agz ..) λ_ h=>A ⟨h,h2⟩)
def S2(d o:Int):Prop:=dir2 d∧0≤o∧o≤7
def S2.zero{d:Int}(h:dir2 d):S2 d 0:=⟨h,by decide,by decide⟩
def Al9(fl w o f:Int):P (FO fl w o f) λy=>y.1.1=I→2≤fl∧fl≤32∧0≤f∧f<fl∧S2 w o:=by
 unfold FO;refine H (Q:=λy=>y.1.1=I→2≤fl∧fl≤32∧0≤f∧f<fl∧S2 w o) ?_ λy hy=>A hy
 refine B (λa=>B (λb=>B (λc=>B (λd=>?_) λ_=>A λq=>by cases q) λ_=>A λq=>by cases q) λ_=>A λq=>by cases q) λ_=>A λq=>by cases q
 refine U (JJ { AT with R1:=w,C1:=o }) (A λq=>?_)
 have q:(C 0 2 w&&C 0 7 o)=I:=q;rw[f_]at q;exact⟨n_ a,n_ b,n_ c,n_ d,Am.1 q.1,Am.1 q.2⟩
def Az0(fl w o f a b c:Int):P (HJ fl w o f a b c) chP:=by
 unfold HJ;refine H (Al9 ..) λy h=>B (λ_=>A ⟨dir2.zero,dir2.zero⟩) λq=>?_
 obtain⟨h1,h2,h3,h4,h5⟩:=h (by simpa using q)
 exact H (Aki _ _ _ ω ⟨h3,ω⟩ h5.1) λ_ h=>A h.1
def Bcw:∀(o:Fin 8) (s:Fin 3),0≤N.wrap (stk ((o.val:Nat):Int) (aC N ((1:Int)*((2:Int)^(Min.min (R ((s.val:Nat):Int)) (IntKind.bits N))))) (BitVec.toNat ((aE (IntKind.bits N) ((o.val:Nat):Int))|||(aE (IntKind.bits N) (aC N ((1:Int)*((2:Int)^(Min.min (R ((s.val:Nat):Int)) (IntKind.bits N)))))))))∧N.wrap (stk ((o.val:Nat):Int) (aC N ((1:Int)*((2:Int)^(Min.min (R ((s.val:Nat):Int)) (IntKind.bits N))))) (BitVec.toNat ((aE (IntKind.bits N) ((o.val:Nat):Int))|||(aE (IntKind.bits N) (aC N ((1:Int)*((2:Int)^(Min.min (R ((s.val:Nat):Int)) (IntKind.bits N)))))))))≤7:=by decide
def Bif(fl w o f a b c:Int):P (IU fl w o f a b c) λy=>S2 y.2.1.1 y.2.1.2.1:=by
 unfold IU;refine H (Al9 ..) λy h=>B (λ_=>A (S2.zero dir2.zero)) λq=>?_
 obtain⟨h1,h2,h3,h4,h5⟩:=h (by simpa using q)
 refine H (Aki _ _ _ ω ⟨h3,ω⟩ h5.1) λy2 h=>?_
 refine B (λ_=>A (S2.zero h.1.1)) λ_=>V (L h.1.2.1) (A ⟨h.1.1,?_⟩)
 have ho:0≤y2.1.2.1∧y2.1.2.1<8:=by
  have h5a:=h5.2.1;have h5b:=h5.2.2;rcases h.2 with e | e<;>rw[e]<;>omega
 have hs:dir2 y2.2.1.2.2.1:=h.1.2;have key:=Bcw ⟨y2.1.2.1.toNat,ω⟩ ⟨y2.2.1.2.2.1.toNat,by have:=hs.1;have:=hs.2;omega⟩
 rw[show((y2.1.2.1.toNat:Nat):Int)=y2.1.2.1 from f4_ ho.1,show((y2.2.1.2.2.1.toNat:Nat):Int)=y2.2.1.2.2.1 from f4_ hs.1]at key
 exact key
def D5(a b c:Int)(d:Bool)(e:Int):Prop:=(a=0∧b=0∧c=0∧d=E∧e=0)∨(0<a∧a≤3∧0≤b∧b≤1000000∧0≤c∧c≤1000000∧0≤e∧e≤1000000)
def D5.zero:D5 0 0 0 E 0:=.inl ⟨rfl,rfl,rfl,rfl,rfl⟩
def D5.at{a c:Int}(h:0<a∧a≤3)(hc:0≤c)(hc':c≤1000000)(he:0≤e)(he':e≤1000000):D5 a 0 c d e:=.inr ⟨h.1,h.2,d7_ 0,show(0:Int)≤1000000 from by decide,hc,hc',he,he'⟩
def dN(a b c:Int)(d:Bool)(e:Int):S:={ AT with Z0:=a,I1:=b,F1:=c,H1:=d,D1:=e }
def Acc(x:S):QX x=I↔D5 x.Z0 x.I1 x.F1 x.H1 x.D1:=by
 unfold QX D5 RW C;by_cases g:x.Z0=0
 ·rw[g];simp
 ·rw[Ar g]
  simp;omega
def Vi(a b c:Int)(d:Bool)(e:Int):∃r,FR a b c d e=J ((r,()),())∧(r=I↔D5 a b c d e):=⟨_,Pn (dN a b c d e),Acc (dN a b c d e)⟩
def up1(n:Int):Int:=bif decide (1000000<N.wrap (n+1))then 1000000 else N.wrap (n+1)
def JS(h:0≤n∧n≤1000000):0≤up1 n∧up1 n≤1000000:=by
 unfold up1;rw[Ac ω ω]
 by_cases g:1000000<n+1
 ·rw[L g,d_];decide
 ·rw[e_ g,O];omega
def Te(n:Int):KR n=J ((up1 n,()),()):=rfl
def Ua(a b c:Int)(d:Bool)(e:Int):Jl a b c d e=J (((),()),((a,b,bif c !=0 then up1 c else c,d,e,()),())):=by
 unfold Jl;cases c !=0<;>rfl
def Anz{a b c:Int}(h:D5 a b c d e):P (MO a b c d e) λy=>letI f:=y.2.1.2;D5 y.2.1.1 f.1 f.2.1 f.2.2.1 f.2.2.2.1:=by
 obtain⟨r,h1,h2⟩:=Vi a b c d e;have hr:r=I:=h2.2 h;subst hr;unfold MO;refine U h1 (B (λ_=>A h) λ_=>B (λ_=>A h) λg=>?_)
 have g:¬a=0:=by simpa using g
 rcases h with h | ⟨p1,p2,p3,p4,p5,p6,p7,p8⟩
 ·exact absurd h.1 g
 refine U (Ua ..) (U (Te _) (A (.inr ⟨p1,p2,(JS ⟨p3,p4⟩).1,(JS ⟨p3,p4⟩).2,?_,?_,p7,p8⟩)))
 ·show 0≤(bif c !=0 then up1 c else c)
  cases c !=0 with
  |true=>exact(JS ⟨p5,p6⟩).1
  |false=>exact p5
 ·show(bif c !=0 then up1 c else c)≤1000000
  cases c !=0 with
  |true=>exact(JS ⟨p5,p6⟩).2
  |false=>exact p6
def Zx(c0 c1 c2 c3 c4 c5 c6 c7 c8 a b c:Int)(d:Bool)(e f:Int)(g h:Bool):P (MP c0 c1 c2 c3 c4 c5 c6 c7 c8 a b c d e f g h) λy=>letI f:=y.2.1.2;D5 y.2.1.1 f.1 f.2.1 f.2.2.1 f.2.2.2.1:=by
 unfold MP;refine H (Q:=λy=>letI f:=y.2.2.1;D5 f.1 f.2.1 f.2.2.1 f.2.2.2.1 f.2.2.2.2.1) ?_ λy hy=>?_
 ·obtain⟨r,h1,h2⟩:=Vi a b c d e
  refine U h1 (B (λ_=>A D5.zero) λk=>A (h2.1 (by simpa using k)))
 refine B (λ_=>B (λ_=>A (D5.at (a:=1) (by decide) (by decide) (by decide) (by decide) (by decide))) λ_=>A hy) λk=>?_
 have k:¬y.2.2.1.1=0:=by simpa using k
 obtain⟨p1,p2,p3,p4,p5,p6,p7,p8⟩:=hy.resolve_left λq=>k q.1
 have hc:0≤(bif y.2.2.1.2.2.1 !=0 then up1 y.2.2.1.2.2.1 else y.2.2.1.2.2.1)∧(bif y.2.2.1.2.2.1 !=0 then up1 y.2.2.1.2.2.1 else y.2.2.1.2.2.1)≤1000000:=by
  cases y.2.2.1.2.2.1 !=0 with
  |true=>exact JS ⟨p5,p6⟩
  |false=>exact⟨p5,p6⟩
 refine U (Ua ..) ?_;refine H (Q:=λz=>0<z.2.2.1.1∧z.2.2.1.1≤3∧0≤z.2.2.1.2.1∧z.2.2.1.2.1≤1000000∧0≤z.2.2.1.2.2.1∧z.2.2.1.2.2.1≤1000000∧0≤z.2.2.1.2.2.2.2.1∧z.2.2.1.2.2.2.2.1≤1000000) (B (λ_=>A ⟨p1,p2,p3,p4,hc.1,hc.2,p7,p8⟩) λ_=>A ⟨p1,p2,p3,p4,hc.1,hc.2,p7,p8⟩) λz hz=>?_
 refine B (λ_=>U rfl (A (D5.at (a:=2) (by decide) ?_ ?_ hz.2.2.2.2.2.2.1 hz.2.2.2.2.2.2.2))) λ_=>?_
 ·show 0≤(bif decide (z.2.2.1.2.2.1<1)then 1 else z.2.2.1.2.2.1)
  cases decide (z.2.2.1.2.2.1<1)with
  |true=>exact show(0:Int)≤1 from by decide
  |false=>exact hz.2.2.2.2.1
 ·show(bif decide (z.2.2.1.2.2.1<1)then 1 else z.2.2.1.2.2.1)≤1000000
  cases decide (z.2.2.1.2.2.1<1)with
  |true=>exact show(1:Int)≤1000000 from by decide
  |false=>exact hz.2.2.2.2.2.1
 refine H (Q:=λw=>w.2.2.1=z.2.2.1) (B (λ_=>A rfl) λ_=>A rfl) λw hw=>?_
 refine B (λ_=>A D5.zero) λ_=>?_
 refine H (Q:=λv=>v.2.2.1=z.2.2.1) (B (λ_=>B (λ_=>A hw) λ_=>A hw) λ_=>A hw) λv hv=>?_
 have stay:∀n:Int,P (Ql v.2.2.1.1 v.2.2.1.2.1 v.2.2.1.2.2.1 v.2.2.1.2.2.2.1 v.2.2.1.2.2.2.2.1 n) λy=>letI b:=y.2.1.2;D5 y.2.1.1 b.1 b.2.1 b.2.2.1 b.2.2.2.1:=λn=>by
  rw[hv];exact U (Te _) (A (.inr ⟨hz.1,hz.2.1,(JS ⟨hz.2.2.1,hz.2.2.2.1⟩).1,(JS ⟨hz.2.2.1,hz.2.2.2.1⟩).2,hz.2.2.2.2.1,hz.2.2.2.2.2.1,hz.2.2.2.2.2.2.1,hz.2.2.2.2.2.2.2⟩))
 refine B (λ_=>H (stay 5) λ_ h=>A h) λ_=>?_
 refine B (λ_=>?_) λ_=>?_
 ·rw[hv]
  exact U rfl (A (D5.at (a:=3) (by decide) hz.2.2.2.2.1 hz.2.2.2.2.2.1 hz.2.2.2.2.2.2.1 hz.2.2.2.2.2.2.2))
 refine B (λ_=>H (stay 3) λ_ h=>A h) λ_=>?_
 refine B (λ_=>?_) λ_=>?_
 ·refine H (Q:=λu=>u.2.1=v.2.2.1) (B (λ_=>A rfl) λ_=>A rfl) λu hu=>?_
  rw[hu];refine B (λ_=>?_) λ_=>H (stay 0) λ_ h=>A h
  rw[hv];exact U rfl (A (D5.at (a:=3) (by decide) hz.2.2.2.2.1 hz.2.2.2.2.2.1 hz.2.2.2.2.2.2.1 hz.2.2.2.2.2.2.2))
 refine B (λ_=>?_) λ_=>H (stay 4) λ_ h=>A h
 rw[hv];exact U (Te _) (U rfl (A (D5.at (a:=1) (by decide) hz.2.2.2.2.1 hz.2.2.2.2.2.1 (JS ⟨hz.2.2.2.2.2.2.1,hz.2.2.2.2.2.2.2⟩).1 (JS ⟨hz.2.2.2.2.2.2.1,hz.2.2.2.2.2.2.2⟩).2)))
def Any(c0 c1 c2 c3 c4 c5 c6 c7 c8 a b c:Int)(d:Bool)(e:Int):P (Qk c0 c1 c2 c3 c4 c5 c6 c7 c8 a b c d e) λ_=>True:=by
 unfold Qk;exact Sat.go
def M3(fl c t f:Int):Prop:=0≤t∧t≤1000000∧((c=0∧f=0)∨(c=1∧0≤f∧f+1<fl)∨(c=2∧0<f∧f<fl))
def M3.zero:M3 fl 0 0 0:=⟨by decide,by decide,.inl ⟨rfl,rfl⟩⟩
def Ahl(hf:2≤fl)(x:S):Uj fl x=I↔M3 fl x.R0 x.X0 x.Q0:=by
 unfold Uj M3 C;by_cases g:x.R0=0
 ·rw[g];simp
  omega
 by_cases g1:x.R0=1
 ·rw[g1];simp
  omega
 by_cases g2:x.R0=2
 ·rw[g2];simp
  omega
 ·rw[Ar g,Ar g1,Ar g2];simp
  omega
def mN(c t f:Int):S:={ AT with R0:=c,X0:=t,Q0:=f }
def Aa2(h:2≤fl∧fl≤8)(c t f:Int):∃r,FU fl c t f=J ((r,()),())∧(r=I↔M3 fl c t f):=⟨_,MN h (mN c t f),Ahl h.1 (mN c t f)⟩
def Uk{f c:Int}(hf:0≤f∧f<fl)(h:fl≤8):P (Fd fl f c) λy=>y.1.2.1=I→(c=1∧0≤f∧f+1<fl)∨(c=2∧0<f∧f<fl):=by
 unfold Fd;by_cases c1:c=1
 ·subst c1
  refine aD (Sat.bifF rfl (V rfl (Sat.bindC (λ_=>aD (A λg=>.inl ⟨rfl,hf.1,?_⟩)) λ_=>aD (A λg=>by cases g))))
  have g:=n_ g;have e:N.wrap (f+List.getD [(0:Int),1,-1] (R 1) 0)=f+1:=Ac (ω:(-9223372036854775808:Int)≤f+1) (ω:f+1<9223372036854775808)
  exact e▸g
 ·rw[FK c1]
  by_cases c2:c=2
  ·subst c2
   have e:N.wrap (f+List.getD [(0:Int),1,-1] (R 2) 0)=f+ -1:=Ac (ω:(-9223372036854775808:Int)≤f+ -1) (ω:f+ -1<9223372036854775808)
   refine aD (Sat.bifF rfl (V rfl (Sat.bindC (λg0=>aD (A λg=>.inr ⟨rfl,?_,hf.2⟩)) λ_=>aD (A λg=>by cases g))))
   have g0:0≤f+ -1:=e▸n_ g0;omega
  ·rw[FK c2]
   exact aD (V rfl (A λg=>by cases g))
def Aip{c t f:Int}(h:M3 fl c t f):P (KD c t f) λy=>M3 fl y.2.1.1 y.2.1.2.1 y.2.1.2.2.1:=by
 unfold KD;refine H (Q:=λy=>y.2.1=(c,t,f,())∧(y.1.2.2.1=I→t<1000000)) ?_ λy hy=>?_
 ·refine B (λ_=>B (λ_=>A ⟨rfl,λg=>n_ g⟩) λ_=>A ⟨rfl,λg=>by cases g⟩) λ_=>?_
  exact B (λ_=>B (λ_=>A ⟨rfl,λg=>n_ g⟩) λ_=>A ⟨rfl,λg=>by cases g⟩) λ_=>A ⟨rfl,λg=>by cases g⟩
 refine B (λg=>A ?_) λ_=>A ?_
 ·rw[hy.1]
  have ht:=hy.2 g
  have:=h.1
  show M3 fl c (aC N (t+1)) f;rw[Ac ω ω]
  exact⟨ω,ω,h.2.2⟩
 ·rw[hy.1];exact h
def MZ(y:Int×Int×Int×Unit):Prop:=y=(0,0,0,())
def Air(h:2≤fl∧fl≤8)(c t f g:Int)(l:Bool)(d:Int)(k:Bool)(w:Int):P (Nc fl c t f g l d k w) λy=>M3 fl y.2.1.1 y.2.1.2.1 y.2.1.2.2.1∧(y.1.2.2.1=I→MZ y.2.1)∧(c=0→w=0→l=I→MZ y.2.1):=by
 unfold Nc;obtain⟨r,h1,h2⟩:=Aa2 h c t f;have hz:M3 fl 0 0 0:=M3.zero;refine U h1 (B (λ_=>A ⟨hz,λ_=>rfl,λ_ _ _=>rfl⟩) λhr=>B (λ_=>A ⟨hz,λ_=>rfl,λ_ _ _=>rfl⟩) λa1=>B (λ_=>A ⟨hz,λ_=>rfl,λ_ _ _=>rfl⟩) λa2=>?_)
 have hm:M3 fl c t f:=h2.1 (by simpa using hr)
 have hg:0≤g∧g<fl:=⟨by have:=D_ a1;omega,by have:=D_ a2;omega⟩
 have hf:0≤f∧f<fl:=by rcases hm.2.2 with q | q | q<;>omega
 refine H (Uk hf h.2) λy2 b2=>?_
 have nb:c=0→y2.1.2.1=E:=λc0=>by
  cases q:y2.1.2.1 with
  |false=>rfl
  |true=>rcases b2 q with e | e<;>omega
 refine H (Q:=λy=>(y.1.1=fl∧y.1.2.1=w∧y.2.1=(c,t,f,())∧y.2.2.1.1=g)∧y.1.2.2.2.2.2.1=y2.1.2.1∧y.2.2.1.2.1=l) ?_ λy3 h3=>?_
 ·exact B (λ_=>B (λ_=>A ⟨⟨rfl,rfl,rfl,rfl⟩,rfl,rfl⟩) λ_=>A ⟨⟨rfl,rfl,rfl,rfl⟩,rfl,rfl⟩) λ_=>A ⟨⟨rfl,rfl,rfl,rfl⟩,rfl,rfl⟩
 refine B (λ_=>A ⟨hz,λ_=>rfl,λ_ _ _=>rfl⟩) λ_=>?_
 refine H (Q:=λy=>(y.1.1=fl∧y.1.2.1=w∧y.2.1=(c,t,f,())∧y.2.2.1.1=g)∧(c=0→l=I→y.1.2.2.2.2.2.1=E)) ?_ λy4 h4=>?_
 ·refine B (λq=>A ⟨h3.1,λc0 _=>?_⟩) λ_=>A ⟨h3.1,λ_ l1=>?_⟩
  ·rw[h3.2.1,nb c0]at q;cases q
  ·show(!y3.2.2.1.2.1)=E
   rw[h3.2.2,l1];rfl
 obtain⟨⟨e1,e2,e3,e4⟩,e5⟩:=h4;refine B (λq=>A ⟨?_,λg=>(by cases g),λc0 _ l1=>?_⟩) λ_=>?_
 ·rw[e3]
  exact⟨(JS ⟨hm.1,hm.2.1⟩).1,(JS ⟨hm.1,hm.2.1⟩).2,hm.2.2⟩
 ·rw[e5 c0 l1]at q;cases q
 rw[e1,e2,e4];refine H (Uk hg h.2) λy5 h5=>B (λq=>A ⟨?_,λg=>(by cases g),λ_ w0 _=>?_⟩) λ_=>A ⟨hz,λ_=>rfl,λ_ _ _=>rfl⟩
 ·exact⟨show(0:Int)≤0 from by decide,show(0:Int)≤1000000 from by decide,.inr (h5 q)⟩
 ·rcases h5 q with e | e<;>omega
def Aio(c0 c1 c2 c3 c4 c5 c6 c7 c8 a b c:Int):P (Rl c0 c1 c2 c3 c4 c5 c6 c7 c8 a b c) λ_=>True:=A trivial
def An7(hcode:b.code=0)(hv:AP b.C0 b.F0 b.I0 b.N0 b.K0 b.M0 b.O0 b.B0=J ((b.code,()),()))(car idle floor:Int):P (Qn b.C0 b.F0 b.I0 b.N0 b.K0 b.M0 b.O0 b.B0 car idle floor) λy=>y.1.1=0∨y.1.1=1∨y.1.1=2:=by
 unfold Qn;refine U hv (B (λ_=>A (.inl rfl)) λ_=>B (λ_=>A (.inl rfl)) λh1=>B (λ_=>A (.inl rfl)) λh2=>?_)
 have h1:=D_ h1;have h2:=D_ h2;refine B (λ_=>A (.inl rfl)) λ_=>B (λ_=>A (.inl rfl)) λ_=>B (λ_=>A (.inl rfl)) λ_=>?_
 refine V (Aa ω ω) (B (λ_=>A (.inr (.inl rfl))) λ_=>B (λ_=>A (.inr (.inr rfl))) λ_=>A (.inl rfl))
end Go.Ovl
