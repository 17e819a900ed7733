/- Layer 10, the program's side: the binary search, what a record changes, images behind records. -/
import Derived.Test.YtgmkjajpbaghgaaGreatDoorOvB
import Derived.Test.YtgmkjajpbaghgaaGreatDoorOvA
import Derived.Test.YtgmkjajpbaghgaaGreatDoorDefs4
set_option linter.all false
open Bool renaming false->A,true->C
open Option renaming some->B
open Go renaming d_->E
open Go.Ovl renaming Entry->H,Record->I,Img->J
open Int renaming toNat->L
open List renaming range'->O,replicate->P
open Go.IntKind renaming u32->Q,wrap->R,i64->aB,u64->aC
open Nat renaming ble->aA
open BitVec renaming getLsbD_or->aD
namespace Go.Ovl
open Go Go.Ab
set_option maxRecDepth 100000
variable{b:Bldg}{c p:Int×Int}{m:J}{out:List I}{f:Nat}{d:Int}
def At(F D:Int):H:=⟨F,D,0,0,A⟩
def Agh{i j:Nat}(h:i+j<9223372036854775808):aB.wrap (Int.fdiv (R aC (R aB ((i:Int)+(j:Int)))) ((2:Int)^(Min.min (L (1:Int)) (IntKind.bits aC))))=(((i+j)/2:Nat):Int):=by
 rw[Ac (n:=(i:Int)+(j:Int)) ω ω,Ek ω ω]
 rw[show((2:Int)^(Min.min (L (1:Int)) (IntKind.bits aC)))=2 from rfl]
 rw[a1_ _ ω]
 rw[Ac ω ω]
 omega
def Anz{l:List H}(hs:Bp l)(hl:l.length≤100000)(F D:Int) :
  AD ((l,(),(),(l.length:Int),(0:Int),(l.length:Int),()),((F,D,0,0,A,()),()))=B ((l,(),(),(l.length:Int),((AA (At F D) l:Nat):Int),()),((F,D,0,0,A,()),())):=by
 refine Bf7 (λx y=>∃i j:Nat,i≤AA (At F D) l∧AA (At F D) l≤j∧j≤l.length∧x=((l,(),(),(l.length:Int),(i:Int),(j:Int),()),((F,D,(0:Int),(0:Int),A,()),()))∧y=((l,(),(),(l.length:Int),((AA (At F D) l:Nat):Int),()),((F,D,(0:Int),(0:Int),A,()),()))) (λx=>x.1.2.2.2.2.2.1.toNat-x.1.2.2.2.2.1.toNat) ?_ (x:=((l,(),(),(l.length:Int),(0:Int),(l.length:Int),()),((F,D,0,0,A,()),()))) (y:=((l,(),(),(l.length:Int),((AA (At F D) l:Nat):Int),()),((F,D,0,0,A,()),()))) ⟨0,l.length,a3_ _,Sb _ _,w_ _,rfl,rfl⟩ (by show((l.length:Int).toNat-L 0)<_;omega)
 rintro _ _ ⟨i,j,h1,h2,h3,rfl,rfl⟩;show(∃x',AE l (l.length:Int) (i:Int) (j:Int) F D 0 0 A=_∧_)∨AE l (l.length:Int) (i:Int) (j:Int) F D 0 0 A=_;unfold AE;rw[Agh ω]
 by_cases hij:i<j
 ·left
  have hh:(i+j)/2<l.length:=ω
  obtain⟨n,c1,c2,_⟩:=PQ (l.getD ((i+j)/2) noE) (At F D);unfold At at c1;unfold noE at c1;simp only[b_ (ω:(i:Int)<(j:Int)),Aa (ω:(0:Int)≤(((i+j)/2:Nat):Int)) (ω:(((i+j)/2:Nat):Int)<(l.length:Int)),j_,E,c1,a_]
  have c2':decide (n<0)=Bj (l.getD ((i+j)/2) noE) (At F D):=by rw[WX,c2,Bool.not_not]
  rw[c2'];cases hq:Bj (l.getD ((i+j)/2) noE) (At F D)with
  |true=>
   have:(i+j)/2<AA (At F D) l:=by
    rcases f6_ ((i+j)/2) (AA (At F D) l)with h | h
    ·exact h
    ·have:=Ae2 hs _ h hh
     rw[hq]at this;cases this
   rw[E,show aB.wrap ((((i+j)/2:Nat):Int)+1)=(((i+j)/2+1:Nat):Int)by rw[Ac ω ω];omega]
   exact⟨_,rfl,⟨(i+j)/2+1,j,ω,h2,h3,rfl,trivial⟩,by show L (j:Int)-L (((i+j)/2+1:Nat):Int)<L (j:Int)-L (i:Int);omega⟩
  |false=>
   have:AA (At F D) l≤(i+j)/2:=by
    rcases f6_ ((i+j)/2) (AA (At F D) l)with h | h
    ·have:=Ae3 (At F D) l _ h
     rw[hq]at this;cases this
    ·exact h
   rw[c_];exact⟨_,rfl,⟨i,(i+j)/2,h1,this,ω,rfl,trivial⟩,by show L (((i+j)/2:Nat):Int)-L (i:Int)<L (j:Int)-L (i:Int);omega⟩
 ·right
  rw[f_ (ω:¬(i:Int)<(j:Int)),show i=AA (At F D) l by omega]
  rfl
def Zb(m:J)(hs:Bp m.A0)(hl:m.A0.length≤100000)(F D:Int):Oj m.F0 m.O0 m.K0 m.A0 F D=B ((((AA (At F D) m.A0:Nat):Int),FG (At F D) m.A0,()),()):=by
 unfold Oj AX;simp only;rw[Anz hs hl F D];simp only[a_];have hp:=Sb (At F D) m.A0;unfold FG;by_cases h:AA (At F D) m.A0<m.A0.length
 ·obtain⟨n,c1,_,c3⟩:=PQ (m.A0.getD (AA (At F D) m.A0) noE) (At F D)
  rw[b_ (ω:((AA (At F D) m.A0:Nat):Int)<(m.A0.length:Int)),Aa (ω:(0:Int)≤((AA (At F D) m.A0:Nat):Int)) (ω:((AA (At F D) m.A0:Nat):Int)<(m.A0.length:Int)),j_,show Nat.blt (AA (At F D) m.A0) m.A0.length=C by rw[g4_];exact h]
  have e:(n==0)=isC (At F D).D0 (At F D).I0 (m.A0.getD (AA (At F D) m.A0) noE):=by
   rw[Bool.eq_iff_iff,Y_,c3];unfold isC;rw[e_,Y_,Y_]
  rw[← e];generalize AA (At F D) m.A0=p at*;unfold noE at c1;unfold At at c1;simp only[E,c1,a_,o_]
 ·rw[f_ (ω:¬((AA (At F D) m.A0:Nat):Int)<(m.A0.length:Int)),show Nat.blt (AA (At F D) m.A0) m.A0.length=A by rw[← Bool.not_eq_true,g4_];exact h]
  rfl
def Awx(x:H)(e:H):Bj x (At e.D0 e.I0)=Bj x e:=rfl
def SV(e:H):∀l:List H,AA (At e.D0 e.I0) l=AA e l
 |[]=>rfl
 |x::t=>by simp only[AA,Awx,SV e t]
def Ahv(hs:Bp m.A0)(hl:m.A0.length≤100000)(r:I)(hc:(r.T0=4∨r.T0=5∨r.T0=6)→0≤r.Q0∧r.Q0<(m.F0.length:Int)∧r.Q0<(m.O0.length:Int)∧r.Q0<(m.K0.length:Int)):
  Oi r.T0 r.D0 r.I0 r.Q0 r.V1 m.F0 m.O0 m.K0 m.A0=B ((),((An m r).tup,())):=by
 unfold Oi An;rw[Zb m hs hl];simp only[a_];by_cases k4:r.T0=4
 ·obtain⟨c0,c1,c2,c3⟩:=hc (.inl k4)
  rw[k4];simp only[l_,E,Aa c0 c1];rfl
 rw[Aq k4];by_cases k5:r.T0=5
 ·obtain⟨c0,c1,c2,c3⟩:=hc (.inr (.inl k5))
  rw[k5];simp only[l_,E,c_,Aa c0 c2];rfl
 rw[Aq k5];by_cases k6:r.T0=6
 ·obtain⟨c0,c1,c2,c3⟩:=hc (.inr (.inr k6))
  rw[k6];simp only[l_,E,c_,Aa c0 c3];rfl
 rw[Aq k6];simp only[c_];have hf:=QO (c:=At r.D0 r.I0) 0 hs;simp only[q_]at hf;rw[show Dx r.D0 r.I0 m.A0 0=_ from hf]
 have hp:=Sb (At r.D0 r.I0) m.A0;cases hq:FG (At r.D0 r.I0) m.A0 with
 |false=>
  have hn:=Agi hs hq;simp only[c_,E,b6_,l_];by_cases k1:r.T0=1
  ·rw[k1]
   simp only[l_,E];unfold Dm ZM;rw[b_ (ω:(0:Int)≤((AA (At r.D0 r.I0) m.A0:Nat):Int)),b_ (ω:((AA (At r.D0 r.I0) m.A0:Nat):Int)≤(m.A0.length:Int))]
   rw[show Nat.blt 0 [Entry.mk r.D0 r.I0 (-1) 0 A].length=C from rfl,Ax (show m.A0.length+[Entry.mk r.D0 r.I0 (-1) 0 A].length≤2147483648 by rw[I_];omega)]
   have hi:=ZO (c:=⟨r.D0,r.I0,-1,0,A⟩) (l:=m.A0) hn;rw[hi,show AA ⟨r.D0,r.I0,-1,0,A⟩ m.A0=AA (At r.D0 r.I0) m.A0 from(SV ⟨r.D0,r.I0,-1,0,A⟩ m.A0).symm]
   rfl
  ·rw[Aq k1]
   cases r.T0==2<;>cases r.T0==3<;>cases r.T0==7<;>rfl
 |true=>
  have hlt:AA (At r.D0 r.I0) m.A0<m.A0.length:=by
   unfold FG at hq;rw[e_,g4_]at hq;exact hq.1
  simp only[E,n_,c_,Aq (ω:¬((AA (At r.D0 r.I0) m.A0:Nat):Int)=-1),j_]
  generalize AA (At r.D0 r.I0) m.A0=p at hp hlt⊢;have w:aB.wrap ((p:Int)+1)=((p+1:Nat):Int):=by rw[Ac ω ω];omega
  have ib:inB (p:Int) m.A0.length=C:=Aa ω ω
  by_cases k1:r.T0=1
  ·simp only[k1,l_,E,c_,show((1:Int)==2)=A from rfl,show((1:Int)==3)=A from rfl,show((1:Int)==7)=A from rfl]
   rfl
  rw[Aq k1,c_];cases r.T0==2 with
  |true=>
   unfold Dl Aj2;simp only[E,w,b_ (ω:(0:Int)≤(p:Int)),b_ (ω:(p:Int)<((p+1:Nat):Int)),b_ (ω:((p+1:Nat):Int)≤(m.A0.length:Int)),a6_,a_,j_]
   rfl
  |false=>
   simp only[c_];cases r.T0==3 with
   |true=>simp only[E,ib];rfl
   |false=>
    simp only[c_];cases r.T0==7 with
    |true=>
     have ib2:∀y:H,inB (p:Int) (m.A0.set p y).length=C:=λy=>Aa ω (by rw[r_];omega)
     have hg:∀y:H,(m.A0.set p y).getD p (Entry.mk 0 0 0 0 A)=y:=λy=>by
      simp[k_,hlt]
     simp only[E,ib,ib2,hg,List.set_set];rfl
    |false=>rfl
def Xs(hb:b.small)(hcl:b.B0.length≤100)(m:J)(hp:m.F0.length≤100000)(hl:m.A0.length≤10000)(r:I):
  MM b.C0 b.E0 b.H0 b.M0 b.J0 b.L0 b.N0 b.B0 m.F0 m.O0 m.K0 m.A0 r.T0 r.D0 r.I0 r.Q0 r.V1=B (WN b m r):=by
 have hmx:100000≤maxLen:=by decide
 unfold MM WN;rw[CL hb m ω ω]
 simp only[a_];cases hok:m.ok b with
 |false=>rfl
 |true=>
  rw[TQ hb hcl r];simp only[n_,c_,a_,o_];cases hv:Az b r with
  |false=>rfl
  |true=>
   have hm:=Img.ok_iff.1 hok;have h1:=hm.lp;have h2:=hm.lf;have h3:=hm.ll;simp only[n_,c_,E];rw[Xv m hp ω ω ω]
   simp only[a_,Img.tup]
   rw[Ahv hm.so ω r λhk=>by
    have:=Atb hv hk
    omega]
   rfl
def Bqp{a b:Nat}(h:a≤100000)(h':b≤100000):aB.wrap (R aB (18*aB.wrap (R aB ((a:Int)+(b:Int))+1))+6)=18*((a:Int)+(b:Int)+1)+6:=by
 rw[Ac (n:=(a:Int)+(b:Int)) ω ω,Ac (n:=(a:Int)+(b:Int)+1) ω ω,Ac (n:=18*((a:Int)+(b:Int)+1)) ω ω,Ac ω ω]
def Pn(b:Bldg)(m:J):Bool:=m.ok b&&decide (18*((b.B0.length:Int)+(m.A0.length:Int)+1)+6≤b.H0)
def Za(hb:b.small)(m:J)(hc:b.B0.length≤100000)(hp:m.F0.length≤100000)(hl:m.A0.length≤100000):
  Me b.C0 b.E0 b.H0 b.M0 b.J0 b.L0 b.N0 b.B0 m.F0 m.O0 m.K0 m.A0=B ((Pn b m,()),()):=by
 have hmx:100000≤maxLen:=by decide
 unfold Me Pn;rw[CL hb m ω ω]
 simp only[a_,Bqp hc hl];cases m.ok b<;>rfl
def KX(p:Nat→Bool):Nat→Nat→Bool
 |0,_=>C
 |m+1,i=>p i&&KX p m (i+1)
def LO{X Y:Type}{step:X→Option (Sum X Y)}(N:Nat)(g:Nat→X)(p:Nat→Bool)(y0 y1:Y)(h1:∀i,i<N→step (g i)=B (bif p i then .inl (g (i+1))else .inr y1))(h2:step (g N)=B (.inr y0)) :
  ∀m i:Nat,i+m=N→BN step (m+1) (g i)=B (bif KX p m i then y0 else y1)
 |0,i,hi=>by
  obtain rfl:i=N:=ω
  exact Ay h2
 |m+1,i,hi=>by
  have h:=h1 i ω
  simp only[KX];cases hp:p i with
  |true=>
   rw[hp]at h;rw[Bs h,o_];exact LO N g p y0 y1 h1 h2 m (i+1) ω
  |false=>
   rw[hp]at h;rw[Ay h];rfl
def AI:Nat:=10000000
def Dz{i n:Nat}(h:i<n)(hn:n≤AI):aB.wrap ((i:Int)+1)=((i+1:Nat):Int):=by
 unfold AI at hn;rw[Ac ω ω];omega
section
variable{α:Type}
end
structure Img.fit(m:Img):Prop where
 p:m.F0.length≤100000
 f:m.O0.length≤100000
 l:m.K0.length≤100000
 e:m.A0.length≤100000
section
variable{a c:J}(ha:a.fit)
include ha
end
def SS(on:Bool):Int:=bif on then 1 else 0
def Wy(on:Bool):Jj on=B ((SS on,()),()):=by unfold Jj SS;cases on<;>rfl
def Acu(on:Bool):NQ on=B ((SS on,()),()):=by unfold NQ SS;cases on<;>rfl
def Nz(m:J)(i:Nat):List I:=[⟨4,0,0,i,m.F0.getD i 0⟩,⟨5,0,0,i,SS (m.O0.getD i A)⟩,⟨6,0,0,i,SS (m.K0.getD i A)⟩]
def NA(e:H):List I:=[⟨1,e.D0,e.I0,0,0⟩,⟨3,e.D0,e.I0,e.Q0,0⟩,⟨7,e.D0,e.I0,SS e.Y1,e.B1⟩]
def CG(m:J):List I:=(O 0 m.F0.length).flatMap (Nz m)++m.A0.flatMap NA
def Hh{α:Type}(f:Nat→List α):∀(k i:Nat) (s:List α),Bw (λi s=>s++f i) k i s=s++(O i k).flatMap f
 |0,i,s=>by simp[Bw]
 |k+1,i,s=>by
  simp only[Bw];rw[Hh f k (i+1),e9_,a0_,O_]
def Mx{α β:Type}(f:α→List β)(d:α):∀(l:List α) (i k:Nat),i+k=l.length→(O i k).flatMap (λi=>f (l.getD i d))=(l.drop i).flatMap f
 |l,i,0,h=>by
  obtain rfl:i=l.length:=ω
  simp
 |l,i,k+1,h=>by
  rw[e9_,a0_,Mx f d l (i+1) k ω,Cb d (ω:i<l.length),a0_]
def Abq(l:List H):(O 0 l.length).flatMap (λi=>NA (l.getD i noE))=l.flatMap NA:=by
 rw[Mx NA noE l 0 l.length ω,R_]
section
variable{m:J}(hf:m.fit)
include hf
theorem XJ(ho:out.length≤300000):Kc (((),out,(0:Int),()),(m.tup,()))=B ((out++m.A0.flatMap NA,()),()):=by
 have hl:=hf.e
 have h:=AQ (step:=λx=>Ge x.1.2.1 x.1.2.2.1 x.2.1.1 x.2.1.2.1 x.2.1.2.2.1 x.2.1.2.2.2.1) m.A0.length (λi s=>(((),s,(i:Int),()),(m.tup,()))) (λi s=>s++NA (m.A0.getD i noE)) (λi s=>s.length=out.length+3*i) (λs=>((s,()),())) (λi s hi hs=>by
  refine⟨?_,by rw[h_,hs];show _+3=_;omega⟩
  have b1:∀r r' r'':I,aA (s.length+[r,r',r''].length) 2147483648=C:=λr r' r''=>Ax (by show s.length+3≤_;omega)
  show Ge s (i:Int) m.F0 m.O0 m.K0 m.A0=_;unfold Ge;simp only[b_ (ω:(i:Int)<(m.A0.length:Int)),Aa (ω:(0:Int)≤(i:Int)) (ω:(i:Int)<(m.A0.length:Int)),E,j_,Acu,a_,b1,Dz hi (show m.A0.length≤AI by unfold AI;omega)]
  rfl) (λs _=>by
  show Ge s (m.A0.length:Int) m.F0 m.O0 m.K0 m.A0=_;unfold Ge;simp only[f_ (N_ (m.A0.length:Int)),c_]) m.A0.length 0 out ω rfl
 have h':=Ai h.1 ω
 rw[Hh,Abq]at h';exact h'
theorem XI(h1:m.O0.length=m.F0.length)(h2:m.K0.length=m.F0.length):Kb (((),[],(0:Int),()),(m.tup,()))=B (((),(O 0 m.F0.length).flatMap (Nz m),()),(m.tup,())):=by
 have hl:=hf.p
 have h:=AQ (step:=λx=>Gd x.1.2.1 x.1.2.2.1 x.2.1.1 x.2.1.2.1 x.2.1.2.2.1 x.2.1.2.2.2.1) m.F0.length (λi s=>(((),s,(i:Int),()),(m.tup,()))) (λi s=>s++Nz m i) (λi s=>s.length=3*i) (λs=>(((),s,()),(m.tup,()))) (λi s hi hs=>by
  refine⟨?_,by rw[h_,hs];show _+3=_;omega⟩
  have b1:∀r r' r'':I,aA (s.length+[r,r',r''].length) 2147483648=C:=λr r' r''=>Ax (by show s.length+3≤_;omega)
  show Gd s (i:Int) m.F0 m.O0 m.K0 m.A0=_;unfold Gd;simp only[b_ (ω:(i:Int)<(m.F0.length:Int)),Aa (ω:(0:Int)≤(i:Int)) (ω:(i:Int)<(m.F0.length:Int)),Aa (ω:(0:Int)≤(i:Int)) (ω:(i:Int)<(m.O0.length:Int)),Aa (ω:(0:Int)≤(i:Int)) (ω:(i:Int)<(m.K0.length:Int)),E,j_,Acu,a_,b1,Dz hi (show m.F0.length≤AI by unfold AI;omega)]
  rfl) (λs _=>by
  show Gd s (m.F0.length:Int) m.F0 m.O0 m.K0 m.A0=_;unfold Gd;simp only[f_ (N_ (m.F0.length:Int)),c_];rfl) m.F0.length 0 [] ω rfl
 have h':=Ai h.1 ω
 rw[Hh,Z_]at h';exact h'
theorem Xu(ho:out.length≤300000):Ka (((),m.A0,(m.A0.length:Int),(0:Int),()),((out,()),()))=B (((),()),((out++m.A0.flatMap NA,()),())):=by
 have hl:=hf.e
 have h:=AQ (step:=λx=>Gb x.1.2.1 x.1.2.2.1 x.1.2.2.2.1 x.2.1.1) m.A0.length (λi s=>(((),m.A0,(m.A0.length:Int),(i:Int),()),((s,()),()))) (λi s=>s++NA (m.A0.getD i noE)) (λi s=>s.length=out.length+3*i) (λs=>(((),()),((s,()),()))) (λi s hi hs=>by
  refine⟨?_,by rw[h_,hs];show _+3=_;omega⟩
  show Gb m.A0 (m.A0.length:Int) (i:Int) s=_;have b1:∀r:I,aA (s.length+[r].length) 2147483648=C:=λr=>Ax (by rw[I_];omega)
  have b2:∀r r':I,aA ((s++[r]).length+[r'].length) 2147483648=C:=λr r'=>Ax (by rw[h_,I_,I_];omega)
  have b3:∀r r' r'':I,aA ((s++[r]++[r']).length+[r''].length) 2147483648=C:=λr r' r''=>Ax (by rw[h_,h_,I_,I_,I_];omega)
  unfold Gb Hv;simp only[b_ (ω:(i:Int)<(m.A0.length:Int)),Aa (ω:(0:Int)≤(i:Int)) (ω:(i:Int)<(m.A0.length:Int)),E,j_,Wy,a_,b1,b2,b3,Dz hi (show m.A0.length≤AI by unfold AI;omega)]
  simp only[O_]
  rfl) (λs _=>by
  show Gb m.A0 (m.A0.length:Int) (m.A0.length:Int) s=_;unfold Gb;simp only[f_ (N_ (m.A0.length:Int)),c_]) m.A0.length 0 out ω rfl
 have h':=Ai h.1 ω
 rw[Hh,Abq]at h';exact h'
theorem Xt(h1:m.O0.length=m.F0.length)(h2:m.K0.length=m.F0.length):JZ (((),(),(m.F0.length:Int),(0:Int),()),(m.tup,(([]:List I),()),()))=B (((),(),()),(m.tup,((O 0 m.F0.length).flatMap (Nz m),()),())):=by
 have hl:=hf.p
 have h:=AQ (step:=λx=>Ga x.1.2.2.1 x.1.2.2.2.1 x.2.1.1 x.2.1.2.1 x.2.1.2.2.1 x.2.1.2.2.2.1 x.2.2.1.1) m.F0.length (λi s=>(((),(),(m.F0.length:Int),(i:Int),()),(m.tup,(s,()),()))) (λi s=>s++Nz m i) (λi s=>s.length=3*i) (λs=>(((),(),()),(m.tup,(s,()),()))) (λi s hi hs=>by
  refine⟨?_,by rw[h_,hs];show _+3=_;omega⟩
  show Ga (m.F0.length:Int) (i:Int) m.F0 m.O0 m.K0 m.A0 s=_;have b1:∀r:I,aA (s.length+[r].length) 2147483648=C:=λr=>Ax (by rw[I_];omega)
  have b2:∀r r':I,aA ((s++[r]).length+[r'].length) 2147483648=C:=λr r'=>Ax (by rw[h_,I_,I_];omega)
  have b3:∀r r' r'':I,aA ((s++[r]++[r']).length+[r''].length) 2147483648=C:=λr r' r''=>Ax (by rw[h_,h_,I_,I_,I_];omega)
  unfold Ga Hu;simp only[b_ (ω:(i:Int)<(m.F0.length:Int)),Aa (ω:(0:Int)≤(i:Int)) (ω:(i:Int)<(m.F0.length:Int)),Aa (ω:(0:Int)≤(i:Int)) (ω:(i:Int)<(m.O0.length:Int)),Aa (ω:(0:Int)≤(i:Int)) (ω:(i:Int)<(m.K0.length:Int)),E,j_,Wy,a_,b1,b2,b3,Dz hi (show m.F0.length≤AI by unfold AI;omega)]
  simp only[O_]
  rfl) (λs _=>by
  show Ga (m.F0.length:Int) (m.F0.length:Int) m.F0 m.O0 m.K0 m.A0 s=_;unfold Ga;simp only[f_ (N_ (m.F0.length:Int)),c_];rfl) m.F0.length 0 [] ω rfl
 have h':=Ai h.1 ω
 rw[Hh,Z_]at h';exact h'
end
def SK{α β:Type}(f:α→List β)(hf:∀x,(f x).length=3):∀l:List α,(l.flatMap f).length=3*l.length
 |[]=>rfl
 |a::t=>by rw[a0_,h_,hf,SK f hf t,z_];omega
def XS(m:J)(n:Nat):((O 0 n).flatMap (Nz m)).length=3*n:=by rw[SK _ λ_=>rfl,List.length_range']
def XT(m:J):(CG m).length=3*(m.F0.length+m.A0.length):=by
 unfold CG;rw[h_,XS,SK _ λ_=>rfl];omega
def TW(b:Bldg)(m:J):List I:=bif m.ok b then CG m else []
section
variable{b:Bldg}(hb:b.small){m:J}(hf:m.fit)
include hb hf
theorem Acg:Mf b.C0 b.E0 b.H0 b.M0 b.J0 b.L0 b.N0 b.B0 m.F0 m.O0 m.K0 m.A0=B ((TW b m,()),()):=by
 have hmx:100000≤maxLen:=by decide
 have hp:=hf.p;have he:=hf.e;unfold Mf TW;rw[CL hb m ω ω]
 simp only[a_];cases hok:m.ok b with
 |false=>rfl
 |true=>
  have hm:=Img.ok_iff.1 hok;have l0:=Xt hf (by rw[hm.lf,hm.lp]) (by rw[hm.ll,hm.lp])
  have l1:=Xu hf (out:=(O 0 m.F0.length).flatMap (Nz m)) (by rw[XS];omega)
  simp only[Img.tup]at l0;simp only[n_,c_,E,l0,l1,a_];rfl
theorem Acs:Mk b.C0 b.E0 b.H0 b.M0 b.J0 b.L0 b.N0 b.B0 m.F0 m.O0 m.K0 m.A0=B ((TW b m,()),()):=by
 have hmx:100000≤maxLen:=by decide
 have hp:=hf.p;have he:=hf.e;unfold Mk TW;rw[PT hb m ω ω]
 simp only[a_];cases hok:m.ok b with
 |false=>rfl
 |true=>
  have hm:=Img.ok_iff.1 hok;have l0:=XI hf (by rw[hm.lf,hm.lp]) (by rw[hm.ll,hm.lp])
  have l1:=XJ hf (out:=(O 0 m.F0.length).flatMap (Nz m)) (by rw[XS];omega)
  simp only[Img.tup]at l0 l1;simp only[n_,c_,E,l0,l1,a_];rfl
end
def EA(m:J):∀(a c:List I),Ap m (a++c)=Ap (Ap m a) c
 |[],_=>rfl
 |r::t,c=>by
  show Ap (An m r) (t++c)=Ap (Ap (An m r) t) c;exact EA (An m r) t c
def Afg{α:Type}(l:List α)(z d:α){k n:Nat}(hk:k<n)(hl:l.length=n):(l.take k++P (n-k) z).set k (l.getD k d)=l.take (k+1)++P (n-(k+1)) z:=by
 have h1:(l.take k).length=k:=by rw[v_];omega
 rw[List.set_append_right _ _ ω,h1,Nat.sub_self,show n-k=(n-(k+1))+1 by omega,List.replicate_succ,List.set_cons_zero]
 have h2:k<l.length:=ω
 rw[show l.getD k d=l[k]by simp[h2]]
 rw[List.take_succ_eq_append_getElem h2,O_];rfl
def Aoa(m:J)(a c d:I):Ap m [a,c,d]=An (An (An m a) c) d:=rfl
def Ao9(on:Bool):(SS on==1)=on:=by cases on<;>rfl
def An0{n k:Nat}(hk:k<n)(h1:m.F0.length=n)(h2:m.O0.length=n)(h3:m.K0.length=n):
  Ap ⟨m.F0.take k++P (n-k) 0,m.O0.take k++P (n-k) A,m.K0.take k++P (n-k) A,[]⟩ (Nz m k)=⟨m.F0.take (k+1)++P (n-(k+1)) 0,m.O0.take (k+1)++P (n-(k+1)) A,m.K0.take (k+1)++P (n-(k+1)) A,[]⟩:=by
 have e1:=Afg m.F0 0 0 hk h1;have e2:=Afg m.O0 A A hk h2;have e3:=Afg m.K0 A A hk h3;unfold Nz;rw[Aoa];unfold An;simp only[show((4:Int)==4)=C from rfl,show((5:Int)==4)=A from rfl,show((5:Int)==5)=C from rfl,show((6:Int)==4)=A from rfl,show((6:Int)==5)=A from rfl,show((6:Int)==6)=C from rfl,E,c_,j_,Ao9,e1,e2,e3]
def Ag8{m:J}{n:Nat}(h1:m.F0.length=n)(h2:m.O0.length=n)(h3:m.K0.length=n):∀j k:Nat,k+j=n→
  Ap ⟨m.F0.take k++P (n-k) 0,m.O0.take k++P (n-k) A,m.K0.take k++P (n-k) A,[]⟩ ((O k j).flatMap (Nz m))=⟨m.F0,m.O0,m.K0,[]⟩
 |0,k,h=>by
  obtain rfl:k=n:=ω
  rw[Nat.sub_self];simp only[List.replicate_zero,a9_];rw[b2_ ω,b2_ ω,b2_ ω]
  rfl
 |j+1,k,h=>by
  rw[e9_,a0_,EA,An0 ω h1 h2 h3]
  exact Ag8 h1 h2 h3 j (k+1) ω
def Af6{F D:Int}{x:H}(hx:isC F D x=C):∀(l:List H) (i:Nat),(∀e∈l,isC F D e=A)→Dx F D (l++[x]) i=((i+l.length:Nat):Int)
 |[],i,_=>by simp[Dx,hx]
 |e::t,i,h=>by
  rw[List.cons_append];simp only[Dx];rw[h e (E_ ..),c_,Af6 hx t (i+1) λy hy=>h y (K_ _ hy),z_]
  congr 1;omega
def Akp{x:H}:∀{l:List H},(∀e∈l,Bj x e=A)→Hc x A l=l++[x]
 |[],_=>rfl
 |e::t,h=>by
  simp only[Hc];rw[h e (E_ ..),c_,Akp λy hy=>h y (K_ _ hy)]
  rfl
def An1{e:H}(h:∀x∈m.A0,Bj x e=C):Ap m (NA e)=m.put (m.A0++[e]):=by
 have hn:∀x∈m.A0,isC e.D0 e.I0 x=A:=λx hx=>by
  cases hq:isC e.D0 e.I0 x with
  |false=>rfl
  |true=>
   have:=(VW (c:=e) hq).1
   rw[h x hx]at this;cases this
 have e0:∀(c k:Int) (q:Bool),isC e.D0 e.I0 ⟨e.D0,e.I0,c,k,q⟩=C:=λc k q=>by unfold isC;simp
 have f0:Dx e.D0 e.I0 m.A0 0=-1:=VG hn;have f1:∀(c k:Int) (q:Bool),Dx e.D0 e.I0 (m.A0++[⟨e.D0,e.I0,c,k,q⟩]) 0=(m.A0.length:Int):=λc k q=>by rw[Af6 (e0 c k q) _ _ hn,q_]
 have g1:∀x:H,(m.A0++[x]).getD m.A0.length noE=x:=λx=>by simp
 have s1:∀x y:H,(m.A0++[x]).set m.A0.length y=m.A0++[y]:=λx y=>by
  rw[List.set_append_right _ _ (w_ _),Nat.sub_self];rfl
 have a1:An m ⟨1,e.D0,e.I0,0,0⟩=m.put (m.A0++[⟨e.D0,e.I0,-1,0,A⟩]):=by
  unfold An;rw[f0];simp only[show((1:Int)==4)=A from rfl,show((1:Int)==5)=A from rfl,show((1:Int)==6)=A from rfl,c_,E,l_]
  rw[Akp (x:=⟨e.D0,e.I0,-1,0,A⟩) λx hx=>Agp (show Bj x ⟨e.D0,e.I0,-1,0,A⟩=C from h x hx)]
 have ne:(((m.A0.length:Int))==-1)=A:=Aq ω
 have a2:An (m.put (m.A0++[⟨e.D0,e.I0,-1,0,A⟩])) ⟨3,e.D0,e.I0,e.Q0,0⟩=m.put (m.A0++[⟨e.D0,e.I0,e.Q0,0,A⟩]):=by
  unfold An;simp only[Img.put,f1,ne,show((3:Int)==4)=A from rfl,show((3:Int)==5)=A from rfl,show((3:Int)==6)=A from rfl,show((3:Int)==2)=A from rfl,c_,E,l_,j_,g1,s1,Ac3]
 have a3:An (m.put (m.A0++[⟨e.D0,e.I0,e.Q0,0,A⟩])) ⟨7,e.D0,e.I0,SS e.Y1,e.B1⟩=m.put (m.A0++[⟨e.D0,e.I0,e.Q0,e.B1,e.Y1⟩]):=by
  unfold An;simp only[Img.put,f1,ne,show((7:Int)==4)=A from rfl,show((7:Int)==5)=A from rfl,show((7:Int)==6)=A from rfl,show((7:Int)==2)=A from rfl,show((7:Int)==3)=A from rfl,c_,E,l_,j_,g1,s1,Tb,Ao9]
 unfold NA;rw[Aoa,a1,a2,a3]
def Ag9:∀(l:List H) (m:J),Bp (m.A0++l)→Ap m (l.flatMap NA)=m.put (m.A0++l)
 |[],m,_=>by simp[Ap,Img.put]
 |e::t,m,h=>by
  have hp:=Ee.1 h;have hlt:∀x∈m.A0,Bj x e=C:=λx hx=>(List.pairwise_append.1 hp).2.2 x hx e (E_ ..)
  rw[a0_,EA,An1 hlt]
  have h2:Bp ((m.put (m.A0++[e])).A0++t):=by
   show Bp (m.A0++[e]++t);rw[O_];exact h
  rw[Ag9 t _ h2];show m.put (m.A0++[e]++t)=_;rw[O_];rfl
def Ac5(h:ImgOK b m):Ap (Gp b) (CG m)=m:=by
 unfold CG;rw[EA];have h0:=Ag8 (m:=m) h.lp h.lf h.ll b.B0.length 0 ω
 simp only[List.take_zero,Z_,Nat.sub_zero]at h0;rw[h.lp];rw[show Gp b=⟨P b.B0.length 0,P b.B0.length A,P b.B0.length A,[]⟩from rfl,h0,Ag9 _ _ (by show Bp ([]++m.A0);exact h.so)]
 rfl
def Wa(on:Bool):0≤SS on∧SS on≤1:=by cases on<;>exact⟨by decide,by decide⟩
def RS(h:ImgOK b m):∀r∈CG m,Az b r=C:=by
 have hcode:=h.code;intro r hr;unfold CG at hr;rcases p_.1 hr with hr | hr
 ·obtain⟨i,hi,hr⟩:=c8_.1 hr
  have hi':i<m.F0.length:=by
   have:=List.mem_range'_1.1 hi
   omega
  have hp:=h.ph _ (CA 0 hi');have hlp:=h.lp
  have hcar:∀k v:Int,SE b ⟨k,0,0,i,v⟩=C:=λk v=>by
   unfold SE;rw[Am.2 ⟨show(0:Int)≤(i:Int)by omega,show(i:Int)≤(b.B0.length:Int)-1 by omega⟩];rfl
  unfold Nz at hr;simp only[y_,List.not_mem_nil,or_false]at hr;rcases hr with rfl | rfl | rfl
  ·unfold Az
   rw[hcode,hcar,Am.2 hp];rfl
  ·unfold Az
   rw[hcode,hcar,Am.2 (Wa _)];rfl
  ·unfold Az
   rw[hcode,hcar,Am.2 (Wa _)];rfl
 ·obtain⟨e,he,hr⟩:=c8_.1 hr
  obtain⟨h1,h2,h3⟩:=EO.1 (h.en e he);unfold NA at hr;simp only[y_,List.not_mem_nil,or_false]at hr;rcases hr with rfl | rfl | rfl
  ·unfold Az
   rw[hcode,h1];rfl
  ·unfold Az
   rw[hcode,h1,Am.2 ⟨h2.1,show e.Q0≤(b.B0.length:Int)-1 by omega⟩];rfl
  ·unfold Az
   rw[hcode,h1,Am.2 (Wa _),Am.2 h3];rfl
def Uv(floor:Int):Int:=Q.wrap (1*2^min (L floor) (IntKind.bits .u32))
def JE(floor dir:Int):Int×Int:=
 bif inR 0 31 floor then(bif dir==1 then(Uv floor,0)else bif dir==2 then(0,Uv floor)else(0,0))else(0,0)
def orC(a c:Int):Int:=vb (bv a|||bv c)
def Aaa(a c:Int):Int:=vb (bv a&&& ~~~ bv c)
def CP(a c:Int×Int):Int×Int:=(orC a.1 c.1,orC a.2 c.2)
def Cc(a c:Int×Int):Int×Int:=(Aaa a.1 c.1,Aaa a.2 c.2)
def Alp(a c:Int×Int):MO a.1 a.2 c.1 c.2=B (((),()),(((CP a c).1,(CP a c).2,()),())):=by
 unfold MO;rw[Afj,Afj];rfl
def BQ(c:Int×Int)(f:Nat)(d:Int):Bool:=bif d==1 then CJ c.1 f else bif d==2 then CJ c.2 f else A
def Kr(c:Int×Int):Prop:=(0≤c.1∧c.1<4294967296)∧(0≤c.2∧c.2<4294967296)
def Ayh(a c:Int×Int):Kr (CP a c):=⟨Ks _,Ks _⟩
def Axi(a c:Int×Int):Kr (Cc a c):=⟨Ks _,Ks _⟩
def Tl:Kr (0,0):=⟨⟨by decide,by decide⟩,⟨by decide,by decide⟩⟩
def WP(i:Nat):CJ 0 i=A:=by
 unfold CJ bv;simp
def Tu(f:Nat)(d:Int):BQ (0,0) f d=A:=by
 unfold BQ;simp only[WP];cases d==1<;>cases d==2<;>rfl
def Ap9(a c:Int×Int)(f:Nat)(d:Int):BQ (CP a c) f d=(BQ a f d||BQ c f d):=by
 unfold BQ CP orC;simp only[Sw,aD];cases d==1<;>cases d==2<;>rfl
def Vh(a c:Int×Int)(hf:f<32)(d:Int):BQ (Cc a c) f d=(BQ a f d&&!BQ c f d):=by
 unfold BQ Cc Aaa;simp only[Sw,f1_,BitVec.getLsbD_not,hf,decide_true,o_];cases d==1<;>cases d==2<;>rfl
def Ajh{F D:Int}(hF:0≤F∧F<32)(hD:D=1∨D=2)(f:Nat)(hd:d=1∨d=2):BQ (JE F D) f d=decide (((f:Int),d)=(F,D)):=by
 have hp:CJ (Uv F) f=decide (f=F.toNat):=Aod (k:=F.toNat) ω f
 have e:decide (((f:Int),d)=(F,D))=(decide (f=F.toNat)&&decide (d=D)):=by
  rw[Bool.eq_iff_iff,e_,A_,A_,A_,Prod.mk.injEq];constructor
  ·rintro⟨h1,h2⟩;exact⟨ω,h2⟩
  ·rintro⟨h1,h2⟩;exact⟨ω,h2⟩
 rw[e];unfold JE BQ;rw[Am.2 ⟨hF.1,show F≤31 by omega⟩]
 rcases hD with rfl | rfl<;>rcases hd with rfl | rfl
 ·simp[hp]
 ·simp[WP]
 ·simp[WP]
 ·simp[hp]
def Afp{a:Int×Int}(ha:Kr a)(hc:Kr c)(h:∀f:Nat,f<32→∀d:Int,(d=1∨d=2)→BQ a f d=BQ c f d):a=c:=by
 have h1:a.1=c.1:=Aoc ha.1 hc.1 λi hi=>h i hi 1 (.inl rfl)
 have h2:a.2=c.2:=Aoc ha.2 hc.2 λi hi=>h i hi 2 (.inr rfl)
 exact Prod.ext h1 h2
def Bem(e:H):Prop:=(0≤e.D0∧e.D0<32)∧(e.I0=1∨e.I0=2)
def ofC:List H→Int×Int→Int×Int
 |[],c=>c
 |e::t,c=>ofC t (CP c (JE e.D0 e.I0))
def MQ(c:Int×Int)(f:Nat):List H:=(bif BQ c f 1 then [⟨(f:Int),1,-1,0,A⟩]else [])++(bif BQ c f 2 then [⟨(f:Int),2,-1,0,A⟩]else [])
def Abn(c:Int×Int)(f:Nat):(MQ c f).length≤2:=by
 unfold MQ;cases BQ c f 1<;>cases BQ c f 2<;>simp
def He(c:Int×Int):List H:=(O 0 32).flatMap (MQ c)
def Acl:p∈(MQ c f).map HB↔p.1=(f:Int)∧(p.2=1∨p.2=2)∧BQ c f p.2=C:=by
 obtain⟨a,d⟩:=p;unfold MQ;rw[List.map_append,p_]
 have h:∀D:Int,(a,d)∈(bif BQ c f D then [Entry.mk (f:Int) D (-1) 0 A]else []).map HB↔a=(f:Int)∧d=D∧BQ c f D=C:=λD=>by
  cases BQ c f D<;>simp[HB]
 rw[h,h];constructor
 ·rintro(⟨h1,rfl,h3⟩ | ⟨h1,rfl,h3⟩)
  ·exact⟨h1,.inl rfl,h3⟩
  ·exact⟨h1,.inr rfl,h3⟩
 ·rintro⟨h1,h2,h3⟩
  simp only at h1 h2 h3;rcases h2 with rfl | rfl
  ·exact .inl ⟨h1,rfl,h3⟩
  ·exact .inr ⟨h1,rfl,h3⟩
def mem_range{i k:Nat}:p∈((O i k).flatMap (MQ c)).map HB↔∃f:Nat,(i≤f∧f<i+k)∧p.1=(f:Int)∧(p.2=1∨p.2=2)∧BQ c f p.2=C:=by
 constructor
 ·intro h
  obtain⟨e,he,rfl⟩:=c3_.1 h;obtain⟨f,hf,he⟩:=c8_.1 he;exact⟨f,List.mem_range'_1.1 hf,Acl.1 (c3_.2 ⟨e,he,rfl⟩)⟩
 ·rintro⟨f,hf,h⟩
  obtain⟨e,he,h2⟩:=c3_.1 (Acl.2 h);exact c3_.2 ⟨e,c8_.2 ⟨f,List.mem_range'_1.2 hf,he⟩,h2⟩
def JB(floor dir:Int):DS floor dir=B (((),()),(((JE floor dir).1,(JE floor dir).2,()),())):=by
 unfold DS JE inR;by_cases g:0≤floor
 ·by_cases g':floor<32
  ·rw[b_ g,b_ g',b_ (ω:floor≤31)]
   simp only[E,a_,a6_,b_ g];cases dir==1<;>cases dir==2<;>rfl
  ·rw[b_ g,f_ g',f_ (ω:¬floor≤31)];rfl
 ·rw[f_ g];rfl
def Gh(a c:Int×Int):CH a.1 a.2 c.1 c.2=B (((),()),(((CP a c).1,(CP a c).2,()),())):=by
 unfold CH;rw[Afj,Afj];rfl
def PI(a c:Int×Int):HT a.1 a.2 c.1 c.2=B (((),()),(((Cc a c).1,(Cc a c).2,()),())):=by
 unfold HT;rw[NO,NO];rfl
def CF(a c:Int×Int):Int×Int:=(vb (bv a.1&&&bv c.1),vb (bv a.2&&&bv c.2))
def Ajk(a c:Int×Int):Kr (CF a c):=⟨Ks _,Ks _⟩
def KF(a c:Int×Int):DL a.1 a.2 c.1 c.2=B (((),()),(((CF a c).1,(CF a c).2,()),())):=by
 unfold DL;rw[Ua,Ua];rfl
def Ans(a c:Int×Int):Mj a.1 a.2 c.1 c.2=B (((),()),(((CF a c).1,(CF a c).2,()),())):=by
 unfold Mj;rw[Ua,Ua];rfl
def Tt(a c:Int×Int)(f:Nat)(d:Int):BQ (CF a c) f d=(BQ a f d&&BQ c f d):=by
 unfold BQ CF;simp only[Sw,f1_];cases d==1<;>cases d==2<;>rfl
def isZ(c:Int×Int):Bool:=(c.1==0)&&((c.2==0)&&C)
def Aeo(hc:Kr c):isZ c=C↔∀f:Nat,f<32→∀d:Int,(d=1∨d=2)→BQ c f d=A:=by
 constructor
 ·intro h f _ d _
  unfold isZ at h;simp only[e_,Y_]at h;obtain⟨h1,h2,_⟩:=h;rw[show c=(0,0)from Prod.ext h1 h2,Tu]
 ·intro h
  have:c=(0,0):=Afp hc Tl λf hf d hd=>by rw[h f hf d hd,Tu]
  rw[this];rfl
def OU(c:Int×Int){F D:Int}(hF:0≤F∧F<32)(hD:D=1∨D=2):Dh c.1 c.2 F D=B ((BQ c F.toNat D,()),()):=by
 unfold Dh;rw[JB];simp only[a_];rw[KF c (JE F D)];simp only[a_];show B ((!(isZ (CF c (JE F D))),()),())=_
 have e:isZ (CF c (JE F D))=!BQ c F.toNat D:=by
  cases h:BQ c F.toNat D with
  |false=>
   refine(Aeo (Ajk _ _)).2 λf hf d hd=>?_
   rw[Tt,Ajh hF hD f hd];by_cases g:((f:Int),d)=(F,D)
   ·obtain⟨h1,h2⟩:=Prod.mk.inj g
    rw[show f=F.toNat by omega,h2,h];rfl
   ·rw[f_ g,b7_]
  |true=>
   cases hz:isZ (CF c (JE F D))with
   |false=>rfl
   |true=>
    have:=(Aeo (Ajk _ _)).1 hz F.toNat ω D hD
    rw[Tt,Ajh hF hD F.toNat hD,h,b_ (show(((F.toNat:Nat):Int),D)=(F,D)by rw[f5_ hF.1])]at this
    cases this
 rw[e,Bool.not_not]
def Bx(b:Bldg):Int×Int:=(R Q (R Q (1*2^min (L (b.C0-1)) (IntKind.bits .u32))-1),Q.wrap (R Q (R Q (1*2^min (L (b.C0-1)) (IntKind.bits .u32))-1)*2^min (L (1:Int)) (IntKind.bits .u32)))
def Kh(hb:b.small)(hcode:b.code=0):EY b.C0 b.E0 b.H0 b.M0 b.J0 b.L0 b.N0 b.B0=B (((),()),(((Bx b).1,(Bx b).2,()),())):=by
 have lo:=hb.lo;have hi:=hb.hi;unfold EY Bx;rw[Be,hcode];simp only[a_,Q_,c_,Ac (n:=b.C0-1) ω ω,b_ (ω:0≤b.C0-1),E]
def Aim(n:Nat):Int:=Q.wrap (R Q (1*2^min n (IntKind.bits .u32))-1)
def Bah:((List.range 9).all λn=>(List.range 32).all λi=>(CJ (Aim n) i==decide (i<n))&&(CJ (R Q (Aim n*2^min (L 1) (IntKind.bits .u32))) i==(decide (1≤i)&&decide (i≤n))))=C:=κ
def Bai(b:Bldg):Kr (Bx b):=by
 have k:∀n:Int,0≤Q.wrap n∧Q.wrap n<4294967296:=λn=>by
  simp only[R,IntKind.signed,IntKind.bits];simp;omega
 exact⟨k _,k _⟩
def VR(hb:b.small)(hcode:b.code=0)(hf:f<32)(hd:d=1∨d=2):BQ (Bx b) f d=Ak b (f:Int) d:=by
 have lo:=hb.lo;have hi:=hb.hi;have t:=G_.1 (G_.1 Bah (b.C0-1).toNat (List.mem_range.2 ω)) f (List.mem_range.2 hf)
 rw[e_,Y_,Y_]at t;unfold Ak OT;rw[hcode];rcases hd with rfl | rfl
 ·have e:BQ (Bx b) f 1=CJ (Aim (b.C0-1).toNat) f:=rfl
  rw[e,t.1];unfold inR;rw[b_ (ω:(0:Int)≤(f:Int))]
  by_cases g:f<(b.C0-1).toNat
  ·rw[b_ g,b_ (ω:(f:Int)≤b.C0-2)];rfl
  ·rw[f_ g,f_ (ω:¬(f:Int)≤b.C0-2)];rfl
 ·have e:BQ (Bx b) f 2=CJ (R Q (Aim (b.C0-1).toNat*2^min (L 1) (IntKind.bits .u32))) f:=rfl
  rw[e,t.2];unfold inR;by_cases g:1≤f
  ·rw[b_ g,b_ (ω:(1:Int)≤(f:Int))]
   by_cases g':f≤(b.C0-1).toNat
   ·rw[b_ g',b_ (ω:(f:Int)≤b.C0-1)];rfl
   ·rw[f_ g',f_ (ω:¬(f:Int)≤b.C0-1)];rfl
  ·rw[f_ g,f_ (ω:¬(1:Int)≤(f:Int))];rfl
def VQ(b:Bldg)(i:Nat)(s:Int×Int):Int×Int:=(bif Ak b (i:Int) 1 then orC s.1 (Uv (i:Int))else s.1,bif Ak b (i:Int) 2 then orC s.2 (Uv (i:Int))else s.2)
def Anl(hb:b.small)(hcode:b.code=0):Ru b.C0 b.E0 b.H0 b.M0 b.J0 b.L0 b.N0 b.B0=B (((),()),(((Bx b).1,(Bx b).2,()),())):=by
 have h:=AQ (step:=λx=>letI a:=x.2.1.2.2;letI c:=a.2.2;Ju x.1.2.2.2.1 x.2.1.1 x.2.1.2.1 a.1 a.2.1 c.1 c.2.1 c.2.2.1 c.2.2.2.1 x.2.2.1.1 x.2.2.1.2.1 x.2.2.2.1.1 x.2.2.2.1.2.1) 32 (λi (s:Int×Int)=>(((),(),(),(i:Int),()),(b.tup,((0:Int),(0:Int),()),(s.1,s.2,()),()))) (VQ b)
  (λi s=>Kr s∧∀f:Nat,f<32→∀d:Int,(d=1∨d=2)→BQ s f d=(decide (f<i)&&Ak b (f:Int) d)) (λs=>(((),(),()),(((0:Int),(0:Int),()),(s.1,s.2,()),()))) (λi s hi hs=>by
  have w:aC.wrap (i:Int)=(i:Int):=Ek ω ω
  have hp:∀j,CJ (Uv (i:Int)) j=decide (j=i):=λj=>Aod (k:=i) hi j
  refine⟨?_,⟨?_,?_⟩,λf hf d hd=>?_⟩
  ·show Ju (i:Int) b.C0 b.E0 b.H0 b.M0 b.J0 b.L0 b.N0 b.B0 0 0 s.1 s.2=_
   unfold Ju VQ;rw[KI hb,b_ (ω:(i:Int)<32)]
   simp only[a_,E,w,b_ (ω:(0:Int)≤(i:Int)),Afj]
   cases Ak b (i:Int) 1 with
   |true=>
    simp only[E,a_,KI hb,w,b_ (ω:(0:Int)≤(i:Int)),Ac (n:=(i:Int)+1) ω ω]
    cases Ak b (i:Int) 2<;>rfl
   |false=>
    simp only[c_,a_,KI hb,w,b_ (ω:(0:Int)≤(i:Int)),E,Ac (n:=(i:Int)+1) ω ω]
    cases Ak b (i:Int) 2<;>rfl
  ·unfold VQ
   cases Ak b (i:Int) 1
   ·exact hs.1.1
   ·exact Ks _
  ·unfold VQ
   cases Ak b (i:Int) 2
   ·exact hs.1.2
   ·exact Ks _
  ·have hk:=hs.2 f hf d hd
   have dk:decide (f<i+1)=(decide (f<i)||decide (f=i)):=by
    rw[Bool.eq_iff_iff,b3_,A_,A_,A_];omega
   rw[dk];rcases hd with rfl | rfl
   ·have e:BQ (VQ b i s) f 1=CJ (bif Ak b (i:Int) 1 then orC s.1 (Uv (i:Int))else s.1) f:=rfl
    have hk':CJ s.1 f=_:=hk;rw[e];cases hc:Ak b (i:Int) 1 with
    |true=>
     rw[E];unfold orC;rw[Sw,aD];show(CJ s.1 f||CJ (Uv (i:Int)) f)=_
     rw[hk',hp];by_cases g:f=i
     ·subst g;rw[hc];simp
     ·rw[f_ g];simp
    |false=>
     rw[c_,hk'];by_cases g:f=i
     ·subst g;rw[hc];simp
     ·rw[f_ g];simp
   ·have e:BQ (VQ b i s) f 2=CJ (bif Ak b (i:Int) 2 then orC s.2 (Uv (i:Int))else s.2) f:=rfl
    have hk':CJ s.2 f=_:=hk;rw[e];cases hc:Ak b (i:Int) 2 with
    |true=>
     rw[E];unfold orC;rw[Sw,aD];show(CJ s.2 f||CJ (Uv (i:Int)) f)=_
     rw[hk',hp];by_cases g:f=i
     ·subst g;rw[hc];simp
     ·rw[f_ g];simp
    |false=>
     rw[c_,hk'];by_cases g:f=i
     ·subst g;rw[hc];simp
     ·rw[f_ g];simp) (λs _=>by
  show Ju 32 b.C0 b.E0 b.H0 b.M0 b.J0 b.L0 b.N0 b.B0 0 0 s.1 s.2=_;unfold Ju;rw[show decide ((32:Int)<32)=A from rfl];rfl) 32 0 (0,0) ω ⟨Tl,λf _ d _=>by rw[Tu];simp⟩
 have h':=Ai h.1 ω
 have hall:Bw (VQ b) 32 0 (0,0)=Bx b:=Afp h.2.1 (Bai b) λf hf d hd=>by
  rw[h.2.2 f hf d hd,VR hb hcode hf hd,b_ hf,o_]
 rw[hall]at h';unfold Ru;simp only[Bldg.tup]at h';rw[show OA (((),(),(),(0:Int),()),((b.C0,b.E0,b.H0,b.M0,b.J0,b.L0,b.N0,b.B0,()),((0:Int),(0:Int),()),((0:Int),(0:Int),()),()))=_ from h']
 rfl
def DA(b:Bldg)(v:View):Int×Int:=bif v.Y2 then CF (v.E3,v.Q2) (Bx b)else(0,0)
def Rm(hb:b.small)(hcode:b.code=0)(v:View):Ht b.C0 b.E0 b.H0 b.M0 b.J0 b.L0 b.N0 b.B0 v.H3 v.Y2 v.A3 v.U3 v.D0 v.I0 v.B3 v.E3 v.Q2 v.N2 v.X1 v.L1=B (((),()),(((DA b v).1,(DA b v).2,()),())):=by
 unfold Ht DA;cases v.Y2 with
 |false=>rfl
 |true=>
  rw[Kh hb hcode];simp only[n_,c_,a_,E];rw[KF (v.E3,v.Q2) (Bx b)];rfl
def Abd{c:Int×Int}(h:Int→Int→Option ((Bool×Unit)×Unit))(hh:∀f:Nat,f<32→∀d:Int,(d=1∨d=2)→h (f:Int) d=B ((BQ c f d,()),())):∀k i:Nat,i+k≤32→Vq h (λf d=>Entry.mk f d (-1) 0 A) ((O i k).flatMap λf:Nat=>[((f:Int),1),((f:Int),2)])=B ((O i k).flatMap (MQ c))
 |0,_,_=>rfl
 |k+1,i,hk=>by
  rw[e9_,a0_,a0_];show Vq h _ (((i:Int),1)::((i:Int),2)::((O (i+1) k).flatMap λf:Nat=>[((f:Int),1),((f:Int),2)]))=_
  simp only[Vq];rw[hh i ω 1 (.inl rfl),hh i ω 2 (.inr rfl),Abd h hh k (i+1) ω]
  unfold MQ;cases BQ c i 1<;>cases BQ c i 2<;>rfl
def Wt(c:Int×Int):Lw c.1 c.2=B ((He c,()),()):=by
 unfold Lw Ak7
 have e:pairs64=(O 0 32).flatMap λf:Nat=>[((f:Int),1),((f:Int),2)]:=by
  unfold pairs64;rw[List.range_eq_range']
 have h:=Abd (c:=c) (λf d=>Dh c.1 c.2 f d) (λf hf d hd=>by
  have h:=OU c (F:=(f:Int)) (D:=d) ⟨ω,ω⟩ hd
  rw[j_]at h;exact h) 32 0 ω
 rw[e,h];rfl
end Go.Ovl
namespace Go.Ovl
open Go Go.Ab
structure Sto where
 h0:ByteArray
 h1:ByteArray
 sel:Int
def Sto.get(s:Sto)(half:Int):ByteArray:=if half=0 then s.h0 else s.h1
def Sto.set(s:Sto)(half:Int)(x:ByteArray):Sto:=if half=0 then { s with h0:=x }else { s with h1:=x }
def Sto.no:Sto:=⟨noB,noB,0⟩
def Sto.cur(s:Sto):ByteArray:=if s.sel=1 then s.h1 else s.h0
def Sto.ok(room:Int)(s:Sto):Prop:=1≤room∧room≤65536∧s.h0.size≤room∧s.h1.size≤room∧(s.sel=0∨s.sel=1)
instance okSto_ti(room:Int)(s:Sto):Decidable (s.ok room):=by unfold Sto.ok;infer_instance
def Sto.tup(s:Sto):ByteArray×ByteArray×Int×Unit:=(s.h0,(s.h1,(s.sel,())))
def Sto.chk(room:Int)(s:Sto)(half bud:Int):Int:=if s.ok room then if(half≠0∧half≠1)∨bud<0 then 2 else 0 else 1
def Sto.write(room:Int)(s:Sto)(half:Int)(d:ByteArray)(bud:Int):Sto×Int×Int:=
 if s.chk room half bud≠0 then(.no,0,s.chk room half bud)
 else if room<(s.get half).size+d.size then(.no,0,7)
 else if bud<d.size then(s.set half (s.get half++d.extract 0 bud.toNat),0,8)
 else(s.set half (s.get half++d),bud-d.size,0)
def Sto.act(room:Int)(s:Sto)(half bud:Int)(t:Sto):Sto×Int×Int:=
 if s.chk room half bud≠0 then(.no,0,s.chk room half bud)else if bud=0 then(s,0,8)else(t,bud-1,0)
def Sto.erase(room:Int)(s:Sto)(half bud:Int):Sto×Int×Int:=s.act room half bud (s.set half noB)
def Sto.choose(room:Int)(s:Sto)(half bud:Int):Sto×Int×Int:=s.act room half bud { s with sel:=half }
def Sto.out(r:Sto×Int×Int):(Unit×Int×Int×Unit)×((ByteArray×ByteArray×Int×Unit)×Unit):=(((),(r.2.1,(r.2.2,()))),((r.1.h0,(r.1.h1,(r.1.sel,()))),()))
def Iw(room:Int)(h0 h1:ByteArray)(sel:Int):Fh room h0 h1 sel=B ((decide (Sto.ok room ⟨h0,h1,sel⟩),()),()):=by
 unfold Fh Sto.ok;by_cases a:1≤room
 ·by_cases b:room≤65536
  ·by_cases c:(h0.size:Int)≤room
   ·by_cases d:(h1.size:Int)≤room
    ·by_cases e:sel=0
     ·simp[a,b,c,d,e]
     ·by_cases f:sel=1<;>simp[a,b,c,d,e,f,Aq]
    ·simp[a,b,c,d]
   ·simp[a,b,c]
  ·simp[a,b]
 ·simp[a]
def NG(room:Int)(h0 h1:ByteArray)(sel half bud:Int):HW room h0 h1 sel half bud=B ((Sto.chk room ⟨h0,h1,sel⟩ half bud,()),()):=by
 unfold HW Sto.chk;rw[Iw];by_cases a:Sto.ok room ⟨h0,h1,sel⟩
 ·by_cases b:half=0
  ·by_cases c:bud<0<;>simp[a,b,c]
  ·by_cases d:half=1
   ·by_cases c:bud<0<;>simp[a,c,d]
   ·simp[a,b,d,ES]
 ·simp[a]
def PJ{room:Int}{s:Sto}{half bud:Int}(h:s.chk room half bud=0):s.ok room∧(half=0∨half=1)∧0≤bud:=by
 unfold Sto.chk at h;split at h
 ·split at h
  ·cases h
  ·rename_i h1 h2;refine⟨h1,?_,?_⟩<;>omega
 ·cases h
def Sj(room:Int)(h0 h1:ByteArray)(sel half:Int)(d:ByteArray)(bud:Int)(hb:bud<9223372036854775808) :
  HV room h0 h1 sel half d bud=B (Sto.out (Sto.write room ⟨h0,h1,sel⟩ half d bud)):=by
 unfold HV Sto.write;rw[NG];generalize hc:Sto.chk room ⟨h0,h1,sel⟩ half bud=c;by_cases h:c=0
 ·subst h
  obtain⟨⟨o1,o2,o3,o4,o5⟩,hh,hb0⟩:=PJ hc;simp only at o3 o4;have hin:inB half 2=C:=Aa ω ω
  have hg:(List.getD [h0,h1] half.toNat noB)=Sto.get ⟨h0,h1,sel⟩ half:=by
   rcases hh with rfl | rfl<;>rfl
  have hgs:((Sto.get ⟨h0,h1,sel⟩ half).size:Int)≤room:=by rcases hh with rfl | rfl<;>simpa[Sto.get]
  have hset:∀x:ByteArray,((bif Nat.beq half.toNat 0 then x else h0),((bif Nat.beq half.toNat 1 then x else h1),(sel,())))=((Sto.set ⟨h0,h1,sel⟩ half x).h0,((Sto.set ⟨h0,h1,sel⟩ half x).h1,((Sto.set ⟨h0,h1,sel⟩ half x).sel,()))):=by
   intro x;rcases hh with rfl | rfl<;>rfl
  have hg':(List.getD [h0,h1] half.toNat (ByteArray.mk (Array.mk [])))=Sto.get ⟨h0,h1,sel⟩ half:=hg;simp only[a_,hin,E,hg',hset];generalize Sto.get ⟨h0,h1,sel⟩ half=g at hgs⊢;rw[Ac (n:=room-g.size) ω ω]
  by_cases h2:room<(g.size:Int)+d.size
  ·have e:decide (room-(g.size:Int)<d.size)=C:=by simp;omega
   simp[e,h2,Sto.out,Sto.no,noB]
  ·have e:decide (room-(g.size:Int)<d.size)=A:=by simp;omega
   by_cases h3:bud<d.size
   ·have e2:decide (bud<(d.size:Int))=C:=by simpa using h3
    have e3:(decide (0≤bud)&&decide (bud≤(d.size:Int)))=C:=by simp;omega
    have e4:aA (g.size+(d.extract 0 bud.toNat).size) 4611686018427387904=C:=by
     rw[ZD d ω];exact Ax ω
    simp only[e,e3,e4,h2,h3,E,c_,g3_,e7_,Sto.out];simp
   ·have e2:decide (bud<(d.size:Int))=A:=by simpa using h3
    have e4:aA (g.size+d.size) 4611686018427387904=C:=Ax ω
    rw[Ac (n:=bud-d.size) ω ω]
    simp only[e,e4,h2,h3,E,c_,e7_,Sto.out];simp
 ·simp[h,Sto.out,Sto.no,noB,ES]
def Ata(room:Int)(h0 h1:ByteArray)(sel half bud:Int)(hb:bud<9223372036854775808):Nh room h0 h1 sel half bud=B (Sto.out (Sto.erase room ⟨h0,h1,sel⟩ half bud)):=by
 unfold Nh GT Sto.erase Sto.act;rw[NG];generalize hc:Sto.chk room ⟨h0,h1,sel⟩ half bud=c;by_cases h:c=0
 ·subst h
  obtain⟨_,hh,hb0⟩:=PJ hc;by_cases h2:bud=0
  ·simp[h2,Sto.out]
  ·have hin:inB half 2=C:=Aa ω ω
   unfold Ow;rw[Ac (n:=bud-1) ω ω]
   have e:(bud==0)=A:=by simpa using h2
   rcases hh with rfl | rfl<;>simp[hin,e,h2,Sto.out,Sto.set,noB]<;>rfl
 ·simp[h,Sto.out,Sto.no,noB,ES]
def An6(room:Int)(h0 h1:ByteArray)(sel half bud:Int)(hb:bud<9223372036854775808):Mm room h0 h1 sel half bud=B (Sto.out (Sto.choose room ⟨h0,h1,sel⟩ half bud)):=by
 unfold Mm Gw Sto.choose Sto.act;rw[NG];generalize hc:Sto.chk room ⟨h0,h1,sel⟩ half bud=c;by_cases h:c=0
 ·subst h
  obtain⟨_,hh,hb0⟩:=PJ hc;by_cases h2:bud=0
  ·simp[h2,Sto.out]
  ·unfold NF
   rw[Ac (n:=bud-1) ω ω]
   have e:(bud==0)=A:=by simpa using h2
   simp[e,h2,Sto.out]
 ·simp[h,Sto.out,Sto.no,noB,ES]
def WH(h0 h1:ByteArray)(sel:Int):Li h0 h1 sel=B ((Sto.cur ⟨h0,h1,sel⟩,()),()):=by
 unfold Li Sto.cur;by_cases h:sel=1<;>simp[h,Aq]
def Cm:Debounced:=Debounced.mk 0 A A A A 0 0 0 0 0 0 0 0 0 0 0 0 0 0 0 0 0 0 0 0 0 0 0 0 0 0 0 0 0 0 0 0 0 0 0 0
def Dy:Duty:=Duty.mk 0 0 0
def AS:NewCar:=NewCar.mk 0 0 0 0 0 A 0 0 0 0 0 0 0 A
def GV:Loaded:=Loaded.mk 0
def Aey:Calls:=Calls.mk 0 0
def Ja:Belief:=Belief.mk 0 0 0 [] 0 A
def Belief.tup(x:Belief):Int×Int×Int×List Duty×Int×Bool×Unit:=(x.D0,x.I0,x.C3,x.U0,x.V2,x.L3,())
structure Mch where
 G0:Img
 Z0:Sto
 N1:List Debounced
 W0:List Belief
 B0:List NewCar
 R2:List Loaded
 D2:List Int
 X3:List Calls
 R3:Int
 T2:Int
 J2:Int
def Mch.tup(m:Mch):List Int×List Bool×List Bool×List H×ByteArray×ByteArray×Int×List Debounced×List Belief×List NewCar×List Loaded×List Int×List Calls×Int×Int×Int×Unit:=(m.G0.F0,m.G0.O0,m.G0.K0,m.G0.A0,m.Z0.h0,m.Z0.h1,m.Z0.sel,m.N1,m.W0,m.B0,m.R2,m.D2,m.X3,m.R3,m.T2,m.J2,())
structure Mch.fit(m:Mch):Prop where
 im:m.G0.fit
 co:m.N1.length≤100000
 be:m.W0.length≤100000
 du:∀x∈m.W0,x.U0.length≤100000
 ca:m.B0.length≤100000
 lo:m.R2.length≤100000
 ex:m.D2.length≤100000
 li:m.X3.length≤100000
section
variable{a c:Mch}(ha:a.fit)
include ha
end
end Go.Ovl
