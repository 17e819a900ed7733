/- Layer 10, the program's side: the binary search, what a record changes, images behind records. -/
import Derived.Test.YtoppkmfgeaflcaaGreatDoorOvB
import Derived.Test.YtoppkmfgeaflcaaGreatDoorOvA
import Derived.Test.YtoppkmfgeaflcaaGreatDoorDefs4
set_option linter.all false
open Bool renaming false->A,true->B
open Option renaming some->C
open Go renaming d_->E
open Go.Ovl renaming Entry->H,Record->I,Img->J
open Int renaming toNat->L
open List renaming range'->O,replicate->P
open Go.IntKind renaming u32->Q,wrap->R,i64->aB,u64->aC
open Nat renaming ble->aA
open BitVec renaming getLsbD_or->aD
namespace Go.Ovl
open Go Go.Ab
set_option maxRecDepth 100000
variable{b:Bldg}{c p:Int×Int}{m:J}{out:List I}{f:Nat}{d:Int}
def Au(F D:Int):H:=⟨F,D,0,0,A⟩
def Ahd{i j:Nat}(h:i+j<9223372036854775808):aB.wrap (Int.fdiv (R aC (R aB ((i:Int)+(j:Int)))) ((2:Int)^(Min.min (L (1:Int)) (IntKind.bits aC))))=(((i+j)/2:Nat):Int):=by
 rw[Ac (n:=(i:Int)+(j:Int)) ω ω,CN ω ω]
 rw[show((2:Int)^(Min.min (L (1:Int)) (IntKind.bits aC)))=2 from rfl]
 rw[V_ _ ω]
 rw[Ac ω ω]
 omega
def Aoy{l:List H}(hs:Bq l)(hl:l.length≤100000)(F D:Int) :
  AE ((l,(),(),(l.length:Int),(0:Int),(l.length:Int),()),((F,D,0,0,A,()),()))=C ((l,(),(),(l.length:Int),((AA (Au F D) l:Nat):Int),()),((F,D,0,0,A,()),())):=by
 refine Bhc (λx y=>∃i j:Nat,i≤AA (Au F D) l∧AA (Au F D) l≤j∧j≤l.length∧x=((l,(),(),(l.length:Int),(i:Int),(j:Int),()),((F,D,(0:Int),(0:Int),A,()),()))∧y=((l,(),(),(l.length:Int),((AA (Au F D) l:Nat):Int),()),((F,D,(0:Int),(0:Int),A,()),()))) (λx=>x.1.2.2.2.2.2.1.toNat-x.1.2.2.2.2.1.toNat) ?_ (x:=((l,(),(),(l.length:Int),(0:Int),(l.length:Int),()),((F,D,0,0,A,()),()))) (y:=((l,(),(),(l.length:Int),((AA (Au F D) l:Nat):Int),()),((F,D,0,0,A,()),()))) ⟨0,l.length,a3_ _,SF _ _,w_ _,rfl,rfl⟩ (by show((l.length:Int).toNat-L 0)<_;omega)
 rintro _ _ ⟨i,j,h1,h2,h3,rfl,rfl⟩;show(∃x',AF l (l.length:Int) (i:Int) (j:Int) F D 0 0 A=_∧_)∨AF l (l.length:Int) (i:Int) (j:Int) F D 0 0 A=_;unfold AF;rw[Ahd ω]
 by_cases hij:i<j
 ·left
  have hh:(i+j)/2<l.length:=ω
  obtain⟨n,c1,c2,_⟩:=Qd (l.getD ((i+j)/2) noE) (Au F D);unfold Au at c1;unfold noE at c1;simp only[b_ (ω:(i:Int)<(j:Int)),Aa (ω:(0:Int)≤(((i+j)/2:Nat):Int)) (ω:(((i+j)/2:Nat):Int)<(l.length:Int)),j_,E,c1,a_]
  have c2':decide (n<0)=Bk (l.getD ((i+j)/2) noE) (Au F D):=by rw[XF,c2,Bool.not_not]
  rw[c2'];cases hq:Bk (l.getD ((i+j)/2) noE) (Au F D)with
  |true=>
   have:(i+j)/2<AA (Au F D) l:=by
    rcases g0_ ((i+j)/2) (AA (Au F D) l)with h | h
    ·exact h
    ·have:=Afw hs _ h hh
     rw[hq]at this;cases this
   rw[E,show aB.wrap ((((i+j)/2:Nat):Int)+1)=(((i+j)/2+1:Nat):Int)by rw[Ac ω ω];omega]
   exact⟨_,rfl,⟨(i+j)/2+1,j,ω,h2,h3,rfl,trivial⟩,by show L (j:Int)-L (((i+j)/2+1:Nat):Int)<L (j:Int)-L (i:Int);omega⟩
  |false=>
   have:AA (Au F D) l≤(i+j)/2:=by
    rcases g0_ ((i+j)/2) (AA (Au F D) l)with h | h
    ·have:=Afx (Au F D) l _ h
     rw[hq]at this;cases this
    ·exact h
   rw[c_];exact⟨_,rfl,⟨i,(i+j)/2,h1,this,ω,rfl,trivial⟩,by show L (((i+j)/2:Nat):Int)-L (i:Int)<L (j:Int)-L (i:Int);omega⟩
 ·right
  rw[f_ (ω:¬(i:Int)<(j:Int)),show i=AA (Au F D) l by omega]
  rfl
def ZM(m:J)(hs:Bq m.A0)(hl:m.A0.length≤100000)(F D:Int):Ox m.F0 m.O0 m.K0 m.A0 F D=C ((((AA (Au F D) m.A0:Nat):Int),FN (Au F D) m.A0,()),()):=by
 unfold Ox Ba;simp only;rw[Aoy hs hl F D];simp only[a_];have hp:=SF (Au F D) m.A0;unfold FN;by_cases h:AA (Au F D) m.A0<m.A0.length
 ·obtain⟨n,c1,_,c3⟩:=Qd (m.A0.getD (AA (Au F D) m.A0) noE) (Au F D)
  rw[b_ (ω:((AA (Au F D) m.A0:Nat):Int)<(m.A0.length:Int)),Aa (ω:(0:Int)≤((AA (Au F D) m.A0:Nat):Int)) (ω:((AA (Au F D) m.A0:Nat):Int)<(m.A0.length:Int)),j_,show Nat.blt (AA (Au F D) m.A0) m.A0.length=B by rw[g9_];exact h]
  have e:(n==0)=isC (Au F D).D0 (Au F D).I0 (m.A0.getD (AA (Au F D) m.A0) noE):=by
   rw[Bool.eq_iff_iff,U_,c3];unfold isC;rw[e_,U_,U_]
  rw[← e];generalize AA (Au F D) m.A0=p at*;unfold noE at c1;unfold Au at c1;simp only[E,c1,a_,n_]
 ·rw[f_ (ω:¬((AA (Au F D) m.A0:Nat):Int)<(m.A0.length:Int)),show Nat.blt (AA (Au F D) m.A0) m.A0.length=A by rw[← Bool.not_eq_true,g9_];exact h]
  rfl
def Ax5(x:H)(e:H):Bk x (Au e.D0 e.I0)=Bk x e:=rfl
def Tq(e:H):∀l:List H,AA (Au e.D0 e.I0) l=AA e l
 |[]=>rfl
 |x::t=>by simp only[AA,Ax5,Tq e t]
def Aiq(hs:Bq m.A0)(hl:m.A0.length≤100000)(r:I)(hc:(r.S0=4∨r.S0=5∨r.S0=6)→0≤r.Q0∧r.Q0<(m.F0.length:Int)∧r.Q0<(m.O0.length:Int)∧r.Q0<(m.K0.length:Int)):
  Ow r.S0 r.D0 r.I0 r.Q0 r.U1 m.F0 m.O0 m.K0 m.A0=C ((),((Ao m r).tup,())):=by
 unfold Ow Ao;rw[ZM m hs hl];simp only[a_];by_cases k4:r.S0=4
 ·obtain⟨c0,c1,c2,c3⟩:=hc (.inl k4)
  rw[k4];simp only[l_,E,Aa c0 c1];rfl
 rw[Ar k4];by_cases k5:r.S0=5
 ·obtain⟨c0,c1,c2,c3⟩:=hc (.inr (.inl k5))
  rw[k5];simp only[l_,E,c_,Aa c0 c2];rfl
 rw[Ar k5];by_cases k6:r.S0=6
 ·obtain⟨c0,c1,c2,c3⟩:=hc (.inr (.inr k6))
  rw[k6];simp only[l_,E,c_,Aa c0 c3];rfl
 rw[Ar k6];simp only[c_];have hf:=Ri (c:=Au r.D0 r.I0) 0 hs;simp only[p_]at hf;rw[show Dy r.D0 r.I0 m.A0 0=_ from hf]
 have hp:=SF (Au r.D0 r.I0) m.A0;cases hq:FN (Au r.D0 r.I0) m.A0 with
 |false=>
  have hn:=Ahe hs hq;simp only[c_,E,b7_,l_];by_cases k1:r.S0=1
  ·rw[k1]
   simp only[l_,E];unfold Dn Aav;rw[b_ (ω:(0:Int)≤((AA (Au r.D0 r.I0) m.A0:Nat):Int)),b_ (ω:((AA (Au r.D0 r.I0) m.A0:Nat):Int)≤(m.A0.length:Int))]
   rw[show Nat.blt 0 [Entry.mk r.D0 r.I0 (-1) 0 A].length=B from rfl,Ax (show m.A0.length+[Entry.mk r.D0 r.I0 (-1) 0 A].length≤2147483648 by rw[J_];omega)]
   have hi:=Aax (c:=⟨r.D0,r.I0,-1,0,A⟩) (l:=m.A0) hn;rw[hi,show AA ⟨r.D0,r.I0,-1,0,A⟩ m.A0=AA (Au r.D0 r.I0) m.A0 from(Tq ⟨r.D0,r.I0,-1,0,A⟩ m.A0).symm]
   rfl
  ·rw[Ar k1]
   cases r.S0==2<;>cases r.S0==3<;>cases r.S0==7<;>rfl
 |true=>
  have hlt:AA (Au r.D0 r.I0) m.A0<m.A0.length:=by
   unfold FN at hq;rw[e_,g9_]at hq;exact hq.1
  simp only[E,o_,c_,Ar (ω:¬((AA (Au r.D0 r.I0) m.A0:Nat):Int)=-1),j_]
  generalize AA (Au r.D0 r.I0) m.A0=p at hp hlt⊢;have w:aB.wrap ((p:Int)+1)=((p+1:Nat):Int):=by rw[Ac ω ω];omega
  have ib:inB (p:Int) m.A0.length=B:=Aa ω ω
  by_cases k1:r.S0=1
  ·simp only[k1,l_,E,c_,show((1:Int)==2)=A from rfl,show((1:Int)==3)=A from rfl,show((1:Int)==7)=A from rfl]
   rfl
  rw[Ar k1,c_];cases r.S0==2 with
  |true=>
   unfold Dm Ak1;simp only[E,w,b_ (ω:(0:Int)≤(p:Int)),b_ (ω:(p:Int)<((p+1:Nat):Int)),b_ (ω:((p+1:Nat):Int)≤(m.A0.length:Int)),a4_,a_,j_]
   rfl
  |false=>
   simp only[c_];cases r.S0==3 with
   |true=>simp only[E,ib];rfl
   |false=>
    simp only[c_];cases r.S0==7 with
    |true=>
     have ib2:∀y:H,inB (p:Int) (m.A0.set p y).length=B:=λy=>Aa ω (by rw[r_];omega)
     have hg:∀y:H,(m.A0.set p y).getD p (Entry.mk 0 0 0 0 A)=y:=λy=>by
      simp[k_,hlt]
     simp only[E,ib,ib2,hg,List.set_set];rfl
    |false=>rfl
def Ya(hb:b.small)(hcl:b.B0.length≤100)(m:J)(hp:m.F0.length≤100000)(hl:m.A0.length≤10000)(r:I):
  MW b.C0 b.E0 b.H0 b.M0 b.J0 b.L0 b.N0 b.B0 m.F0 m.O0 m.K0 m.A0 r.S0 r.D0 r.I0 r.Q0 r.U1=C (Xs b m r):=by
 have hmx:100000≤maxLen:=by decide
 unfold MW Xs;rw[CM hb m ω ω]
 simp only[a_];cases hok:m.ok b with
 |false=>rfl
 |true=>
  rw[Ul hb hcl r];simp only[o_,c_,a_,n_];cases hv:Az b r with
  |false=>rfl
  |true=>
   have hm:=Img.ok_iff.1 hok;have h1:=hm.lp;have h2:=hm.lf;have h3:=hm.ll;simp only[o_,c_,E];rw[Yd m hp ω ω ω]
   simp only[a_,Img.tup]
   rw[Aiq hm.so ω r λhk=>by
    have:=Aue hv hk
    omega]
   rfl
def Br3{a b:Nat}(h:a≤100000)(h':b≤100000):aB.wrap (R aB (18*aB.wrap (R aB ((a:Int)+(b:Int))+1))+6)=18*((a:Int)+(b:Int)+1)+6:=by
 rw[Ac (n:=(a:Int)+(b:Int)) ω ω,Ac (n:=(a:Int)+(b:Int)+1) ω ω,Ac (n:=18*((a:Int)+(b:Int)+1)) ω ω,Ac ω ω]
def PB(b:Bldg)(m:J):Bool:=m.ok b&&decide (18*((b.B0.length:Int)+(m.A0.length:Int)+1)+6≤b.H0)
def ZL(hb:b.small)(m:J)(hc:b.B0.length≤100000)(hp:m.F0.length≤100000)(hl:m.A0.length≤100000):
  Mm b.C0 b.E0 b.H0 b.M0 b.J0 b.L0 b.N0 b.B0 m.F0 m.O0 m.K0 m.A0=C ((PB b m,()),()):=by
 have hmx:100000≤maxLen:=by decide
 unfold Mm PB;rw[CM hb m ω ω]
 simp only[a_,Br3 hc hl];cases m.ok b<;>rfl
def Li(p:Nat→Bool):Nat→Nat→Bool
 |0,_=>B
 |m+1,i=>p i&&Li p m (i+1)
def LZ{X Y:Type}{step:X→Option (Sum X Y)}(N:Nat)(g:Nat→X)(p:Nat→Bool)(y0 y1:Y)(h1:∀i,i<N→step (g i)=C (bif p i then .inl (g (i+1))else .inr y1))(h2:step (g N)=C (.inr y0)) :
  ∀m i:Nat,i+m=N→BM step (m+1) (g i)=C (bif Li p m i then y0 else y1)
 |0,i,hi=>by
  obtain rfl:i=N:=ω
  exact Ay h2
 |m+1,i,hi=>by
  have h:=h1 i ω
  simp only[Li];cases hp:p i with
  |true=>
   rw[hp]at h;rw[Bt h,n_];exact LZ N g p y0 y1 h1 h2 m (i+1) ω
  |false=>
   rw[hp]at h;rw[Ay h];rfl
def AJ:Nat:=10000000
def DA{i n:Nat}(h:i<n)(hn:n≤AJ):aB.wrap ((i:Int)+1)=((i+1:Nat):Int):=by
 unfold AJ at hn;rw[Ac ω ω];omega
section
variable{α:Type}
end
structure Img.fit(m:Img):Prop where
 p:m.F0.length≤100000
 f:m.O0.length≤100000
 l:m.K0.length≤100000
 e:m.A0.length≤100000
section
variable{a c:J}(ha:a.fit)
include ha
end
def Tn(on:Bool):Int:=bif on then 1 else 0
def Xb(on:Bool):Js on=C ((Tn on,()),()):=by unfold Js Tn;cases on<;>rfl
def Adt(on:Bool):NZ on=C ((Tn on,()),()):=by unfold NZ Tn;cases on<;>rfl
def NI(m:J)(i:Nat):List I:=[⟨4,0,0,i,m.F0.getD i 0⟩,⟨5,0,0,i,Tn (m.O0.getD i A)⟩,⟨6,0,0,i,Tn (m.K0.getD i A)⟩]
def NJ(e:H):List I:=[⟨1,e.D0,e.I0,0,0⟩,⟨3,e.D0,e.I0,e.Q0,0⟩,⟨7,e.D0,e.I0,Tn e.Y1,e.B1⟩]
def CG(m:J):List I:=(O 0 m.F0.length).flatMap (NI m)++m.A0.flatMap NJ
def Hr{α:Type}(f:Nat→List α):∀(k i:Nat) (s:List α),AO (λi s=>s++f i) k i s=s++(O i k).flatMap f
 |0,i,s=>by simp[AO]
 |k+1,i,s=>by
  simp only[AO];rw[Hr f k (i+1),e3_,a1_,O_]
def MH{α β:Type}(f:α→List β)(d:α):∀(l:List α) (i k:Nat),i+k=l.length→(O i k).flatMap (λi=>f (l.getD i d))=(l.drop i).flatMap f
 |l,i,0,h=>by
  obtain rfl:i=l.length:=ω
  simp
 |l,i,k+1,h=>by
  rw[e3_,a1_,MH f d l (i+1) k ω,Cc d (ω:i<l.length),a1_]
def Acq(l:List H):(O 0 l.length).flatMap (λi=>NJ (l.getD i noE))=l.flatMap NJ:=by
 rw[MH NJ noE l 0 l.length ω,R_]
section
variable{m:J}(hf:m.fit)
include hf
theorem Yr(ho:out.length≤300000):Kp (((),out,(0:Int),()),(m.tup,()))=C ((out++m.A0.flatMap NJ,()),()):=by
 have hl:=hf.e
 have h:=AQ (step:=λx=>Gm x.1.2.1 x.1.2.2.1 x.2.1.1 x.2.1.2.1 x.2.1.2.2.1 x.2.1.2.2.2.1) m.A0.length (λi s=>(((),s,(i:Int),()),(m.tup,()))) (λi s=>s++NJ (m.A0.getD i noE)) (λi s=>s.length=out.length+3*i) (λs=>((s,()),())) (λi s hi hs=>by
  refine⟨?_,by rw[h_,hs];show _+3=_;omega⟩
  have b1:∀r r' r'':I,aA (s.length+[r,r',r''].length) 2147483648=B:=λr r' r''=>Ax (by show s.length+3≤_;omega)
  show Gm s (i:Int) m.F0 m.O0 m.K0 m.A0=_;unfold Gm;simp only[b_ (ω:(i:Int)<(m.A0.length:Int)),Aa (ω:(0:Int)≤(i:Int)) (ω:(i:Int)<(m.A0.length:Int)),E,j_,Adt,a_,b1,DA hi (show m.A0.length≤AJ by unfold AJ;omega)]
  rfl) (λs _=>by
  show Gm s (m.A0.length:Int) m.F0 m.O0 m.K0 m.A0=_;unfold Gm;simp only[f_ (L_ (m.A0.length:Int)),c_]) m.A0.length 0 out ω rfl
 have h':=Ai h.1 ω
 rw[Hr,Acq]at h';exact h'
theorem Yq(h1:m.O0.length=m.F0.length)(h2:m.K0.length=m.F0.length):Ko (((),[],(0:Int),()),(m.tup,()))=C (((),(O 0 m.F0.length).flatMap (NI m),()),(m.tup,())):=by
 have hl:=hf.p
 have h:=AQ (step:=λx=>Gl x.1.2.1 x.1.2.2.1 x.2.1.1 x.2.1.2.1 x.2.1.2.2.1 x.2.1.2.2.2.1) m.F0.length (λi s=>(((),s,(i:Int),()),(m.tup,()))) (λi s=>s++NI m i) (λi s=>s.length=3*i) (λs=>(((),s,()),(m.tup,()))) (λi s hi hs=>by
  refine⟨?_,by rw[h_,hs];show _+3=_;omega⟩
  have b1:∀r r' r'':I,aA (s.length+[r,r',r''].length) 2147483648=B:=λr r' r''=>Ax (by show s.length+3≤_;omega)
  show Gl s (i:Int) m.F0 m.O0 m.K0 m.A0=_;unfold Gl;simp only[b_ (ω:(i:Int)<(m.F0.length:Int)),Aa (ω:(0:Int)≤(i:Int)) (ω:(i:Int)<(m.F0.length:Int)),Aa (ω:(0:Int)≤(i:Int)) (ω:(i:Int)<(m.O0.length:Int)),Aa (ω:(0:Int)≤(i:Int)) (ω:(i:Int)<(m.K0.length:Int)),E,j_,Adt,a_,b1,DA hi (show m.F0.length≤AJ by unfold AJ;omega)]
  rfl) (λs _=>by
  show Gl s (m.F0.length:Int) m.F0 m.O0 m.K0 m.A0=_;unfold Gl;simp only[f_ (L_ (m.F0.length:Int)),c_];rfl) m.F0.length 0 [] ω rfl
 have h':=Ai h.1 ω
 rw[Hr,a0_]at h';exact h'
theorem Yc(ho:out.length≤300000):Kn (((),m.A0,(m.A0.length:Int),(0:Int),()),((out,()),()))=C (((),()),((out++m.A0.flatMap NJ,()),())):=by
 have hl:=hf.e
 have h:=AQ (step:=λx=>Gk x.1.2.1 x.1.2.2.1 x.1.2.2.2.1 x.2.1.1) m.A0.length (λi s=>(((),m.A0,(m.A0.length:Int),(i:Int),()),((s,()),()))) (λi s=>s++NJ (m.A0.getD i noE)) (λi s=>s.length=out.length+3*i) (λs=>(((),()),((s,()),()))) (λi s hi hs=>by
  refine⟨?_,by rw[h_,hs];show _+3=_;omega⟩
  show Gk m.A0 (m.A0.length:Int) (i:Int) s=_;have b1:∀r:I,aA (s.length+[r].length) 2147483648=B:=λr=>Ax (by rw[J_];omega)
  have b2:∀r r':I,aA ((s++[r]).length+[r'].length) 2147483648=B:=λr r'=>Ax (by rw[h_,J_,J_];omega)
  have b3:∀r r' r'':I,aA ((s++[r]++[r']).length+[r''].length) 2147483648=B:=λr r' r''=>Ax (by rw[h_,h_,J_,J_,J_];omega)
  unfold Gk HF;simp only[b_ (ω:(i:Int)<(m.A0.length:Int)),Aa (ω:(0:Int)≤(i:Int)) (ω:(i:Int)<(m.A0.length:Int)),E,j_,Xb,a_,b1,b2,b3,DA hi (show m.A0.length≤AJ by unfold AJ;omega)]
  simp only[O_]
  rfl) (λs _=>by
  show Gk m.A0 (m.A0.length:Int) (m.A0.length:Int) s=_;unfold Gk;simp only[f_ (L_ (m.A0.length:Int)),c_]) m.A0.length 0 out ω rfl
 have h':=Ai h.1 ω
 rw[Hr,Acq]at h';exact h'
theorem Yb(h1:m.O0.length=m.F0.length)(h2:m.K0.length=m.F0.length):Km (((),(),(m.F0.length:Int),(0:Int),()),(m.tup,(([]:List I),()),()))=C (((),(),()),(m.tup,((O 0 m.F0.length).flatMap (NI m),()),())):=by
 have hl:=hf.p
 have h:=AQ (step:=λx=>Gj x.1.2.2.1 x.1.2.2.2.1 x.2.1.1 x.2.1.2.1 x.2.1.2.2.1 x.2.1.2.2.2.1 x.2.2.1.1) m.F0.length (λi s=>(((),(),(m.F0.length:Int),(i:Int),()),(m.tup,(s,()),()))) (λi s=>s++NI m i) (λi s=>s.length=3*i) (λs=>(((),(),()),(m.tup,(s,()),()))) (λi s hi hs=>by
  refine⟨?_,by rw[h_,hs];show _+3=_;omega⟩
  show Gj (m.F0.length:Int) (i:Int) m.F0 m.O0 m.K0 m.A0 s=_;have b1:∀r:I,aA (s.length+[r].length) 2147483648=B:=λr=>Ax (by rw[J_];omega)
  have b2:∀r r':I,aA ((s++[r]).length+[r'].length) 2147483648=B:=λr r'=>Ax (by rw[h_,J_,J_];omega)
  have b3:∀r r' r'':I,aA ((s++[r]++[r']).length+[r''].length) 2147483648=B:=λr r' r''=>Ax (by rw[h_,h_,J_,J_,J_];omega)
  unfold Gj HE;simp only[b_ (ω:(i:Int)<(m.F0.length:Int)),Aa (ω:(0:Int)≤(i:Int)) (ω:(i:Int)<(m.F0.length:Int)),Aa (ω:(0:Int)≤(i:Int)) (ω:(i:Int)<(m.O0.length:Int)),Aa (ω:(0:Int)≤(i:Int)) (ω:(i:Int)<(m.K0.length:Int)),E,j_,Xb,a_,b1,b2,b3,DA hi (show m.F0.length≤AJ by unfold AJ;omega)]
  simp only[O_]
  rfl) (λs _=>by
  show Gj (m.F0.length:Int) (m.F0.length:Int) m.F0 m.O0 m.K0 m.A0 s=_;unfold Gj;simp only[f_ (L_ (m.F0.length:Int)),c_];rfl) m.F0.length 0 [] ω rfl
 have h':=Ai h.1 ω
 rw[Hr,a0_]at h';exact h'
end
def Tg{α β:Type}(f:α→List β)(hf:∀x,(f x).length=3):∀l:List α,(l.flatMap f).length=3*l.length
 |[]=>rfl
 |a::t=>by rw[a1_,h_,hf,Tg f hf t,y_];omega
def Yz(m:J)(n:Nat):((O 0 n).flatMap (NI m)).length=3*n:=by rw[Tg _ λ_=>rfl,List.length_range']
def YA(m:J):(CG m).length=3*(m.F0.length+m.A0.length):=by
 unfold CG;rw[h_,Yz,Tg _ λ_=>rfl];omega
def Uu(b:Bldg)(m:J):List I:=bif m.ok b then CG m else []
section
variable{b:Bldg}(hb:b.small){m:J}(hf:m.fit)
include hb hf
theorem Adf:Mn b.C0 b.E0 b.H0 b.M0 b.J0 b.L0 b.N0 b.B0 m.F0 m.O0 m.K0 m.A0=C ((Uu b m,()),()):=by
 have hmx:100000≤maxLen:=by decide
 have hp:=hf.p;have he:=hf.e;unfold Mn Uu;rw[CM hb m ω ω]
 simp only[a_];cases hok:m.ok b with
 |false=>rfl
 |true=>
  have hm:=Img.ok_iff.1 hok;have l0:=Yb hf (by rw[hm.lf,hm.lp]) (by rw[hm.ll,hm.lp])
  have l1:=Yc hf (out:=(O 0 m.F0.length).flatMap (NI m)) (by rw[Yz];omega)
  simp only[Img.tup]at l0;simp only[o_,c_,E,l0,l1,a_];rfl
theorem Ads:Mr b.C0 b.E0 b.H0 b.M0 b.J0 b.L0 b.N0 b.B0 m.F0 m.O0 m.K0 m.A0=C ((Uu b m,()),()):=by
 have hmx:100000≤maxLen:=by decide
 have hp:=hf.p;have he:=hf.e;unfold Mr Uu;rw[Qf hb m ω ω]
 simp only[a_];cases hok:m.ok b with
 |false=>rfl
 |true=>
  have hm:=Img.ok_iff.1 hok;have l0:=Yq hf (by rw[hm.lf,hm.lp]) (by rw[hm.ll,hm.lp])
  have l1:=Yr hf (out:=(O 0 m.F0.length).flatMap (NI m)) (by rw[Yz];omega)
  simp only[Img.tup]at l0 l1;simp only[o_,c_,E,l0,l1,a_];rfl
end
def EI(m:J):∀(a c:List I),Ak m (a++c)=Ak (Ak m a) c
 |[],_=>rfl
 |r::t,c=>by
  show Ak (Ao m r) (t++c)=Ak (Ak (Ao m r) t) c;exact EI (Ao m r) t c
def Aga{α:Type}(l:List α)(z d:α){k n:Nat}(hk:k<n)(hl:l.length=n):(l.take k++P (n-k) z).set k (l.getD k d)=l.take (k+1)++P (n-(k+1)) z:=by
 have h1:(l.take k).length=k:=by rw[v_];omega
 rw[List.set_append_right _ _ ω,h1,Nat.sub_self,show n-k=(n-(k+1))+1 by omega,List.replicate_succ,List.set_cons_zero]
 have h2:k<l.length:=ω
 rw[show l.getD k d=l[k]by simp[h2]]
 rw[List.take_succ_eq_append_getElem h2,O_];rfl
def Ao8(m:J)(a c d:I):Ak m [a,c,d]=Ao (Ao (Ao m a) c) d:=rfl
def Ap7(on:Bool):(Tn on==1)=on:=by cases on<;>rfl
def Aoz{n k:Nat}(hk:k<n)(h1:m.F0.length=n)(h2:m.O0.length=n)(h3:m.K0.length=n):
  Ak ⟨m.F0.take k++P (n-k) 0,m.O0.take k++P (n-k) A,m.K0.take k++P (n-k) A,[]⟩ (NI m k)=⟨m.F0.take (k+1)++P (n-(k+1)) 0,m.O0.take (k+1)++P (n-(k+1)) A,m.K0.take (k+1)++P (n-(k+1)) A,[]⟩:=by
 have e1:=Aga m.F0 0 0 hk h1;have e2:=Aga m.O0 A A hk h2;have e3:=Aga m.K0 A A hk h3;unfold NI;rw[Ao8];unfold Ao;simp only[show((4:Int)==4)=B from rfl,show((5:Int)==4)=A from rfl,show((5:Int)==5)=B from rfl,show((6:Int)==4)=A from rfl,show((6:Int)==5)=A from rfl,show((6:Int)==6)=B from rfl,E,c_,j_,Ap7,e1,e2,e3]
def Ah5{m:J}{n:Nat}(h1:m.F0.length=n)(h2:m.O0.length=n)(h3:m.K0.length=n):∀j k:Nat,k+j=n→
  Ak ⟨m.F0.take k++P (n-k) 0,m.O0.take k++P (n-k) A,m.K0.take k++P (n-k) A,[]⟩ ((O k j).flatMap (NI m))=⟨m.F0,m.O0,m.K0,[]⟩
 |0,k,h=>by
  obtain rfl:k=n:=ω
  rw[Nat.sub_self];simp only[List.replicate_zero,b1_];rw[a8_ ω,a8_ ω,a8_ ω]
  rfl
 |j+1,k,h=>by
  rw[e3_,a1_,EI,Aoz ω h1 h2 h3]
  exact Ah5 h1 h2 h3 j (k+1) ω
def Ag2{F D:Int}{x:H}(hx:isC F D x=B):∀(l:List H) (i:Nat),(∀e∈l,isC F D e=A)→Dy F D (l++[x]) i=((i+l.length:Nat):Int)
 |[],i,_=>by simp[Dy,hx]
 |e::t,i,h=>by
  rw[List.cons_append];simp only[Dy];rw[h e (B_ ..),c_,Ag2 hx t (i+1) λy hy=>h y (F_ _ hy),y_]
  congr 1;omega
def Alk{x:H}:∀{l:List H},(∀e∈l,Bk x e=A)→Hk x A l=l++[x]
 |[],_=>rfl
 |e::t,h=>by
  simp only[Hk];rw[h e (B_ ..),c_,Alk λy hy=>h y (F_ _ hy)]
  rfl
def Ao0{e:H}(h:∀x∈m.A0,Bk x e=B):Ak m (NJ e)=m.put (m.A0++[e]):=by
 have hn:∀x∈m.A0,isC e.D0 e.I0 x=A:=λx hx=>by
  cases hq:isC e.D0 e.I0 x with
  |false=>rfl
  |true=>
   have:=(Ww (c:=e) hq).1
   rw[h x hx]at this;cases this
 have e0:∀(c k:Int) (q:Bool),isC e.D0 e.I0 ⟨e.D0,e.I0,c,k,q⟩=B:=λc k q=>by unfold isC;simp
 have f0:Dy e.D0 e.I0 m.A0 0=-1:=We hn;have f1:∀(c k:Int) (q:Bool),Dy e.D0 e.I0 (m.A0++[⟨e.D0,e.I0,c,k,q⟩]) 0=(m.A0.length:Int):=λc k q=>by rw[Ag2 (e0 c k q) _ _ hn,p_]
 have g1:∀x:H,(m.A0++[x]).getD m.A0.length noE=x:=λx=>by simp
 have s1:∀x y:H,(m.A0++[x]).set m.A0.length y=m.A0++[y]:=λx y=>by
  rw[List.set_append_right _ _ (w_ _),Nat.sub_self];rfl
 have a1:Ao m ⟨1,e.D0,e.I0,0,0⟩=m.put (m.A0++[⟨e.D0,e.I0,-1,0,A⟩]):=by
  unfold Ao;rw[f0];simp only[show((1:Int)==4)=A from rfl,show((1:Int)==5)=A from rfl,show((1:Int)==6)=A from rfl,c_,E,l_]
  rw[Alk (x:=⟨e.D0,e.I0,-1,0,A⟩) λx hx=>Ahl (show Bk x ⟨e.D0,e.I0,-1,0,A⟩=B from h x hx)]
 have ne:(((m.A0.length:Int))==-1)=A:=Ar ω
 have a2:Ao (m.put (m.A0++[⟨e.D0,e.I0,-1,0,A⟩])) ⟨3,e.D0,e.I0,e.Q0,0⟩=m.put (m.A0++[⟨e.D0,e.I0,e.Q0,0,A⟩]):=by
  unfold Ao;simp only[Img.put,f1,ne,show((3:Int)==4)=A from rfl,show((3:Int)==5)=A from rfl,show((3:Int)==6)=A from rfl,show((3:Int)==2)=A from rfl,c_,E,l_,j_,g1,s1,Ad2]
 have a3:Ao (m.put (m.A0++[⟨e.D0,e.I0,e.Q0,0,A⟩])) ⟨7,e.D0,e.I0,Tn e.Y1,e.B1⟩=m.put (m.A0++[⟨e.D0,e.I0,e.Q0,e.B1,e.Y1⟩]):=by
  unfold Ao;simp only[Img.put,f1,ne,show((7:Int)==4)=A from rfl,show((7:Int)==5)=A from rfl,show((7:Int)==6)=A from rfl,show((7:Int)==2)=A from rfl,show((7:Int)==3)=A from rfl,c_,E,l_,j_,g1,s1,Tv,Ap7]
 unfold NJ;rw[Ao8,a1,a2,a3]
def Ah6:∀(l:List H) (m:J),Bq (m.A0++l)→Ak m (l.flatMap NJ)=m.put (m.A0++l)
 |[],m,_=>by simp[Ak,Img.put]
 |e::t,m,h=>by
  have hp:=El.1 h;have hlt:∀x∈m.A0,Bk x e=B:=λx hx=>(List.pairwise_append.1 hp).2.2 x hx e (B_ ..)
  rw[a1_,EI,Ao0 hlt]
  have h2:Bq ((m.put (m.A0++[e])).A0++t):=by
   show Bq (m.A0++[e]++t);rw[O_];exact h
  rw[Ah6 t _ h2];show m.put (m.A0++[e]++t)=_;rw[O_];rfl
def Ad4(h:ImgOK b m):Ak (Gw b) (CG m)=m:=by
 unfold CG;rw[EI];have h0:=Ah5 (m:=m) h.lp h.lf h.ll b.B0.length 0 ω
 simp only[List.take_zero,a0_,Nat.sub_zero]at h0;rw[h.lp];rw[show Gw b=⟨P b.B0.length 0,P b.B0.length A,P b.B0.length A,[]⟩from rfl,h0,Ah6 _ _ (by show Bq ([]++m.A0);exact h.so)]
 rfl
def WA(on:Bool):0≤Tn on∧Tn on≤1:=by cases on<;>exact⟨by decide,by decide⟩
def Sr(h:ImgOK b m):∀r∈CG m,Az b r=B:=by
 have hcode:=h.code;intro r hr;unfold CG at hr;rcases q_.1 hr with hr | hr
 ·obtain⟨i,hi,hr⟩:=d0_.1 hr
  have hi':i<m.F0.length:=by
   have:=List.mem_range'_1.1 hi
   omega
  have hp:=h.ph _ (Cn 0 hi');have hlp:=h.lp
  have hcar:∀k v:Int,Ta b ⟨k,0,0,i,v⟩=B:=λk v=>by
   unfold Ta;rw[Am.2 ⟨show(0:Int)≤(i:Int)by omega,show(i:Int)≤(b.B0.length:Int)-1 by omega⟩];rfl
  unfold NI at hr;simp only[z_,List.not_mem_nil,or_false]at hr;rcases hr with rfl | rfl | rfl
  ·unfold Az
   rw[hcode,hcar,Am.2 hp];rfl
  ·unfold Az
   rw[hcode,hcar,Am.2 (WA _)];rfl
  ·unfold Az
   rw[hcode,hcar,Am.2 (WA _)];rfl
 ·obtain⟨e,he,hr⟩:=d0_.1 hr
  obtain⟨h1,h2,h3⟩:=EA.1 (h.en e he);unfold NJ at hr;simp only[z_,List.not_mem_nil,or_false]at hr;rcases hr with rfl | rfl | rfl
  ·unfold Az
   rw[hcode,h1];rfl
  ·unfold Az
   rw[hcode,h1,Am.2 ⟨h2.1,show e.Q0≤(b.B0.length:Int)-1 by omega⟩];rfl
  ·unfold Az
   rw[hcode,h1,Am.2 (WA _),Am.2 h3];rfl
def UQ(floor:Int):Int:=Q.wrap (1*2^min (L floor) (IntKind.bits .u32))
def JO(floor dir:Int):Int×Int:=
 bif inR 0 31 floor then(bif dir==1 then(UQ floor,0)else bif dir==2 then(0,UQ floor)else(0,0))else(0,0)
def orC(a c:Int):Int:=vb (bv a|||bv c)
def Aa9(a c:Int):Int:=vb (bv a&&& ~~~ bv c)
def DU(a c:Int×Int):Int×Int:=(orC a.1 c.1,orC a.2 c.2)
def Cd(a c:Int×Int):Int×Int:=(Aa9 a.1 c.1,Aa9 a.2 c.2)
def BP(c:Int×Int)(f:Nat)(d:Int):Bool:=bif d==1 then CK c.1 f else bif d==2 then CK c.2 f else A
def JX(c:Int×Int):Prop:=(0≤c.1∧c.1<4294967296)∧(0≤c.2∧c.2<4294967296)
def Azo(a c:Int×Int):JX (DU a c):=⟨KG _,KG _⟩
def Ayp(a c:Int×Int):JX (Cd a c):=⟨KG _,KG _⟩
def TF:JX (0,0):=⟨⟨by decide,by decide⟩,⟨by decide,by decide⟩⟩
def Xv(i:Nat):CK 0 i=A:=by
 unfold CK bv;simp
def TR(f:Nat)(d:Int):BP (0,0) f d=A:=by
 unfold BP;simp only[Xv];cases d==1<;>cases d==2<;>rfl
def Aq7(a c:Int×Int)(f:Nat)(d:Int):BP (DU a c) f d=(BP a f d||BP c f d):=by
 unfold BP DU orC;simp only[SX,aD];cases d==1<;>cases d==2<;>rfl
def VB(a c:Int×Int)(hf:f<32)(d:Int):BP (Cd a c) f d=(BP a f d&&!BP c f d):=by
 unfold BP Cd Aa9;simp only[SX,f2_,BitVec.getLsbD_not,hf,decide_true,n_];cases d==1<;>cases d==2<;>rfl
def Ake{F D:Int}(hF:0≤F∧F<32)(hD:D=1∨D=2)(f:Nat)(hd:d=1∨d=2):BP (JO F D) f d=decide (((f:Int),d)=(F,D)):=by
 have hp:CK (UQ F) f=decide (f=F.toNat):=Apa (k:=F.toNat) ω f
 have e:decide (((f:Int),d)=(F,D))=(decide (f=F.toNat)&&decide (d=D)):=by
  rw[Bool.eq_iff_iff,e_,A_,A_,A_,g6_];constructor
  ·rintro⟨h1,h2⟩;exact⟨ω,h2⟩
  ·rintro⟨h1,h2⟩;exact⟨ω,h2⟩
 rw[e];unfold JO BP;rw[Am.2 ⟨hF.1,show F≤31 by omega⟩]
 rcases hD with rfl | rfl<;>rcases hd with rfl | rfl
 ·simp[hp]
 ·simp[Xv]
 ·simp[Xv]
 ·simp[hp]
def Agj{a:Int×Int}(ha:JX a)(hc:JX c)(h:∀f:Nat,f<32→∀d:Int,(d=1∨d=2)→BP a f d=BP c f d):a=c:=by
 have h1:a.1=c.1:=Aes ha.1 hc.1 λi hi=>h i hi 1 (.inl rfl)
 have h2:a.2=c.2:=Aes ha.2 hc.2 λi hi=>h i hi 2 (.inr rfl)
 exact Prod.ext h1 h2
def Bfr(e:H):Prop:=(0≤e.D0∧e.D0<32)∧(e.I0=1∨e.I0=2)
def ofC:List H→Int×Int→Int×Int
 |[],c=>c
 |e::t,c=>ofC t (DU c (JO e.D0 e.I0))
def Nb(c:Int×Int)(f:Nat):List H:=(bif BP c f 1 then [⟨(f:Int),1,-1,0,A⟩]else [])++(bif BP c f 2 then [⟨(f:Int),2,-1,0,A⟩]else [])
def Acn(c:Int×Int)(f:Nat):(Nb c f).length≤2:=by
 unfold Nb;cases BP c f 1<;>cases BP c f 2<;>simp
def Hm(c:Int×Int):List H:=(O 0 32).flatMap (Nb c)
def Adk:p∈(Nb c f).map HL↔p.1=(f:Int)∧(p.2=1∨p.2=2)∧BP c f p.2=B:=by
 obtain⟨a,d⟩:=p;unfold Nb;rw[List.map_append,q_]
 have h:∀D:Int,(a,d)∈(bif BP c f D then [Entry.mk (f:Int) D (-1) 0 A]else []).map HL↔a=(f:Int)∧d=D∧BP c f D=B:=λD=>by
  cases BP c f D<;>simp[HL]
 rw[h,h];constructor
 ·rintro(⟨h1,rfl,h3⟩ | ⟨h1,rfl,h3⟩)
  ·exact⟨h1,.inl rfl,h3⟩
  ·exact⟨h1,.inr rfl,h3⟩
 ·rintro⟨h1,h2,h3⟩
  simp only at h1 h2 h3;rcases h2 with rfl | rfl
  ·exact .inl ⟨h1,rfl,h3⟩
  ·exact .inr ⟨h1,rfl,h3⟩
def mem_range{i k:Nat}:p∈((O i k).flatMap (Nb c)).map HL↔∃f:Nat,(i≤f∧f<i+k)∧p.1=(f:Int)∧(p.2=1∨p.2=2)∧BP c f p.2=B:=by
 constructor
 ·intro h
  obtain⟨e,he,rfl⟩:=c3_.1 h;obtain⟨f,hf,he⟩:=d0_.1 he;exact⟨f,List.mem_range'_1.1 hf,Adk.1 (c3_.2 ⟨e,he,rfl⟩)⟩
 ·rintro⟨f,hf,h⟩
  obtain⟨e,he,h2⟩:=c3_.1 (Adk.2 h);exact c3_.2 ⟨e,d0_.2 ⟨f,List.mem_range'_1.2 hf,he⟩,h2⟩
def JL(floor dir:Int):DV floor dir=C (((),()),(((JO floor dir).1,(JO floor dir).2,()),())):=by
 unfold DV JO inR;by_cases g:0≤floor
 ·by_cases g':floor<32
  ·rw[b_ g,b_ g',b_ (ω:floor≤31)]
   simp only[E,a_,a4_,b_ g];cases dir==1<;>cases dir==2<;>rfl
  ·rw[b_ g,f_ g',f_ (ω:¬floor≤31)];rfl
 ·rw[f_ g];rfl
def Gp(a c:Int×Int):CI a.1 a.2 c.1 c.2=C (((),()),(((DU a c).1,(DU a c).2,()),())):=by
 unfold CI;rw[Aug,Aug];rfl
def PV(a c:Int×Int):Ig a.1 a.2 c.1 c.2=C (((),()),(((Cd a c).1,(Cd a c).2,()),())):=by
 unfold Ig;rw[NX,NX];rfl
def DJ(a c:Int×Int):Int×Int:=(vb (bv a.1&&&bv c.1),vb (bv a.2&&&bv c.2))
def Akh(a c:Int×Int):JX (DJ a c):=⟨KG _,KG _⟩
def KT(a c:Int×Int):DN a.1 a.2 c.1 c.2=C (((),()),(((DJ a c).1,(DJ a c).2,()),())):=by
 unfold DN;rw[Zk,Zk];rfl
def TQ(a c:Int×Int)(f:Nat)(d:Int):BP (DJ a c) f d=(BP a f d&&BP c f d):=by
 unfold BP DJ;simp only[SX,f2_];cases d==1<;>cases d==2<;>rfl
def isZ(c:Int×Int):Bool:=(c.1==0)&&((c.2==0)&&B)
def Afj(hc:JX c):isZ c=B↔∀f:Nat,f<32→∀d:Int,(d=1∨d=2)→BP c f d=A:=by
 constructor
 ·intro h f _ d _
  unfold isZ at h;simp only[e_,U_]at h;obtain⟨h1,h2,_⟩:=h;rw[show c=(0,0)from Prod.ext h1 h2,TR]
 ·intro h
  have:c=(0,0):=Agj hc TF λf hf d hd=>by rw[h f hf d hd,TR]
  rw[this];rfl
def Pg(c:Int×Int){F D:Int}(hF:0≤F∧F<32)(hD:D=1∨D=2):Dh c.1 c.2 F D=C ((BP c F.toNat D,()),()):=by
 unfold Dh;rw[JL];simp only[a_];rw[KT c (JO F D)];simp only[a_];show C ((!(isZ (DJ c (JO F D))),()),())=_
 have e:isZ (DJ c (JO F D))=!BP c F.toNat D:=by
  cases h:BP c F.toNat D with
  |false=>
   refine(Afj (Akh _ _)).2 λf hf d hd=>?_
   rw[TQ,Ake hF hD f hd];by_cases g:((f:Int),d)=(F,D)
   ·obtain⟨h1,h2⟩:=Prod.mk.inj g
    rw[show f=F.toNat by omega,h2,h];rfl
   ·rw[f_ g,c0_]
  |true=>
   cases hz:isZ (DJ c (JO F D))with
   |false=>rfl
   |true=>
    have:=(Afj (Akh _ _)).1 hz F.toNat ω D hD
    rw[TQ,Ake hF hD F.toNat hD,h,b_ (show(((F.toNat:Nat):Int),D)=(F,D)by rw[f9_ hF.1])]at this
    cases this
 rw[e,Bool.not_not]
def Bw(b:Bldg):Int×Int:=(R Q (R Q (1*2^min (L (b.C0-1)) (IntKind.bits .u32))-1),Q.wrap (R Q (R Q (1*2^min (L (b.C0-1)) (IntKind.bits .u32))-1)*2^min (L (1:Int)) (IntKind.bits .u32)))
def Kw(hb:b.small)(hcode:b.code=0):Ff b.C0 b.E0 b.H0 b.M0 b.J0 b.L0 b.N0 b.B0=C (((),()),(((Bw b).1,(Bw b).2,()),())):=by
 have lo:=hb.lo;have hi:=hb.hi;unfold Ff Bw;rw[Bg,hcode];simp only[a_,Q_,c_,Ac (n:=b.C0-1) ω ω,b_ (ω:0≤b.C0-1),E]
def Ajj(n:Nat):Int:=Q.wrap (R Q (1*2^min n (IntKind.bits .u32))-1)
def Bbo:((List.range 9).all λn=>(List.range 32).all λi=>(CK (Ajj n) i==decide (i<n))&&(CK (R Q (Ajj n*2^min (L 1) (IntKind.bits .u32))) i==(decide (1≤i)&&decide (i≤n))))=B:=κ
def Bbp(b:Bldg):JX (Bw b):=by
 have k:∀n:Int,0≤Q.wrap n∧Q.wrap n<4294967296:=λn=>by
  simp only[R,IntKind.signed,IntKind.bits];simp;omega
 exact⟨k _,k _⟩
def Wp(hb:b.small)(hcode:b.code=0)(hf:f<32)(hd:d=1∨d=2):BP (Bw b) f d=An b (f:Int) d:=by
 have lo:=hb.lo;have hi:=hb.hi;have t:=D_.1 (D_.1 Bbo (b.C0-1).toNat (List.mem_range.2 ω)) f (List.mem_range.2 hf)
 rw[e_,U_,U_]at t;unfold An Pf;rw[hcode];rcases hd with rfl | rfl
 ·have e:BP (Bw b) f 1=CK (Ajj (b.C0-1).toNat) f:=rfl
  rw[e,t.1];unfold inR;rw[b_ (ω:(0:Int)≤(f:Int))]
  by_cases g:f<(b.C0-1).toNat
  ·rw[b_ g,b_ (ω:(f:Int)≤b.C0-2)];rfl
  ·rw[f_ g,f_ (ω:¬(f:Int)≤b.C0-2)];rfl
 ·have e:BP (Bw b) f 2=CK (R Q (Ajj (b.C0-1).toNat*2^min (L 1) (IntKind.bits .u32))) f:=rfl
  rw[e,t.2];unfold inR;by_cases g:1≤f
  ·rw[b_ g,b_ (ω:(1:Int)≤(f:Int))]
   by_cases g':f≤(b.C0-1).toNat
   ·rw[b_ g',b_ (ω:(f:Int)≤b.C0-1)];rfl
   ·rw[f_ g',f_ (ω:¬(f:Int)≤b.C0-1)];rfl
  ·rw[f_ g,f_ (ω:¬(1:Int)≤(f:Int))];rfl
def Wo(b:Bldg)(i:Nat)(s:Int×Int):Int×Int:=(bif An b (i:Int) 1 then orC s.1 (UQ (i:Int))else s.1,bif An b (i:Int) 2 then orC s.2 (UQ (i:Int))else s.2)
def Aok(hb:b.small)(hcode:b.code=0):RP b.C0 b.E0 b.H0 b.M0 b.J0 b.L0 b.N0 b.B0=C (((),()),(((Bw b).1,(Bw b).2,()),())):=by
 have h:=AQ (step:=λx=>letI a:=x.2.1.2.2;letI c:=a.2.2;JF x.1.2.2.2.1 x.2.1.1 x.2.1.2.1 a.1 a.2.1 c.1 c.2.1 c.2.2.1 c.2.2.2.1 x.2.2.1.1 x.2.2.1.2.1 x.2.2.2.1.1 x.2.2.2.1.2.1) 32 (λi (s:Int×Int)=>(((),(),(),(i:Int),()),(b.tup,((0:Int),(0:Int),()),(s.1,s.2,()),()))) (Wo b)
  (λi s=>JX s∧∀f:Nat,f<32→∀d:Int,(d=1∨d=2)→BP s f d=(decide (f<i)&&An b (f:Int) d)) (λs=>(((),(),()),(((0:Int),(0:Int),()),(s.1,s.2,()),()))) (λi s hi hs=>by
  have w:aC.wrap (i:Int)=(i:Int):=CN ω ω
  have hp:∀j,CK (UQ (i:Int)) j=decide (j=i):=λj=>Apa (k:=i) hi j
  refine⟨?_,⟨?_,?_⟩,λf hf d hd=>?_⟩
  ·show JF (i:Int) b.C0 b.E0 b.H0 b.M0 b.J0 b.L0 b.N0 b.B0 0 0 s.1 s.2=_
   unfold JF Wo;rw[KV hb,b_ (ω:(i:Int)<32)]
   simp only[a_,E,w,b_ (ω:(0:Int)≤(i:Int)),Aug]
   cases An b (i:Int) 1 with
   |true=>
    simp only[E,a_,KV hb,w,b_ (ω:(0:Int)≤(i:Int)),Ac (n:=(i:Int)+1) ω ω]
    cases An b (i:Int) 2<;>rfl
   |false=>
    simp only[c_,a_,KV hb,w,b_ (ω:(0:Int)≤(i:Int)),E,Ac (n:=(i:Int)+1) ω ω]
    cases An b (i:Int) 2<;>rfl
  ·unfold Wo
   cases An b (i:Int) 1
   ·exact hs.1.1
   ·exact KG _
  ·unfold Wo
   cases An b (i:Int) 2
   ·exact hs.1.2
   ·exact KG _
  ·have hk:=hs.2 f hf d hd
   have dk:decide (f<i+1)=(decide (f<i)||decide (f=i)):=by
    rw[Bool.eq_iff_iff,a6_,A_,A_,A_];omega
   rw[dk];rcases hd with rfl | rfl
   ·have e:BP (Wo b i s) f 1=CK (bif An b (i:Int) 1 then orC s.1 (UQ (i:Int))else s.1) f:=rfl
    have hk':CK s.1 f=_:=hk;rw[e];cases hc:An b (i:Int) 1 with
    |true=>
     rw[E];unfold orC;rw[SX,aD];show(CK s.1 f||CK (UQ (i:Int)) f)=_
     rw[hk',hp];by_cases g:f=i
     ·subst g;rw[hc];simp
     ·rw[f_ g];simp
    |false=>
     rw[c_,hk'];by_cases g:f=i
     ·subst g;rw[hc];simp
     ·rw[f_ g];simp
   ·have e:BP (Wo b i s) f 2=CK (bif An b (i:Int) 2 then orC s.2 (UQ (i:Int))else s.2) f:=rfl
    have hk':CK s.2 f=_:=hk;rw[e];cases hc:An b (i:Int) 2 with
    |true=>
     rw[E];unfold orC;rw[SX,aD];show(CK s.2 f||CK (UQ (i:Int)) f)=_
     rw[hk',hp];by_cases g:f=i
     ·subst g;rw[hc];simp
     ·rw[f_ g];simp
    |false=>
     rw[c_,hk'];by_cases g:f=i
     ·subst g;rw[hc];simp
     ·rw[f_ g];simp) (λs _=>by
  show JF 32 b.C0 b.E0 b.H0 b.M0 b.J0 b.L0 b.N0 b.B0 0 0 s.1 s.2=_;unfold JF;rw[show decide ((32:Int)<32)=A from rfl];rfl) 32 0 (0,0) ω ⟨TF,λf _ d _=>by rw[TR];simp⟩
 have h':=Ai h.1 ω
 have hall:AO (Wo b) 32 0 (0,0)=Bw b:=Agj h.2.1 (Bbp b) λf hf d hd=>by
  rw[h.2.2 f hf d hd,Wp hb hcode hf hd,b_ hf,n_]
 rw[hall]at h';unfold RP;simp only[Bldg.tup]at h';rw[show OL (((),(),(),(0:Int),()),((b.C0,b.E0,b.H0,b.M0,b.J0,b.L0,b.N0,b.B0,()),((0:Int),(0:Int),()),((0:Int),(0:Int),()),()))=_ from h']
 rfl
def DB(b:Bldg)(v:View):Int×Int:=bif v.Z2 then DJ (v.F3,v.R2) (Bw b)else(0,0)
def RJ(hb:b.small)(hcode:b.code=0)(v:View):HD b.C0 b.E0 b.H0 b.M0 b.J0 b.L0 b.N0 b.B0 v.Y2 v.Z2 v.C3 v.Q3 v.D0 v.I0 v.B3 v.F3 v.R2 v.M2 v.B2 v.R1=C (((),()),(((DB b v).1,(DB b v).2,()),())):=by
 unfold HD DB;cases v.Z2 with
 |false=>rfl
 |true=>
  rw[Kw hb hcode];simp only[o_,c_,a_,E];rw[KT (v.F3,v.R2) (Bw b)];rfl
def Acd{c:Int×Int}(h:Int→Int→Option ((Bool×Unit)×Unit))(hh:∀f:Nat,f<32→∀d:Int,(d=1∨d=2)→h (f:Int) d=C ((BP c f d,()),())):∀k i:Nat,i+k≤32→VN h (λf d=>Entry.mk f d (-1) 0 A) ((O i k).flatMap λf:Nat=>[((f:Int),1),((f:Int),2)])=C ((O i k).flatMap (Nb c))
 |0,_,_=>rfl
 |k+1,i,hk=>by
  rw[e3_,a1_,a1_];show VN h _ (((i:Int),1)::((i:Int),2)::((O (i+1) k).flatMap λf:Nat=>[((f:Int),1),((f:Int),2)]))=_
  simp only[VN];rw[hh i ω 1 (.inl rfl),hh i ω 2 (.inr rfl),Acd h hh k (i+1) ω]
  unfold Nb;cases BP c i 1<;>cases BP c i 2<;>rfl
def WW(c:Int×Int):LH c.1 c.2=C ((Hm c,()),()):=by
 unfold LH Al3
 have e:pairs64=(O 0 32).flatMap λf:Nat=>[((f:Int),1),((f:Int),2)]:=by
  unfold pairs64;rw[List.range_eq_range']
 have h:=Acd (c:=c) (λf d=>Dh c.1 c.2 f d) (λf hf d hd=>by
  have h:=Pg c (F:=(f:Int)) (D:=d) ⟨ω,ω⟩ hd
  rw[j_]at h;exact h) 32 0 ω
 rw[e,h];rfl
end Go.Ovl
namespace Go.Ovl
open Go Go.Ab
structure Sto where
 h0:ByteArray
 h1:ByteArray
 sel:Int
def Sto.get(s:Sto)(half:Int):ByteArray:=if half=0 then s.h0 else s.h1
def Sto.set(s:Sto)(half:Int)(x:ByteArray):Sto:=if half=0 then { s with h0:=x }else { s with h1:=x }
def Sto.no:Sto:=⟨noB,noB,0⟩
def Sto.cur(s:Sto):ByteArray:=if s.sel=1 then s.h1 else s.h0
def Sto.ok(room:Int)(s:Sto):Prop:=1≤room∧room≤65536∧s.h0.size≤room∧s.h1.size≤room∧(s.sel=0∨s.sel=1)
instance okSto_ti(room:Int)(s:Sto):Decidable (s.ok room):=by unfold Sto.ok;infer_instance
def Sto.tup(s:Sto):ByteArray×ByteArray×Int×Unit:=(s.h0,(s.h1,(s.sel,())))
def Sto.chk(room:Int)(s:Sto)(half bud:Int):Int:=if s.ok room then if(half≠0∧half≠1)∨bud<0 then 2 else 0 else 1
def Sto.write(room:Int)(s:Sto)(half:Int)(d:ByteArray)(bud:Int):Sto×Int×Int:=
 if s.chk room half bud≠0 then(.no,0,s.chk room half bud)
 else if room<(s.get half).size+d.size then(.no,0,7)
 else if bud<d.size then(s.set half (s.get half++d.extract 0 bud.toNat),0,8)
 else(s.set half (s.get half++d),bud-d.size,0)
def Sto.act(room:Int)(s:Sto)(half bud:Int)(t:Sto):Sto×Int×Int:=
 if s.chk room half bud≠0 then(.no,0,s.chk room half bud)else if bud=0 then(s,0,8)else(t,bud-1,0)
def Sto.erase(room:Int)(s:Sto)(half bud:Int):Sto×Int×Int:=s.act room half bud (s.set half noB)
def Sto.choose(room:Int)(s:Sto)(half bud:Int):Sto×Int×Int:=s.act room half bud { s with sel:=half }
def Sto.out(r:Sto×Int×Int):(Unit×Int×Int×Unit)×((ByteArray×ByteArray×Int×Unit)×Unit):=(((),(r.2.1,(r.2.2,()))),((r.1.h0,(r.1.h1,(r.1.sel,()))),()))
def IH(room:Int)(h0 h1:ByteArray)(sel:Int):Fp room h0 h1 sel=C ((decide (Sto.ok room ⟨h0,h1,sel⟩),()),()):=by
 unfold Fp Sto.ok;by_cases a:1≤room
 ·by_cases b:room≤65536
  ·by_cases c:(h0.size:Int)≤room
   ·by_cases d:(h1.size:Int)≤room
    ·by_cases e:sel=0
     ·simp[a,b,c,d,e]
     ·by_cases f:sel=1<;>simp[a,b,c,d,e,f,Ar]
    ·simp[a,b,c,d]
   ·simp[a,b,c]
  ·simp[a,b]
 ·simp[a]
def NP(room:Int)(h0 h1:ByteArray)(sel half bud:Int):Ij room h0 h1 sel half bud=C ((Sto.chk room ⟨h0,h1,sel⟩ half bud,()),()):=by
 unfold Ij Sto.chk;rw[IH];by_cases a:Sto.ok room ⟨h0,h1,sel⟩
 ·by_cases b:half=0
  ·by_cases c:bud<0<;>simp[a,b,c]
  ·by_cases d:half=1
   ·by_cases c:bud<0<;>simp[a,c,d]
   ·simp[a,b,d,EK]
 ·simp[a]
def PW{room:Int}{s:Sto}{half bud:Int}(h:s.chk room half bud=0):s.ok room∧(half=0∨half=1)∧0≤bud:=by
 unfold Sto.chk at h;split at h
 ·split at h
  ·cases h
  ·rename_i h1 h2;refine⟨h1,?_,?_⟩<;>omega
 ·cases h
def SP(room:Int)(h0 h1:ByteArray)(sel half:Int)(d:ByteArray)(bud:Int)(hb:bud<9223372036854775808) :
  Ii room h0 h1 sel half d bud=C (Sto.out (Sto.write room ⟨h0,h1,sel⟩ half d bud)):=by
 unfold Ii Sto.write;rw[NP];generalize hc:Sto.chk room ⟨h0,h1,sel⟩ half bud=c;by_cases h:c=0
 ·subst h
  obtain⟨⟨o1,o2,o3,o4,o5⟩,hh,hb0⟩:=PW hc;simp only at o3 o4;have hin:inB half 2=B:=Aa ω ω
  have hg:(List.getD [h0,h1] half.toNat noB)=Sto.get ⟨h0,h1,sel⟩ half:=by
   rcases hh with rfl | rfl<;>rfl
  have hgs:((Sto.get ⟨h0,h1,sel⟩ half).size:Int)≤room:=by rcases hh with rfl | rfl<;>simpa[Sto.get]
  have hset:∀x:ByteArray,((bif Nat.beq half.toNat 0 then x else h0),((bif Nat.beq half.toNat 1 then x else h1),(sel,())))=((Sto.set ⟨h0,h1,sel⟩ half x).h0,((Sto.set ⟨h0,h1,sel⟩ half x).h1,((Sto.set ⟨h0,h1,sel⟩ half x).sel,()))):=by
   intro x;rcases hh with rfl | rfl<;>rfl
  have hg':(List.getD [h0,h1] half.toNat (ByteArray.mk (Array.mk [])))=Sto.get ⟨h0,h1,sel⟩ half:=hg;simp only[a_,hin,E,hg',hset];generalize Sto.get ⟨h0,h1,sel⟩ half=g at hgs⊢;rw[Ac (n:=room-g.size) ω ω]
  by_cases h2:room<(g.size:Int)+d.size
  ·have e:decide (room-(g.size:Int)<d.size)=B:=by simp;omega
   simp[e,h2,Sto.out,Sto.no,noB]
  ·have e:decide (room-(g.size:Int)<d.size)=A:=by simp;omega
   by_cases h3:bud<d.size
   ·have e2:decide (bud<(d.size:Int))=B:=by simpa using h3
    have e3:(decide (0≤bud)&&decide (bud≤(d.size:Int)))=B:=by simp;omega
    have e4:aA (g.size+(d.extract 0 bud.toNat).size) 4611686018427387904=B:=by
     rw[Wb d ω];exact Ax ω
    simp only[e,e3,e4,h2,h3,E,c_,g8_,e9_,Sto.out];simp
   ·have e2:decide (bud<(d.size:Int))=A:=by simpa using h3
    have e4:aA (g.size+d.size) 4611686018427387904=B:=Ax ω
    rw[Ac (n:=bud-d.size) ω ω]
    simp only[e,e4,h2,h3,E,c_,e9_,Sto.out];simp
 ·simp[h,Sto.out,Sto.no,noB,EK]
def Aud(room:Int)(h0 h1:ByteArray)(sel half bud:Int)(hb:bud<9223372036854775808):Nr room h0 h1 sel half bud=C (Sto.out (Sto.erase room ⟨h0,h1,sel⟩ half bud)):=by
 unfold Nr Ha Sto.erase Sto.act;rw[NP];generalize hc:Sto.chk room ⟨h0,h1,sel⟩ half bud=c;by_cases h:c=0
 ·subst h
  obtain⟨_,hh,hb0⟩:=PW hc;by_cases h2:bud=0
  ·simp[h2,Sto.out]
  ·have hin:inB half 2=B:=Aa ω ω
   unfold OH;rw[Ac (n:=bud-1) ω ω]
   have e:(bud==0)=A:=by simpa using h2
   rcases hh with rfl | rfl<;>simp[hin,e,h2,Sto.out,Sto.set,noB]<;>rfl
 ·simp[h,Sto.out,Sto.no,noB,EK]
def Ao4(room:Int)(h0 h1:ByteArray)(sel half bud:Int)(hb:bud<9223372036854775808):Mt room h0 h1 sel half bud=C (Sto.out (Sto.choose room ⟨h0,h1,sel⟩ half bud)):=by
 unfold Mt GD Sto.choose Sto.act;rw[NP];generalize hc:Sto.chk room ⟨h0,h1,sel⟩ half bud=c;by_cases h:c=0
 ·subst h
  obtain⟨_,hh,hb0⟩:=PW hc;by_cases h2:bud=0
  ·simp[h2,Sto.out]
  ·unfold NO
   rw[Ac (n:=bud-1) ω ω]
   have e:(bud==0)=A:=by simpa using h2
   simp[e,h2,Sto.out]
 ·simp[h,Sto.out,Sto.no,noB,EK]
def Xk(h0 h1:ByteArray)(sel:Int):Ls h0 h1 sel=C ((Sto.cur ⟨h0,h1,sel⟩,()),()):=by
 unfold Ls Sto.cur;by_cases h:sel=1<;>simp[h,Ar]
def Cp:Debounced:=Debounced.mk 0 A A A A 0 0 0 0 0 0 0 0 0 0 0 0 0 0 0 0 0 0 0 0 0 0 0 0 0 0 0 0 0 0 0 0 0 0 0 0
def Dz:Duty:=Duty.mk 0 0 0
def AV:NewCar:=NewCar.mk 0 0 0 0 0 A 0 0 0 0 0 0 0 A
def Hc:Loaded:=Loaded.mk 0
def Aft:Calls:=Calls.mk 0 0
def Jk:Belief:=Belief.mk 0 0 0 [] 0 A
def Belief.tup(x:Belief):Int×Int×Int×List Duty×Int×Bool×Unit:=(x.D0,x.I0,x.D3,x.U0,x.T2,x.J3,())
structure Mch where
 G0:Img
 X0:Sto
 N1:List Debounced
 W0:List Belief
 B0:List NewCar
 L2:List Loaded
 D2:List Int
 U3:List Calls
 L3:Int
 N2:Int
 G2:Int
def Mch.tup(m:Mch):List Int×List Bool×List Bool×List H×ByteArray×ByteArray×Int×List Debounced×List Belief×List NewCar×List Loaded×List Int×List Calls×Int×Int×Int×Unit:=(m.G0.F0,m.G0.O0,m.G0.K0,m.G0.A0,m.X0.h0,m.X0.h1,m.X0.sel,m.N1,m.W0,m.B0,m.L2,m.D2,m.U3,m.L3,m.N2,m.G2,())
structure Mch.fit(m:Mch):Prop where
 im:m.G0.fit
 co:m.N1.length≤100000
 be:m.W0.length≤100000
 du:∀x∈m.W0,x.U0.length≤100000
 ca:m.B0.length≤100000
 lo:m.L2.length≤100000
 ex:m.D2.length≤100000
 li:m.U3.length≤100000
section
variable{a c:Mch}(ha:a.fit)
include ha
end
end Go.Ovl
