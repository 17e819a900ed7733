import Derived.Test.YtefkhaccplcieaaGreatDoorOvJ
import Derived.Test.YtefkhaccplcieaaGreatDoorOvI
set_option linter.all false
open Bool renaming true->A,false->B
open Go.Ovl.Sat renaming ret->C,bifT->D,bindS->E,bic->J,bindE->aC
open Go.Ab renaming inB->H
open Option renaming some->I
open Go.Ovl renaming Record->N,Debounced->aB
open Int renaming toNat->aA
open Go.IntKind renaming i64->aD
namespace Go.Ovl
open Go Go.Ab
set_option maxRecDepth 100000
variable{b:Bldg}{n:Int}{l:List N}{r:Contacts}{t:Pk}{i:Nat}{z:aB}{L:List Int}{m:Img}
structure Deb where
 c:Contacts
 k:List Int
def Deb.no:Deb:=⟨⟨0,B,B,B,B⟩,List.replicate 36 0⟩
def Deb.tup(s:Deb):Int×Bool×Bool×Bool×Bool×Int×Int×Int×Int×Int×Int×Int×Int×Int×Int×Int×Int×Int×Int×Int×Int×Int×Int×Int×Int×Int×Int×Int×Int×Int×Int×Int×Int×Int×Int×Int×Int×Int×Int×Int×Int×Unit:=(s.c.C0,s.c.Up,s.c.X3,s.c.T5,s.c.A4,s.k.getD 0 0,s.k.getD 1 0,s.k.getD 2 0,s.k.getD 3 0,s.k.getD 4 0,s.k.getD 5 0,s.k.getD 6 0,s.k.getD 7 0,s.k.getD 8 0,s.k.getD 9 0,s.k.getD 10 0,s.k.getD 11 0,s.k.getD 12 0,s.k.getD 13 0,s.k.getD 14 0,s.k.getD 15 0,s.k.getD 16 0,s.k.getD 17 0,s.k.getD 18 0,s.k.getD 19 0,s.k.getD 20 0,s.k.getD 21 0,s.k.getD 22 0,s.k.getD 23 0,s.k.getD 24 0,s.k.getD 25 0,s.k.getD 26 0,s.k.getD 27 0,s.k.getD 28 0,s.k.getD 29 0,s.k.getD 30 0,s.k.getD 31 0,s.k.getD 32 0,s.k.getD 33 0,s.k.getD 34 0,s.k.getD 35 0,())
def Deb.cnt(s:Deb):Int×Int×Int×Int×Int×Int×Int×Int×Int×Int×Int×Int×Int×Int×Int×Int×Int×Int×Int×Int×Int×Int×Int×Int×Int×Int×Int×Int×Int×Int×Int×Int×Int×Int×Int×Int×Unit:=(s.k.getD 0 0,s.k.getD 1 0,s.k.getD 2 0,s.k.getD 3 0,s.k.getD 4 0,s.k.getD 5 0,s.k.getD 6 0,s.k.getD 7 0,s.k.getD 8 0,s.k.getD 9 0,s.k.getD 10 0,s.k.getD 11 0,s.k.getD 12 0,s.k.getD 13 0,s.k.getD 14 0,s.k.getD 15 0,s.k.getD 16 0,s.k.getD 17 0,s.k.getD 18 0,s.k.getD 19 0,s.k.getD 20 0,s.k.getD 21 0,s.k.getD 22 0,s.k.getD 23 0,s.k.getD 24 0,s.k.getD 25 0,s.k.getD 26 0,s.k.getD 27 0,s.k.getD 28 0,s.k.getD 29 0,s.k.getD 30 0,s.k.getD 31 0,s.k.getD 32 0,s.k.getD 33 0,s.k.getD 34 0,s.k.getD 35 0,())
def Deb.at(n:Int)(r:Contacts)(i:Nat)(s:Deb):Deb:=if r.get i=s.c.get i then⟨s.c,s.k.set i 0⟩else if s.k.getD i 0+1=n then⟨s.c.set i (r.get i),s.k.set i 0⟩else⟨s.c,s.k.set i (s.k.getD i 0+1)⟩
def Deb.step(n:Int)(s:Deb)(r:Contacts):Deb:=Bo (Deb.at n r) 36 0 s
structure Deb.wf(s:Deb):Prop where
 c:s.c.wf
 len:s.k.length=36
 lo:∀j,j<36→0≤s.k.getD j 0
 hi:∀j,j<36→s.k.getD j 0<1000
def Deb.is(n:Int)(s:Deb):Prop:=1≤n∧n≤16∧∀j,j<36→0≤s.k.getD j 0∧s.k.getD j 0<n
def Wm(h:L.length=36):[L.getD 0 0,L.getD 1 0,L.getD 2 0,L.getD 3 0,L.getD 4 0,L.getD 5 0,L.getD 6 0,L.getD 7 0,L.getD 8 0,L.getD 9 0,L.getD 10 0,L.getD 11 0,L.getD 12 0,L.getD 13 0,L.getD 14 0,L.getD 15 0,L.getD 16 0,L.getD 17 0,L.getD 18 0,L.getD 19 0,L.getD 20 0,L.getD 21 0,L.getD 22 0,L.getD 23 0,L.getD 24 0,L.getD 25 0,L.getD 26 0,L.getD 27 0,L.getD 28 0,L.getD 29 0,L.getD 30 0,L.getD 31 0,L.getD 32 0,L.getD 33 0,L.getD 34 0,L.getD 35 0]=L:=by
 have e:[L.getD 0 0,L.getD 1 0,L.getD 2 0,L.getD 3 0,L.getD 4 0,L.getD 5 0,L.getD 6 0,L.getD 7 0,L.getD 8 0,L.getD 9 0,L.getD 10 0,L.getD 11 0,L.getD 12 0,L.getD 13 0,L.getD 14 0,L.getD 15 0,L.getD 16 0,L.getD 17 0,L.getD 18 0,L.getD 19 0,L.getD 20 0,L.getD 21 0,L.getD 22 0,L.getD 23 0,L.getD 24 0,L.getD 25 0,L.getD 26 0,L.getD 27 0,L.getD 28 0,L.getD 29 0,L.getD 30 0,L.getD 31 0,L.getD 32 0,L.getD 33 0,L.getD 34 0,L.getD 35 0]=(List.range 36).map (λq=>L.getD q 0):=rfl;rw[e];apply List.ext_getElem
 ·simp[h]
 ·intro j h1 h2;simp[h2]
def Acg(h:i<L.length)(q:Nat)(v:Int):(bif Nat.beq i q then v else L.getD q 0)=(L.set i v).getD q 0:=by
 rw[BN];by_cases e:i=q
 ·subst e;simp[h]
 ·simp[e]
def Ata{s:Deb}(h:s.wf)(hs:s.is n)(hi:i<36):(s.at n r i).wf∧(s.at n r i).is n:=by
 have hset:∀(v:Int) (j:Nat),(s.k.set i v).getD j 0=if j=i then v else s.k.getD j 0:=by
  intro v j;rw[← Acg (by rw[h.len];exact hi),BN];by_cases e:i=j
  ·simp[e]
  ·simp[e,e9_ e]
 have hn:=hs.1;have hn2:=hs.2.1;have key:∀v:Int,0≤v→v<n→∀j,j<36→0≤(s.k.set i v).getD j 0∧(s.k.set i v).getD j 0<n:=by
  intro v h1 h2 j hj;rw[hset];by_cases e:j=i
  ·rw[if_pos e];exact⟨h1,h2⟩
  ·rw[if_neg e];exact hs.2.2 j hj
 have fin:∀(c:Contacts) (v:Int),c.wf→0≤v→v<n→Deb.wf ⟨c,s.k.set i v⟩∧Deb.is n ⟨c,s.k.set i v⟩:=by intro c v hc h1 h2;have hk:=key v h1 h2;exact⟨⟨hc,by simp[h.len],λj hj=>(hk j hj).1,λj hj=>by have:=(hk j hj).2;simp only at this⊢;omega⟩,hn,hn2,hk⟩
 have hki:=hs.2.2 i hi;unfold Deb.at;split
 ·exact fin _ _ h.c ω ω
 ·split
  ·exact fin _ _ (Contacts.set_wf h.c _ _) ω ω
  ·exact fin _ _ h.c ω ω
def Ai0{n:Int}{r:Contacts}:∀(m i:Nat) (s:Deb),i+m≤36→s.wf→s.is n→(Bo (Deb.at n r) m i s).wf∧(Bo (Deb.at n r) m i s).is n
 |0,_,_,_,h,hs=>⟨h,hs⟩
 |m+1,i,s,hi,h,hs=>Ai0 m (i+1) (s.at n r i) ω (Ata h hs ω).1 (Ata h hs ω).2
def Bk8{s:Deb}(h:s.wf)(hs:s.is n)(r:Contacts):(s.step n r).wf∧(s.step n r).is n:=Ai0 36 0 s ω h hs
def Akk{s:Deb}(h:s.wf)(hs:s.is n)(hr:r.wf)(b:Deb)(hi:i<36):
  It n (i:Int) s.c.C0 s.c.Up s.c.X3 s.c.T5 s.c.A4 (s.k.getD 0 0) (s.k.getD 1 0) (s.k.getD 2 0) (s.k.getD 3 0) (s.k.getD 4 0) (s.k.getD 5 0) (s.k.getD 6 0) (s.k.getD 7 0) (s.k.getD 8 0) (s.k.getD 9 0) (s.k.getD 10 0) (s.k.getD 11 0) (s.k.getD 12 0) (s.k.getD 13 0) (s.k.getD 14 0) (s.k.getD 15 0) (s.k.getD 16 0) (s.k.getD 17 0) (s.k.getD 18 0) (s.k.getD 19 0) (s.k.getD 20 0) (s.k.getD 21 0) (s.k.getD 22 0) (s.k.getD 23 0) (s.k.getD 24 0) (s.k.getD 25 0) (s.k.getD 26 0) (s.k.getD 27 0) (s.k.getD 28 0) (s.k.getD 29 0) (s.k.getD 30 0) (s.k.getD 31 0) (s.k.getD 32 0) (s.k.getD 33 0) (s.k.getD 34 0) (s.k.getD 35 0) r.C0 r.Up r.X3 r.T5 r.A4 b.c.C0 b.c.Up b.c.X3 b.c.T5 b.c.A4 (b.k.getD 0 0) (b.k.getD 1 0) (b.k.getD 2 0) (b.k.getD 3 0) (b.k.getD 4 0) (b.k.getD 5 0) (b.k.getD 6 0) (b.k.getD 7 0) (b.k.getD 8 0) (b.k.getD 9 0) (b.k.getD 10 0) (b.k.getD 11 0) (b.k.getD 12 0) (b.k.getD 13 0) (b.k.getD 14 0) (b.k.getD 15 0) (b.k.getD 16 0) (b.k.getD 17 0) (b.k.getD 18 0) (b.k.getD 19 0) (b.k.getD 20 0) (b.k.getD 21 0) (b.k.getD 22 0) (b.k.getD 23 0) (b.k.getD 24 0) (b.k.getD 25 0) (b.k.getD 26 0) (b.k.getD 27 0) (b.k.getD 28 0) (b.k.getD 29 0) (b.k.getD 30 0) (b.k.getD 31 0) (b.k.getD 32 0) (b.k.getD 33 0) (b.k.getD 34 0) (b.k.getD 35 0)=
   I (.inl ((n,(),(),(),((i+1:Nat):Int),()),((s.at n r i).tup,r.tup,b.tup,()))):=by
 unfold It;have e0:decide ((i:Int)<36)=A:=by simp;omega
 have ib:H (i:Int) 36=A:=Ac ω ω;have tn:aA (i:Int)=i:=ω;have w:aD.wrap ((i:Int)+1)=((i+1:Nat):Int):=by rw[Aa ω ω];omega
 have hki:=h.lo i hi;have hki':=h.hi i hi;have wk:aD.wrap (s.k.getD i 0+1)=s.k.getD i 0+1:=Aa ω ω;have hl:i<s.k.length:=by rw[h.len];exact hi
 have hl2:∀v:Int,i<(s.k.set i v).length:=λv=>by simp;exact hl
 have hgi:∀v:Int,(s.k.set i v).getD i 0=v:=λv=>by simp[hl]
 rw[e0,d_,TH r hr (i:Int),TH s.c h.c (i:Int)];simp only[a_,ib,d_,tn,Acg hl,w,Wm h.len,wk];unfold Deb.at;by_cases hq:r.get i=s.c.get i
 ·simp only[hq,l_,d_,g2_];rfl
 ·simp only[Ao hq,c_,hq,e4_];have l36:∀v:Int,(s.k.set i v).length=36:=λv=>by simp[h.len]
  try simp only[Wm (l36 _),hgi,Acg (hl2 _),List.set_set]
  by_cases hn:s.k.getD i 0+1=n
  ·have:(s.k.getD i 0+1==n)=A:=by simpa using hn
   simp only[this,d_,g2_,hn,l_];rw[Abq s.c (i:Int) (r.get i)];rfl
  ·simp only[Ao hn,c_,hn,e4_];rfl
noncomputable instance isDeb_ti(n:Int)(s:Deb):Decidable (s.is n):=Classical.propDecidable _
def Deb.rng(n:Int)(s:Deb):Prop:=∀j,j<36→0≤s.k.getD j 0∧s.k.getD j 0<n
noncomputable instance rngDeb_ti(n:Int)(s:Deb):Decidable (s.rng n):=Classical.propDecidable _
def Bba{s:Deb}:s.is n↔1≤n∧n≤16∧s.rng n:=Iff.rfl
def Akl{s:Deb}(h:s.wf)(hs:s.is n)(hr:r.wf):
  Gx ((n,(),(),(),(0:Int),()),(s.tup,r.tup,Deb.no.tup,()))=I (((),(),()),((s.step n r).tup,Deb.no.tup,())):=by
 unfold Gx;refine Ak (AQ 36 (λ(i:Nat) (s:Deb)=>((n,(),(),(),(i:Int),()),(s.tup,r.tup,Deb.no.tup,()))) (Deb.at n r) (λ_ s=>s.wf∧s.is n) (λs=>(((),(),()),(s.tup,Deb.no.tup,()))) (λi s hi hin=>⟨Akk hin.1 hin.2 hr Deb.no hi,Ata hin.1 hin.2 hi⟩) (λs hin=>?_) 36 0 s rfl ⟨h,hs⟩).1 ω;show It n ((36:Nat):Int) s.c.C0 s.c.Up s.c.X3 s.c.T5 s.c.A4 (s.k.getD 0 0) (s.k.getD 1 0) (s.k.getD 2 0) (s.k.getD 3 0) (s.k.getD 4 0) (s.k.getD 5 0) (s.k.getD 6 0) (s.k.getD 7 0) (s.k.getD 8 0) (s.k.getD 9 0) (s.k.getD 10 0) (s.k.getD 11 0) (s.k.getD 12 0) (s.k.getD 13 0) (s.k.getD 14 0) (s.k.getD 15 0) (s.k.getD 16 0) (s.k.getD 17 0) (s.k.getD 18 0) (s.k.getD 19 0) (s.k.getD 20 0) (s.k.getD 21 0) (s.k.getD 22 0) (s.k.getD 23 0) (s.k.getD 24 0) (s.k.getD 25 0) (s.k.getD 26 0) (s.k.getD 27 0) (s.k.getD 28 0) (s.k.getD 29 0) (s.k.getD 30 0) (s.k.getD 31 0) (s.k.getD 32 0) (s.k.getD 33 0) (s.k.getD 34 0) (s.k.getD 35 0) r.C0 r.Up r.X3 r.T5 r.A4 Deb.no.c.C0 Deb.no.c.Up Deb.no.c.X3 Deb.no.c.T5 Deb.no.c.A4 (Deb.no.k.getD 0 0) (Deb.no.k.getD 1 0) (Deb.no.k.getD 2 0) (Deb.no.k.getD 3 0) (Deb.no.k.getD 4 0) (Deb.no.k.getD 5 0) (Deb.no.k.getD 6 0) (Deb.no.k.getD 7 0) (Deb.no.k.getD 8 0) (Deb.no.k.getD 9 0) (Deb.no.k.getD 10 0) (Deb.no.k.getD 11 0) (Deb.no.k.getD 12 0) (Deb.no.k.getD 13 0) (Deb.no.k.getD 14 0) (Deb.no.k.getD 15 0) (Deb.no.k.getD 16 0) (Deb.no.k.getD 17 0) (Deb.no.k.getD 18 0) (Deb.no.k.getD 19 0) (Deb.no.k.getD 20 0) (Deb.no.k.getD 21 0) (Deb.no.k.getD 22 0) (Deb.no.k.getD 23 0) (Deb.no.k.getD 24 0) (Deb.no.k.getD 25 0) (Deb.no.k.getD 26 0) (Deb.no.k.getD 27 0) (Deb.no.k.getD 28 0) (Deb.no.k.getD 29 0) (Deb.no.k.getD 30 0) (Deb.no.k.getD 31 0) (Deb.no.k.getD 32 0) (Deb.no.k.getD 33 0) (Deb.no.k.getD 34 0) (Deb.no.k.getD 35 0)=_;unfold It;have e:decide (((36:Nat):Int)<36)=B:=rfl;rw[e];rfl
def Akj{s:Deb}(hl:s.k.length=36):ES ((n,s.cnt,(0:Int),()),())=I (if s.rng n then .inl ((),())else .inr ((B,()),())):=by
 unfold ES;have key:∀(step:_→_),(∀i:Nat,step ((n,s.cnt,(i:Int),()),())=CV n (s.k.getD 0 0) (s.k.getD 1 0) (s.k.getD 2 0) (s.k.getD 3 0) (s.k.getD 4 0) (s.k.getD 5 0) (s.k.getD 6 0) (s.k.getD 7 0) (s.k.getD 8 0) (s.k.getD 9 0) (s.k.getD 10 0) (s.k.getD 11 0) (s.k.getD 12 0) (s.k.getD 13 0) (s.k.getD 14 0) (s.k.getD 15 0) (s.k.getD 16 0) (s.k.getD 17 0) (s.k.getD 18 0) (s.k.getD 19 0) (s.k.getD 20 0) (s.k.getD 21 0) (s.k.getD 22 0) (s.k.getD 23 0) (s.k.getD 24 0) (s.k.getD 25 0) (s.k.getD 26 0) (s.k.getD 27 0) (s.k.getD 28 0) (s.k.getD 29 0) (s.k.getD 30 0) (s.k.getD 31 0) (s.k.getD 32 0) (s.k.getD 33 0) (s.k.getD 34 0) (s.k.getD 35 0) (i:Int))→∀(m i:Nat),i+m=36→(∀j,j<i→0≤s.k.getD j 0∧s.k.getD j 0<n)→BX step (m+1) ((n,s.cnt,(i:Int),()),())=I (if s.rng n then Sum.inl ((),())else Sum.inr ((B,()),())):=by
  intro step hstep m;induction m with
  |zero=>
   intro i hi hj
   have:i=36:=ω
   subst this;rw[if_pos (show s.rng n from hj)];refine AE ?_;rw[hstep];unfold CV;have e:decide (((36:Nat):Int)<36)=B:=rfl;rw[e];rfl
  |succ m ih=>
   intro i hi hj;have e0:decide ((i:Int)<36)=A:=by simp;omega
   have ib:H (i:Int) 36=A:=Ac ω ω;have tn:aA (i:Int)=i:=ω;have w:aD.wrap ((i:Int)+1)=((i+1:Nat):Int):=by rw[Aa ω ω];omega
   by_cases h1:s.k.getD i 0<0
   ·rw[if_neg (show ¬s.rng n from λhall=>by have:=(hall i ω).1;omega)];refine AE ?_;rw[hstep];unfold CV;have e1:decide (s.k.getD i 0<0)=A:=by simpa using h1
    simp only[e0,ib,tn,Wm hl,e1,d_]
   ·have e1:decide (s.k.getD i 0<0)=B:=by simpa using h1
    by_cases h2:n≤s.k.getD i 0
    ·rw[if_neg (show ¬s.rng n from λhall=>by have:=(hall i ω).2;omega)];refine AE ?_;rw[hstep];unfold CV;have e2:decide (n≤s.k.getD i 0)=A:=by simpa using h2
     simp only[e0,ib,tn,Wm hl,e1,e2,d_,c_]
    ·have e2:decide (n≤s.k.getD i 0)=B:=by simpa using h2
     have st:step ((n,s.cnt,(i:Int),()),())=I (.inl ((n,s.cnt,((i+1:Nat):Int),()),())):=by rw[hstep];unfold CV;simp only[e0,ib,tn,Wm hl,e1,e2,d_,c_,w];rfl
     rw[BO st];exact ih (i+1) ω λj hj'=>if e:j=i then by subst e;omega else hj j ω
 exact Ak (key _ (λ_=>rfl) 36 0 rfl (λj hj=>by omega)) ω
def WB{s:Deb}(hl:s.k.length=36):EC n s.c.C0 s.c.Up s.c.X3 s.c.T5 s.c.A4 (s.k.getD 0 0) (s.k.getD 1 0) (s.k.getD 2 0) (s.k.getD 3 0) (s.k.getD 4 0) (s.k.getD 5 0) (s.k.getD 6 0) (s.k.getD 7 0) (s.k.getD 8 0) (s.k.getD 9 0) (s.k.getD 10 0) (s.k.getD 11 0) (s.k.getD 12 0) (s.k.getD 13 0) (s.k.getD 14 0) (s.k.getD 15 0) (s.k.getD 16 0) (s.k.getD 17 0) (s.k.getD 18 0) (s.k.getD 19 0) (s.k.getD 20 0) (s.k.getD 21 0) (s.k.getD 22 0) (s.k.getD 23 0) (s.k.getD 24 0) (s.k.getD 25 0) (s.k.getD 26 0) (s.k.getD 27 0) (s.k.getD 28 0) (s.k.getD 29 0) (s.k.getD 30 0) (s.k.getD 31 0) (s.k.getD 32 0) (s.k.getD 33 0) (s.k.getD 34 0) (s.k.getD 35 0)=I ((decide (s.is n),()),()):=by
 unfold EC;by_cases h1:n<1
 ·have:¬s.is n:=λh=>by have:=h.1;omega
  simp[h1,this]
 ·have h1':1≤n:=ω;by_cases h2:16<n
  ·have:¬s.is n:=λh=>by have:=h.2.1;omega
   simp[h1,h2,this]
  ·have h2':n≤16:=ω;have hl':=Akj (n:=n) hl;simp only[Deb.cnt]at hl';have e1:decide (n<1)=B:=by simpa using h1
   have e2:decide (16<n)=B:=by simpa using h2
   simp only[e1,e2,c_,hl',a_];by_cases h3:s.rng n
   ·rw[if_pos h3,b_ (Bba.2 ⟨h1',h2',h3⟩)]
   ·rw[if_neg h3,f_ λh=>h3 (Bba.1 h).2.2]
def Aas{s:Deb}(h:s.wf)(hs:s.is n)(hr:r.wf):Nh n s.c.C0 s.c.Up s.c.X3 s.c.T5 s.c.A4 (s.k.getD 0 0) (s.k.getD 1 0) (s.k.getD 2 0) (s.k.getD 3 0) (s.k.getD 4 0) (s.k.getD 5 0) (s.k.getD 6 0) (s.k.getD 7 0) (s.k.getD 8 0) (s.k.getD 9 0) (s.k.getD 10 0) (s.k.getD 11 0) (s.k.getD 12 0) (s.k.getD 13 0) (s.k.getD 14 0) (s.k.getD 15 0) (s.k.getD 16 0) (s.k.getD 17 0) (s.k.getD 18 0) (s.k.getD 19 0) (s.k.getD 20 0) (s.k.getD 21 0) (s.k.getD 22 0) (s.k.getD 23 0) (s.k.getD 24 0) (s.k.getD 25 0) (s.k.getD 26 0) (s.k.getD 27 0) (s.k.getD 28 0) (s.k.getD 29 0) (s.k.getD 30 0) (s.k.getD 31 0) (s.k.getD 32 0) (s.k.getD 33 0) (s.k.getD 34 0) (s.k.getD 35 0) r.C0 r.Up r.X3 r.T5 r.A4=I (((),()),((s.step n r).tup,())):=by have hl:=Akl h hs hr;unfold Nh;show(Gx ((n,(),(),(),(0:Int),()),(s.tup,r.tup,Deb.no.tup,()))).bind _=_;rw[hl];rfl
def Aar{s:Deb}(h:s.k.length=36)(hc:s.c.wf)(hr:r.wf):
  Kc n s.c.C0 s.c.Up s.c.X3 s.c.T5 s.c.A4 (s.k.getD 0 0) (s.k.getD 1 0) (s.k.getD 2 0) (s.k.getD 3 0) (s.k.getD 4 0) (s.k.getD 5 0) (s.k.getD 6 0) (s.k.getD 7 0) (s.k.getD 8 0) (s.k.getD 9 0) (s.k.getD 10 0) (s.k.getD 11 0) (s.k.getD 12 0) (s.k.getD 13 0) (s.k.getD 14 0) (s.k.getD 15 0) (s.k.getD 16 0) (s.k.getD 17 0) (s.k.getD 18 0) (s.k.getD 19 0) (s.k.getD 20 0) (s.k.getD 21 0) (s.k.getD 22 0) (s.k.getD 23 0) (s.k.getD 24 0) (s.k.getD 25 0) (s.k.getD 26 0) (s.k.getD 27 0) (s.k.getD 28 0) (s.k.getD 29 0) (s.k.getD 30 0) (s.k.getD 31 0) (s.k.getD 32 0) (s.k.getD 33 0) (s.k.getD 34 0) (s.k.getD 35 0) r.C0 r.Up r.X3 r.T5 r.A4=if s.is n then I (((),(0:Int),()),((s.step n r).tup,()))else I (((),(1:Int),()),(Deb.no.tup,())):=by
 unfold Kc;rw[WB h];by_cases hs:s.is n
 ·have hw:s.wf:=⟨hc,h,λj hj=>(hs.2.2 j hj).1,λj hj=>by have:=(hs.2.2 j hj).2;have:=hs.2.1;omega⟩
  simp only[hs,decide_true,a_,o_,c_,g2_];rw[Aas hw hs hr];rfl
 ·simp only[hs,decide_false,a_,d4_,d_,e4_];rfl
structure BW(b:Bldg):Prop where
 small:b.small
 code:b.code=0
 room:b.H0≤600
 full:Sat (arF .sub .f64 b.L0 4589168020290535424) λ_=>True
 over:Sat (arF .sub .f64 b.N0 4589168020290535424) λ_=>True
def At8(b:Bldg)(c:aB):Prop:=Va b.F0 c=A∧0≤c.V0∧c.V0<4294967296
structure PM(b:Bldg)(m:Mch):Prop where
 jst:Jst b m.B1 m.E0
 con:m.J1.length=b.B0.length
 conv:∀c∈m.J1,At8 b c
 bel:m.U0.length=b.B0.length
 belv:∀i,i<b.B0.length→BelOK b i (m.U0.getD i GV)
 car:m.B0.length=b.B0.length
 carv:∀c∈m.B0,HQ b c=true
 lod:m.C3.length=b.B0.length
 lodv:∀l∈m.C3,0≤l.V5∧l.V5≤4
 lit:m.Y2.length=b.B0.length
 exl:m.B2.length=m.E0.A0.length
 exv:∀x∈m.B2,0≤x∧x≤1000000
 tick:0≤m.Z3∧m.Z3≤1000000
 flt:0≤m.H3∧m.H3≤1000000
 ref:0≤m.R2∧m.R2≤1000000
structure PR(b:Bldg)(t:Pk):Prop where
 leg:t.legacy.length=b.B0.length
 sho:t.shows.length=b.B0.length
 rst:t.reset.length=b.B0.length
 oc:t.out.B0.length=b.B0.length
structure FixR(t t':Pk):Prop where
 im:t'.m.E0=t.m.E0
 st:t'.m.B1=t.m.B1
 bu:t'.budget=t.budget
 e:t'.e=t.e
 out:t'.out={ t.out with B0:=t'.out.B0 }
structure Fix(t t':Pk):Prop extends FixR t t' where
 con:t'.m.J1=t.m.J1
def Fix.rfl'(t:Pk):Fix t t:=⟨⟨rfl,rfl,rfl,rfl,rfl⟩,rfl⟩
def Fix.trans{a c d:Pk}(h:Fix a c)(k:Fix c d):Fix a d:=⟨⟨k.im.trans h.im,k.st.trans h.st,k.bu.trans h.bu,k.e.trans h.e,by rw[k.out,h.out]⟩,k.con.trans h.con⟩
def Ah9{α:Type}{P:α→Prop}{l:List α}(h:∀x∈l,P x){v:α}(hv:P v)(i:Nat):∀x∈l.set i v,P x:=λx hx=>by
 rcases List.mem_or_eq_of_mem_set hx with hx | rfl
 ·exact h x hx
 ·exact hv
section
variable{b:Bldg}{m:Mch}
def PM.sBel(h:PM b m){v:Belief}(hv:BelOK b i v):PM b { m with U0:=m.U0.set i v }:=
 ⟨h.jst,h.con,h.conv,by show(m.U0.set i v).length=_;rw[y_];exact h.bel,λj hj=>by
  show BelOK b j ((m.U0.set i v).getD j GV);by_cases e:i=j
  ·subst e;rw[Bb _ _ (by rw[h.bel];exact hj)];exact hv
  ·rw[Cb _ _ e];exact h.belv j hj,h.car,h.carv,h.lod,h.lodv,h.lit,h.exl,h.exv,h.tick,h.flt,h.ref⟩
def PM.sCar(h:PM b m)(i:Nat){v:NewCar}(hv:HQ b v=A):PM b { m with B0:=m.B0.set i v }:=⟨h.jst,h.con,h.conv,h.bel,h.belv,by show(m.B0.set i v).length=_;rw[y_];exact h.car,Ah9 h.carv hv i,h.lod,h.lodv,h.lit,h.exl,h.exv,h.tick,h.flt,h.ref⟩
def PM.sCon(h:PM b m)(i:Nat){v:aB}(hv:At8 b v){w:Loaded}(hw:0≤w.V5∧w.V5≤4):PM b { m with J1:=m.J1.set i v,C3:=m.C3.set i w }:=⟨h.jst,by show(m.J1.set i v).length=_;rw[y_];exact h.con,Ah9 h.conv hv i,h.bel,h.belv,h.car,h.carv,by show(m.C3.set i w).length=_;rw[y_];exact h.lod,Ah9 h.lodv hw i,h.lit,h.exl,h.exv,h.tick,h.flt,h.ref⟩
def PM.sTick(h:PM b m){k:Int}(hn:0≤n∧n≤1000000)(hk:0≤k∧k≤1000000):PM b { m with Z3:=n,H3:=k }:=⟨h.jst,h.con,h.conv,h.bel,h.belv,h.car,h.carv,h.lod,h.lodv,h.lit,h.exl,h.exv,hn,hk,h.ref⟩
end
@[reducible] def Byu(z:aB):=(z.V0,z.I2,z.T1,z.U1,z.D1,z.H5,z.I5,z.K5,z.L5,z.M5,z.N5,z.O5,z.Q5,z.R5,z.S5,z.F4,z.G4,z.H4,z.I4,z.J4,z.K4,z.L4,z.M4,z.N4,z.O4,z.P4,z.Q4,z.R4,z.S4,z.T4,z.U4,z.V4,z.X4,z.Y4,z.Z4,z.A5,z.B5,z.C5,z.E5,z.F5,z.G5,())
def YG(z:aB):Deb:=⟨⟨z.V0,z.I2,z.T1,z.U1,z.D1⟩,Ab5 z⟩
def Aub(s:Deb):aB:=Debounced.mk s.c.C0 s.c.Up s.c.X3 s.c.T5 s.c.A4 (s.k.getD 0 0) (s.k.getD 1 0) (s.k.getD 2 0) (s.k.getD 3 0) (s.k.getD 4 0) (s.k.getD 5 0) (s.k.getD 6 0) (s.k.getD 7 0) (s.k.getD 8 0) (s.k.getD 9 0) (s.k.getD 10 0) (s.k.getD 11 0) (s.k.getD 12 0) (s.k.getD 13 0) (s.k.getD 14 0) (s.k.getD 15 0) (s.k.getD 16 0) (s.k.getD 17 0) (s.k.getD 18 0) (s.k.getD 19 0) (s.k.getD 20 0) (s.k.getD 21 0) (s.k.getD 22 0) (s.k.getD 23 0) (s.k.getD 24 0) (s.k.getD 25 0) (s.k.getD 26 0) (s.k.getD 27 0) (s.k.getD 28 0) (s.k.getD 29 0) (s.k.getD 30 0) (s.k.getD 31 0) (s.k.getD 32 0) (s.k.getD 33 0) (s.k.getD 34 0) (s.k.getD 35 0)
def Baq:Va n z=A↔(YG z).is n:=by
 unfold Va Deb.is;rw[e_,e_,t_,t_];refine and_congr_right λ_=>and_congr_right λ_=>⟨λh j hj=>?_,λh=>UQ 36 0 λk _ hk=>?_⟩
 ·have:=TP 36 0 h j (a5_ _) ω
  unfold Amp at this;simp only[e_,t_]at this;exact this
 ·have:=h k ω
  unfold Amp;simp only[e_,t_];exact this
def Agv(hcode:b.code=0)(h:At8 b z){f:Int}(hf:0≤f∧f<4294967296)(u d o c:Bool):Sat (Kc b.F0 z.V0 z.I2 z.T1 z.U1 z.D1 z.H5 z.I5 z.K5 z.L5 z.M5 z.N5 z.O5 z.Q5 z.R5 z.S5 z.F4 z.G4 z.H4 z.I4 z.J4 z.K4 z.L4 z.M4 z.N4 z.O4 z.P4 z.Q4 z.R4 z.S4 z.T4 z.U4 z.V4 z.X4 z.Y4 z.Z4 z.A5 z.B5 z.C5 z.E5 z.F5 z.G5 f u d o c) λy=>∃z',y.2.1=Byu z'∧At8 b z'∧z'=Aub ((YG z).step b.F0 ⟨f,u,d,o,c⟩):=by
 have hi:=Baq.1 h.1;have hd:=Amq hcode;have hw:(YG z).wf:=⟨h.2,rfl,λj hj=>(hi.2.2 j hj).1,λj hj=>by have:=(hi.2.2 j hj).2;omega⟩
 have e:=Aar (n:=b.F0) (s:=YG z) rfl h.2 (r:=⟨f,u,d,o,c⟩) hf;rw[if_pos hi]at e;obtain⟨w1,w2⟩:=Bk8 hw hi ⟨f,u,d,o,c⟩;refine⟨_,e,Aub ((YG z).step b.F0 ⟨f,u,d,o,c⟩),rfl,⟨Baq.2 ?_,w1.c⟩,rfl⟩;generalize(YG z).step b.F0 ⟨f,u,d,o,c⟩=s at w1 w2
 have:YG (Aub s)=s:=by unfold YG;rw[show Ab5 (Aub s)=s.k from Wm w1.len];rfl
 rw[this];exact w2
def Aob(h:0≤n∧n≤1000000):Sat (HY n) λy=>0≤y.1.1∧y.1.1≤1000000:=by
 unfold HY;rw[Aa ω ω];refine C ?_;show 0≤(bif decide (1000000<n+1)then(1000000:Int)else n+1)∧(bif decide (1000000<n+1)then(1000000:Int)else n+1)≤1000000;by_cases g:1000000<n+1
 ·rw[b_ g,d_];omega
 ·rw[f_ g,c_];omega
section
variable{b:Bldg}(hw:BW b){x:Inp}{g:Bool}(hx:g=A→InOK b x)
include hw hx
theorem Btp(hm:PM b t.m)(hr:PR b t):Sat (t.ap Es b x g) λy=>∃t',(y=.inl ((),(t'.tup b x g,()))∨y=.inr ((),(t'.tup b x g,())))∧PM b t'.m∧PR b t'∧FixR t t':=by
 have hcc:=Aj hw.code;unfold Pk.ap Es;refine E (Aob hm.tick) λn1 h1=>J (λ_=>?_) λhg=>?_
 ·exact E (Aob hm.flt) λn2 h2=>C ⟨{ t with m:={ t.m with Z3:=n1.1.1,H3:=n2.1.1 } },.inl rfl,hm.sTick h1 h2,⟨hr.leg,hr.sho,hr.rst,hr.oc⟩,⟨rfl,rfl,rfl,rfl,rfl⟩⟩
 ·rw[g4_]at hg;have hxi:=hx hg;refine E (Q:=λy=>∃t',y=((),(t'.tup b x g,()))∧PM b t'.m∧PR b t'∧FixR t t') ?_ λy hy=>by obtain⟨t',rfl,h⟩:=hy;exact C ⟨t',.inr rfl,h⟩
  unfold DN;refine Sat.loop (λ(k:Nat) z=>∃(i:Nat) (t':Pk),z=(((),x.cars,(x.cars.length:Int),(i:Int),()),(t'.tup b x g,()))∧i+k=x.cars.length∧PM b t'.m∧PR b t'∧FixR t t') (λk z hz=>?_) x.cars.length ⟨0,{ t with m:={ t.m with Z3:=n1.1.1 } },rfl,p_ _,hm.sTick h1 hm.flt,⟨hr.leg,hr.sho,hr.rst,hr.oc⟩,⟨rfl,rfl,rfl,rfl,rfl⟩⟩ (by have:=hxi.len;omega);obtain⟨i,t',rfl,hk,hm,hr,hf⟩:=hz;show Sat (Pk.ap (FL x.cars (x.cars.length:Int) (i:Int)) b x g t') _;unfold Pk.ap FL;refine J (λq=>?_) λ_=>C ⟨t',rfl,hm,hr,hf⟩;have q:(i:Int)<(x.cars.length:Int):=m_ q;have hl:=hxi.len;have hin:i<b.B0.length:=ω;have w:=Dn (n:=i) ω;have i1:H (i:Int) t'.m.J1.length=A:=Ac ω (by rw[hm.con];omega);have i3:H (i:Int) t'.m.C3.length=A:=Ac ω (by rw[hm.lod];omega);have hcf:=hxi.flo _ (BU (CarInput.mk 0 B B B B 0 B 0 B 0 0) (ω:i<x.cars.length));have hcw:=hm.conv _ (BU Fy (show i<t'.m.J1.length by rw[hm.con];exact hin));refine D (Ac ω q) (D i1 (E (Agv hw.code hcw hcf _ _ _ _) λy1 h1=>?_));obtain⟨⟨ya,yb,yc⟩,yd,ye⟩:=y1;obtain⟨z',e1,hz',_⟩:=h1;change yd=_ at e1;subst e1;refine D i1 (D i3 (E (Aqi hw.full hw.over _ _) λy2 h2=>D i3 ?_));refine C ⟨k-1,ω,i+1,{ t' with m:={ t'.m with J1:=t'.m.J1.set i z',C3:=t'.m.C3.set i (Loaded.mk y2.2.1.1) } },by first | (rw[← w];rfl) | rw[← w],ω,hm.sCon i hz' h2,⟨hr.leg,hr.sho,hr.rst,hr.oc⟩,⟨hf.im,hf.st,hf.bu,hf.e,hf.out⟩⟩
end
def Bto(floor:Int):Int:=IntKind.u32.wrap (1*2^min (aA floor) (IntKind.bits .u32))
def Aoi(floor dir:Int):Int×Int:=bif inR 0 31 floor then(bif dir==1 then(Bto floor,0)else bif dir==2 then(0,Bto floor)else(0,0))else(0,0)
def YC(floor dir:Int):Em floor dir=I (((),()),(((Aoi floor dir).1,(Aoi floor dir).2,()),())):=by
 unfold Em Aoi inR;by_cases g:0≤floor
 ·by_cases g':floor<32
  ·rw[b_ g,b_ g',b_ (ω:floor≤31)];simp only[d_,a_,a0_,b_ g];cases dir==1<;>cases dir==2<;>rfl
  ·rw[b_ g,f_ g',f_ (ω:¬floor≤31)];rfl
 ·rw[f_ g];rfl
def orV(a c:Int):Int:=IntKind.u32.wrap (stk a c (BitVec.toNat (BitVec.ofInt (IntKind.bits .u32) a|||BitVec.ofInt (IntKind.bits .u32) c)))
def Apf(a c:Int×Int):Int×Int:=(orV a.1 c.1,orV a.2 c.2)
def Agr(a c:Int×Int):Cp a.1 a.2 c.1 c.2=I (((),()),(((Apf a c).1,(Apf a c).2,()),())):=rfl
def Awk(vs:List View)(car:Int)(e:Entry):Bool:=e.R0==car||(e.R0==-2&&(Ar vs car).B3)
def UG(vs:List View)(car:Int)(e:Entry)(c:Int×Int):Int×Int:=bif Awk vs car e then Apf c (Aoi e.D0 e.I0)else c
def ZE(vs:List View)(car:Int):List Entry→Int×Int→Int×Int
 |[],c=>c
 |e::t,c=>ZE vs car t (UG vs car e c)
def ZF(b:Bldg)(m:Img)(vs:List View)(car:Int):Int×Int:=bif m.ok b&&((vs.length:Int)==(b.B0.length:Int)&&(decide (0≤car)&&decide (car<(b.B0.length:Int))))then ZE vs car m.A0 (0,0)else(0,0)
section
variable{vs:List View}{car:Int}(hc:0≤car∧car<vs.length){m:Img}(hm:m.A0.length≤1000)
include hc hm
theorem SD:∀(k i:Nat) (c:Int×Int),i+k=m.A0.length→
  BX (λx=>letI a:=x.1.2.2.2.2;Gz x.1.1 x.1.2.1 a.1 a.2.1 a.2.2.1 x.2.1.1 x.2.1.2.1 x.2.2.1.1 x.2.2.1.2.1) (k+1) ((vs,car,(),(),m.A0,(m.A0.length:Int),(i:Int),()),(((0:Int),(0:Int),()),(c.1,c.2,()),()))=I (((),(),()),(((0:Int),(0:Int),()),((ZE vs car (m.A0.drop i) c).1,(ZE vs car (m.A0.drop i) c).2,()),()))
 |0,i,c,hi=>by refine AE ?_;show Gz vs car m.A0 (m.A0.length:Int) (i:Int) 0 0 c.1 c.2=_;unfold Gz;rw[show decide ((i:Int)<(m.A0.length:Int))=B by simp;omega,show i=m.A0.length by omega,a7_];rfl
 |k+1,i,c,hi=>by
  have hi':i<m.A0.length:=ω;have w:aD.wrap ((i:Int)+1)=((i+1:Nat):Int):=by rw[Aa ω ω];omega
  rw[BT noE hi'];refine(BO (x':=((vs,car,(),(),m.A0,(m.A0.length:Int),((i+1:Nat):Int),()),(((0:Int),(0:Int),()),((UG vs car (m.A0.getD i noE) c).1,(UG vs car (m.A0.getD i noE) c).2,()),()))) ?_).trans (SD k (i+1) _ ω);show Gz vs car m.A0 (m.A0.length:Int) (i:Int) 0 0 c.1 c.2=_;unfold Gz;rw[show decide ((i:Int)<(m.A0.length:Int))=A by simp;omega,Ac (ω:(0:Int)≤(i:Int)) (ω:(i:Int)<(m.A0.length:Int)),show Entry.mk 0 0 0 0 B=noE from rfl];unfold UG Awk Ar;have hu:=Agr c (Aoi (m.A0.getD i noE).D0 (m.A0.getD i noE).I0);simp only[d_,h_];cases(m.A0.getD i noE).R0==car with
  |true=>simp only[d_,a_,Bool.true_or,YC,hu,w]
  |false=>
   cases(m.A0.getD i noE).R0==-2 with
   |true=>
    simp only[d_,c_,Ac hc.1 hc.2,a_,Bool.false_or,u_];cases(vs.getD car.toNat (View.mk B B B B 0 0 0 0 0 0 0 0)).B3 with
    |true=>simp only[d_,YC,a_,hu,w]
    |false=>simp only[c_,w]
   |false=>simp only[c_,a_,a8_,Bool.or_self,w]
end
section
variable{b:Bldg}(hb:b.small)(vs:List View)(m:Img)(hm:m.A0.length≤1000)(hp:m.G0.length≤maxLen)(car:Int)
include hb hm hp
theorem Ady:Nd b.C0 b.F0 b.H0 b.M0 b.K0 b.L0 b.N0 b.B0 m.G0 m.O0 m.J0 m.A0 vs car=I (((),()),(((ZF b m vs car).1,(ZF b m vs car).2,()),())):=by
 have hmx:1000≤maxLen:=by decide
 unfold Nd ZF;rw[Db hb m hp ω];simp only[a_,bne];cases hok:m.ok b with
 |false=>rfl
 |true=>
  cases hq:(vs.length:Int)==(b.B0.length:Int)with
  |false=>rfl
  |true=>
   have hq':(vs.length:Int)=(b.B0.length:Int):=by simpa using hq
   by_cases g:0≤car
   ·rw[b_ g,f_ (ω:¬car<0)];by_cases g':car<(b.B0.length:Int)
    ·rw[b_ g',f_ (ω:¬(b.B0.length:Int)≤car)];have hlp:=Ak (SD (vs:=vs) (car:=car) ⟨g,ω⟩ hm m.A0.length 0 (0,0) ω) ω;have hlp':KY ((vs,car,(),(),m.A0,(m.A0.length:Int),(0:Int),()),(((0:Int),(0:Int),()),((0:Int),(0:Int),()),()))=_:=hlp;simp only[o_,c_,hlp',a_,P_,a0_,d_]
    ·rw[f_ g',b_ (ω:(b.B0.length:Int)≤car)];rfl
   ·rw[f_ g,b_ (ω:car<0)];rfl
end
def DS(p:Int):Bool:=p==0||p==1
def ZX(p:Int):Bool:=p==3||p==4
def XU(p:Int):FE p=I ((DS p,()),()):=by unfold FE DS;cases p==0<;>rfl
def Aip(p:Int):Ff p=I ((ZX p,()),()):=by unfold Ff ZX;cases p==3<;>rfl
def Af2(vs:List View)(car:Int):∀(l:List Entry) {c:Int×Int},EW c→EW (ZE vs car l c)
 |[],_,h=>h
 |e::t,c,h=>by
  refine Af2 vs car t ?_;unfold UG;cases Awk vs car e with
  |true=>exact⟨HV _,HV _⟩
  |false=>exact h
def Awl(b:Bldg)(m:Img)(vs:List View)(car:Int):EW (ZF b m vs car):=by
 unfold ZF;cases m.ok b&&((vs.length:Int)==(b.B0.length:Int)&&(decide (0≤car)&&decide (car<(b.B0.length:Int))))with
 |true=>exact Af2 vs car _ GO
 |false=>exact GO
def Pk.sBel(t:Pk)(i:Nat)(v:Belief):Pk:={ t with m:={ t.m with U0:=t.m.U0.set i v } }
def Pk.sCar(t:Pk)(i:Nat)(v:NewCar):Pk:={ t with m:={ t.m with B0:=t.m.B0.set i v } }
def Pk.sOut(t:Pk)(i:Nat)(v:CarOutput):Pk:={ t with out:={ t.out with B0:=t.out.B0.set i v } }
def Pk.sLeg(t:Pk)(i:Nat):Pk:={ t with legacy:=t.legacy.set i A }
def Pk.sSho(t:Pk)(i:Nat)(c:Calls):Pk:={ t with shows:=t.shows.set i c }
section
variable{b:Bldg}{t:Pk}
def PR.sBel(h:PR b t)(i:Nat)(v:Belief):PR b (t.sBel i v):=⟨h.leg,h.sho,h.rst,h.oc⟩
def PR.sCar(h:PR b t)(i:Nat)(v:NewCar):PR b (t.sCar i v):=⟨h.leg,h.sho,h.rst,h.oc⟩
def PR.sOut(h:PR b t)(i:Nat)(v:CarOutput):PR b (t.sOut i v):=⟨h.leg,h.sho,h.rst,by show(t.out.B0.set i v).length=_;rw[y_];exact h.oc⟩
def PR.sLeg(h:PR b t)(i:Nat):PR b (t.sLeg i):=⟨by show(t.legacy.set i A).length=_;rw[y_];exact h.leg,h.sho,h.rst,h.oc⟩
def PR.sSho(h:PR b t)(i:Nat)(c:Calls):PR b (t.sSho i c):=⟨h.leg,by show(t.shows.set i c).length=_;rw[y_];exact h.sho,h.rst,h.oc⟩
end
def DC(t:Pk)(i:Nat):Prop:=(t.m.U0.getD i GV).F3=2→(t.m.J1.getD i Fy).D1=A
section
variable{b:Bldg}(hw:BW b){x:Inp}{g:Bool}(hx:g=A→InOK b x)
include hw
theorem Bch(hm:ImgOK b m):Sat (JQ m.G0 m.O0 m.J0 m.A0) λy=>True:=by
 have hcc:=Aj hw.code;have hp:=hm.lp;have hf:=hm.lf;have hl:=hm.ll;unfold JQ;refine D (by simp only[e_,t_];omega) (E (Q:=λ_=>True) ?_ λ_ _=>C trivial);have h0:(List.replicate (aA (m.G0.length:Int)) (View.mk B B B B 0 0 0 0 0 0 0 0)).length=b.B0.length:=by rw[T_];omega
 generalize List.replicate (aA (m.G0.length:Int)) (View.mk B B B B 0 0 0 0 0 0 0 0)=L at h0;unfold IC;refine Sat.loop (λ(k:Nat) z=>∃(i:Nat) (l:List View),z=(((),l,(L.length:Int),(i:Int),()),((m.G0,m.O0,m.J0,m.A0,()),()))∧l.length=b.B0.length∧i+k=L.length) (λk z hz=>?_) L.length ⟨0,L,rfl,h0,p_ _⟩ ω;obtain⟨i,l,rfl,hll,hk⟩:=hz;show Sat (Ma l (L.length:Int) (i:Int) m.G0 m.O0 m.J0 m.A0) _;unfold Ma;refine J (λq=>?_) λ_=>C trivial;have q:=m_ q;have w:=Dn (n:=i) ω;refine aC (Al3 hm (ω:i<b.B0.length)) (D (Ac ω ω) ?_);exact C ⟨k-1,ω,i+1,_,by first | (rw[← w];rfl) | rw[← w],by rw[y_];exact hll,ω⟩
theorem Anl(hm:ImgOK b m)(car:Int):Sat (HX b.C0 b.F0 b.H0 b.M0 b.K0 b.L0 b.N0 b.B0 m.G0 m.O0 m.J0 m.A0 car) λy=>EW (y.2.1.1,y.2.1.2.1):=by
 have hcc:=Aj hw.code;have he:=DQ hw.small hm;have hp:=hm.lp;have hmx:1000≤maxLen:=by decide
 unfold HX;exact E (Bch hw hm) λy1 _=>aC (Ady hw.small y1.1.1 m ω ω car) (C (Awl b m y1.1.1 car))
theorem Bbx(hm:PM b t.m)(hr:PR b t)(hi:i<b.B0.length):Sat (t.ap (Dv (i:Int)) b x g) λy=>∃t',(y=.inl ((),(t'.tup b x g,()))∨y=.inr ((),(t'.tup b x g,())))∧PM b t'.m∧PR b t'∧Fix t t'∧(∀j,j≠i→t'.m.U0.getD j GV=t.m.U0.getD j GV)∧(g=A→DC t' i):=by
 unfold Pk.ap Dv;have i1:H (i:Int) t.legacy.length=A:=Ac ω (by rw[hr.leg];omega);have i2:H (i:Int) t.m.U0.length=A:=Ac ω (by rw[hm.bel];omega);have i3:H (i:Int) t.m.J1.length=A:=Ac ω (by rw[hm.con];omega);have i4:H (i:Int) t.shows.length=A:=Ac ω (by rw[hr.sho];omega);have hb:=hm.belv i hi;have hbl:i<t.m.U0.length:=by rw[hm.bel];exact hi
 refine D i1 (J (λhg=>D i2 ?_) λ_=>D i3 ?_)
 ·refine E (Agn hw.small hw.code hi hb) λy1 h1=>D i2 ?_;obtain⟨ya,yb,yc⟩:=y1;obtain⟨v,e,hv⟩:=h1;change yb=_ at e;subst e;exact C ⟨(t.sBel i v).sLeg i,.inl rfl,hm.sBel hv,(hr.sBel i v).sLeg i,⟨⟨rfl,rfl,rfl,rfl,rfl⟩,rfl⟩,λj hj=>Cb _ _ (e9_ hj),λh=>by rw[h]at hg;cases hg⟩
 ·have hcw:=hm.conv _ (BU Fy (show i<t.m.J1.length by rw[hm.con];exact hi));refine E (YT b.C0 hcw.2 _ _ _ _) λy2 hy2=>E (NL ..) λy3 _=>D i4 (D i2 ?_);refine E (Abx hw.small hw.code hi hb _ _ _) λy4 h4=>D i2 ?_;obtain⟨ya,yb,yc⟩:=y4;obtain⟨v,e,hv,hvd⟩:=h4;change yb=_ at e;subst e;refine C ⟨((t.sBel i v).sLeg i).sSho i (Calls.mk y3.2.1.1 y3.2.1.2.1),.inr rfl,hm.sBel hv,((hr.sBel i v).sLeg i).sSho i _,⟨⟨rfl,rfl,rfl,rfl,rfl⟩,rfl⟩,λj hj=>Cb _ _ (e9_ hj),λ_ h=>hy2 (hvd ?_)⟩;have e:(t.m.U0.set i v).getD i GV=v:=Bb _ _ hbl;rw[← e];exact h
include hx
theorem Bj9(hm:PM b t.m)(hr:PR b t)(hi:i<b.B0.length)(p:Int):Sat (t.ap (DW (i:Int) p) b x g) λy=>∃t',(y=.inl ((),(t'.tup b x g,()))∨y=.inr ((),(t'.tup b x g,())))∧PM b t'.m∧PR b t'∧Fix t t'∧t'.m.U0=t.m.U0:=by
 unfold Pk.ap DW;have i2:H (i:Int) t.m.B0.length=A:=Ac ω (by rw[hm.car];omega);have i4:H (i:Int) t.out.B0.length=A:=Ac ω (by rw[hr.oc];omega);refine J (λ_=>D i2 ?_) λhg=>?_
 ·refine E (Ahp hw.small hw.code (i:Int) (t.m.B0.getD i Bw)) λy1 h1=>D i2 (D i4 ?_);obtain⟨ya,yb,yc⟩:=y1;obtain⟨v,e,hv⟩:=h1;change yb=_ at e;subst e;exact C ⟨(t.sCar i v).sOut i _,.inl rfl,hm.sCar i hv,(hr.sCar i v).sOut i _,⟨⟨rfl,rfl,rfl,rfl,rfl⟩,rfl⟩,rfl⟩
 ·rw[g4_]at hg;have hl:=(hx hg).len;have i3:H (i:Int) x.cars.length=A:=Ac ω ω;refine E (Q:=λy=>∃h0 h1:Int,y=(((),(i:Int),(),()),((h0,h1,()),t.tup b x g,()))) (J (λ_=>E (Anl hw hm.jst.img (i:Int)) λy2 _=>C ⟨_,_,rfl⟩) λ_=>C ⟨_,_,rfl⟩) λy hy=>?_;obtain⟨h0,h1,rfl⟩:=hy;refine D i3 (D i2 (E (Aky hw.small hw.code (i:Int) (t.m.B0.getD i Bw) _ _ _ _ _ _ _) λy4 h4=>D i2 (D i4 ?_)));obtain⟨ya,yb,yc⟩:=y4;obtain⟨v,e,hv⟩:=h4;change yb=_ at e;subst e;exact C ⟨(t.sCar i v).sOut i _,.inr rfl,hm.sCar i hv,(hr.sCar i v).sOut i _,⟨⟨rfl,rfl,rfl,rfl,rfl⟩,rfl⟩,rfl⟩
def Tf(b:Bldg)(r:N):Prop:=∃i:Nat,i<b.B0.length∧r=⟨5,0,0,(i:Int),1⟩
theorem Bam(hm:PM b t.m)(hr:PR b t):Sat (CL (((),([]:List N),t.m.E0.G0,(t.m.E0.G0.length:Int),(0:Int),()),(t.tup b x g,()))) λy=>∃(t':Pk) (l:List N),y=(((),l,()),(t'.tup b x g,()))∧PM b t'.m∧PR b t'∧Fix t t'∧l.length≤8∧(∀r∈l,Tf b r)∧(g=A→∀j,j<b.B0.length→DS (phA t.m.E0 j)=A→DC t' j):=by
 have hcc:=Aj hw.code;have hp:=hm.jst.img.lp;unfold CL;refine Sat.loop (λ(k:Nat) z=>∃(i:Nat) (t':Pk) (l:List N),z=(((),l,t.m.E0.G0,(t.m.E0.G0.length:Int),(i:Int),()),(t'.tup b x g,()))∧i+k=b.B0.length∧PM b t'.m∧PR b t'∧Fix t t'∧l.length≤i∧(∀r∈l,Tf b r)∧(g=A→∀j,j<i→DS (phA t.m.E0 j)=A→DC t' j)) (λk z hz=>?_) b.B0.length ⟨0,t,[],rfl,p_ _,hm,hr,.rfl' t,A_ 0,(λr h=>by cases h),λ_ j hj=>absurd hj (e3_ j)⟩ ω;obtain⟨i,t',l,rfl,hk,hm',hr',hf,hl,hv,hdc⟩:=hz;show Sat (Pk.ap (FK l t.m.E0.G0 (t.m.E0.G0.length:Int) (i:Int)) b x g t') _;unfold Pk.ap FK;refine J (λq=>?_) λq=>C ⟨t',l,rfl,hm',hr',hf,ω,hv,λhg j hj=>hdc hg j (by have:=D_ q;omega)⟩;have q:(i:Int)<(t.m.E0.G0.length:Int):=m_ q;have hi:i<b.B0.length:=ω;have w:=Dn (n:=i) ω;refine D (Ac ω q) ?_;refine E (Q:=λy=>∃(u:Pk) (c:Bool),y=(((),l,(i:Int),c,t.m.E0.G0,(t.m.E0.G0.length:Int),(i:Int),()),(u.tup b x g,()))∧PM b u.m∧PR b u∧Fix t u∧(g=A→∀j,j<i+1→DS (phA t.m.E0 j)=A→DC u j)) ?_ λy9 h9=>?_
 ·have nw:∀{u:Pk},DS (phA t.m.E0 i)=B→u.m.U0=t'.m.U0→Fix t' u→g=A→∀j,j<i+1→DS (phA t.m.E0 j)=A→DC u j:=λ{u} h e f hg j hj hw'=>by
   have hne:j≠i:=λe=>by rw[e,h]at hw';cases hw'
   unfold DC;rw[e,f.con];exact hdc hg j ω hw'
  refine aC (XU _) (J (λ_=>?_) λhwi=>aC (Aip _) (J (λ_=>?_) λ_=>C ⟨t',B,rfl,hm',hr',hf,nw hwi rfl (.rfl' t')⟩))
  ·refine E (Q:=λy=>∃u:Pk,y=(((),l,(i:Int),t.m.E0.G0,(t.m.E0.G0.length:Int),(i:Int),()),(u.tup b x g,()))∧PM b u.m∧PR b u∧Fix t u∧(g=A→∀j,j<i+1→DS (phA t.m.E0 j)=A→DC u j)) ?_ λy4 h4=>?_
   ·refine E (Bbx hw (x:=x) (g:=g) hm' hr' hi) λy2 h2=>?_;obtain⟨u,e,h1,h2,h3,h4,h5⟩:=h2;have hd:g=A→∀j,j<i+1→DS (phA t.m.E0 j)=A→DC u j:=λhg j hj hw'=>by
     by_cases e:j=i
     ·rw[e];exact h5 hg
     ·unfold DC;rw[h4 j e,h3.con];exact hdc hg j ω hw'
    rcases e with e | e
    ·subst e;exact C ⟨u,rfl,h1,h2,hf.trans h3,hd⟩
    ·subst e;exact C ⟨u,rfl,h1,h2,hf.trans h3,hd⟩
   ·obtain⟨u,rfl,h1,h2,h3⟩:=h4;exact D (Ac (ω:(0:Int)≤(i:Int)) (by show(i:Int)<(u.m.U0.length:Int);rw[h1.bel];omega)) (C ⟨u,_,rfl,h1,h2,h3⟩)
  ·refine E (Q:=λy=>∃u:Pk,y=(((),l,(i:Int),t.m.E0.G0,(t.m.E0.G0.length:Int),(i:Int),()),(u.tup b x g,()))∧PM b u.m∧PR b u∧Fix t u∧(g=A→∀j,j<i+1→DS (phA t.m.E0 j)=A→DC u j)) ?_ λy4 h4=>?_
   ·refine E (Bj9 hw hx hm' hr' hi _) λy2 h2=>?_;obtain⟨u,e | e,h1,h2,h3,h4⟩:=h2
    ·subst e;exact C ⟨u,rfl,h1,h2,hf.trans h3,nw hwi h4 h3⟩
    ·subst e;exact C ⟨u,rfl,h1,h2,hf.trans h3,nw hwi h4 h3⟩
   ·obtain⟨u,rfl,h1,h2,h3⟩:=h4;exact D (Ac (ω:(0:Int)≤(i:Int)) (by show(i:Int)<(u.m.B0.length:Int);rw[h1.car];omega)) (C ⟨u,_,rfl,h1,h2,h3⟩)
 ·obtain⟨u,c,rfl,hm2,hr2,hf2,hd2⟩:=h9;refine E (Q:=λy=>∃c:Bool,y=(((),l,(i:Int),t.m.E0.G0,(t.m.E0.G0.length:Int),(i:Int),c,()),(u.tup b x g,()))) (J (λ_=>D (Ac (ω:(0:Int)≤(i:Int)) (by show(i:Int)<(u.m.E0.O0.length:Int);rw[hm2.jst.img.lf];omega)) (C ⟨_,rfl⟩)) λ_=>C ⟨_,rfl⟩) λy10 h10=>?_;obtain⟨c',rfl⟩:=h10;refine J (λ_=>D (Az (ω:l.length+1≤_)) ?_) λ_=>C ⟨k-1,ω,i+1,u,l,by first | (rw[← w];rfl) | rw[← w],ω,hm2,hr2,hf2,ω,hv,hd2⟩;refine C ⟨k-1,ω,i+1,u,l++[Record.mk 5 0 0 (i:Int) 1],by first | (rw[← w];rfl) | rw[← w],ω,hm2,hr2,hf2,by rw[i_];show l.length+1≤_;omega,(λr h=>?_),hd2⟩;rcases n_.1 h with h | h
  ·exact hv r h
  ·exact⟨i,hi,E_.1 h⟩
end
def K3(l:List N):Prop:=∀r∈l,r.Q0=4∨r.Q0=5∨r.Q0=6
def As9{r:N}(h:r.Q0=4∨r.Q0=5∨r.Q0=6):(Am m r).A0=m.A0:=by unfold Am;rcases h with h | h | h<;>rw[h]<;>rfl
def NR:∀{l:List N}(m:Img),K3 l→(Ai m l).A0=m.A0
 |[],_,_=>rfl
 |r::l,m,h=>(NR (Am m r) λx hx=>h x (r_ _ hx)).trans (As9 (h r (q_ ..)))
def K3.good(h:K3 l)(m:Img)(hv:∀r∈l,Au b r=A):goodL b m l:=Xr m λr hr=>⟨hv r hr,by have:=h r hr;omega⟩
structure Al(b:Bldg)(t t':Pk)(l:List Record):Prop where
 e:t'.e=0
 m:PM b t'.m
 r:PR b t'
 im:t'.m.E0=Ai t.m.E0 l
 b0:0≤t'.budget
 b1:t'.budget≤t.budget
 b2:t.budget-600*(l.length:Int)≤t'.budget
 con:t'.m.J1=t.m.J1
structure De(b:Bldg)(t t':Pk)(l:List Record):Prop where
 e:t'.e=8
 lo:t.budget<600*(l.length:Int)
 ok:t'.m.B1.ok b.H0
 rp:∃k,k<l.length∧CB b t'.m.B1=Ai t.m.E0 (l.take k)
def Ao3(hw:BW b)(n:Nat):b.H0*(n:Int)≤600*(n:Int):=Int.mul_le_mul_of_nonneg_right hw.room ω
def PM.wr{m:Mch}(h:PM b m){im:Img}{s:Sto}(hj:Jst b s im)(he:im.A0=m.E0.A0):PM b { m with E0:=im,B1:=s }:=⟨hj,h.con,h.conv,h.bel,h.belv,h.car,h.carv,h.lod,h.lodv,h.lit,by show m.B2.length=im.A0.length;rw[he];exact h.exl,h.exv,h.tick,h.flt,h.ref⟩
def Wr.fin(hw:BW b){t':Pk}(h:Wr b t l t')(hm:PM b t.m)(hr:PR b t)(hk:K3 l):(Al b t t' l∨De b t t' l)∧t'.out=t.out:=by
 obtain⟨im,s,bu,e,rfl,h⟩:=h
 have:=Ao3 hw l.length
 refine⟨?_,rfl⟩;rcases h with⟨rfl,rfl,h1,h2,h3,h4,_⟩ | ⟨rfl,h1,h2,h3⟩
 ·exact .inl ⟨rfl,hm.wr h1 (NR _ hk),⟨hr.leg,hr.sho,hr.rst,hr.oc⟩,rfl,h3,h4,(by show t.budget-_≤bu;omega),rfl⟩
 ·exact .inr ⟨rfl,ω,h2,h3⟩
def Bud(t:Pk):Prop:=t.e=0∧0≤t.budget∧t.budget<9223372036854775808
def Al.bud{t':Pk}(h:Al b t t' l)(hb:Bud t):Bud t':=⟨h.e,h.b0,by have:=h.b1;have:=hb.2.2;omega⟩
def Al.app{u v:Pk}{k:List N}(h:Al b t u l)(h2:Al b u v k):Al b t v (l++k):=⟨h2.e,h2.m,h2.r,by rw[En,← h.im];exact h2.im,h2.b0,by have:=h2.b1;have:=h.b1;omega,(by have:=h2.b2;have:=h.b2;rw[i_];omega),h2.con.trans h.con⟩
def De.mono{u:Pk}(h:De b t u l)(k:List N):De b t u (l++k):=by obtain⟨i,h1,h2⟩:=h.rp;exact⟨h.e,by have:=h.lo;rw[i_];omega,h.ok,i,by rw[i_];omega,by rw[List.take_append_of_le_length ω];exact h2⟩
def Al.de{u v:Pk}{k:List N}(h:Al b t u l)(h2:De b u v k):De b t v (l++k):=by obtain⟨i,h3,h4⟩:=h2.rp;refine⟨h2.e,by have:=h2.lo;have:=h.b2;rw[i_];omega,h2.ok,l.length+i,by rw[i_];omega,?_⟩;rw[h4,h.im,List.take_append,b1_ (ω:l.length≤l.length+i),b5_,En]
def Bki(hcode:b.code=0)(h:∀r∈l,Tf b r):K3 l∧∀r∈l,Au b r=A:=⟨λr hr=>by obtain⟨i,_,rfl⟩:=h r hr;exact .inr (.inl rfl),λr hr=>by obtain⟨i,hi,rfl⟩:=h r hr;exact Akc hcode ⟨ω,ω⟩ (.inr ⟨.inl rfl,τ⟩)⟩
def UY(t:Pk)(x:Inp)(i:Nat):Prop:=(DS (phA t.m.E0 i)=A∧(t.m.U0.getD i GV).F3=2)∨(ZX (phA t.m.E0 i)=A∧(x.cars.getD i OW).Y1=A∧(x.cars.getD i OW).L1=2)
section
variable{b:Bldg}(hw:BW b){x:Inp}{g:Bool}(hx:g=A→InOK b x)
include hw hx
theorem Bol(hm:PM b t.m)(hr:PR b t)(hb:Bud t):Sat (t.ap Er b x g) λy=>∃(t':Pk) (l:List N),y=((),(t'.tup b x g,()))∧(∀r∈l,Tf b r)∧l.length≤8∧(Al b t t' l∨De b t t' l)∧t'.out={ t.out with B0:=t'.out.B0 }∧(g=A→∀j,j<b.B0.length→DS (phA t.m.E0 j)=A→DC t' j):=by
 unfold Pk.ap Er;refine E (Bam hw hx hm hr) λy1 h1=>?_;obtain⟨u,l,rfl,hm1,hr1,hf,hl,hv,hdc⟩:=h1;obtain⟨k3,v3⟩:=Bki hw.code hv;have hb1:Bud u:=⟨hf.e.trans hb.1,by rw[hf.bu];exact hb.2⟩
 refine E (Q:=λy=>∃t',y=((),(t'.tup b x g,()))∧Wr b u l t') ?_ λy hy=>?_
 ·refine E (Aaq hw.small (x:=x) (g:=g) hm1.jst hb1.2 hb1.1 (k3.good _ v3) (ω:l.length≤100000)) λy2 h2=>?_;obtain⟨t',e | e,h⟩:=h2
  ·subst e;exact C ⟨t',rfl,h⟩
  ·subst e;exact C ⟨t',rfl,h⟩
 obtain⟨t',rfl,h⟩:=hy;obtain⟨h1,h2⟩:=h.fin hw hm1 hr1 k3;refine C ⟨t',l,rfl,hv,hl,?_,by rw[h2,hf.out],?_⟩
 rotate_left
 ·obtain⟨_,_,_,_,rfl,_⟩:=h;exact hdc
 rcases h1 with h1 | h1
 ·exact .inl ⟨h1.e,h1.m,h1.r,by rw[h1.im,hf.im],h1.b0,by rw[← hf.bu];exact h1.b1,by rw[← hf.bu];exact h1.b2,h1.con.trans hf.con⟩
 ·exact .inr ⟨h1.e,by rw[← hf.bu];exact h1.lo,h1.ok,by rw[← hf.im];exact h1.rp⟩
omit hx in
theorem Bal(hm:PM b t.m)(hxl:x.cars.length=b.B0.length):Sat (BL (t.ap machine_ticker.mk b x g)) λy=>∃c:List Bool,y=((c,()),())∧c.length=b.B0.length∧∀j,j<b.B0.length→c.getD j B=A→UY t x j:=by
 have hcc:=Aj hw.code;have hp:=hm.jst.img.lp;unfold BL;refine D (by show((decide ((0:Int)≤(b.B0.length:Int))&&decide ((b.B0.length:Int)≤(b.B0.length:Int)))&&decide ((b.B0.length:Int)≤2147483648))=A;simp only[e_,t_];omega) (E (Q:=λy=>∃c:List Bool,y=((c,()),())∧c.length=b.B0.length∧∀j,j<b.B0.length→c.getD j B=A→UY t x j) ?_ λy h=>by obtain⟨c,rfl,h⟩:=h;exact C ⟨c,rfl,h⟩);generalize hT:t.ap machine_ticker.mk b x g=T;have eb:T.m_Beliefs=t.m.U0:=by rw[← hT];rfl
 have ec:T.m_Cars=t.m.B0:=by rw[← hT];rfl
 have ex:T.x_Cars=x.cars:=by rw[← hT];rfl
 have ep:T.m_Image_Phases=t.m.E0.G0:=by rw[← hT];rfl
 have e1:T.b_Floors=b.C0:=by rw[← hT];rfl
 have e2:T.b_Debounce=b.F0:=by rw[← hT];rfl
 have e3:T.b_Room=b.H0:=by rw[← hT];rfl
 have e4:T.b_Park=b.M0:=by rw[← hT];rfl
 have e5:T.b_Empty=b.K0:=by rw[← hT];rfl
 have e6:T.b_Full=b.L0:=by rw[← hT];rfl
 have e7:T.b_Over=b.N0:=by rw[← hT];rfl
 have e8:T.b_Cars=b.B0:=by rw[← hT];rfl
 unfold DM;refine Sat.loop (λ(k:Nat) z=>∃(i:Nat) (c:List Bool),z=((T,c,T.m_Image_Phases,(T.m_Image_Phases.length:Int),(i:Int),()),())∧i+k=b.B0.length∧c.length=b.B0.length∧∀j,j<i→c.getD j B=A→UY t x j) (λk z hz=>?_) b.B0.length ⟨0,_,rfl,p_ _,by rw[T_,e8];omega,λj hj=>absurd hj (e3_ j)⟩ ω;obtain⟨i,c,rfl,hk,hc,hcj⟩:=hz;show Sat (FJ T c T.m_Image_Phases (T.m_Image_Phases.length:Int) (i:Int)) _;unfold FJ;rw[eb,ec,ex,ep,e1,e2,e3,e4,e5,e6,e7,e8];refine J (λq=>?_) λq=>C ⟨c,rfl,hc,λj hj=>hcj j (by have:=D_ q;omega)⟩;have q:(i:Int)<(t.m.E0.G0.length:Int):=m_ q;have hi:i<b.B0.length:=ω;have w:=Dn (n:=i) ω;have i2:H (i:Int) t.m.U0.length=A:=Ac ω (by rw[hm.bel];omega);have i3:H (i:Int) t.m.B0.length=A:=Ac ω (by rw[hm.car];omega);have i4:H (i:Int) c.length=A:=Ac ω ω;have i5:H (i:Int) x.cars.length=A:=Ac ω ω;refine D (Ac ω q) ?_;have done:∀v:Bool,(v=A→UY t x i)→(c.set i v).length=b.B0.length∧∀j,j<i+1→(c.set i v).getD j B=A→UY t x j:=λv hv=>⟨by rw[y_];exact hc,λj hj h=>by
  by_cases e:i=j
  ·subst e;rw[Bb _ _ ω]at h;exact hv h
  ·rw[Cb _ _ e]at h;exact hcj j ω h⟩
 have no:∀{p:Prop},B=A→p:=λq=>by cases q
 refine E (Q:=λy=>∃v:Bool,y=((T,c.set i v,t.m.E0.G0,(t.m.E0.G0.length:Int),(i:Int),()),())∧(v=A→UY t x i)) ?_ λy hy=>?_
 ·have still:Sat ((Ff (t.m.E0.G0.getD (aA (i:Int)) 0)).bind λy3=>bif y3.1.1 then(bif H (i:Int) t.m.B0.length then(let z2:=t.m.B0.getD (aA (i:Int)) Bw
   bif H (i:Int) x.cars.length then(let z3:=x.cars.getD (aA (i:Int)) OW
   (Ki b.C0 b.F0 b.H0 b.M0 b.K0 b.L0 b.N0 b.B0 z2.V1 z2.F1 z2.Y0 z2.N1 z2.H1 z2.K1 z2.E1 z2.T0 z2.X0 z2.S0 z2.E2 z2.A3 z2.O3 z2.E3 z3.M1 z3.Y1 z3.L1 z3.H2).bind λy4=>bif H (i:Int) c.length then I ((T,c.set (aA (i:Int)) y4.1.1,t.m.E0.G0,(t.m.E0.G0.length:Int),(i:Int),()),())else none)else none)else none)else(bif H (i:Int) c.length then I ((T,c.set (aA (i:Int)) B,t.m.E0.G0,(t.m.E0.G0.length:Int),(i:Int),()),())else none)) λy=>∃v:Bool,y=((T,c.set i v,t.m.E0.G0,(t.m.E0.G0.length:Int),(i:Int),()),())∧(v=A→UY t x i):=
   aC (Aip _) (J (λhd=>D i3 (D i5 (E (Ahr hw.small hw.code (t.m.B0.getD i Bw) _ _ _ _) λy4 h4=>D i4 (C ⟨y4.1.1,rfl,λh=>.inr ⟨hd,h4 h⟩⟩)))) λ_=>D i4 (C ⟨B,rfl,no⟩))
  refine aC (XU _) (J (λhwi=>D i2 ?_) λ_=>still);refine E (Ago hw.small hw.code hi (hm.belv i hi)) λy2 h2=>J (λq=>D i4 (C ⟨A,rfl,λ_=>.inl ⟨hwi,h2 q⟩⟩)) λ_=>still
 obtain⟨v,rfl,hv⟩:=hy;obtain⟨d1,d2⟩:=done v hv;rw[← ep];exact C ⟨k-1,ω,i+1,c.set i v,by first | (rw[← w];rfl) | rw[← w],ω,d1,d2⟩
end
end Go.Ovl
