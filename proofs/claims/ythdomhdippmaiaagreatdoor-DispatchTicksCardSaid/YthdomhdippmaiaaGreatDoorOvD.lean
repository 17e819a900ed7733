/- How far a car goes (layer 21): the highest and the lowest of some floors. -/
import Derived.Test.YthdomhdippmaiaaGreatDoorOvC
import Derived.Test.YthdomhdippmaiaaGreatDoorOvA
namespace Go.Ovl
open Go Go.Ab
set_option maxRecDepth 100000
def nfu' (p:Bool) (i:Int) (x:Int×Int):Int×Int:=bif p then (bif decide (x.1 < i) then i else x.1,bif decide (i < x.2) then i else x.2) else x
def hlF (p:Nat→Bool):Nat→Nat→Int×Int→Int×Int
 | 0,_,x=>x
 | m + 1,i,x=>hlF p m (i + 1) (nfu' (p i) i x)
theorem n0n' (p:Bool) (i:Int) (x:Int×Int):((nfu' p i x).1=x.1∨(p=true∧(nfu' p i x).1=i))∧((nfu' p i x).2=x.2∨(p=true∧(nfu' p i x).2=i))∧x.1≤(nfu' p i x).1∧(nfu' p i x).2≤x.2∧(p=true→i≤(nfu' p i x).1∧(nfu' p i x).2≤i):=by
 unfold nfu'
 cases p with
 | false=>simp
 | true=>
  simp only [cond_true]
  by_cases h1:x.1 < i <;> by_cases h2:i < x.2 <;> simp [h1,h2] <;> omega
theorem nyt' (p:Nat→Bool):∀ (m i:Nat) (x:Int×Int),
  ((hlF p m i x).1=x.1∨∃ j,i≤j∧j < i + m∧p j=true∧(hlF p m i x).1=(j:Int))∧((hlF p m i x).2=x.2∨∃ j,i≤j∧j < i + m∧p j=true∧(hlF p m i x).2=(j:Int)) ∧
  x.1≤(hlF p m i x).1∧(hlF p m i x).2≤x.2∧∀ j,i≤j→j < i + m→p j=true→(j:Int)≤(hlF p m i x).1∧(hlF p m i x).2≤(j:Int)
 | 0,i,x=>⟨.inl rfl,.inl rfl,Int.le_refl _,Int.le_refl _,fun j h1 h2=>by omega⟩
 | m + 1,i,x=>by
  obtain ⟨s1,s2,s3,s4,s5⟩:=n0n' (p i) i x
  obtain ⟨t1,t2,t3,t4,t5⟩:=nyt' p m (i + 1) (nfu' (p i) i x)
  show ((hlF p m (i + 1) (nfu' (p i) i x)).1=x.1∨_)∧_
  refine ⟨?_,?_,Int.le_trans s3 t3,Int.le_trans t4 s4,fun j h1 h2 h3=>?_⟩
  ·rcases t1 with t1 | ⟨j,j1,j2,j3,j4⟩
   ·rcases s1 with s1 | ⟨s1,s1'⟩
    ·exact .inl (t1.trans s1)
    ·exact .inr ⟨i,Nat.le_refl _,by omega,s1,t1.trans s1'⟩
   ·exact .inr ⟨j,by omega,by omega,j3,j4⟩
  ·rcases t2 with t1 | ⟨j,j1,j2,j3,j4⟩
   ·rcases s2 with s1 | ⟨s1,s1'⟩
    ·exact .inl (t1.trans s1)
    ·exact .inr ⟨i,Nat.le_refl _,by omega,s1,t1.trans s1'⟩
   ·exact .inr ⟨j,by omega,by omega,j3,j4⟩
  ·by_cases e:j=i
   ·subst e
    have:=s5 h3
    exact ⟨Int.le_trans this.1 t3,Int.le_trans t4 this.2⟩
   ·exact t5 j (by omega) (by omega) h3
theorem nxj' {fl:Nat} (h2:2≤fl) (hfl:fl≤8) {car up down:Int} (hc:u32r car) (hu:u32r up) (hd:u32r down) {a u d:Nat} (c:Cnt fl car up down a u d) (from_ sweep floor dir:Int) (x:Int×Int) :
  nj4' (((fl:Int),from_,sweep,floor,dir,(),x.1,x.2,(0:Int),()),((car,up,down,()),()))=some ((from_,sweep,floor,dir,(hlF (fun i=>a.testBit i||(u.testBit i||d.testBit i)) fl 0 x).1,(hlF (fun i=>a.testBit i||(u.testBit i||d.testBit i)) fl 0 x).2,()),()):=by
 have key:∀ (m i:Nat) (x:Int×Int),i + m=fl→iter (fun x=>ngc' x.1.1 x.1.2.1 x.1.2.2.1 x.1.2.2.2.1 x.1.2.2.2.2.1 x.1.2.2.2.2.2.2.1 x.1.2.2.2.2.2.2.2.1 x.1.2.2.2.2.2.2.2.2.1 x.2.1.1 x.2.1.2.1 x.2.1.2.2.1) (m + 1) (((fl:Int),from_,sweep,floor,dir,(),x.1,x.2,(i:Int),()),((car,up,down,()),()))=some ((from_,sweep,floor,dir,(hlF (fun i=>a.testBit i||(u.testBit i||d.testBit i)) m i x).1,(hlF (fun i=>a.testBit i||(u.testBit i||d.testBit i)) m i x).2,()),()):=by
  intro m
  induction m with
  | zero=>
   intro i x hi'
   refine ni' ?_
   show ngc' (fl:Int) from_ sweep floor dir x.1 x.2 (i:Int) car up down=_
   unfold ngc'
   have e:decide ((i:Int) < (fl:Int))=false:=by simp; omega
   rw [e]; rfl
  | succ m ih=>
   intro i x hi'
   obtain ⟨k0,k1,k2⟩:=nsk' h2 hfl hc hu hd c (show i < fl by omega)
   have e:decide ((i:Int) < (fl:Int))=true:=by simp; omega
   have w:IntKind.i64.wrap ((i:Int) + 1)=((i + 1:Nat):Int):=by rw [nb' (by omega) (by omega)]; omega
   refine (ns' (x':=(((fl:Int),from_,sweep,floor,dir,(),(nfu' (a.testBit i||(u.testBit i||d.testBit i)) i x).1,(nfu' (a.testBit i||(u.testBit i||d.testBit i)) i x).2,((i + 1:Nat):Int),()),((car,up,down,()),()))) ?_).trans (ih (i + 1) _ (by omega))
   show ngc' (fl:Int) from_ sweep floor dir x.1 x.2 (i:Int) car up down=_
   unfold ngc'
   simp only [e,cond_true,k0,k1,k2,Option.bind_some]
   cases a.testBit i with
   | true=>simp only [cond_true,Option.bind_some,w,Bool.true_or]; rfl
   | false=>
    cases u.testBit i with
    | true=>simp only [cond_true,cond_false,Option.bind_some,w,Bool.true_or,Bool.false_or]; rfl
    | false=>
     cases d.testBit i with
     | true=>simp only [cond_true,cond_false,Option.bind_some,w,Bool.false_or]; rfl
     | false=>simp only [cond_false,Option.bind_some,w,Bool.false_or]; rfl
 exact nf' (key fl 0 x (by omega)) (by omega)
theorem n90' {fl:Nat} {p:Nat→Bool} {S:Nat} {from_ floor:Nat} (_hfr:from_ < fl) (_hfo:floor < fl) (hS:∀ i,S.testBit i=(decide (i < fl)&&p i||(decide (i=from_)||decide (i=floor))))
  {hi lo:Nat} (h1:S.testBit hi=true) (h2:∀ i,hi < i→S.testBit i=false) (l1:S.testBit lo=true) (l2:∀ i,i < lo→S.testBit i=false) :
  hlF p fl 0 (bif decide ((from_:Int) < floor) then (floor:Int) else from_,bif decide ((floor:Int) < from_) then (floor:Int) else from_)=((hi:Int),(lo:Int)):=by
 obtain ⟨s1,s2,s3,s4,s5⟩:=nyt' p fl 0 (bif decide ((from_:Int) < floor) then (floor:Int) else from_,bif decide ((floor:Int) < from_) then (floor:Int) else from_)
 generalize hlF p fl 0 (bif decide ((from_:Int) < floor) then (floor:Int) else from_,bif decide ((floor:Int) < from_) then (floor:Int) else from_)=r at *
 have bmax:(bif decide ((from_:Int) < floor) then (floor:Int) else from_)=((max from_ floor:Nat):Int):=by
  by_cases h:(from_:Int) < floor
  ·rw [decide_eq_true h]; simp only [cond_true]; omega
  ·rw [decide_eq_false h]; simp only [cond_false]; omega
 have bmin:(bif decide ((floor:Int) < from_) then (floor:Int) else from_)=((min from_ floor:Nat):Int):=by
  by_cases h:(floor:Int) < from_
  ·rw [decide_eq_true h]; simp only [cond_true]; omega
  ·rw [decide_eq_false h]; simp only [cond_false]; omega
 simp only [bmax,bmin] at s1 s2 s3 s4
 have mem:∀ i,i < fl→p i=true→S.testBit i=true:=fun i h hp=>by rw [hS,decide_eq_true h,hp]; rfl
 have mfr:S.testBit from_=true:=by rw [hS]; simp
 have mfo:S.testBit floor=true:=by rw [hS]; simp
 have up:∀ i,S.testBit i=true→i≤hi:=fun i h=>by
  rcases Nat.lt_or_ge hi i with h' | h'
  ·rw [h2 i h'] at h; cases h
  ·exact h'
 have dn:∀ i,S.testBit i=true→lo≤i:=fun i h=>by
  rcases Nat.lt_or_ge i lo with h' | h'
  ·rw [l2 i h'] at h; cases h
  ·exact h'
 have inS:∀ i,S.testBit i=true→(i < fl∧p i=true)∨i=from_∨i=floor:=fun i h=>by
  rw [hS] at h
  simp only [Bool.or_eq_true,Bool.and_eq_true,decide_eq_true_eq] at h
  exact h
 have u1:=up _ mfr
 have u2:=up _ mfo
 have d1:=dn _ mfr
 have d2:=dn _ mfo
 have r1:r.1≤(hi:Int):=by
  rcases s1 with s1 | ⟨j,_,j2,j3,j4⟩
  ·omega
  ·have:=up j (mem j (by omega) j3); omega
 have r2:(lo:Int)≤r.2:=by
  rcases s2 with s1 | ⟨j,_,j2,j3,j4⟩
  ·omega
  ·have:=dn j (mem j (by omega) j3); omega
 clear s1 s2
 have q1:(hi:Int)≤r.1:=by
  rcases inS hi h1 with ⟨g1,g2⟩ | g | g
  ·exact (s5 hi (Nat.zero_le _) (by omega) g2).1
  ·omega
  ·omega
 have q2:r.2≤(lo:Int):=by
  rcases inS lo l1 with ⟨g1,g2⟩ | g | g
  ·exact (s5 lo (Nat.zero_le _) (by omega) g2).2
  ·omega
  ·omega
 exact Prod.ext (Int.le_antisymm r1 q1) (Int.le_antisymm q2 r2)
end Go.Ovl
namespace Go.Ovl
open Go Go.Ab
set_option maxRecDepth 100000
def distF (f at_:Int):Int:=bif decide (f - at_ < at_ - f) then at_ - f else f - at_
def wayF:List Int→Int→Int→Int
 | [],n,_=>n
 | f :: t,n,at_=>wayF t (n + distF f at_) f
theorem ny4' {s:List Int} (hs:∀ e ∈ s,0≤e∧e < 100) (hsl:s.length≤100) (b0 b1:Int):∀ (m i:Nat) (n at_:Int),i + m=s.length→m≤100→0≤at_∧at_ < 100→0≤n∧n + 100 * (m:Int) < 100000 →
  iter (fun x=>ncm' x.1.1 x.1.2.1 x.1.2.2.1 x.1.2.2.2.1 x.1.2.2.2.2.1 x.2.1.1 x.2.2.1.1) (m + 1) ((n,at_,s,(s.length:Int),(i:Int),()),((b0,()),(b1,()),()))=some ((wayF (s.drop i) n at_,()),((b0,()),(b1,()),()))
 | 0,i,n,at_,hi,_,_,_=>by
  refine ni' ?_
  show ncm' n at_ s (s.length:Int) (i:Int) b0 b1=_
  unfold ncm'
  have e:decide ((i:Int) < (s.length:Int))=false:=by simp; omega
  rw [e,show i=s.length by omega,List.drop_length]; rfl
 | m + 1,i,n,at_,hi,hm,ha,hn=>by
  have hg:0≤s.getD i 0∧s.getD i 0 < 100:=by
   have h:i < s.length:=by omega
   simp only [List.getD_eq_getElem?_getD,List.getElem?_eq_getElem h,Option.getD_some]
   exact hs _ (List.getElem_mem h)
  have hd:0≤distF (s.getD i 0) at_∧distF (s.getD i 0) at_ < 100:=by
   unfold distF
   by_cases h:s.getD i 0 - at_ < at_ - s.getD i 0
   ·rw [decide_eq_true h]; simp only [cond_true]; omega
   ·rw [decide_eq_false h]; simp only [cond_false]; omega
  have e:decide ((i:Int) < (s.length:Int))=true:=by simp; omega
  have ib:inB (i:Int) s.length=true:=nc' (by omega) (by omega)
  have tn:Int.toNat (i:Int)=i:=by omega
  have w:IntKind.i64.wrap ((i:Int) + 1)=((i + 1:Nat):Int):=by rw [nb' (by omega) (by omega)]; omega
  have w1:IntKind.i64.wrap (s.getD i 0 - at_)=s.getD i 0 - at_:=nb' (by omega) (by omega)
  have w2:IntKind.i64.wrap (at_ - s.getD i 0)=at_ - s.getD i 0:=nb' (by omega) (by omega)
  have w3:IntKind.i64.wrap (n + distF (s.getD i 0) at_)=n + distF (s.getD i 0) at_:=nb' (by omega) (by omega)
  refine (ns' (x':=((n + distF (s.getD i 0) at_,s.getD i 0,s,(s.length:Int),((i + 1:Nat):Int),()),((b0,()),(b1,()),()))) ?_).trans ?_
  ·show ncm' n at_ s (s.length:Int) (i:Int) b0 b1=_
   unfold ncm'
   simp only [e,ib,tn,w,w1,w2,cond_true]
   rw [show (bif decide (s.getD i 0 - at_ < at_ - s.getD i 0) then at_ - s.getD i 0 else s.getD i 0 - at_)=distF (s.getD i 0) at_ from rfl,w3]
  ·rw [ny4' hs hsl b0 b1 m (i + 1) _ _ (by omega) (by omega) hg (by omega),n3' (0:Int) (show i < s.length by omega)]
   rfl
theorem nmf' {l:List Int} (hl:∀ e ∈ l,0≤e∧e < 100) (hlen:l.length≤10) {from_ floor:Int} (hf:0≤from_∧from_ < 100) (ho:0≤floor∧floor < 100) :
  nx' l from_ floor=some ((wayF (l++[floor]) 0 from_,()),((from_,()),(floor,()),())):=by
 unfold nx'
 have hb:Nat.ble (l.length + [floor].length) 2147483648=true:=n2' (by simp; omega)
 have hs:∀ e ∈ l++[floor],0≤e∧e < 100:=fun e he=>by
  rcases List.mem_append.1 he with h | h
  ·exact hl e h
  ·rw [List.mem_singleton.1 h]; exact ho
 have hl2:(l++[floor]).length≤11:=by simp; omega
 have h0:nd7' (((0:Int),from_,l++[floor],((l++[floor]).length:Int),(0:Int),()),((from_,()),(floor,()),()))=_:=nf' (ny4' hs (by omega) from_ floor (l++[floor]).length 0 0 from_ (by omega) (by omega) hf (by omega)) (by omega)
 rw [List.drop_zero] at h0
 simp only [hb,cond_true,h0,Option.bind_some]
end Go.Ovl
namespace Go.Ovl
open Go Go.Ab
set_option maxRecDepth 100000
def ngb' (fl floor dir:Int):Bool:=(dir==1&&(decide (0≤floor)&&decide (floor < fl - 1)))||(dir==2&&(decide (0 < floor)&&decide (floor < fl)))
theorem nnu' {fl:Int} (h:0≤fl∧fl < 100) (floor dir:Int):njc' fl floor dir=some ((ngb' fl floor dir,()),()):=by
 have w:IntKind.i64.wrap (fl - 1)=fl - 1:=nb' (by omega) (by omega)
 unfold njc' ngb'
 rw [w]
 cases dir==1 <;> cases decide (0≤floor) <;> cases decide (floor < fl - 1) <;> cases dir==2 <;> cases decide (0 < floor) <;> cases decide (floor < fl) <;> rfl
theorem nig' {fl:Int} (h:2≤fl∧fl≤32):nft' fl=some ((true,()),()):=by
 unfold nft'
 rw [decide_eq_true h.1,decide_eq_true h.2]; rfl
theorem refG {fl:Int} (h:0≤fl∧fl < 100) (from_ sweep floor dir car up down:Int):(bif (dir==(1:Int)) then bif (decide ((0:Int)≤floor)) then bif (decide (floor < (Go.IntKind.wrap Go.IntKind.i64 (fl - (1:Int))))) then some ((fl,from_,sweep,floor,dir,(),false,()),((car,up,down,()),())) else bif (dir==(2:Int)) then bif (decide ((0:Int) < floor)) then some ((fl,from_,sweep,floor,dir,(),(!(decide (floor < fl))),()),((car,up,down,()),())) else some ((fl,from_,sweep,floor,dir,(),true,()),((car,up,down,()),())) else some ((fl,from_,sweep,floor,dir,(),true,()),((car,up,down,()),())) else bif (dir==(2:Int)) then bif (decide ((0:Int) < floor)) then some ((fl,from_,sweep,floor,dir,(),(!(decide (floor < fl))),()),((car,up,down,()),())) else some ((fl,from_,sweep,floor,dir,(),true,()),((car,up,down,()),())) else some ((fl,from_,sweep,floor,dir,(),true,()),((car,up,down,()),())) else bif (dir==(2:Int)) then bif (decide ((0:Int) < floor)) then some ((fl,from_,sweep,floor,dir,(),(!(decide (floor < fl))),()),((car,up,down,()),())) else some ((fl,from_,sweep,floor,dir,(),true,()),((car,up,down,()),())) else some ((fl,from_,sweep,floor,dir,(),true,()),((car,up,down,()),())))=some ((fl,from_,sweep,floor,dir,(),!ngb' fl floor dir,()),((car,up,down,()),())):=by
 have w:IntKind.i64.wrap (fl - 1)=fl - 1:=nb' (by omega) (by omega)
 unfold ngb'
 rw [w]
 cases dir==1 <;> cases decide (0≤floor) <;> cases decide (floor < fl - 1) <;> cases dir==2 <;> cases decide (0 < floor) <;> cases decide (floor < fl) <;> rfl
def pathV (sw di fr fo lo hi:Int):Int:=
 bif sw==0 then (bif decide (fr - fo < fo - fr) then fo - fr else fr - fo)
 else bif sw==1 then (bif di==1 then (bif decide (fr≤fo) then fo - fr else hi - fr + hi - lo + fo - lo) else hi - fr + hi - fo)
 else (bif di==2 then (bif decide (fo≤fr) then fr - fo else fr - lo + hi - lo + hi - fo) else fr - lo + fo - lo)
theorem n91' {fl:Nat} (hfl:fl≤8) {car up down:Int} {a u d:Nat} (c:Cnt fl car up down a u d) {fr fo:Nat} (hr:fr < fl) (ho:fo < fl) :
  ∃ S:Nat,S < 256∧S ≠ 0∧(∀ i,S.testBit i=(decide (i < fl)&&(a.testBit i||(u.testBit i||d.testBit i))||(decide (i=fr)||decide (i=fo)))) ∧
   vb ((((bv a ||| bv u) ||| bv d) ||| BitVec.twoPow 32 fr) ||| BitVec.twoPow 32 fo)=(S:Int):=by
 have hb:∀ (x:Nat),x < 256→∀ i,(bv (x:Int)).getLsbD i=x.testBit i:=fun x hx i=>by
  show bitF (x:Int) i=_
  rw [n24' ⟨by omega,by omega⟩]; simp
 have hS:∀ i,((((bv a ||| bv u) ||| bv d) ||| BitVec.twoPow 32 fr) ||| BitVec.twoPow 32 fo).getLsbD i=(decide (i < fl)&&(a.testBit i||(u.testBit i||d.testBit i))||(decide (i=fr)||decide (i=fo))):=by
  intro i
  simp only [BitVec.getLsbD_or,hb a c.la,hb u c.lu,hb d c.ld,BitVec.getLsbD_twoPow]
  have e1:(decide (fr < 32)&&decide (fr=i))=decide (i=fr):=by rw [decide_eq_true (show fr < 32 by omega),Bool.true_and]; exact decide_eq_decide.2 eq_comm
  have e2:(decide (fo < 32)&&decide (fo=i))=decide (i=fo):=by rw [decide_eq_true (show fo < 32 by omega),Bool.true_and]; exact decide_eq_decide.2 eq_comm
  rw [e1,e2]
  by_cases hi:i < fl
  ·rw [decide_eq_true hi,Bool.true_and]
   cases a.testBit i <;> cases u.testBit i <;> cases d.testBit i <;> cases decide (i=fr) <;> cases decide (i=fo) <;> rfl
  ·obtain ⟨q1,q2,q3⟩:=c.hi i (by omega)
   rw [q1,q2,q3,decide_eq_false hi]; rfl
 refine ⟨((((bv a ||| bv u) ||| bv d) ||| BitVec.twoPow 32 fr) ||| BitVec.twoPow 32 fo).toNat,nyd' hfl fun i _ h=>?_,fun h0=>?_,hS,rfl⟩
 ·rw [hS] at h
  simp only [Bool.or_eq_true,Bool.and_eq_true,decide_eq_true_eq] at h
  rcases h with ⟨h,_⟩ | rfl | rfl
  ·exact h
  ·exact hr
  ·exact ho
 ·have:=hS fr
  rw [BitVec.getLsbD,h0] at this
  simp at this
theorem n1x' {fl:Nat} (h2:2≤fl) (hfl:fl≤8) (car up down from_ sweep floor dir:Int) (h:¬ (0≤from_∧from_ < fl∧0≤sweep∧sweep≤2∧ngb' fl floor dir=true)) :
  nd6' (fl:Int) from_ sweep car up down floor dir=some ((-1,()),())∧ner' (fl:Int) from_ sweep car up down floor dir=some ((-1,()),()):=by
 unfold nd6' ner'
 rw [nig' ⟨by omega,by omega⟩,nnu' ⟨by omega,by omega⟩]
 simp only [Option.bind_some,Bool.not_true,cond_false]
 rw [decide_eq_false (show ¬ ((fl:Int) < 2) by omega),decide_eq_false (show ¬ ((32:Int) < fl) by omega)]
 simp only [cond_false]
 by_cases g1:from_ < 0
 ·rw [decide_eq_true g1]; exact ⟨rfl,rfl⟩
 rw [decide_eq_false g1]
 simp only [cond_false]
 by_cases g2:(fl:Int)≤from_
 ·rw [decide_eq_true g2]; exact ⟨rfl,rfl⟩
 rw [decide_eq_false g2]
 simp only [cond_false]
 by_cases g3:sweep < 0
 ·rw [decide_eq_true g3]; exact ⟨rfl,rfl⟩
 rw [decide_eq_false g3]
 simp only [cond_false]
 by_cases g4:2 < sweep
 ·rw [decide_eq_true g4]; exact ⟨rfl,rfl⟩
 rw [decide_eq_false g4]
 simp only [cond_false]
 have hc:ngb' fl floor dir=false:=by
  cases hq:ngb' fl floor dir with
  | false=>rfl
  | true=>exact absurd ⟨by omega,by omega,by omega,by omega,hq⟩ h
 rw [refG ⟨by omega,by omega⟩,hc]
 exact ⟨rfl,rfl⟩
end Go.Ovl
namespace Go.Ovl
open Go Go.Ab
set_option maxRecDepth 100000
theorem nm5' {f g:Int} (h:g≤f):distF f g=f - g:=by
 unfold distF
 rw [decide_eq_false (by omega)]; rfl
theorem nna' {f g:Int} (h:f≤g):distF f g=g - f:=by
 unfold distF
 by_cases e:f - g < g - f
 ·rw [decide_eq_true e]; rfl
 ·rw [decide_eq_false e]; simp only [cond_false]; omega
theorem w_nil {fr fo:Nat} (h1:fr < 100) (h2:fo < 100):nx' [] (fr:Int) (fo:Int)=some ((distF fo fr,()),(((fr:Int),()),((fo:Int),()),())):=by
 rw [nmf' (l:=[]) (by simp) (by simp) (by omega) (by omega)]
 simp only [List.nil_append,wayF,Int.zero_add]
theorem w_one {a fr fo:Nat} (h:a < 100) (h1:fr < 100) (h2:fo < 100):nx' [(a:Int)] (fr:Int) (fo:Int)=some ((distF a fr + distF fo a,()),(((fr:Int),()),((fo:Int),()),())):=by
 rw [nmf' (l:=[(a:Int)]) (by simp; omega) (by simp) (by omega) (by omega)]
 simp only [List.cons_append,List.nil_append,wayF,Int.zero_add]
theorem w_two {a b fr fo:Nat} (h:a < 100) (h':b < 100) (h1:fr < 100) (h2:fo < 100):nx' [(a:Int),(b:Int)] (fr:Int) (fo:Int)=some ((distF a fr + distF b a + distF fo b,()),(((fr:Int),()),((fo:Int),()),())):=by
 rw [nmf' (l:=[(a:Int),(b:Int)]) (by simp; omega) (by simp) (by omega) (by omega)]
 simp only [List.cons_append,List.nil_append,wayF,Int.zero_add]
theorem n41' {lo hi fr fo:Nat} (b1:lo≤fr) (b2:lo≤fo) (b3:fr≤hi) (b4:fo≤hi) (b5:hi < 8) {sweep dir:Int} (hsw:sweep=0∨sweep=1∨sweep=2) (hdir:dir=1∨dir=2) :
    (
      Option.bind (bif (sweep == (1 : Int)) then
            bif (decide ((fr:Int)≤(fo:Int))) then
              some ((sweep,dir,(lo:Int),(hi:Int),(),true,()),(((fr:Int),()),((fo:Int),()),()))
            else
              bif (sweep==(2:Int)) then
                some ((sweep,dir,(lo:Int),(hi:Int),(),(decide ((fo:Int)≤(fr:Int))),()),(((fr:Int),()),((fo:Int),()),()))
              else
                some ((sweep,dir,(lo:Int),(hi:Int),(),false,()),(((fr:Int),()),((fo:Int),()),()))
          else
            bif (sweep==(2:Int)) then
              some ((sweep,dir,(lo:Int),(hi:Int),(),(decide ((fo:Int)≤(fr:Int))),()),(((fr:Int),()),((fo:Int),()),()))
            else
              some ((sweep,dir,(lo:Int),(hi:Int),(),false,()),(((fr:Int),()),((fo:Int),()),()))) fun y6=>
      Option.bind (bif (y6.1.1 == (0 : Int)) then
            some ((y6.1.1,y6.1.2.1,y6.1.2.2.1,y6.1.2.2.2.1,(),true,()),((y6.2.1.1,()),(y6.2.2.1.1,()),()))
          else
            bif (y6.1.1==y6.1.2.1) then
              some ((y6.1.1,y6.1.2.1,y6.1.2.2.1,y6.1.2.2.2.1,(),y6.1.2.2.2.2.2.1,()),((y6.2.1.1,()),(y6.2.2.1.1,()),()))
            else
              some ((y6.1.1,y6.1.2.1,y6.1.2.2.1,y6.1.2.2.2.1,(),false,()),((y6.2.1.1,()),(y6.2.2.1.1,()),()))) fun y7=>
      bif y7.1.2.2.2.2.2.1 then
        (nx' [] y7.2.1.1 y7.2.2.1.1).bind fun y8=>
        some ((y8.1.1,()),())
      else
        Option.bind (bif (y7.1.1 != y7.1.2.1) then
              some ((y7.1.1,y7.1.2.1,y7.1.2.2.1,y7.1.2.2.2.1,(),(y7.1.1==(1:Int)),()),((y7.2.1.1,()),(y7.2.2.1.1,()),()))
            else
              some ((y7.1.1,y7.1.2.1,y7.1.2.2.1,y7.1.2.2.2.1,(),false,()),((y7.2.1.1,()),(y7.2.2.1.1,()),()))) fun y9=>
        bif y9.1.2.2.2.2.2.1 then
          (nx' [y9.1.2.2.2.1] y9.2.1.1 y9.2.2.1.1).bind fun y10=>
          some ((y10.1.1,()),())
        else
          bif (y9.1.1 != y9.1.2.1) then
            (nx' [y9.1.2.2.1] y9.2.1.1 y9.2.2.1.1).bind fun y11=>
            some ((y11.1.1,()),())
          else
            bif (y9.1.1==(1:Int)) then
              (nx' [y9.1.2.2.2.1,y9.1.2.2.1] y9.2.1.1 y9.2.2.1.1).bind fun y12=>
              some ((y12.1.1,()),())
            else
              (nx' [y9.1.2.2.1,y9.1.2.2.2.1] y9.2.1.1 y9.2.2.1.1).bind fun y13=>
              some ((y13.1.1,()),()))=some ((pathV sweep dir fr fo lo hi,()),()):=by
  have fin:∀ {x y:Int},x=y→(some ((x,()),()):Option ((Int×Unit)×Unit))=some ((y,()),()):=fun h=>by rw [h]
  have e1:distF (fo:Int) fr=bif decide ((fr:Int) - fo < fo - fr) then (fo:Int) - fr else fr - fo:=by
    unfold distF
    by_cases g:(fo:Int) - fr < fr - fo
    · rw [decide_eq_true g,decide_eq_false (by omega)]; rfl
    · rw [decide_eq_false g]; by_cases g':(fr:Int) - fo < fo - fr
      · rw [decide_eq_true g']; rfl
      · rw [decide_eq_false g']; simp only [cond_false]; omega
  have W0:=w_nil (fr:=fr) (fo:=fo) (by omega) (by omega)
  have W1:=w_one (a:=hi) (fr:=fr) (fo:=fo) (by omega) (by omega) (by omega)
  have W2:=w_one (a:=lo) (fr:=fr) (fo:=fo) (by omega) (by omega) (by omega)
  have W3:=w_two (a:=hi) (b:=lo) (fr:=fr) (fo:=fo) (by omega) (by omega) (by omega) (by omega)
  have W4:=w_two (a:=lo) (b:=hi) (fr:=fr) (fo:=fo) (by omega) (by omega) (by omega) (by omega)
  rw [nm5' (f:=hi) (g:=fr) (by omega),nna' (f:=fo) (g:=hi) (by omega)] at W1
  rw [nna' (f:=lo) (g:=fr) (by omega),nm5' (f:=fo) (g:=lo) (by omega)] at W2
  rw [nm5' (f:=hi) (g:=fr) (by omega),nna' (f:=lo) (g:=hi) (by omega),nm5' (f:=fo) (g:=lo) (by omega)] at W3
  rw [nna' (f:=lo) (g:=fr) (by omega),nm5' (f:=hi) (g:=lo) (by omega),nna' (f:=fo) (g:=hi) (by omega)] at W4
  rcases hsw with rfl | rfl | rfl
  · rw [show ((0:Int)==1)=false from rfl,show ((0:Int)==2)=false from rfl]
    simp only [Option.bind_some,cond_true,cond_false,beq_self_eq_true,W0,pathV,e1]
  · rw [show ((1:Int)==1)=true from rfl,show ((1:Int)==2)=false from rfl]
    rcases hdir with rfl | rfl
    · by_cases g:(fr:Int)≤fo
      · simp only [Option.bind_some,cond_true,cond_false,decide_eq_true g,show ((1:Int)==0)=false from rfl,show ((1:Int)==1)=true from rfl,W0,pathV]
        rw [nm5' g]
      · simp only [Option.bind_some,cond_true,cond_false,decide_eq_false g,show ((1:Int)==0)=false from rfl,show ((1:Int)==1)=true from rfl,bne,Bool.not_true,W3,pathV]
        refine fin ?_; omega
    · cases hg:decide ((fr:Int)≤fo) <;>
        (simp only [Option.bind_some,cond_true,cond_false,show ((1:Int)==0)=false from rfl,show ((1:Int)==1)=true from rfl,show ((1:Int)==2)=false from rfl,show ((2:Int)==1)=false from rfl,bne,Bool.not_false,W1,pathV]; refine fin ?_; omega)
  · rw [show ((2:Int)==1)=false from rfl,show ((2:Int)==2)=true from rfl]
    rcases hdir with rfl | rfl
    · cases hg:decide ((fo:Int)≤fr) <;>
        (simp only [Option.bind_some,cond_true,cond_false,show ((2:Int)==0)=false from rfl,show ((2:Int)==1)=false from rfl,show ((1:Int)==2)=false from rfl,bne,Bool.not_false,W2,pathV]; refine fin ?_; omega)
    · by_cases g:(fo:Int)≤fr
      · simp only [Option.bind_some,cond_true,cond_false,decide_eq_true g,show ((2:Int)==0)=false from rfl,show ((2:Int)==1)=false from rfl,show ((2:Int)==2)=true from rfl,W0,pathV]
        rw [nna' g]
      · simp only [Option.bind_some,cond_true,cond_false,decide_eq_false g,show ((2:Int)==0)=false from rfl,show ((2:Int)==1)=false from rfl,show ((2:Int)==2)=true from rfl,bne,Bool.not_true,W4,pathV]
        refine fin ?_; omega
end Go.Ovl
namespace Go.Ovl
open Go Go.Ab
set_option maxRecDepth 100000
set_option maxHeartbeats 1000000 in
theorem n5a' {fl:Nat} (h2:2≤fl) (hfl:fl≤8) {car up down:Int} (hc:u32r car) (hu:u32r up) (hd:u32r down) {fr fo:Nat} (hr:fr < fl) (ho:fo < fl) {sweep dir:Int} (hs:0≤sweep∧sweep≤2) (hcall:ngb' fl fo dir=true) :
  ∃ lo hi:Nat,lo≤fr∧lo≤fo∧fr≤hi∧fo≤hi∧hi < 8∧nd6' (fl:Int) fr sweep car up down fo dir=some ((pathV sweep dir fr fo lo hi,()),())∧ner' (fl:Int) fr sweep car up down fo dir=some ((pathV sweep dir fr fo lo hi,()),()):=by
 obtain ⟨a,u,d,hcnt,c⟩:=nmj' hfl car up down
 obtain ⟨S,s1,s2,s3,s4⟩:=n91' hfl c hr ho
 obtain ⟨lo,t1,t2,t3,t4⟩:=tz_eq s1 s2
 obtain ⟨hi,l1,l2,l3,l4⟩:=n9l' s1 s2
 have hl:=n90' (p:=fun i=>a.testBit i||(u.testBit i||d.testBit i)) hr ho s3 l3 l4 t3 t4
 have hlo:∀ i,S.testBit i=true→lo≤i:=fun i h=>by
  rcases Nat.lt_or_ge i lo with h' | h'
  ·rw [t4 i h'] at h; cases h
  ·exact h'
 have hhi:∀ i,S.testBit i=true→i≤hi:=fun i h=>by
  rcases Nat.lt_or_ge hi i with h' | h'
  ·rw [l4 i h'] at h; cases h
  ·exact h'
 have mfr:S.testBit fr=true:=by rw [s3]; simp
 have mfo:S.testBit fo=true:=by rw [s3]; simp
 have b1:=hlo _ mfr
 have b2:=hlo _ mfo
 have b3:=hhi _ mfr
 have b4:=hhi _ mfo
 have hdir:dir=1∨dir=2:=by
  unfold ngb' at hcall
  simp only [Bool.or_eq_true,Bool.and_eq_true,beq_iff_eq] at hcall
  omega
 have hsw:sweep=0∨sweep=1∨sweep=2:=by omega
 have x0:IntKind.i64.wrap (((hi:Nat):Int) - ((fr:Nat):Int))=((hi:Nat):Int) - ((fr:Nat):Int):=nb' (by omega) (by omega)
 have x1:IntKind.i64.wrap (((hi:Nat):Int) - ((fr:Nat):Int) + ((hi:Nat):Int))=((hi:Nat):Int) - ((fr:Nat):Int) + ((hi:Nat):Int):=nb' (by omega) (by omega)
 have x2:IntKind.i64.wrap (((hi:Nat):Int) - ((fr:Nat):Int) + ((hi:Nat):Int) - ((fo:Nat):Int))=((hi:Nat):Int) - ((fr:Nat):Int) + ((hi:Nat):Int) - ((fo:Nat):Int):=nb' (by omega) (by omega)
 have x3:IntKind.i64.wrap (((hi:Nat):Int) - ((fr:Nat):Int) + ((hi:Nat):Int) - ((lo:Nat):Int))=((hi:Nat):Int) - ((fr:Nat):Int) + ((hi:Nat):Int) - ((lo:Nat):Int):=nb' (by omega) (by omega)
 have x4:IntKind.i64.wrap (((hi:Nat):Int) - ((fr:Nat):Int) + ((hi:Nat):Int) - ((lo:Nat):Int) + ((fo:Nat):Int))=((hi:Nat):Int) - ((fr:Nat):Int) + ((hi:Nat):Int) - ((lo:Nat):Int) + ((fo:Nat):Int):=nb' (by omega) (by omega)
 have x5:IntKind.i64.wrap (((hi:Nat):Int) - ((fr:Nat):Int) + ((hi:Nat):Int) - ((lo:Nat):Int) + ((fo:Nat):Int) - ((lo:Nat):Int))=((hi:Nat):Int) - ((fr:Nat):Int) + ((hi:Nat):Int) - ((lo:Nat):Int) + ((fo:Nat):Int) - ((lo:Nat):Int):=nb' (by omega) (by omega)
 have x6:IntKind.i64.wrap (((fr:Nat):Int) - ((lo:Nat):Int))=((fr:Nat):Int) - ((lo:Nat):Int):=nb' (by omega) (by omega)
 have x7:IntKind.i64.wrap (((fr:Nat):Int) - ((lo:Nat):Int) + ((fo:Nat):Int))=((fr:Nat):Int) - ((lo:Nat):Int) + ((fo:Nat):Int):=nb' (by omega) (by omega)
 have x8:IntKind.i64.wrap (((fr:Nat):Int) - ((lo:Nat):Int) + ((fo:Nat):Int) - ((lo:Nat):Int))=((fr:Nat):Int) - ((lo:Nat):Int) + ((fo:Nat):Int) - ((lo:Nat):Int):=nb' (by omega) (by omega)
 have x9:IntKind.i64.wrap (((fr:Nat):Int) - ((lo:Nat):Int) + ((hi:Nat):Int))=((fr:Nat):Int) - ((lo:Nat):Int) + ((hi:Nat):Int):=nb' (by omega) (by omega)
 have x10:IntKind.i64.wrap (((fr:Nat):Int) - ((lo:Nat):Int) + ((hi:Nat):Int) - ((lo:Nat):Int))=((fr:Nat):Int) - ((lo:Nat):Int) + ((hi:Nat):Int) - ((lo:Nat):Int):=nb' (by omega) (by omega)
 have x11:IntKind.i64.wrap (((fr:Nat):Int) - ((lo:Nat):Int) + ((hi:Nat):Int) - ((lo:Nat):Int) + ((hi:Nat):Int))=((fr:Nat):Int) - ((lo:Nat):Int) + ((hi:Nat):Int) - ((lo:Nat):Int) + ((hi:Nat):Int):=nb' (by omega) (by omega)
 have x12:IntKind.i64.wrap (((fr:Nat):Int) - ((lo:Nat):Int) + ((hi:Nat):Int) - ((lo:Nat):Int) + ((hi:Nat):Int) - ((fo:Nat):Int))=((fr:Nat):Int) - ((lo:Nat):Int) + ((hi:Nat):Int) - ((lo:Nat):Int) + ((hi:Nat):Int) - ((fo:Nat):Int):=nb' (by omega) (by omega)
 have x13:IntKind.i64.wrap (((fr:Nat):Int) - ((fo:Nat):Int))=((fr:Nat):Int) - ((fo:Nat):Int):=nb' (by omega) (by omega)
 have x14:IntKind.i64.wrap (((fo:Nat):Int) - ((fr:Nat):Int))=((fo:Nat):Int) - ((fr:Nat):Int):=nb' (by omega) (by omega)
 refine ⟨lo,hi,b1,b2,b3,b4,l2,?_,?_⟩
 ·unfold nd6'
  rw [nig' ⟨by omega,by omega⟩,nnu' ⟨by omega,by omega⟩,hcall,hcnt]
  rw [decide_eq_false (show ¬ ((fr:Int) < 0) by omega),decide_eq_false (show ¬ ((fl:Int)≤fr) by omega),decide_eq_false (show ¬ (sweep < 0) by omega),decide_eq_false (show ¬ (2 < sweep) by omega)]
  have tn1:Int.toNat (fr:Int)=fr:=by omega
  have tn2:Int.toNat (fo:Int)=fo:=by omega
  have p1:bv (IntKind.u32.wrap (1 * 2 ^ min fr (IntKind.bits .u32)))=BitVec.twoPow 32 fr:=by rw [nyl',if_pos (by omega)]
  have p2:bv (IntKind.u32.wrap (1 * 2 ^ min fo (IntKind.bits .u32)))=BitVec.twoPow 32 fo:=by rw [nyl',if_pos (by omega)]
  have z1:decide ((0:Int)≤(fr:Int))=true:=by simp
  have z2:decide ((0:Int)≤(fo:Int))=true:=by simp
  have lw:IntKind.i64.wrap (((hi + 1:Nat):Int) - 1)=(hi:Int):=by rw [nb' (by omega) (by omega)]; omega
  simp only [Option.bind_some,Bool.not_true,cond_false,cond_true,z1,z2,tn1,tn2,w_or,bv_vb,p1,p2,s4,t1,l1,lw]
  exact n41' b1 b2 b3 b4 l2 hsw hdir
 ·unfold ner'
  rw [decide_eq_false (show ¬ ((fl:Int) < 2) by omega),decide_eq_false (show ¬ ((32:Int) < fl) by omega),decide_eq_false (show ¬ ((fr:Int) < 0) by omega),decide_eq_false (show ¬ ((fl:Int)≤fr) by omega),decide_eq_false (show ¬ (sweep < 0) by omega),decide_eq_false (show ¬ (2 < sweep) by omega),refG ⟨by omega,by omega⟩,hcall]
  simp only [cond_false,Option.bind_some,Bool.not_true]
  have hloop:=nxj' h2 hfl hc hu hd c fr sweep fo dir (bif decide ((fr:Int) < fo) then (fo:Int) else fr,bif decide ((fo:Int) < fr) then (fo:Int) else fr)
  rw [hl] at hloop
  simp only at hloop
  rw [hloop]
  rcases hsw with rfl | rfl | rfl
  ·unfold pathV
   simp only [Option.bind_some,beq_self_eq_true,cond_true,x13,x14]
  ·rcases hdir with rfl | rfl
   ·by_cases g:(fr:Int)≤fo
    ·unfold pathV
     simp only [Option.bind_some,beq_self_eq_true,cond_true,decide_eq_true g,show ((1:Int)==0)=false from rfl,cond_false,x0,x1,x2,x3,x4,x5,x13,x14]
    ·unfold pathV
     simp only [Option.bind_some,beq_self_eq_true,cond_true,decide_eq_false g,show ((1:Int)==0)=false from rfl,show ((1:Int)==2)=false from rfl,cond_false,x0,x1,x2,x3,x4,x5,x6,x7,x8,x9,x10,x11,x12,x13,x14]
   ·unfold pathV
    simp only [Option.bind_some,beq_self_eq_true,cond_true,show ((1:Int)==0)=false from rfl,show ((2:Int)==1)=false from rfl,cond_false,x0,x1,x2,x3,x4,x5,x6,x7,x8,x9,x10,x11,x12,x13,x14]
  ·rcases hdir with rfl | rfl
   ·unfold pathV
    simp only [Option.bind_some,beq_self_eq_true,cond_true,show ((2:Int)==0)=false from rfl,show ((2:Int)==1)=false from rfl,show ((1:Int)==2)=false from rfl,cond_false,x0,x1,x2,x3,x4,x5,x6,x7,x8,x9,x10,x11,x12,x13,x14]
   ·by_cases g:(fo:Int)≤fr
    ·unfold pathV
     simp only [Option.bind_some,beq_self_eq_true,cond_true,decide_eq_true g,show ((2:Int)==0)=false from rfl,show ((2:Int)==1)=false from rfl,cond_false,x0,x1,x2,x3,x4,x5,x6,x7,x8,x9,x10,x11,x12,x13,x14]
    ·unfold pathV
     simp only [Option.bind_some,beq_self_eq_true,cond_true,decide_eq_false g,show ((2:Int)==0)=false from rfl,show ((2:Int)==1)=false from rfl,cond_false,x0,x1,x2,x3,x4,x5,x6,x7,x8,x9,x10,x11,x12,x13,x14]
end Go.Ovl
namespace Go.Ovl
open Go Go.Ab
set_option maxRecDepth 100000
theorem n8l' {fl:Nat} (h2:2≤fl) (hfl:fl≤8) {car up down:Int} (hc:u32r car) (hu:u32r up) (hd:u32r down) (from_ sweep floor dir:Int) :
  ∃ n:Int,nd6' (fl:Int) from_ sweep car up down floor dir=some ((n,()),())∧ner' (fl:Int) from_ sweep car up down floor dir=some ((n,()),())∧(from_ < 0→n=-1):=by
 by_cases h:0≤from_∧from_ < fl∧0≤sweep∧sweep≤2∧ngb' fl floor dir=true
 ·obtain ⟨g1,g2,g3,g4,g5⟩:=h
  have hcall:=g5
  unfold ngb' at g5
  simp only [Bool.or_eq_true,Bool.and_eq_true,decide_eq_true_eq,beq_iff_eq] at g5
  have e1:(from_.toNat:Int)=from_:=by omega
  have e2:(floor.toNat:Int)=floor:=by omega
  rw [← e2] at hcall
  obtain ⟨lo,hi,b1,b2,b3,b4,b5,q1,q2⟩:=n5a' h2 hfl hc hu hd (fr:=from_.toNat) (fo:=floor.toNat) (by omega) (by omega) ⟨g3,g4⟩ hcall
  rw [e1,e2] at q1 q2
  exact ⟨_,q1,q2,by omega⟩
 ·obtain ⟨q1,q2⟩:=n1x' h2 hfl car up down from_ sweep floor dir h
  exact ⟨-1,q1,q2,fun _=>rfl⟩
def sB (s:Nat):Nat→Nat→Nat
 | 0,_=>0
 | m + 1,i=>(s.testBit i).toNat + sB s m (i + 1)
theorem sB_le (s:Nat):∀ m i,sB s m i≤m
 | 0,_=>Nat.le_refl _
 | m + 1,i=>by
  have:=sB_le s m (i + 1)
  have h:(s.testBit i).toNat≤1:=by cases s.testBit i <;> decide
  show _ + _≤_
  omega
theorem n8n':((List.range 256).all fun s=>(List.range 9).all fun fl=>Nat.beq (sB s fl 0) (ones8 s)||(List.range 8).any fun i=>Nat.ble fl i&&s.testBit i)=true:=by kernel_rfl
theorem nvl' {s fl:Nat} (h:s < 256) (hfl:fl≤8) (hz:∀ i,fl≤i→s.testBit i=false):sB s fl 0=ones8 s:=by
 have:=List.all_eq_true.1 (List.all_eq_true.1 n8n' s (List.mem_range.2 h)) fl (List.mem_range.2 (by omega))
 rw [Bool.or_eq_true] at this
 rcases this with h | h
 ·exact Nat.eq_of_beq_eq_true h
 ·obtain ⟨i,_,hi⟩:=List.any_eq_true.1 h
  rw [Bool.and_eq_true] at hi
  rw [hz i (Nat.le_of_ble_eq_true hi.1)] at hi
  cases hi.2
theorem ny8' {fl:Nat} (h2:2≤fl) (hfl:fl≤8) {car up down:Int} (hc:u32r car) (hu:u32r up) (hd:u32r down) {a u d:Nat} (c:Cnt fl car up down a u d) {f:Nat} (hf:f < fl) {n:Nat} (hn:n < 100) :
  ni4' (((fl:Int),(),(n:Int),(f:Int),(0:Int),()),((car,up,down,()),()))=some (((fl:Int),(),(((n + (a.testBit f).toNat + (u.testBit f).toNat + (d.testBit f).toNat:Nat)):Int),(f:Int),()),((car,up,down,()),())):=by
 obtain ⟨k0,k1,k2⟩:=nsk' h2 hfl hc hu hd c hf
 have w:∀ k:Nat,k < 200→IntKind.i64.wrap ((k:Int) + 1)=((k + 1:Nat):Int):=fun k hk=>by rw [nb' (by omega) (by omega)]; omega
 have st:∀ (p:Bool) (k:Nat),k < 200→(bif p then IntKind.i64.wrap ((k:Int) + 1) else (k:Int))=((k + p.toNat:Nat):Int):=fun p k hk=>by
  cases p
  ·rfl
  ·exact w k hk
 have r:∀ (k:Nat) (p:Bool) (j:Int),j < 3→∀ j',IntKind.i64.wrap (j + 1)=j'→k < 200→nem' fl car up down f j=some ((p,()),())→nhc' fl k f j car up down=some (.inl (((fl:Int),(),((k + p.toNat:Nat):Int),(f:Int),j',()),((car,up,down,()),()))):=fun k p j hj j' hw hk h=>by
  unfold nhc'
  rw [decide_eq_true hj,h,hw,← st p k hk]
  cases p <;> rfl
 refine nf' (f:=4) ?_ (by omega)
 refine (ns' (r n _ 0 (by omega) 1 (by decide) (by omega) k0)).trans ?_
 have a1:(a.testBit f).toNat≤1:=by cases a.testBit f <;> decide
 have a2:(u.testBit f).toNat≤1:=by cases u.testBit f <;> decide
 refine (ns' (r _ _ 1 (by omega) 2 (by decide) (by omega) k1)).trans ?_
 refine (ns' (r _ _ 2 (by omega) 3 (by decide) (by omega) k2)).trans ?_
 refine ni' ?_
 show nhc' (fl:Int) _ (f:Int) 3 car up down=_
 unfold nhc'
 rfl
theorem npe' {fl:Nat} (h2:2≤fl) (hfl:fl≤8) {car up down:Int} (hc:u32r car) (hu:u32r up) (hd:u32r down) {a u d:Nat} (c:Cnt fl car up down a u d) :
  ∀ (m i n:Nat),i + m=fl→n + 3 * m < 100→iter (fun x=>nfg' x.1.1 x.1.2.2.1 x.1.2.2.2.1 x.2.1.1 x.2.1.2.1 x.2.1.2.2.1) (m + 1) (((fl:Int),(),(n:Int),(i:Int),()),((car,up,down,()),()))=some ((((n + sB a m i + sB u m i + sB d m i:Nat):Int),()),())
 | 0,i,n,hi,hn=>by
  refine ni' ?_
  show nfg' (fl:Int) n i car up down=_
  unfold nfg'
  have e:decide ((i:Int) < (fl:Int))=false:=by simp; omega
  rw [e]; rfl
 | m + 1,i,n,hi,hn=>by
  have e:decide ((i:Int) < (fl:Int))=true:=by simp; omega
  have w:IntKind.i64.wrap ((i:Int) + 1)=((i + 1:Nat):Int):=by rw [nb' (by omega) (by omega)]; omega
  have a1:(a.testBit i).toNat≤1:=by cases a.testBit i <;> decide
  have a2:(u.testBit i).toNat≤1:=by cases u.testBit i <;> decide
  have a3:(d.testBit i).toNat≤1:=by cases d.testBit i <;> decide
  refine (ns' (x':=(((fl:Int),(),((n + (a.testBit i).toNat + (u.testBit i).toNat + (d.testBit i).toNat:Nat):Int),((i + 1:Nat):Int),()),((car,up,down,()),()))) ?_).trans ?_
  ·show nfg' (fl:Int) n i car up down=_
   unfold nfg'
   rw [e,ny8' h2 hfl hc hu hd c (show i < fl by omega) (show n < 100 by omega)]
   simp only [cond_true,Option.bind_some,w]
  ·rw [npe' h2 hfl hc hu hd c m (i + 1) _ (by omega) (by omega)]
   have:n + (a.testBit i).toNat + (u.testBit i).toNat + (d.testBit i).toNat + sB a m (i + 1) + sB u m (i + 1) + sB d m (i + 1)=n + sB a (m + 1) i + sB u (m + 1) i + sB d (m + 1) i:=by
    simp only [sB]; omega
   rw [this]
theorem n6z' {fl:Nat} (h2:2≤fl) (hfl:fl≤8) {car up down:Int} (hc:u32r car) (hu:u32r up) (hd:u32r down) :
  ∃ n:Nat,n≤24∧nge' (fl:Int) car up down=some (((n:Int),()),())∧nho' (fl:Int) car up down=some (((n:Int),()),()):=by
 obtain ⟨a,u,d,hcnt,c⟩:=nmj' hfl car up down
 have ea:=nvl' c.la hfl fun i hi=>(c.hi i hi).1
 have eu:=nvl' c.lu hfl fun i hi=>(c.hi i hi).2.1
 have ed:=nvl' c.ld hfl fun i hi=>(c.hi i hi).2.2
 have la:=sB_le a fl 0
 have lu:=sB_le u fl 0
 have ld:=sB_le d fl 0
 refine ⟨sB a fl 0 + sB u fl 0 + sB d fl 0,by omega,?_,?_⟩
 ·unfold nge' nmd'
  rw [nig' ⟨by omega,by omega⟩,hcnt]
  simp only [Option.bind_some,Bool.not_true,cond_false,nv5' c.la,nv5' c.lu,nv5' c.ld]
  rw [← ea,← eu,← ed]
  rw [nb' (n:=((sB u fl 0:Nat):Int) + ((sB d fl 0:Nat):Int)) (by omega) (by omega),nb' (by omega) (by omega)]
  have:((sB a fl 0:Nat):Int) + (((sB u fl 0:Nat):Int) + ((sB d fl 0:Nat):Int))=((sB a fl 0 + sB u fl 0 + sB d fl 0:Nat):Int):=by omega
  rw [this]
 ·unfold nho'
  rw [decide_eq_false (show ¬ ((fl:Int) < 2) by omega),decide_eq_false (show ¬ ((32:Int) < fl) by omega)]
  have hl:=nf' (npe' h2 hfl hc hu hd c fl 0 0 (by omega) (by omega)) (by omega)
  have hl':nji' (((fl:Int),(),(0:Int),(0:Int),()),((car,up,down,()),()))=_:=hl
  rw [hl']
  simp only [cond_false,Option.bind_some,Nat.zero_add]
end Go.Ovl
namespace Go.Ovl
open Go Go.Ab
set_option maxRecDepth 100000
def View.none:View:=View.mk false false false false 0 0 0 0 0 0 0 0
def Car.none:Car:=Car.mk 0 0 0 0 0 0 0 0 0
structure View.ok (v:View):Prop where
 c:u32r v.Stops_Car
 u:u32r v.Stops_Hall_Up
 d:u32r v.Stops_Hall_Down
noncomputable def estP (b:Bldg) (car:Int) (v:View) (floor dir:Int):Option ((Int×Unit)×Unit):=
 ndj' b.Floors b.Debounce b.Room b.Park b.Empty b.Full b.Over b.Cars car v.Ready v.Serving v.Legacy v.Lost v.Floor v.Dir v.Load v.Shows_Up v.Shows_Down v.Stops_Car v.Stops_Hall_Up v.Stops_Hall_Down floor dir
noncomputable def estR (b:Bldg) (car:Int) (v:View) (floor dir:Int):Option ((Int×Unit)×Unit):=
 nex' b.Floors b.Debounce b.Room b.Park b.Empty b.Full b.Over b.Cars car v.Ready v.Serving v.Legacy v.Lost v.Floor v.Dir v.Load v.Shows_Up v.Shows_Down v.Stops_Car v.Stops_Hall_Up v.Stops_Hall_Down floor dir
noncomputable def estV (b:Bldg) (car:Int) (v:View) (floor dir:Int):Int:=match estR b car v floor dir with | some r=>r.1.1 | none=>0
theorem n43' {b:Bldg} (hb:b.small) {v:View} (hv:v.ok) (car floor dir:Int):∃ n:Int,estP b car v floor dir=some ((n,()),())∧estR b car v floor dir=some ((n,()),()):=by
 unfold estP estR ndj' nex'
 rw [ncr',nd1']
 simp only [Option.bind_some]
 cases b.code != 0 with
 | true=>exact ⟨_,rfl,rfl⟩
 | false=>
  simp only [cond_false]
  by_cases g1:car < 0
  ·rw [decide_eq_true g1]; exact ⟨_,rfl,rfl⟩
  rw [decide_eq_false g1]
  simp only [cond_false]
  by_cases g2:(b.Cars.length:Int)≤car
  ·rw [decide_eq_true g2]; exact ⟨_,rfl,rfl⟩
  rw [decide_eq_false g2]
  simp only [cond_false]
  have ib:inB car b.Cars.length=true:=nc' (by omega) (by omega)
  have fl:(b.Floors.toNat:Int)=b.Floors:=by have:=hb.lo; omega
  have key:∀ sw:Int,∃ n:Int,nd6' b.Floors v.Floor sw v.Stops_Car v.Stops_Hall_Up v.Stops_Hall_Down floor dir=some ((n,()),())∧ner' b.Floors v.Floor sw v.Stops_Car v.Stops_Hall_Up v.Stops_Hall_Down floor dir=some ((n,()),())∧(v.Floor < 0→n=-1):=fun sw=>by
   have:=n8l' (fl:=b.Floors.toNat) (by have:=hb.lo; omega) (by have:=hb.hi; omega) hv.c hv.u hv.d v.Floor sw floor dir
   rw [fl] at this; exact this
  obtain ⟨k,_,c1,c2⟩:∃ n:Nat,n≤24∧nge' b.Floors v.Stops_Car v.Stops_Hall_Up v.Stops_Hall_Down=some (((n:Int),()),())∧nho' b.Floors v.Stops_Car v.Stops_Hall_Up v.Stops_Hall_Down=some (((n:Int),()),()):=by
   have:=n6z' (fl:=b.Floors.toNat) (by have:=hb.lo; omega) (by have:=hb.hi; omega) hv.c hv.u hv.d
   rw [fl] at this; exact this
  have fin:∀ sw:Int,∃ n:Int,
    ((nd6' b.Floors v.Floor sw v.Stops_Car v.Stops_Hall_Up v.Stops_Hall_Down floor dir).bind fun y3=>bif decide (y3.1.1 < 0) then some ((1000000,()),()) else
     bif inB car b.Cars.length then
      let z0:Car:=b.Cars.getD car.toNat (Car.mk 0 0 0 0 0 0 0 0 0)
      (nge' b.Floors v.Stops_Car v.Stops_Hall_Up v.Stops_Hall_Down).bind fun y4=>
      let z1:Int:=IntKind.i64.wrap (IntKind.i64.wrap (y3.1.1 * z0.Step) + IntKind.i64.wrap (y4.1.1 * IntKind.i64.wrap (IntKind.i64.wrap (2 * z0.Travel) + z0.Dwell)))
      some (((bif decide (1000000 < z1) then 1000000 else z1),()),())
     else none)=some ((n,()),()) ∧
    (bif decide (v.Floor < 0) then some ((1000000,()),()) else (ner' b.Floors v.Floor sw v.Stops_Car v.Stops_Hall_Up v.Stops_Hall_Down floor dir).bind fun y3=>bif decide (y3.1.1 < 0) then some ((1000000,()),()) else
     bif inB car b.Cars.length then
      let z0:Car:=b.Cars.getD car.toNat (Car.mk 0 0 0 0 0 0 0 0 0)
      (nho' b.Floors v.Stops_Car v.Stops_Hall_Up v.Stops_Hall_Down).bind fun y4=>
      let z1:Int:=IntKind.i64.wrap (IntKind.i64.wrap (y3.1.1 * z0.Step) + IntKind.i64.wrap (y4.1.1 * IntKind.i64.wrap (IntKind.i64.wrap (2 * z0.Travel) + z0.Dwell)))
      some (((bif decide (1000000 < z1) then 1000000 else z1),()),())
     else none)=some ((n,()),()):=fun sw=>by
   obtain ⟨n,q1,q2,q3⟩:=key sw
   rw [q1,q2,c1,c2,ib]
   simp only [Option.bind_some,cond_true]
   by_cases g:v.Floor < 0
   ·have:=q3 g
    subst this
    rw [decide_eq_true g]
    exact ⟨_,rfl,rfl⟩
   ·rw [decide_eq_false g]
    cases decide (n < 0) <;> exact ⟨_,rfl,rfl⟩
  cases v.Dir==3 with
  | true=>
   obtain ⟨n,h1,h2⟩:=fin 0
   exact ⟨n,h1,by
    cases hd:decide (v.Floor < 0) with
    | true=>rw [hd] at h2; exact h2
    | false=>rw [hd] at h2; exact h2⟩
  | false=>
   obtain ⟨n,h1,h2⟩:=fin v.Dir
   exact ⟨n,h1,by
    cases hd:decide (v.Floor < 0) with
    | true=>rw [hd] at h2; exact h2
    | false=>rw [hd] at h2; exact h2⟩
theorem n09' {b:Bldg} (hb:b.small) {v:View} (hv:v.ok) (car floor dir:Int):estR b car v floor dir=some ((estV b car v floor dir,()),()):=by
 obtain ⟨n,_,h⟩:=n43' hb hv car floor dir
 rw [show estV b car v floor dir=n by unfold estV; rw [h]]; exact h
theorem n0z' {b:Bldg} (hb:b.small) {v:View} (hv:v.ok) (car floor dir:Int):estP b car v floor dir=some ((estV b car v floor dir,()),()):=by
 obtain ⟨n,h1,h⟩:=n43' hb hv car floor dir
 rw [show estV b car v floor dir=n by unfold estV; rw [h]]; exact h1
end Go.Ovl
namespace Go.Ovl
open Go Go.Ab
set_option maxRecDepth 100000
def fullV (v:View):Bool:=v.Load==3||v.Load==4
theorem nlf' (v:View):nel' v.Ready v.Serving v.Legacy v.Lost v.Floor v.Dir v.Load v.Shows_Up v.Shows_Down v.Stops_Car v.Stops_Hall_Up v.Stops_Hall_Down=some ((fullV v,()),()):=by
 unfold nel' fullV
 cases v.Load==3 <;> rfl
theorem non' (v:View):nim' v.Ready v.Serving v.Legacy v.Lost v.Floor v.Dir v.Load v.Shows_Up v.Shows_Down v.Stops_Car v.Stops_Hall_Up v.Stops_Hall_Down=some ((fullV v,()),()):=by
 unfold nim' fullV
 cases v.Load==3 <;> rfl
def betB (a b:Int×Int):Bool:=decide (a.1 < b.1)||(a.1==b.1&&decide (a.2 < b.2))
theorem nqa' (a b:Int×Int):nh6' a.1 a.2 b.1 b.2=some ((betB a b,()),()):=by
 unfold nh6' betB
 cases decide (a.1 < b.1) <;> cases a.1==b.1 <;> rfl
theorem nno' (a b:Int×Int):nfs' a.1 a.2 b.1 b.2=some ((betB a b,()),()):=by
 unfold nfs' betB
 by_cases h:a.1=b.1
 ·by_cases h':a.2=b.2
  ·rw [h,h',beq_self_eq_true,beq_self_eq_true,decide_eq_false (by omega),decide_eq_false (by omega)]; rfl
  ·rw [h,beq_self_eq_true,beq_f h',decide_eq_false (by omega)]; rfl
 ·rw [beq_f h]
  cases decide (a.1 < b.1) <;> rfl
def nd' (vs:List View) (i:Int):View:=vs.getD i.toNat (View.mk false false false false 0 0 0 0 0 0 0 0)
def okViews (vs:List View):Prop:=∀ v ∈ vs,v.ok
theorem View.ok_none:View.ok (View.mk false false false false 0 0 0 0 0 0 0 0):=⟨⟨by decide,by decide⟩,⟨by decide,by decide⟩,⟨by decide,by decide⟩⟩
theorem okViews.at {vs:List View} (h:okViews vs) (i:Int):(nd' vs i).ok:=by
 unfold nd'
 rw [List.getD_eq_getElem?_getD]
 cases hq:vs[i.toNat]? with
 | none=>exact View.ok_none
 | some v=>exact h v (List.mem_of_getElem? hq)
noncomputable def rankV (b:Bldg) (vs:List View) (floor dir:Int) (car:Int):Int×Int:=((bif fullV (nd' vs car) then 1 else 0),estV b car (nd' vs car) floor dir)
theorem nk7' {b:Bldg} (hb:b.small) {vs:List View} (hv:okViews vs) {car:Int} (hc:0≤car∧car < vs.length) (floor dir:Int) :
  ne8' b.Floors b.Debounce b.Room b.Park b.Empty b.Full b.Over b.Cars vs car floor dir=some (((),()),(((rankV b vs floor dir car).1,(rankV b vs floor dir car).2,()),())):=by
 unfold ne8'
 have e:ndj' b.Floors b.Debounce b.Room b.Park b.Empty b.Full b.Over b.Cars car (nd' vs car).Ready (nd' vs car).Serving (nd' vs car).Legacy (nd' vs car).Lost (nd' vs car).Floor (nd' vs car).Dir (nd' vs car).Load (nd' vs car).Shows_Up (nd' vs car).Shows_Down (nd' vs car).Stops_Car (nd' vs car).Stops_Hall_Up (nd' vs car).Stops_Hall_Down floor dir=_:=n0z' hb (hv.at car) car floor dir
 rw [nc' hc.1 hc.2]
 show (ndj' b.Floors b.Debounce b.Room b.Park b.Empty b.Full b.Over b.Cars car (nd' vs car).Ready (nd' vs car).Serving (nd' vs car).Legacy (nd' vs car).Lost (nd' vs car).Floor (nd' vs car).Dir (nd' vs car).Load (nd' vs car).Shows_Up (nd' vs car).Shows_Down (nd' vs car).Stops_Car (nd' vs car).Stops_Hall_Up (nd' vs car).Stops_Hall_Down floor dir).bind (fun y1=>(nel' (nd' vs car).Ready (nd' vs car).Serving (nd' vs car).Legacy (nd' vs car).Lost (nd' vs car).Floor (nd' vs car).Dir (nd' vs car).Load (nd' vs car).Shows_Up (nd' vs car).Shows_Down (nd' vs car).Stops_Car (nd' vs car).Stops_Hall_Up (nd' vs car).Stops_Hall_Down).bind (fun y2=>bif y2.1.1 then some (((),()),(((1:Int),y1.1.1,()),())) else some (((),()),(((0:Int),y1.1.1,()),()))))=_
 rw [e,Option.bind_some,nlf',Option.bind_some]
 unfold rankV
 cases fullV (nd' vs car) <;> rfl
theorem nlq' {b:Bldg} (hb:b.small) {vs:List View} (hv:okViews vs) {car:Int} (hc:0≤car∧car < vs.length) (floor dir:Int) :
  ng2' b.Floors b.Debounce b.Room b.Park b.Empty b.Full b.Over b.Cars vs car floor dir=some (((),()),(((rankV b vs floor dir car).1,(rankV b vs floor dir car).2,()),())):=by
 unfold ng2'
 have e:nex' b.Floors b.Debounce b.Room b.Park b.Empty b.Full b.Over b.Cars car (nd' vs car).Ready (nd' vs car).Serving (nd' vs car).Legacy (nd' vs car).Lost (nd' vs car).Floor (nd' vs car).Dir (nd' vs car).Load (nd' vs car).Shows_Up (nd' vs car).Shows_Down (nd' vs car).Stops_Car (nd' vs car).Stops_Hall_Up (nd' vs car).Stops_Hall_Down floor dir=_:=n09' hb (hv.at car) car floor dir
 have ef:=non' (nd' vs car)
 unfold nd' at ef e
 simp only [nc' hc.1 hc.2,cond_true,ef,Option.bind_some]
 unfold rankV
 unfold nd'
 cases fullV (vs.getD car.toNat (View.mk false false false false 0 0 0 0 0 0 0 0)) <;> (simp only [cond_true,cond_false,Option.bind_some,nc' hc.1 hc.2,e])
noncomputable def nf0' (b:Bldg) (vs:List View) (floor dir except:Int) (i best:Int):Int:=
 bif !(nd' vs i).Ready||i==except then best else bif best==-1||betB (rankV b vs floor dir i) (rankV b vs floor dir best) then i else best
noncomputable def bestF (b:Bldg) (vs:List View) (floor dir except:Int):Nat→Nat→Int→Int
 | 0,_,best=>best
 | m + 1,i,best=>bestF b vs floor dir except m (i + 1) (nf0' b vs floor dir except i best)
noncomputable def ncc' (b:Bldg) (vs:List View) (floor dir except:Int):Int:=
 bif b.code != 0||(vs.length:Int) != (b.Cars.length:Int) then -1 else bestF b vs floor dir except vs.length 0 (-1)
def nkc' (vs:List View) (best:Int):Prop:=best=-1∨(0≤best∧best < vs.length)
theorem no0' {b:Bldg} {vs:List View} {floor dir except:Int} {i:Nat} (hi:i < vs.length) {best:Int} (h:nkc' vs best):nkc' vs (nf0' b vs floor dir except i best):=by
 unfold nf0'
 cases (!(nd' vs i).Ready||(i:Int)==except) with
 | true=>exact h
 | false=>
  simp only [cond_false]
  cases (best==-1||betB (rankV b vs floor dir i) (rankV b vs floor dir best)) with
  | true=>exact .inr (by simp only [cond_true]; omega)
  | false=>exact h
theorem nn5' {b:Bldg} (hb:b.small) {vs:List View} (hv:okViews vs) (hl:vs.length≤100) (floor dir except:Int) :
  ∀ (m i:Nat) (best:Int),i + m=vs.length→nkc' vs best →
   iter (fun x=>ney' x.1.1 x.1.2.1 x.1.2.2.1 x.1.2.2.2.1 x.1.2.2.2.2.2.1 x.1.2.2.2.2.2.2.1 x.2.1.1 x.2.1.2.1 x.2.1.2.2.1 x.2.1.2.2.2.1 x.2.1.2.2.2.2.1 x.2.1.2.2.2.2.2.1 x.2.1.2.2.2.2.2.2.1 x.2.1.2.2.2.2.2.2.2.1) (m + 1) ((vs,floor,dir,except,(),best,(i:Int),()),(b.tup,()))=some ((bestF b vs floor dir except m i best,()),())
 | 0,i,best,hi,hin=>by
  refine ni' ?_
  show ney' vs floor dir except best (i:Int) b.Floors b.Debounce b.Room b.Park b.Empty b.Full b.Over b.Cars=_
  unfold ney'
  have e:decide ((i:Int) < (vs.length:Int))=false:=by simp; omega
  rw [e]; rfl
 | m + 1,i,best,hi,hin=>by
  have hi':i < vs.length:=by omega
  have e:decide ((i:Int) < (vs.length:Int))=true:=by simp; omega
  have ib:inB (i:Int) vs.length=true:=nc' (by omega) (by omega)
  have w:IntKind.i64.wrap ((i:Int) + 1)=((i + 1:Nat):Int):=by rw [nb' (by omega) (by omega)]; omega
  refine (ns' (x':=((vs,floor,dir,except,(),nf0' b vs floor dir except i best,((i + 1:Nat):Int),()),(b.tup,()))) ?_).trans (nn5' hb hv hl floor dir except m (i + 1) _ (by omega) (no0' hi' hin))
  show ney' vs floor dir except best (i:Int) b.Floors b.Debounce b.Room b.Park b.Empty b.Full b.Over b.Cars=_
  unfold ney'
  have k1:=nlq' hb hv (car:=(i:Int)) (by omega) floor dir
  rw [e,ib,w]
  simp only [cond_true]
  unfold nf0'
  rw [show vs.getD (Int.toNat (i:Int)) (View.mk false false false false 0 0 0 0 0 0 0 0)=nd' vs (i:Int) from rfl]
  cases (nd' vs (i:Int)).Ready with
  | false=>rfl
  | true=>
   simp only [Bool.not_true,cond_false,Bool.false_or]
   cases (i:Int)==except with
   | true=>rfl
   | false=>
    simp only [cond_false]
    rcases hin with hbest | hbest
    ·subst hbest
     rw [show decide ((-1:Int) < 0)=true from rfl,show ((-1:Int)==-1)=true from rfl]
     simp only [cond_true,Option.bind_some,w,Bool.true_or]
     rfl
    ·have k2:=nlq' hb hv hbest floor dir
     rw [decide_eq_false (show ¬ best < 0 by omega),beq_f (show ¬ best=-1 by omega),k1,k2]
     simp only [cond_false,Option.bind_some,Bool.false_or,nqa']
     cases betB (rankV b vs floor dir i) (rankV b vs floor dir best) <;> (simp only [cond_true,cond_false,w]; rfl)
theorem nl5' {b:Bldg} (hb:b.small) {vs:List View} (hv:okViews vs) (hl:vs.length≤100) (floor dir except:Int) :
  ∀ (m i:Nat) (best l0 l1:Int),i + m=vs.length→nkc' vs best→(best ≠ -1→(l0,l1)=rankV b vs floor dir best) →
   iter (fun x=>ndq' x.1.1 x.1.2.1 x.1.2.2.1 x.1.2.2.2.1 x.1.2.2.2.2.2.1 x.1.2.2.2.2.2.2.2.1 x.1.2.2.2.2.2.2.2.2.1 x.1.2.2.2.2.2.2.2.2.2.1 x.2.1.1 x.2.1.2.1 x.2.1.2.2.1 x.2.1.2.2.2.1 x.2.1.2.2.2.2.1 x.2.1.2.2.2.2.2.1 x.2.1.2.2.2.2.2.2.1 x.2.1.2.2.2.2.2.2.2.1 x.2.2.1.1 x.2.2.1.2.1) (m + 1) ((vs,floor,dir,except,(),best,(),vs,(vs.length:Int),(i:Int),()),(b.tup,(l0,l1,()),()))=some ((bestF b vs floor dir except m i best,()),())
 | 0,i,best,l0,l1,hi,hin,hr=>by
  refine ni' ?_
  show ndq' vs floor dir except best vs (vs.length:Int) (i:Int) b.Floors b.Debounce b.Room b.Park b.Empty b.Full b.Over b.Cars l0 l1=_
  unfold ndq'
  have e:decide ((i:Int) < (vs.length:Int))=false:=by simp; omega
  rw [e]; rfl
 | m + 1,i,best,l0,l1,hi,hin,hr=>by
  have hi':i < vs.length:=by omega
  have e:decide ((i:Int) < (vs.length:Int))=true:=by simp; omega
  have ib:inB (i:Int) vs.length=true:=nc' (by omega) (by omega)
  have w:IntKind.i64.wrap ((i:Int) + 1)=((i + 1:Nat):Int):=by rw [nb' (by omega) (by omega)]; omega
  have hs:∃ l0' l1',(nf0' b vs floor dir except i best ≠ -1→(l0',l1')=rankV b vs floor dir (nf0' b vs floor dir except i best))∧ndq' vs floor dir except best vs (vs.length:Int) (i:Int) b.Floors b.Debounce b.Room b.Park b.Empty b.Full b.Over b.Cars l0 l1=some (.inl ((vs,floor,dir,except,(),nf0' b vs floor dir except i best,(),vs,(vs.length:Int),((i + 1:Nat):Int),()),(b.tup,(l0',l1',()),()))):=by
   unfold ndq'
   have k1:=nk7' hb hv (car:=(i:Int)) (by omega) floor dir
   rw [e,ib,w]
   simp only [cond_true]
   unfold nf0'
   rw [show vs.getD (Int.toNat (i:Int)) (View.mk false false false false 0 0 0 0 0 0 0 0)=nd' vs (i:Int) from rfl]
   cases (nd' vs (i:Int)).Ready with
   | false=>exact ⟨l0,l1,hr,rfl⟩
   | true=>
    simp only [Bool.not_true,cond_false,Bool.false_or]
    cases (i:Int)==except with
    | true=>exact ⟨l0,l1,hr,rfl⟩
    | false=>
     simp only [cond_false,k1,Option.bind_some]
     rcases hin with hbest | hbest
     ·subst hbest
      rw [show ((-1:Int)==-1)=true from rfl]
      simp only [cond_true,Option.bind_some,w,Bool.true_or]
      exact ⟨_,_,fun _=>rfl,rfl⟩
     ·have hr':=hr (by omega)
      have e1:l0=(rankV b vs floor dir best).1:=congrArg Prod.fst hr'
      have e2:l1=(rankV b vs floor dir best).2:=congrArg Prod.snd hr'
      subst e1 e2
      rw [beq_f (show ¬ best=-1 by omega)]
      simp only [cond_false,Option.bind_some,Bool.false_or,nno']
      cases betB (rankV b vs floor dir i) (rankV b vs floor dir best) with
      | true=>simp only [cond_true,w]; exact ⟨_,_,fun _=>rfl,rfl⟩
      | false=>simp only [cond_false,w]; exact ⟨_,_,fun _=>rfl,rfl⟩
  obtain ⟨l0',l1',h1,h2⟩:=hs
  exact (ns' h2).trans (nl5' hb hv hl floor dir except m (i + 1) _ l0' l1' (by omega) (no0' hi' hin) h1)
theorem njm' {b:Bldg} (hb:b.small) {vs:List View} (hv:okViews vs) (hl:vs.length≤100) (floor dir except:Int) :
  ned' b.Floors b.Debounce b.Room b.Park b.Empty b.Full b.Over b.Cars vs floor dir except=some ((ncc' b vs floor dir except,()),()):=by
 unfold ned' ncc'
 rw [ncr',Option.bind_some]
 cases b.code != 0 with
 | true=>rfl
 | false=>
  simp only [cond_false,Bool.false_or]
  cases (vs.length:Int) != (b.Cars.length:Int) with
  | true=>rfl
  | false=>
   have h:=nf' (nl5' hb hv hl floor dir except vs.length 0 (-1) 0 0 (by omega) (.inl rfl) (fun h=>absurd rfl h)) (by omega)
   have h':nf7' ((vs,floor,dir,except,(),(-1:Int),(),vs,(vs.length:Int),(0:Int),()),(b.tup,((0:Int),(0:Int),()),()))=_:=h
   simp only [cond_false]
   refine (congrArg (fun z=>Option.bind z _) h').trans ?_
   rfl
theorem nmh' {b:Bldg} (hb:b.small) {vs:List View} (hv:okViews vs) (hl:vs.length≤100) (floor dir except:Int) :
  nf9' b.Floors b.Debounce b.Room b.Park b.Empty b.Full b.Over b.Cars vs floor dir except=some ((ncc' b vs floor dir except,()),()):=by
 unfold nf9' ncc'
 rw [nd1',Option.bind_some]
 cases b.code != 0 with
 | true=>rfl
 | false=>
  simp only [cond_false,Bool.false_or]
  cases (vs.length:Int) != (b.Cars.length:Int) with
  | true=>rfl
  | false=>
   have h:=nf' (nn5' hb hv hl floor dir except vs.length 0 (-1) (by omega) (.inl rfl)) (by omega)
   have h':nii' ((vs,floor,dir,except,(),(-1:Int),(0:Int),()),(b.tup,()))=_:=h
   simp only [cond_false]
   refine (congrArg (fun z=>Option.bind z _) h').trans ?_
   rfl
end Go.Ovl
