/- Plain facts: wrapped numbers, loops by rounds, strings. -/
import Derived.Test.YtbliagnmhfobmaaGreatAbE
import Derived.Test.YtbliagnmhfobmaaGreatDefs3
namespace Go.Ovl
open Go Go.Ab
theorem nc' {n:Int} (h:-9223372036854775808≤n) (h':n < 9223372036854775808):IntKind.i64.wrap n=n:=by
 rw [IntKind.wrap_i64]; omega
theorem ncd' {n:Int} (h:0≤n) (h':n < 18446744073709551616):IntKind.u64.wrap n=n:=by
 simp only [IntKind.wrap,IntKind.signed,IntKind.bits];simp;omega
theorem na' {i:Int} {n:Nat} (h:0≤i) (h':i < n):inB i n=true:=by simp [inB]; omega
theorem nh' {a b:Nat} (h:a≤b):Nat.ble a b=true:=Nat.ble_eq.symm ▸ h
theorem bne_t {α:Type} [BEq α] [LawfulBEq α] {a b:α} (h:¬a=b):(a != b)=true:=by simpa using h
theorem beq_f {α:Type} [BEq α] [LawfulBEq α] {a b:α} (h:¬a=b):(a==b)=false:=by simpa using h
section
variable {X Y:Type} {step:X→Option (Sum X Y)}
theorem nv' {f:Nat} {x x':X} (h:step x=some (.inl x')):iter step (f + 1) x=iter step f x':=by simp only [iter,h,noj']
theorem no' {f:Nat} {x:X} {y:Y} (h:step x=some (.inr y)):iter step (f + 1) x=some y:=by simp only [iter,h,noj']
theorem n07':∀ {f:Nat} {x:X} {y:Y},iter step f x=some y→∀ {g:Nat},f≤g→iter step g x=some y
 | 0,_,_,h,_,_=>by simp [iter] at h
 | f + 1,x,y,h,0,hg=>by omega
 | f + 1,x,y,h,g + 1,hg=>by
  simp only [iter] at h ⊢;cases hs:step x with
  | none=>rw [hs] at h; simp [noj'] at h
  | some z=>
   rw [hs] at h;cases z with
   | inl x'=>exact n07' (f:=f) (g:=g) h (by omega)
   | inr y'=>exact h
theorem ng' {f:Nat} {x:X} {y:Y} (h:iter step f x=some y) (hf:f≤18446744073709551616):iter step fuel x=some y:=n07' h hf
theorem n6y' (Q:X→Y→Prop) (m:X→Nat) (hs:∀ x y,Q x y→(∃ x',step x=some (.inl x')∧Q x' y∧m x' < m x)∨step x=some (.inr y)):∀ (n:Nat) (x:X) (y:Y),Q x y→m x≤n→iter step (n + 1) x=some y
 | n,x,y,hq,hm=>by
  rcases hs x y hq with ⟨x',h1,h2,h3⟩ | h1
  ·cases n with
   | zero=>omega
   | succ n=>rw [nv' h1]; exact n6y' Q m hs n x' y h2 (by omega)
  ·exact no' h1
theorem nbhs' (Q:X→Y→Prop) (m:X→Nat) (hs:∀ x y,Q x y→(∃ x',step x=some (.inl x')∧Q x' y∧m x' < m x)∨step x=some (.inr y)) {x:X} {y:Y} (hq:Q x y) (hm:m x < 18446744073709551616):iter step fuel x=some y:=
 ng' (n6y' Q m hs (m x) x y hq (Nat.le_refl _)) hm
def foldN {S:Type} (h:Nat→S→S):Nat→Nat→S→S
 | 0,_,s=>s
 | m + 1,i,s=>foldN h m (i + 1) (h i s)
theorem nz' {S:Type} (N:Nat) (g:Nat→S→X) (h:Nat→S→S) (inv:Nat→S→Prop) (y:S→Y) (h1:∀ i s,i < N→inv i s→step (g i s)=some (.inl (g (i + 1) (h i s)))∧inv (i + 1) (h i s))
  (h2:∀ s,inv N s→step (g N s)=some (.inr (y s))):∀ (m i:Nat) (s:S),i + m=N→inv i s→iter step (m + 1) (g i s)=some (y (foldN h m i s))∧inv N (foldN h m i s)
 | 0,i,s,hi,hs=>by
  have:i=N:=by omega
  subst this;exact ⟨no' (h2 s hs),hs⟩
 | m + 1,i,s,hi,hs=>by
  obtain ⟨q1,q2⟩:=h1 i s (by omega) hs
  rw [nv' q1];exact nz' N g h inv y h1 h2 m (i + 1) (h i s) (by omega) q2
end
def noB:ByteArray:=⟨#[]⟩
theorem nbdj' (d:ByteArray) {k:Nat} (h:k≤d.size):(d.extract 0 k).size=k:=by simp; omega
theorem n3t' (d:ByteArray) {a b c:Nat} (h:a≤b) (h':b≤c):d.extract a b++d.extract b c=d.extract a c:=by
 apply ByteArray.ext;simp;rw [Nat.min_eq_left h,Nat.max_eq_right h']
theorem nye' (a:ByteArray):a++noB=a:=by apply ByteArray.ext; simp [noB]
theorem n0h' (d:ByteArray) (k:Nat):d.extract k k=noB:=by apply ByteArray.ext; simp [noB]
end Go.Ovl
namespace Go.Ovl
open Go Go.Ab
set_option maxRecDepth 100000
def Sat {α:Type} (o:Option α) (P:α→Prop):Prop:=∃ a,o=some a∧P a
section
variable {α β:Type} {P:α→Prop} {Q:β→Prop}
theorem Sat.ret {a:α} (h:P a):Sat (some a) P:=⟨a,rfl,h⟩
theorem Sat.bindE {o:Option β} {b:β} {f:β→Option α} (h:o=some b) (h2:Sat (f b) P):Sat (Option.bind o f) P:=by
 subst h; exact h2
theorem Sat.bindS {o:Option β} {f:β→Option α} (h:Sat o Q) (h2:∀ b,Q b→Sat (f b) P):Sat (Option.bind o f) P:=by
 obtain ⟨b,h,hq⟩:=h;subst h; exact h2 b hq
theorem Sat.bif {c:Bool} {x y:Option α} (h1:c=true→Sat x P) (h2:c=false→Sat y P):Sat (bif c then x else y) P:=by
 cases c with
 | true=>exact h1 rfl
 | false=>exact h2 rfl
theorem Sat.bifT {c:Bool} {x y:Option α} (h:c=true) (h1:Sat x P):Sat (bif c then x else y) P:=by subst h; exact h1
theorem Sat.bifF {c:Bool} {x y:Option α} (h:c=false) (h1:Sat y P):Sat (bif c then x else y) P:=by subst h; exact h1
theorem Sat.bindC {c:Bool} {x y:Option β} {f:β→Option α} (h1:c=true→Sat (Option.bind x f) P) (h2:c=false→Sat (Option.bind y f) P):Sat (Option.bind (bif c then x else y) f) P:=by
 cases c with
 | true=>exact h1 rfl
 | false=>exact h2 rfl
theorem Sat.bindCT {c:Bool} {x y:Option β} {f:β→Option α} (h:c=true) (h1:Sat (Option.bind x f) P):Sat (Option.bind (bif c then x else y) f) P:=by subst h; exact h1
theorem Sat.bindCF {c:Bool} {x y:Option β} {f:β→Option α} (h:c=false) (h1:Sat (Option.bind y f) P):Sat (Option.bind (bif c then x else y) f) P:=by subst h; exact h1
theorem Sat.bindR {b:β} {f:β→Option α} (h2:Sat (f b) P):Sat (Option.bind (some b) f) P:=h2
theorem Sat.bindA {γ:Type} {o:Option γ} {g:γ→Option β} {f:β→Option α} (h:Sat (Option.bind o fun x=>Option.bind (g x) f) P):Sat (Option.bind (Option.bind o g) f) P:=by
 cases o with
 | none=>exact h
 | some a=>exact h
theorem Sat.mono {R:α→Prop} {o:Option α} (h:Sat o P) (h2:∀ a,P a→R a):Sat o R:=by
 obtain ⟨a,h,hp⟩:=h;exact ⟨a,h,h2 a hp⟩
theorem Sat.any {o:Option α} (h:Sat o P):Sat o fun _=>True:=h.mono fun _ _=>trivial
theorem Sat.val {a:α} {o:Option α} (h:o=some a) (hp:P a):Sat o P:=⟨a,h,hp⟩
theorem Sat.ex {o:Option α} (h:Sat o P):∃ a,o=some a∧P a:=h
end
theorem Sat.iterN {X Y:Type} {step:X→Option (Sum X Y)} (I:Nat→X→Prop) (P:Y→Prop) (hs:∀ k x,I k x→Sat (step x) fun r=>match r with | .inl x'=>∃ k',k=k' + 1∧I k' x' | .inr y=>P y):∀ (k:Nat) (x:X),I k x→Sat (iter step (k + 1) x) P
 | k,x,hi=>by
  obtain ⟨r,h1,h2⟩:=hs k x hi
  match r,h1,h2 with
  | .inr y,h1,h2=>exact ⟨y,no' h1,h2⟩
  | .inl x',h1,⟨k',hk,hi'⟩=>
   subst hk;rw [nv' h1];exact Sat.iterN I P hs k' x' hi'
theorem Sat.loop {X Y:Type} {step:X→Option (Sum X Y)} (I:Nat→X→Prop) {P:Y→Prop} (hs:∀ k x,I k x→Sat (step x) fun r=>match r with | .inl x'=>∃ k',k=k' + 1∧I k' x' | .inr y=>P y) (k:Nat) {x:X} (hi:I k x) (hk:k < 18446744073709551616):Sat (iter step fuel x) P:=by
 obtain ⟨y,h1,h2⟩:=Sat.iterN I P hs k x hi;exact ⟨y,ng' h1 (by omega),h2⟩
theorem nje' (n:Int):decide ((0:Int)≤IntKind.u64.wrap n)=true:=by
 simp only [IntKind.wrap,IntKind.signed,IntKind.bits];simp;exact Int.emod_nonneg _ (by decide)
class SatT {α:Type} (o:Option α):Prop where
 out:Sat o fun _=>True
section
variable {α β:Type} {P:α→Prop}
theorem Sat.bT {c:Bool} {x y:Option α} (h1:Sat x P) (h:c=true:=by with_reducible first | exact Eq.refl true | exact nje' _ | assumption):Sat (bif c then x else y) P:=Sat.bifT h h1
theorem Sat.bF {c:Bool} {x y:Option α} (h1:Sat y P) (h:c=false:=by with_reducible first | exact Eq.refl false | assumption):Sat (bif c then x else y) P:=Sat.bifF h h1
theorem Sat.cT {c:Bool} {x y:Option β} {f:β→Option α} (h1:Sat (Option.bind x f) P) (h:c=true:=by with_reducible first | exact Eq.refl true | exact nje' _ | assumption):Sat (Option.bind (bif c then x else y) f) P:=Sat.bindCT h h1
theorem Sat.cF {c:Bool} {x y:Option β} {f:β→Option α} (h1:Sat (Option.bind y f) P) (h:c=false:=by with_reducible first | exact Eq.refl false | assumption):Sat (Option.bind (bif c then x else y) f) P:=Sat.bindCF h h1
theorem Sat.sT {o:Option β} {f:β→Option α} (h2:∀ b,True→Sat (f b) P) (h:Sat o (fun _=>True):=by with_reducible first | assumption | exact SatT.out):Sat (Option.bind o f) P:=Sat.bindS h h2
theorem Sat.go {o:Option α} (h:Sat o P:=by repeat' with_reducible first | refine Sat.bindR ?_ | refine Sat.bindA ?_ | refine Sat.cT ?_ | refine Sat.cF ?_ | refine Sat.bindC (fun _=>?_) (fun _=>?_) | refine Sat.bT ?_ | refine Sat.bF ?_ | refine Sat.bif (fun _=>?_) (fun _=>?_) | refine Sat.sT fun _ _=>?_ | exact Sat.ret trivial):Sat o P:=h
end
structure Bldg where
 D0:Int
 E0:Int
 I0:Int
 Q0:Int
 J0:Nat
 K0:Nat
 P0:Nat
 A0:List Car
theorem nba' {α:Type} {l:List α} {i:Nat} (d:α) (h:i < l.length):l.drop i=l.getD i d :: l.drop (i + 1):=by
 rw [List.drop_eq_getElem_cons h]; simp [h]
def inR (lo hi n:Int):Bool:=decide (lo≤n)&&decide (n≤hi)
theorem ns' {lo hi n:Int}:inR lo hi n=true↔lo≤n∧n≤hi:=by simp [inR]
theorem nh1' (n lo hi:Int):ned' n lo hi=some ((inR lo hi n,()),()):=by
 unfold ned' inR;cases h:decide (lo≤n) <;> simp
def nf5' (fl:Int) (c:Car):Bool:=
 [c.S1,c.C3,c.G3,c.M3,c.V2,c.U2,c.L3].all (inR 1 10000)&&(inR 0 10000 c.O2&&(decide (c.U2≤c.L3)&&inR 0 (IntKind.i64.wrap (fl - 1)) c.Q3))
def Bldg.tup (b:Bldg):Int×Int×Int×Int×Nat×Nat×Nat×List Car×Unit:=(b.D0,b.E0,b.I0,b.Q0,b.J0,b.K0,b.P0,b.A0,())
def Car.tup (c:Car):Int×Int×Int×Int×Int×Int×Int×Int×Int×Unit:=(c.S1,c.C3,c.G3,c.O2,c.M3,c.V2,c.U2,c.L3,c.Q3,())
theorem nzf' (b:Bldg) (c:Car) {L:List Int} (hL:L.length=8) :
  nj4' (((),(),L,(0:Int),()),(b.tup,c.tup,()))=some (if (L.take 7).all (inR 1 10000) then .inl (((),(),()),(b.tup,c.tup,())) else .inr ((false,()),())):=by
 have key:∀ (m i:Nat),i + m=7→iter (fun x=>letI a:=x.2.2.1.2.2; letI b:=x.2.1.2.2; letI c:=a.2.2; letI d:=b.2.2; nc3' x.1.2.2.1 x.1.2.2.2.1 x.2.1.1 x.2.1.2.1 b.1 b.2.1 d.1 d.2.1 d.2.2.1 d.2.2.2.1 x.2.2.1.1 x.2.2.1.2.1 a.1 a.2.1 c.1 c.2.1 c.2.2.1 c.2.2.2.1 c.2.2.2.2.1) (m + 1) (((),(),L,(i:Int),()),(b.tup,c.tup,()))=some (if ((L.take 7).drop i).all (inR 1 10000) then .inl (((),(),()),(b.tup,c.tup,())) else .inr ((false,()),())):=by
  intro m
  induction m with
  | zero=>
   intro i hi';refine no' ?_;show nc3' L (i:Int) b.D0 b.E0 b.I0 b.Q0 b.J0 b.K0 b.P0 b.A0 c.S1 c.C3 c.G3 c.O2 c.M3 c.V2 c.U2 c.L3 c.Q3=_;unfold nc3';have e:decide ((i:Int) < 7)=false:=by simp; omega
   have hd:(L.take 7).drop i=[]:=List.drop_eq_nil_of_le (by simp; omega)
   rw [e,hd]; rfl
  | succ m ih=>
   intro i hi';have e:decide ((i:Int) < 7)=true:=by simp; omega
   have ib:inB (i:Int) L.length=true:=na' (by omega) (by omega)
   have tn:Int.toNat (i:Int)=i:=by omega
   have w:IntKind.i64.wrap ((i:Int) + 1)=((i + 1:Nat):Int):=by rw [nc' (by omega) (by omega)]; omega
   have hg:(L.take 7).getD i 0=L.getD i 0:=by
    simp only [List.getD_eq_getElem?_getD,List.getElem?_take];rw [if_pos (by omega)]
   rw [nba' (0:Int) (show i < (L.take 7).length by simp; omega),hg,List.all_cons]
   cases hr:inR 1 10000 (L.getD i 0) with
   | false=>
    refine (no' (y:=.inr ((false,()),())) ?_).trans rfl;show nc3' L (i:Int) b.D0 b.E0 b.I0 b.Q0 b.J0 b.K0 b.P0 b.A0 c.S1 c.C3 c.G3 c.O2 c.M3 c.V2 c.U2 c.L3 c.Q3=_;unfold nc3';simp only [e,ib,tn,nh1',hr,cond_true,Option.bind_some,Bool.not_false]
   | true=>
    refine (nv' (x':=(((),(),L,((i + 1:Nat):Int),()),(b.tup,c.tup,()))) ?_).trans ?_
    ·show nc3' L (i:Int) b.D0 b.E0 b.I0 b.Q0 b.J0 b.K0 b.P0 b.A0 c.S1 c.C3 c.G3 c.O2 c.M3 c.V2 c.U2 c.L3 c.Q3=_
     unfold nc3';simp only [e,ib,tn,w,nh1',hr,cond_true,cond_false,Option.bind_some,Bool.not_true];rfl
    ·rw [ih (i + 1) (by omega),Bool.true_and]
 have h0:=key 7 0 rfl;rw [List.drop_zero] at h0;exact ng' h0 (by omega)
theorem nzz' (b:Bldg) (c:Car):nns' b.D0 b.E0 b.I0 b.Q0 b.J0 b.K0 b.P0 b.A0 c.S1 c.C3 c.G3 c.O2 c.M3 c.V2 c.U2 c.L3 c.Q3=some ((nf5' b.D0 c,()),()):=by
 unfold nns' nf5';by_cases h1:c.O2 < 0
 ·have d1:decide (c.O2 < 0)=true:=by simpa using h1
  have d2:inR 0 10000 c.O2=false:=by rw [inR,show decide (0≤c.O2)=false from decide_eq_false (by omega),Bool.false_and]
  rw [d1,cond_true,d2,Bool.false_and,Bool.and_false]
 ·have d1:decide (c.O2 < 0)=false:=by simpa using h1
  rw [d1,cond_false];by_cases h2:10000 < c.O2
  ·have d1:decide (10000 < c.O2)=true:=by simpa using h2
   have d2:inR 0 10000 c.O2=false:=by rw [inR,show decide (c.O2≤10000)=false from decide_eq_false (by omega),Bool.and_false]
   rw [d1,cond_true,d2,Bool.false_and,Bool.and_false]
  ·have d1:decide (10000 < c.O2)=false:=by simpa using h2
   have d2:inR 0 10000 c.O2=true:=ns'.2 ⟨by omega,by omega⟩
   rw [d1,cond_false,d2,Bool.true_and];have hl:=nzf' b c (L:=[c.S1,c.C3,c.G3,c.M3,c.V2,c.U2,c.L3,IntKind.i64.wrap (c.O2 + 1)]) rfl;rw [show ([c.S1,c.C3,c.G3,c.M3,c.V2,c.U2,c.L3,IntKind.i64.wrap (c.O2 + 1)].take 7)=[c.S1,c.C3,c.G3,c.M3,c.V2,c.U2,c.L3] from rfl] at hl
   simp only [Bldg.tup,Car.tup] at hl;rw [hl];cases [c.S1,c.C3,c.G3,c.M3,c.V2,c.U2,c.L3].all (inR 1 10000) with
   | false=>rfl
   | true=>
    simp only [if_true,Option.bind_some,Bool.true_and,nh1'];by_cases h:c.U2≤c.L3
    ·have:decide (c.U2≤c.L3)=true:=by simpa using h
     simp only [this,cond_true,Option.bind_some,Bool.true_and]
    ·have:decide (c.U2≤c.L3)=false:=by simpa using h
     simp only [this,cond_false,Option.bind_some,Bool.false_and]
def Bldg.loadsOK (b:Bldg):Bool:=((Go.FloatKind.format Go.FloatKind.f64).order 0 b.J0==some Ordering.lt)&&(((Go.FloatKind.format Go.FloatKind.f64).order b.J0 b.K0==some Ordering.lt)&&(((Go.FloatKind.format Go.FloatKind.f64).order b.K0 b.P0==some Ordering.lt)&&((Go.FloatKind.format Go.FloatKind.f64).order b.P0 9218868437227405311==some Ordering.lt||(Go.FloatKind.format Go.FloatKind.f64).order b.P0 9218868437227405311==some Ordering.eq)))
def Bldg.code (b:Bldg):Int:=
 bif !inR 2 32 b.D0 then 10 else bif !inR 1 8 (b.A0.length:Int) then 11 else
 bif !(inR 1 16 b.E0&&inR 1 10000 b.Q0&&b.A0.all (nf5' b.D0)) then 12 else bif !b.loadsOK then 13 else
 bif !inR (18 * (b.A0.length:Int) + 24) 65536 b.I0 then 14 else 0
def noCar:Car:=⟨0,0,0,0,0,0,0,0,0⟩
theorem nzi' (b:Bldg) (hl:b.A0.length≤8) (g:Bool) :
  nkc' (((),g,(0:Int),()),(b.tup,()))=some (((),g&&b.A0.all (nf5' b.D0),()),(b.tup,())):=by
 have key:∀ (m i:Nat) (g:Bool),i + m=b.A0.length→iter (fun x=>letI a:=x.2.1.2.2; letI b:=a.2.2; nfa' x.1.2.1 x.1.2.2.1 x.2.1.1 x.2.1.2.1 a.1 a.2.1 b.1 b.2.1 b.2.2.1 b.2.2.2.1) (m + 1) (((),g,(i:Int),()),(b.tup,()))=some (((),g&&(b.A0.drop i).all (nf5' b.D0),()),(b.tup,())):=by
  intro m
  induction m with
  | zero=>
   intro i g hi';refine no' ?_;show nfa' g (i:Int) b.D0 b.E0 b.I0 b.Q0 b.J0 b.K0 b.P0 b.A0=_;unfold nfa';have e:decide ((i:Int) < (b.A0.length:Int))=false:=by simp; omega
   rw [e,show i=b.A0.length by omega,List.drop_length]
   simp only [cond_false,List.all_nil,Bool.and_true,Bldg.tup]
  | succ m ih=>
   intro i g hi';have e:decide ((i:Int) < (b.A0.length:Int))=true:=by simp; omega
   have ib:inB (i:Int) b.A0.length=true:=na' (by omega) (by omega)
   have tn:Int.toNat (i:Int)=i:=by omega
   have w:IntKind.i64.wrap ((i:Int) + 1)=((i + 1:Nat):Int):=by rw [nc' (by omega) (by omega)]; omega
   rw [nba' noCar (show i < b.A0.length by omega),List.all_cons]
   refine (nv' (x':=(((),g&&nf5' b.D0 (b.A0.getD i noCar),((i + 1:Nat):Int),()),(b.tup,()))) ?_).trans ?_
   ·show nfa' g (i:Int) b.D0 b.E0 b.I0 b.Q0 b.J0 b.K0 b.P0 b.A0=_
    unfold nfa';simp only [e,ib,tn,cond_true];rw [nzz' b (b.A0.getD i ⟨0,0,0,0,0,0,0,0,0⟩)];cases g
    ·simp only [cond_false,Option.bind_some,Bool.false_and,w]; rfl
    ·simp only [cond_true,Option.bind_some,Bool.true_and,w]; rfl
   ·rw [ih (i + 1) _ (by omega),Bool.and_assoc]
 have h0:=key b.A0.length 0 g (by omega)
 rw [List.drop_zero] at h0;exact ng' h0 (by omega)
theorem ny' (b:Bldg):n3' b.D0 b.E0 b.I0 b.Q0 b.J0 b.K0 b.P0 b.A0=some ((b.code,()),()):=by
 unfold n3' Bldg.code;simp only [nh1',Option.bind_some];cases inR 2 32 b.D0
 ·rfl
 cases hc:inR 1 8 (b.A0.length:Int)
 ·rfl
 have hlen:b.A0.length≤8:=by have:=(ns'.1 hc).2; omega
 have hg:(bif inR 1 16 b.E0 then some (((),inR 1 10000 b.Q0,()),(b.tup,())) else some (((),false,()),(b.tup,())))=some (((),inR 1 16 b.E0&&inR 1 10000 b.Q0,()),(b.tup,())):=by
  cases inR 1 16 b.E0 <;> rfl
 simp only [Bldg.tup] at hg;simp only [Bool.not_true,cond_false,hg,Option.bind_some];have hl:=nzi' b hlen (inR 1 16 b.E0&&inR 1 10000 b.Q0);simp only [Bldg.tup] at hl;rw [hl,Option.bind_some];cases inR 1 16 b.E0&&inR 1 10000 b.Q0&&b.A0.all (nf5' b.D0)
 ·rfl
 simp only [Bool.not_true,cond_false];unfold Bldg.loadsOK;cases (Go.FloatKind.format Go.FloatKind.f64).order 0 b.J0==some Ordering.lt
 ·rfl
 cases (Go.FloatKind.format Go.FloatKind.f64).order b.J0 b.K0==some Ordering.lt
 ·rfl
 cases (Go.FloatKind.format Go.FloatKind.f64).order b.K0 b.P0==some Ordering.lt
 ·rfl
 simp only [cond_true,Bool.true_and];cases ((Go.FloatKind.format Go.FloatKind.f64).order b.P0 9218868437227405311==some Ordering.lt||(Go.FloatKind.format Go.FloatKind.f64).order b.P0 9218868437227405311==some Ordering.eq)
 ·rfl
 simp only [Bool.not_true,cond_false];rw [show IntKind.i64.wrap (IntKind.i64.wrap (18 * (b.A0.length:Int)) + 24)=18 * (b.A0.length:Int) + 24 by rw [nc' (n:=18 * (b.A0.length:Int)) (by omega) (by omega),nc' (by omega) (by omega)]]
 cases inR (18 * (b.A0.length:Int) + 24) 65536 b.I0 <;> rfl
def neg' (fl i:Nat):Car:=⟨100,2,6,5,4,2,3,10,((i % fl:Nat):Int)⟩
def nq' (fl ca:Nat):Bldg:=⟨fl,1,4000,30,4591870180066957722,4605380978949069210,4607632778762754458,(List.range ca).map (neg' fl)⟩
def Bldg.none:Bldg:=⟨0,0,0,0,0,0,0,[]⟩
theorem nw6' {fl ca:Nat} (h1:1≤fl) (h2:ca≤8):nif' fl ca=some (((),()),((nq' fl ca).tup,())):=by
 have key:∀ (m i:Nat),i + m=ca→iter (fun x=>letI a:=x.2.2.1.2.2; letI b:=x.2.1.2.2; letI c:=b.2.2; letI d:=a.2.2; neo' x.1.1 x.1.2.1 x.1.2.2.2.2.1 x.2.1.1 x.2.1.2.1 b.1 b.2.1 c.1 c.2.1 c.2.2.1 c.2.2.2.1 x.2.2.1.1 x.2.2.1.2.1 a.1 a.2.1 d.1 d.2.1 d.2.2.1 d.2.2.2.1) (m + 1) (((fl:Int),(ca:Int),(),(),(i:Int),()),(Bldg.none.tup,(nq' fl i).tup,()))=some (((),(),()),(Bldg.none.tup,(nq' fl ca).tup,())):=by
  intro m
  induction m with
  | zero=>
   intro i hi';refine no' ?_;show neo' (fl:Int) (ca:Int) (i:Int) Bldg.none.D0 Bldg.none.E0 Bldg.none.I0 Bldg.none.Q0 Bldg.none.J0 Bldg.none.K0 Bldg.none.P0 Bldg.none.A0 (nq' fl i).D0 (nq' fl i).E0 (nq' fl i).I0 (nq' fl i).Q0 (nq' fl i).J0 (nq' fl i).K0 (nq' fl i).P0 (nq' fl i).A0=_;unfold neo';have e:decide ((i:Int) < (ca:Int))=false:=by simp; omega
   rw [e,show i=ca by omega]; rfl
  | succ m ih=>
   intro i hi';refine (nv' (x':=(((fl:Int),(ca:Int),(),(),((i + 1:Nat):Int),()),(Bldg.none.tup,(nq' fl (i + 1)).tup,()))) ?_).trans (ih (i + 1) (by omega))
   show neo' (fl:Int) (ca:Int) (i:Int) Bldg.none.D0 Bldg.none.E0 Bldg.none.I0 Bldg.none.Q0 Bldg.none.J0 Bldg.none.K0 Bldg.none.P0 Bldg.none.A0 (nq' fl i).D0 (nq' fl i).E0 (nq' fl i).I0 (nq' fl i).Q0 (nq' fl i).J0 (nq' fl i).K0 (nq' fl i).P0 (nq' fl i).A0=_;unfold neo';have e:decide ((i:Int) < (ca:Int))=true:=by simp; omega
   have w:IntKind.i64.wrap ((i:Int) + 1)=((i + 1:Nat):Int):=by rw [nc' (by omega) (by omega)]; omega
   have hz:((fl:Int) != 0)=true:=by simp; omega
   have hc:∀ c:Car,Nat.ble ((nq' fl i).A0.length + [c].length) 2147483648=true:=fun c=>nh' (by simp [nq']; omega)
   have ht:Int.tmod (i:Int) (fl:Int)=((i % fl:Nat):Int):=by rw [Int.tmod_eq_emod_of_nonneg (by omega)]; norm_cast
   simp only [e,hz,hc,w,ht,cond_true];have hs:(nq' fl (i + 1)).A0=(nq' fl i).A0++[neg' fl i]:=by simp [nq',List.range_succ]
   simp only [Bldg.tup,hs];rfl
 unfold nif';have h0:ngm' (((fl:Int),(ca:Int),(),(),(0:Int),()),(Bldg.none.tup,(nq' fl 0).tup,()))=_:=ng' (key ca 0 (by omega)) (by omega)
 rw [show ngm' (((fl:Int),(ca:Int),(),(),(0:Int),()),(((0:Int),(0:Int),(0:Int),(0:Int),0,0,0,([]:List Car),()),((fl:Int),(1:Int),(4000:Int),(30:Int),4591870180066957722,4605380978949069210,4607632778762754458,([]:List Car),()),()))=_ from h0]
 rfl
end Go.Ovl
namespace Go.Ovl
open Go Go.Ab
structure Bldg.small (b:Bldg):Prop where
 lo:2≤b.D0
 hi:b.D0≤8
def u8r (n:Int):Prop:=0≤n∧n < 256
theorem u8r0:u8r 0:=⟨by decide,by decide⟩
theorem n5' {α:Type} {l:List α} (d:α) {i:Nat} (hi:i < l.length):l.getD i d ∈ l:=by
 simp only [List.getD_eq_getElem?_getD,List.getElem?_eq_getElem hi,Option.getD_some];exact List.getElem_mem hi
theorem nbdw' {α:Type} {P:α→Prop} {l:List α} (h:∀ e ∈ l,P e) {d:α} {i:Nat} (hi:i < l.length):P (l.getD i d):=h _ (n5' d hi)
theorem nn' {b:Bldg} (h:b.code=0):1≤b.A0.length∧b.A0.length≤8:=by
 unfold Bldg.code at h;cases h1:inR 1 8 (b.A0.length:Int) with
 | true=>have:=ns'.1 h1; omega
 | false=>
  rw [h1] at h;cases h2:inR 2 32 b.D0 <;> rw [h2] at h <;> simp at h
theorem nbbi' {b:Bldg} (h:b.code=0):18 * (b.A0.length:Int) + 24≤b.I0∧b.I0≤65536:=by
 unfold Bldg.code at h;cases h1:inR (18 * (b.A0.length:Int) + 24) 65536 b.I0 with
 | true=>exact ns'.1 h1
 | false=>
  rw [h1] at h;simp only [Bool.not_false,cond_true] at h
  revert h
  cases inR 2 32 b.D0 <;> cases inR 1 8 (b.A0.length:Int) <;> cases inR 1 16 b.E0 <;> cases inR 1 10000 b.Q0 <;> cases b.A0.all (nf5' b.D0) <;> cases b.loadsOK <;> (intro h; simp at h)
theorem nut' (x y:Int):decide (x < y)=!decide (y≤x):=by by_cases h:y≤x <;> simp [h] <;> omega
theorem nbhc' (x y:Int):decide (x≤y)=!decide (y < x):=by by_cases h:y < x <;> simp [h] <;> omega
def noE:Entry:=Entry.mk 0 0 0 0 false
structure Img where
 F0:List Int
 N0:List Bool
 H0:List Bool
 B0:List Entry
def Img.tup (m:Img):List Int×List Bool×List Bool×List Entry×Unit:=(m.F0,m.N0,m.H0,m.B0,())
def Img.none:Img:=⟨[],[],[],[]⟩
def callB (fl floor dir:Int):Bool:=(dir==1&&inR 0 (fl - 2) floor)||(dir==2&&inR 1 (fl - 1) floor)
def nk' (b:Bldg) (floor dir:Int):Bool:=b.code==0&&callB b.D0 floor dir
theorem nea' {b:Bldg} (hb:b.small) (floor dir:Int):ncq' b.D0 b.E0 b.I0 b.Q0 b.J0 b.K0 b.P0 b.A0 floor dir=some ((nk' b floor dir,()),()):=by
 have lo:=hb.lo;have hi:=hb.hi;have w1:IntKind.i64.wrap (b.D0 - 1)=b.D0 - 1:=nc' (by omega) (by omega)
 have w2:IntKind.i64.wrap (b.D0 - 2)=b.D0 - 2:=nc' (by omega) (by omega)
 unfold ncq' nk' callB;rw [ny',w1,w2,nh1',nh1'];simp only [Option.bind_some,bne];cases b.code==0 <;> cases dir==1 <;> cases dir==2 <;> cases inR 0 (b.D0 - 2) floor <;> rfl
def entOK (b:Bldg) (e:Entry):Bool:=nk' b e.C0 e.G0&&(decide (-2≤e.O0)&&(decide (e.O0 < (b.A0.length:Int))&&(decide (0≤e.V0)&&decide (e.V0≤255))))
def lessE (a b:Entry):Bool:=decide (a.C0 < b.C0)||(a.C0==b.C0&&decide (a.G0 < b.G0))
theorem nvv' (a b:Entry):nlf' a.C0 a.G0 a.O0 a.V0 a.Q1 b.C0 b.G0 b.O0 b.V0 b.Q1=some ((lessE a b,()),()):=by
 unfold nlf' lessE;cases decide (a.C0 < b.C0) <;> cases a.C0==b.C0 <;> rfl
def cmpI (x y:Int):Int:=bif decide (x < y) then -1 else bif decide (y < x) then 1 else 0
def entsF (b:Bldg):Option Entry→List Entry→Bool
 | _,[]=>true
 | p,e :: t=>entOK b e&&((match p with | some q=>lessE q e | none=>true)&&entsF b (some e) t)
def Img.ok (b:Bldg) (m:Img):Bool:=
 b.code==0&&((m.F0.length:Int)==(b.A0.length:Int)&&((m.N0.length:Int)==(b.A0.length:Int)&&((m.H0.length:Int)==(b.A0.length:Int)&&(m.F0.all (inR 0 4)&&entsF b Option.none m.B0))))
def prevE (l:List Entry) (i:Nat):Option Entry:=if i=0 then none else some (l.getD (i - 1) noE)
theorem n8n' {b:Bldg} {l:List Entry} {i:Nat} (h:i < l.length):entsF b (prevE l i) (l.drop i)=(entOK b (l.getD i noE)&&((match prevE l i with | some q=>lessE q (l.getD i noE) | none=>true)&&entsF b (prevE l (i + 1)) (l.drop (i + 1)))):=by
 rw [nba' noE h];simp only [entsF,prevE,Nat.succ_ne_zero,if_false,Nat.add_sub_cancel]
section
variable {b:Bldg} (hb:b.small) (m:Img)
include hb
theorem n1s' (n:Int) (hn:n=(b.A0.length:Int)) (hm:m.B0.length≤maxLen):nh6' (((),(),n,(0:Int),()),(b.tup,m.tup,()))=some (if entsF b none m.B0 then .inl ((),()) else .inr ((false,()),())):=by
 have hmx:maxLen≤9223372036854775807:=by decide
 have key:∀ (k i:Nat),i + k=m.B0.length→iter (fun x=>letI a:=x.2.1.2.2; letI b:=a.2.2; letI c:=x.2.2.1; ncr' x.1.2.2.1 x.1.2.2.2.1 x.2.1.1 x.2.1.2.1 a.1 a.2.1 b.1 b.2.1 b.2.2.1 b.2.2.2.1 c.1 c.2.1 c.2.2.1 c.2.2.2.1) (k + 1) (((),(),n,(i:Int),()),(b.tup,m.tup,()))=some (if entsF b (prevE m.B0 i) (m.B0.drop i) then .inl ((),()) else .inr ((false,()),())):=by
  intro k
  induction k with
  | zero=>
   intro i hi;refine no' ?_;show ncr' n (i:Int) b.D0 b.E0 b.I0 b.Q0 b.J0 b.K0 b.P0 b.A0 m.F0 m.N0 m.H0 m.B0=_;unfold ncr';have e:decide ((i:Int) < (m.B0.length:Int))=false:=by simp; omega
   rw [e,show i=m.B0.length by omega,List.drop_length]; rfl
  | succ k ih=>
   intro i hi;have hi':i < m.B0.length:=by omega
   have e:decide ((i:Int) < (m.B0.length:Int))=true:=by simp; omega
   have ib:inB (i:Int) m.B0.length=true:=na' (by omega) (by omega)
   have w:IntKind.i64.wrap ((i:Int) + 1)=((i + 1:Nat):Int):=by rw [nc' (by omega) (by omega)]; omega
   have go:∀ p:Bool,(ncr' n (i:Int) b.D0 b.E0 b.I0 b.Q0 b.J0 b.K0 b.P0 b.A0 m.F0 m.N0 m.H0 m.B0=some (bif p then .inr (.inr ((false,()),())) else .inl (((),(),n,((i + 1:Nat):Int),()),(b.tup,m.tup,()))))→(entsF b (prevE m.B0 i) (m.B0.drop i)=(!p&&entsF b (prevE m.B0 (i + 1)) (m.B0.drop (i + 1))))→iter (fun x=>letI a:=x.2.1.2.2; letI b:=a.2.2; letI c:=x.2.2.1; ncr' x.1.2.2.1 x.1.2.2.2.1 x.2.1.1 x.2.1.2.1 a.1 a.2.1 b.1 b.2.1 b.2.2.1 b.2.2.2.1 c.1 c.2.1 c.2.2.1 c.2.2.2.1) (k + 1 + 1) (((),(),n,(i:Int),()),(b.tup,m.tup,()))=some (if entsF b (prevE m.B0 i) (m.B0.drop i) then .inl ((),()) else .inr ((false,()),())):=fun p h1 h2=>by
    rw [h2];cases p with
    | true=>exact no' h1
    | false=>rw [Bool.not_false,Bool.true_and]; exact (nv' h1).trans (ih (i + 1) (by omega))
   have hstep:=n8n' (b:=b) hi';have hc:=nea' hb (m.B0.getD i noE).C0 (m.B0.getD i noE).G0;refine go (!(entOK b (m.B0.getD i noE)&&(match prevE m.B0 i with | some q=>lessE q (m.B0.getD i noE) | none=>true))) ?_ (by rw [hstep,Bool.not_not,Bool.and_assoc])
   unfold ncr';rw [e,ib,show (Entry.mk 0 0 0 0 false)=noE from rfl]
   simp only [cond_true,Int.toNat_natCast,hc,Option.bind_some];unfold entOK;have q1:decide ((m.B0.getD i noE).O0 < -2)=!decide (-2≤(m.B0.getD i noE).O0):=nut' _ _;have q2:decide (n≤(m.B0.getD i noE).O0)=!decide ((m.B0.getD i noE).O0 < (b.A0.length:Int)):=by rw [hn]; exact nbhc' _ _
   have q3:decide ((m.B0.getD i noE).V0 < 0)=!decide (0≤(m.B0.getD i noE).V0):=nut' _ _;have q4:decide (255 < (m.B0.getD i noE).V0)=!decide ((m.B0.getD i noE).V0≤255):=nut' _ _;rw [q1,q2,q3,q4];cases nk' b (m.B0.getD i noE).C0 (m.B0.getD i noE).G0 with
   | false=>rfl
   | true=>
    cases decide (-2≤(m.B0.getD i noE).O0) with
    | false=>rfl
    | true=>
     cases decide ((m.B0.getD i noE).O0 < (b.A0.length:Int)) with
     | false=>rfl
     | true=>
      cases decide (0≤(m.B0.getD i noE).V0) with
      | false=>rfl
      | true=>
       cases decide ((m.B0.getD i noE).V0≤255) with
       | false=>rfl
       | true=>
        simp only [Bool.not_true,cond_false,Bool.and_self,Bool.true_and];by_cases g:(0:Int) < (i:Int)
        ·have w1:IntKind.i64.wrap ((i:Int) - 1)=((i - 1:Nat):Int):=by rw [nc' (by omega) (by omega)]; omega
         have ib1:inB ((i - 1:Nat):Int) m.B0.length=true:=na' (by omega) (by omega)
         have hl:=nvv' (m.B0.getD (i - 1) noE) (m.B0.getD i noE);rw [decide_eq_true g,w1,ib1];simp only [cond_true,Int.toNat_natCast,hl,Option.bind_some,w];rw [show prevE m.B0 i=some (m.B0.getD (i - 1) noE) from if_neg (by omega)]
         simp only;cases lessE (m.B0.getD (i - 1) noE) (m.B0.getD i noE) <;> rfl
        ·have:i=0:=by omega
         subst this;rw [decide_eq_false g];simp only [cond_false,Option.bind_some,w];rfl
 have h:=ng' (key m.B0.length 0 (by omega)) (by omega)
 exact h
omit hb in
theorem n1t' (n:Int) (hn:n=(m.F0.length:Int)) (hm:m.F0.length≤maxLen):nh7' (((),(),n,(0:Int),()),(b.tup,m.tup,()))=some (if m.F0.all (inR 0 4) then .inl (((),(),n,()),(b.tup,m.tup,())) else .inr ((false,()),())):=by
 have hmx:maxLen≤9223372036854775807:=by decide
 subst hn
 have key:∀ (k i:Nat),i + k=m.F0.length→iter (fun x=>letI a:=x.2.1.2.2; letI b:=a.2.2; letI c:=x.2.2.1; nd1' x.1.2.2.1 x.1.2.2.2.1 x.2.1.1 x.2.1.2.1 a.1 a.2.1 b.1 b.2.1 b.2.2.1 b.2.2.2.1 c.1 c.2.1 c.2.2.1 c.2.2.2.1) (k + 1) (((),(),(m.F0.length:Int),(i:Int),()),(b.tup,m.tup,()))=some (if (m.F0.drop i).all (inR 0 4) then .inl (((),(),(m.F0.length:Int),()),(b.tup,m.tup,())) else .inr ((false,()),())):=by
  intro k
  induction k with
  | zero=>
   intro i hi;refine no' ?_;show nd1' (m.F0.length:Int) (i:Int) b.D0 b.E0 b.I0 b.Q0 b.J0 b.K0 b.P0 b.A0 m.F0 m.N0 m.H0 m.B0=_;unfold nd1';have e:decide ((i:Int) < (m.F0.length:Int))=false:=by simp; omega
   rw [e,show i=m.F0.length by omega,List.drop_length]; rfl
  | succ k ih=>
   intro i hi;have hi':i < m.F0.length:=by omega
   have e:decide ((i:Int) < (m.F0.length:Int))=true:=by simp; omega
   have ib:inB (i:Int) m.F0.length=true:=na' (by omega) (by omega)
   have w:IntKind.i64.wrap ((i:Int) + 1)=((i + 1:Nat):Int):=by rw [nc' (by omega) (by omega)]; omega
   rw [nba' (0:Int) hi',List.all_cons]
   have hs:nd1' (m.F0.length:Int) (i:Int) b.D0 b.E0 b.I0 b.Q0 b.J0 b.K0 b.P0 b.A0 m.F0 m.N0 m.H0 m.B0=some (bif inR 0 4 (m.F0.getD i 0) then .inl (((),(),(m.F0.length:Int),((i + 1:Nat):Int),()),(b.tup,m.tup,())) else .inr (.inr ((false,()),()))):=by
    unfold nd1';rw [e,ib,w];simp only [cond_true,Int.toNat_natCast];unfold inR;by_cases g1:m.F0.getD i 0 < 0
    ·rw [decide_eq_true g1,decide_eq_false (show ¬ 0≤m.F0.getD i 0 by omega)]; rfl
    ·rw [decide_eq_false g1,decide_eq_true (show 0≤m.F0.getD i 0 by omega)]
     by_cases g2:4 < m.F0.getD i 0
     ·rw [decide_eq_true g2,decide_eq_false (show ¬ m.F0.getD i 0≤4 by omega)]; rfl
     ·rw [decide_eq_false g2,decide_eq_true (show m.F0.getD i 0≤4 by omega)]; rfl
   cases hq:inR 0 4 (m.F0.getD i 0) with
   | true=>rw [hq] at hs; exact (nv' hs).trans (ih (i + 1) (by omega))
   | false=>rw [hq] at hs; exact no' hs
 have h:=ng' (key m.F0.length 0 (by omega)) (by omega)
 exact h
theorem nbk' (hp:m.F0.length≤maxLen) (he:m.B0.length≤maxLen):n7' b.D0 b.E0 b.I0 b.Q0 b.J0 b.K0 b.P0 b.A0 m.F0 m.N0 m.H0 m.B0=some ((m.ok b,()),()):=by
 unfold n7' Img.ok;rw [ny'];simp only [Option.bind_some,bne];cases b.code==0 with
 | false=>rfl
 | true=>
  cases hq:(m.F0.length:Int)==(b.A0.length:Int) with
  | false=>rfl
  | true=>
   cases (m.N0.length:Int)==(b.A0.length:Int) with
   | false=>rfl
   | true=>
    cases (m.H0.length:Int)==(b.A0.length:Int) with
    | false=>rfl
    | true=>
     have hq':(m.F0.length:Int)=(b.A0.length:Int):=by simpa using hq
     have h0:=n1t' (b:=b) m (b.A0.length:Int) hq'.symm hp;have h1:=n1s' hb m (b.A0.length:Int) rfl he;unfold Bldg.tup Img.tup at h0 h1;simp only [Bool.not_true,cond_false,h0,Option.bind_some,Bool.true_and];cases m.F0.all (inR 0 4) with
     | false=>rfl
     | true=>
      simp only [if_true,h1,Option.bind_some,Bool.true_and];cases entsF b none m.B0 <;> rfl
end
theorem n0o' (n lo hi:Int):nkm' n lo hi=some ((inR lo hi n,()),()):=by
 unfold nkm' inR;cases decide (lo≤n) <;> rfl
def carR (b:Bldg) (r:Record):Bool:=inR 0 ((b.A0.length:Int) - 1) r.O0&&(r.C0==0&&r.G0==0)
def np' (b:Bldg) (r:Record):Bool:=
 b.code==0&&(bif r.U0==1 then nk' b r.C0 r.G0&&(r.O0==0&&r.U1==0)
 else bif r.U0==2 then nk' b r.C0 r.G0&&(r.O0==0&&r.U1==0)
 else bif r.U0==3 then nk' b r.C0 r.G0&&(inR (-2) ((b.A0.length:Int) - 1) r.O0&&r.U1==0)
 else bif r.U0==4 then carR b r&&inR 0 4 r.U1
 else bif r.U0==5 then carR b r&&inR 0 1 r.U1
 else bif r.U0==6 then carR b r&&inR 0 1 r.U1
 else bif r.U0==7 then nk' b r.C0 r.G0&&(inR 0 1 r.O0&&inR 0 255 r.U1)
 else false)
theorem nmc' {b:Bldg} (hb:b.small) (hc:b.A0.length≤100) (r:Record):nfz' b.D0 b.E0 b.I0 b.Q0 b.J0 b.K0 b.P0 b.A0 r.U0 r.C0 r.G0 r.O0 r.U1=some ((np' b r,()),()):=by
  have w:IntKind.i64.wrap ((b.A0.length:Int) - 1)=(b.A0.length:Int) - 1:=nc' (by omega) (by omega)
  unfold nfz' np' carR;rw [ny',nea' hb,n0o',w];simp only [Option.bind_some,bne,n0o'];cases b.code==0 with
  | false=>rfl
  | true=>
    simp only [Bool.not_true,cond_false,Bool.true_and]
    have k:∀ (q:Bool) {x y z:Option ((Bool×Unit)×Unit)} {u v:Bool},(q=true→x=some ((u,()),()))→(q=false→y=some ((v,()),()))→(bif q then x else y)=some (((bif q then u else v),()),()):=fun q _ _ _ _ _ h1 h2=>by
      cases q
      · exact h2 rfl
      · exact h1 rfl
    cases inR 0 ((b.A0.length:Int) - 1) r.O0 <;> cases r.C0==0 <;> cases r.G0==0 <;>
      (simp only [cond_true,cond_false,Option.bind_some,Bool.and_self,Bool.and_true,Bool.and_false,Bool.false_and,Bool.true_and]
       refine k _ (z:=none) (fun _=>?_) fun _=>k _ (z:=none) (fun _=>?_) fun _=>k _ (z:=none) (fun _=>?_) fun _=>k _ (z:=none) (fun _=>?_) fun _=>k _ (z:=none) (fun _=>?_) fun _=>k _ (z:=none) (fun _=>?_) fun _=>k _ (z:=none) (fun _=>?_) fun _=>?_
       all_goals first
         | rfl
         | (cases nk' b r.C0 r.G0 <;> cases r.O0==0 <;> rfl)
         | (cases nk' b r.C0 r.G0 <;> cases inR 0 1 r.O0 <;> rfl)
         | (rw [w]; cases nk' b r.C0 r.G0 <;> cases inR (-2) ((b.A0.length:Int) - 1) r.O0 <;> rfl))
def isC (F D:Int) (e:Entry):Bool:=e.C0==F&&e.G0==D
def findF (F D:Int):List Entry→Nat→Int
 | [],_=>-1
 | e :: t,i=>bif isC F D e then (i:Int) else findF F D t (i + 1)
theorem nme' (F D:Int):∀ (l:List Entry) (i:Nat),(findF F D l i=-1∧∀ e ∈ l,isC F D e=false)∨∃ k:Nat,k < l.length∧findF F D l i=((i + k:Nat):Int)∧isC F D (l.getD k noE)=true
 | [],_=>.inl ⟨rfl,fun _ h=>by cases h⟩
 | e :: t,i=>by
  simp only [findF];cases h:isC F D e with
  | true=>exact .inr ⟨0,by simp,rfl,h⟩
  | false=>
   rcases nme' F D t (i + 1) with ⟨h1,h2⟩ | ⟨k,h1,h2,h3⟩
   ·refine .inl ⟨h1,fun x hx=>?_⟩
    rcases List.mem_cons.1 hx with rfl | hx
    ·exact h
    ·exact h2 x hx
   ·refine .inr ⟨k + 1,by simp; omega,?_,h3⟩
    rw [cond_false,h2];congr 1; omega
theorem nnw' (m:Img) (hm:m.B0.length≤2000) (F D:Int):nfi' m.F0 m.N0 m.H0 m.B0 F D=some ((findF F D m.B0 0,()),()):=by
 have key:∀ (k i:Nat),i + k=m.B0.length→iter (fun x=>ngd' x.1.1 x.1.2.1 x.1.2.2.2.1 x.2.1.1 x.2.1.2.1 x.2.1.2.2.1 x.2.1.2.2.2.1) (k + 1) ((F,D,(),(i:Int),()),(m.tup,()))=some (bif findF F D (m.B0.drop i) i==-1 then .inl ((),()) else .inr ((findF F D (m.B0.drop i) i,()),())):=by
  intro k
  induction k with
  | zero=>
   intro i hi;refine no' ?_;show ngd' F D (i:Int) m.F0 m.N0 m.H0 m.B0=_;unfold ngd';rw [show decide ((i:Int) < (m.B0.length:Int))=false by simp; omega,show i=m.B0.length by omega,List.drop_length]; rfl
  | succ k ih=>
   intro i hi;have hi':i < m.B0.length:=by omega
   have w:IntKind.i64.wrap ((i:Int) + 1)=((i + 1:Nat):Int):=by rw [nc' (by omega) (by omega)]; omega
   have hs:ngd' F D (i:Int) m.F0 m.N0 m.H0 m.B0=some (bif isC F D (m.B0.getD i noE) then .inr (.inr (((i:Int),()),())) else .inl ((F,D,(),((i + 1:Nat):Int),()),(m.tup,()))):=by
    unfold ngd' isC;rw [show decide ((i:Int) < (m.B0.length:Int))=true by simp; omega,na' (show (0:Int)≤(i:Int) by omega) (show (i:Int) < (m.B0.length:Int) by omega),show Entry.mk 0 0 0 0 false=noE from rfl]
    simp only [cond_true,Int.toNat_natCast];cases (m.B0.getD i noE).C0==F with
    | false=>simp only [cond_false,Option.bind_some,w,Bool.false_and]; rfl
    | true=>
     simp only [cond_true,Option.bind_some,Bool.true_and];cases (m.B0.getD i noE).G0==D with
     | false=>simp only [cond_false,w]; rfl
     | true=>rfl
   rw [nba' noE hi'];simp only [findF];cases hq:isC F D (m.B0.getD i noE) with
   | true=>
    rw [hq] at hs;rw [cond_true,beq_f (show ¬ (i:Int)=-1 by omega)]
    exact no' hs
   | false=>
    rw [hq] at hs;exact (nv' hs).trans (ih (i + 1) (by omega))
 have h:nlu' ((F,D,(),(0:Int),()),(m.tup,()))=_:=ng' (key m.B0.length 0 (by omega)) (by omega)
 rw [List.drop_zero] at h;unfold Img.tup at h;unfold nfi';rw [h];cases hq:findF F D m.B0 0==-1 with
 | true=>
  have:findF F D m.B0 0=-1:=by simpa using hq
  rw [this]; rfl
 | false=>rfl
def insL (e:Entry):Bool→List Entry→List Entry
 | d,[]=>bif d then [] else [e]
 | true,x :: t=>x :: insL e true t
 | false,x :: t=>bif lessE e x then e :: x :: insL e true t else x :: insL e false t
theorem nwq' (e:Entry):∀ (l:List Entry) (d:Bool),(insL e d l).length≤l.length + 1
 | [],true=>by simp [insL]
 | [],false=>by simp [insL]
 | x :: t,true=>by simp only [insL,List.length_cons]; have:=nwq' e t true; omega
 | x :: t,false=>by
  simp only [insL];cases lessE e x with
  | true=>
   simp only [cond_true,List.length_cons]
   have:∀ t:List Entry,insL e true t=t:=fun t=>by
    induction t with
    | nil=>rfl
    | cons a t ih=>simp only [insL,ih]
   rw [this]; omega
  | false=>simp only [cond_false,List.length_cons]; have:=nwq' e t false; omega
theorem nq2' (e:Entry):∀ t:List Entry,insL e true t=t
 | []=>rfl
 | a :: t=>by simp only [insL,nq2' e t]
def Entry.tup5 (e:Entry):Int×Int×Int×Int×Bool×Unit:=(e.C0,e.G0,e.O0,e.V0,e.Q1,())
theorem nzm' (e:Entry) {l:List Entry} (hl:l.length≤2000):nj1' l e.C0 e.G0 e.O0 e.V0 e.Q1=some ((insL e false l,()),()):=by
 have key:∀ (k i:Nat) (out:List Entry) (d:Bool),i + k=l.length→out.length≤i + d.toNat→∃ (o:List Entry) (d':Bool),iter (fun x=>letI a:=x.2.1.2; ndv' x.1.1 x.1.2.2.1 x.1.2.2.2.1 x.1.2.2.2.2.1 x.2.1.1 a.1 a.2.1 a.2.2.1 a.2.2.2.1) (k + 1) ((l,(),out,d,(i:Int),()),(e.tup5,()))=some (((),o,d',()),(e.tup5,()))∧o.length≤2001∧o++(bif d' then [] else [e])=out++insL e d (l.drop i):=by
  intro k
  induction k with
  | zero=>
   intro i out d hi ho;refine ⟨out,d,no' ?_,by have:=Bool.toNat_le d; omega,?_⟩
   ·show ndv' l out d (i:Int) e.C0 e.G0 e.O0 e.V0 e.Q1=_
    unfold ndv';rw [show decide ((i:Int) < (l.length:Int))=false by simp; omega]; rfl
   ·rw [show i=l.length by omega,List.drop_length]; cases d <;> rfl
  | succ k ih=>
   intro i out d hi ho;have hi':i < l.length:=by omega
   have hd1:=Bool.toNat_le d;have w:IntKind.i64.wrap ((i:Int) + 1)=((i + 1:Nat):Int):=by rw [nc' (by omega) (by omega)]; omega
   have b1:∀ y:Entry,Nat.ble (out.length + [y].length) 2147483648=true:=fun _=>nh' (by simp; omega)
   have b2:∀ y z:Entry,Nat.ble ((out++[z]).length + [y].length) 2147483648=true:=fun _ _=>nh' (by simp; omega)
   have ib:inB (i:Int) l.length=true:=na' (by omega) (by omega)
   have hle:=nvv' e (l.getD i noE)
   have hs:ndv' l out d (i:Int) e.C0 e.G0 e.O0 e.V0 e.Q1=some (.inl ((l,(),(bif !d&&lessE e (l.getD i noE) then out++[e] else out)++[l.getD i noE],d||lessE e (l.getD i noE),((i + 1:Nat):Int),()),(e.tup5,()))):=by
    unfold ndv';rw [show decide ((i:Int) < (l.length:Int))=true by simp; omega,ib,show Entry.mk 0 0 0 0 false=noE from rfl]
    cases d with
    | true=>simp only [cond_true,cond_false,Bool.not_true,Option.bind_some,ib,Int.toNat_natCast,b1,w,Bool.false_and,Bool.true_or]; rfl
    | false=>
     simp only [cond_true,Bool.not_false,Int.toNat_natCast,hle,Option.bind_some,Bool.true_and,Bool.false_or];cases lessE e (l.getD i noE) with
     | true=>simp only [cond_true,b1,Option.bind_some,ib,Int.toNat_natCast,b2,w]; rfl
     | false=>simp only [cond_false,Option.bind_some,ib,cond_true,Int.toNat_natCast,b1,w]; rfl
   rw [nba' noE hi'];cases d with
   | true=>
    obtain ⟨o,d',h1,h2,h3⟩:=ih (i + 1) (out++[l.getD i noE]) true (by omega) (by rw [List.length_append]; simp only [Bool.toNat_true,List.length_singleton] at ho ⊢; omega)
    refine ⟨o,d',(nv' hs).trans h1,h2,?_⟩;rw [h3]; simp only [insL,List.append_assoc,List.singleton_append]
   | false=>
    simp only [Bool.toNat_false] at ho;cases hq:lessE e (l.getD i noE) with
    | true=>
     rw [hq] at hs;obtain ⟨o,d',h1,h2,h3⟩:=ih (i + 1) ((out++[e])++[l.getD i noE]) true (by omega) (by simp only [List.length_append,List.length_singleton,Bool.toNat_true]; omega)
     refine ⟨o,d',(nv' hs).trans h1,h2,?_⟩;rw [h3]; simp only [insL,hq,cond_true,List.append_assoc,List.cons_append,List.nil_append]
    | false=>
     rw [hq] at hs;obtain ⟨o,d',h1,h2,h3⟩:=ih (i + 1) (out++[l.getD i noE]) false (by omega) (by simp only [List.length_append,List.length_singleton,Bool.toNat_false]; omega)
     refine ⟨o,d',(nv' hs).trans h1,h2,?_⟩;rw [h3]; simp only [insL,hq,cond_false,List.append_assoc,List.singleton_append]
 obtain ⟨o,d',h1,h2,h3⟩:=key l.length 0 [] false (by omega) (by simp)
 have h:nh4' ((l,(),([]:List Entry),false,(0:Int),()),(e.tup5,()))=_:=ng' h1 (by omega)
 rw [List.drop_zero,List.nil_append] at h3;unfold Entry.tup5 at h;unfold nj1';rw [h,← h3];have b1:Nat.ble (o.length + [e].length) 2147483648=true:=nh' (by simp; omega)
 cases d' with
 | true=>simp only [Option.bind_some,Bool.not_true,cond_false,cond_true,List.append_nil]
 | false=>simp only [Option.bind_some,Bool.not_false,cond_true,cond_false,b1]
def Img.put (m:Img) (l:List Entry):Img:=⟨m.F0,m.N0,m.H0,l⟩
def nyk' (e:Entry) (c:Int):Entry:=⟨e.C0,e.G0,c,e.V0,e.Q1⟩
def np2' (e:Entry) (n c:Int):Entry:=⟨e.C0,e.G0,e.O0,n,c==1⟩
def n4' (m:Img) (r:Record):Img:=
 bif r.U0==4 then ⟨m.F0.set r.O0.toNat r.U1,m.N0,m.H0,m.B0⟩
 else bif r.U0==5 then ⟨m.F0,m.N0.set r.O0.toNat (r.U1==1),m.H0,m.B0⟩
 else bif r.U0==6 then ⟨m.F0,m.N0,m.H0.set r.O0.toNat (r.U1==1),m.B0⟩
 else bif findF r.C0 r.G0 m.B0 0==-1 then (bif r.U0==1 then m.put (insL ⟨r.C0,r.G0,-1,0,false⟩ false m.B0) else m)
 else bif r.U0==2 then m.put (m.B0.take (findF r.C0 r.G0 m.B0 0).toNat++m.B0.drop ((findF r.C0 r.G0 m.B0 0).toNat + 1))
 else bif r.U0==3 then m.put (m.B0.set (findF r.C0 r.G0 m.B0 0).toNat (nyk' (m.B0.getD (findF r.C0 r.G0 m.B0 0).toNat noE) r.O0))
 else bif r.U0==7 then m.put (m.B0.set (findF r.C0 r.G0 m.B0 0).toNat (np2' (m.B0.getD (findF r.C0 r.G0 m.B0 0).toNat noE) r.U1 r.O0))
 else m
def nvb' (b:Bldg) (m:Img) (r:Record):(Unit×Int×Unit)×((List Int×List Bool×List Bool×List Entry×Unit)×Unit):=
 bif m.ok b&&np' b r then (((),0,()),((n4' m r).tup,())) else (((),1,()),(Img.none.tup,()))
theorem nsr' {b:Bldg} {r:Record} (h:np' b r=true) (hk:r.U0=4∨r.U0=5∨r.U0=6):0≤r.O0∧r.O0 < (b.A0.length:Int):=by
  unfold np' carR at h;have k:∀ q:Bool,(r.O0 ≥ 0∧r.O0≤(b.A0.length:Int) - 1)→0≤r.O0∧r.O0 < (b.A0.length:Int):=fun _ h=>by omega
  rcases hk with hk | hk | hk <;> rw [hk] at h <;>
    (simp only [Bool.and_eq_true] at h
     have h':=h.2;simp only [show ((4:Int)==1)=false from rfl,show ((4:Int)==2)=false from rfl,show ((4:Int)==3)=false from rfl,show ((5:Int)==1)=false from rfl,show ((5:Int)==2)=false from rfl,show ((5:Int)==3)=false from rfl,show ((5:Int)==4)=false from rfl,show ((6:Int)==1)=false from rfl,show ((6:Int)==2)=false from rfl,show ((6:Int)==3)=false from rfl,show ((6:Int)==4)=false from rfl,show ((6:Int)==5)=false from rfl,beq_self_eq_true,cond_false,cond_true,Bool.and_eq_true] at h'
     have:=ns'.1 h'.1.1
     exact k true ⟨this.1,this.2⟩)
section
variable {b:Bldg} (hb:b.small) (m:Img) (hm:m.B0.length≤1000) (r:Record)
include hb hm
theorem nqj' (hp:m.F0.length≤maxLen) (hcl:b.A0.length≤100):nhw' b.D0 b.E0 b.I0 b.Q0 b.J0 b.K0 b.P0 b.A0 m.F0 m.N0 m.H0 m.B0 r.U0 r.C0 r.G0 r.O0 r.U1=some (nvb' b m r):=by
 have hmx:1000≤maxLen:=by decide
 unfold nhw' nvb';rw [nbk' hb m hp (by omega)]
 simp only [Option.bind_some];cases hok:m.ok b with
 | false=>rfl
 | true=>
  rw [nmc' hb hcl r];simp only [Bool.not_true,cond_false,Option.bind_some,Bool.true_and];cases hv:np' b r with
  | false=>rfl
  | true=>
   obtain ⟨_,l1,l2,l3,_⟩:b.code=0∧m.F0.length=b.A0.length∧m.N0.length=b.A0.length∧m.H0.length=b.A0.length∧True:=by
    unfold Img.ok at hok;simp only [Bool.and_eq_true,beq_iff_eq] at hok;obtain ⟨h0,h1,h2,h3,h4,h5⟩:=hok;exact ⟨h0,by omega,by omega,by omega,trivial⟩
   have b1:Nat.ble (([]:List Int).length + m.F0.length) 2147483648=true:=nh' (by simp; omega)
   have b2:Nat.ble (([]:List Bool).length + m.N0.length) 2147483648=true:=nh' (by simp; omega)
   have b3:Nat.ble (([]:List Bool).length + m.H0.length) 2147483648=true:=nh' (by simp; omega)
   have b4:Nat.ble (([]:List Entry).length + m.B0.length) 2147483648=true:=nh' (by simp; omega)
   simp only [Bool.not_true,cond_false,cond_true,b1,b2,b3,b4,List.nil_append];rw [nnw' m (by omega)]
   simp only [Option.bind_some];unfold n4';by_cases k4:r.U0=4
   ·have hc:=nsr' hv (.inl k4)
    rw [k4];simp only [beq_self_eq_true,cond_true,na' hc.1 (show r.O0 < ((m.F0.length:Nat):Int) by omega)]
    rfl
   rw [beq_f k4];by_cases k5:r.U0=5
   ·have hc:=nsr' hv (.inr (.inl k5))
    rw [k5];simp only [beq_self_eq_true,cond_true,cond_false,na' hc.1 (show r.O0 < ((m.N0.length:Nat):Int) by omega)]
    rfl
   rw [beq_f k5];by_cases k6:r.U0=6
   ·have hc:=nsr' hv (.inr (.inr k6))
    rw [k6];simp only [beq_self_eq_true,cond_true,cond_false,na' hc.1 (show r.O0 < ((m.H0.length:Nat):Int) by omega)]
    rfl
   rw [beq_f k6];simp only [cond_false];have hent:=nzm' ⟨r.C0,r.G0,-1,0,false⟩ (l:=m.B0) (by omega)
   simp only at hent;rcases nme' r.C0 r.G0 m.B0 0 with ⟨h1,_⟩ | ⟨k,h1,h2,_⟩
   ·rw [h1,show decide ((-1:Int) < 0)=true from rfl,show ((-1:Int)==-1)=true from rfl]
    simp only [cond_true];cases r.U0==1 with
    | true=>simp only [cond_true,Option.bind_some,hent]; rfl
    | false=>simp only [cond_false,Option.bind_some]; rfl
   ·rw [Nat.zero_add] at h2
    have hk:Int.toNat (k:Int)=k:=by omega
    rw [h2,beq_f (show ¬ (k:Int)=-1 by omega),decide_eq_false (show ¬ (k:Int) < 0 by omega),show Entry.mk 0 0 0 0 false=noE from rfl]
    simp only [cond_false,hk];have e1:(bif r.U0==1 then some (((),(),(),(k:Int),false,()),((m.F0,m.N0,m.H0,m.B0,()),(r.U0,r.C0,r.G0,r.O0,r.U1,()),(([]:List Int),([]:List Bool),([]:List Bool),([]:List Entry),()),())) else some (((),(),(),(k:Int),false,()),((m.F0,m.N0,m.H0,m.B0,()),(r.U0,r.C0,r.G0,r.O0,r.U1,()),(([]:List Int),([]:List Bool),([]:List Bool),([]:List Entry),()),())))=some (((),(),(),(k:Int),false,()),((m.F0,m.N0,m.H0,m.B0,()),(r.U0,r.C0,r.G0,r.O0,r.U1,()),(([]:List Int),([]:List Bool),([]:List Bool),([]:List Entry),()),())):=by cases r.U0==1 <;> rfl
    rw [e1];simp only [Option.bind_some,cond_false,decide_eq_false (show ¬ (k:Int) < 0 by omega),hk]
    have ib:inB (k:Int) m.B0.length=true:=na' (by omega) (by omega)
    cases r.U0==2 with
    | true=>
     have w:IntKind.i64.wrap ((k:Int) + 1)=((k + 1:Nat):Int):=by rw [nc' (by omega) (by omega)]; omega
     have b5:Nat.ble (([]:List Entry).length + (m.B0.take k).length) 2147483648=true:=nh' (by simp; omega)
     have b6:Nat.ble ((m.B0.take k).length + (m.B0.drop (k + 1)).length) 2147483648=true:=nh' (by simp; omega)
     simp only [cond_true,decide_eq_true (show (0:Int)≤(k:Int) by omega),decide_eq_true (show (k:Int)≤(m.B0.length:Int) by omega),Bool.and_self,b5,w,decide_eq_true (show (0:Int)≤((k + 1:Nat):Int) by omega),decide_eq_true (show ((k + 1:Nat):Int)≤(m.B0.length:Int) by omega),Int.toNat_natCast,List.take_length,b6,List.drop_zero]
     rfl
    | false=>
     simp only [cond_false];cases r.U0==3 with
     | true=>simp only [cond_true,ib]; rfl
     | false=>
      simp only [cond_false];cases r.U0==7 with
      | true=>
       have ib2:∀ y:Entry,inB (k:Int) (m.B0.set k y).length=true:=fun y=>na' (by omega) (by rw [List.length_set]; omega)
       have hg:∀ y:Entry,(m.B0.set k y).getD k noE=y:=fun y=>by
        simp [List.getD_eq_getElem?_getD,h1]
       simp only [cond_true,ib,ib2,hg,List.set_set];rfl
      | false=>rfl
end
end Go.Ovl
