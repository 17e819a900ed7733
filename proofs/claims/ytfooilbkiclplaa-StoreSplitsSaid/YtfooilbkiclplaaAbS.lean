/- The abstract evaluator: shapes of states, at which what is known is cut down to values of plain types. -/
import Derived.Test.YtfooilbkiclplaaAb2
namespace Go.Ab

inductive Ex where
  | normal | exit (id : Nat) | ret
def eqEx : Ex → Ex → Bool
  | .normal, .normal => true
  | .exit i, .exit j => Nat.beq i j
  | .ret, .ret => true
  | _, _ => false

/-- A cell, as it is kept: 'own m t' an owned row under the name m, 'ro t' a row that is only read from here on. -/
inductive CSh where
  | int (k : IntKind) | bool | str | flt (k : FloatKind)
  | own (m t : Nat) | ro (t : Nat) | rp (t off : Nat) | ptr (n off : Nat) | clo (f : Nat) (p q : List (Nat × Nat))
inductive PSh where
  | one (c : CSh)
  | agg (cs : List CSh)
structure Spec where
  tm : List (Nat × PSh)
  hp : List (Nat × List CSh)
  us : List Nat

def lo : Nat := 65536

variable {G : Sig}
def CSh.T (G : Sig) : CSh → Type
  | .int _ => Int
  | .bool => Bool
  | .str => ByteArray
  | .flt _ => Nat
  | .own _ t => List (G.T t)
  | .ro t => List (G.T t)
  | .rp t _ => G.T t
  | .ptr _ _ => Unit
  | .clo _ _ _ => Unit
def TL (G : Sig) : List CSh → Type
  | [] => Unit
  | s :: t => s.T G × TL G t
def PSh.T (G : Sig) : PSh → Type
  | .one c => c.T G
  | .agg cs => TL G cs
def TmT (G : Sig) : List (Nat × PSh) → Type
  | [] => Unit
  | p :: t => p.2.T G × TmT G t
def HpT (G : Sig) : List (Nat × List CSh) → Type
  | [] => Unit
  | p :: t => TL G p.2 × HpT G t
def Spec.T (G : Sig) (s : Spec) : Type := TmT G s.tm × HpT G s.hp

def CSh.give : (s : CSh) → s.T G → Cv G.T
  | .int k, n => .sc (.int k n)
  | .bool, b => .sc (.bool b)
  | .str, x => .sc (.string x)
  | .flt k, n => .sc (.float k n)
  | .own m _, _ => .own m
  | .ro t, l => .ro t l
  | .rp t off, x => .rp t x off
  | .ptr n off, _ => .ptr n off
  | .clo f p q, _ => .clo f p q
def CSh.blk : (s : CSh) → s.T G → List (Nat × Blk G.T)
  | .own m t, l => [(m, .row t l)]
  | _, _ => []
def giveL : (s : List CSh) → TL G s → List (Cv G.T)
  | [], _ => []
  | c :: t, x => c.give x.1 :: giveL t x.2
def blkL : (s : List CSh) → TL G s → List (Nat × Blk G.T)
  | [], _ => []
  | c :: t, x => c.blk x.1 ++ blkL t x.2
def PSh.give : (s : PSh) → s.T G → Pv G.T
  | .one c, x => .one (c.give x)
  | .agg cs, x => .agg (giveL cs x)
def PSh.blk : (s : PSh) → s.T G → List (Nat × Blk G.T)
  | .one c, x => c.blk x
  | .agg cs, x => blkL cs x
def giveTm : (s : List (Nat × PSh)) → TmT G s → List (Nat × Sv G.T)
  | [], _ => []
  | p :: t, x => (p.1, .p (p.2.give x.1)) :: giveTm t x.2
def blkTm : (s : List (Nat × PSh)) → TmT G s → List (Nat × Blk G.T)
  | [], _ => []
  | p :: t, x => p.2.blk x.1 ++ blkTm t x.2
def giveHp : (s : List (Nat × List CSh)) → HpT G s → List (Nat × Blk G.T)
  | [], _ => []
  | p :: t, x => (p.1, .cells (giveL p.2 x.1)) :: giveHp t x.2
def blkHp : (s : List (Nat × List CSh)) → HpT G s → List (Nat × Blk G.T)
  | [], _ => []
  | p :: t, x => blkL p.2 x.1 ++ blkHp t x.2
def keysB : List (Nat × Blk G.T) → List Nat
  | [] => []
  | p :: t => p.1 :: keysB t
/-- The state of a shape. -/
def Spec.mk' (s : Spec) (x : s.T G) : St G :=
  let h := blkTm s.tm x.1 ++ (blkHp s.hp x.2 ++ giveHp s.hp x.2)
  ⟨giveTm s.tm x.1, h, keysB h ++ s.us⟩

/-- What is taken: values, the new names of owned rows with their old ones, the rows that are only read from here on. -/
structure Tk (α : Type) where
  x : α
  nm : List (Nat × Option Nat)
  fz : List Nat
def castT (G : Sig) (t t' : Nat) (x : G.T t) : Option (G.T t') := if h : t = t' then some (h ▸ x) else none
def eqNN : List (Nat × Nat) → List (Nat × Nat) → Bool
  | [], [] => true
  | a :: s, b :: t => Nat.beq a.1 b.1 && Nat.beq a.2 b.2 && eqNN s t
  | _, _ => false
def tk0 {α : Type} (x : α) : Option (Tk α) := some ⟨x, [], []⟩
def isNilS : Value → Bool
  | .slice none 0 0 => true
  | _ => false
def rowAt (h : Nat → Option (Blk G.T)) (n t : Nat) : Option (List (G.T t)) := match h n with
  | some (.row t' l) => castL G t' t l
  | _ => none
section
variable (h : Nat → Option (Blk G.T))
def CSh.take : (s : CSh) → Cv G.T → Option (Tk (s.T G))
  | .int k, .sc (.int k' n) => bif eqIK k k' then tk0 n else none
  | .bool, .sc (.bool b) => tk0 b
  | .str, .sc (.string x) => tk0 x
  | .flt k, .sc (.float k' n) => bif eqFK k k' then tk0 n else none
  | .own m t, .own n => match rowAt h n t with | some l => some ⟨l, [(m, some n)], []⟩ | none => none
  | .own m _, .sc v => bif isNilS v then some ⟨[], [(m, none)], []⟩ else none
  | .ro t, .ro t' l => match castL G t' t l with | some l => tk0 l | none => none
  | .ro t, .own n => match rowAt h n t with | some l => some ⟨l, [], [n]⟩ | none => none
  | .ro _, .sc v => bif isNilS v then tk0 [] else none
  | .rp t off, .rp t' x off' => bif Nat.beq off off' then match castT G t' t x with | some x => tk0 x | none => none else none
  | .ptr n off, .ptr n' off' => bif Nat.beq n n' && Nat.beq off off' then tk0 () else none
  | .clo f p q, .clo f' p' q' => bif Nat.beq f f' && eqNN p p' && eqNN q q' then tk0 () else none
  | _, _ => none
def takeL : (s : List CSh) → List (Cv G.T) → Option (Tk (TL G s))
  | [], [] => tk0 ()
  | s :: t, c :: cs => match s.take h c, takeL t cs with
    | some a, some b => some ⟨(a.x, b.x), a.nm ++ b.nm, a.fz ++ b.fz⟩
    | _, _ => none
  | _, _ => none
def PSh.take : (s : PSh) → Pv G.T → Option (Tk (s.T G))
  | .one s, .one c => s.take h c
  | .agg ss, .agg cs => takeL h ss cs
  | _, _ => none
def takeTm (tm : List (Nat × Sv G.T)) : (s : List (Nat × PSh)) → Option (Tk (TmT G s))
  | [] => tk0 ()
  | p :: t => match get tm p.1 with
    | some (.p c) => match p.2.take h c, takeTm tm t with
      | some a, some b => some ⟨(a.x, b.x), a.nm ++ b.nm, a.fz ++ b.fz⟩
      | _, _ => none
    | _ => none
def takeHp : (s : List (Nat × List CSh)) → Option (Tk (HpT G s))
  | [] => tk0 ()
  | p :: t => match h p.1 with
    | some (.cells cs) => match takeL h p.2 cs, takeHp t with
      | some a, some b => some ⟨(a.x, b.x), a.nm ++ b.nm, a.fz ++ b.fz⟩
      | _, _ => none
    | _ => none
end
def nodupB : List Nat → Bool
  | [] => true
  | n :: t => !has t n && nodupB t
def keysN : List (Nat × Option Nat) → List Nat
  | [] => []
  | p :: t => p.1 :: keysN t
def oldsN : List (Nat × Option Nat) → List Nat
  | [] => []
  | (_, some n) :: t => n :: oldsN t
  | (_, none) :: t => oldsN t
def allHas (l : List Nat) : List Nat → Bool
  | [] => true
  | n :: t => has l n && allHas l t
def fstsP : List (Nat × Nat) → List Nat
  | [] => []
  | p :: t => p.1 :: fstsP t
def CSh.fix (l : List Nat) : CSh → Bool
  | .ptr n _ => has l n
  | .clo _ p q => allHas l (fstsP p) && allHas l (fstsP q)
  | _ => true
def PSh.fix (l : List Nat) : PSh → Bool
  | .one c => c.fix l
  | .agg cs => cs.all (CSh.fix l)
def keysH : List (Nat × List CSh) → List Nat
  | [] => []
  | p :: t => p.1 :: keysH t
def disjN : List Nat → List Nat → Bool
  | [], _ => true
  | n :: t, l => !has l n && disjN t l
def allLt : List Nat → Bool
  | [] => true
  | n :: t => Nat.blt n lo && allLt t
def allIn (us : List Nat) : List Nat → Bool
  | [] => true
  | n :: t => (Nat.blt n lo || has us n) && allIn us t
/-- A state cut down to a shape. -/
def Spec.take (s : Spec) (st : St G) : Option (s.T G) := match takeTm (get st.hp) st.tm s.tm, takeHp (get st.hp) s.hp with
  | some a, some b =>
    bif s.tm.all (fun p => p.2.fix (keysH s.hp)) && s.hp.all (fun p => p.2.all (CSh.fix (keysH s.hp))) &&
      (nodupB (keysN (a.nm ++ b.nm) ++ keysH s.hp) && allLt (keysN (a.nm ++ b.nm)) && nodupB (oldsN (a.nm ++ b.nm) ++ keysH s.hp) && disjN (oldsN (a.nm ++ b.nm) ++ keysH s.hp) (a.fz ++ b.fz) && allIn s.us st.us)
    then some (a.x, b.x) else none
  | _, _ => none

/-! ### Ways out, each with its shape -/
def SumE (G : Sig) : List (Ex × Spec) → Type
  | [] => Empty
  | [p] => p.2.T G
  | p :: q :: t => Sum (p.2.T G) (SumE G (q :: t))
def takeE : (E : List (Ex × Spec)) → Ex → St G → Option (SumE G E)
  | [], _, _ => none
  | [p], e, st => bif eqEx e p.1 then p.2.take st else none
  | p :: q :: t, e, st => bif eqEx e p.1 then match p.2.take st with | some x => some (.inl x) | none => none
      else match takeE (q :: t) e st with | some y => some (.inr y) | none => none
def caseE {R : Type} : (E : List (Ex × Spec)) → SumE G E → (Ex × St G → Option R) → Option R
  | [], y, _ => y.elim
  | [p], y, k => k (p.1, p.2.mk' y)
  | p :: q :: t, y, k => match y with
    | .inl x => k (p.1, p.2.mk' x)
    | .inr y => caseE (q :: t) y k
def cutM (E : List (Ex × Spec)) (m : M (Ex × St G)) : M (Ex × St G) := fun _ k => (m _ fun p => takeE E p.1 p.2).bind fun y => caseE E y k
def cutO : Option (List (Ex × Spec)) → M (Ex × St G) → M (Ex × St G)
  | none, m => m
  | some E, m => cutM E m

/-! ### Loops -/
/-- One round, from a state of the shape to a state of the shape, or out. -/
def outX (S : Spec) (E : List (Ex × Spec)) (e : Ex) (st : St G) : Option (Sum (S.T G) (SumE G E)) := match e with
  | .normal => match S.take st with | some x => some (.inl x) | none => none
  | e => match takeE E e st with | some y => some (.inr y) | none => none
def roundX (S : Spec) (E : List (Ex × Spec)) (body : St G → M (Ex × St G)) (x : S.T G) : Option (Sum (S.T G) (SumE G E)) :=
  body (S.mk' x) _ fun p => outX S E p.1 p.2
def afterX {X Y : Type} (g : X → Option Y) : Option (Sum X Y) → Option Y
  | some (.inl x) => g x
  | some (.inr y) => some y
  | none => none
def iter {X Y : Type} (step : X → Option (Sum X Y)) : Nat → X → Option Y
  | 0, _ => none
  | f + 1, x => afterX (iter step f) (step x)
def lpX (S : Spec) (E : List (Ex × Spec)) (L : S.T G → Option (SumE G E)) (st : St G) : M (Ex × St G) := fun _ k =>
  match S.take st with
  | some x => (L x).bind fun y => caseE E y k
  | none => none
end Go.Ab
