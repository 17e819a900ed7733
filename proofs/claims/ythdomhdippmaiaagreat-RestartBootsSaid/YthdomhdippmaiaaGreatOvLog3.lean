/- Layer 10: equal images and equal rows of records, the program's way and the reference's. -/
import Derived.Test.YthdomhdippmaiaaGreatOvLog2
namespace Go.Ovl
open Go Go.Ab
set_option maxRecDepth 100000
def allN (p : Nat → Bool) : Nat → Nat → Bool
  | 0, _ => true
  | m + 1, i => p i && allN p m (i + 1)
theorem nbk' {X Y : Type} {step : X → Option (Sum X Y)} (N : Nat) (g : Nat → X) (p : Nat → Bool) (y0 y1 : Y) (h1 : ∀ i, i < N → step (g i) = some (bif p i then .inl (g (i + 1)) else .inr y1)) (h2 : step (g N) = some (.inr y0)) :
    ∀ m i : Nat, i + m = N → iter step (m + 1) (g i) = some (bif allN p m i then y0 else y1)
  | 0, i, hi => by
    obtain rfl : i = N := by omega
    exact n1' h2
  | m + 1, i, hi => by
    have h := h1 i (by omega)
    simp only [allN]
    cases hp : p i with
    | true =>
      rw [hp] at h
      rw [nbx' h, Bool.true_and]
      exact nbk' N g p y0 y1 h1 h2 m (i + 1) (by omega)
    | false =>
      rw [hp] at h
      rw [n1' h]; rfl
theorem nzf' {α : Type} (f : α → α → Bool) (hf : ∀ x y, f x y = true ↔ x = y) (d : α) (a b : List α) (hl : a.length = b.length) : ∀ m i : Nat, i + m = a.length → (allN (fun i => f (a.getD i d) (b.getD i d)) m i = true ↔ a.drop i = b.drop i)
  | 0, i, hi => by
    obtain rfl : i = a.length := by omega
    rw [List.drop_length, hl, List.drop_length]
    exact ⟨fun _ => rfl, fun _ => rfl⟩
  | m + 1, i, hi => by
    simp only [allN, Bool.and_eq_true, hf]
    rw [nzf' f hf d a b hl m (i + 1) (by omega), ndd' d (show i < a.length by omega), ndd' d (show i < b.length by omega), List.cons.injEq]
theorem n3f' {α : Type} (f : α → α → Bool) (hf : ∀ x y, f x y = true ↔ x = y) (d : α) {a b : List α} (hl : a.length = b.length) : allN (fun i => f (a.getD i d) (b.getD i d)) a.length 0 = @decide (a = b) (Classical.propDecidable _) := by
  rw [Bool.eq_iff_iff, nzf' f hf d a b hl a.length 0 (by omega)]
  simp
noncomputable def eqL {α : Type} (a b : List α) : Bool := @decide (a = b) (Classical.propDecidable _)
theorem nc0' {α : Type} {a b : List α} (h : ¬ a.length = b.length) : eqL a b = false := by
  have : ¬ a = b := fun e => h (by rw [e])
  unfold eqL
  simp [this]
theorem nwz' {α : Type} (a : List α) : eqL a a = true := by unfold eqL; simp
theorem n4p' {α : Type} {a b : List α} : eqL a b = true ↔ a = b := by unfold eqL; simp
theorem ndl' {α : Type} (f : α → α → Bool) (hf : ∀ x y, f x y = true ↔ x = y) (d : α) {a b : List α} (hl : a.length = b.length) : allN (fun i => f (a.getD i d) (b.getD i d)) a.length 0 = eqL a b := n3f' f hf d hl
theorem nfg' {α : Type} (a b : List α) : ((((a.length : Nat) : Int) != ((b.length : Nat) : Int)) = true) ↔ ¬ a.length = b.length := by
  simp; omega
def eqEnt (x y : Entry) : Bool := (x.Floor == y.Floor) && ((x.Dir == y.Dir) && ((x.Car == y.Car) && ((x.Moves == y.Moves) && ((x.Moved == y.Moved) && true))))
theorem nvw' (x y : Entry) : eqEnt x y = true ↔ x = y := by
  cases x; cases y
  simp [eqEnt]
theorem nm7' {α : Type} [BEq α] [LawfulBEq α] (x y : α) : (x == y) = true ↔ x = y := beq_iff_eq
def nf' : Nat := 10000000
theorem wrap1 {i n : Nat} (h : i < n) (hn : n ≤ nf') : IntKind.i64.wrap ((i : Int) + 1) = ((i + 1 : Nat) : Int) := by
  unfold nf' at hn
  rw [nb' (by omega) (by omega)]; omega
section
variable {α : Type}
theorem nm1' {a b : List Int} (ha : a.length ≤ nf') : ncw' a b = some ((eqL a b, ()), ()) := by
  unfold ncw'
  by_cases hl : a.length = b.length
  · rw [show (((a.length : Nat) : Int) != ((b.length : Nat) : Int)) = false by simp [hl], cond_false]
    have h := nd' (nbk' (step := fun x => ncd' x.1.1 x.1.2.1 x.1.2.2.1 x.1.2.2.2.1) a.length (fun i => ((a, b, (a.length : Int), (i : Int), ()), ())) (fun i => a.getD i 0 == b.getD i 0) (Sum.inl ((), ())) (Sum.inr ((false, ()), ())) (fun i hi => by
      show ncd' a b (a.length : Int) (i : Int) = _
      unfold ncd'
      simp only [decide_eq_true (show (i : Int) < (a.length : Int) by omega), nc' (show (0 : Int) ≤ (i : Int) by omega) (show (i : Int) < (a.length : Int) by omega), nc' (show (0 : Int) ≤ (i : Int) by omega) (show (i : Int) < (b.length : Int) by omega), cond_true, Int.toNat_natCast, wrap1 hi ha, bne]
      cases a.getD i 0 == b.getD i 0 <;> rfl) (by
      show ncd' a b (a.length : Int) (a.length : Int) = _
      unfold ncd'
      simp only [decide_eq_false (Int.lt_irrefl (a.length : Int)), cond_false]) a.length 0 (by omega)) (by unfold nf' at ha; omega)
    rw [ndl' (fun x y => x == y) nm7' 0 hl] at h
    rw [show ndf' ((a, b, (a.length : Int), (0 : Int), ()), ()) = _ from h]
    cases eqL a b <;> rfl
  · rw [(nfg' a b).2 hl, nc0' hl]; rfl
theorem nl4' {a b : List Bool} (ha : a.length ≤ nf') : ncq' a b = some ((eqL a b, ()), ()) := by
  unfold ncq'
  by_cases hl : a.length = b.length
  · rw [show (((a.length : Nat) : Int) != ((b.length : Nat) : Int)) = false by simp [hl], cond_false]
    have h := nd' (nbk' (step := fun x => nb3' x.1.1 x.1.2.1 x.1.2.2.1 x.1.2.2.2.1) a.length (fun i => ((a, b, (a.length : Int), (i : Int), ()), ())) (fun i => a.getD i false == b.getD i false) (Sum.inl ((), ())) (Sum.inr ((false, ()), ())) (fun i hi => by
      show nb3' a b (a.length : Int) (i : Int) = _
      unfold nb3'
      simp only [decide_eq_true (show (i : Int) < (a.length : Int) by omega), nc' (show (0 : Int) ≤ (i : Int) by omega) (show (i : Int) < (a.length : Int) by omega), nc' (show (0 : Int) ≤ (i : Int) by omega) (show (i : Int) < (b.length : Int) by omega), cond_true, Int.toNat_natCast, wrap1 hi ha]
      cases a.getD i false == b.getD i false <;> rfl) (by
      show nb3' a b (a.length : Int) (a.length : Int) = _
      unfold nb3'
      simp only [decide_eq_false (Int.lt_irrefl (a.length : Int)), cond_false]) a.length 0 (by omega)) (by unfold nf' at ha; omega)
    rw [ndl' (fun x y => x == y) nm7' false hl] at h
    rw [show nc2' ((a, b, (a.length : Int), (0 : Int), ()), ()) = _ from h]
    cases eqL a b <;> rfl
  · rw [(nfg' a b).2 hl, nc0' hl]; rfl
theorem npm' {a b : List Entry} (ha : a.length ≤ nf') : ncg' a b = some ((eqL a b, ()), ()) := by
  unfold ncg'
  by_cases hl : a.length = b.length
  · rw [show (((a.length : Nat) : Int) != ((b.length : Nat) : Int)) = false by simp [hl], cond_false]
    have h := nd' (nbk' (step := fun x => nba' x.1.1 x.1.2.1 x.1.2.2.1 x.1.2.2.2.1) a.length (fun i => ((a, b, (a.length : Int), (i : Int), ()), ())) (fun i => eqEnt (a.getD i noE) (b.getD i noE)) (Sum.inl ((), ())) (Sum.inr ((false, ()), ())) (fun i hi => by
      show nba' a b (a.length : Int) (i : Int) = _
      unfold nba' eqEnt noE
      simp only [decide_eq_true (show (i : Int) < (a.length : Int) by omega), nc' (show (0 : Int) ≤ (i : Int) by omega) (show (i : Int) < (a.length : Int) by omega), nc' (show (0 : Int) ≤ (i : Int) by omega) (show (i : Int) < (b.length : Int) by omega), cond_true, Int.toNat_natCast, wrap1 hi ha]
      generalize ((a.getD i (Entry.mk 0 0 0 0 false)).Floor == (b.getD i (Entry.mk 0 0 0 0 false)).Floor && ((a.getD i (Entry.mk 0 0 0 0 false)).Dir == (b.getD i (Entry.mk 0 0 0 0 false)).Dir && ((a.getD i (Entry.mk 0 0 0 0 false)).Car == (b.getD i (Entry.mk 0 0 0 0 false)).Car && ((a.getD i (Entry.mk 0 0 0 0 false)).Moves == (b.getD i (Entry.mk 0 0 0 0 false)).Moves && ((a.getD i (Entry.mk 0 0 0 0 false)).Moved == (b.getD i (Entry.mk 0 0 0 0 false)).Moved && true))))) = q
      cases q <;> rfl) (by
      show nba' a b (a.length : Int) (a.length : Int) = _
      unfold nba'
      simp only [decide_eq_false (Int.lt_irrefl (a.length : Int)), cond_false]) a.length 0 (by omega)) (by unfold nf' at ha; omega)
    rw [ndl' eqEnt nvw' noE hl] at h
    rw [show nb9' ((a, b, (a.length : Int), (0 : Int), ()), ()) = _ from h]
    cases eqL a b <;> rfl
  · rw [(nfg' a b).2 hl, nc0' hl]; rfl
end
structure Img.fit (m : Img) : Prop where
  p : m.Phases.length ≤ 100000
  f : m.Flags.length ≤ 100000
  l : m.Leaving.length ≤ 100000
  e : m.Entries.length ≤ 100000
noncomputable def sameI (a c : Img) : Bool := eqL a.Phases c.Phases && (eqL a.Flags c.Flags && (eqL a.Leaving c.Leaving && eqL a.Entries c.Entries))
theorem n0a' (a : Img) : sameI a a = true := by unfold sameI; simp [nwz']
theorem nyn' {a c : Img} (ha : a.fit) : nl9' a.Phases a.Flags a.Leaving a.Entries c.Phases c.Flags c.Leaving c.Entries = some ((sameI a c, ()), ()) := by
  have h5 : 100000 ≤ nf' := by decide
  unfold nl9' sameI
  rw [nm1' (by have := ha.p; omega), nl4' (by have := ha.f; omega), nl4' (by have := ha.l; omega), npm' (by have := ha.e; omega)]
  cases eqL a.Phases c.Phases <;> cases eqL a.Flags c.Flags <;> cases eqL a.Leaving c.Leaving <;> rfl
section
variable {a c : Img} (ha : a.fit)
include ha
theorem nug' (hl : a.Phases.length = c.Phases.length) : nj5' (((), (), (0 : Int), ()), (a.tup, c.tup, ())) = some (bif eqL a.Phases c.Phases then .inl (((), (), ()), (a.tup, c.tup, ())) else .inr ((false, ()), ())) := by
  have hs := ha.p
  have h5 : 100000 ≤ nf' := by decide
  have h := nd' (nbk' (step := fun x => ngl' x.1.2.2.1 x.2.1.1 x.2.1.2.1 x.2.1.2.2.1 x.2.1.2.2.2.1 x.2.2.1.1 x.2.2.1.2.1 x.2.2.1.2.2.1 x.2.2.1.2.2.2.1) a.Phases.length (fun i => (((), (), (i : Int), ()), (a.tup, c.tup, ()))) (fun i => a.Phases.getD i 0 == c.Phases.getD i 0) (Sum.inl (((), (), ()), (a.tup, c.tup, ()))) (Sum.inr ((false, ()), ())) (fun i hi => by
    show ngl' (i : Int) a.Phases a.Flags a.Leaving a.Entries c.Phases c.Flags c.Leaving c.Entries = _
    unfold ngl'
    simp only [decide_eq_true (show (i : Int) < (a.Phases.length : Int) by omega), nc' (show (0 : Int) ≤ (i : Int) by omega) (show (i : Int) < (a.Phases.length : Int) by omega), nc' (show (0 : Int) ≤ (i : Int) by omega) (show (i : Int) < (c.Phases.length : Int) by omega), cond_true, Int.toNat_natCast, wrap1 hi (by omega), bne]
    cases a.Phases.getD i 0 == c.Phases.getD i 0 <;> rfl) (by
    show ngl' (a.Phases.length : Int) a.Phases a.Flags a.Leaving a.Entries c.Phases c.Flags c.Leaving c.Entries = _
    unfold ngl'
    simp only [decide_eq_false (Int.lt_irrefl (a.Phases.length : Int)), cond_false]; rfl) a.Phases.length 0 (by omega)) (by omega)
  rw [ndl' (fun x y => x == y) nm7' 0 hl] at h
  exact h
theorem nue' (hl : a.Flags.length = c.Flags.length) : nku' (((), (), (0 : Int), ()), (a.tup, c.tup, ())) = some (bif eqL a.Flags c.Flags then .inl (((), (), ()), (a.tup, c.tup, ())) else .inr ((false, ()), ())) := by
  have hs := ha.f
  have h5 : 100000 ≤ nf' := by decide
  have h := nd' (nbk' (step := fun x => ngn' x.1.2.2.1 x.2.1.1 x.2.1.2.1 x.2.1.2.2.1 x.2.1.2.2.2.1 x.2.2.1.1 x.2.2.1.2.1 x.2.2.1.2.2.1 x.2.2.1.2.2.2.1) a.Flags.length (fun i => (((), (), (i : Int), ()), (a.tup, c.tup, ()))) (fun i => a.Flags.getD i false == c.Flags.getD i false) (Sum.inl (((), (), ()), (a.tup, c.tup, ()))) (Sum.inr ((false, ()), ())) (fun i hi => by
    show ngn' (i : Int) a.Phases a.Flags a.Leaving a.Entries c.Phases c.Flags c.Leaving c.Entries = _
    unfold ngn'
    simp only [decide_eq_true (show (i : Int) < (a.Flags.length : Int) by omega), nc' (show (0 : Int) ≤ (i : Int) by omega) (show (i : Int) < (a.Flags.length : Int) by omega), nc' (show (0 : Int) ≤ (i : Int) by omega) (show (i : Int) < (c.Flags.length : Int) by omega), cond_true, Int.toNat_natCast, wrap1 hi (by omega)]
    cases a.Flags.getD i false == c.Flags.getD i false <;> rfl) (by
    show ngn' (a.Flags.length : Int) a.Phases a.Flags a.Leaving a.Entries c.Phases c.Flags c.Leaving c.Entries = _
    unfold ngn'
    simp only [decide_eq_false (Int.lt_irrefl (a.Flags.length : Int)), cond_false]; rfl) a.Flags.length 0 (by omega)) (by omega)
  rw [ndl' (fun x y => x == y) nm7' false hl] at h
  exact h
theorem ntu' (hl : a.Leaving.length = c.Leaving.length) : nkd' (((), (), (0 : Int), ()), (a.tup, c.tup, ())) = some (bif eqL a.Leaving c.Leaving then .inl (((), (), ()), (a.tup, c.tup, ())) else .inr ((false, ()), ())) := by
  have hs := ha.l
  have h5 : 100000 ≤ nf' := by decide
  have h := nd' (nbk' (step := fun x => ngm' x.1.2.2.1 x.2.1.1 x.2.1.2.1 x.2.1.2.2.1 x.2.1.2.2.2.1 x.2.2.1.1 x.2.2.1.2.1 x.2.2.1.2.2.1 x.2.2.1.2.2.2.1) a.Leaving.length (fun i => (((), (), (i : Int), ()), (a.tup, c.tup, ()))) (fun i => a.Leaving.getD i false == c.Leaving.getD i false) (Sum.inl (((), (), ()), (a.tup, c.tup, ()))) (Sum.inr ((false, ()), ())) (fun i hi => by
    show ngm' (i : Int) a.Phases a.Flags a.Leaving a.Entries c.Phases c.Flags c.Leaving c.Entries = _
    unfold ngm'
    simp only [decide_eq_true (show (i : Int) < (a.Leaving.length : Int) by omega), nc' (show (0 : Int) ≤ (i : Int) by omega) (show (i : Int) < (a.Leaving.length : Int) by omega), nc' (show (0 : Int) ≤ (i : Int) by omega) (show (i : Int) < (c.Leaving.length : Int) by omega), cond_true, Int.toNat_natCast, wrap1 hi (by omega)]
    cases a.Leaving.getD i false == c.Leaving.getD i false <;> rfl) (by
    show ngm' (a.Leaving.length : Int) a.Phases a.Flags a.Leaving a.Entries c.Phases c.Flags c.Leaving c.Entries = _
    unfold ngm'
    simp only [decide_eq_false (Int.lt_irrefl (a.Leaving.length : Int)), cond_false]; rfl) a.Leaving.length 0 (by omega)) (by omega)
  rw [ndl' (fun x y => x == y) nm7' false hl] at h
  exact h
theorem nt4' (hl : a.Entries.length = c.Entries.length) : nj1' (((), (), (0 : Int), ()), (a.tup, c.tup, ())) = some (bif eqL a.Entries c.Entries then .inl ((), ()) else .inr ((false, ()), ())) := by
  have hs := ha.e
  have h5 : 100000 ≤ nf' := by decide
  have h := nd' (nbk' (step := fun x => ngk' x.1.2.2.1 x.2.1.1 x.2.1.2.1 x.2.1.2.2.1 x.2.1.2.2.2.1 x.2.2.1.1 x.2.2.1.2.1 x.2.2.1.2.2.1 x.2.2.1.2.2.2.1) a.Entries.length (fun i => (((), (), (i : Int), ()), (a.tup, c.tup, ()))) (fun i => eqEnt (a.Entries.getD i noE) (c.Entries.getD i noE)) (Sum.inl ((), ())) (Sum.inr ((false, ()), ())) (fun i hi => by
    show ngk' (i : Int) a.Phases a.Flags a.Leaving a.Entries c.Phases c.Flags c.Leaving c.Entries = _
    unfold ngk' eqEnt noE
    simp only [decide_eq_true (show (i : Int) < (a.Entries.length : Int) by omega), nc' (show (0 : Int) ≤ (i : Int) by omega) (show (i : Int) < (a.Entries.length : Int) by omega), nc' (show (0 : Int) ≤ (i : Int) by omega) (show (i : Int) < (c.Entries.length : Int) by omega), cond_true, Int.toNat_natCast, wrap1 hi (by omega)]
    generalize ((a.Entries.getD i (Entry.mk 0 0 0 0 false)).Floor == (c.Entries.getD i (Entry.mk 0 0 0 0 false)).Floor && ((a.Entries.getD i (Entry.mk 0 0 0 0 false)).Dir == (c.Entries.getD i (Entry.mk 0 0 0 0 false)).Dir && ((a.Entries.getD i (Entry.mk 0 0 0 0 false)).Car == (c.Entries.getD i (Entry.mk 0 0 0 0 false)).Car && ((a.Entries.getD i (Entry.mk 0 0 0 0 false)).Moves == (c.Entries.getD i (Entry.mk 0 0 0 0 false)).Moves && ((a.Entries.getD i (Entry.mk 0 0 0 0 false)).Moved == (c.Entries.getD i (Entry.mk 0 0 0 0 false)).Moved && true))))) = q
    cases q <;> rfl) (by
    show ngk' (a.Entries.length : Int) a.Phases a.Flags a.Leaving a.Entries c.Phases c.Flags c.Leaving c.Entries = _
    unfold ngk'
    simp only [decide_eq_false (Int.lt_irrefl (a.Entries.length : Int)), cond_false]) a.Entries.length 0 (by omega)) (by omega)
  rw [ndl' eqEnt nvw' noE hl] at h
  exact h
theorem nye' : nmd' a.Phases a.Flags a.Leaving a.Entries c.Phases c.Flags c.Leaving c.Entries = some ((sameI a c, ()), ()) := by
  unfold nmd' sameI
  by_cases h0 : a.Phases.length = c.Phases.length
  · rw [show (((a.Phases.length : Nat) : Int) != ((c.Phases.length : Nat) : Int)) = false by simp [h0], cond_false]
    by_cases h1 : a.Flags.length = c.Flags.length
    · rw [show (((a.Flags.length : Nat) : Int) != ((c.Flags.length : Nat) : Int)) = false by simp [h1], cond_false]
      by_cases h2 : a.Leaving.length = c.Leaving.length
      · rw [show (((a.Leaving.length : Nat) : Int) != ((c.Leaving.length : Nat) : Int)) = false by simp [h2], cond_false]
        by_cases h3 : a.Entries.length = c.Entries.length
        · rw [show (((a.Entries.length : Nat) : Int) != ((c.Entries.length : Nat) : Int)) = false by simp [h3], cond_false]
          have l0 := nug' ha (c := c) h0
          have l1 := nue' ha (c := c) h1
          have l2 := ntu' ha (c := c) h2
          have l3 := nt4' ha (c := c) h3
          simp only [Img.tup] at l0 l1 l2 l3
          rw [l0]
          cases eqL a.Phases c.Phases
          · rfl
          simp only [Option.bind_some, cond_true, Bool.true_and, l1]
          cases eqL a.Flags c.Flags
          · rfl
          simp only [Option.bind_some, cond_true, Bool.true_and, l2]
          cases eqL a.Leaving c.Leaving
          · rfl
          simp only [Option.bind_some, cond_true, Bool.true_and, l3]
          cases eqL a.Entries c.Entries <;> rfl
        · rw [(nfg' _ _).2 h3, nc0' h3]; simp
      · rw [(nfg' _ _).2 h2, nc0' h2]; simp
    · rw [(nfg' _ _).2 h1, nc0' h1]; simp
  · rw [(nfg' _ _).2 h0, nc0' h0]; simp
end
end Go.Ovl
