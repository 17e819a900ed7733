/- Layer 10: equal images and equal rows of records, the program's way and the reference's. -/
import Derived.Test.YthdomhdippmaiaaGreatOvLog2
namespace Go.Ovl
open Go Go.Ab
set_option maxRecDepth 100000
def allN (p : Nat → Bool) : Nat → Nat → Bool
  | 0, _ => true
  | m + 1, i => p i && allN p m (i + 1)
theorem nbb' {X Y : Type} {step : X → Option (Sum X Y)} (N : Nat) (g : Nat → X) (p : Nat → Bool) (y0 y1 : Y) (h1 : ∀ i, i < N → step (g i) = some (bif p i then .inl (g (i + 1)) else .inr y1)) (h2 : step (g N) = some (.inr y0)) :
    ∀ m i : Nat, i + m = N → iter step (m + 1) (g i) = some (bif allN p m i then y0 else y1)
  | 0, i, hi => by
    obtain rfl : i = N := by omega
    exact n6' h2
  | m + 1, i, hi => by
    have h := h1 i (by omega)
    simp only [allN]
    cases hp : p i with
    | true =>
      rw [hp] at h
      rw [nb4' h, Bool.true_and]
      exact nbb' N g p y0 y1 h1 h2 m (i + 1) (by omega)
    | false =>
      rw [hp] at h
      rw [n6' h]; rfl
theorem nzg' {α : Type} (f : α → α → Bool) (hf : ∀ x y, f x y = true ↔ x = y) (d : α) (a b : List α) (hl : a.length = b.length) : ∀ m i : Nat, i + m = a.length → (allN (fun i => f (a.getD i d) (b.getD i d)) m i = true ↔ a.drop i = b.drop i)
  | 0, i, hi => by
    obtain rfl : i = a.length := by omega
    rw [List.drop_length, hl, List.drop_length]
    exact ⟨fun _ => rfl, fun _ => rfl⟩
  | m + 1, i, hi => by
    simp only [allN, Bool.and_eq_true, hf]
    rw [nzg' f hf d a b hl m (i + 1) (by omega), nc1' d (show i < a.length by omega), nc1' d (show i < b.length by omega), List.cons.injEq]
theorem n4f' {α : Type} (f : α → α → Bool) (hf : ∀ x y, f x y = true ↔ x = y) (d : α) {a b : List α} (hl : a.length = b.length) : allN (fun i => f (a.getD i d) (b.getD i d)) a.length 0 = @decide (a = b) (Classical.propDecidable _) := by
  rw [Bool.eq_iff_iff, nzg' f hf d a b hl a.length 0 (by omega)]
  simp
noncomputable def eqL {α : Type} (a b : List α) : Bool := @decide (a = b) (Classical.propDecidable _)
theorem ncx' {α : Type} {a b : List α} (h : ¬ a.length = b.length) : eqL a b = false := by
  have : ¬ a = b := fun e => h (by rw [e])
  unfold eqL
  simp [this]
theorem nxr' {α : Type} (a : List α) : eqL a a = true := by unfold eqL; simp
theorem n4v' {α : Type} {a b : List α} : eqL a b = true ↔ a = b := by unfold eqL; simp
theorem ndh' {α : Type} (f : α → α → Bool) (hf : ∀ x y, f x y = true ↔ x = y) (d : α) {a b : List α} (hl : a.length = b.length) : allN (fun i => f (a.getD i d) (b.getD i d)) a.length 0 = eqL a b := n4f' f hf d hl
theorem ne8' {α : Type} (a b : List α) : ((((a.length : Nat) : Int) != ((b.length : Nat) : Int)) = true) ↔ ¬ a.length = b.length := by
  simp; omega
def eqEnt (x y : Entry) : Bool := (x.Floor == y.Floor) && ((x.Dir == y.Dir) && ((x.Car == y.Car) && ((x.Moves == y.Moves) && ((x.Moved == y.Moved) && true))))
theorem nux' (x y : Entry) : eqEnt x y = true ↔ x = y := by
  cases x; cases y
  simp [eqEnt]
theorem nmk' {α : Type} [BEq α] [LawfulBEq α] (x y : α) : (x == y) = true ↔ x = y := beq_iff_eq
def ng' : Nat := 10000000
theorem wrap1 {i n : Nat} (h : i < n) (hn : n ≤ ng') : IntKind.i64.wrap ((i : Int) + 1) = ((i + 1 : Nat) : Int) := by
  unfold ng' at hn
  rw [nb' (by omega) (by omega)]; omega
section
variable {α : Type}
theorem nm1' {a b : List Int} (ha : a.length ≤ ng') : ncu' a b = some ((eqL a b, ()), ()) := by
  unfold ncu'
  by_cases hl : a.length = b.length
  · rw [show (((a.length : Nat) : Int) != ((b.length : Nat) : Int)) = false by simp [hl], cond_false]
    have h := nf' (nbb' (step := fun x => ncc' x.1.1 x.1.2.1 x.1.2.2.1 x.1.2.2.2.1) a.length (fun i => ((a, b, (a.length : Int), (i : Int), ()), ())) (fun i => a.getD i 0 == b.getD i 0) (Sum.inl ((), ())) (Sum.inr ((false, ()), ())) (fun i hi => by
      show ncc' a b (a.length : Int) (i : Int) = _
      unfold ncc'
      simp only [decide_eq_true (show (i : Int) < (a.length : Int) by omega), nc' (show (0 : Int) ≤ (i : Int) by omega) (show (i : Int) < (a.length : Int) by omega), nc' (show (0 : Int) ≤ (i : Int) by omega) (show (i : Int) < (b.length : Int) by omega), cond_true, Int.toNat_natCast, wrap1 hi ha, bne]
      cases a.getD i 0 == b.getD i 0 <;> rfl) (by
      show ncc' a b (a.length : Int) (a.length : Int) = _
      unfold ncc'
      simp only [decide_eq_false (Int.lt_irrefl (a.length : Int)), cond_false]) a.length 0 (by omega)) (by unfold ng' at ha; omega)
    rw [ndh' (fun x y => x == y) nmk' 0 hl] at h
    rw [show nda' ((a, b, (a.length : Int), (0 : Int), ()), ()) = _ from h]
    cases eqL a b <;> rfl
  · rw [(ne8' a b).2 hl, ncx' hl]; rfl
theorem nlu' {a b : List Bool} (ha : a.length ≤ ng') : ncp' a b = some ((eqL a b, ()), ()) := by
  unfold ncp'
  by_cases hl : a.length = b.length
  · rw [show (((a.length : Nat) : Int) != ((b.length : Nat) : Int)) = false by simp [hl], cond_false]
    have h := nf' (nbb' (step := fun x => nb1' x.1.1 x.1.2.1 x.1.2.2.1 x.1.2.2.2.1) a.length (fun i => ((a, b, (a.length : Int), (i : Int), ()), ())) (fun i => a.getD i false == b.getD i false) (Sum.inl ((), ())) (Sum.inr ((false, ()), ())) (fun i hi => by
      show nb1' a b (a.length : Int) (i : Int) = _
      unfold nb1'
      simp only [decide_eq_true (show (i : Int) < (a.length : Int) by omega), nc' (show (0 : Int) ≤ (i : Int) by omega) (show (i : Int) < (a.length : Int) by omega), nc' (show (0 : Int) ≤ (i : Int) by omega) (show (i : Int) < (b.length : Int) by omega), cond_true, Int.toNat_natCast, wrap1 hi ha]
      cases a.getD i false == b.getD i false <;> rfl) (by
      show nb1' a b (a.length : Int) (a.length : Int) = _
      unfold nb1'
      simp only [decide_eq_false (Int.lt_irrefl (a.length : Int)), cond_false]) a.length 0 (by omega)) (by unfold ng' at ha; omega)
    rw [ndh' (fun x y => x == y) nmk' false hl] at h
    rw [show nc0' ((a, b, (a.length : Int), (0 : Int), ()), ()) = _ from h]
    cases eqL a b <;> rfl
  · rw [(ne8' a b).2 hl, ncx' hl]; rfl
theorem nph' {a b : List Entry} (ha : a.length ≤ ng') : ncd' a b = some ((eqL a b, ()), ()) := by
  unfold ncd'
  by_cases hl : a.length = b.length
  · rw [show (((a.length : Nat) : Int) != ((b.length : Nat) : Int)) = false by simp [hl], cond_false]
    have h := nf' (nbb' (step := fun x => nbd' x.1.1 x.1.2.1 x.1.2.2.1 x.1.2.2.2.1) a.length (fun i => ((a, b, (a.length : Int), (i : Int), ()), ())) (fun i => eqEnt (a.getD i noE) (b.getD i noE)) (Sum.inl ((), ())) (Sum.inr ((false, ()), ())) (fun i hi => by
      show nbd' a b (a.length : Int) (i : Int) = _
      unfold nbd' eqEnt noE
      simp only [decide_eq_true (show (i : Int) < (a.length : Int) by omega), nc' (show (0 : Int) ≤ (i : Int) by omega) (show (i : Int) < (a.length : Int) by omega), nc' (show (0 : Int) ≤ (i : Int) by omega) (show (i : Int) < (b.length : Int) by omega), cond_true, Int.toNat_natCast, wrap1 hi ha]
      generalize ((a.getD i (Entry.mk 0 0 0 0 false)).Floor == (b.getD i (Entry.mk 0 0 0 0 false)).Floor && ((a.getD i (Entry.mk 0 0 0 0 false)).Dir == (b.getD i (Entry.mk 0 0 0 0 false)).Dir && ((a.getD i (Entry.mk 0 0 0 0 false)).Car == (b.getD i (Entry.mk 0 0 0 0 false)).Car && ((a.getD i (Entry.mk 0 0 0 0 false)).Moves == (b.getD i (Entry.mk 0 0 0 0 false)).Moves && ((a.getD i (Entry.mk 0 0 0 0 false)).Moved == (b.getD i (Entry.mk 0 0 0 0 false)).Moved && true))))) = q
      cases q <;> rfl) (by
      show nbd' a b (a.length : Int) (a.length : Int) = _
      unfold nbd'
      simp only [decide_eq_false (Int.lt_irrefl (a.length : Int)), cond_false]) a.length 0 (by omega)) (by unfold ng' at ha; omega)
    rw [ndh' eqEnt nux' noE hl] at h
    rw [show nb7' ((a, b, (a.length : Int), (0 : Int), ()), ()) = _ from h]
    cases eqL a b <;> rfl
  · rw [(ne8' a b).2 hl, ncx' hl]; rfl
end
structure Img.fit (m : Img) : Prop where
  p : m.Phases.length ≤ 100000
  f : m.Flags.length ≤ 100000
  l : m.Leaving.length ≤ 100000
  e : m.Entries.length ≤ 100000
noncomputable def sameI (a c : Img) : Bool := eqL a.Phases c.Phases && (eqL a.Flags c.Flags && (eqL a.Leaving c.Leaving && eqL a.Entries c.Entries))
theorem nz0' (a : Img) : sameI a a = true := by unfold sameI; simp [nxr']
theorem nyw' {a c : Img} (ha : a.fit) : nl2' a.Phases a.Flags a.Leaving a.Entries c.Phases c.Flags c.Leaving c.Entries = some ((sameI a c, ()), ()) := by
  have h5 : 100000 ≤ ng' := by decide
  unfold nl2' sameI
  rw [nm1' (by have := ha.p; omega), nlu' (by have := ha.f; omega), nlu' (by have := ha.l; omega), nph' (by have := ha.e; omega)]
  cases eqL a.Phases c.Phases <;> cases eqL a.Flags c.Flags <;> cases eqL a.Leaving c.Leaving <;> rfl
section
variable {a c : Img} (ha : a.fit)
include ha
theorem nuc' (hl : a.Phases.length = c.Phases.length) : nkc' (((), (), (0 : Int), ()), (a.tup, c.tup, ())) = some (bif eqL a.Phases c.Phases then .inl (((), (), ()), (a.tup, c.tup, ())) else .inr ((false, ()), ())) := by
  have hs := ha.p
  have h5 : 100000 ≤ ng' := by decide
  have h := nf' (nbb' (step := fun x => ngi' x.1.2.2.1 x.2.1.1 x.2.1.2.1 x.2.1.2.2.1 x.2.1.2.2.2.1 x.2.2.1.1 x.2.2.1.2.1 x.2.2.1.2.2.1 x.2.2.1.2.2.2.1) a.Phases.length (fun i => (((), (), (i : Int), ()), (a.tup, c.tup, ()))) (fun i => a.Phases.getD i 0 == c.Phases.getD i 0) (Sum.inl (((), (), ()), (a.tup, c.tup, ()))) (Sum.inr ((false, ()), ())) (fun i hi => by
    show ngi' (i : Int) a.Phases a.Flags a.Leaving a.Entries c.Phases c.Flags c.Leaving c.Entries = _
    unfold ngi'
    simp only [decide_eq_true (show (i : Int) < (a.Phases.length : Int) by omega), nc' (show (0 : Int) ≤ (i : Int) by omega) (show (i : Int) < (a.Phases.length : Int) by omega), nc' (show (0 : Int) ≤ (i : Int) by omega) (show (i : Int) < (c.Phases.length : Int) by omega), cond_true, Int.toNat_natCast, wrap1 hi (by omega), bne]
    cases a.Phases.getD i 0 == c.Phases.getD i 0 <;> rfl) (by
    show ngi' (a.Phases.length : Int) a.Phases a.Flags a.Leaving a.Entries c.Phases c.Flags c.Leaving c.Entries = _
    unfold ngi'
    simp only [decide_eq_false (Int.lt_irrefl (a.Phases.length : Int)), cond_false]; rfl) a.Phases.length 0 (by omega)) (by omega)
  rw [ndh' (fun x y => x == y) nmk' 0 hl] at h
  exact h
theorem ntc' (hl : a.Flags.length = c.Flags.length) : nj7' (((), (), (0 : Int), ()), (a.tup, c.tup, ())) = some (bif eqL a.Flags c.Flags then .inl (((), (), ()), (a.tup, c.tup, ())) else .inr ((false, ()), ())) := by
  have hs := ha.f
  have h5 : 100000 ≤ ng' := by decide
  have h := nf' (nbb' (step := fun x => ngf' x.1.2.2.1 x.2.1.1 x.2.1.2.1 x.2.1.2.2.1 x.2.1.2.2.2.1 x.2.2.1.1 x.2.2.1.2.1 x.2.2.1.2.2.1 x.2.2.1.2.2.2.1) a.Flags.length (fun i => (((), (), (i : Int), ()), (a.tup, c.tup, ()))) (fun i => a.Flags.getD i false == c.Flags.getD i false) (Sum.inl (((), (), ()), (a.tup, c.tup, ()))) (Sum.inr ((false, ()), ())) (fun i hi => by
    show ngf' (i : Int) a.Phases a.Flags a.Leaving a.Entries c.Phases c.Flags c.Leaving c.Entries = _
    unfold ngf'
    simp only [decide_eq_true (show (i : Int) < (a.Flags.length : Int) by omega), nc' (show (0 : Int) ≤ (i : Int) by omega) (show (i : Int) < (a.Flags.length : Int) by omega), nc' (show (0 : Int) ≤ (i : Int) by omega) (show (i : Int) < (c.Flags.length : Int) by omega), cond_true, Int.toNat_natCast, wrap1 hi (by omega)]
    cases a.Flags.getD i false == c.Flags.getD i false <;> rfl) (by
    show ngf' (a.Flags.length : Int) a.Phases a.Flags a.Leaving a.Entries c.Phases c.Flags c.Leaving c.Entries = _
    unfold ngf'
    simp only [decide_eq_false (Int.lt_irrefl (a.Flags.length : Int)), cond_false]; rfl) a.Flags.length 0 (by omega)) (by omega)
  rw [ndh' (fun x y => x == y) nmk' false hl] at h
  exact h
theorem ntt' (hl : a.Leaving.length = c.Leaving.length) : nke' (((), (), (0 : Int), ()), (a.tup, c.tup, ())) = some (bif eqL a.Leaving c.Leaving then .inl (((), (), ()), (a.tup, c.tup, ())) else .inr ((false, ()), ())) := by
  have hs := ha.l
  have h5 : 100000 ≤ ng' := by decide
  have h := nf' (nbb' (step := fun x => ngr' x.1.2.2.1 x.2.1.1 x.2.1.2.1 x.2.1.2.2.1 x.2.1.2.2.2.1 x.2.2.1.1 x.2.2.1.2.1 x.2.2.1.2.2.1 x.2.2.1.2.2.2.1) a.Leaving.length (fun i => (((), (), (i : Int), ()), (a.tup, c.tup, ()))) (fun i => a.Leaving.getD i false == c.Leaving.getD i false) (Sum.inl (((), (), ()), (a.tup, c.tup, ()))) (Sum.inr ((false, ()), ())) (fun i hi => by
    show ngr' (i : Int) a.Phases a.Flags a.Leaving a.Entries c.Phases c.Flags c.Leaving c.Entries = _
    unfold ngr'
    simp only [decide_eq_true (show (i : Int) < (a.Leaving.length : Int) by omega), nc' (show (0 : Int) ≤ (i : Int) by omega) (show (i : Int) < (a.Leaving.length : Int) by omega), nc' (show (0 : Int) ≤ (i : Int) by omega) (show (i : Int) < (c.Leaving.length : Int) by omega), cond_true, Int.toNat_natCast, wrap1 hi (by omega)]
    cases a.Leaving.getD i false == c.Leaving.getD i false <;> rfl) (by
    show ngr' (a.Leaving.length : Int) a.Phases a.Flags a.Leaving a.Entries c.Phases c.Flags c.Leaving c.Entries = _
    unfold ngr'
    simp only [decide_eq_false (Int.lt_irrefl (a.Leaving.length : Int)), cond_false]; rfl) a.Leaving.length 0 (by omega)) (by omega)
  rw [ndh' (fun x y => x == y) nmk' false hl] at h
  exact h
theorem nud' (hl : a.Entries.length = c.Entries.length) : nj6' (((), (), (0 : Int), ()), (a.tup, c.tup, ())) = some (bif eqL a.Entries c.Entries then .inl ((), ()) else .inr ((false, ()), ())) := by
  have hs := ha.e
  have h5 : 100000 ≤ ng' := by decide
  have h := nf' (nbb' (step := fun x => ngp' x.1.2.2.1 x.2.1.1 x.2.1.2.1 x.2.1.2.2.1 x.2.1.2.2.2.1 x.2.2.1.1 x.2.2.1.2.1 x.2.2.1.2.2.1 x.2.2.1.2.2.2.1) a.Entries.length (fun i => (((), (), (i : Int), ()), (a.tup, c.tup, ()))) (fun i => eqEnt (a.Entries.getD i noE) (c.Entries.getD i noE)) (Sum.inl ((), ())) (Sum.inr ((false, ()), ())) (fun i hi => by
    show ngp' (i : Int) a.Phases a.Flags a.Leaving a.Entries c.Phases c.Flags c.Leaving c.Entries = _
    unfold ngp' eqEnt noE
    simp only [decide_eq_true (show (i : Int) < (a.Entries.length : Int) by omega), nc' (show (0 : Int) ≤ (i : Int) by omega) (show (i : Int) < (a.Entries.length : Int) by omega), nc' (show (0 : Int) ≤ (i : Int) by omega) (show (i : Int) < (c.Entries.length : Int) by omega), cond_true, Int.toNat_natCast, wrap1 hi (by omega)]
    generalize ((a.Entries.getD i (Entry.mk 0 0 0 0 false)).Floor == (c.Entries.getD i (Entry.mk 0 0 0 0 false)).Floor && ((a.Entries.getD i (Entry.mk 0 0 0 0 false)).Dir == (c.Entries.getD i (Entry.mk 0 0 0 0 false)).Dir && ((a.Entries.getD i (Entry.mk 0 0 0 0 false)).Car == (c.Entries.getD i (Entry.mk 0 0 0 0 false)).Car && ((a.Entries.getD i (Entry.mk 0 0 0 0 false)).Moves == (c.Entries.getD i (Entry.mk 0 0 0 0 false)).Moves && ((a.Entries.getD i (Entry.mk 0 0 0 0 false)).Moved == (c.Entries.getD i (Entry.mk 0 0 0 0 false)).Moved && true))))) = q
    cases q <;> rfl) (by
    show ngp' (a.Entries.length : Int) a.Phases a.Flags a.Leaving a.Entries c.Phases c.Flags c.Leaving c.Entries = _
    unfold ngp'
    simp only [decide_eq_false (Int.lt_irrefl (a.Entries.length : Int)), cond_false]) a.Entries.length 0 (by omega)) (by omega)
  rw [ndh' eqEnt nux' noE hl] at h
  exact h
theorem nyo' : nl5' a.Phases a.Flags a.Leaving a.Entries c.Phases c.Flags c.Leaving c.Entries = some ((sameI a c, ()), ()) := by
  unfold nl5' sameI
  by_cases h0 : a.Phases.length = c.Phases.length
  · rw [show (((a.Phases.length : Nat) : Int) != ((c.Phases.length : Nat) : Int)) = false by simp [h0], cond_false]
    by_cases h1 : a.Flags.length = c.Flags.length
    · rw [show (((a.Flags.length : Nat) : Int) != ((c.Flags.length : Nat) : Int)) = false by simp [h1], cond_false]
      by_cases h2 : a.Leaving.length = c.Leaving.length
      · rw [show (((a.Leaving.length : Nat) : Int) != ((c.Leaving.length : Nat) : Int)) = false by simp [h2], cond_false]
        by_cases h3 : a.Entries.length = c.Entries.length
        · rw [show (((a.Entries.length : Nat) : Int) != ((c.Entries.length : Nat) : Int)) = false by simp [h3], cond_false]
          have l0 := nuc' ha (c := c) h0
          have l1 := ntc' ha (c := c) h1
          have l2 := ntt' ha (c := c) h2
          have l3 := nud' ha (c := c) h3
          simp only [Img.tup] at l0 l1 l2 l3
          rw [l0]
          cases eqL a.Phases c.Phases
          · rfl
          simp only [Option.bind_some, cond_true, Bool.true_and, l1]
          cases eqL a.Flags c.Flags
          · rfl
          simp only [Option.bind_some, cond_true, Bool.true_and, l2]
          cases eqL a.Leaving c.Leaving
          · rfl
          simp only [Option.bind_some, cond_true, Bool.true_and, l3]
          cases eqL a.Entries c.Entries <;> rfl
        · rw [(ne8' _ _).2 h3, ncx' h3]; simp
      · rw [(ne8' _ _).2 h2, ncx' h2]; simp
    · rw [(ne8' _ _).2 h1, ncx' h1]; simp
  · rw [(ne8' _ _).2 h0, ncx' h0]; simp
end
end Go.Ovl
