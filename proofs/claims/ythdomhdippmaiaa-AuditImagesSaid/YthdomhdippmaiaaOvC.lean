/- Layer 10, the program's side: the binary search, what a record changes, images behind records. -/
import Derived.Test.YthdomhdippmaiaaOvB
import Derived.Test.YthdomhdippmaiaaOvA
import Derived.Test.YthdomhdippmaiaaDefs2
namespace Go.Ovl
open Go Go.Ab
set_option maxRecDepth 100000
def keyE (F D : Int) : Entry := ⟨F, D, 0, 0, false⟩
theorem n06' {i j : Nat} (h : i + j < 9223372036854775808) : IntKind.i64.wrap (Int.fdiv (IntKind.u64.wrap (IntKind.i64.wrap ((i : Int) + (j : Int)))) ((2 : Int) ^ (Min.min (Int.toNat (1 : Int)) (IntKind.bits IntKind.u64)))) = (((i + j) / 2 : Nat) : Int) := by
  rw [nb' (n := (i : Int) + (j : Int)) (by omega) (by omega), n2n' (by omega) (by omega)]
  rw [show ((2 : Int) ^ (Min.min (Int.toNat (1 : Int)) (IntKind.bits IntKind.u64))) = 2 from rfl]
  rw [Int.fdiv_eq_ediv_of_nonneg _ (by omega)]
  rw [nb' (by omega) (by omega)]
  omega
theorem nwt' {l : List Entry} (hs : nbf' l) (hl : l.length ≤ 100000) (F D : Int) :
    nl' ((l, (), (), (l.length : Int), (0 : Int), (l.length : Int), ()), ((F, D, 0, 0, false, ()), ())) = some ((l, (), (), (l.length : Int), ((posF (keyE F D) l : Nat) : Int), ()), ((F, D, 0, 0, false, ()), ())) := by
  refine n28' (fun x y => ∃ i j : Nat, i ≤ posF (keyE F D) l ∧ posF (keyE F D) l ≤ j ∧ j ≤ l.length ∧ x = ((l, (), (), (l.length : Int), (i : Int), (j : Int), ()), ((F, D, (0 : Int), (0 : Int), false, ()), ())) ∧ y = ((l, (), (), (l.length : Int), ((posF (keyE F D) l : Nat) : Int), ()), ((F, D, (0 : Int), (0 : Int), false, ()), ()))) (fun x => x.1.2.2.2.2.2.1.toNat - x.1.2.2.2.2.1.toNat) ?_ (x := ((l, (), (), (l.length : Int), (0 : Int), (l.length : Int), ()), ((F, D, 0, 0, false, ()), ()))) (y := ((l, (), (), (l.length : Int), ((posF (keyE F D) l : Nat) : Int), ()), ((F, D, 0, 0, false, ()), ()))) ⟨0, l.length, Nat.zero_le _, npa' _ _, Nat.le_refl _, rfl, rfl⟩ (by show ((l.length : Int).toNat - Int.toNat 0) < _; omega)
  rintro _ _ ⟨i, j, h1, h2, h3, rfl, rfl⟩
  show (∃ x', nn' l (l.length : Int) (i : Int) (j : Int) F D 0 0 false = _ ∧ _) ∨ nn' l (l.length : Int) (i : Int) (j : Int) F D 0 0 false = _
  unfold nn'
  rw [n06' (by omega)]
  by_cases hij : i < j
  · left
    have hh : (i + j) / 2 < l.length := by omega
    obtain ⟨n, c1, c2, _⟩ := nmw' (l.getD ((i + j) / 2) noE) (keyE F D)
    unfold keyE at c1
    unfold noE at c1
    simp only [decide_eq_true (show (i : Int) < (j : Int) by omega), nd' (show (0 : Int) ≤ (((i + j) / 2 : Nat) : Int) by omega) (show (((i + j) / 2 : Nat) : Int) < (l.length : Int) by omega), Int.toNat_natCast, cond_true, c1, Option.bind_some]
    have c2' : decide (n < 0) = lessE (l.getD ((i + j) / 2) noE) (keyE F D) := by rw [no0', c2, Bool.not_not]
    rw [c2']
    cases hq : lessE (l.getD ((i + j) / 2) noE) (keyE F D) with
    | true =>
      have : (i + j) / 2 < posF (keyE F D) l := by
        rcases Nat.lt_or_ge ((i + j) / 2) (posF (keyE F D) l) with h | h
        · exact h
        · have := nx2' hs _ h hh
          rw [hq] at this; cases this
      rw [cond_true, show IntKind.i64.wrap ((((i + j) / 2 : Nat) : Int) + 1) = (((i + j) / 2 + 1 : Nat) : Int) by rw [nb' (by omega) (by omega)]; omega]
      exact ⟨_, rfl, ⟨(i + j) / 2 + 1, j, by omega, h2, h3, rfl, trivial⟩, by show Int.toNat (j : Int) - Int.toNat (((i + j) / 2 + 1 : Nat) : Int) < Int.toNat (j : Int) - Int.toNat (i : Int); omega⟩
    | false =>
      have : posF (keyE F D) l ≤ (i + j) / 2 := by
        rcases Nat.lt_or_ge ((i + j) / 2) (posF (keyE F D) l) with h | h
        · have := nxz' (keyE F D) l _ h
          rw [hq] at this; cases this
        · exact h
      rw [cond_false]
      exact ⟨_, rfl, ⟨i, (i + j) / 2, h1, this, by omega, rfl, trivial⟩, by show Int.toNat (((i + j) / 2 : Nat) : Int) - Int.toNat (i : Int) < Int.toNat (j : Int) - Int.toNat (i : Int); omega⟩
  · right
    rw [decide_eq_false (show ¬ (i : Int) < (j : Int) by omega), show i = posF (keyE F D) l by omega]
    rfl
theorem nw6' (m : Img) (hs : nbf' m.Entries) (hl : m.Entries.length ≤ 100000) (F D : Int) : ni0' m.Phases m.Flags m.Leaving m.Entries F D = some ((((posF (keyE F D) m.Entries : Nat) : Int), hasF (keyE F D) m.Entries, ()), ()) := by
  unfold ni0' nv'
  simp only
  rw [nwt' hs hl F D]
  simp only [Option.bind_some]
  have hp := npa' (keyE F D) m.Entries
  unfold hasF
  by_cases h : posF (keyE F D) m.Entries < m.Entries.length
  · obtain ⟨n, c1, _, c3⟩ := nmw' (m.Entries.getD (posF (keyE F D) m.Entries) noE) (keyE F D)
    rw [decide_eq_true (show ((posF (keyE F D) m.Entries : Nat) : Int) < (m.Entries.length : Int) by omega), nd' (show (0 : Int) ≤ ((posF (keyE F D) m.Entries : Nat) : Int) by omega) (show ((posF (keyE F D) m.Entries : Nat) : Int) < (m.Entries.length : Int) by omega), Int.toNat_natCast, show Nat.blt (posF (keyE F D) m.Entries) m.Entries.length = true by rw [Nat.blt_eq]; exact h]
    have e : (n == 0) = isC (keyE F D).Floor (keyE F D).Dir (m.Entries.getD (posF (keyE F D) m.Entries) noE) := by
      rw [Bool.eq_iff_iff, beq_iff_eq, c3]
      unfold isC
      rw [Bool.and_eq_true, beq_iff_eq, beq_iff_eq]
    rw [← e]
    generalize posF (keyE F D) m.Entries = p at *
    unfold noE at c1
    unfold keyE at c1
    simp only [cond_true, c1, Option.bind_some, Bool.true_and]
  · rw [decide_eq_false (show ¬ ((posF (keyE F D) m.Entries : Nat) : Int) < (m.Entries.length : Int) by omega), show Nat.blt (posF (keyE F D) m.Entries) m.Entries.length = false by rw [← Bool.not_eq_true, Nat.blt_eq]; exact h]
    rfl
theorem nzb' (x : Entry) (e : Entry) : lessE x (keyE e.Floor e.Dir) = lessE x e := rfl
theorem nv8' (e : Entry) : ∀ l : List Entry, posF (keyE e.Floor e.Dir) l = posF e l
  | [] => rfl
  | x :: t => by simp only [posF, nzb', nv8' e t]
theorem nuo' {m : Img} (hs : nbf' m.Entries) (hl : m.Entries.length ≤ 100000) (r : Record) (hc : (r.Kind = 4 ∨ r.Kind = 5 ∨ r.Kind = 6) → 0 ≤ r.Car ∧ r.Car < (m.Phases.length : Int) ∧ r.Car < (m.Flags.length : Int) ∧ r.Car < (m.Leaving.length : Int)) :
    ngm' r.Kind r.Floor r.Dir r.Car r.Value m.Phases m.Flags m.Leaving m.Entries = some ((), ((n9' m r).tup, ())) := by
  unfold ngm' n9'
  rw [nw6' m hs hl]
  simp only [Option.bind_some]
  by_cases k4 : r.Kind = 4
  · obtain ⟨c0, c1, c2, c3⟩ := hc (.inl k4)
    rw [k4]
    simp only [beq_self_eq_true, cond_true, nd' c0 c1]
    rfl
  rw [beq_f k4]
  by_cases k5 : r.Kind = 5
  · obtain ⟨c0, c1, c2, c3⟩ := hc (.inr (.inl k5))
    rw [k5]
    simp only [beq_self_eq_true, cond_true, cond_false, nd' c0 c2]
    rfl
  rw [beq_f k5]
  by_cases k6 : r.Kind = 6
  · obtain ⟨c0, c1, c2, c3⟩ := hc (.inr (.inr k6))
    rw [k6]
    simp only [beq_self_eq_true, cond_true, cond_false, nd' c0 c3]
    rfl
  rw [beq_f k6]
  simp only [cond_false]
  have hf := noy' (c := keyE r.Floor r.Dir) 0 hs
  simp only [Nat.zero_add] at hf
  rw [show findF r.Floor r.Dir m.Entries 0 = _ from hf]
  have hp := npa' (keyE r.Floor r.Dir) m.Entries
  cases hq : hasF (keyE r.Floor r.Dir) m.Entries with
  | false =>
    have hn := n0h' hs hq
    simp only [cond_false, cond_true, Bool.not_false, beq_self_eq_true]
    by_cases k1 : r.Kind = 1
    · rw [k1]
      simp only [beq_self_eq_true, cond_true]
      unfold nbw' insF
      rw [decide_eq_true (show (0 : Int) ≤ ((posF (keyE r.Floor r.Dir) m.Entries : Nat) : Int) by omega), decide_eq_true (show ((posF (keyE r.Floor r.Dir) m.Entries : Nat) : Int) ≤ (m.Entries.length : Int) by omega)]
      rw [show Nat.blt 0 [Entry.mk r.Floor r.Dir (-1) 0 false].length = true from rfl, nbk' (show m.Entries.length + [Entry.mk r.Floor r.Dir (-1) 0 false].length ≤ 2147483648 by rw [List.length_singleton]; omega)]
      have hi := nuz' (c := ⟨r.Floor, r.Dir, -1, 0, false⟩) (l := m.Entries) hn
      rw [hi, show posF ⟨r.Floor, r.Dir, -1, 0, false⟩ m.Entries = posF (keyE r.Floor r.Dir) m.Entries from (nv8' ⟨r.Floor, r.Dir, -1, 0, false⟩ m.Entries).symm]
      rfl
    · rw [beq_f k1]
      cases r.Kind == 2 <;> cases r.Kind == 3 <;> cases r.Kind == 7 <;> rfl
  | true =>
    have hlt : posF (keyE r.Floor r.Dir) m.Entries < m.Entries.length := by
      unfold hasF at hq
      rw [Bool.and_eq_true, Nat.blt_eq] at hq
      exact hq.1
    simp only [cond_true, Bool.not_true, cond_false, beq_f (show ¬ ((posF (keyE r.Floor r.Dir) m.Entries : Nat) : Int) = -1 by omega), Int.toNat_natCast]
    generalize posF (keyE r.Floor r.Dir) m.Entries = p at hp hlt ⊢
    have w : IntKind.i64.wrap ((p : Int) + 1) = ((p + 1 : Nat) : Int) := by rw [nb' (by omega) (by omega)]; omega
    have ib : inB (p : Int) m.Entries.length = true := nd' (by omega) (by omega)
    by_cases k1 : r.Kind = 1
    · simp only [k1, beq_self_eq_true, cond_true, cond_false, show ((1 : Int) == 2) = false from rfl, show ((1 : Int) == 3) = false from rfl, show ((1 : Int) == 7) = false from rfl]
      rfl
    rw [beq_f k1, cond_false]
    cases r.Kind == 2 with
    | true =>
      unfold nbx' delF
      simp only [cond_true, w, decide_eq_true (show (0 : Int) ≤ (p : Int) by omega), decide_eq_true (show (p : Int) < ((p + 1 : Nat) : Int) by omega), decide_eq_true (show ((p + 1 : Nat) : Int) ≤ (m.Entries.length : Int) by omega), Bool.and_self, Option.bind_some, Int.toNat_natCast]
      rfl
    | false =>
      simp only [cond_false]
      cases r.Kind == 3 with
      | true => simp only [cond_true, ib]; rfl
      | false =>
        simp only [cond_false]
        cases r.Kind == 7 with
        | true =>
          have ib2 : ∀ y : Entry, inB (p : Int) (m.Entries.set p y).length = true := fun y => nd' (by omega) (by rw [List.length_set]; omega)
          have hg : ∀ y : Entry, (m.Entries.set p y).getD p (Entry.mk 0 0 0 0 false) = y := fun y => by
            simp [List.getD_eq_getElem?_getD, hlt]
          simp only [cond_true, ib, ib2, hg, List.set_set]
          rfl
        | false => rfl
theorem nsz' (b : Bldg) : nd6' b.Floors b.Debounce b.Room b.Park b.Empty b.Full b.Over b.Cars = some (((), ()), ((bif b.code == 0 then (initV b).tup else Img.none.tup), ())) := by
  unfold nd6'
  rw [ndx']
  simp only [Option.bind_some, bne]
  cases hc : b.code == 0 with
  | false => rfl
  | true =>
    have hlen : b.Cars.length ≤ 8 := by
      have hc' : b.code = 0 := by simpa using hc
      unfold Bldg.code at hc'
      cases h1 : inR 1 8 (b.Cars.length : Int) with
      | true => have := (nw'.1 h1).2; omega
      | false =>
        rw [h1] at hc'
        cases h2 : inR 2 32 b.Floors <;> rw [h2] at hc' <;> simp at hc'
    simp only [Bool.not_true, cond_false, cond_true, decide_eq_true (show (0 : Int) ≤ (b.Cars.length : Int) by omega), decide_eq_true (Int.le_refl (b.Cars.length : Int)), decide_eq_true (show (b.Cars.length : Int) ≤ 2147483648 by omega), Bool.and_self, Int.toNat_natCast]
    rfl
end Go.Ovl
namespace Go.Ovl
open Go Go.Ab
set_option maxRecDepth 100000
def allN (p : Nat → Bool) : Nat → Nat → Bool
  | 0, _ => true
  | m + 1, i => p i && allN p m (i + 1)
theorem ne8' {X Y : Type} {step : X → Option (Sum X Y)} (N : Nat) (g : Nat → X) (p : Nat → Bool) (y0 y1 : Y) (h1 : ∀ i, i < N → step (g i) = some (bif p i then .inl (g (i + 1)) else .inr y1)) (h2 : step (g N) = some (.inr y0)) :
    ∀ m i : Nat, i + m = N → iter step (m + 1) (g i) = some (bif allN p m i then y0 else y1)
  | 0, i, hi => by
    obtain rfl : i = N := by omega
    exact ns' h2
  | m + 1, i, hi => by
    have h := h1 i (by omega)
    simp only [allN]
    cases hp : p i with
    | true =>
      rw [hp] at h
      rw [nbd' h, Bool.true_and]
      exact ne8' N g p y0 y1 h1 h2 m (i + 1) (by omega)
    | false =>
      rw [hp] at h
      rw [ns' h]; rfl
theorem nxs' {α : Type} (f : α → α → Bool) (hf : ∀ x y, f x y = true ↔ x = y) (d : α) (a b : List α) (hl : a.length = b.length) : ∀ m i : Nat, i + m = a.length → (allN (fun i => f (a.getD i d) (b.getD i d)) m i = true ↔ a.drop i = b.drop i)
  | 0, i, hi => by
    obtain rfl : i = a.length := by omega
    rw [List.drop_length, hl, List.drop_length]
    exact ⟨fun _ => rfl, fun _ => rfl⟩
  | m + 1, i, hi => by
    simp only [allN, Bool.and_eq_true, hf]
    rw [nxs' f hf d a b hl m (i + 1) (by omega), ncs' d (show i < a.length by omega), ncs' d (show i < b.length by omega), List.cons.injEq]
theorem n2m' {α : Type} (f : α → α → Bool) (hf : ∀ x y, f x y = true ↔ x = y) (d : α) {a b : List α} (hl : a.length = b.length) : allN (fun i => f (a.getD i d) (b.getD i d)) a.length 0 = @decide (a = b) (Classical.propDecidable _) := by
  rw [Bool.eq_iff_iff, nxs' f hf d a b hl a.length 0 (by omega)]
  simp
noncomputable def eqL {α : Type} (a b : List α) : Bool := @decide (a = b) (Classical.propDecidable _)
theorem ni7' {α : Type} {a b : List α} (h : ¬ a.length = b.length) : eqL a b = false := by
  have : ¬ a = b := fun e => h (by rw [e])
  unfold eqL
  simp [this]
theorem n2c' {α : Type} (a : List α) : eqL a a = true := by unfold eqL; simp
theorem nkz' {α : Type} (f : α → α → Bool) (hf : ∀ x y, f x y = true ↔ x = y) (d : α) {a b : List α} (hl : a.length = b.length) : allN (fun i => f (a.getD i d) (b.getD i d)) a.length 0 = eqL a b := n2m' f hf d hl
theorem nlm' {α : Type} (a b : List α) : ((((a.length : Nat) : Int) != ((b.length : Nat) : Int)) = true) ↔ ¬ a.length = b.length := by
  simp; omega
def eqEnt (x y : Entry) : Bool := (x.Floor == y.Floor) && ((x.Dir == y.Dir) && ((x.Car == y.Car) && ((x.Moves == y.Moves) && ((x.Moved == y.Moved) && true))))
theorem nty' (x y : Entry) : eqEnt x y = true ↔ x = y := by
  cases x; cases y
  simp [eqEnt]
theorem nli' {α : Type} [BEq α] [LawfulBEq α] (x y : α) : (x == y) = true ↔ x = y := beq_iff_eq
def n4' : Nat := 10000000
theorem wrap1 {i n : Nat} (h : i < n) (hn : n ≤ n4') : IntKind.i64.wrap ((i : Int) + 1) = ((i + 1 : Nat) : Int) := by
  unfold n4' at hn
  rw [nb' (by omega) (by omega)]; omega
section
variable {α : Type}
theorem nqp' {a b : List Int} (ha : a.length ≤ n4') : nby' a b = some ((eqL a b, ()), ()) := by
  unfold nby'
  by_cases hl : a.length = b.length
  · rw [show (((a.length : Nat) : Int) != ((b.length : Nat) : Int)) = false by simp [hl], cond_false]
    have h := no' (ne8' (step := fun x => nbe' x.1.1 x.1.2.1 x.1.2.2.1 x.1.2.2.2.1) a.length (fun i => ((a, b, (a.length : Int), (i : Int), ()), ())) (fun i => a.getD i 0 == b.getD i 0) (Sum.inl ((), ())) (Sum.inr ((false, ()), ())) (fun i hi => by
      show nbe' a b (a.length : Int) (i : Int) = _
      unfold nbe'
      simp only [decide_eq_true (show (i : Int) < (a.length : Int) by omega), nd' (show (0 : Int) ≤ (i : Int) by omega) (show (i : Int) < (a.length : Int) by omega), nd' (show (0 : Int) ≤ (i : Int) by omega) (show (i : Int) < (b.length : Int) by omega), cond_true, Int.toNat_natCast, wrap1 hi ha, bne]
      cases a.getD i 0 == b.getD i 0 <;> rfl) (by
      show nbe' a b (a.length : Int) (a.length : Int) = _
      unfold nbe'
      simp only [decide_eq_false (Int.lt_irrefl (a.length : Int)), cond_false]) a.length 0 (by omega)) (by unfold n4' at ha; omega)
    rw [nkz' (fun x y => x == y) nli' 0 hl] at h
    rw [show nb8' ((a, b, (a.length : Int), (0 : Int), ()), ()) = _ from h]
    cases eqL a b <;> rfl
  · rw [(nlm' a b).2 hl, ni7' hl]; rfl
theorem nkd' {a b : List Bool} (ha : a.length ≤ n4') : nbp' a b = some ((eqL a b, ()), ()) := by
  unfold nbp'
  by_cases hl : a.length = b.length
  · rw [show (((a.length : Nat) : Int) != ((b.length : Nat) : Int)) = false by simp [hl], cond_false]
    have h := no' (ne8' (step := fun x => n7' x.1.1 x.1.2.1 x.1.2.2.1 x.1.2.2.2.1) a.length (fun i => ((a, b, (a.length : Int), (i : Int), ()), ())) (fun i => a.getD i false == b.getD i false) (Sum.inl ((), ())) (Sum.inr ((false, ()), ())) (fun i hi => by
      show n7' a b (a.length : Int) (i : Int) = _
      unfold n7'
      simp only [decide_eq_true (show (i : Int) < (a.length : Int) by omega), nd' (show (0 : Int) ≤ (i : Int) by omega) (show (i : Int) < (a.length : Int) by omega), nd' (show (0 : Int) ≤ (i : Int) by omega) (show (i : Int) < (b.length : Int) by omega), cond_true, Int.toNat_natCast, wrap1 hi ha]
      cases a.getD i false == b.getD i false <;> rfl) (by
      show n7' a b (a.length : Int) (a.length : Int) = _
      unfold n7'
      simp only [decide_eq_false (Int.lt_irrefl (a.length : Int)), cond_false]) a.length 0 (by omega)) (by unfold n4' at ha; omega)
    rw [nkz' (fun x y => x == y) nli' false hl] at h
    rw [show nb2' ((a, b, (a.length : Int), (0 : Int), ()), ()) = _ from h]
    cases eqL a b <;> rfl
  · rw [(nlm' a b).2 hl, ni7' hl]; rfl
theorem no1' {a b : List Entry} (ha : a.length ≤ n4') : nbj' a b = some ((eqL a b, ()), ()) := by
  unfold nbj'
  by_cases hl : a.length = b.length
  · rw [show (((a.length : Nat) : Int) != ((b.length : Nat) : Int)) = false by simp [hl], cond_false]
    have h := no' (ne8' (step := fun x => nx' x.1.1 x.1.2.1 x.1.2.2.1 x.1.2.2.2.1) a.length (fun i => ((a, b, (a.length : Int), (i : Int), ()), ())) (fun i => eqEnt (a.getD i noE) (b.getD i noE)) (Sum.inl ((), ())) (Sum.inr ((false, ()), ())) (fun i hi => by
      show nx' a b (a.length : Int) (i : Int) = _
      unfold nx' eqEnt noE
      simp only [decide_eq_true (show (i : Int) < (a.length : Int) by omega), nd' (show (0 : Int) ≤ (i : Int) by omega) (show (i : Int) < (a.length : Int) by omega), nd' (show (0 : Int) ≤ (i : Int) by omega) (show (i : Int) < (b.length : Int) by omega), cond_true, Int.toNat_natCast, wrap1 hi ha]
      generalize ((a.getD i (Entry.mk 0 0 0 0 false)).Floor == (b.getD i (Entry.mk 0 0 0 0 false)).Floor && ((a.getD i (Entry.mk 0 0 0 0 false)).Dir == (b.getD i (Entry.mk 0 0 0 0 false)).Dir && ((a.getD i (Entry.mk 0 0 0 0 false)).Car == (b.getD i (Entry.mk 0 0 0 0 false)).Car && ((a.getD i (Entry.mk 0 0 0 0 false)).Moves == (b.getD i (Entry.mk 0 0 0 0 false)).Moves && ((a.getD i (Entry.mk 0 0 0 0 false)).Moved == (b.getD i (Entry.mk 0 0 0 0 false)).Moved && true))))) = q
      cases q <;> rfl) (by
      show nx' a b (a.length : Int) (a.length : Int) = _
      unfold nx'
      simp only [decide_eq_false (Int.lt_irrefl (a.length : Int)), cond_false]) a.length 0 (by omega)) (by unfold n4' at ha; omega)
    rw [nkz' eqEnt nty' noE hl] at h
    rw [show nbc' ((a, b, (a.length : Int), (0 : Int), ()), ()) = _ from h]
    cases eqL a b <;> rfl
  · rw [(nlm' a b).2 hl, ni7' hl]; rfl
end
structure Img.fit (m : Img) : Prop where
  p : m.Phases.length ≤ 100000
  f : m.Flags.length ≤ 100000
  l : m.Leaving.length ≤ 100000
  e : m.Entries.length ≤ 100000
noncomputable def sameI (a c : Img) : Bool := eqL a.Phases c.Phases && (eqL a.Flags c.Flags && (eqL a.Leaving c.Leaving && eqL a.Entries c.Entries))
theorem ny7' (a : Img) : sameI a a = true := by unfold sameI; simp [n2c']
theorem nxa' {a c : Img} (ha : a.fit) : nec' a.Phases a.Flags a.Leaving a.Entries c.Phases c.Flags c.Leaving c.Entries = some ((sameI a c, ()), ()) := by
  have h5 : 100000 ≤ n4' := by decide
  unfold nec' sameI
  rw [nqp' (by have := ha.p; omega), nkd' (by have := ha.f; omega), nkd' (by have := ha.l; omega), no1' (by have := ha.e; omega)]
  cases eqL a.Phases c.Phases <;> cases eqL a.Flags c.Flags <;> cases eqL a.Leaving c.Leaving <;> rfl
section
variable {a c : Img} (ha : a.fit)
include ha
theorem ns3' (hl : a.Phases.length = c.Phases.length) : niv' (((), (), (0 : Int), ()), (a.tup, c.tup, ())) = some (bif eqL a.Phases c.Phases then .inl (((), (), ()), (a.tup, c.tup, ())) else .inr ((false, ()), ())) := by
  have hs := ha.p
  have h5 : 100000 ≤ n4' := by decide
  have h := no' (ne8' (step := fun x => neu' x.1.2.2.1 x.2.1.1 x.2.1.2.1 x.2.1.2.2.1 x.2.1.2.2.2.1 x.2.2.1.1 x.2.2.1.2.1 x.2.2.1.2.2.1 x.2.2.1.2.2.2.1) a.Phases.length (fun i => (((), (), (i : Int), ()), (a.tup, c.tup, ()))) (fun i => a.Phases.getD i 0 == c.Phases.getD i 0) (Sum.inl (((), (), ()), (a.tup, c.tup, ()))) (Sum.inr ((false, ()), ())) (fun i hi => by
    show neu' (i : Int) a.Phases a.Flags a.Leaving a.Entries c.Phases c.Flags c.Leaving c.Entries = _
    unfold neu'
    simp only [decide_eq_true (show (i : Int) < (a.Phases.length : Int) by omega), nd' (show (0 : Int) ≤ (i : Int) by omega) (show (i : Int) < (a.Phases.length : Int) by omega), nd' (show (0 : Int) ≤ (i : Int) by omega) (show (i : Int) < (c.Phases.length : Int) by omega), cond_true, Int.toNat_natCast, wrap1 hi (by omega), bne]
    cases a.Phases.getD i 0 == c.Phases.getD i 0 <;> rfl) (by
    show neu' (a.Phases.length : Int) a.Phases a.Flags a.Leaving a.Entries c.Phases c.Flags c.Leaving c.Entries = _
    unfold neu'
    simp only [decide_eq_false (Int.lt_irrefl (a.Phases.length : Int)), cond_false]; rfl) a.Phases.length 0 (by omega)) (by omega)
  rw [nkz' (fun x y => x == y) nli' 0 hl] at h
  exact h
theorem nsv' (hl : a.Flags.length = c.Flags.length) : nh4' (((), (), (0 : Int), ()), (a.tup, c.tup, ())) = some (bif eqL a.Flags c.Flags then .inl (((), (), ()), (a.tup, c.tup, ())) else .inr ((false, ()), ())) := by
  have hs := ha.f
  have h5 : 100000 ≤ n4' := by decide
  have h := no' (ne8' (step := fun x => nes' x.1.2.2.1 x.2.1.1 x.2.1.2.1 x.2.1.2.2.1 x.2.1.2.2.2.1 x.2.2.1.1 x.2.2.1.2.1 x.2.2.1.2.2.1 x.2.2.1.2.2.2.1) a.Flags.length (fun i => (((), (), (i : Int), ()), (a.tup, c.tup, ()))) (fun i => a.Flags.getD i false == c.Flags.getD i false) (Sum.inl (((), (), ()), (a.tup, c.tup, ()))) (Sum.inr ((false, ()), ())) (fun i hi => by
    show nes' (i : Int) a.Phases a.Flags a.Leaving a.Entries c.Phases c.Flags c.Leaving c.Entries = _
    unfold nes'
    simp only [decide_eq_true (show (i : Int) < (a.Flags.length : Int) by omega), nd' (show (0 : Int) ≤ (i : Int) by omega) (show (i : Int) < (a.Flags.length : Int) by omega), nd' (show (0 : Int) ≤ (i : Int) by omega) (show (i : Int) < (c.Flags.length : Int) by omega), cond_true, Int.toNat_natCast, wrap1 hi (by omega)]
    cases a.Flags.getD i false == c.Flags.getD i false <;> rfl) (by
    show nes' (a.Flags.length : Int) a.Phases a.Flags a.Leaving a.Entries c.Phases c.Flags c.Leaving c.Entries = _
    unfold nes'
    simp only [decide_eq_false (Int.lt_irrefl (a.Flags.length : Int)), cond_false]; rfl) a.Flags.length 0 (by omega)) (by omega)
  rw [nkz' (fun x y => x == y) nli' false hl] at h
  exact h
theorem nsg' (hl : a.Leaving.length = c.Leaving.length) : nib' (((), (), (0 : Int), ()), (a.tup, c.tup, ())) = some (bif eqL a.Leaving c.Leaving then .inl (((), (), ()), (a.tup, c.tup, ())) else .inr ((false, ()), ())) := by
  have hs := ha.l
  have h5 : 100000 ≤ n4' := by decide
  have h := no' (ne8' (step := fun x => net' x.1.2.2.1 x.2.1.1 x.2.1.2.1 x.2.1.2.2.1 x.2.1.2.2.2.1 x.2.2.1.1 x.2.2.1.2.1 x.2.2.1.2.2.1 x.2.2.1.2.2.2.1) a.Leaving.length (fun i => (((), (), (i : Int), ()), (a.tup, c.tup, ()))) (fun i => a.Leaving.getD i false == c.Leaving.getD i false) (Sum.inl (((), (), ()), (a.tup, c.tup, ()))) (Sum.inr ((false, ()), ())) (fun i hi => by
    show net' (i : Int) a.Phases a.Flags a.Leaving a.Entries c.Phases c.Flags c.Leaving c.Entries = _
    unfold net'
    simp only [decide_eq_true (show (i : Int) < (a.Leaving.length : Int) by omega), nd' (show (0 : Int) ≤ (i : Int) by omega) (show (i : Int) < (a.Leaving.length : Int) by omega), nd' (show (0 : Int) ≤ (i : Int) by omega) (show (i : Int) < (c.Leaving.length : Int) by omega), cond_true, Int.toNat_natCast, wrap1 hi (by omega)]
    cases a.Leaving.getD i false == c.Leaving.getD i false <;> rfl) (by
    show net' (a.Leaving.length : Int) a.Phases a.Flags a.Leaving a.Entries c.Phases c.Flags c.Leaving c.Entries = _
    unfold net'
    simp only [decide_eq_false (Int.lt_irrefl (a.Leaving.length : Int)), cond_false]; rfl) a.Leaving.length 0 (by omega)) (by omega)
  rw [nkz' (fun x y => x == y) nli' false hl] at h
  exact h
theorem nsm' (hl : a.Entries.length = c.Entries.length) : nix' (((), (), (0 : Int), ()), (a.tup, c.tup, ())) = some (bif eqL a.Entries c.Entries then .inl ((), ()) else .inr ((false, ()), ())) := by
  have hs := ha.e
  have h5 : 100000 ≤ n4' := by decide
  have h := no' (ne8' (step := fun x => ne1' x.1.2.2.1 x.2.1.1 x.2.1.2.1 x.2.1.2.2.1 x.2.1.2.2.2.1 x.2.2.1.1 x.2.2.1.2.1 x.2.2.1.2.2.1 x.2.2.1.2.2.2.1) a.Entries.length (fun i => (((), (), (i : Int), ()), (a.tup, c.tup, ()))) (fun i => eqEnt (a.Entries.getD i noE) (c.Entries.getD i noE)) (Sum.inl ((), ())) (Sum.inr ((false, ()), ())) (fun i hi => by
    show ne1' (i : Int) a.Phases a.Flags a.Leaving a.Entries c.Phases c.Flags c.Leaving c.Entries = _
    unfold ne1' eqEnt noE
    simp only [decide_eq_true (show (i : Int) < (a.Entries.length : Int) by omega), nd' (show (0 : Int) ≤ (i : Int) by omega) (show (i : Int) < (a.Entries.length : Int) by omega), nd' (show (0 : Int) ≤ (i : Int) by omega) (show (i : Int) < (c.Entries.length : Int) by omega), cond_true, Int.toNat_natCast, wrap1 hi (by omega)]
    generalize ((a.Entries.getD i (Entry.mk 0 0 0 0 false)).Floor == (c.Entries.getD i (Entry.mk 0 0 0 0 false)).Floor && ((a.Entries.getD i (Entry.mk 0 0 0 0 false)).Dir == (c.Entries.getD i (Entry.mk 0 0 0 0 false)).Dir && ((a.Entries.getD i (Entry.mk 0 0 0 0 false)).Car == (c.Entries.getD i (Entry.mk 0 0 0 0 false)).Car && ((a.Entries.getD i (Entry.mk 0 0 0 0 false)).Moves == (c.Entries.getD i (Entry.mk 0 0 0 0 false)).Moves && ((a.Entries.getD i (Entry.mk 0 0 0 0 false)).Moved == (c.Entries.getD i (Entry.mk 0 0 0 0 false)).Moved && true))))) = q
    cases q <;> rfl) (by
    show ne1' (a.Entries.length : Int) a.Phases a.Flags a.Leaving a.Entries c.Phases c.Flags c.Leaving c.Entries = _
    unfold ne1'
    simp only [decide_eq_false (Int.lt_irrefl (a.Entries.length : Int)), cond_false]) a.Entries.length 0 (by omega)) (by omega)
  rw [nkz' eqEnt nty' noE hl] at h
  exact h
theorem nwq' : nit' a.Phases a.Flags a.Leaving a.Entries c.Phases c.Flags c.Leaving c.Entries = some ((sameI a c, ()), ()) := by
  unfold nit' sameI
  by_cases h0 : a.Phases.length = c.Phases.length
  · rw [show (((a.Phases.length : Nat) : Int) != ((c.Phases.length : Nat) : Int)) = false by simp [h0], cond_false]
    by_cases h1 : a.Flags.length = c.Flags.length
    · rw [show (((a.Flags.length : Nat) : Int) != ((c.Flags.length : Nat) : Int)) = false by simp [h1], cond_false]
      by_cases h2 : a.Leaving.length = c.Leaving.length
      · rw [show (((a.Leaving.length : Nat) : Int) != ((c.Leaving.length : Nat) : Int)) = false by simp [h2], cond_false]
        by_cases h3 : a.Entries.length = c.Entries.length
        · rw [show (((a.Entries.length : Nat) : Int) != ((c.Entries.length : Nat) : Int)) = false by simp [h3], cond_false]
          have l0 := ns3' ha (c := c) h0
          have l1 := nsv' ha (c := c) h1
          have l2 := nsg' ha (c := c) h2
          have l3 := nsm' ha (c := c) h3
          simp only [Img.tup] at l0 l1 l2 l3
          rw [l0]
          cases eqL a.Phases c.Phases
          · rfl
          simp only [Option.bind_some, cond_true, Bool.true_and, l1]
          cases eqL a.Flags c.Flags
          · rfl
          simp only [Option.bind_some, cond_true, Bool.true_and, l2]
          cases eqL a.Leaving c.Leaving
          · rfl
          simp only [Option.bind_some, cond_true, Bool.true_and, l3]
          cases eqL a.Entries c.Entries <;> rfl
        · rw [(nlm' _ _).2 h3, ni7' h3]; simp
      · rw [(nlm' _ _).2 h2, ni7' h2]; simp
    · rw [(nlm' _ _).2 h1, ni7' h1]; simp
  · rw [(nlm' _ _).2 h0, ni7' h0]; simp
end
end Go.Ovl
namespace Go.Ovl
open Go Go.Ab
set_option maxRecDepth 100000
def numB (on : Bool) : Int := bif on then 1 else 0
theorem nrd' (on : Bool) : nhx' on = some ((numB on, ()), ()) := by unfold nhx' numB; cases on <;> rfl
def snapC (m : Img) (i : Nat) : List Record := [⟨4, 0, 0, i, m.Phases.getD i 0⟩, ⟨5, 0, 0, i, numB (m.Flags.getD i false)⟩, ⟨6, 0, 0, i, numB (m.Leaving.getD i false)⟩]
def snapE (e : Entry) : List Record := [⟨1, e.Floor, e.Dir, 0, 0⟩, ⟨3, e.Floor, e.Dir, e.Car, 0⟩, ⟨7, e.Floor, e.Dir, numB e.Moved, e.Moves⟩]
def snapV (m : Img) : List Record := (List.range' 0 m.Phases.length).flatMap (snapC m) ++ m.Entries.flatMap snapE
theorem nhw' {α : Type} (f : Nat → List α) : ∀ (k i : Nat) (s : List α), foldN (fun i s => s ++ f i) k i s = s ++ (List.range' i k).flatMap f
  | 0, i, s => by simp [foldN]
  | k + 1, i, s => by
    simp only [foldN]
    rw [nhw' f k (i + 1), List.range'_succ, List.flatMap_cons, List.append_assoc]
theorem nkp' {α β : Type} (f : α → List β) (d : α) : ∀ (l : List α) (i k : Nat), i + k = l.length → (List.range' i k).flatMap (fun i => f (l.getD i d)) = (l.drop i).flatMap f
  | l, i, 0, h => by
    obtain rfl : i = l.length := by omega
    simp
  | l, i, k + 1, h => by
    rw [List.range'_succ, List.flatMap_cons, nkp' f d l (i + 1) k (by omega), ncs' d (show i < l.length by omega), List.flatMap_cons]
theorem ny1' (l : List Entry) : (List.range' 0 l.length).flatMap (fun i => snapE (l.getD i noE)) = l.flatMap snapE := by
  rw [nkp' snapE noE l 0 l.length (by omega), List.drop_zero]
section
variable {m : Img} (hf : m.fit)
include hf
theorem nol' {out : List Record} (ho : out.length ≤ 300000) : nfd' (((), out, (0 : Int), ()), (m.tup, ())) = some ((out ++ m.Entries.flatMap snapE, ()), ()) := by
  have hl := hf.e
  have h := ncd' (step := fun x => ncz' x.1.2.1 x.1.2.2.1 x.2.1.1 x.2.1.2.1 x.2.1.2.2.1 x.2.1.2.2.2.1) m.Entries.length (fun i s => (((), s, (i : Int), ()), (m.tup, ()))) (fun i s => s ++ snapE (m.Entries.getD i noE)) (fun i s => s.length = out.length + 3 * i) (fun s => ((s, ()), ())) (fun i s hi hs => by
    refine ⟨?_, by rw [List.length_append, hs]; show _ + 3 = _; omega⟩
    have b1 : ∀ r r' r'' : Record, Nat.ble (s.length + [r, r', r''].length) 2147483648 = true := fun r r' r'' => nbk' (by show s.length + 3 ≤ _; omega)
    show ncz' s (i : Int) m.Phases m.Flags m.Leaving m.Entries = _
    unfold ncz'
    simp only [decide_eq_true (show (i : Int) < (m.Entries.length : Int) by omega), nd' (show (0 : Int) ≤ (i : Int) by omega) (show (i : Int) < (m.Entries.length : Int) by omega), cond_true, Int.toNat_natCast, nrd', Option.bind_some, b1, wrap1 hi (show m.Entries.length ≤ n4' by unfold n4'; omega)]
    rfl) (fun s _ => by
    show ncz' s (m.Entries.length : Int) m.Phases m.Flags m.Leaving m.Entries = _
    unfold ncz'
    simp only [decide_eq_false (Int.lt_irrefl (m.Entries.length : Int)), cond_false]) m.Entries.length 0 out (by omega) rfl
  have h' := no' h.1 (by omega)
  rw [nhw', ny1'] at h'
  exact h'
theorem noe' (h1 : m.Flags.length = m.Phases.length) (h2 : m.Leaving.length = m.Phases.length) : nfe' (((), [], (0 : Int), ()), (m.tup, ())) = some (((), (List.range' 0 m.Phases.length).flatMap (snapC m), ()), (m.tup, ())) := by
  have hl := hf.p
  have h := ncd' (step := fun x => nc1' x.1.2.1 x.1.2.2.1 x.2.1.1 x.2.1.2.1 x.2.1.2.2.1 x.2.1.2.2.2.1) m.Phases.length (fun i s => (((), s, (i : Int), ()), (m.tup, ()))) (fun i s => s ++ snapC m i) (fun i s => s.length = 3 * i) (fun s => (((), s, ()), (m.tup, ()))) (fun i s hi hs => by
    refine ⟨?_, by rw [List.length_append, hs]; show _ + 3 = _; omega⟩
    have b1 : ∀ r r' r'' : Record, Nat.ble (s.length + [r, r', r''].length) 2147483648 = true := fun r r' r'' => nbk' (by show s.length + 3 ≤ _; omega)
    show nc1' s (i : Int) m.Phases m.Flags m.Leaving m.Entries = _
    unfold nc1'
    simp only [decide_eq_true (show (i : Int) < (m.Phases.length : Int) by omega), nd' (show (0 : Int) ≤ (i : Int) by omega) (show (i : Int) < (m.Phases.length : Int) by omega), nd' (show (0 : Int) ≤ (i : Int) by omega) (show (i : Int) < (m.Flags.length : Int) by omega), nd' (show (0 : Int) ≤ (i : Int) by omega) (show (i : Int) < (m.Leaving.length : Int) by omega), cond_true, Int.toNat_natCast, nrd', Option.bind_some, b1, wrap1 hi (show m.Phases.length ≤ n4' by unfold n4'; omega)]
    rfl) (fun s _ => by
    show nc1' s (m.Phases.length : Int) m.Phases m.Flags m.Leaving m.Entries = _
    unfold nc1'
    simp only [decide_eq_false (Int.lt_irrefl (m.Phases.length : Int)), cond_false]; rfl) m.Phases.length 0 [] (by omega) rfl
  have h' := no' h.1 (by omega)
  rw [nhw', List.nil_append] at h'
  exact h'
end
theorem nlj' {α β : Type} (f : α → List β) (hf : ∀ x, (f x).length = 3) : ∀ l : List α, (l.flatMap f).length = 3 * l.length
  | [] => rfl
  | a :: t => by rw [List.flatMap_cons, List.length_append, hf, nlj' f hf t, List.length_cons]; omega
theorem ntw' (m : Img) (n : Nat) : ((List.range' 0 n).flatMap (snapC m)).length = 3 * n := by rw [nlj' _ fun _ => rfl, List.length_range']
theorem nug' (m : Img) : (snapV m).length = 3 * (m.Phases.length + m.Entries.length) := by
  unfold snapV
  rw [List.length_append, ntw', nlj' _ fun _ => rfl]; omega
def snapR (b : Bldg) (m : Img) : List Record := bif m.ok b then snapV m else []
section
variable {b : Bldg} (hb : b.small) {m : Img} (hf : m.fit)
include hb hf
theorem nrq' : ngp' b.Floors b.Debounce b.Room b.Park b.Empty b.Full b.Over b.Cars m.Phases m.Flags m.Leaving m.Entries = some ((snapR b m, ()), ()) := by
  have hmx : 100000 ≤ maxLen := by decide
  have hp := hf.p
  have he := hf.e
  unfold ngp' snapR
  rw [ngt' hb m (by omega) (by omega)]
  simp only [Option.bind_some]
  cases hok : m.ok b with
  | false => rfl
  | true =>
    have hm := Img.ok_iff.1 hok
    have l0 := noe' hf (by rw [hm.lf, hm.lp]) (by rw [hm.ll, hm.lp])
    have l1 := nol' hf (out := (List.range' 0 m.Phases.length).flatMap (snapC m)) (by rw [ntw']; omega)
    simp only [Img.tup] at l0 l1
    simp only [Bool.not_true, cond_false, cond_true, l0, l1, Option.bind_some]
    rfl
end
theorem nhe' (m : Img) : ∀ (a c : List Record), nba' m (a ++ c) = nba' (nba' m a) c
  | [], _ => rfl
  | r :: t, c => by
    show nba' (n9' m r) (t ++ c) = nba' (nba' (n9' m r) t) c
    exact nhe' (n9' m r) t c
theorem nsy' {α : Type} (l : List α) (z d : α) {k n : Nat} (hk : k < n) (hl : l.length = n) : (l.take k ++ List.replicate (n - k) z).set k (l.getD k d) = l.take (k + 1) ++ List.replicate (n - (k + 1)) z := by
  have h1 : (l.take k).length = k := by rw [List.length_take]; omega
  rw [List.set_append_right _ _ (by omega), h1, Nat.sub_self, show n - k = (n - (k + 1)) + 1 by omega, List.replicate_succ, List.set_cons_zero]
  have h2 : k < l.length := by omega
  rw [show l.getD k d = l[k] by simp [h2]]
  rw [List.take_succ_eq_append_getElem h2, List.append_assoc]
  rfl
theorem nxo' (m : Img) (a c d : Record) : nba' m [a, c, d] = n9' (n9' (n9' m a) c) d := rfl
theorem nxv' (on : Bool) : (numB on == 1) = on := by cases on <;> rfl
theorem nw5' {m : Img} {n k : Nat} (hk : k < n) (h1 : m.Phases.length = n) (h2 : m.Flags.length = n) (h3 : m.Leaving.length = n) :
    nba' ⟨m.Phases.take k ++ List.replicate (n - k) 0, m.Flags.take k ++ List.replicate (n - k) false, m.Leaving.take k ++ List.replicate (n - k) false, []⟩ (snapC m k) = ⟨m.Phases.take (k + 1) ++ List.replicate (n - (k + 1)) 0, m.Flags.take (k + 1) ++ List.replicate (n - (k + 1)) false, m.Leaving.take (k + 1) ++ List.replicate (n - (k + 1)) false, []⟩ := by
  have e1 := nsy' m.Phases 0 0 hk h1
  have e2 := nsy' m.Flags false false hk h2
  have e3 := nsy' m.Leaving false false hk h3
  unfold snapC
  rw [nxo']
  unfold n9'
  simp only [show ((4 : Int) == 4) = true from rfl, show ((5 : Int) == 4) = false from rfl, show ((5 : Int) == 5) = true from rfl, show ((6 : Int) == 4) = false from rfl, show ((6 : Int) == 5) = false from rfl, show ((6 : Int) == 6) = true from rfl, cond_true, cond_false, Int.toNat_natCast, nxv', e1, e2, e3]
theorem ns7' {m : Img} {n : Nat} (h1 : m.Phases.length = n) (h2 : m.Flags.length = n) (h3 : m.Leaving.length = n) : ∀ j k : Nat, k + j = n →
    nba' ⟨m.Phases.take k ++ List.replicate (n - k) 0, m.Flags.take k ++ List.replicate (n - k) false, m.Leaving.take k ++ List.replicate (n - k) false, []⟩ ((List.range' k j).flatMap (snapC m)) = ⟨m.Phases, m.Flags, m.Leaving, []⟩
  | 0, k, h => by
    obtain rfl : k = n := by omega
    rw [Nat.sub_self]
    simp only [List.replicate_zero, List.append_nil]
    rw [List.take_of_length_le (by omega), List.take_of_length_le (by omega), List.take_of_length_le (by omega)]
    rfl
  | j + 1, k, h => by
    rw [List.range'_succ, List.flatMap_cons, nhe', nw5' (by omega) h1 h2 h3]
    exact ns7' h1 h2 h3 j (k + 1) (by omega)
theorem ntb' {F D : Int} {x : Entry} (hx : isC F D x = true) : ∀ (l : List Entry) (i : Nat), (∀ e ∈ l, isC F D e = false) → findF F D (l ++ [x]) i = ((i + l.length : Nat) : Int)
  | [], i, _ => by simp [findF, hx]
  | e :: t, i, h => by
    rw [List.cons_append]
    simp only [findF]
    rw [h e (List.mem_cons_self ..), cond_false, ntb' hx t (i + 1) fun y hy => h y (List.mem_cons_of_mem _ hy), List.length_cons]
    congr 1; omega
theorem nwl' {x : Entry} : ∀ {l : List Entry}, (∀ e ∈ l, lessE x e = false) → insL x false l = l ++ [x]
  | [], _ => rfl
  | e :: t, h => by
    simp only [insL]
    rw [h e (List.mem_cons_self ..), cond_false, nwl' fun y hy => h y (List.mem_cons_of_mem _ hy)]
    rfl
theorem nw4' {m : Img} {e : Entry} (h : ∀ x ∈ m.Entries, lessE x e = true) : nba' m (snapE e) = m.put (m.Entries ++ [e]) := by
  have hn : ∀ x ∈ m.Entries, isC e.Floor e.Dir x = false := fun x hx => by
    cases hq : isC e.Floor e.Dir x with
    | false => rfl
    | true =>
      have := (nqo' (c := e) hq).1
      rw [h x hx] at this; cases this
  have e0 : ∀ (c k : Int) (q : Bool), isC e.Floor e.Dir ⟨e.Floor, e.Dir, c, k, q⟩ = true := fun c k q => by unfold isC; simp
  have f0 : findF e.Floor e.Dir m.Entries 0 = -1 := nni' hn
  have f1 : ∀ (c k : Int) (q : Bool), findF e.Floor e.Dir (m.Entries ++ [⟨e.Floor, e.Dir, c, k, q⟩]) 0 = ((m.Entries.length : Nat) : Int) := fun c k q => by rw [ntb' (e0 c k q) _ _ hn, Nat.zero_add]
  have g1 : ∀ x : Entry, (m.Entries ++ [x]).getD m.Entries.length noE = x := fun x => by simp
  have s1 : ∀ x y : Entry, (m.Entries ++ [x]).set m.Entries.length y = m.Entries ++ [y] := fun x y => by
    rw [List.set_append_right _ _ (Nat.le_refl _), Nat.sub_self]; rfl
  have a1 : n9' m ⟨1, e.Floor, e.Dir, 0, 0⟩ = m.put (m.Entries ++ [⟨e.Floor, e.Dir, -1, 0, false⟩]) := by
    unfold n9'
    rw [f0]
    simp only [show ((1 : Int) == 4) = false from rfl, show ((1 : Int) == 5) = false from rfl, show ((1 : Int) == 6) = false from rfl, cond_false, cond_true, beq_self_eq_true]
    rw [nwl' (x := ⟨e.Floor, e.Dir, -1, 0, false⟩) fun x hx => nub' (show lessE x ⟨e.Floor, e.Dir, -1, 0, false⟩ = true from h x hx)]
  have ne : ((((m.Entries.length : Nat) : Int)) == -1) = false := beq_f (by omega)
  have a2 : n9' (m.put (m.Entries ++ [⟨e.Floor, e.Dir, -1, 0, false⟩])) ⟨3, e.Floor, e.Dir, e.Car, 0⟩ = m.put (m.Entries ++ [⟨e.Floor, e.Dir, e.Car, 0, false⟩]) := by
    unfold n9'
    simp only [Img.put, f1, ne, show ((3 : Int) == 4) = false from rfl, show ((3 : Int) == 5) = false from rfl, show ((3 : Int) == 6) = false from rfl, show ((3 : Int) == 2) = false from rfl, cond_false, cond_true, beq_self_eq_true, Int.toNat_natCast, g1, s1, nz6']
  have a3 : n9' (m.put (m.Entries ++ [⟨e.Floor, e.Dir, e.Car, 0, false⟩])) ⟨7, e.Floor, e.Dir, numB e.Moved, e.Moves⟩ = m.put (m.Entries ++ [⟨e.Floor, e.Dir, e.Car, e.Moves, e.Moved⟩]) := by
    unfold n9'
    simp only [Img.put, f1, ne, show ((7 : Int) == 4) = false from rfl, show ((7 : Int) == 5) = false from rfl, show ((7 : Int) == 6) = false from rfl, show ((7 : Int) == 2) = false from rfl, show ((7 : Int) == 3) = false from rfl, cond_false, cond_true, beq_self_eq_true, Int.toNat_natCast, g1, s1, nvm', nxv']
  unfold snapE
  rw [nxo', a1, a2, a3]
theorem nt8' : ∀ (l : List Entry) (m : Img), nbf' (m.Entries ++ l) → nba' m (l.flatMap snapE) = m.put (m.Entries ++ l)
  | [], m, _ => by simp [nba', Img.put]
  | e :: t, m, h => by
    have hp := ncj'.1 h
    have hlt : ∀ x ∈ m.Entries, lessE x e = true := fun x hx => (List.pairwise_append.1 hp).2.2 x hx e (List.mem_cons_self ..)
    rw [List.flatMap_cons, nhe', nw4' hlt]
    have h2 : nbf' ((m.put (m.Entries ++ [e])).Entries ++ t) := by
      show nbf' (m.Entries ++ [e] ++ t)
      rw [List.append_assoc]; exact h
    rw [nt8' t _ h2]
    show m.put (m.Entries ++ [e] ++ t) = _
    rw [List.append_assoc]; rfl
theorem nye' {b : Bldg} {m : Img} (h : ImgOK b m) : nba' (initV b) (snapV m) = m := by
  unfold snapV
  rw [nhe']
  have h0 := ns7' (m := m) h.lp h.lf h.ll b.Cars.length 0 (by omega)
  simp only [List.take_zero, List.nil_append, Nat.sub_zero] at h0
  rw [h.lp]
  rw [show initV b = ⟨List.replicate b.Cars.length 0, List.replicate b.Cars.length false, List.replicate b.Cars.length false, []⟩ from rfl, h0, nt8' _ _ (by show nbf' ([] ++ m.Entries); exact h.so)]
  rfl
theorem nnh' (on : Bool) : 0 ≤ numB on ∧ numB on ≤ 1 := by cases on <;> exact ⟨by decide, by decide⟩
theorem nr0' {b : Bldg} {m : Img} (h : ImgOK b m) : ∀ r ∈ snapV m, nr' b r = true := by
  have hcode := h.code
  intro r hr
  unfold snapV at hr
  rcases List.mem_append.1 hr with hr | hr
  · obtain ⟨i, hi, hr⟩ := List.mem_flatMap.1 hr
    have hi' : i < m.Phases.length := by
      have := List.mem_range'_1.1 hi
      omega
    have hp := h.ph _ (nfg' 0 hi')
    have hlp := h.lp
    have hcar : ∀ k v : Int, carR b ⟨k, 0, 0, i, v⟩ = true := fun k v => by
      unfold carR
      rw [nw'.2 ⟨show (0 : Int) ≤ (i : Int) by omega, show (i : Int) ≤ (b.Cars.length : Int) - 1 by omega⟩]; rfl
    unfold snapC at hr
    simp only [List.mem_cons, List.not_mem_nil, or_false] at hr
    rcases hr with rfl | rfl | rfl
    · unfold nr'
      rw [hcode, hcar, nw'.2 hp]; rfl
    · unfold nr'
      rw [hcode, hcar, nw'.2 (nnh' _)]; rfl
    · unfold nr'
      rw [hcode, hcar, nw'.2 (nnh' _)]; rfl
  · obtain ⟨e, he, hr⟩ := List.mem_flatMap.1 hr
    obtain ⟨h1, h2, h3⟩ := nht'.1 (h.en e he)
    unfold snapE at hr
    simp only [List.mem_cons, List.not_mem_nil, or_false] at hr
    rcases hr with rfl | rfl | rfl
    · unfold nr'
      rw [hcode, h1]; rfl
    · unfold nr'
      rw [hcode, h1, nw'.2 ⟨h2.1, show e.Car ≤ (b.Cars.length : Int) - 1 by omega⟩]; rfl
    · unfold nr'
      rw [hcode, h1, nw'.2 (nnh' _), nw'.2 h3]; rfl
end Go.Ovl
namespace Go.Ovl
open Go Go.Ab
set_option maxRecDepth 100000
def bl (s : ByteArray) : List UInt8 := s.data.toList
theorem nrn' {a c : ByteArray} (h : bl a = bl c) : a = c := by
  apply ByteArray.ext
  unfold bl at h
  exact Array.toList_inj.1 h
theorem nz5' (a c : ByteArray) : bl (a ++ c) = bl a ++ bl c := by simp [bl]
theorem noa' (a : ByteArray) (i j : Nat) : bl (a.extract i j) = ((bl a).drop i).take (j - i) := by simp [bl]
theorem ncb' (a : ByteArray) : (bl a).length = a.size := by simp [bl]
theorem bl_mk (l : List UInt8) : bl ⟨l.toArray⟩ = l := by simp [bl]
theorem nlt' (s : ByteArray) (i : Nat) : nct' s i = (((bl s).getD i 0).toNat : Int) := by
  unfold nct' bl
  simp [Array.getD_eq_getD_getElem?, List.getD_eq_getElem?_getD]
def step8 (r : Nat) : Nat := if 128 ≤ r then (r * 2 % 256) ^^^ 7 else r * 2 % 256
def it8 : Nat → Nat → Nat
  | 0, r => r
  | k + 1, r => it8 k (step8 r)
def byte8 (r x : Nat) : Nat := it8 8 (r ^^^ x)
def sum8L (l : List UInt8) : Nat := l.foldl (fun r x => byte8 r x.toNat) 0
theorem nqh' {r : Nat} (_h : r < 256) : step8 r < 256 := by
  unfold step8
  split
  · exact Nat.xor_lt_two_pow (n := 8) (by omega) (by decide)
  · omega
theorem n02' : ∀ (k : Nat) {r : Nat}, r < 256 → it8 k r < 256
  | 0, _, h => h
  | k + 1, _, h => n02' k (nqh' h)
theorem nqr' {r x : Nat} (h : r < 256) (h' : x < 256) : byte8 r x < 256 := n02' 8 (Nat.xor_lt_two_pow (n := 8) h h')
theorem n3j' (l : List UInt8) : ∀ r : Nat, r < 256 → l.foldl (fun r x => byte8 r x.toNat) r < 256 := by
  induction l with
  | nil => exact fun r h => h
  | cons x t ih =>
    intro r h
    rw [List.foldl_cons]
    have hx : x.toNat < 256 := UInt8.toNat_lt x
    exact ih _ (nqr' h hx)
theorem nxn' (l : List UInt8) : sum8L l < 256 := n3j' l 0 (by omega)
theorem nja' {n : Int} (h : 0 ≤ n) (h' : n < 256) : IntKind.u8.wrap n = n := by
  simp only [IntKind.wrap, IntKind.signed, IntKind.bits]
  simp
  omega
theorem xor8 {a c : Nat} (ha : a < 256) (hc : c < 256) : IntKind.u8.wrap (stk (a : Int) (c : Int) (BitVec.toNat ((BitVec.ofInt (IntKind.bits .u8) (a : Int)) ^^^ (BitVec.ofInt (IntKind.bits .u8) (c : Int))))) = ((a ^^^ c : Nat) : Int) := by
  have h := Nat.xor_lt_two_pow (n := 8) ha hc
  rw [nrr', BitVec.toNat_xor, BitVec.toNat_ofInt, BitVec.toNat_ofInt]
  rw [show (((a : Int)) % ((2 ^ IntKind.bits .u8 : Nat) : Int)).toNat = a by simp only [IntKind.bits]; omega, show (((c : Int)) % ((2 ^ IntKind.bits .u8 : Nat) : Int)).toNat = c by simp only [IntKind.bits]; omega]
  exact nja' (by omega) (by omega)
theorem xor64 {a c : Nat} (ha : a < 256) (hc : c < 256) : IntKind.i64.wrap (stk (a : Int) (c : Int) (BitVec.toNat ((BitVec.ofInt (IntKind.bits .i64) (a : Int)) ^^^ (BitVec.ofInt (IntKind.bits .i64) (c : Int))))) = ((a ^^^ c : Nat) : Int) := by
  have h := Nat.xor_lt_two_pow (n := 8) ha hc
  rw [nrr', BitVec.toNat_xor, BitVec.toNat_ofInt, BitVec.toNat_ofInt]
  rw [show (((a : Int)) % ((2 ^ IntKind.bits .i64 : Nat) : Int)).toNat = a by simp only [IntKind.bits]; omega, show (((c : Int)) % ((2 ^ IntKind.bits .i64 : Nat) : Int)).toNat = c by simp only [IntKind.bits]; omega]
  exact nb' (by omega) (by omega)
theorem fold8 : ∀ (k i r : Nat), foldN (fun _ r => step8 r) k i r = it8 k r
  | 0, _, _ => rfl
  | k + 1, i, r => fold8 k (i + 1) (step8 r)
theorem n0p' (s : ByteArray) (s7 s8 : Int) {r k : Nat} (hr : r < 256) (hk : k < 8) : nh9' s (r : Int) s7 s8 (k : Int) = some (Sum.inl ((s, ((step8 r : Nat) : Int), s7, s8, ((k + 1 : Nat) : Int), ()), ())) := by
  unfold nh9'
  have w : IntKind.i64.wrap ((k : Int) + 1) = ((k + 1 : Nat) : Int) := by rw [nb' (by omega) (by omega)]; omega
  have h0 : IntKind.u8.wrap ((r : Int) * ((2 : Int) ^ (Min.min (Int.toNat (1 : Int)) (IntKind.bits IntKind.u8)))) = ((r * 2 % 256 : Nat) : Int) := by
    rw [show ((2 : Int) ^ (Min.min (Int.toNat (1 : Int)) (IntKind.bits IntKind.u8))) = 2 from rfl]
    simp only [IntKind.wrap, IntKind.signed, IntKind.bits]
    simp
  have h1 : IntKind.u8.wrap ((Int.fdiv (r : Int) ((2 : Int) ^ (Min.min (Int.toNat (7 : Int)) (IntKind.bits IntKind.u8)))) * (7 : Int)) = (((if 128 ≤ r then 7 else 0) : Nat) : Int) := by
    rw [show ((2 : Int) ^ (Min.min (Int.toNat (7 : Int)) (IntKind.bits IntKind.u8))) = 128 from rfl, Int.fdiv_eq_ediv_of_nonneg _ (by omega)]
    split
    · rw [show (r : Int) / 128 = 1 by omega]; rfl
    · rw [show (r : Int) / 128 = 0 by omega]; rfl
  simp only [decide_eq_true (show (k : Int) < 8 by omega), cond_true, h0, h1, w]
  rw [xor8 (by omega) (by split <;> omega)]
  unfold step8
  split
  · rfl
  · rw [Nat.xor_zero]
theorem nzs' (s : ByteArray) (i : Int) {r k : Nat} (hr : r < 256) (hk : k < 8) : nie' s (r : Int) i (k : Int) = some (Sum.inl ((s, ((step8 r : Nat) : Int), i, ((k + 1 : Nat) : Int), ()), ())) := by
  unfold nie'
  have w : IntKind.i64.wrap ((k : Int) + 1) = ((k + 1 : Nat) : Int) := by rw [nb' (by omega) (by omega)]; omega
  have h0 : Int.tmod (IntKind.i64.wrap ((r : Int) * 2)) 256 = ((r * 2 % 256 : Nat) : Int) := by
    rw [nb' (by omega) (by omega), Int.tmod_eq_emod_of_nonneg (by omega)]; omega
  simp only [decide_eq_true (show (k : Int) < 8 by omega), cond_true, h0, w]
  unfold step8
  by_cases h : 128 ≤ r
  · rw [decide_eq_true (show (128 : Int) ≤ (r : Int) by omega), if_pos h, cond_true]
    have hx := xor64 (a := r * 2 % 256) (c := 7) (by omega) (by omega)
    rw [show ((7 : Nat) : Int) = 7 from rfl] at hx
    rw [hx]
  · rw [decide_eq_false (show ¬ (128 : Int) ≤ (r : Int) by omega), if_neg h]; rfl
theorem n1h' (s : ByteArray) (s7 s8 : Int) {r : Nat} (hr : r < 256) : nis' ((s, (r : Int), s7, s8, (0 : Int), ()), ()) = some ((s, ((it8 8 r : Nat) : Int), s7, s8, ()), ()) := by
  have h := ncd' (step := fun x => nh9' x.1.1 x.1.2.1 x.1.2.2.1 x.1.2.2.2.1 x.1.2.2.2.2.1) 8 (fun k r => ((s, ((r : Nat) : Int), s7, s8, (k : Int), ()), ())) (fun _ r => step8 r) (fun _ r => r < 256) (fun r => ((s, ((r : Nat) : Int), s7, s8, ()), ())) (fun k r hk hr => ⟨n0p' s s7 s8 hr hk, nqh' hr⟩) (fun r _ => rfl) 8 0 r rfl hr
  have h' := h.1
  rw [fold8] at h'
  exact no' h' (by omega)
theorem n0k' (s : ByteArray) (i : Int) {r : Nat} (hr : r < 256) : nh2' ((s, (r : Int), i, (0 : Int), ()), ()) = some ((s, ((it8 8 r : Nat) : Int), i, ()), ()) := by
  have h := ncd' (step := fun x => nie' x.1.1 x.1.2.1 x.1.2.2.1 x.1.2.2.2.1) 8 (fun k r => ((s, ((r : Nat) : Int), i, (k : Int), ()), ())) (fun _ r => step8 r) (fun _ r => r < 256) (fun r => ((s, ((r : Nat) : Int), i, ()), ())) (fun k r hk hr => ⟨nzs' s i hr hk, nqh' hr⟩) (fun r _ => rfl) 8 0 r rfl hr
  have h' := h.1
  rw [fold8] at h'
  exact no' h' (by omega)
theorem ng3' {α β : Type} (f : β → α → β) (d : α) : ∀ (l : List α) (k i : Nat) (s : β), i + k = l.length → foldN (fun i s => f s (l.getD i d)) k i s = (l.drop i).foldl f s
  | l, 0, i, s, h => by
    obtain rfl : i = l.length := by omega
    simp [foldN]
  | l, k + 1, i, s, h => by
    have hi : i < l.length := by omega
    simp only [foldN]
    rw [ng3' f d l k (i + 1) _ (by omega), List.drop_eq_getElem_cons hi, List.foldl_cons]
    simp [hi]
theorem nw7' {s : ByteArray} (hs : s.size ≤ 1000000) : nid' s = some ((((sum8L (bl s) : Nat) : Int), ()), ()) := by
  have h := ncd' (step := fun x => new' x.1.1 x.1.2.1 x.1.2.2.1 x.1.2.2.2.1) s.size (fun i r => ((s, ((r : Nat) : Int), ((s.size : Nat) : Int), (i : Int), ()), ())) (fun i r => byte8 r ((bl s).getD i 0).toNat) (fun _ r => r < 256) (fun r => ((((r : Nat) : Int), ()), ())) (fun i r hi hr => by
    have hx := UInt8.toNat_lt ((bl s).getD i 0)
    refine ⟨?_, nqr' hr hx⟩
    show new' s ((r : Nat) : Int) ((s.size : Nat) : Int) (i : Int) = _
    have w : IntKind.i64.wrap ((i : Int) + 1) = ((i + 1 : Nat) : Int) := by rw [nb' (by omega) (by omega)]; omega
    unfold new'
    simp only [decide_eq_true (show (i : Int) < (s.size : Int) by omega), nd' (show (0 : Int) ≤ (i : Int) by omega) (show (i : Int) < (s.size : Int) by omega), cond_true, Int.toNat_natCast, nlt']
    rw [xor8 hr hx, n1h' s _ _ (Nat.xor_lt_two_pow (n := 8) hr hx), Option.bind_some, w]
    rfl) (fun r _ => by
    show new' s ((r : Nat) : Int) ((s.size : Nat) : Int) ((s.size : Nat) : Int) = _
    unfold new'
    simp only [decide_eq_false (Int.lt_irrefl (s.size : Int)), cond_false]) s.size 0 0 (by omega) (by omega)
  have h' := no' h.1 (by omega)
  rw [ng3' (fun r (x : UInt8) => byte8 r x.toNat) 0 (bl s) s.size 0 0 (by rw [ncb']; omega), List.drop_zero] at h'
  unfold nid'
  rw [show niy' ((s, (0 : Int), ((s.size : Nat) : Int), (0 : Int), ()), ()) = _ from h']
  rfl
theorem np1' {s : ByteArray} (hs : s.size ≤ 1000000) : niz' s = some ((((sum8L (bl s) : Nat) : Int), ()), ()) := by
  have h := ncd' (step := fun x => ner' x.1.1 x.1.2.1 x.1.2.2.1) s.size (fun i r => ((s, ((r : Nat) : Int), (i : Int), ()), ())) (fun i r => byte8 r ((bl s).getD i 0).toNat) (fun _ r => r < 256) (fun r => ((((r : Nat) : Int), ()), ())) (fun i r hi hr => by
    have hx := UInt8.toNat_lt ((bl s).getD i 0)
    refine ⟨?_, nqr' hr hx⟩
    show ner' s ((r : Nat) : Int) (i : Int) = _
    have w : IntKind.i64.wrap ((i : Int) + 1) = ((i + 1 : Nat) : Int) := by rw [nb' (by omega) (by omega)]; omega
    unfold ner'
    simp only [decide_eq_true (show (i : Int) < (s.size : Int) by omega), nd' (show (0 : Int) ≤ (i : Int) by omega) (show (i : Int) < (s.size : Int) by omega), cond_true, Int.toNat_natCast, nlt', nb' (n := (((bl s).getD i 0).toNat : Int)) (by omega) (by omega)]
    rw [xor64 hr hx, n0k' s _ (Nat.xor_lt_two_pow (n := 8) hr hx), Option.bind_some, w]
    rfl) (fun r _ => by
    show ner' s ((r : Nat) : Int) ((s.size : Nat) : Int) = _
    unfold ner'
    simp only [decide_eq_false (Int.lt_irrefl (s.size : Int)), cond_false]) s.size 0 0 (by omega) (by omega)
  have h' := no' h.1 (by omega)
  rw [ng3' (fun r (x : UInt8) => byte8 r x.toNat) 0 (bl s) s.size 0 0 (by rw [ncb']; omega), List.drop_zero] at h'
  have hl := nxn' (bl s)
  unfold niz'
  rw [show nia' ((s, (0 : Int), (0 : Int), ()), ()) = _ from h']
  simp only [Option.bind_some]
  rw [show ((bl s).foldl (fun r (x : UInt8) => byte8 r x.toNat) 0) = sum8L (bl s) from rfl, nja' (by omega) (by omega)]
end Go.Ovl
