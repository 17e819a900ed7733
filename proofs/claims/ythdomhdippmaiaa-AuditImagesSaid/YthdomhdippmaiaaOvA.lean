/- Plain facts: wrapped numbers, loops by rounds, strings. -/
import Derived.Test.YthdomhdippmaiaaAbE
import Derived.Test.YthdomhdippmaiaaDefs2
namespace Go.Ovl
open Go Go.Ab
theorem nb' {n : Int} (h : -9223372036854775808 ≤ n) (h' : n < 9223372036854775808) : IntKind.i64.wrap n = n := by
  rw [IntKind.wrap_i64]; omega
theorem n2n' {n : Int} (h : 0 ≤ n) (h' : n < 18446744073709551616) : IntKind.u64.wrap n = n := by
  simp only [IntKind.wrap, IntKind.signed, IntKind.bits]
  simp
  omega
theorem nd' {i : Int} {n : Nat} (h : 0 ≤ i) (h' : i < n) : inB i n = true := by simp [inB]; omega
theorem nbk' {a b : Nat} (h : a ≤ b) : Nat.ble a b = true := Nat.ble_eq.symm ▸ h
theorem bne_t {α : Type} [BEq α] [LawfulBEq α] {a b : α} (h : ¬a = b) : (a != b) = true := by simpa using h
theorem beq_f {α : Type} [BEq α] [LawfulBEq α] {a b : α} (h : ¬a = b) : (a == b) = false := by simpa using h
section
variable {X Y : Type} {step : X → Option (Sum X Y)}
theorem nbd' {f : Nat} {x x' : X} (h : step x = some (.inl x')) : iter step (f + 1) x = iter step f x' := by simp only [iter, h, njw']
theorem ns' {f : Nat} {x : X} {y : Y} (h : step x = some (.inr y)) : iter step (f + 1) x = some y := by simp only [iter, h, njw']
theorem nt0' : ∀ {f : Nat} {x : X} {y : Y}, iter step f x = some y → ∀ {g : Nat}, f ≤ g → iter step g x = some y
  | 0, _, _, h, _, _ => by simp [iter] at h
  | f + 1, x, y, h, 0, hg => by omega
  | f + 1, x, y, h, g + 1, hg => by
    simp only [iter] at h ⊢
    cases hs : step x with
    | none => rw [hs] at h; simp [njw'] at h
    | some z =>
      rw [hs] at h
      cases z with
      | inl x' => exact nt0' (f := f) (g := g) h (by omega)
      | inr y' => exact h
theorem no' {f : Nat} {x : X} {y : Y} (h : iter step f x = some y) (hf : f ≤ 18446744073709551616) : iter step fuel x = some y := nt0' h hf
theorem nxi' (Q : X → Y → Prop) (m : X → Nat) (hs : ∀ x y, Q x y → (∃ x', step x = some (.inl x') ∧ Q x' y ∧ m x' < m x) ∨ step x = some (.inr y)) : ∀ (n : Nat) (x : X) (y : Y), Q x y → m x ≤ n → iter step (n + 1) x = some y
  | n, x, y, hq, hm => by
    rcases hs x y hq with ⟨x', h1, h2, h3⟩ | h1
    · cases n with
      | zero => omega
      | succ n => rw [nbd' h1]; exact nxi' Q m hs n x' y h2 (by omega)
    · exact ns' h1
theorem n28' (Q : X → Y → Prop) (m : X → Nat) (hs : ∀ x y, Q x y → (∃ x', step x = some (.inl x') ∧ Q x' y ∧ m x' < m x) ∨ step x = some (.inr y)) {x : X} {y : Y} (hq : Q x y) (hm : m x < 18446744073709551616) : iter step fuel x = some y :=
  no' (nxi' Q m hs (m x) x y hq (Nat.le_refl _)) hm
theorem nxt' (I : X → Prop) (P : Y → Prop) (m : X → Nat) (hs : ∀ x, I x → (∃ x', step x = some (.inl x') ∧ I x' ∧ m x' < m x) ∨ ∃ y, step x = some (.inr y) ∧ P y) : ∀ (n : Nat) (x : X), I x → m x ≤ n → ∃ y, iter step (n + 1) x = some y ∧ P y
  | n, x, hq, hm => by
    rcases hs x hq with ⟨x', h1, h2, h3⟩ | ⟨y, h1, h2⟩
    · cases n with
      | zero => omega
      | succ n => rw [nbd' h1]; exact nxt' I P m hs n x' h2 (by omega)
    · exact ⟨y, ns' h1, h2⟩
theorem n3e' (I : X → Prop) (P : Y → Prop) (m : X → Nat) (hs : ∀ x, I x → (∃ x', step x = some (.inl x') ∧ I x' ∧ m x' < m x) ∨ ∃ y, step x = some (.inr y) ∧ P y) {x : X} (hq : I x) (hm : m x < 18446744073709551616) : ∃ y, iter step fuel x = some y ∧ P y := by
  obtain ⟨y, h1, h2⟩ := nxt' I P m hs (m x) x hq (Nat.le_refl _)
  exact ⟨y, no' h1 hm, h2⟩
def foldN {S : Type} (h : Nat → S → S) : Nat → Nat → S → S
  | 0, _, s => s
  | m + 1, i, s => foldN h m (i + 1) (h i s)
theorem ncd' {S : Type} (N : Nat) (g : Nat → S → X) (h : Nat → S → S) (inv : Nat → S → Prop) (y : S → Y) (h1 : ∀ i s, i < N → inv i s → step (g i s) = some (.inl (g (i + 1) (h i s))) ∧ inv (i + 1) (h i s))
    (h2 : ∀ s, inv N s → step (g N s) = some (.inr (y s))) : ∀ (m i : Nat) (s : S), i + m = N → inv i s → iter step (m + 1) (g i s) = some (y (foldN h m i s)) ∧ inv N (foldN h m i s)
  | 0, i, s, hi, hs => by
    have : i = N := by omega
    subst this
    exact ⟨ns' (h2 s hs), hs⟩
  | m + 1, i, s, hi, hs => by
    obtain ⟨q1, q2⟩ := h1 i s (by omega) hs
    rw [nbd' q1]
    exact ncd' N g h inv y h1 h2 m (i + 1) (h i s) (by omega) q2
end
def noB : ByteArray := ⟨#[]⟩
theorem nu4' (d : ByteArray) {a b c : Nat} (h : a ≤ b) (h' : b ≤ c) : d.extract a b ++ d.extract b c = d.extract a c := by
  apply ByteArray.ext
  simp
  rw [Nat.min_eq_left h, Nat.max_eq_right h']
theorem nq4' (a : ByteArray) : a ++ noB = a := by apply ByteArray.ext; simp [noB]
theorem nuf' (d : ByteArray) (k : Nat) : d.extract k k = noB := by apply ByteArray.ext; simp [noB]
end Go.Ovl
namespace Go.Ovl
open Go Go.Ab
set_option maxRecDepth 100000
structure Bldg where
  Floors : Int
  Debounce : Int
  Room : Int
  Park : Int
  Empty : Nat
  Full : Nat
  Over : Nat
  Cars : List Car
theorem ncs' {α : Type} {l : List α} {i : Nat} (d : α) (h : i < l.length) : l.drop i = l.getD i d :: l.drop (i + 1) := by
  rw [List.drop_eq_getElem_cons h]; simp [h]
def inR (lo hi n : Int) : Bool := decide (lo ≤ n) && decide (n ≤ hi)
theorem nw' {lo hi n : Int} : inR lo hi n = true ↔ lo ≤ n ∧ n ≤ hi := by simp [inR]
theorem n8' (lo hi : Int) {l : List Int} (hl : l.length ≤ maxLen) : ny' lo hi l = some ((l.all (inR lo hi), ()), ()) := by
  have hm : maxLen ≤ 9223372036854775807 := by decide
  have key : ∀ (m i : Nat), i + m = l.length → iter (fun x => n5' x.1.1 x.1.2.1 x.1.2.2.1 x.1.2.2.2.1 x.1.2.2.2.2.1) (m + 1) ((lo, hi, l, (l.length : Int), (i : Int), ()), ()) = some (if (l.drop i).all (inR lo hi) then .inl ((), ()) else .inr ((false, ()), ())) := by
    intro m
    induction m with
    | zero =>
      intro i hi'
      refine ns' ?_
      show n5' lo hi l (l.length : Int) (i : Int) = _
      unfold n5'
      have e : decide ((i : Int) < (l.length : Int)) = false := by simp; omega
      rw [e, show i = l.length by omega]; simp
    | succ m ih =>
      intro i hi'
      have e : decide ((i : Int) < (l.length : Int)) = true := by simp; omega
      have ib : inB (i : Int) l.length = true := nd' (by omega) (by omega)
      have tn : Int.toNat (i : Int) = i := by omega
      have w : IntKind.i64.wrap ((i : Int) + 1) = ((i + 1 : Nat) : Int) := by rw [nb' (by omega) (by omega)]; omega
      rw [ncs' (0 : Int) (show i < l.length by omega)]
      by_cases h1 : l.getD i 0 < lo
      · refine (ns' (y := .inr ((false, ()), ())) ?_).trans ?_
        · show n5' lo hi l (l.length : Int) (i : Int) = _
          unfold n5'
          have d1 : decide (l.getD i 0 < lo) = true := by simpa using h1
          simp only [e, ib, tn, d1, cond_true]
        · have : inR lo hi (l.getD i 0) = false := by rw [inR, show decide (lo ≤ l.getD i 0) = false from decide_eq_false (by omega), Bool.false_and]
          rw [List.all_cons, this]; rfl
      · have d1 : decide (l.getD i 0 < lo) = false := by simpa using h1
        by_cases h2 : hi < l.getD i 0
        · refine (ns' (y := .inr ((false, ()), ())) ?_).trans ?_
          · show n5' lo hi l (l.length : Int) (i : Int) = _
            unfold n5'
            have d2 : decide (hi < l.getD i 0) = true := by simpa using h2
            simp only [e, ib, tn, d1, d2, cond_true, cond_false]
          · have : inR lo hi (l.getD i 0) = false := by rw [inR, show decide (l.getD i 0 ≤ hi) = false from decide_eq_false (by omega), Bool.and_false]
            rw [List.all_cons, this]; rfl
        · have d2 : decide (hi < l.getD i 0) = false := by simpa using h2
          refine (nbd' (x' := ((lo, hi, l, (l.length : Int), ((i + 1 : Nat) : Int), ()), ())) ?_).trans ?_
          · show n5' lo hi l (l.length : Int) (i : Int) = _
            unfold n5'
            simp only [e, ib, tn, d1, d2, w, cond_true, cond_false]
          · have : inR lo hi (l.getD i 0) = true := nw'.2 ⟨by omega, by omega⟩
            rw [ih (i + 1) (by omega), List.all_cons, this]; rfl
  unfold ny'
  have h0 : ndw' ((lo, hi, l, (l.length : Int), (0 : Int), ()), ()) = _ := no' (key l.length 0 (by omega)) (by omega)
  rw [h0]
  rw [List.drop_zero]
  cases l.all (inR lo hi) <;> rfl
theorem nf1' (n lo hi : Int) : ncx' n lo hi = some ((inR lo hi n, ()), ()) := by
  unfold ncx' inR
  cases h : decide (lo ≤ n) <;> simp
def nch' (fl : Int) (c : Car) : Bool :=
  [c.Deadline, c.Pulse, c.Quiet, c.Step, c.Travel, c.Dwell, c.Hold].all (inR 1 10000) && (inR 0 10000 c.Slack && (decide (c.Dwell ≤ c.Hold) && inR 0 (IntKind.i64.wrap (fl - 1)) c.Home))
theorem nn2' (fl : Int) (c : Car) : nfh' c.Deadline c.Pulse c.Quiet c.Slack c.Step c.Travel c.Dwell c.Hold c.Home fl = some ((nch' fl c, ()), ()) := by
  have hm : 7 ≤ maxLen := by decide
  unfold nfh' nch'
  rw [n8' 1 10000 (l := [c.Deadline, c.Pulse, c.Quiet, c.Step, c.Travel, c.Dwell, c.Hold]) (by simpa using hm)]
  generalize [c.Deadline, c.Pulse, c.Quiet, c.Step, c.Travel, c.Dwell, c.Hold].all (inR 1 10000) = a
  rw [n8' 0 10000 (l := [c.Slack]) (by simp; omega), n8' 0 _ (l := [c.Home]) (by simp; omega)]
  simp only [Option.bind_some, List.all_cons, List.all_nil, Bool.and_true]
  cases a
  · rfl
  · cases inR 0 10000 c.Slack
    · rfl
    · by_cases h : c.Dwell ≤ c.Hold
      · have : decide (c.Dwell ≤ c.Hold) = true := by simpa using h
        simp only [this, cond_true, Option.bind_some, Bool.true_and]
      · have : decide (c.Dwell ≤ c.Hold) = false := by simpa using h
        simp only [this, cond_true, cond_false, Option.bind_some, Bool.true_and, Bool.false_and]
def Bldg.tup (b : Bldg) : Int × Int × Int × Int × Nat × Nat × Nat × List Car × Unit := (b.Floors, b.Debounce, b.Room, b.Park, b.Empty, b.Full, b.Over, b.Cars, ())
def Car.tup (c : Car) : Int × Int × Int × Int × Int × Int × Int × Int × Int × Unit := (c.Deadline, c.Pulse, c.Quiet, c.Slack, c.Step, c.Travel, c.Dwell, c.Hold, c.Home, ())
theorem ns2' (b : Bldg) (c : Car) {L : List Int} (hL : L.length = 8) :
    nhh' (((), (), L, (0 : Int), ()), (b.tup, c.tup, ())) = some (if (L.take 7).all (inR 1 10000) then .inl (((), (), ()), (b.tup, c.tup, ())) else .inr ((false, ()), ())) := by
  have key : ∀ (m i : Nat), i + m = 7 → iter (fun x => ncr' x.1.2.2.1 x.1.2.2.2.1 x.2.1.1 x.2.1.2.1 x.2.1.2.2.1 x.2.1.2.2.2.1 x.2.1.2.2.2.2.1 x.2.1.2.2.2.2.2.1 x.2.1.2.2.2.2.2.2.1 x.2.1.2.2.2.2.2.2.2.1 x.2.2.1.1 x.2.2.1.2.1 x.2.2.1.2.2.1 x.2.2.1.2.2.2.1 x.2.2.1.2.2.2.2.1 x.2.2.1.2.2.2.2.2.1 x.2.2.1.2.2.2.2.2.2.1 x.2.2.1.2.2.2.2.2.2.2.1 x.2.2.1.2.2.2.2.2.2.2.2.1) (m + 1) (((), (), L, (i : Int), ()), (b.tup, c.tup, ())) = some (if ((L.take 7).drop i).all (inR 1 10000) then .inl (((), (), ()), (b.tup, c.tup, ())) else .inr ((false, ()), ())) := by
    intro m
    induction m with
    | zero =>
      intro i hi'
      refine ns' ?_
      show ncr' L (i : Int) b.Floors b.Debounce b.Room b.Park b.Empty b.Full b.Over b.Cars c.Deadline c.Pulse c.Quiet c.Slack c.Step c.Travel c.Dwell c.Hold c.Home = _
      unfold ncr'
      have e : decide ((i : Int) < 7) = false := by simp; omega
      have hd : (L.take 7).drop i = [] := List.drop_eq_nil_of_le (by simp; omega)
      rw [e, hd]; rfl
    | succ m ih =>
      intro i hi'
      have e : decide ((i : Int) < 7) = true := by simp; omega
      have ib : inB (i : Int) L.length = true := nd' (by omega) (by omega)
      have tn : Int.toNat (i : Int) = i := by omega
      have w : IntKind.i64.wrap ((i : Int) + 1) = ((i + 1 : Nat) : Int) := by rw [nb' (by omega) (by omega)]; omega
      have hg : (L.take 7).getD i 0 = L.getD i 0 := by
        simp only [List.getD_eq_getElem?_getD, List.getElem?_take]
        rw [if_pos (by omega)]
      rw [ncs' (0 : Int) (show i < (L.take 7).length by simp; omega), hg, List.all_cons]
      cases hr : inR 1 10000 (L.getD i 0) with
      | false =>
        refine (ns' (y := .inr ((false, ()), ())) ?_).trans rfl
        show ncr' L (i : Int) b.Floors b.Debounce b.Room b.Park b.Empty b.Full b.Over b.Cars c.Deadline c.Pulse c.Quiet c.Slack c.Step c.Travel c.Dwell c.Hold c.Home = _
        unfold ncr'
        simp only [e, ib, tn, nf1', hr, cond_true, Option.bind_some, Bool.not_false]
      | true =>
        refine (nbd' (x' := (((), (), L, ((i + 1 : Nat) : Int), ()), (b.tup, c.tup, ()))) ?_).trans ?_
        · show ncr' L (i : Int) b.Floors b.Debounce b.Room b.Park b.Empty b.Full b.Over b.Cars c.Deadline c.Pulse c.Quiet c.Slack c.Step c.Travel c.Dwell c.Hold c.Home = _
          unfold ncr'
          simp only [e, ib, tn, w, nf1', hr, cond_true, cond_false, Option.bind_some, Bool.not_true]
          rfl
        · rw [ih (i + 1) (by omega), Bool.true_and]
  have h0 := key 7 0 rfl
  rw [List.drop_zero] at h0
  exact no' h0 (by omega)
theorem nsl' (b : Bldg) (c : Car) : nji' b.Floors b.Debounce b.Room b.Park b.Empty b.Full b.Over b.Cars c.Deadline c.Pulse c.Quiet c.Slack c.Step c.Travel c.Dwell c.Hold c.Home = some ((nch' b.Floors c, ()), ()) := by
  unfold nji' nch'
  by_cases h1 : c.Slack < 0
  · have d1 : decide (c.Slack < 0) = true := by simpa using h1
    have d2 : inR 0 10000 c.Slack = false := by rw [inR, show decide (0 ≤ c.Slack) = false from decide_eq_false (by omega), Bool.false_and]
    rw [d1, cond_true, d2, Bool.false_and, Bool.and_false]
  · have d1 : decide (c.Slack < 0) = false := by simpa using h1
    rw [d1, cond_false]
    by_cases h2 : 10000 < c.Slack
    · have d1 : decide (10000 < c.Slack) = true := by simpa using h2
      have d2 : inR 0 10000 c.Slack = false := by rw [inR, show decide (c.Slack ≤ 10000) = false from decide_eq_false (by omega), Bool.and_false]
      rw [d1, cond_true, d2, Bool.false_and, Bool.and_false]
    · have d1 : decide (10000 < c.Slack) = false := by simpa using h2
      have d2 : inR 0 10000 c.Slack = true := nw'.2 ⟨by omega, by omega⟩
      rw [d1, cond_false, d2, Bool.true_and]
      have hl := ns2' b c (L := [c.Deadline, c.Pulse, c.Quiet, c.Step, c.Travel, c.Dwell, c.Hold, IntKind.i64.wrap (c.Slack + 1)]) rfl
      rw [show ([c.Deadline, c.Pulse, c.Quiet, c.Step, c.Travel, c.Dwell, c.Hold, IntKind.i64.wrap (c.Slack + 1)].take 7) = [c.Deadline, c.Pulse, c.Quiet, c.Step, c.Travel, c.Dwell, c.Hold] from rfl] at hl
      simp only [Bldg.tup, Car.tup] at hl
      rw [hl]
      cases [c.Deadline, c.Pulse, c.Quiet, c.Step, c.Travel, c.Dwell, c.Hold].all (inR 1 10000) with
      | false => rfl
      | true =>
        simp only [if_true, Option.bind_some, Bool.true_and, nf1']
        by_cases h : c.Dwell ≤ c.Hold
        · have : decide (c.Dwell ≤ c.Hold) = true := by simpa using h
          simp only [this, cond_true, Option.bind_some, Bool.true_and]
        · have : decide (c.Dwell ≤ c.Hold) = false := by simpa using h
          simp only [this, cond_false, Option.bind_some, Bool.false_and]
def Bldg.loadsOK (b : Bldg) : Bool := ((Go.FloatKind.format Go.FloatKind.f64).order 0 b.Empty == some Ordering.lt) && (((Go.FloatKind.format Go.FloatKind.f64).order b.Empty b.Full == some Ordering.lt) && (((Go.FloatKind.format Go.FloatKind.f64).order b.Full b.Over == some Ordering.lt) && ((Go.FloatKind.format Go.FloatKind.f64).order b.Over 9218868437227405311 == some Ordering.lt || (Go.FloatKind.format Go.FloatKind.f64).order b.Over 9218868437227405311 == some Ordering.eq)))
def Bldg.code (b : Bldg) : Int :=
  bif !inR 2 32 b.Floors then 10 else bif !inR 1 8 (b.Cars.length : Int) then 11 else
  bif !(inR 1 16 b.Debounce && inR 1 10000 b.Park && b.Cars.all (nch' b.Floors)) then 12 else bif !b.loadsOK then 13 else
  bif !inR (18 * (b.Cars.length : Int) + 24) 65536 b.Room then 14 else 0
def noCar : Car := ⟨0, 0, 0, 0, 0, 0, 0, 0, 0⟩
theorem nn1' (b : Bldg) (hl : b.Cars.length ≤ 8) (g : Bool) :
    nea' (((), g, b.Cars, (b.Cars.length : Int), (0 : Int), ()), (b.tup, ())) = some (((), g && b.Cars.all (nch' b.Floors), ()), (b.tup, ())) := by
  have key : ∀ (m i : Nat) (g : Bool), i + m = b.Cars.length → iter (fun x => ncg' x.1.2.1 x.1.2.2.1 x.1.2.2.2.1 x.1.2.2.2.2.1 x.2.1.1 x.2.1.2.1 x.2.1.2.2.1 x.2.1.2.2.2.1 x.2.1.2.2.2.2.1 x.2.1.2.2.2.2.2.1 x.2.1.2.2.2.2.2.2.1 x.2.1.2.2.2.2.2.2.2.1) (m + 1) (((), g, b.Cars, (b.Cars.length : Int), (i : Int), ()), (b.tup, ())) = some (((), g && (b.Cars.drop i).all (nch' b.Floors), ()), (b.tup, ())) := by
    intro m
    induction m with
    | zero =>
      intro i g hi'
      refine ns' ?_
      show ncg' g b.Cars (b.Cars.length : Int) (i : Int) b.Floors b.Debounce b.Room b.Park b.Empty b.Full b.Over b.Cars = _
      unfold ncg'
      have e : decide ((i : Int) < (b.Cars.length : Int)) = false := by simp; omega
      rw [e, show i = b.Cars.length by omega, List.drop_length]
      simp only [cond_false, List.all_nil, Bool.and_true, Bldg.tup]
    | succ m ih =>
      intro i g hi'
      have e : decide ((i : Int) < (b.Cars.length : Int)) = true := by simp; omega
      have ib : inB (i : Int) b.Cars.length = true := nd' (by omega) (by omega)
      have tn : Int.toNat (i : Int) = i := by omega
      have w : IntKind.i64.wrap ((i : Int) + 1) = ((i + 1 : Nat) : Int) := by rw [nb' (by omega) (by omega)]; omega
      rw [ncs' noCar (show i < b.Cars.length by omega), List.all_cons]
      refine (nbd' (x' := (((), g && nch' b.Floors (b.Cars.getD i noCar), b.Cars, (b.Cars.length : Int), ((i + 1 : Nat) : Int), ()), (b.tup, ()))) ?_).trans ?_
      · show ncg' g b.Cars (b.Cars.length : Int) (i : Int) b.Floors b.Debounce b.Room b.Park b.Empty b.Full b.Over b.Cars = _
        unfold ncg'
        simp only [e, ib, tn, cond_true]
        rw [nn2' b.Floors (b.Cars.getD i ⟨0, 0, 0, 0, 0, 0, 0, 0, 0⟩)]
        cases g
        · simp only [cond_false, Option.bind_some, Bool.false_and, w]; rfl
        · simp only [cond_true, Option.bind_some, Bool.true_and, w]; rfl
      · rw [ih (i + 1) _ (by omega), Bool.and_assoc]
  have h0 := key b.Cars.length 0 g (by omega)
  rw [List.drop_zero] at h0
  exact no' h0 (by omega)
theorem nsp' (b : Bldg) (hl : b.Cars.length ≤ 8) (g : Bool) :
    ng8' (((), g, (0 : Int), ()), (b.tup, ())) = some (((), g && b.Cars.all (nch' b.Floors), ()), (b.tup, ())) := by
  have key : ∀ (m i : Nat) (g : Bool), i + m = b.Cars.length → iter (fun x => nd1' x.1.2.1 x.1.2.2.1 x.2.1.1 x.2.1.2.1 x.2.1.2.2.1 x.2.1.2.2.2.1 x.2.1.2.2.2.2.1 x.2.1.2.2.2.2.2.1 x.2.1.2.2.2.2.2.2.1 x.2.1.2.2.2.2.2.2.2.1) (m + 1) (((), g, (i : Int), ()), (b.tup, ())) = some (((), g && (b.Cars.drop i).all (nch' b.Floors), ()), (b.tup, ())) := by
    intro m
    induction m with
    | zero =>
      intro i g hi'
      refine ns' ?_
      show nd1' g (i : Int) b.Floors b.Debounce b.Room b.Park b.Empty b.Full b.Over b.Cars = _
      unfold nd1'
      have e : decide ((i : Int) < (b.Cars.length : Int)) = false := by simp; omega
      rw [e, show i = b.Cars.length by omega, List.drop_length]
      simp only [cond_false, List.all_nil, Bool.and_true, Bldg.tup]
    | succ m ih =>
      intro i g hi'
      have e : decide ((i : Int) < (b.Cars.length : Int)) = true := by simp; omega
      have ib : inB (i : Int) b.Cars.length = true := nd' (by omega) (by omega)
      have tn : Int.toNat (i : Int) = i := by omega
      have w : IntKind.i64.wrap ((i : Int) + 1) = ((i + 1 : Nat) : Int) := by rw [nb' (by omega) (by omega)]; omega
      rw [ncs' noCar (show i < b.Cars.length by omega), List.all_cons]
      refine (nbd' (x' := (((), g && nch' b.Floors (b.Cars.getD i noCar), ((i + 1 : Nat) : Int), ()), (b.tup, ()))) ?_).trans ?_
      · show nd1' g (i : Int) b.Floors b.Debounce b.Room b.Park b.Empty b.Full b.Over b.Cars = _
        unfold nd1'
        simp only [e, ib, tn, cond_true]
        rw [nsl' b (b.Cars.getD i ⟨0, 0, 0, 0, 0, 0, 0, 0, 0⟩)]
        cases g
        · simp only [cond_false, Option.bind_some, Bool.false_and, w]; rfl
        · simp only [cond_true, Option.bind_some, Bool.true_and, w]; rfl
      · rw [ih (i + 1) _ (by omega), Bool.and_assoc]
  have h0 := key b.Cars.length 0 g (by omega)
  rw [List.drop_zero] at h0
  exact no' h0 (by omega)
theorem nn3' (b : Bldg) : nfa' b.Floors b.Debounce b.Room b.Park b.Empty b.Full b.Over b.Cars = some ((b.loadsOK, ()), ()) := by
  unfold nfa' Bldg.loadsOK
  cases (Go.FloatKind.format Go.FloatKind.f64).order 0 b.Empty == some Ordering.lt
  · rfl
  cases (Go.FloatKind.format Go.FloatKind.f64).order b.Empty b.Full == some Ordering.lt
  · rfl
  cases (Go.FloatKind.format Go.FloatKind.f64).order b.Full b.Over == some Ordering.lt
  · rfl
  rfl
theorem ndx' (b : Bldg) : nbs' b.Floors b.Debounce b.Room b.Park b.Empty b.Full b.Over b.Cars = some ((b.code, ()), ()) := by
  have hm : 8 ≤ maxLen := by decide
  unfold nbs' Bldg.code
  rw [n8' 2 32 (l := [b.Floors]) (by simp; omega), n8' 1 8 (l := [(b.Cars.length : Int)]) (by simp; omega), n8' 1 16 (l := [b.Debounce]) (by simp; omega), n8' 1 10000 (l := [b.Park]) (by simp; omega)]
  simp only [Option.bind_some, List.all_cons, List.all_nil, Bool.and_true]
  cases inR 2 32 b.Floors
  · rfl
  cases hc : inR 1 8 (b.Cars.length : Int)
  · rfl
  have hlen : b.Cars.length ≤ 8 := by have := (nw'.1 hc).2; omega
  have hg : (bif inR 1 16 b.Debounce then some (((), inR 1 10000 b.Park, ()), (b.tup, ())) else some (((), false, ()), (b.tup, ()))) = some (((), inR 1 16 b.Debounce && inR 1 10000 b.Park, ()), (b.tup, ())) := by
    cases inR 1 16 b.Debounce <;> rfl
  simp only [Bldg.tup] at hg
  simp only [Bool.not_true, cond_false, hg, Option.bind_some]
  have hl := nn1' b hlen (inR 1 16 b.Debounce && inR 1 10000 b.Park)
  simp only [Bldg.tup] at hl
  rw [hl, Option.bind_some]
  cases inR 1 16 b.Debounce && inR 1 10000 b.Park && b.Cars.all (nch' b.Floors)
  · rfl
  simp only [Bool.not_true, cond_false]
  rw [nn3' b, Option.bind_some]
  cases b.loadsOK
  · rfl
  simp only [Bool.not_true, cond_false]
  rw [show IntKind.i64.wrap (IntKind.i64.wrap (18 * (b.Cars.length : Int)) + 24) = 18 * (b.Cars.length : Int) + 24 by rw [nb' (n := 18 * (b.Cars.length : Int)) (by omega) (by omega), nb' (by omega) (by omega)],
    n8' _ 65536 (l := [b.Room]) (by simp; omega)]
  simp only [Option.bind_some, List.all_cons, List.all_nil, Bool.and_true]
  cases inR (18 * (b.Cars.length : Int) + 24) 65536 b.Room <;> rfl
theorem ndt' (b : Bldg) : nc4' b.Floors b.Debounce b.Room b.Park b.Empty b.Full b.Over b.Cars = some ((b.code, ()), ()) := by
  unfold nc4' Bldg.code
  simp only [nf1', Option.bind_some]
  cases inR 2 32 b.Floors
  · rfl
  cases hc : inR 1 8 (b.Cars.length : Int)
  · rfl
  have hlen : b.Cars.length ≤ 8 := by have := (nw'.1 hc).2; omega
  have hg : (bif inR 1 16 b.Debounce then some (((), inR 1 10000 b.Park, ()), (b.tup, ())) else some (((), false, ()), (b.tup, ()))) = some (((), inR 1 16 b.Debounce && inR 1 10000 b.Park, ()), (b.tup, ())) := by
    cases inR 1 16 b.Debounce <;> rfl
  simp only [Bldg.tup] at hg
  simp only [Bool.not_true, cond_false, hg, Option.bind_some]
  have hl := nsp' b hlen (inR 1 16 b.Debounce && inR 1 10000 b.Park)
  simp only [Bldg.tup] at hl
  rw [hl, Option.bind_some]
  cases inR 1 16 b.Debounce && inR 1 10000 b.Park && b.Cars.all (nch' b.Floors)
  · rfl
  simp only [Bool.not_true, cond_false]
  unfold Bldg.loadsOK
  cases (Go.FloatKind.format Go.FloatKind.f64).order 0 b.Empty == some Ordering.lt
  · rfl
  cases (Go.FloatKind.format Go.FloatKind.f64).order b.Empty b.Full == some Ordering.lt
  · rfl
  cases (Go.FloatKind.format Go.FloatKind.f64).order b.Full b.Over == some Ordering.lt
  · rfl
  simp only [cond_true, Bool.true_and]
  cases ((Go.FloatKind.format Go.FloatKind.f64).order b.Over 9218868437227405311 == some Ordering.lt || (Go.FloatKind.format Go.FloatKind.f64).order b.Over 9218868437227405311 == some Ordering.eq)
  · rfl
  simp only [Bool.not_true, cond_false]
  rw [show IntKind.i64.wrap (IntKind.i64.wrap (18 * (b.Cars.length : Int)) + 24) = 18 * (b.Cars.length : Int) + 24 by rw [nb' (n := 18 * (b.Cars.length : Int)) (by omega) (by omega), nb' (by omega) (by omega)]]
  cases inR (18 * (b.Cars.length : Int) + 24) 65536 b.Room <;> rfl
end Go.Ovl
namespace Go.Ovl
open Go Go.Ab
set_option maxRecDepth 100000
def nl9' (fl i : Nat) : Car := ⟨100, 2, 6, 5, 4, 2, 3, 10, ((i % fl : Nat) : Int)⟩
def n6' (fl ca : Nat) : Bldg := ⟨fl, 1, 4000, 30, 4591870180066957722, 4605380978949069210, 4607632778762754458, (List.range ca).map (nl9' fl)⟩
def Bldg.none : Bldg := ⟨0, 0, 0, 0, 0, 0, 0, []⟩
theorem nlq' {fl ca : Nat} (h1 : 1 ≤ fl) (h2 : ca ≤ 8) : nh8' fl ca = some (((), ()), ((n6' fl ca).tup, ())) := by
  have key : ∀ (m i : Nat), i + m = ca → iter (fun x => nds' x.1.1 x.1.2.1 x.1.2.2.2.2.1 x.2.1.1 x.2.1.2.1 x.2.1.2.2.1 x.2.1.2.2.2.1 x.2.1.2.2.2.2.1 x.2.1.2.2.2.2.2.1 x.2.1.2.2.2.2.2.2.1 x.2.1.2.2.2.2.2.2.2.1 x.2.2.1.1 x.2.2.1.2.1 x.2.2.1.2.2.1 x.2.2.1.2.2.2.1 x.2.2.1.2.2.2.2.1 x.2.2.1.2.2.2.2.2.1 x.2.2.1.2.2.2.2.2.2.1 x.2.2.1.2.2.2.2.2.2.2.1) (m + 1) (((fl : Int), (ca : Int), (), (), (i : Int), ()), (Bldg.none.tup, (n6' fl i).tup, ())) = some (((), (), ()), (Bldg.none.tup, (n6' fl ca).tup, ())) := by
    intro m
    induction m with
    | zero =>
      intro i hi'
      refine ns' ?_
      show nds' (fl : Int) (ca : Int) (i : Int) Bldg.none.Floors Bldg.none.Debounce Bldg.none.Room Bldg.none.Park Bldg.none.Empty Bldg.none.Full Bldg.none.Over Bldg.none.Cars (n6' fl i).Floors (n6' fl i).Debounce (n6' fl i).Room (n6' fl i).Park (n6' fl i).Empty (n6' fl i).Full (n6' fl i).Over (n6' fl i).Cars = _
      unfold nds'
      have e : decide ((i : Int) < (ca : Int)) = false := by simp; omega
      rw [e, show i = ca by omega]; rfl
    | succ m ih =>
      intro i hi'
      refine (nbd' (x' := (((fl : Int), (ca : Int), (), (), ((i + 1 : Nat) : Int), ()), (Bldg.none.tup, (n6' fl (i + 1)).tup, ()))) ?_).trans (ih (i + 1) (by omega))
      show nds' (fl : Int) (ca : Int) (i : Int) Bldg.none.Floors Bldg.none.Debounce Bldg.none.Room Bldg.none.Park Bldg.none.Empty Bldg.none.Full Bldg.none.Over Bldg.none.Cars (n6' fl i).Floors (n6' fl i).Debounce (n6' fl i).Room (n6' fl i).Park (n6' fl i).Empty (n6' fl i).Full (n6' fl i).Over (n6' fl i).Cars = _
      unfold nds'
      have e : decide ((i : Int) < (ca : Int)) = true := by simp; omega
      have w : IntKind.i64.wrap ((i : Int) + 1) = ((i + 1 : Nat) : Int) := by rw [nb' (by omega) (by omega)]; omega
      have hz : ((fl : Int) != 0) = true := by simp; omega
      have hc : ∀ c : Car, Nat.ble ((n6' fl i).Cars.length + [c].length) 2147483648 = true := fun c => nbk' (by simp [n6']; omega)
      have ht : Int.tmod (i : Int) (fl : Int) = ((i % fl : Nat) : Int) := by rw [Int.tmod_eq_emod_of_nonneg (by omega)]; norm_cast
      simp only [e, hz, hc, w, ht, cond_true]
      have hs : (n6' fl (i + 1)).Cars = (n6' fl i).Cars ++ [nl9' fl i] := by simp [n6', List.range_succ]
      simp only [Bldg.tup, hs]
      rfl
  unfold nh8'
  have h0 : nex' (((fl : Int), (ca : Int), (), (), (0 : Int), ()), (Bldg.none.tup, (n6' fl 0).tup, ())) = _ := no' (key ca 0 (by omega)) (by omega)
  rw [show nex' (((fl : Int), (ca : Int), (), (), (0 : Int), ()), (((0 : Int), (0 : Int), (0 : Int), (0 : Int), 0, 0, 0, ([] : List (Car)), ()), ((fl : Int), (1 : Int), (4000 : Int), (30 : Int), 4591870180066957722, 4605380978949069210, 4607632778762754458, ([] : List (Car)), ()), ())) = _ from h0]
  rfl
def bld10 (fl ca : Nat) (room : Int) : Bldg := { n6' fl ca with Room := 18 * (ca : Int) + 24 + room }
theorem npk' {n room : Int} (hn : 0 ≤ n ∧ n < 256) (hr : 0 ≤ room ∧ room < 256) :
    ∃ fl ca : Nat, 2 ≤ fl ∧ fl ≤ 8 ∧ 1 ≤ ca ∧ ca ≤ 3 ∧ nbb' n room = some (((), ()), ((bld10 fl ca room).tup, ())) := by
  have a1 := Int.tmod_nonneg (7 : Int) hn.1
  have a2 := Int.tmod_lt_of_pos n (b := 7) (by omega)
  have hd : Int.tdiv n 7 = n / 7 := Int.tdiv_eq_ediv_of_nonneg hn.1
  have hw8 : IntKind.u8.wrap (n / 7) = n / 7 := by
    simp only [IntKind.wrap, IntKind.signed, IntKind.bits]; simp; omega
  have b1 := Int.tmod_nonneg (3 : Int) (show 0 ≤ n / 7 by omega)
  have b2 := Int.tmod_lt_of_pos (n / 7) (b := 3) (by omega)
  refine ⟨(2 + Int.tmod n 7).toNat, (1 + Int.tmod (n / 7) 3).toNat, by omega, by omega, by omega, by omega, ?_⟩
  unfold nbb'
  rw [hd, hw8, nb' (n := Int.tmod n 7) (by omega) (by omega), nb' (n := 2 + Int.tmod n 7) (by omega) (by omega), nb' (n := Int.tmod (n / 7) 3) (by omega) (by omega), nb' (n := 1 + Int.tmod (n / 7) 3) (by omega) (by omega)]
  generalize hfl : (2 + Int.tmod n 7).toNat = fl
  generalize hca : (1 + Int.tmod (n / 7) 3).toNat = ca
  rw [show 2 + Int.tmod n 7 = (fl : Int) by omega, show 1 + Int.tmod (n / 7) 3 = (ca : Int) by omega, nlq' (by omega) (by omega)]
  simp only [Option.bind_some, Bldg.tup, bld10]
  have hl : (n6' fl ca).Cars.length = ca := by simp [n6']
  rw [hl, nb' (n := 18 * (ca : Int)) (by omega) (by omega), nb' (n := 18 * (ca : Int) + 24) (by omega) (by omega), nb' (n := room) (by omega) (by omega), nb' (by omega) (by omega)]
theorem ny3' {fl ca : Nat} (h1 : 2 ≤ fl) (h2 : fl ≤ 8) (h3 : 1 ≤ ca) (h4 : ca ≤ 3) {room : Int} (hr : 0 ≤ room ∧ room < 256) : (bld10 fl ca room).code = 0 := by
  have hl : (bld10 fl ca room).Cars.length = ca := by simp [bld10, n6']
  unfold Bldg.code
  have e1 : inR 2 32 (bld10 fl ca room).Floors = true := nw'.2 (by simp only [bld10, n6']; omega)
  have e2 : inR 1 8 ((bld10 fl ca room).Cars.length : Int) = true := nw'.2 (by omega)
  have e3 : inR 1 16 (bld10 fl ca room).Debounce = true := rfl
  have e4 : inR 1 10000 (bld10 fl ca room).Park = true := rfl
  have e5 : (bld10 fl ca room).Cars.all (nch' (bld10 fl ca room).Floors) = true := by
    rw [List.all_eq_true]
    intro c hc
    obtain ⟨i, _, rfl⟩ := List.mem_map.1 hc
    have hm : i % fl < fl := Nat.mod_lt _ (by omega)
    have : inR 0 (IntKind.i64.wrap ((fl : Int) - 1)) ((i % fl : Nat) : Int) = true := by
      rw [nb' (by omega) (by omega)]; exact nw'.2 (by omega)
    show nch' (fl : Int) (nl9' fl i) = true
    unfold nch' nl9'
    simp only [this]
    rfl
  have e6 : (bld10 fl ca room).loadsOK = true := by
    show (n6' 2 1).loadsOK = true
    kernel_rfl
  have e7 : inR (18 * ((bld10 fl ca room).Cars.length : Int) + 24) 65536 (bld10 fl ca room).Room = true := nw'.2 (by rw [hl]; simp only [bld10]; omega)
  rw [e1, e2, e3, e4, e5, e6, e7]; rfl
end Go.Ovl
namespace Go.Ovl
open Go Go.Ab
structure Bldg.small (b : Bldg) : Prop where
  lo : 2 ≤ b.Floors
  hi : b.Floors ≤ 8
def u8r (n : Int) : Prop := 0 ≤ n ∧ n < 256
theorem nfg' {α : Type} {l : List α} (d : α) {i : Nat} (hi : i < l.length) : l.getD i d ∈ l := by
  simp only [List.getD_eq_getElem?_getD, List.getElem?_eq_getElem hi, Option.getD_some]
  exact List.getElem_mem hi
theorem nvv' {α : Type} {P : α → Prop} {l : List α} (h : ∀ e ∈ l, P e) {d : α} {i : Nat} (hi : i < l.length) : P (l.getD i d) := h _ (nfg' d hi)
theorem ncq' {b : Bldg} (h : b.code = 0) : 1 ≤ b.Cars.length ∧ b.Cars.length ≤ 8 := by
  unfold Bldg.code at h
  cases h1 : inR 1 8 (b.Cars.length : Int) with
  | true => have := nw'.1 h1; omega
  | false =>
    rw [h1] at h
    cases h2 : inR 2 32 b.Floors <;> rw [h2] at h <;> simp at h
theorem nz7' {b : Bldg} (h : b.code = 0) : 18 * (b.Cars.length : Int) + 24 ≤ b.Room ∧ b.Room ≤ 65536 := by
  unfold Bldg.code at h
  cases h1 : inR (18 * (b.Cars.length : Int) + 24) 65536 b.Room with
  | true => exact nw'.1 h1
  | false =>
    rw [h1] at h
    simp only [Bool.not_false, cond_true] at h
    revert h
    cases inR 2 32 b.Floors <;> cases inR 1 8 (b.Cars.length : Int) <;> cases inR 1 16 b.Debounce <;> cases inR 1 10000 b.Park <;> cases b.Cars.all (nch' b.Floors) <;> cases b.loadsOK <;> (intro h; simp at h)
end Go.Ovl
namespace Go.Ovl
open Go Go.Ab
set_option maxRecDepth 100000
theorem no0' (x y : Int) : decide (x < y) = !decide (y ≤ x) := by by_cases h : y ≤ x <;> simp [h] <;> omega
theorem n44' (x y : Int) : decide (x ≤ y) = !decide (y < x) := by by_cases h : y < x <;> simp [h] <;> omega
def noE : Entry := Entry.mk 0 0 0 0 false
structure Img where
  Phases : List Int
  Flags : List Bool
  Leaving : List Bool
  Entries : List Entry
def Img.tup (m : Img) : List Int × List Bool × List Bool × List Entry × Unit := (m.Phases, m.Flags, m.Leaving, m.Entries, ())
def Img.none : Img := ⟨[], [], [], []⟩
def callB (fl floor dir : Int) : Bool := (dir == 1 && inR 0 (fl - 2) floor) || (dir == 2 && inR 1 (fl - 1) floor)
theorem no9' {fl : Int} (h : 0 ≤ fl ∧ fl < 100) (floor dir : Int) : nen' fl floor dir = some ((callB fl floor dir, ()), ()) := by
  have w1 : IntKind.i64.wrap (fl - 1) = fl - 1 := nb' (by omega) (by omega)
  have w2 : IntKind.i64.wrap (fl - 2) = fl - 2 := nb' (by omega) (by omega)
  have k : ∀ lo hi : Int, ny' lo hi [floor] = some ((inR lo hi floor, ()), ()) := fun lo hi => by
    rw [n8' lo hi (show [floor].length ≤ maxLen from (show 1 ≤ maxLen by decide))]; simp
  unfold nen' callB
  rw [w1, w2, k, k]
  cases dir == 1 <;> cases dir == 2 <;> cases inR 0 (fl - 2) floor <;> rfl
def n1' (b : Bldg) (floor dir : Int) : Bool := b.code == 0 && callB b.Floors floor dir
theorem nod' {b : Bldg} (hb : b.small) (floor dir : Int) : ndi' b.Floors b.Debounce b.Room b.Park b.Empty b.Full b.Over b.Cars floor dir = some ((n1' b floor dir, ()), ()) := by
  unfold ndi' n1'
  rw [ndx', no9' ⟨by have := hb.lo; omega, by have := hb.hi; omega⟩]
  simp only [Option.bind_some]
  cases b.code == 0 <;> rfl
theorem nnw' {b : Bldg} (hb : b.small) (floor dir : Int) : ngf' b.Floors b.Debounce b.Room b.Park b.Empty b.Full b.Over b.Cars floor dir = some ((n1' b floor dir, ()), ()) := by
  have lo := hb.lo
  have hi := hb.hi
  have w1 : IntKind.i64.wrap (b.Floors - 1) = b.Floors - 1 := nb' (by omega) (by omega)
  have w2 : IntKind.i64.wrap (b.Floors - 2) = b.Floors - 2 := nb' (by omega) (by omega)
  unfold ngf' n1' callB
  rw [ndt', w1, w2, nf1', nf1']
  simp only [Option.bind_some, bne]
  cases b.code == 0 <;> cases dir == 1 <;> cases dir == 2 <;> cases inR 0 (b.Floors - 2) floor <;> rfl
def entOK (b : Bldg) (e : Entry) : Bool := n1' b e.Floor e.Dir && (decide (-2 ≤ e.Car) && (decide (e.Car < (b.Cars.length : Int)) && (decide (0 ≤ e.Moves) && decide (e.Moves ≤ 255))))
def lessE (a b : Entry) : Bool := decide (a.Floor < b.Floor) || (a.Floor == b.Floor && decide (a.Dir < b.Dir))
theorem npw' (a b : Entry) : nh7' a.Floor a.Dir a.Car a.Moves a.Moved b.Floor b.Dir b.Car b.Moves b.Moved = some ((lessE a b, ()), ()) := by
  unfold nh7' lessE
  cases decide (a.Floor < b.Floor) <;> cases a.Floor == b.Floor <;> rfl
def cmpI (x y : Int) : Int := bif decide (x < y) then -1 else bif decide (y < x) then 1 else 0
theorem nml' (x y : Int) : ndl' x y = some ((cmpI x y, ()), ()) := by
  unfold ndl' nf6' cmpI
  simp only [Option.bind_some, bne_self_eq_false, cond_false]
  cases decide (x < y) <;> cases decide (y < x) <;> rfl
theorem nz8' (x y : Int) : nio' [x, y] = some (((bif x != 0 then x else y), ()), ()) := by
  have r : ∀ (l : List Int) (i : Nat), i < l.length → l.length < 100 → ne2' 0 l (l.length : Int) (i : Int) = some (bif l.getD i 0 != 0 then Sum.inr (Sum.inr ((l.getD i 0, ()), ())) else Sum.inl (((0 : Int), l, (l.length : Int), ((i + 1 : Nat) : Int), ()), ())) := fun l i hi hl => by
    have w : IntKind.i64.wrap ((i : Int) + 1) = ((i + 1 : Nat) : Int) := by rw [nb' (by omega) (by omega)]; omega
    unfold ne2'
    rw [decide_eq_true (show (i : Int) < (l.length : Int) by omega), nd' (show (0 : Int) ≤ (i : Int) by omega) (show (i : Int) < (l.length : Int) by omega), Int.toNat_natCast, w]
    simp only [cond_true]
    cases l.getD i 0 != 0 <;> rfl
  have r0 : ne2' 0 [x, y] 2 0 = some (bif x != 0 then Sum.inr (Sum.inr ((x, ()), ())) else Sum.inl (((0 : Int), [x, y], (2 : Int), (1 : Int), ()), ())) := r [x, y] 0 (by simp) (by simp)
  have r1 : ne2' 0 [x, y] 2 1 = some (bif y != 0 then Sum.inr (Sum.inr ((y, ()), ())) else Sum.inl (((0 : Int), [x, y], (2 : Int), (2 : Int), ()), ())) := r [x, y] 1 (by simp) (by simp)
  have h : ngr' (((0 : Int), [x, y], (2 : Int), (0 : Int), ()), ()) = some (bif x != 0 then .inr ((x, ()), ()) else bif y != 0 then .inr ((y, ()), ()) else .inl (((0 : Int), ()), ())) := by
    refine no' (f := 3) ?_ (by omega)
    cases hx : x != 0 with
    | true => rw [hx] at r0; exact ns' r0
    | false =>
      rw [hx] at r0
      refine (nbd' r0).trans ?_
      cases hy : y != 0 with
      | true => rw [hy] at r1; exact ns' r1
      | false => rw [hy] at r1; exact (nbd' r1).trans (ns' rfl)
  unfold nio'
  rw [show ((([x, y] : List Int).length : Nat) : Int) = 2 from rfl, h]
  cases hx : x != 0 with
  | true => rfl
  | false =>
    cases hy : y != 0 with
    | true => rfl
    | false =>
      have : y = 0 := by simpa using hy
      subst this; rfl
theorem nmw' (a b : Entry) : ∃ n : Int, nd8' a.Floor a.Dir a.Car a.Moves a.Moved b.Floor b.Dir b.Car b.Moves b.Moved = some ((n, ()), ()) ∧ decide (0 ≤ n) = !lessE a b ∧ (n = 0 ↔ a.Floor = b.Floor ∧ a.Dir = b.Dir) := by
  unfold nd8'
  rw [nml', nml']
  simp only [Option.bind_some]
  rw [nz8']
  refine ⟨_, rfl, ?_, ?_⟩
  · unfold lessE cmpI
    by_cases h1 : a.Floor < b.Floor
    · rw [decide_eq_true h1]; rfl
    · rw [decide_eq_false h1]
      by_cases h2 : b.Floor < a.Floor
      · rw [decide_eq_true h2, beq_f (show ¬ a.Floor = b.Floor by omega)]; rfl
      · rw [decide_eq_false h2, show (a.Floor == b.Floor) = true by simp; omega]
        by_cases h3 : a.Dir < b.Dir
        · rw [decide_eq_true h3]; rfl
        · rw [decide_eq_false h3]
          cases decide (b.Dir < a.Dir) <;> rfl
  · unfold cmpI
    by_cases h1 : a.Floor < b.Floor
    · rw [decide_eq_true h1]
      exact ⟨(fun h => by cases h), (fun h => by omega)⟩
    · rw [decide_eq_false h1]
      by_cases h2 : b.Floor < a.Floor
      · rw [decide_eq_true h2]
        exact ⟨(fun h => by cases h), (fun h => by omega)⟩
      · rw [decide_eq_false h2]
        by_cases h3 : a.Dir < b.Dir
        · rw [decide_eq_true h3]; exact ⟨(fun h => by cases h), (fun h => by omega)⟩
        · rw [decide_eq_false h3]
          by_cases h4 : b.Dir < a.Dir
          · rw [decide_eq_true h4]; exact ⟨(fun h => by cases h), (fun h => by omega)⟩
          · rw [decide_eq_false h4]; exact ⟨fun _ => ⟨by omega, by omega⟩, fun _ => rfl⟩
def entsF (b : Bldg) : Option Entry → List Entry → Bool
  | _, [] => true
  | p, e :: t => entOK b e && ((match p with | some q => lessE q e | none => true) && entsF b (some e) t)
def Img.ok (b : Bldg) (m : Img) : Bool :=
  b.code == 0 && ((m.Phases.length : Int) == (b.Cars.length : Int) && ((m.Flags.length : Int) == (b.Cars.length : Int) && ((m.Leaving.length : Int) == (b.Cars.length : Int) && (m.Phases.all (inR 0 4) && entsF b Option.none m.Entries))))
def prevE (l : List Entry) (i : Nat) : Option Entry := if i = 0 then none else some (l.getD (i - 1) noE)
theorem nyd' {b : Bldg} {l : List Entry} {i : Nat} (h : i < l.length) : entsF b (prevE l i) (l.drop i) = (entOK b (l.getD i noE) && ((match prevE l i with | some q => lessE q (l.getD i noE) | none => true) && entsF b (prevE l (i + 1)) (l.drop (i + 1)))) := by
  rw [ncs' noE h]
  simp only [entsF, prevE, Nat.succ_ne_zero, if_false, Nat.add_sub_cancel]
section
variable {b : Bldg} (hb : b.small) (m : Img)
include hb
theorem nut' (n : Int) (hn : n = (b.Cars.length : Int)) (hm : m.Entries.length ≤ maxLen) : nf7' (((), (), n, (0 : Int), ()), (b.tup, m.tup, ())) = some (if entsF b none m.Entries then .inl ((), ()) else .inr ((false, ()), ())) := by
  have hmx : maxLen ≤ 9223372036854775807 := by decide
  have key : ∀ (k i : Nat), i + k = m.Entries.length → iter (fun x => ncm' x.1.2.2.1 x.1.2.2.2.1 x.2.1.1 x.2.1.2.1 x.2.1.2.2.1 x.2.1.2.2.2.1 x.2.1.2.2.2.2.1 x.2.1.2.2.2.2.2.1 x.2.1.2.2.2.2.2.2.1 x.2.1.2.2.2.2.2.2.2.1 x.2.2.1.1 x.2.2.1.2.1 x.2.2.1.2.2.1 x.2.2.1.2.2.2.1) (k + 1) (((), (), n, (i : Int), ()), (b.tup, m.tup, ())) = some (if entsF b (prevE m.Entries i) (m.Entries.drop i) then .inl ((), ()) else .inr ((false, ()), ())) := by
    intro k
    induction k with
    | zero =>
      intro i hi
      refine ns' ?_
      show ncm' n (i : Int) b.Floors b.Debounce b.Room b.Park b.Empty b.Full b.Over b.Cars m.Phases m.Flags m.Leaving m.Entries = _
      unfold ncm'
      have e : decide ((i : Int) < (m.Entries.length : Int)) = false := by simp; omega
      rw [e, show i = m.Entries.length by omega, List.drop_length]; rfl
    | succ k ih =>
      intro i hi
      have hi' : i < m.Entries.length := by omega
      have e : decide ((i : Int) < (m.Entries.length : Int)) = true := by simp; omega
      have ib : inB (i : Int) m.Entries.length = true := nd' (by omega) (by omega)
      have w : IntKind.i64.wrap ((i : Int) + 1) = ((i + 1 : Nat) : Int) := by rw [nb' (by omega) (by omega)]; omega
      have go : ∀ p : Bool, (ncm' n (i : Int) b.Floors b.Debounce b.Room b.Park b.Empty b.Full b.Over b.Cars m.Phases m.Flags m.Leaving m.Entries = some (bif p then .inr (.inr ((false, ()), ())) else .inl (((), (), n, ((i + 1 : Nat) : Int), ()), (b.tup, m.tup, ())))) → (entsF b (prevE m.Entries i) (m.Entries.drop i) = (!p && entsF b (prevE m.Entries (i + 1)) (m.Entries.drop (i + 1)))) → iter (fun x => ncm' x.1.2.2.1 x.1.2.2.2.1 x.2.1.1 x.2.1.2.1 x.2.1.2.2.1 x.2.1.2.2.2.1 x.2.1.2.2.2.2.1 x.2.1.2.2.2.2.2.1 x.2.1.2.2.2.2.2.2.1 x.2.1.2.2.2.2.2.2.2.1 x.2.2.1.1 x.2.2.1.2.1 x.2.2.1.2.2.1 x.2.2.1.2.2.2.1) (k + 1 + 1) (((), (), n, (i : Int), ()), (b.tup, m.tup, ())) = some (if entsF b (prevE m.Entries i) (m.Entries.drop i) then .inl ((), ()) else .inr ((false, ()), ())) := fun p h1 h2 => by
        rw [h2]
        cases p with
        | true => exact ns' h1
        | false => rw [Bool.not_false, Bool.true_and]; exact (nbd' h1).trans (ih (i + 1) (by omega))
      have hstep := nyd' (b := b) hi'
      have hc := nnw' hb (m.Entries.getD i noE).Floor (m.Entries.getD i noE).Dir
      refine go (!(entOK b (m.Entries.getD i noE) && (match prevE m.Entries i with | some q => lessE q (m.Entries.getD i noE) | none => true))) ?_ (by rw [hstep, Bool.not_not, Bool.and_assoc])
      unfold ncm'
      rw [e, ib, show (Entry.mk 0 0 0 0 false) = noE from rfl]
      simp only [cond_true, Int.toNat_natCast, hc, Option.bind_some]
      unfold entOK
      have q1 : decide ((m.Entries.getD i noE).Car < -2) = !decide (-2 ≤ (m.Entries.getD i noE).Car) := no0' _ _
      have q2 : decide (n ≤ (m.Entries.getD i noE).Car) = !decide ((m.Entries.getD i noE).Car < (b.Cars.length : Int)) := by rw [hn]; exact n44' _ _
      have q3 : decide ((m.Entries.getD i noE).Moves < 0) = !decide (0 ≤ (m.Entries.getD i noE).Moves) := no0' _ _
      have q4 : decide (255 < (m.Entries.getD i noE).Moves) = !decide ((m.Entries.getD i noE).Moves ≤ 255) := no0' _ _
      rw [q1, q2, q3, q4]
      cases n1' b (m.Entries.getD i noE).Floor (m.Entries.getD i noE).Dir with
      | false => rfl
      | true =>
        cases decide (-2 ≤ (m.Entries.getD i noE).Car) with
        | false => rfl
        | true =>
          cases decide ((m.Entries.getD i noE).Car < (b.Cars.length : Int)) with
          | false => rfl
          | true =>
            cases decide (0 ≤ (m.Entries.getD i noE).Moves) with
            | false => rfl
            | true =>
              cases decide ((m.Entries.getD i noE).Moves ≤ 255) with
              | false => rfl
              | true =>
                simp only [Bool.not_true, cond_false, Bool.and_self, Bool.true_and]
                by_cases g : (0 : Int) < (i : Int)
                · have w1 : IntKind.i64.wrap ((i : Int) - 1) = ((i - 1 : Nat) : Int) := by rw [nb' (by omega) (by omega)]; omega
                  have ib1 : inB ((i - 1 : Nat) : Int) m.Entries.length = true := nd' (by omega) (by omega)
                  have hl := npw' (m.Entries.getD (i - 1) noE) (m.Entries.getD i noE)
                  rw [decide_eq_true g, w1, ib1]
                  simp only [cond_true, Int.toNat_natCast, hl, Option.bind_some, w]
                  rw [show prevE m.Entries i = some (m.Entries.getD (i - 1) noE) from if_neg (by omega)]
                  simp only
                  cases lessE (m.Entries.getD (i - 1) noE) (m.Entries.getD i noE) <;> rfl
                · have : i = 0 := by omega
                  subst this
                  rw [decide_eq_false g]
                  simp only [cond_false, Option.bind_some, w]
                  rfl
  have h := no' (key m.Entries.length 0 (by omega)) (by omega)
  exact h
omit hb in
theorem nur' (n : Int) (hn : n = (m.Phases.length : Int)) (hm : m.Phases.length ≤ maxLen) : nf8' (((), (), n, (0 : Int), ()), (b.tup, m.tup, ())) = some (if m.Phases.all (inR 0 4) then .inl (((), (), n, ()), (b.tup, m.tup, ())) else .inr ((false, ()), ())) := by
  have hmx : maxLen ≤ 9223372036854775807 := by decide
  subst hn
  have key : ∀ (k i : Nat), i + k = m.Phases.length → iter (fun x => ndc' x.1.2.2.1 x.1.2.2.2.1 x.2.1.1 x.2.1.2.1 x.2.1.2.2.1 x.2.1.2.2.2.1 x.2.1.2.2.2.2.1 x.2.1.2.2.2.2.2.1 x.2.1.2.2.2.2.2.2.1 x.2.1.2.2.2.2.2.2.2.1 x.2.2.1.1 x.2.2.1.2.1 x.2.2.1.2.2.1 x.2.2.1.2.2.2.1) (k + 1) (((), (), (m.Phases.length : Int), (i : Int), ()), (b.tup, m.tup, ())) = some (if (m.Phases.drop i).all (inR 0 4) then .inl (((), (), (m.Phases.length : Int), ()), (b.tup, m.tup, ())) else .inr ((false, ()), ())) := by
    intro k
    induction k with
    | zero =>
      intro i hi
      refine ns' ?_
      show ndc' (m.Phases.length : Int) (i : Int) b.Floors b.Debounce b.Room b.Park b.Empty b.Full b.Over b.Cars m.Phases m.Flags m.Leaving m.Entries = _
      unfold ndc'
      have e : decide ((i : Int) < (m.Phases.length : Int)) = false := by simp; omega
      rw [e, show i = m.Phases.length by omega, List.drop_length]; rfl
    | succ k ih =>
      intro i hi
      have hi' : i < m.Phases.length := by omega
      have e : decide ((i : Int) < (m.Phases.length : Int)) = true := by simp; omega
      have ib : inB (i : Int) m.Phases.length = true := nd' (by omega) (by omega)
      have w : IntKind.i64.wrap ((i : Int) + 1) = ((i + 1 : Nat) : Int) := by rw [nb' (by omega) (by omega)]; omega
      rw [ncs' (0 : Int) hi', List.all_cons]
      have hs : ndc' (m.Phases.length : Int) (i : Int) b.Floors b.Debounce b.Room b.Park b.Empty b.Full b.Over b.Cars m.Phases m.Flags m.Leaving m.Entries = some (bif inR 0 4 (m.Phases.getD i 0) then .inl (((), (), (m.Phases.length : Int), ((i + 1 : Nat) : Int), ()), (b.tup, m.tup, ())) else .inr (.inr ((false, ()), ()))) := by
        unfold ndc'
        rw [e, ib, w]
        simp only [cond_true, Int.toNat_natCast]
        unfold inR
        by_cases g1 : m.Phases.getD i 0 < 0
        · rw [decide_eq_true g1, decide_eq_false (show ¬ 0 ≤ m.Phases.getD i 0 by omega)]; rfl
        · rw [decide_eq_false g1, decide_eq_true (show 0 ≤ m.Phases.getD i 0 by omega)]
          by_cases g2 : 4 < m.Phases.getD i 0
          · rw [decide_eq_true g2, decide_eq_false (show ¬ m.Phases.getD i 0 ≤ 4 by omega)]; rfl
          · rw [decide_eq_false g2, decide_eq_true (show m.Phases.getD i 0 ≤ 4 by omega)]; rfl
      cases hq : inR 0 4 (m.Phases.getD i 0) with
      | true => rw [hq] at hs; exact (nbd' hs).trans (ih (i + 1) (by omega))
      | false => rw [hq] at hs; exact ns' hs
  have h := no' (key m.Phases.length 0 (by omega)) (by omega)
  exact h
theorem ngt' (hp : m.Phases.length ≤ maxLen) (he : m.Entries.length ≤ maxLen) : nce' b.Floors b.Debounce b.Room b.Park b.Empty b.Full b.Over b.Cars m.Phases m.Flags m.Leaving m.Entries = some ((m.ok b, ()), ()) := by
  unfold nce' Img.ok
  rw [ndt']
  simp only [Option.bind_some, bne]
  cases b.code == 0 with
  | false => rfl
  | true =>
    cases hq : (m.Phases.length : Int) == (b.Cars.length : Int) with
    | false => rfl
    | true =>
      cases (m.Flags.length : Int) == (b.Cars.length : Int) with
      | false => rfl
      | true =>
        cases (m.Leaving.length : Int) == (b.Cars.length : Int) with
        | false => rfl
        | true =>
          have hq' : (m.Phases.length : Int) = (b.Cars.length : Int) := by simpa using hq
          have h0 := nur' (b := b) m (b.Cars.length : Int) hq'.symm hp
          have h1 := nut' hb m (b.Cars.length : Int) rfl he
          unfold Bldg.tup Img.tup at h0 h1
          simp only [Bool.not_true, cond_false, h0, Option.bind_some, Bool.true_and]
          cases m.Phases.all (inR 0 4) with
          | false => rfl
          | true =>
            simp only [if_true, h1, Option.bind_some, Bool.true_and]
            cases entsF b none m.Entries <;> rfl
end
end Go.Ovl
namespace Go.Ovl
open Go Go.Ab
set_option maxRecDepth 100000
theorem nt4' (n lo hi : Int) : nei' n lo hi = some ((inR lo hi n, ()), ()) := by
  unfold nei' inR
  cases decide (lo ≤ n) <;> rfl
def carR (b : Bldg) (r : Record) : Bool := inR 0 ((b.Cars.length : Int) - 1) r.Car && (r.Floor == 0 && r.Dir == 0)
def nr' (b : Bldg) (r : Record) : Bool :=
  b.code == 0 && (bif r.Kind == 1 then n1' b r.Floor r.Dir && (r.Car == 0 && r.Value == 0)
  else bif r.Kind == 2 then n1' b r.Floor r.Dir && (r.Car == 0 && r.Value == 0)
  else bif r.Kind == 3 then n1' b r.Floor r.Dir && (inR (-2) ((b.Cars.length : Int) - 1) r.Car && r.Value == 0)
  else bif r.Kind == 4 then carR b r && inR 0 4 r.Value
  else bif r.Kind == 5 then carR b r && inR 0 1 r.Value
  else bif r.Kind == 6 then carR b r && inR 0 1 r.Value
  else bif r.Kind == 7 then n1' b r.Floor r.Dir && (inR 0 1 r.Car && inR 0 255 r.Value)
  else false)
theorem nlg' {b : Bldg} (hb : b.small) (hc : b.Cars.length ≤ 100) (r : Record) : nek' b.Floors b.Debounce b.Room b.Park b.Empty b.Full b.Over b.Cars r.Kind r.Floor r.Dir r.Car r.Value = some ((nr' b r, ()), ()) := by
  have w : IntKind.i64.wrap ((b.Cars.length : Int) - 1) = (b.Cars.length : Int) - 1 := nb' (by omega) (by omega)
  unfold nek' nr' carR
  rw [ndt', nnw' hb, nt4', w]
  simp only [Option.bind_some, bne, nt4']
  cases b.code == 0 with
  | false => rfl
  | true =>
    simp only [Bool.not_true, cond_false, Bool.true_and]
    have k : ∀ (q : Bool) {x y z : Option ((Bool × Unit) × Unit)} {u v : Bool}, (q = true → x = some ((u, ()), ())) → (q = false → y = some ((v, ()), ())) → (bif q then x else y) = some (((bif q then u else v), ()), ()) := fun q _ _ _ _ _ h1 h2 => by
      cases q
      · exact h2 rfl
      · exact h1 rfl
    cases inR 0 ((b.Cars.length : Int) - 1) r.Car <;> cases r.Floor == 0 <;> cases r.Dir == 0 <;>
      (simp only [cond_true, cond_false, Option.bind_some, Bool.and_self, Bool.and_true, Bool.and_false, Bool.false_and, Bool.true_and]
       refine k _ (z := none) (fun _ => ?_) fun _ => k _ (z := none) (fun _ => ?_) fun _ => k _ (z := none) (fun _ => ?_) fun _ => k _ (z := none) (fun _ => ?_) fun _ => k _ (z := none) (fun _ => ?_) fun _ => k _ (z := none) (fun _ => ?_) fun _ => k _ (z := none) (fun _ => ?_) fun _ => ?_
       all_goals first
         | rfl
         | (cases n1' b r.Floor r.Dir <;> cases r.Car == 0 <;> rfl)
         | (cases n1' b r.Floor r.Dir <;> cases inR 0 1 r.Car <;> rfl)
         | (rw [w]; cases n1' b r.Floor r.Dir <;> cases inR (-2) ((b.Cars.length : Int) - 1) r.Car <;> rfl))
end Go.Ovl
