/- Buildings (layer 1): which are valid; the program and the reference say the same. -/
import Derived.Test.YthdomhdippmaiaaGreatOvBase
import Derived.Test.YthdomhdippmaiaaGreatDefs2
namespace Go.Ovl
open Go Go.Ab
set_option maxRecDepth 100000
structure Bldg where
  Floors : Int
  Debounce : Int
  Room : Int
  Park : Int
  Empty : Nat
  Full : Nat
  Over : Nat
  Cars : List Car
theorem nc1' {α : Type} {l : List α} {i : Nat} (d : α) (h : i < l.length) : l.drop i = l.getD i d :: l.drop (i + 1) := by
  rw [List.drop_eq_getElem_cons h]; simp [h]
def inR (lo hi n : Int) : Bool := decide (lo ≤ n) && decide (n ≤ hi)
theorem nv' {lo hi n : Int} : inR lo hi n = true ↔ lo ≤ n ∧ n ≤ hi := by simp [inR]
theorem nb3' (lo hi : Int) {l : List Int} (hl : l.length ≤ maxLen) : nbg' lo hi l = some ((l.all (inR lo hi), ()), ()) := by
  have hm : maxLen ≤ 9223372036854775807 := by decide
  have key : ∀ (m i : Nat), i + m = l.length → iter (fun x => nbx' x.1.1 x.1.2.1 x.1.2.2.1 x.1.2.2.2.1 x.1.2.2.2.2.1) (m + 1) ((lo, hi, l, (l.length : Int), (i : Int), ()), ()) = some (if (l.drop i).all (inR lo hi) then .inl ((), ()) else .inr ((false, ()), ())) := by
    intro m
    induction m with
    | zero =>
      intro i hi'
      refine n6' ?_
      show nbx' lo hi l (l.length : Int) (i : Int) = _
      unfold nbx'
      have e : decide ((i : Int) < (l.length : Int)) = false := by simp; omega
      rw [e, show i = l.length by omega]; simp
    | succ m ih =>
      intro i hi'
      have e : decide ((i : Int) < (l.length : Int)) = true := by simp; omega
      have ib : inB (i : Int) l.length = true := nc' (by omega) (by omega)
      have tn : Int.toNat (i : Int) = i := by omega
      have w : IntKind.i64.wrap ((i : Int) + 1) = ((i + 1 : Nat) : Int) := by rw [nb' (by omega) (by omega)]; omega
      rw [nc1' (0 : Int) (show i < l.length by omega)]
      by_cases h1 : l.getD i 0 < lo
      · refine (n6' (y := .inr ((false, ()), ())) ?_).trans ?_
        · show nbx' lo hi l (l.length : Int) (i : Int) = _
          unfold nbx'
          have d1 : decide (l.getD i 0 < lo) = true := by simpa using h1
          simp only [e, ib, tn, d1, cond_true]
        · have : inR lo hi (l.getD i 0) = false := by rw [inR, show decide (lo ≤ l.getD i 0) = false from decide_eq_false (by omega), Bool.false_and]
          rw [List.all_cons, this]; rfl
      · have d1 : decide (l.getD i 0 < lo) = false := by simpa using h1
        by_cases h2 : hi < l.getD i 0
        · refine (n6' (y := .inr ((false, ()), ())) ?_).trans ?_
          · show nbx' lo hi l (l.length : Int) (i : Int) = _
            unfold nbx'
            have d2 : decide (hi < l.getD i 0) = true := by simpa using h2
            simp only [e, ib, tn, d1, d2, cond_true, cond_false]
          · have : inR lo hi (l.getD i 0) = false := by rw [inR, show decide (l.getD i 0 ≤ hi) = false from decide_eq_false (by omega), Bool.and_false]
            rw [List.all_cons, this]; rfl
        · have d2 : decide (hi < l.getD i 0) = false := by simpa using h2
          refine (nb4' (x' := ((lo, hi, l, (l.length : Int), ((i + 1 : Nat) : Int), ()), ())) ?_).trans ?_
          · show nbx' lo hi l (l.length : Int) (i : Int) = _
            unfold nbx'
            simp only [e, ib, tn, d1, d2, w, cond_true, cond_false]
          · have : inR lo hi (l.getD i 0) = true := nv'.2 ⟨by omega, by omega⟩
            rw [ih (i + 1) (by omega), List.all_cons, this]; rfl
  unfold nbg'
  have h0 : nfc' ((lo, hi, l, (l.length : Int), (0 : Int), ()), ()) = _ := nf' (key l.length 0 (by omega)) (by omega)
  rw [h0]
  rw [List.drop_zero]
  cases l.all (inR lo hi) <;> rfl
theorem nhn' (n lo hi : Int) : nd5' n lo hi = some ((inR lo hi n, ()), ()) := by
  unfold nd5' inR
  cases h : decide (lo ≤ n) <;> simp
def ncy' (fl : Int) (c : Car) : Bool :=
  [c.Deadline, c.Pulse, c.Quiet, c.Step, c.Travel, c.Dwell, c.Hold].all (inR 1 10000) && (inR 0 10000 c.Slack && (decide (c.Dwell ≤ c.Hold) && inR 0 (IntKind.i64.wrap (fl - 1)) c.Home))
theorem no8' (fl : Int) (c : Car) : ngv' c.Deadline c.Pulse c.Quiet c.Slack c.Step c.Travel c.Dwell c.Hold c.Home fl = some ((ncy' fl c, ()), ()) := by
  have hm : 7 ≤ maxLen := by decide
  unfold ngv' ncy'
  rw [nb3' 1 10000 (l := [c.Deadline, c.Pulse, c.Quiet, c.Step, c.Travel, c.Dwell, c.Hold]) (by simpa using hm)]
  generalize [c.Deadline, c.Pulse, c.Quiet, c.Step, c.Travel, c.Dwell, c.Hold].all (inR 1 10000) = a
  rw [nb3' 0 10000 (l := [c.Slack]) (by simp; omega), nb3' 0 _ (l := [c.Home]) (by simp; omega)]
  simp only [Option.bind_some, List.all_cons, List.all_nil, Bool.and_true]
  cases a
  · rfl
  · cases inR 0 10000 c.Slack
    · rfl
    · by_cases h : c.Dwell ≤ c.Hold
      · have : decide (c.Dwell ≤ c.Hold) = true := by simpa using h
        simp only [this, cond_true, Option.bind_some, Bool.true_and]
      · have : decide (c.Dwell ≤ c.Hold) = false := by simpa using h
        simp only [this, cond_true, cond_false, Option.bind_some, Bool.true_and, Bool.false_and]
def Bldg.tup (b : Bldg) : Int × Int × Int × Int × Nat × Nat × Nat × List Car × Unit := (b.Floors, b.Debounce, b.Room, b.Park, b.Empty, b.Full, b.Over, b.Cars, ())
def Car.tup (c : Car) : Int × Int × Int × Int × Int × Int × Int × Int × Int × Unit := (c.Deadline, c.Pulse, c.Quiet, c.Slack, c.Step, c.Travel, c.Dwell, c.Hold, c.Home, ())
theorem ntv' (b : Bldg) (c : Car) {L : List Int} (hL : L.length = 8) :
    nje' (((), (), L, (0 : Int), ()), (b.tup, c.tup, ())) = some (if (L.take 7).all (inR 1 10000) then .inl (((), (), ()), (b.tup, c.tup, ())) else .inr ((false, ()), ())) := by
  have key : ∀ (m i : Nat), i + m = 7 → iter (fun x => nd0' x.1.2.2.1 x.1.2.2.2.1 x.2.1.1 x.2.1.2.1 x.2.1.2.2.1 x.2.1.2.2.2.1 x.2.1.2.2.2.2.1 x.2.1.2.2.2.2.2.1 x.2.1.2.2.2.2.2.2.1 x.2.1.2.2.2.2.2.2.2.1 x.2.2.1.1 x.2.2.1.2.1 x.2.2.1.2.2.1 x.2.2.1.2.2.2.1 x.2.2.1.2.2.2.2.1 x.2.2.1.2.2.2.2.2.1 x.2.2.1.2.2.2.2.2.2.1 x.2.2.1.2.2.2.2.2.2.2.1 x.2.2.1.2.2.2.2.2.2.2.2.1) (m + 1) (((), (), L, (i : Int), ()), (b.tup, c.tup, ())) = some (if ((L.take 7).drop i).all (inR 1 10000) then .inl (((), (), ()), (b.tup, c.tup, ())) else .inr ((false, ()), ())) := by
    intro m
    induction m with
    | zero =>
      intro i hi'
      refine n6' ?_
      show nd0' L (i : Int) b.Floors b.Debounce b.Room b.Park b.Empty b.Full b.Over b.Cars c.Deadline c.Pulse c.Quiet c.Slack c.Step c.Travel c.Dwell c.Hold c.Home = _
      unfold nd0'
      have e : decide ((i : Int) < 7) = false := by simp; omega
      have hd : (L.take 7).drop i = [] := List.drop_eq_nil_of_le (by simp; omega)
      rw [e, hd]; rfl
    | succ m ih =>
      intro i hi'
      have e : decide ((i : Int) < 7) = true := by simp; omega
      have ib : inB (i : Int) L.length = true := nc' (by omega) (by omega)
      have tn : Int.toNat (i : Int) = i := by omega
      have w : IntKind.i64.wrap ((i : Int) + 1) = ((i + 1 : Nat) : Int) := by rw [nb' (by omega) (by omega)]; omega
      have hg : (L.take 7).getD i 0 = L.getD i 0 := by
        simp only [List.getD_eq_getElem?_getD, List.getElem?_take]
        rw [if_pos (by omega)]
      rw [nc1' (0 : Int) (show i < (L.take 7).length by simp; omega), hg, List.all_cons]
      cases hr : inR 1 10000 (L.getD i 0) with
      | false =>
        refine (n6' (y := .inr ((false, ()), ())) ?_).trans rfl
        show nd0' L (i : Int) b.Floors b.Debounce b.Room b.Park b.Empty b.Full b.Over b.Cars c.Deadline c.Pulse c.Quiet c.Slack c.Step c.Travel c.Dwell c.Hold c.Home = _
        unfold nd0'
        simp only [e, ib, tn, nhn', hr, cond_true, Option.bind_some, Bool.not_false]
      | true =>
        refine (nb4' (x' := (((), (), L, ((i + 1 : Nat) : Int), ()), (b.tup, c.tup, ()))) ?_).trans ?_
        · show nd0' L (i : Int) b.Floors b.Debounce b.Room b.Park b.Empty b.Full b.Over b.Cars c.Deadline c.Pulse c.Quiet c.Slack c.Step c.Travel c.Dwell c.Hold c.Home = _
          unfold nd0'
          simp only [e, ib, tn, w, nhn', hr, cond_true, cond_false, Option.bind_some, Bool.not_true]
          rfl
        · rw [ih (i + 1) (by omega), Bool.true_and]
  have h0 := key 7 0 rfl
  rw [List.drop_zero] at h0
  exact nf' h0 (by omega)
theorem ntf' (b : Bldg) (c : Car) : nk6' b.Floors b.Debounce b.Room b.Park b.Empty b.Full b.Over b.Cars c.Deadline c.Pulse c.Quiet c.Slack c.Step c.Travel c.Dwell c.Hold c.Home = some ((ncy' b.Floors c, ()), ()) := by
  unfold nk6' ncy'
  by_cases h1 : c.Slack < 0
  · have d1 : decide (c.Slack < 0) = true := by simpa using h1
    have d2 : inR 0 10000 c.Slack = false := by rw [inR, show decide (0 ≤ c.Slack) = false from decide_eq_false (by omega), Bool.false_and]
    rw [d1, cond_true, d2, Bool.false_and, Bool.and_false]
  · have d1 : decide (c.Slack < 0) = false := by simpa using h1
    rw [d1, cond_false]
    by_cases h2 : 10000 < c.Slack
    · have d1 : decide (10000 < c.Slack) = true := by simpa using h2
      have d2 : inR 0 10000 c.Slack = false := by rw [inR, show decide (c.Slack ≤ 10000) = false from decide_eq_false (by omega), Bool.and_false]
      rw [d1, cond_true, d2, Bool.false_and, Bool.and_false]
    · have d1 : decide (10000 < c.Slack) = false := by simpa using h2
      have d2 : inR 0 10000 c.Slack = true := nv'.2 ⟨by omega, by omega⟩
      rw [d1, cond_false, d2, Bool.true_and]
      have hl := ntv' b c (L := [c.Deadline, c.Pulse, c.Quiet, c.Step, c.Travel, c.Dwell, c.Hold, IntKind.i64.wrap (c.Slack + 1)]) rfl
      rw [show ([c.Deadline, c.Pulse, c.Quiet, c.Step, c.Travel, c.Dwell, c.Hold, IntKind.i64.wrap (c.Slack + 1)].take 7) = [c.Deadline, c.Pulse, c.Quiet, c.Step, c.Travel, c.Dwell, c.Hold] from rfl] at hl
      simp only [Bldg.tup, Car.tup] at hl
      rw [hl]
      cases [c.Deadline, c.Pulse, c.Quiet, c.Step, c.Travel, c.Dwell, c.Hold].all (inR 1 10000) with
      | false => rfl
      | true =>
        simp only [if_true, Option.bind_some, Bool.true_and, nhn']
        by_cases h : c.Dwell ≤ c.Hold
        · have : decide (c.Dwell ≤ c.Hold) = true := by simpa using h
          simp only [this, cond_true, Option.bind_some, Bool.true_and]
        · have : decide (c.Dwell ≤ c.Hold) = false := by simpa using h
          simp only [this, cond_false, Option.bind_some, Bool.false_and]
def Bldg.loadsOK (b : Bldg) : Bool := ((Go.FloatKind.format Go.FloatKind.f64).order 0 b.Empty == some Ordering.lt) && (((Go.FloatKind.format Go.FloatKind.f64).order b.Empty b.Full == some Ordering.lt) && (((Go.FloatKind.format Go.FloatKind.f64).order b.Full b.Over == some Ordering.lt) && ((Go.FloatKind.format Go.FloatKind.f64).order b.Over 9218868437227405311 == some Ordering.lt || (Go.FloatKind.format Go.FloatKind.f64).order b.Over 9218868437227405311 == some Ordering.eq)))
def Bldg.code (b : Bldg) : Int :=
  bif !inR 2 32 b.Floors then 10 else bif !inR 1 8 (b.Cars.length : Int) then 11 else
  bif !(inR 1 16 b.Debounce && inR 1 10000 b.Park && b.Cars.all (ncy' b.Floors)) then 12 else bif !b.loadsOK then 13 else
  bif !inR (18 * (b.Cars.length : Int) + 24) 65536 b.Room then 14 else 0
def noCar : Car := ⟨0, 0, 0, 0, 0, 0, 0, 0, 0⟩
theorem no7' (b : Bldg) (hl : b.Cars.length ≤ 8) (g : Bool) :
    nfm' (((), g, b.Cars, (b.Cars.length : Int), (0 : Int), ()), (b.tup, ())) = some (((), g && b.Cars.all (ncy' b.Floors), ()), (b.tup, ())) := by
  have key : ∀ (m i : Nat) (g : Bool), i + m = b.Cars.length → iter (fun x => ndi' x.1.2.1 x.1.2.2.1 x.1.2.2.2.1 x.1.2.2.2.2.1 x.2.1.1 x.2.1.2.1 x.2.1.2.2.1 x.2.1.2.2.2.1 x.2.1.2.2.2.2.1 x.2.1.2.2.2.2.2.1 x.2.1.2.2.2.2.2.2.1 x.2.1.2.2.2.2.2.2.2.1) (m + 1) (((), g, b.Cars, (b.Cars.length : Int), (i : Int), ()), (b.tup, ())) = some (((), g && (b.Cars.drop i).all (ncy' b.Floors), ()), (b.tup, ())) := by
    intro m
    induction m with
    | zero =>
      intro i g hi'
      refine n6' ?_
      show ndi' g b.Cars (b.Cars.length : Int) (i : Int) b.Floors b.Debounce b.Room b.Park b.Empty b.Full b.Over b.Cars = _
      unfold ndi'
      have e : decide ((i : Int) < (b.Cars.length : Int)) = false := by simp; omega
      rw [e, show i = b.Cars.length by omega, List.drop_length]
      simp only [cond_false, List.all_nil, Bool.and_true, Bldg.tup]
    | succ m ih =>
      intro i g hi'
      have e : decide ((i : Int) < (b.Cars.length : Int)) = true := by simp; omega
      have ib : inB (i : Int) b.Cars.length = true := nc' (by omega) (by omega)
      have tn : Int.toNat (i : Int) = i := by omega
      have w : IntKind.i64.wrap ((i : Int) + 1) = ((i + 1 : Nat) : Int) := by rw [nb' (by omega) (by omega)]; omega
      rw [nc1' noCar (show i < b.Cars.length by omega), List.all_cons]
      refine (nb4' (x' := (((), g && ncy' b.Floors (b.Cars.getD i noCar), b.Cars, (b.Cars.length : Int), ((i + 1 : Nat) : Int), ()), (b.tup, ()))) ?_).trans ?_
      · show ndi' g b.Cars (b.Cars.length : Int) (i : Int) b.Floors b.Debounce b.Room b.Park b.Empty b.Full b.Over b.Cars = _
        unfold ndi'
        simp only [e, ib, tn, cond_true]
        rw [no8' b.Floors (b.Cars.getD i ⟨0, 0, 0, 0, 0, 0, 0, 0, 0⟩)]
        cases g
        · simp only [cond_false, Option.bind_some, Bool.false_and, w]; rfl
        · simp only [cond_true, Option.bind_some, Bool.true_and, w]; rfl
      · rw [ih (i + 1) _ (by omega), Bool.and_assoc]
  have h0 := key b.Cars.length 0 g (by omega)
  rw [List.drop_zero] at h0
  exact nf' h0 (by omega)
theorem nt7' (b : Bldg) (hl : b.Cars.length ≤ 8) (g : Bool) :
    ni4' (((), g, (0 : Int), ()), (b.tup, ())) = some (((), g && b.Cars.all (ncy' b.Floors), ()), (b.tup, ())) := by
  have key : ∀ (m i : Nat) (g : Bool), i + m = b.Cars.length → iter (fun x => nfg' x.1.2.1 x.1.2.2.1 x.2.1.1 x.2.1.2.1 x.2.1.2.2.1 x.2.1.2.2.2.1 x.2.1.2.2.2.2.1 x.2.1.2.2.2.2.2.1 x.2.1.2.2.2.2.2.2.1 x.2.1.2.2.2.2.2.2.2.1) (m + 1) (((), g, (i : Int), ()), (b.tup, ())) = some (((), g && (b.Cars.drop i).all (ncy' b.Floors), ()), (b.tup, ())) := by
    intro m
    induction m with
    | zero =>
      intro i g hi'
      refine n6' ?_
      show nfg' g (i : Int) b.Floors b.Debounce b.Room b.Park b.Empty b.Full b.Over b.Cars = _
      unfold nfg'
      have e : decide ((i : Int) < (b.Cars.length : Int)) = false := by simp; omega
      rw [e, show i = b.Cars.length by omega, List.drop_length]
      simp only [cond_false, List.all_nil, Bool.and_true, Bldg.tup]
    | succ m ih =>
      intro i g hi'
      have e : decide ((i : Int) < (b.Cars.length : Int)) = true := by simp; omega
      have ib : inB (i : Int) b.Cars.length = true := nc' (by omega) (by omega)
      have tn : Int.toNat (i : Int) = i := by omega
      have w : IntKind.i64.wrap ((i : Int) + 1) = ((i + 1 : Nat) : Int) := by rw [nb' (by omega) (by omega)]; omega
      rw [nc1' noCar (show i < b.Cars.length by omega), List.all_cons]
      refine (nb4' (x' := (((), g && ncy' b.Floors (b.Cars.getD i noCar), ((i + 1 : Nat) : Int), ()), (b.tup, ()))) ?_).trans ?_
      · show nfg' g (i : Int) b.Floors b.Debounce b.Room b.Park b.Empty b.Full b.Over b.Cars = _
        unfold nfg'
        simp only [e, ib, tn, cond_true]
        rw [ntf' b (b.Cars.getD i ⟨0, 0, 0, 0, 0, 0, 0, 0, 0⟩)]
        cases g
        · simp only [cond_false, Option.bind_some, Bool.false_and, w]; rfl
        · simp only [cond_true, Option.bind_some, Bool.true_and, w]; rfl
      · rw [ih (i + 1) _ (by omega), Bool.and_assoc]
  have h0 := key b.Cars.length 0 g (by omega)
  rw [List.drop_zero] at h0
  exact nf' h0 (by omega)
theorem no9' (b : Bldg) : ng4' b.Floors b.Debounce b.Room b.Park b.Empty b.Full b.Over b.Cars = some ((b.loadsOK, ()), ()) := by
  unfold ng4' Bldg.loadsOK
  cases (Go.FloatKind.format Go.FloatKind.f64).order 0 b.Empty == some Ordering.lt
  · rfl
  cases (Go.FloatKind.format Go.FloatKind.f64).order b.Empty b.Full == some Ordering.lt
  · rfl
  cases (Go.FloatKind.format Go.FloatKind.f64).order b.Full b.Over == some Ordering.lt
  · rfl
  rfl
theorem ncm' (b : Bldg) : nca' b.Floors b.Debounce b.Room b.Park b.Empty b.Full b.Over b.Cars = some ((b.code, ()), ()) := by
  have hm : 8 ≤ maxLen := by decide
  unfold nca' Bldg.code
  rw [nb3' 2 32 (l := [b.Floors]) (by simp; omega), nb3' 1 8 (l := [(b.Cars.length : Int)]) (by simp; omega), nb3' 1 16 (l := [b.Debounce]) (by simp; omega), nb3' 1 10000 (l := [b.Park]) (by simp; omega)]
  simp only [Option.bind_some, List.all_cons, List.all_nil, Bool.and_true]
  cases inR 2 32 b.Floors
  · rfl
  cases hc : inR 1 8 (b.Cars.length : Int)
  · rfl
  have hlen : b.Cars.length ≤ 8 := by have := (nv'.1 hc).2; omega
  have hg : (bif inR 1 16 b.Debounce then some (((), inR 1 10000 b.Park, ()), (b.tup, ())) else some (((), false, ()), (b.tup, ()))) = some (((), inR 1 16 b.Debounce && inR 1 10000 b.Park, ()), (b.tup, ())) := by
    cases inR 1 16 b.Debounce <;> rfl
  simp only [Bldg.tup] at hg
  simp only [Bool.not_true, cond_false, hg, Option.bind_some]
  have hl := no7' b hlen (inR 1 16 b.Debounce && inR 1 10000 b.Park)
  simp only [Bldg.tup] at hl
  rw [hl, Option.bind_some]
  cases inR 1 16 b.Debounce && inR 1 10000 b.Park && b.Cars.all (ncy' b.Floors)
  · rfl
  simp only [Bool.not_true, cond_false]
  rw [no9' b, Option.bind_some]
  cases b.loadsOK
  · rfl
  simp only [Bool.not_true, cond_false]
  rw [show IntKind.i64.wrap (IntKind.i64.wrap (18 * (b.Cars.length : Int)) + 24) = 18 * (b.Cars.length : Int) + 24 by rw [nb' (n := 18 * (b.Cars.length : Int)) (by omega) (by omega), nb' (by omega) (by omega)],
    nb3' _ 65536 (l := [b.Room]) (by simp; omega)]
  simp only [Option.bind_some, List.all_cons, List.all_nil, Bool.and_true]
  cases inR (18 * (b.Cars.length : Int) + 24) 65536 b.Room <;> rfl
theorem nd3' (b : Bldg) : nc2' b.Floors b.Debounce b.Room b.Park b.Empty b.Full b.Over b.Cars = some ((b.code, ()), ()) := by
  unfold nc2' Bldg.code
  simp only [nhn', Option.bind_some]
  cases inR 2 32 b.Floors
  · rfl
  cases hc : inR 1 8 (b.Cars.length : Int)
  · rfl
  have hlen : b.Cars.length ≤ 8 := by have := (nv'.1 hc).2; omega
  have hg : (bif inR 1 16 b.Debounce then some (((), inR 1 10000 b.Park, ()), (b.tup, ())) else some (((), false, ()), (b.tup, ()))) = some (((), inR 1 16 b.Debounce && inR 1 10000 b.Park, ()), (b.tup, ())) := by
    cases inR 1 16 b.Debounce <;> rfl
  simp only [Bldg.tup] at hg
  simp only [Bool.not_true, cond_false, hg, Option.bind_some]
  have hl := nt7' b hlen (inR 1 16 b.Debounce && inR 1 10000 b.Park)
  simp only [Bldg.tup] at hl
  rw [hl, Option.bind_some]
  cases inR 1 16 b.Debounce && inR 1 10000 b.Park && b.Cars.all (ncy' b.Floors)
  · rfl
  simp only [Bool.not_true, cond_false]
  unfold Bldg.loadsOK
  cases (Go.FloatKind.format Go.FloatKind.f64).order 0 b.Empty == some Ordering.lt
  · rfl
  cases (Go.FloatKind.format Go.FloatKind.f64).order b.Empty b.Full == some Ordering.lt
  · rfl
  cases (Go.FloatKind.format Go.FloatKind.f64).order b.Full b.Over == some Ordering.lt
  · rfl
  simp only [cond_true, Bool.true_and]
  cases ((Go.FloatKind.format Go.FloatKind.f64).order b.Over 9218868437227405311 == some Ordering.lt || (Go.FloatKind.format Go.FloatKind.f64).order b.Over 9218868437227405311 == some Ordering.eq)
  · rfl
  simp only [Bool.not_true, cond_false]
  rw [show IntKind.i64.wrap (IntKind.i64.wrap (18 * (b.Cars.length : Int)) + 24) = 18 * (b.Cars.length : Int) + 24 by rw [nb' (n := 18 * (b.Cars.length : Int)) (by omega) (by omega), nb' (by omega) (by omega)]]
  cases inR (18 * (b.Cars.length : Int) + 24) 65536 b.Room <;> rfl
end Go.Ovl
