/- Layer 26: which machines belong to a building: the program's side. -/
import Derived.Test.YthdomhdippmaiaaGreatOvSane26
namespace Go.Ovl
open Go Go.Ab
set_option maxRecDepth 100000
theorem nn9' {p : Nat → Bool} : ∀ m i : Nat, (∀ k, i ≤ k → k < i + m → p k = true) → allN p m i = true
  | 0, _, _ => rfl
  | m + 1, i, h => by
    simp only [allN]
    rw [h i (Nat.le_refl _) (by omega), Bool.true_and]
    exact nn9' m (i + 1) fun k h1 h2 => h k (by omega) (by omega)
theorem ltD (a b : Int) : decide (a < b) = !decide (b ≤ a) := by
  by_cases h : a < b
  · rw [decide_eq_true h, decide_eq_false (show ¬ b ≤ a by omega)]; rfl
  · rw [decide_eq_false h, decide_eq_true (show b ≤ a by omega)]; rfl
theorem leD (a b : Int) : decide (a ≤ b) = !decide (b < a) := by rw [ltD b a, Bool.not_not]
def nkc' (xs : List Int) : Bool := xs.all (inR 0 1000000)
theorem nwt' (n : Int) : nfe' n = some ((!inR 0 1000000 n, ()), ()) := by
  unfold nfe' inR
  rw [ltD n 0, ltD 1000000 n]
  cases decide (0 ≤ n) <;> cases decide (n ≤ 1000000) <;> rfl
theorem nkm' {xs : List Int} (hl : xs.length ≤ 1000000) : ner' xs = some ((nkc' xs, ()), ()) := by
  have key : ∀ (k i : Nat), i + k = xs.length → ∃ y, iter (fun x => nv' x.1.1 x.1.2.2.1 x.1.2.2.2.1) (k + 1) ((xs, (), (xs.length : Int), (i : Int), ()), ()) = some y ∧ (match y with | .inl _ => (xs.drop i).all (inR 0 1000000) = true | .inr z => 0 ≤ z.1.1 ∧ (xs.drop i).all (inR 0 1000000) = false) := by
    intro k
    induction k with
    | zero =>
      intro i hi
      refine ⟨.inl ((), ()), nba' ?_, ?_⟩
      · show nv' xs (xs.length : Int) (i : Int) = _
        unfold nv'
        rw [decide_eq_false (show ¬ (i : Int) < (xs.length : Int) by omega)]; rfl
      · rw [show i = xs.length by omega, List.drop_length]; rfl
    | succ k ih =>
      intro i hi
      have hi' : i < xs.length := by omega
      have hs : nv' xs (xs.length : Int) (i : Int) = some (bif inR 0 1000000 (xs.getD i 0) then .inl ((xs, (), (xs.length : Int), ((i + 1 : Nat) : Int), ()), ()) else .inr (.inr (((i : Int), ()), ()))) := by
        unfold nv'
        rw [decide_eq_true (show (i : Int) < (xs.length : Int) by omega), nc' (by omega) (by omega), nwt', wrap1 hi' (show xs.length ≤ nl' by unfold nl'; omega)]
        simp only [cond_true, Int.toNat_natCast, Option.bind_some]
        cases inR 0 1000000 (xs.getD i 0) <;> rfl
      rw [nc3' (0 : Int) hi', List.all_cons]
      cases hq : inR 0 1000000 (xs.getD i 0) with
      | true =>
        rw [hq] at hs
        obtain ⟨y, h1, h2⟩ := ih (i + 1) (by omega)
        exact ⟨y, (ncb' hs).trans h1, by rw [Bool.true_and]; exact h2⟩
      | false =>
        rw [hq] at hs
        exact ⟨_, nba' hs, by show (0 : Int) ≤ (i : Int) ∧ _; exact ⟨by omega, rfl⟩⟩
  obtain ⟨y, h1, h2⟩ := key xs.length 0 (by omega)
  have h1' : nbk' ((xs, (), (xs.length : Int), (0 : Int), ()), ()) = some y := nf' h1 (by omega)
  rw [List.drop_zero] at h2
  unfold ner' nbz' ncc' nkc'
  rw [h1']
  cases y with
  | inl z => simp only at h2; rw [h2]; rfl
  | inr z =>
    simp only at h2
    rw [h2.2]
    simp only [Option.bind_some]
    rw [decide_eq_true h2.1]; rfl
def cntL (x : Debounced) : List Int := [x.Count_0, x.Count_1, x.Count_2, x.Count_3, x.Count_4, x.Count_5, x.Count_6, x.Count_7, x.Count_8, x.Count_9, x.Count_10, x.Count_11, x.Count_12, x.Count_13, x.Count_14, x.Count_15, x.Count_16, x.Count_17, x.Count_18, x.Count_19, x.Count_20, x.Count_21, x.Count_22, x.Count_23, x.Count_24, x.Count_25, x.Count_26, x.Count_27, x.Count_28, x.Count_29, x.Count_30, x.Count_31, x.Count_32, x.Count_33, x.Count_34, x.Count_35]
def cntP (n : Int) (x : Debounced) (i : Nat) : Bool := decide (0 ≤ (cntL x).getD i 0) && decide ((cntL x).getD i 0 < n)
def conOK (n : Int) (x : Debounced) : Bool := decide (1 ≤ n) && (decide (n ≤ 16) && allN (cntP n x) 36 0)
theorem noa' (n : Int) (x : Debounced) : nfn' n x.Contacts_Floors x.Contacts_Up x.Contacts_Down x.Contacts_Open x.Contacts_Closed x.Count_0 x.Count_1 x.Count_2 x.Count_3 x.Count_4 x.Count_5 x.Count_6 x.Count_7 x.Count_8 x.Count_9 x.Count_10 x.Count_11 x.Count_12 x.Count_13 x.Count_14 x.Count_15 x.Count_16 x.Count_17 x.Count_18 x.Count_19 x.Count_20 x.Count_21 x.Count_22 x.Count_23 x.Count_24 x.Count_25 x.Count_26 x.Count_27 x.Count_28 x.Count_29 x.Count_30 x.Count_31 x.Count_32 x.Count_33 x.Count_34 x.Count_35 = some ((conOK n x, ()), ()) := by
  have h := nf' (nb6' (step := fun x => nc7' x.1.1 x.1.2.1.1 x.1.2.1.2.1 x.1.2.1.2.2.1 x.1.2.1.2.2.2.1 x.1.2.1.2.2.2.2.1 x.1.2.1.2.2.2.2.2.1 x.1.2.1.2.2.2.2.2.2.1 x.1.2.1.2.2.2.2.2.2.2.1 x.1.2.1.2.2.2.2.2.2.2.2.1 x.1.2.1.2.2.2.2.2.2.2.2.2.1 x.1.2.1.2.2.2.2.2.2.2.2.2.2.1 x.1.2.1.2.2.2.2.2.2.2.2.2.2.2.1 x.1.2.1.2.2.2.2.2.2.2.2.2.2.2.2.1 x.1.2.1.2.2.2.2.2.2.2.2.2.2.2.2.2.1 x.1.2.1.2.2.2.2.2.2.2.2.2.2.2.2.2.2.1 x.1.2.1.2.2.2.2.2.2.2.2.2.2.2.2.2.2.2.1 x.1.2.1.2.2.2.2.2.2.2.2.2.2.2.2.2.2.2.2.1 x.1.2.1.2.2.2.2.2.2.2.2.2.2.2.2.2.2.2.2.2.1 x.1.2.1.2.2.2.2.2.2.2.2.2.2.2.2.2.2.2.2.2.2.1 x.1.2.1.2.2.2.2.2.2.2.2.2.2.2.2.2.2.2.2.2.2.2.1 x.1.2.1.2.2.2.2.2.2.2.2.2.2.2.2.2.2.2.2.2.2.2.2.1 x.1.2.1.2.2.2.2.2.2.2.2.2.2.2.2.2.2.2.2.2.2.2.2.2.1 x.1.2.1.2.2.2.2.2.2.2.2.2.2.2.2.2.2.2.2.2.2.2.2.2.2.1 x.1.2.1.2.2.2.2.2.2.2.2.2.2.2.2.2.2.2.2.2.2.2.2.2.2.2.1 x.1.2.1.2.2.2.2.2.2.2.2.2.2.2.2.2.2.2.2.2.2.2.2.2.2.2.2.1 x.1.2.1.2.2.2.2.2.2.2.2.2.2.2.2.2.2.2.2.2.2.2.2.2.2.2.2.2.1 x.1.2.1.2.2.2.2.2.2.2.2.2.2.2.2.2.2.2.2.2.2.2.2.2.2.2.2.2.2.1 x.1.2.1.2.2.2.2.2.2.2.2.2.2.2.2.2.2.2.2.2.2.2.2.2.2.2.2.2.2.2.1 x.1.2.1.2.2.2.2.2.2.2.2.2.2.2.2.2.2.2.2.2.2.2.2.2.2.2.2.2.2.2.2.1 x.1.2.1.2.2.2.2.2.2.2.2.2.2.2.2.2.2.2.2.2.2.2.2.2.2.2.2.2.2.2.2.2.1 x.1.2.1.2.2.2.2.2.2.2.2.2.2.2.2.2.2.2.2.2.2.2.2.2.2.2.2.2.2.2.2.2.2.1 x.1.2.1.2.2.2.2.2.2.2.2.2.2.2.2.2.2.2.2.2.2.2.2.2.2.2.2.2.2.2.2.2.2.2.1 x.1.2.1.2.2.2.2.2.2.2.2.2.2.2.2.2.2.2.2.2.2.2.2.2.2.2.2.2.2.2.2.2.2.2.2.1 x.1.2.1.2.2.2.2.2.2.2.2.2.2.2.2.2.2.2.2.2.2.2.2.2.2.2.2.2.2.2.2.2.2.2.2.2.1 x.1.2.1.2.2.2.2.2.2.2.2.2.2.2.2.2.2.2.2.2.2.2.2.2.2.2.2.2.2.2.2.2.2.2.2.2.2.1 x.1.2.1.2.2.2.2.2.2.2.2.2.2.2.2.2.2.2.2.2.2.2.2.2.2.2.2.2.2.2.2.2.2.2.2.2.2.2.1 x.1.2.2.1) 36 (fun i => ((n, (x.Count_0, x.Count_1, x.Count_2, x.Count_3, x.Count_4, x.Count_5, x.Count_6, x.Count_7, x.Count_8, x.Count_9, x.Count_10, x.Count_11, x.Count_12, x.Count_13, x.Count_14, x.Count_15, x.Count_16, x.Count_17, x.Count_18, x.Count_19, x.Count_20, x.Count_21, x.Count_22, x.Count_23, x.Count_24, x.Count_25, x.Count_26, x.Count_27, x.Count_28, x.Count_29, x.Count_30, x.Count_31, x.Count_32, x.Count_33, x.Count_34, x.Count_35, ()), (i : Int), ()), ())) (cntP n x) (Sum.inl ((), ())) (Sum.inr ((false, ()), ())) (fun i hi => by
    show nc7' n x.Count_0 x.Count_1 x.Count_2 x.Count_3 x.Count_4 x.Count_5 x.Count_6 x.Count_7 x.Count_8 x.Count_9 x.Count_10 x.Count_11 x.Count_12 x.Count_13 x.Count_14 x.Count_15 x.Count_16 x.Count_17 x.Count_18 x.Count_19 x.Count_20 x.Count_21 x.Count_22 x.Count_23 x.Count_24 x.Count_25 x.Count_26 x.Count_27 x.Count_28 x.Count_29 x.Count_30 x.Count_31 x.Count_32 x.Count_33 x.Count_34 x.Count_35 (i : Int) = _
    unfold nc7'
    simp only [decide_eq_true (show (i : Int) < 36 by omega), nc' (show (0 : Int) ≤ (i : Int) by omega) (show (i : Int) < ((36 : Nat) : Int) by omega), cond_true, Int.toNat_natCast, wrap1 hi (show 36 ≤ nl' by decide)]
    show (bif decide ((cntL x).getD i 0 < 0) then _ else bif decide (n ≤ (cntL x).getD i 0) then _ else _) = some (bif (decide (0 ≤ (cntL x).getD i 0) && decide ((cntL x).getD i 0 < n)) then _ else _)
    rw [ltD ((cntL x).getD i 0) 0, leD n ((cntL x).getD i 0)]
    cases decide (0 ≤ (cntL x).getD i 0) <;> cases decide ((cntL x).getD i 0 < n) <;> rfl) (by
    show nc7' n x.Count_0 x.Count_1 x.Count_2 x.Count_3 x.Count_4 x.Count_5 x.Count_6 x.Count_7 x.Count_8 x.Count_9 x.Count_10 x.Count_11 x.Count_12 x.Count_13 x.Count_14 x.Count_15 x.Count_16 x.Count_17 x.Count_18 x.Count_19 x.Count_20 x.Count_21 x.Count_22 x.Count_23 x.Count_24 x.Count_25 x.Count_26 x.Count_27 x.Count_28 x.Count_29 x.Count_30 x.Count_31 x.Count_32 x.Count_33 x.Count_34 x.Count_35 (36 : Int) = _
    unfold nc7'
    simp only [show decide ((36 : Int) < 36) = false from rfl, cond_false]) 36 0 (by omega)) (by omega)
  have h' : net' ((n, (x.Count_0, x.Count_1, x.Count_2, x.Count_3, x.Count_4, x.Count_5, x.Count_6, x.Count_7, x.Count_8, x.Count_9, x.Count_10, x.Count_11, x.Count_12, x.Count_13, x.Count_14, x.Count_15, x.Count_16, x.Count_17, x.Count_18, x.Count_19, x.Count_20, x.Count_21, x.Count_22, x.Count_23, x.Count_24, x.Count_25, x.Count_26, x.Count_27, x.Count_28, x.Count_29, x.Count_30, x.Count_31, x.Count_32, x.Count_33, x.Count_34, x.Count_35, ()), (0 : Int), ()), ()) = _ := h
  unfold nfn' conOK
  rw [ltD n 1, ltD 16 n]
  cases decide (1 ≤ n) with
  | false => rfl
  | true =>
    cases decide (n ≤ 16) with
    | false => rfl
    | true =>
      simp only [Bool.not_true, cond_false, Bool.true_and, h']
      cases allN (cntP n x) 36 0 <;> rfl
def lessD (a b : Duty) : Bool := decide (a.Floor < b.Floor) || (a.Floor == b.Floor && decide (a.Dir < b.Dir))
theorem npl' (a b : Duty) : ∃ n : Int, ngg' a.Floor a.Dir a.Age b.Floor b.Dir b.Age = some ((n, ()), ()) ∧ decide (0 ≤ n) = !lessD a b := by
  unfold ngg'
  rw [nhs', nhs']
  simp only [Option.bind_some]
  rw [ntm']
  refine ⟨_, rfl, ?_⟩
  unfold lessD cmpI
  by_cases h1 : a.Floor < b.Floor
  · rw [decide_eq_true h1]; rfl
  · rw [decide_eq_false h1]
    by_cases h2 : b.Floor < a.Floor
    · rw [decide_eq_true h2, beq_f (show ¬ a.Floor = b.Floor by omega)]; rfl
    · rw [decide_eq_false h2, show (a.Floor == b.Floor) = true by simp; omega]
      by_cases h3 : a.Dir < b.Dir
      · rw [decide_eq_true h3]; rfl
      · rw [decide_eq_false h3]
        cases decide (b.Dir < a.Dir) <;> rfl
theorem nlt' (n lo hi : Int) : ncu' n lo hi = some ((inR lo hi n, ()), ()) := by
  unfold ncu' inR
  cases decide (lo ≤ n) <;> rfl
def dutO (x : Belief) (i : Nat) : Bool := i == 0 || lessD (x.Duties.getD (i - 1) ndc') (x.Duties.getD i ndc')
def dutP (b : Bldg) (car : Nat) (x : Belief) (i : Nat) : Bool := nbj' b (x.Duties.getD i ndc').Floor (x.Duties.getD i ndc').Dir && (inR 0 (carAt b car).Deadline (x.Duties.getD i ndc').Age && dutO x i)
def belOK (b : Bldg) (car : Nat) (x : Belief) : Bool := inR (-1) (b.Floors - 1) x.Floor && (inR 0 3 x.Dir && (inR 0 3 x.Door && (inR 0 1000000 x.Still && (!(x.Late && decide ((0 : Int) < (x.Duties.length : Int))) && allN (dutP b car x) x.Duties.length 0))))
theorem npm' {b : Bldg} (hb : b.small) (hcode : b.code = 0) {car : Nat} (hcar : car < b.Cars.length) (x : Belief) (hx : x.Duties.length ≤ 100000) : ngi' b.Floors b.Debounce b.Room b.Park b.Empty b.Full b.Over b.Cars (car : Int) x.Floor x.Dir x.Door x.Duties x.Still x.Late = some ((belOK b car x, ()), ()) := by
  have lo := hb.lo
  have hi8 := hb.hi
  have hcc := nco' hcode
  have h5 : 100000 ≤ nl' := by decide
  have h := nf' (nb6' (step := fun x => ndb' x.1.1 x.1.2.2.2.1 x.1.2.2.2.2.1 x.1.2.2.2.2.2.1 x.2.1.1 x.2.1.2.1 x.2.1.2.2.1 x.2.1.2.2.2.1 x.2.1.2.2.2.2.1 x.2.1.2.2.2.2.2.1 x.2.1.2.2.2.2.2.2.1 x.2.1.2.2.2.2.2.2.2.1 x.2.2.1.1 x.2.2.1.2.1 x.2.2.1.2.2.1 x.2.2.1.2.2.2.1 x.2.2.1.2.2.2.2.1 x.2.2.1.2.2.2.2.2.1) x.Duties.length (fun i => (((car : Int), (), (), x.Duties, (x.Duties.length : Int), (i : Int), ()), (b.tup, (x.Floor, x.Dir, x.Door, x.Duties, x.Still, x.Late, ()), ()))) (dutP b car x) (Sum.inl ((), ())) (Sum.inr ((false, ()), ())) (fun i hi => by
    show ndb' (car : Int) x.Duties (x.Duties.length : Int) (i : Int) b.Floors b.Debounce b.Room b.Park b.Empty b.Full b.Over b.Cars x.Floor x.Dir x.Door x.Duties x.Still x.Late = _
    unfold ndb'
    simp only [decide_eq_true (show (i : Int) < (x.Duties.length : Int) by omega), nc' (show (0 : Int) ≤ (i : Int) by omega) (show (i : Int) < (x.Duties.length : Int) by omega), nc' (show (0 : Int) ≤ (car : Int) by omega) (show (car : Int) < (b.Cars.length : Int) by omega), cond_true, Int.toNat_natCast, nhh' hb, nlt', Option.bind_some]
    rw [show Duty.mk 0 0 0 = ndc' from rfl, show Car.mk 0 0 0 0 0 0 0 0 0 = ⟨0, 0, 0, 0, 0, 0, 0, 0, 0⟩ from rfl]
    rw [show b.Cars.getD car ⟨0, 0, 0, 0, 0, 0, 0, 0, 0⟩ = carAt b car from rfl]
    unfold dutP dutO
    cases nbj' b (x.Duties.getD i ndc').Floor (x.Duties.getD i ndc').Dir with
    | false => rfl
    | true =>
    cases inR 0 (carAt b car).Deadline (x.Duties.getD i ndc').Age with
    | false => rfl
    | true =>
      simp only [Bool.not_true, cond_false, Bool.true_and]
      by_cases i0 : i = 0
      · subst i0
        simp only [show decide ((0 : Int) < ((0 : Nat) : Int)) = false from rfl, cond_false, Option.bind_some, wrap1 hi (show x.Duties.length ≤ nl' by omega)]
        rfl
      · rw [decide_eq_true (show (0 : Int) < (i : Int) by omega), show (i == 0) = false by simpa using i0]
        simp only [cond_true, Bool.false_or, nb' (n := (i : Int) - 1) (by omega) (by omega), nc' (show (0 : Int) ≤ (i : Int) - 1 by omega) (show (i : Int) - 1 < (x.Duties.length : Int) by omega)]
        obtain ⟨n, e1, e2⟩ := npl' (x.Duties.getD (i - 1) ndc') (x.Duties.getD i ndc')
        rw [show Int.toNat ((i : Int) - 1) = i - 1 by omega]
        rw [e1]
        simp only [Option.bind_some, e2, wrap1 hi (show x.Duties.length ≤ nl' by omega)]
        cases lessD (x.Duties.getD (i - 1) ndc') (x.Duties.getD i ndc') <;> rfl) (by
    show ndb' (car : Int) x.Duties (x.Duties.length : Int) (x.Duties.length : Int) b.Floors b.Debounce b.Room b.Park b.Empty b.Full b.Over b.Cars x.Floor x.Dir x.Door x.Duties x.Still x.Late = _
    unfold ndb'
    simp only [decide_eq_false (Int.lt_irrefl (x.Duties.length : Int)), cond_false]) x.Duties.length 0 (by omega)) (by omega)
  have h' : nfg' (((car : Int), (), (), x.Duties, (x.Duties.length : Int), (0 : Int), ()), (b.tup, (x.Floor, x.Dir, x.Door, x.Duties, x.Still, x.Late, ()), ())) = _ := h
  simp only [Bldg.tup] at h'
  unfold ngi' belOK
  rw [ncj', hcode]
  simp only [nlt', Option.bind_some, bne_self_eq_false, cond_false, nb' (n := (b.Cars.length : Int) - 1) (by omega) (by omega), nb' (n := b.Floors - 1) (by omega) (by omega), show inR 0 ((b.Cars.length : Int) - 1) (car : Int) = true from nu'.2 ⟨by omega, by omega⟩, Bool.not_true]
  cases inR (-1) (b.Floors - 1) x.Floor with
  | false => rfl
  | true =>
  cases inR 0 3 x.Dir with
  | false => rfl
  | true =>
  cases inR 0 3 x.Door with
  | false => rfl
  | true =>
  cases inR 0 1000000 x.Still with
  | false => rfl
  | true =>
    simp only [Bool.not_true, cond_false, Bool.true_and]
    cases hL : x.Late with
    | false =>
      rw [hL] at h'
      simp only [cond_false, Option.bind_some, Bool.false_and, Bool.not_false, Bool.true_and, h']
      cases allN (dutP b car x) x.Duties.length 0 <;> rfl
    | true =>
      rw [hL] at h'
      cases hD : decide ((0 : Int) < (x.Duties.length : Int)) with
      | true => simp only [cond_true, Option.bind_some]; rfl
      | false =>
        simp only [cond_true, cond_false, Option.bind_some, Bool.and_false, Bool.not_false, Bool.true_and, h']
        cases allN (dutP b car x) x.Duties.length 0 <;> rfl
def nla' (x : NewCar) : Bool := inR 0 2 x.Sweep_Dir && inR 0 7 x.Sweep_Opened
def doorZ (x : NewCar) : Bool := (x.Door_Stage == 0) && ((x.Door_Time == 0) && ((x.Door_Since == 0) && ((x.Door_Nudge == false) && ((x.Door_Cycles == 0) && true))))
def nmt' (x : NewCar) : Bool := bif x.Door_Stage == 0 then doorZ x else inR 0 3 x.Door_Stage && (inR 0 1000000 x.Door_Time && (inR 0 1000000 x.Door_Since && inR 0 1000000 x.Door_Cycles))
def motZ (x : NewCar) : Bool := (x.Motion_Command == 0) && ((x.Motion_Time == 0) && ((x.Motion_Floor == 0) && true))
def motOK (fl : Int) (x : NewCar) : Bool := inR 0 1000000 x.Motion_Time && (bif x.Motion_Command == 0 then x.Motion_Floor == 0 else bif x.Motion_Command == 1 then inR 0 (fl - 1) x.Motion_Floor && inR 0 (fl - 1) (x.Motion_Floor + 1) else bif x.Motion_Command == 2 then inR 0 (fl - 1) x.Motion_Floor && inR 0 (fl - 1) (x.Motion_Floor - 1) else false)
def carZ (x : NewCar) : Bool := (x.Sweep_Dir == 0) && ((x.Sweep_Opened == 0) && ((x.Door_Stage == 0) && ((x.Door_Time == 0) && ((x.Door_Since == 0) && ((x.Door_Nudge == false) && ((x.Door_Cycles == 0) && ((x.Motion_Command == 0) && ((x.Motion_Time == 0) && ((x.Motion_Floor == 0) && ((x.Calls == 0) && ((x.Shown == 0) && ((x.Idle == 0) && ((x.Fault == true) && true)))))))))))))
def nr0' (fl : Int) (x : NewCar) : Bool := (Int.fdiv x.Calls ((2 : Int) ^ (Int.toNat fl)) == 0) && (inR 0 2 x.Shown && inR 0 1000000 x.Idle)
def nk4' (fl : Int) (x : NewCar) : Bool := nla' x && (nmt' x && (motOK fl x && ((doorZ x || motZ x) && nr0' fl x)))
def newOK (b : Bldg) (x : NewCar) : Bool := bif x.Fault then carZ x else nk4' b.Floors x
theorem niq' (x : NewCar) : ned' x.Sweep_Dir x.Sweep_Opened = some ((nla' x, ()), ()) := by
  unfold ned' nla' inR
  cases decide (0 ≤ x.Sweep_Dir) <;> cases decide (x.Sweep_Dir ≤ 2) <;> cases decide (0 ≤ x.Sweep_Opened) <;> rfl
theorem nr3' (n : Int) : neh' n = some ((inR 0 1000000 n, ()), ()) := by
  unfold neh' inR
  cases decide (0 ≤ n) <;> rfl
theorem nly' (x : NewCar) : nhu' x.Door_Stage x.Door_Time x.Door_Since x.Door_Nudge x.Door_Cycles = some ((nmt' x, ()), ()) := by
  unfold nhu' nmt' doorZ
  simp only [nr3', Option.bind_some]
  cases x.Door_Stage == 0 with
  | true => rfl
  | false =>
    unfold inR
    cases decide (0 ≤ x.Door_Stage) <;> cases decide (x.Door_Stage ≤ 3) <;> cases (decide (0 ≤ x.Door_Time) && decide (x.Door_Time ≤ 1000000)) <;> cases (decide (0 ≤ x.Door_Since) && decide (x.Door_Since ≤ 1000000)) <;> rfl
theorem nkn' {fl : Int} (h : 2 ≤ fl ∧ fl ≤ 8) (x : NewCar) : ngj' fl x.Motion_Command x.Motion_Time x.Motion_Floor = some ((motOK fl x, ()), ()) := by
  unfold ngj' motOK
  rw [decide_eq_false (show ¬ fl < 2 by omega), decide_eq_false (show ¬ 32 < fl by omega)]
  simp only [cond_false]
  by_cases t : 0 ≤ x.Motion_Time ∧ x.Motion_Time ≤ 1000000
  · rw [decide_eq_false (show ¬ x.Motion_Time < 0 by omega), decide_eq_false (show ¬ 1000000 < x.Motion_Time by omega), show inR 0 1000000 x.Motion_Time = true from nu'.2 t]
    simp only [cond_false, Bool.true_and]
    by_cases f : 0 ≤ x.Motion_Floor ∧ x.Motion_Floor < fl
    · rw [decide_eq_false (show ¬ x.Motion_Floor < 0 by omega), decide_eq_false (show ¬ fl ≤ x.Motion_Floor by omega), show inR 0 (fl - 1) x.Motion_Floor = true from nu'.2 ⟨f.1, by omega⟩]
      simp only [cond_false, Bool.true_and]
      by_cases c0 : x.Motion_Command = 0
      · rw [c0]; rfl
      · rw [beq_f c0]
        simp only [cond_false]
        unfold nis'
        by_cases c1 : x.Motion_Command = 1
        · rw [c1]
          simp only [bne_self_eq_false, cond_false, Option.bind_some, show inB 1 3 = true from rfl, cond_true, beq_self_eq_true]
          rw [show List.getD [(0 : Int), 1, -1] (Int.toNat 1) 0 = 1 from rfl, nb' (by omega) (by omega)]
          unfold inR
          by_cases z : x.Motion_Floor + 1 < fl
          · rw [decide_eq_true z, decide_eq_true (show 0 ≤ x.Motion_Floor + 1 by omega), decide_eq_true (show x.Motion_Floor + 1 ≤ fl - 1 by omega)]; rfl
          · rw [decide_eq_false z, decide_eq_true (show 0 ≤ x.Motion_Floor + 1 by omega), decide_eq_false (show ¬ x.Motion_Floor + 1 ≤ fl - 1 by omega)]; rfl
        · rw [bne_t c1, beq_f c1]
          simp only [cond_true, cond_false]
          by_cases c2 : x.Motion_Command = 2
          · rw [c2]
            simp only [bne_self_eq_false, cond_false, Option.bind_some, show inB 2 3 = true from rfl, cond_true, beq_self_eq_true]
            rw [show List.getD [(0 : Int), 1, -1] (Int.toNat 2) 0 = -1 from rfl, nb' (by omega) (by omega), show x.Motion_Floor + -1 = x.Motion_Floor - 1 by omega]
            unfold inR
            by_cases z : 0 ≤ x.Motion_Floor - 1
            · rw [decide_eq_true z, decide_eq_true (show x.Motion_Floor - 1 < fl by omega), decide_eq_true (show x.Motion_Floor - 1 ≤ fl - 1 by omega)]; rfl
            · rw [decide_eq_false z]; rfl
          · rw [bne_t c2, beq_f c2]
            rfl
    · have hf : inR 0 (fl - 1) x.Motion_Floor = false := by
        cases hq : inR 0 (fl - 1) x.Motion_Floor with
        | false => rfl
        | true => have := nu'.1 hq; omega
      rw [hf]
      have hz : (x.Motion_Floor == 0) = false := beq_f (by omega)
      rw [hz]
      simp only [Bool.false_and]
      have e : (bif x.Motion_Command == 0 then false else bif x.Motion_Command == 1 then false else bif x.Motion_Command == 2 then false else false) = false := by
        cases x.Motion_Command == 0 <;> cases x.Motion_Command == 1 <;> cases x.Motion_Command == 2 <;> rfl
      rw [e]
      by_cases z : x.Motion_Floor < 0
      · rw [decide_eq_true z]; rfl
      · rw [decide_eq_false z, decide_eq_true (show fl ≤ x.Motion_Floor by omega)]; rfl
  · have hf : inR 0 1000000 x.Motion_Time = false := by
      cases hq : inR 0 1000000 x.Motion_Time with
      | false => rfl
      | true => exact absurd (nu'.1 hq) t
    rw [hf]
    simp only [Bool.false_and]
    by_cases z : x.Motion_Time < 0
    · rw [decide_eq_true z]; rfl
    · rw [decide_eq_false z, decide_eq_true (show 1000000 < x.Motion_Time by omega)]; rfl
theorem npj' {b : Bldg} (hb : b.small) (hcode : b.code = 0) (x : NewCar) : ngh' b.Floors b.Debounce b.Room b.Park b.Empty b.Full b.Over b.Cars x.Sweep_Dir x.Sweep_Opened x.Door_Stage x.Door_Time x.Door_Since x.Door_Nudge x.Door_Cycles x.Motion_Command x.Motion_Time x.Motion_Floor x.Calls x.Shown x.Idle x.Fault = some ((newOK b x, ()), ()) := by
  have lo := hb.lo
  have hi8 := hb.hi
  have hmin : Min.min (Int.toNat b.Floors) (IntKind.bits IntKind.u32) = Int.toNat b.Floors := Nat.min_eq_left (by show _ ≤ 32; omega)
  unfold ngh' newOK
  rw [ncj', hcode]
  simp only [Option.bind_some, bne_self_eq_false, cond_false]
  have main : nk4' b.Floors x = nk4' b.Floors x := rfl
  cases hF : x.Fault with
  | true =>
    have hZ : carZ x = ((x.Sweep_Dir == 0) && ((x.Sweep_Opened == 0) && ((x.Door_Stage == 0) && ((x.Door_Time == 0) && ((x.Door_Since == 0) && ((x.Door_Nudge == false) && ((x.Door_Cycles == 0) && ((x.Motion_Command == 0) && ((x.Motion_Time == 0) && ((x.Motion_Floor == 0) && ((x.Calls == 0) && ((x.Shown == 0) && ((x.Idle == 0) && ((true == true) && true)))))))))))))) := by unfold carZ; rw [hF]
    rw [cond_true, ← hZ]
    cases hq : carZ x with
    | false => rfl
    | true =>
      have hq' := hq
      unfold carZ at hq'
      simp only [Bool.and_eq_true, beq_iff_eq] at hq'
      obtain ⟨e1, e2, e3, e4, e5, e6, e7, e8, e9, e10, e11, e12, e13, _⟩ := hq'
      simp only [Bool.not_true, Option.bind_some, cond_false, cond_true, niq', nly', nkn' ⟨lo, hi8⟩]
      have s1 : nla' x = true := by unfold nla'; rw [e1, e2]; rfl
      have s2 : nmt' x = true := by unfold nmt' doorZ; rw [e3, e4, e5, e6, e7]; rfl
      have s3 : motOK b.Floors x = true := by unfold motOK; rw [e8, e9, e10]; rfl
      rw [s1, s2, s3, e3, e4, e5, e6, e7, e11, e12, e13]
      simp only [beq_self_eq_true, Bool.and_true, Bool.not_true, cond_false, Option.bind_some]
      rw [decide_eq_true (show 0 ≤ b.Floors by omega), hmin]
      simp only [cond_true]
      rw [show Int.fdiv 0 ((2 : Int) ^ Int.toNat b.Floors) = 0 from Int.zero_fdiv _]
      rfl
  | false =>
    simp only [Option.bind_some, cond_false, niq', nly', nkn' ⟨lo, hi8⟩]
    unfold nk4'
    cases nla' x with
    | false => rfl
    | true =>
    cases nmt' x with
    | false => rfl
    | true =>
    cases motOK b.Floors x with
    | false => rfl
    | true =>
      simp only [Bool.not_true, cond_false, Bool.true_and]
      rw [show ((x.Door_Stage == 0) && ((x.Door_Time == 0) && ((x.Door_Since == 0) && ((x.Door_Nudge == false) && ((x.Door_Cycles == 0) && true))))) = doorZ x from rfl, show ((x.Motion_Command == 0) && ((x.Motion_Time == 0) && ((x.Motion_Floor == 0) && true))) = motZ x from rfl]
      have fin : (bif decide (0 ≤ b.Floors) then bif (Int.fdiv x.Calls ((2 : Int) ^ (Int.toNat b.Floors)) == 0) then bif decide (0 ≤ x.Shown) then bif decide (x.Shown ≤ 2) then bif decide (0 ≤ x.Idle) then some ((decide (x.Idle ≤ 1000000), ()), ()) else some ((false, ()), ()) else some ((false, ()), ()) else some ((false, ()), ()) else some ((false, ()), ()) else none) = some ((nr0' b.Floors x, ()), ()) := by
        rw [decide_eq_true (show 0 ≤ b.Floors by omega)]
        unfold nr0' inR
        cases Int.fdiv x.Calls ((2 : Int) ^ (Int.toNat b.Floors)) == 0 <;> cases decide (0 ≤ x.Shown) <;> cases decide (x.Shown ≤ 2) <;> cases decide (0 ≤ x.Idle) <;> rfl
      cases doorZ x with
      | true =>
        simp only [Bool.not_true, cond_false, Option.bind_some, Bool.true_or, Bool.true_and]
        rw [hmin, fin]; rfl
      | false =>
        cases motZ x with
        | true =>
          simp only [Bool.not_true, Bool.not_false, cond_true, cond_false, Option.bind_some, Bool.false_or, Bool.true_and]
          rw [hmin, fin]; rfl
        | false => rfl
def eachN {α : Type} (p : Nat → α → Bool) (d : α) (l : List α) (n : Int) : Bool := ((l.length : Int) == n) && allN (fun i => p i (l.getD i d)) l.length 0
def nkg' (x : Loaded) : Bool := inR 0 4 x.Class
theorem npp' {b : Bldg} (hb : b.small) (hcode : b.code = 0) {l : List Debounced} (_hl : l.length ≤ 100000) : n6' l (b.Cars.length : Int) b.Floors b.Debounce b.Room b.Park b.Empty b.Full b.Over b.Cars = some ((eachN (fun _ x => conOK b.Debounce x) nbe' l (b.Cars.length : Int), ()), (b.tup, ())) := by
  have h5 : 100000 ≤ nl' := by decide
  have lo := hb.lo
  have hcc := nco' hcode
  unfold n6' eachN
  by_cases hn : l.length = b.Cars.length
  · have h := nf' (nb6' (step := fun x => nk' x.1.2.1 x.1.2.2.1 x.1.2.2.2.1 x.2.1.1 x.2.1.2.1 x.2.1.2.2.1 x.2.1.2.2.2.1 x.2.1.2.2.2.2.1 x.2.1.2.2.2.2.2.1 x.2.1.2.2.2.2.2.2.1 x.2.1.2.2.2.2.2.2.2.1) l.length (fun i => (((), l, (l.length : Int), (i : Int), ()), (b.tup, ()))) (fun i => (fun _ x => conOK b.Debounce x) i (l.getD i nbe')) (Sum.inl ((), (b.tup, ()))) (Sum.inr ((false, ()), (b.tup, ()))) (fun i hi => by
      show nk' l (l.length : Int) (i : Int) b.Floors b.Debounce b.Room b.Park b.Empty b.Full b.Over b.Cars = _
      unfold nk' ndy'
      simp only [decide_eq_true (show (i : Int) < (l.length : Int) by omega), nc' (show (0 : Int) ≤ (i : Int) by omega) (show (i : Int) < (l.length : Int) by omega), cond_true, Int.toNat_natCast, wrap1 hi (show l.length ≤ nl' by omega)]
      rw [show Debounced.mk 0 false false false false 0 0 0 0 0 0 0 0 0 0 0 0 0 0 0 0 0 0 0 0 0 0 0 0 0 0 0 0 0 0 0 0 0 0 0 0 = nbe' from rfl]
      rw [noa' b.Debounce (l.getD i nbe')]
      simp only [Option.bind_some]
      generalize conOK b.Debounce (l.getD i nbe') = q
      cases q <;> rfl) (by
      show nk' l (l.length : Int) (l.length : Int) b.Floors b.Debounce b.Room b.Park b.Empty b.Full b.Over b.Cars = _
      unfold nk'
      simp only [decide_eq_false (Int.lt_irrefl (l.length : Int)), cond_false]; rfl) l.length 0 (by omega)) (by omega)
    have h' : n4' (((), l, (l.length : Int), (0 : Int), ()), (b.tup, ())) = _ := h
    simp only [Bldg.tup] at h'
    rw [show ((l.length : Int) != (b.Cars.length : Int)) = false by rw [hn, bne_self_eq_false], show ((l.length : Int) == (b.Cars.length : Int)) = true by rw [hn]; exact beq_self_eq_true _]
    simp only [cond_false, Bool.true_and, h']
    generalize allN (fun i => (fun _ x => conOK b.Debounce x) i (l.getD i nbe')) l.length 0 = q
    cases q <;> rfl
  · rw [show ((l.length : Int) != (b.Cars.length : Int)) = true from bne_t (by omega), beq_f (show ¬ (l.length : Int) = (b.Cars.length : Int) by omega)]
    rfl
theorem nsk' {b : Bldg} (hb : b.small) (hcode : b.code = 0) {l : List Belief} (_hl : l.length ≤ 100000) (hd : ∀ x ∈ l, x.Duties.length ≤ 100000) : nbf' l (b.Cars.length : Int) b.Floors b.Debounce b.Room b.Park b.Empty b.Full b.Over b.Cars = some ((eachN (fun i x => belOK b i x) (Belief.mk 0 0 0 [] 0 false) l (b.Cars.length : Int), ()), (b.tup, ())) := by
  have h5 : 100000 ≤ nl' := by decide
  have lo := hb.lo
  have hcc := nco' hcode
  unfold nbf' eachN
  by_cases hn : l.length = b.Cars.length
  · have h := nf' (nb6' (step := fun x => no' x.1.2.1 x.1.2.2.1 x.1.2.2.2.1 x.2.1.1 x.2.1.2.1 x.2.1.2.2.1 x.2.1.2.2.2.1 x.2.1.2.2.2.2.1 x.2.1.2.2.2.2.2.1 x.2.1.2.2.2.2.2.2.1 x.2.1.2.2.2.2.2.2.2.1) l.length (fun i => (((), l, (l.length : Int), (i : Int), ()), (b.tup, ()))) (fun i => (fun i x => belOK b i x) i (l.getD i (Belief.mk 0 0 0 [] 0 false))) (Sum.inl ((), (b.tup, ()))) (Sum.inr ((false, ()), (b.tup, ()))) (fun i hi => by
      show no' l (l.length : Int) (i : Int) b.Floors b.Debounce b.Room b.Park b.Empty b.Full b.Over b.Cars = _
      unfold no' nds'
      simp only [decide_eq_true (show (i : Int) < (l.length : Int) by omega), nc' (show (0 : Int) ≤ (i : Int) by omega) (show (i : Int) < (l.length : Int) by omega), cond_true, Int.toNat_natCast, wrap1 hi (show l.length ≤ nl' by omega)]
      
      have hm := nfk' (Belief.mk 0 0 0 [] 0 false) hi
      rw [npm' hb hcode (show i < b.Cars.length by omega) (l.getD i (Belief.mk 0 0 0 [] 0 false)) (hd _ hm)]
      simp only [Option.bind_some]
      generalize belOK b i (l.getD i (Belief.mk 0 0 0 [] 0 false)) = q
      cases q <;> rfl) (by
      show no' l (l.length : Int) (l.length : Int) b.Floors b.Debounce b.Room b.Park b.Empty b.Full b.Over b.Cars = _
      unfold no'
      simp only [decide_eq_false (Int.lt_irrefl (l.length : Int)), cond_false]; rfl) l.length 0 (by omega)) (by omega)
    have h' : nbd' (((), l, (l.length : Int), (0 : Int), ()), (b.tup, ())) = _ := h
    simp only [Bldg.tup] at h'
    rw [show ((l.length : Int) != (b.Cars.length : Int)) = false by rw [hn, bne_self_eq_false], show ((l.length : Int) == (b.Cars.length : Int)) = true by rw [hn]; exact beq_self_eq_true _]
    simp only [cond_false, Bool.true_and, h']
    generalize allN (fun i => (fun i x => belOK b i x) i (l.getD i (Belief.mk 0 0 0 [] 0 false))) l.length 0 = q
    cases q <;> rfl
  · rw [show ((l.length : Int) != (b.Cars.length : Int)) = true from bne_t (by omega), beq_f (show ¬ (l.length : Int) = (b.Cars.length : Int) by omega)]
    rfl
theorem nr8' {b : Bldg} (hb : b.small) (hcode : b.code = 0) {l : List NewCar} (_hl : l.length ≤ 100000) : nbg' l (b.Cars.length : Int) b.Floors b.Debounce b.Room b.Park b.Empty b.Full b.Over b.Cars = some ((eachN (fun _ x => newOK b x) noNewCar l (b.Cars.length : Int), ()), (b.tup, ())) := by
  have h5 : 100000 ≤ nl' := by decide
  have lo := hb.lo
  have hcc := nco' hcode
  unfold nbg' eachN
  by_cases hn : l.length = b.Cars.length
  · have h := nf' (nb6' (step := fun x => nn' x.1.2.1 x.1.2.2.1 x.1.2.2.2.1 x.2.1.1 x.2.1.2.1 x.2.1.2.2.1 x.2.1.2.2.2.1 x.2.1.2.2.2.2.1 x.2.1.2.2.2.2.2.1 x.2.1.2.2.2.2.2.2.1 x.2.1.2.2.2.2.2.2.2.1) l.length (fun i => (((), l, (l.length : Int), (i : Int), ()), (b.tup, ()))) (fun i => (fun _ x => newOK b x) i (l.getD i noNewCar)) (Sum.inl ((), (b.tup, ()))) (Sum.inr ((false, ()), (b.tup, ()))) (fun i hi => by
      show nn' l (l.length : Int) (i : Int) b.Floors b.Debounce b.Room b.Park b.Empty b.Full b.Over b.Cars = _
      unfold nn' ndz'
      simp only [decide_eq_true (show (i : Int) < (l.length : Int) by omega), nc' (show (0 : Int) ≤ (i : Int) by omega) (show (i : Int) < (l.length : Int) by omega), cond_true, Int.toNat_natCast, wrap1 hi (show l.length ≤ nl' by omega)]
      rw [show NewCar.mk 0 0 0 0 0 false 0 0 0 0 0 0 0 false = noNewCar from rfl]
      rw [npj' hb hcode (l.getD i noNewCar)]
      simp only [Option.bind_some]
      generalize newOK b (l.getD i noNewCar) = q
      cases q <;> rfl) (by
      show nn' l (l.length : Int) (l.length : Int) b.Floors b.Debounce b.Room b.Park b.Empty b.Full b.Over b.Cars = _
      unfold nn'
      simp only [decide_eq_false (Int.lt_irrefl (l.length : Int)), cond_false]; rfl) l.length 0 (by omega)) (by omega)
    have h' : nbc' (((), l, (l.length : Int), (0 : Int), ()), (b.tup, ())) = _ := h
    simp only [Bldg.tup] at h'
    rw [show ((l.length : Int) != (b.Cars.length : Int)) = false by rw [hn, bne_self_eq_false], show ((l.length : Int) == (b.Cars.length : Int)) = true by rw [hn]; exact beq_self_eq_true _]
    simp only [cond_false, Bool.true_and, h']
    generalize allN (fun i => (fun _ x => newOK b x) i (l.getD i noNewCar)) l.length 0 = q
    cases q <;> rfl
  · rw [show ((l.length : Int) != (b.Cars.length : Int)) = true from bne_t (by omega), beq_f (show ¬ (l.length : Int) = (b.Cars.length : Int) by omega)]
    rfl
theorem nse' {b : Bldg} (hb : b.small) (hcode : b.code = 0) {l : List Loaded} (_hl : l.length ≤ 100000) : nbo' l (b.Cars.length : Int) = some ((eachN (fun _ x => nkg' x) ncg' l (b.Cars.length : Int), ()), ()) := by
  have h5 : 100000 ≤ nl' := by decide
  have lo := hb.lo
  have hcc := nco' hcode
  unfold nbo' eachN
  by_cases hn : l.length = b.Cars.length
  · have h := nf' (nb6' (step := fun x => nx' x.1.2.1 x.1.2.2.1 x.1.2.2.2.1) l.length (fun i => (((), l, (l.length : Int), (i : Int), ()), ())) (fun i => (fun _ x => nkg' x) i (l.getD i ncg')) (Sum.inl ((), ())) (Sum.inr ((false, ()), ())) (fun i hi => by
      show nx' l (l.length : Int) (i : Int) = _
      unfold nx' nfs'
      simp only [decide_eq_true (show (i : Int) < (l.length : Int) by omega), nc' (show (0 : Int) ≤ (i : Int) by omega) (show (i : Int) < (l.length : Int) by omega), cond_true, Int.toNat_natCast, wrap1 hi (show l.length ≤ nl' by omega)]
      rw [show Loaded.mk 0 = ncg' from rfl]
      have hk : ∀ c : Int, (Option.bind (bif decide (0 ≤ c) then some ((decide (c ≤ 4), ()), ()) else some ((false, ()), ())) fun y1 : (Bool × Unit) × Unit => some ((y1.1.1, ()), ())) = some ((inR 0 4 c, ()), ()) := fun c => by
        unfold inR
        cases decide (0 ≤ c) <;> rfl
      rw [hk]
      simp only [Option.bind_some]
      show (bif !(nkg' (l.getD i ncg')) then _ else _) = _
      generalize nkg' (l.getD i ncg') = q
      cases q <;> rfl) (by
      show nx' l (l.length : Int) (l.length : Int) = _
      unfold nx'
      simp only [decide_eq_false (Int.lt_irrefl (l.length : Int)), cond_false]) l.length 0 (by omega)) (by omega)
    have h' : nbl' (((), l, (l.length : Int), (0 : Int), ()), ()) = _ := h
    skip
    rw [show ((l.length : Int) != (b.Cars.length : Int)) = false by rw [hn, bne_self_eq_false], show ((l.length : Int) == (b.Cars.length : Int)) = true by rw [hn]; exact beq_self_eq_true _]
    simp only [cond_false, Bool.true_and, h']
    generalize allN (fun i => (fun _ x => nkg' x) i (l.getD i ncg')) l.length 0 = q
    cases q <;> rfl
  · rw [show ((l.length : Int) != (b.Cars.length : Int)) = true from bne_t (by omega), beq_f (show ¬ (l.length : Int) = (b.Cars.length : Int) by omega)]
    rfl
def npa' (b : Bldg) (m : Mch) : Bool := fitsV b m.Image && (decide (m.Store.ok b.Room) && (((m.Expect.length : Int) == (m.Image.Entries.length : Int)) && (nkc' m.Expect && (nkc' [m.Tick, m.Faults, m.Refused] && (eachN (fun _ x => conOK b.Debounce x) nbe' m.Contacts (b.Cars.length : Int) && (eachN (fun i x => belOK b i x) (Belief.mk 0 0 0 [] 0 false) m.Beliefs (b.Cars.length : Int) && (eachN (fun _ x => newOK b x) noNewCar m.Cars (b.Cars.length : Int) && (eachN (fun _ x => nkg' x) ncg' m.Loads (b.Cars.length : Int) && ((m.Lit.length : Int) == (b.Cars.length : Int))))))))))
theorem nno' {b : Bldg} (hb : b.small) (hcode : b.code = 0) {m : Mch} (hm : m.fit) : ndr' b.Floors b.Debounce b.Room b.Park b.Empty b.Full b.Over b.Cars m.Image.Phases m.Image.Flags m.Image.Leaving m.Image.Entries m.Store.h0 m.Store.h1 m.Store.sel m.Contacts m.Beliefs m.Cars m.Loads m.Expect m.Lit m.Tick m.Faults m.Refused = some ((npa' b m, ()), ()) := by
  have hcc := nco' hcode
  have hex := hm.ex
  unfold ndr' npa'
  rw [nl4' hb m.Image (by omega) hm.im, ne7', nkm' (xs := m.Expect) (by omega), nkm' (xs := [m.Tick, m.Faults, m.Refused]) (by show 3 ≤ 1000000; omega)]
  simp only [Option.bind_some]
  rw [show decide (Sto.ok b.Room ⟨m.Store.h0, m.Store.h1, m.Store.sel⟩) = decide (m.Store.ok b.Room) from rfl]
  cases fitsV b m.Image with
  | false => rfl
  | true =>
  cases decide (m.Store.ok b.Room) with
  | false => rfl
  | true =>
  simp only [bne]
  cases ((m.Expect.length : Int) == (m.Image.Entries.length : Int)) with
  | false => rfl
  | true =>
  cases nkc' m.Expect with
  | false => rfl
  | true =>
  cases nkc' [m.Tick, m.Faults, m.Refused] with
  | false => rfl
  | true =>
  simp only [Bool.not_true, cond_false, Bool.true_and]
  rw [npp' hb hcode hm.co]
  simp only [Option.bind_some, Bldg.tup]
  rw [nsk' hb hcode hm.be hm.du]
  simp only [Option.bind_some, Bldg.tup]
  rw [nr8' hb hcode hm.ca]
  simp only [Option.bind_some, Bldg.tup]
  rw [nse' hb hcode hm.lo]
  simp only [Option.bind_some]
  generalize eachN (fun _ x => conOK b.Debounce x) nbe' m.Contacts (b.Cars.length : Int) = q1
  generalize eachN (fun i x => belOK b i x) (Belief.mk 0 0 0 [] 0 false) m.Beliefs (b.Cars.length : Int) = q2
  generalize eachN (fun _ x => newOK b x) noNewCar m.Cars (b.Cars.length : Int) = q3
  generalize eachN (fun _ x => nkg' x) ncg' m.Loads (b.Cars.length : Int) = q4
  cases q1 <;> cases q2 <;> cases q3 <;> cases q4 <;> rfl
theorem nm3' {α : Type} {p : Nat → α → Bool} {d a : α} {n : Nat} (h : ∀ i, i < n → p i a = true) : eachN p d (List.replicate n a) (n : Int) = true := by
  unfold eachN
  rw [List.length_replicate, beq_self_eq_true, Bool.true_and]
  refine nn9' n 0 fun k _ hk => ?_
  have hk' : k < n := by omega
  rw [show (List.replicate n a).getD k d = a by simp [List.getD_eq_getElem?_getD, hk']]
  exact h k hk'
theorem n1f' {b : Bldg} (h : b.code = 0) : 1 ≤ b.Debounce ∧ b.Debounce ≤ 16 := by
  unfold Bldg.code at h
  cases h1 : inR 2 32 b.Floors <;> rw [h1] at h
  · cases h
  cases h2 : inR 1 8 (b.Cars.length : Int) <;> rw [h2] at h
  · cases h
  cases h3 : inR 1 16 b.Debounce <;> rw [h3] at h
  · cases h
  exact nu'.1 h3
theorem nyg' {fl : Int} {c : Car} (h : ncw' fl c = true) : 0 ≤ c.Deadline ∧ c.Deadline ≤ 1000000 := by
  unfold ncw' at h
  rw [Bool.and_eq_true, List.all_eq_true] at h
  have := nu'.1 (h.1 c.Deadline (List.mem_cons_self ..))
  omega
theorem nz0' {b : Bldg} (h : b.code = 0) {c : Car} (hc : c ∈ b.Cars) : 0 ≤ c.Deadline ∧ c.Deadline ≤ 1000000 := by
  unfold Bldg.code at h
  cases h1 : inR 2 32 b.Floors <;> rw [h1] at h
  · cases h
  cases h2 : inR 1 8 (b.Cars.length : Int) <;> rw [h2] at h
  · cases h
  cases h3 : inR 1 16 b.Debounce <;> rw [h3] at h
  · cases h
  cases h4 : inR 1 10000 b.Park <;> rw [h4] at h
  · cases h
  cases h5 : b.Cars.all (ncw' b.Floors) <;> rw [h5] at h
  · cases h
  exact nyg' (List.all_eq_true.1 h5 c hc)
theorem n1y' {n : Int} (h : 1 ≤ n ∧ n ≤ 16) : conOK n nbe' = true := by
  unfold conOK
  rw [decide_eq_true h.1, decide_eq_true h.2, Bool.true_and, Bool.true_and]
  refine nn9' 36 0 fun k _ hk => ?_
  unfold cntP
  have : (cntL nbe').getD k 0 = 0 := by
    show (List.replicate 36 (0 : Int)).getD k 0 = 0
    rw [List.getD_eq_getElem?_getD, List.getElem?_replicate]
    split <;> rfl
  rw [this, decide_eq_true (show (0 : Int) < n by omega)]; rfl
theorem ny2' {b : Bldg} (hb : b.small) {m : Img} (hm : ImgOK b m) (hfit : 18 * ((b.Cars.length : Int) + (m.Entries.length : Int)) + 6 ≤ b.Room) {s : Sto} (hs : s.ok b.Room) : npa' b (nem' b m s) = true := by
  have hcode := hm.code
  have lo := hb.lo
  unfold npa' nem'
  simp only
  rw [nw2' hm hfit, decide_eq_true hs, List.length_map, beq_self_eq_true, List.length_replicate, beq_self_eq_true]
  have c1 : nkc' (m.Entries.map (ngx' b)) = true := by
    unfold nkc'
    rw [List.all_map, List.all_eq_true]
    intro e he
    show inR 0 1000000 (ngx' b e) = true
    unfold ngx'
    cases hd : decide (0 ≤ e.Car) with
    | false => rfl
    | true =>
      have h0 : 0 ≤ e.Car := of_decide_eq_true hd
      have hc := (ngb'.1 (hm.en e he)).2.1.2
      have : carAt b e.Car.toNat ∈ b.Cars := nfk' _ (by omega)
      exact nu'.2 (nz0' hcode this)
  have e1 : eachN (fun _ x => conOK b.Debounce x) nbe' (List.replicate b.Cars.length nbe') (b.Cars.length : Int) = true := nm3' fun _ _ => n1y' (n1f' hcode)
  have e2 : eachN (fun i x => belOK b i x) (Belief.mk 0 0 0 [] 0 false) (List.replicate b.Cars.length newBel) (b.Cars.length : Int) = true := nm3' fun i _ => by
    unfold belOK
    rw [show inR (-1) (b.Floors - 1) newBel.Floor = true from nu'.2 ⟨by show (-1 : Int) ≤ -1; omega, by show (-1 : Int) ≤ _; omega⟩]
    rfl
  have e3 : eachN (fun _ x => newOK b x) noNewCar (List.replicate b.Cars.length noNewCar) (b.Cars.length : Int) = true := nm3' fun _ _ => by
    show nk4' b.Floors noNewCar = true
    unfold nk4' nr0'
    rw [show noNewCar.Calls = 0 from rfl, Int.zero_fdiv]
    rfl
  have e4 : eachN (fun _ x => nkg' x) ncg' (List.replicate b.Cars.length ncg') (b.Cars.length : Int) = true := nm3' fun _ _ => rfl
  rw [c1, e1, e2, e3, e4]
  rfl
end Go.Ovl
