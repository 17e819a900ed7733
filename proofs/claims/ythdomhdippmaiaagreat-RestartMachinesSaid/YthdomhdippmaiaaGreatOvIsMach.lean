/- Layer 26: which machines belong to a building: the program's side. -/
import Derived.Test.YthdomhdippmaiaaGreatOvSane26
namespace Go.Ovl
open Go Go.Ab
set_option maxRecDepth 100000
theorem nr9' {p q : Nat → Bool} : ∀ m i : Nat, (∀ k, i ≤ k → k < i + m → (∀ j, i ≤ j → j < k → p j = true) → p k = q k) → allN p m i = allN q m i
  | 0, _, _ => rfl
  | m + 1, i, h => by
    have h0 := h i (Nat.le_refl _) (by omega) (fun j h1 h2 => by omega)
    simp only [allN]
    cases hp : p i with
    | false => rw [← h0, hp]; rfl
    | true =>
      rw [← h0, hp, Bool.true_and, Bool.true_and]
      exact nr9' m (i + 1) fun k h1 h2 h3 => h k (by omega) (by omega) fun j h4 h5 => by
        rcases Nat.lt_or_ge i j with g | g
        · exact h3 j (by omega) h5
        · obtain rfl : j = i := by omega
          exact hp
theorem npl' {p : Nat → Bool} : ∀ m i : Nat, (∀ k, i ≤ k → k < i + m → p k = true) → allN p m i = true
  | 0, _, _ => rfl
  | m + 1, i, h => by
    simp only [allN]
    rw [h i (Nat.le_refl _) (by omega), Bool.true_and]
    exact npl' m (i + 1) fun k h1 h2 => h k (by omega) (by omega)
theorem ltD (a b : Int) : decide (a < b) = !decide (b ≤ a) := by
  by_cases h : a < b
  · rw [decide_eq_true h, decide_eq_false (show ¬ b ≤ a by omega)]; rfl
  · rw [decide_eq_false h, decide_eq_true (show b ≤ a by omega)]; rfl
theorem leD (a b : Int) : decide (a ≤ b) = !decide (b < a) := by rw [ltD b a, Bool.not_not]
def nhf' (xs : List Int) : Bool := xs.all (inR 0 1000000)
theorem nx5' (n : Int) : nft' n = some ((!inR 0 1000000 n, ()), ()) := by
  unfold nft' inR
  rw [ltD n 0, ltD 1000000 n]
  cases decide (0 ≤ n) <;> cases decide (n ≤ 1000000) <;> rfl
theorem nlv' {xs : List Int} (hl : xs.length ≤ 1000000) : ne5' xs = some ((nhf' xs, ()), ()) := by
  have key : ∀ (k i : Nat), i + k = xs.length → ∃ y, iter (fun x => ny' x.1.1 x.1.2.2.1 x.1.2.2.2.1) (k + 1) ((xs, (), (xs.length : Int), (i : Int), ()), ()) = some y ∧ (match y with | .inl _ => (xs.drop i).all (inR 0 1000000) = true | .inr z => 0 ≤ z.1.1 ∧ (xs.drop i).all (inR 0 1000000) = false) := by
    intro k
    induction k with
    | zero =>
      intro i hi
      refine ⟨.inl ((), ()), n6' ?_, ?_⟩
      · show ny' xs (xs.length : Int) (i : Int) = _
        unfold ny'
        rw [decide_eq_false (show ¬ (i : Int) < (xs.length : Int) by omega)]; rfl
      · rw [show i = xs.length by omega, List.drop_length]; rfl
    | succ k ih =>
      intro i hi
      have hi' : i < xs.length := by omega
      have hs : ny' xs (xs.length : Int) (i : Int) = some (bif inR 0 1000000 (xs.getD i 0) then .inl ((xs, (), (xs.length : Int), ((i + 1 : Nat) : Int), ()), ()) else .inr (.inr (((i : Int), ()), ()))) := by
        unfold ny'
        rw [decide_eq_true (show (i : Int) < (xs.length : Int) by omega), nc' (by omega) (by omega), nx5', wrap1 hi' (show xs.length ≤ ng' by unfold ng'; omega)]
        simp only [cond_true, Int.toNat_natCast, Option.bind_some]
        cases inR 0 1000000 (xs.getD i 0) <;> rfl
      rw [nc1' (0 : Int) hi', List.all_cons]
      cases hq : inR 0 1000000 (xs.getD i 0) with
      | true =>
        rw [hq] at hs
        obtain ⟨y, h1, h2⟩ := ih (i + 1) (by omega)
        exact ⟨y, (nb4' hs).trans h1, by rw [Bool.true_and]; exact h2⟩
      | false =>
        rw [hq] at hs
        exact ⟨_, n6' hs, by show (0 : Int) ≤ (i : Int) ∧ _; exact ⟨by omega, rfl⟩⟩
  obtain ⟨y, h1, h2⟩ := key xs.length 0 (by omega)
  have h1' : nbo' ((xs, (), (xs.length : Int), (0 : Int), ()), ()) = some y := nf' h1 (by omega)
  rw [List.drop_zero] at h2
  unfold ne5' nb5' ncg' nhf'
  rw [h1']
  cases y with
  | inl z => simp only at h2; rw [h2]; rfl
  | inr z =>
    simp only at h2
    rw [h2.2]
    simp only [Option.bind_some]
    rw [decide_eq_true h2.1]; rfl
def cntL (x : Debounced) : List Int := [x.Count_0, x.Count_1, x.Count_2, x.Count_3, x.Count_4, x.Count_5, x.Count_6, x.Count_7, x.Count_8, x.Count_9, x.Count_10, x.Count_11, x.Count_12, x.Count_13, x.Count_14, x.Count_15, x.Count_16, x.Count_17, x.Count_18, x.Count_19, x.Count_20, x.Count_21, x.Count_22, x.Count_23, x.Count_24, x.Count_25, x.Count_26, x.Count_27, x.Count_28, x.Count_29, x.Count_30, x.Count_31, x.Count_32, x.Count_33, x.Count_34, x.Count_35]
def cntP (n : Int) (x : Debounced) (i : Nat) : Bool := decide (0 ≤ (cntL x).getD i 0) && decide ((cntL x).getD i 0 < n)
def conOK (n : Int) (x : Debounced) : Bool := decide (1 ≤ n) && (decide (n ≤ 16) && allN (cntP n x) 36 0)
theorem npq' (n : Int) (x : Debounced) : nf6' n x.Contacts_Floors x.Contacts_Up x.Contacts_Down x.Contacts_Open x.Contacts_Closed x.Count_0 x.Count_1 x.Count_2 x.Count_3 x.Count_4 x.Count_5 x.Count_6 x.Count_7 x.Count_8 x.Count_9 x.Count_10 x.Count_11 x.Count_12 x.Count_13 x.Count_14 x.Count_15 x.Count_16 x.Count_17 x.Count_18 x.Count_19 x.Count_20 x.Count_21 x.Count_22 x.Count_23 x.Count_24 x.Count_25 x.Count_26 x.Count_27 x.Count_28 x.Count_29 x.Count_30 x.Count_31 x.Count_32 x.Count_33 x.Count_34 x.Count_35 = some ((conOK n x, ()), ()) := by
  have h := nf' (nbb' (step := fun x => ndb' x.1.1 x.1.2.1.1 x.1.2.1.2.1 x.1.2.1.2.2.1 x.1.2.1.2.2.2.1 x.1.2.1.2.2.2.2.1 x.1.2.1.2.2.2.2.2.1 x.1.2.1.2.2.2.2.2.2.1 x.1.2.1.2.2.2.2.2.2.2.1 x.1.2.1.2.2.2.2.2.2.2.2.1 x.1.2.1.2.2.2.2.2.2.2.2.2.1 x.1.2.1.2.2.2.2.2.2.2.2.2.2.1 x.1.2.1.2.2.2.2.2.2.2.2.2.2.2.1 x.1.2.1.2.2.2.2.2.2.2.2.2.2.2.2.1 x.1.2.1.2.2.2.2.2.2.2.2.2.2.2.2.2.1 x.1.2.1.2.2.2.2.2.2.2.2.2.2.2.2.2.2.1 x.1.2.1.2.2.2.2.2.2.2.2.2.2.2.2.2.2.2.1 x.1.2.1.2.2.2.2.2.2.2.2.2.2.2.2.2.2.2.2.1 x.1.2.1.2.2.2.2.2.2.2.2.2.2.2.2.2.2.2.2.2.1 x.1.2.1.2.2.2.2.2.2.2.2.2.2.2.2.2.2.2.2.2.2.1 x.1.2.1.2.2.2.2.2.2.2.2.2.2.2.2.2.2.2.2.2.2.2.1 x.1.2.1.2.2.2.2.2.2.2.2.2.2.2.2.2.2.2.2.2.2.2.2.1 x.1.2.1.2.2.2.2.2.2.2.2.2.2.2.2.2.2.2.2.2.2.2.2.2.1 x.1.2.1.2.2.2.2.2.2.2.2.2.2.2.2.2.2.2.2.2.2.2.2.2.2.1 x.1.2.1.2.2.2.2.2.2.2.2.2.2.2.2.2.2.2.2.2.2.2.2.2.2.2.1 x.1.2.1.2.2.2.2.2.2.2.2.2.2.2.2.2.2.2.2.2.2.2.2.2.2.2.2.1 x.1.2.1.2.2.2.2.2.2.2.2.2.2.2.2.2.2.2.2.2.2.2.2.2.2.2.2.2.1 x.1.2.1.2.2.2.2.2.2.2.2.2.2.2.2.2.2.2.2.2.2.2.2.2.2.2.2.2.2.1 x.1.2.1.2.2.2.2.2.2.2.2.2.2.2.2.2.2.2.2.2.2.2.2.2.2.2.2.2.2.2.1 x.1.2.1.2.2.2.2.2.2.2.2.2.2.2.2.2.2.2.2.2.2.2.2.2.2.2.2.2.2.2.2.1 x.1.2.1.2.2.2.2.2.2.2.2.2.2.2.2.2.2.2.2.2.2.2.2.2.2.2.2.2.2.2.2.2.1 x.1.2.1.2.2.2.2.2.2.2.2.2.2.2.2.2.2.2.2.2.2.2.2.2.2.2.2.2.2.2.2.2.2.1 x.1.2.1.2.2.2.2.2.2.2.2.2.2.2.2.2.2.2.2.2.2.2.2.2.2.2.2.2.2.2.2.2.2.2.1 x.1.2.1.2.2.2.2.2.2.2.2.2.2.2.2.2.2.2.2.2.2.2.2.2.2.2.2.2.2.2.2.2.2.2.2.1 x.1.2.1.2.2.2.2.2.2.2.2.2.2.2.2.2.2.2.2.2.2.2.2.2.2.2.2.2.2.2.2.2.2.2.2.2.1 x.1.2.1.2.2.2.2.2.2.2.2.2.2.2.2.2.2.2.2.2.2.2.2.2.2.2.2.2.2.2.2.2.2.2.2.2.2.1 x.1.2.1.2.2.2.2.2.2.2.2.2.2.2.2.2.2.2.2.2.2.2.2.2.2.2.2.2.2.2.2.2.2.2.2.2.2.2.1 x.1.2.2.1) 36 (fun i => ((n, (x.Count_0, x.Count_1, x.Count_2, x.Count_3, x.Count_4, x.Count_5, x.Count_6, x.Count_7, x.Count_8, x.Count_9, x.Count_10, x.Count_11, x.Count_12, x.Count_13, x.Count_14, x.Count_15, x.Count_16, x.Count_17, x.Count_18, x.Count_19, x.Count_20, x.Count_21, x.Count_22, x.Count_23, x.Count_24, x.Count_25, x.Count_26, x.Count_27, x.Count_28, x.Count_29, x.Count_30, x.Count_31, x.Count_32, x.Count_33, x.Count_34, x.Count_35, ()), (i : Int), ()), ())) (cntP n x) (Sum.inl ((), ())) (Sum.inr ((false, ()), ())) (fun i hi => by
    show ndb' n x.Count_0 x.Count_1 x.Count_2 x.Count_3 x.Count_4 x.Count_5 x.Count_6 x.Count_7 x.Count_8 x.Count_9 x.Count_10 x.Count_11 x.Count_12 x.Count_13 x.Count_14 x.Count_15 x.Count_16 x.Count_17 x.Count_18 x.Count_19 x.Count_20 x.Count_21 x.Count_22 x.Count_23 x.Count_24 x.Count_25 x.Count_26 x.Count_27 x.Count_28 x.Count_29 x.Count_30 x.Count_31 x.Count_32 x.Count_33 x.Count_34 x.Count_35 (i : Int) = _
    unfold ndb'
    simp only [decide_eq_true (show (i : Int) < 36 by omega), nc' (show (0 : Int) ≤ (i : Int) by omega) (show (i : Int) < ((36 : Nat) : Int) by omega), cond_true, Int.toNat_natCast, wrap1 hi (show 36 ≤ ng' by decide)]
    show (bif decide ((cntL x).getD i 0 < 0) then _ else bif decide (n ≤ (cntL x).getD i 0) then _ else _) = some (bif (decide (0 ≤ (cntL x).getD i 0) && decide ((cntL x).getD i 0 < n)) then _ else _)
    rw [ltD ((cntL x).getD i 0) 0, leD n ((cntL x).getD i 0)]
    cases decide (0 ≤ (cntL x).getD i 0) <;> cases decide ((cntL x).getD i 0 < n) <;> rfl) (by
    show ndb' n x.Count_0 x.Count_1 x.Count_2 x.Count_3 x.Count_4 x.Count_5 x.Count_6 x.Count_7 x.Count_8 x.Count_9 x.Count_10 x.Count_11 x.Count_12 x.Count_13 x.Count_14 x.Count_15 x.Count_16 x.Count_17 x.Count_18 x.Count_19 x.Count_20 x.Count_21 x.Count_22 x.Count_23 x.Count_24 x.Count_25 x.Count_26 x.Count_27 x.Count_28 x.Count_29 x.Count_30 x.Count_31 x.Count_32 x.Count_33 x.Count_34 x.Count_35 (36 : Int) = _
    unfold ndb'
    simp only [show decide ((36 : Int) < 36) = false from rfl, cond_false]) 36 0 (by omega)) (by omega)
  have h' : nfb' ((n, (x.Count_0, x.Count_1, x.Count_2, x.Count_3, x.Count_4, x.Count_5, x.Count_6, x.Count_7, x.Count_8, x.Count_9, x.Count_10, x.Count_11, x.Count_12, x.Count_13, x.Count_14, x.Count_15, x.Count_16, x.Count_17, x.Count_18, x.Count_19, x.Count_20, x.Count_21, x.Count_22, x.Count_23, x.Count_24, x.Count_25, x.Count_26, x.Count_27, x.Count_28, x.Count_29, x.Count_30, x.Count_31, x.Count_32, x.Count_33, x.Count_34, x.Count_35, ()), (0 : Int), ()), ()) = _ := h
  unfold nf6' conOK
  rw [ltD n 1, ltD 16 n]
  cases decide (1 ≤ n) with
  | false => rfl
  | true =>
    cases decide (n ≤ 16) with
    | false => rfl
    | true =>
      simp only [Bool.not_true, cond_false, Bool.true_and, h']
      cases allN (cntP n x) 36 0 <;> rfl
def lessD (a b : Duty) : Bool := decide (a.Floor < b.Floor) || (a.Floor == b.Floor && decide (a.Dir < b.Dir))
theorem nqr' (a b : Duty) : ∃ n : Int, ngx' a.Floor a.Dir a.Age b.Floor b.Dir b.Age = some ((n, ()), ()) ∧ decide (0 ≤ n) = !lessD a b := by
  unfold ngx'
  rw [niq', niq']
  simp only [Option.bind_some]
  rw [nvs']
  refine ⟨_, rfl, ?_⟩
  unfold lessD cmpI
  by_cases h1 : a.Floor < b.Floor
  · rw [decide_eq_true h1]; rfl
  · rw [decide_eq_false h1]
    by_cases h2 : b.Floor < a.Floor
    · rw [decide_eq_true h2, beq_f (show ¬ a.Floor = b.Floor by omega)]; rfl
    · rw [decide_eq_false h2, show (a.Floor == b.Floor) = true by simp; omega]
      by_cases h3 : a.Dir < b.Dir
      · rw [decide_eq_true h3]; rfl
      · rw [decide_eq_false h3]
        cases decide (b.Dir < a.Dir) <;> rfl
theorem nmt' (n lo hi : Int) : nct' n lo hi = some ((inR lo hi n, ()), ()) := by
  unfold nct' inR
  cases decide (lo ≤ n) <;> rfl
def dutO (x : Belief) (i : Nat) : Bool := i == 0 || lessD (x.Duties.getD (i - 1) n1') (x.Duties.getD i n1')
def dutP (b : Bldg) (car : Nat) (x : Belief) (i : Nat) : Bool := nbf' b (x.Duties.getD i n1').Floor (x.Duties.getD i n1').Dir && (inR 0 (carAt b car).Deadline (x.Duties.getD i n1').Age && dutO x i)
def belOK (b : Bldg) (car : Nat) (x : Belief) : Bool := inR (-1) (b.Floors - 1) x.Floor && (inR 0 3 x.Dir && (inR 0 3 x.Door && (inR 0 1000000 x.Still && (!(x.Late && decide ((0 : Int) < (x.Duties.length : Int))) && allN (dutP b car x) x.Duties.length 0))))
theorem nqq' {b : Bldg} (hb : b.small) (hcode : b.code = 0) {car : Nat} (hcar : car < b.Cars.length) (x : Belief) (hx : x.Duties.length ≤ 100000) : ng1' b.Floors b.Debounce b.Room b.Park b.Empty b.Full b.Over b.Cars (car : Int) x.Floor x.Dir x.Door x.Duties x.Still x.Late = some ((belOK b car x, ()), ()) := by
  have lo := hb.lo
  have hi8 := hb.hi
  have hcc := ncj' hcode
  have h5 : 100000 ≤ ng' := by decide
  have h := nf' (nbb' (step := fun x => ndf' x.1.1 x.1.2.2.2.1 x.1.2.2.2.2.1 x.1.2.2.2.2.2.1 x.2.1.1 x.2.1.2.1 x.2.1.2.2.1 x.2.1.2.2.2.1 x.2.1.2.2.2.2.1 x.2.1.2.2.2.2.2.1 x.2.1.2.2.2.2.2.2.1 x.2.1.2.2.2.2.2.2.2.1 x.2.2.1.1 x.2.2.1.2.1 x.2.2.1.2.2.1 x.2.2.1.2.2.2.1 x.2.2.1.2.2.2.2.1 x.2.2.1.2.2.2.2.2.1) x.Duties.length (fun i => (((car : Int), (), (), x.Duties, (x.Duties.length : Int), (i : Int), ()), (b.tup, (x.Floor, x.Dir, x.Door, x.Duties, x.Still, x.Late, ()), ()))) (dutP b car x) (Sum.inl ((), ())) (Sum.inr ((false, ()), ())) (fun i hi => by
    show ndf' (car : Int) x.Duties (x.Duties.length : Int) (i : Int) b.Floors b.Debounce b.Room b.Park b.Empty b.Full b.Over b.Cars x.Floor x.Dir x.Door x.Duties x.Still x.Late = _
    unfold ndf'
    simp only [decide_eq_true (show (i : Int) < (x.Duties.length : Int) by omega), nc' (show (0 : Int) ≤ (i : Int) by omega) (show (i : Int) < (x.Duties.length : Int) by omega), nc' (show (0 : Int) ≤ (car : Int) by omega) (show (car : Int) < (b.Cars.length : Int) by omega), cond_true, Int.toNat_natCast, nh9' hb, nmt', Option.bind_some]
    rw [show Duty.mk 0 0 0 = n1' from rfl, show Car.mk 0 0 0 0 0 0 0 0 0 = ⟨0, 0, 0, 0, 0, 0, 0, 0, 0⟩ from rfl]
    rw [show b.Cars.getD car ⟨0, 0, 0, 0, 0, 0, 0, 0, 0⟩ = carAt b car from rfl]
    unfold dutP dutO
    cases nbf' b (x.Duties.getD i n1').Floor (x.Duties.getD i n1').Dir with
    | false => rfl
    | true =>
    cases inR 0 (carAt b car).Deadline (x.Duties.getD i n1').Age with
    | false => rfl
    | true =>
      simp only [Bool.not_true, cond_false, Bool.true_and]
      by_cases i0 : i = 0
      · subst i0
        simp only [show decide ((0 : Int) < ((0 : Nat) : Int)) = false from rfl, cond_false, Option.bind_some, wrap1 hi (show x.Duties.length ≤ ng' by omega)]
        rfl
      · rw [decide_eq_true (show (0 : Int) < (i : Int) by omega), show (i == 0) = false by simpa using i0]
        simp only [cond_true, Bool.false_or, nb' (n := (i : Int) - 1) (by omega) (by omega), nc' (show (0 : Int) ≤ (i : Int) - 1 by omega) (show (i : Int) - 1 < (x.Duties.length : Int) by omega)]
        obtain ⟨n, e1, e2⟩ := nqr' (x.Duties.getD (i - 1) n1') (x.Duties.getD i n1')
        rw [show Int.toNat ((i : Int) - 1) = i - 1 by omega]
        rw [e1]
        simp only [Option.bind_some, e2, wrap1 hi (show x.Duties.length ≤ ng' by omega)]
        cases lessD (x.Duties.getD (i - 1) n1') (x.Duties.getD i n1') <;> rfl) (by
    show ndf' (car : Int) x.Duties (x.Duties.length : Int) (x.Duties.length : Int) b.Floors b.Debounce b.Room b.Park b.Empty b.Full b.Over b.Cars x.Floor x.Dir x.Door x.Duties x.Still x.Late = _
    unfold ndf'
    simp only [decide_eq_false (Int.lt_irrefl (x.Duties.length : Int)), cond_false]) x.Duties.length 0 (by omega)) (by omega)
  have h' : nfq' (((car : Int), (), (), x.Duties, (x.Duties.length : Int), (0 : Int), ()), (b.tup, (x.Floor, x.Dir, x.Door, x.Duties, x.Still, x.Late, ()), ())) = _ := h
  simp only [Bldg.tup] at h'
  unfold ng1' belOK
  rw [ncm', hcode]
  simp only [nmt', Option.bind_some, bne_self_eq_false, cond_false, nb' (n := (b.Cars.length : Int) - 1) (by omega) (by omega), nb' (n := b.Floors - 1) (by omega) (by omega), show inR 0 ((b.Cars.length : Int) - 1) (car : Int) = true from nv'.2 ⟨by omega, by omega⟩, Bool.not_true]
  cases inR (-1) (b.Floors - 1) x.Floor with
  | false => rfl
  | true =>
  cases inR 0 3 x.Dir with
  | false => rfl
  | true =>
  cases inR 0 3 x.Door with
  | false => rfl
  | true =>
  cases inR 0 1000000 x.Still with
  | false => rfl
  | true =>
    simp only [Bool.not_true, cond_false, Bool.true_and]
    cases hL : x.Late with
    | false =>
      rw [hL] at h'
      simp only [cond_false, Option.bind_some, Bool.false_and, Bool.not_false, Bool.true_and, h']
      cases allN (dutP b car x) x.Duties.length 0 <;> rfl
    | true =>
      rw [hL] at h'
      cases hD : decide ((0 : Int) < (x.Duties.length : Int)) with
      | true => simp only [cond_true, Option.bind_some]; rfl
      | false =>
        simp only [cond_true, cond_false, Option.bind_some, Bool.and_false, Bool.not_false, Bool.true_and, h']
        cases allN (dutP b car x) x.Duties.length 0 <;> rfl
def nik' (x : NewCar) : Bool := inR 0 2 x.Sweep_Dir && inR 0 7 x.Sweep_Opened
def doorZ (x : NewCar) : Bool := (x.Door_Stage == 0) && ((x.Door_Time == 0) && ((x.Door_Since == 0) && ((x.Door_Nudge == false) && ((x.Door_Cycles == 0) && true))))
def nko' (x : NewCar) : Bool := bif x.Door_Stage == 0 then doorZ x else inR 0 3 x.Door_Stage && (inR 0 1000000 x.Door_Time && (inR 0 1000000 x.Door_Since && inR 0 1000000 x.Door_Cycles))
def motZ (x : NewCar) : Bool := (x.Motion_Command == 0) && ((x.Motion_Time == 0) && ((x.Motion_Floor == 0) && true))
def motOK (fl : Int) (x : NewCar) : Bool := inR 0 1000000 x.Motion_Time && (bif x.Motion_Command == 0 then x.Motion_Floor == 0 else bif x.Motion_Command == 1 then inR 0 (fl - 1) x.Motion_Floor && inR 0 (fl - 1) (x.Motion_Floor + 1) else bif x.Motion_Command == 2 then inR 0 (fl - 1) x.Motion_Floor && inR 0 (fl - 1) (x.Motion_Floor - 1) else false)
def carZ (x : NewCar) : Bool := (x.Sweep_Dir == 0) && ((x.Sweep_Opened == 0) && ((x.Door_Stage == 0) && ((x.Door_Time == 0) && ((x.Door_Since == 0) && ((x.Door_Nudge == false) && ((x.Door_Cycles == 0) && ((x.Motion_Command == 0) && ((x.Motion_Time == 0) && ((x.Motion_Floor == 0) && ((x.Calls == 0) && ((x.Shown == 0) && ((x.Idle == 0) && ((x.Fault == true) && true)))))))))))))
def nn0' (fl : Int) (x : NewCar) : Bool := (Int.fdiv x.Calls ((2 : Int) ^ (Int.toNat fl)) == 0) && (inR 0 2 x.Shown && inR 0 1000000 x.Idle)
def nk1' (fl : Int) (x : NewCar) : Bool := nik' x && (nko' x && (motOK fl x && ((doorZ x || motZ x) && nn0' fl x)))
def newOK (b : Bldg) (x : NewCar) : Bool := bif x.Fault then carZ x else nk1' b.Floors x
theorem njs' (x : NewCar) : new' x.Sweep_Dir x.Sweep_Opened = some ((nik' x, ()), ()) := by
  unfold new' nik' inR
  cases decide (0 ≤ x.Sweep_Dir) <;> cases decide (x.Sweep_Dir ≤ 2) <;> cases decide (0 ≤ x.Sweep_Opened) <;> rfl
theorem ns1' (n : Int) : ne1' n = some ((inR 0 1000000 n, ()), ()) := by
  unfold ne1' inR
  cases decide (0 ≤ n) <;> rfl
theorem nng' (x : NewCar) : nis' x.Door_Stage x.Door_Time x.Door_Since x.Door_Nudge x.Door_Cycles = some ((nko' x, ()), ()) := by
  unfold nis' nko' doorZ
  simp only [ns1', Option.bind_some]
  cases x.Door_Stage == 0 with
  | true => rfl
  | false =>
    unfold inR
    cases decide (0 ≤ x.Door_Stage) <;> cases decide (x.Door_Stage ≤ 3) <;> cases (decide (0 ≤ x.Door_Time) && decide (x.Door_Time ≤ 1000000)) <;> cases (decide (0 ≤ x.Door_Since) && decide (x.Door_Since ≤ 1000000)) <;> rfl
theorem nlw' {fl : Int} (h : 2 ≤ fl ∧ fl ≤ 8) (x : NewCar) : ngw' fl x.Motion_Command x.Motion_Time x.Motion_Floor = some ((motOK fl x, ()), ()) := by
  unfold ngw' motOK
  rw [decide_eq_false (show ¬ fl < 2 by omega), decide_eq_false (show ¬ 32 < fl by omega)]
  simp only [cond_false]
  by_cases t : 0 ≤ x.Motion_Time ∧ x.Motion_Time ≤ 1000000
  · rw [decide_eq_false (show ¬ x.Motion_Time < 0 by omega), decide_eq_false (show ¬ 1000000 < x.Motion_Time by omega), show inR 0 1000000 x.Motion_Time = true from nv'.2 t]
    simp only [cond_false, Bool.true_and]
    by_cases f : 0 ≤ x.Motion_Floor ∧ x.Motion_Floor < fl
    · rw [decide_eq_false (show ¬ x.Motion_Floor < 0 by omega), decide_eq_false (show ¬ fl ≤ x.Motion_Floor by omega), show inR 0 (fl - 1) x.Motion_Floor = true from nv'.2 ⟨f.1, by omega⟩]
      simp only [cond_false, Bool.true_and]
      by_cases c0 : x.Motion_Command = 0
      · rw [c0]; rfl
      · rw [beq_f c0]
        simp only [cond_false]
        unfold nj3'
        by_cases c1 : x.Motion_Command = 1
        · rw [c1]
          simp only [bne_self_eq_false, cond_false, Option.bind_some, show inB 1 3 = true from rfl, cond_true, beq_self_eq_true]
          rw [show List.getD [(0 : Int), 1, -1] (Int.toNat 1) 0 = 1 from rfl, nb' (by omega) (by omega)]
          unfold inR
          by_cases z : x.Motion_Floor + 1 < fl
          · rw [decide_eq_true z, decide_eq_true (show 0 ≤ x.Motion_Floor + 1 by omega), decide_eq_true (show x.Motion_Floor + 1 ≤ fl - 1 by omega)]; rfl
          · rw [decide_eq_false z, decide_eq_true (show 0 ≤ x.Motion_Floor + 1 by omega), decide_eq_false (show ¬ x.Motion_Floor + 1 ≤ fl - 1 by omega)]; rfl
        · rw [bne_t c1, beq_f c1]
          simp only [cond_true, cond_false]
          by_cases c2 : x.Motion_Command = 2
          · rw [c2]
            simp only [bne_self_eq_false, cond_false, Option.bind_some, show inB 2 3 = true from rfl, cond_true, beq_self_eq_true]
            rw [show List.getD [(0 : Int), 1, -1] (Int.toNat 2) 0 = -1 from rfl, nb' (by omega) (by omega), show x.Motion_Floor + -1 = x.Motion_Floor - 1 by omega]
            unfold inR
            by_cases z : 0 ≤ x.Motion_Floor - 1
            · rw [decide_eq_true z, decide_eq_true (show x.Motion_Floor - 1 < fl by omega), decide_eq_true (show x.Motion_Floor - 1 ≤ fl - 1 by omega)]; rfl
            · rw [decide_eq_false z]; rfl
          · rw [bne_t c2, beq_f c2]
            rfl
    · have hf : inR 0 (fl - 1) x.Motion_Floor = false := by
        cases hq : inR 0 (fl - 1) x.Motion_Floor with
        | false => rfl
        | true => have := nv'.1 hq; omega
      rw [hf]
      have hz : (x.Motion_Floor == 0) = false := beq_f (by omega)
      rw [hz]
      simp only [Bool.false_and]
      have e : (bif x.Motion_Command == 0 then false else bif x.Motion_Command == 1 then false else bif x.Motion_Command == 2 then false else false) = false := by
        cases x.Motion_Command == 0 <;> cases x.Motion_Command == 1 <;> cases x.Motion_Command == 2 <;> rfl
      rw [e]
      by_cases z : x.Motion_Floor < 0
      · rw [decide_eq_true z]; rfl
      · rw [decide_eq_false z, decide_eq_true (show fl ≤ x.Motion_Floor by omega)]; rfl
  · have hf : inR 0 1000000 x.Motion_Time = false := by
      cases hq : inR 0 1000000 x.Motion_Time with
      | false => rfl
      | true => exact absurd (nv'.1 hq) t
    rw [hf]
    simp only [Bool.false_and]
    by_cases z : x.Motion_Time < 0
    · rw [decide_eq_true z]; rfl
    · rw [decide_eq_false z, decide_eq_true (show 1000000 < x.Motion_Time by omega)]; rfl
theorem nqs' {b : Bldg} (hb : b.small) (hcode : b.code = 0) (x : NewCar) : ng5' b.Floors b.Debounce b.Room b.Park b.Empty b.Full b.Over b.Cars x.Sweep_Dir x.Sweep_Opened x.Door_Stage x.Door_Time x.Door_Since x.Door_Nudge x.Door_Cycles x.Motion_Command x.Motion_Time x.Motion_Floor x.Calls x.Shown x.Idle x.Fault = some ((newOK b x, ()), ()) := by
  have lo := hb.lo
  have hi8 := hb.hi
  have hmin : Min.min (Int.toNat b.Floors) (IntKind.bits IntKind.u32) = Int.toNat b.Floors := Nat.min_eq_left (by show _ ≤ 32; omega)
  unfold ng5' newOK
  rw [ncm', hcode]
  simp only [Option.bind_some, bne_self_eq_false, cond_false]
  have main : nk1' b.Floors x = nk1' b.Floors x := rfl
  cases hF : x.Fault with
  | true =>
    have hZ : carZ x = ((x.Sweep_Dir == 0) && ((x.Sweep_Opened == 0) && ((x.Door_Stage == 0) && ((x.Door_Time == 0) && ((x.Door_Since == 0) && ((x.Door_Nudge == false) && ((x.Door_Cycles == 0) && ((x.Motion_Command == 0) && ((x.Motion_Time == 0) && ((x.Motion_Floor == 0) && ((x.Calls == 0) && ((x.Shown == 0) && ((x.Idle == 0) && ((true == true) && true)))))))))))))) := by unfold carZ; rw [hF]
    rw [cond_true, ← hZ]
    cases hq : carZ x with
    | false => rfl
    | true =>
      have hq' := hq
      unfold carZ at hq'
      simp only [Bool.and_eq_true, beq_iff_eq] at hq'
      obtain ⟨e1, e2, e3, e4, e5, e6, e7, e8, e9, e10, e11, e12, e13, _⟩ := hq'
      simp only [Bool.not_true, Option.bind_some, cond_false, cond_true, njs', nng', nlw' ⟨lo, hi8⟩]
      have s1 : nik' x = true := by unfold nik'; rw [e1, e2]; rfl
      have s2 : nko' x = true := by unfold nko' doorZ; rw [e3, e4, e5, e6, e7]; rfl
      have s3 : motOK b.Floors x = true := by unfold motOK; rw [e8, e9, e10]; rfl
      rw [s1, s2, s3, e3, e4, e5, e6, e7, e11, e12, e13]
      simp only [beq_self_eq_true, Bool.and_true, Bool.not_true, cond_false, Option.bind_some]
      rw [decide_eq_true (show 0 ≤ b.Floors by omega), hmin]
      simp only [cond_true]
      rw [show Int.fdiv 0 ((2 : Int) ^ Int.toNat b.Floors) = 0 from Int.zero_fdiv _]
      rfl
  | false =>
    simp only [Option.bind_some, cond_false, njs', nng', nlw' ⟨lo, hi8⟩]
    unfold nk1'
    cases nik' x with
    | false => rfl
    | true =>
    cases nko' x with
    | false => rfl
    | true =>
    cases motOK b.Floors x with
    | false => rfl
    | true =>
      simp only [Bool.not_true, cond_false, Bool.true_and]
      rw [show ((x.Door_Stage == 0) && ((x.Door_Time == 0) && ((x.Door_Since == 0) && ((x.Door_Nudge == false) && ((x.Door_Cycles == 0) && true))))) = doorZ x from rfl, show ((x.Motion_Command == 0) && ((x.Motion_Time == 0) && ((x.Motion_Floor == 0) && true))) = motZ x from rfl]
      have fin : (bif decide (0 ≤ b.Floors) then bif (Int.fdiv x.Calls ((2 : Int) ^ (Int.toNat b.Floors)) == 0) then bif decide (0 ≤ x.Shown) then bif decide (x.Shown ≤ 2) then bif decide (0 ≤ x.Idle) then some ((decide (x.Idle ≤ 1000000), ()), ()) else some ((false, ()), ()) else some ((false, ()), ()) else some ((false, ()), ()) else some ((false, ()), ()) else none) = some ((nn0' b.Floors x, ()), ()) := by
        rw [decide_eq_true (show 0 ≤ b.Floors by omega)]
        unfold nn0' inR
        cases Int.fdiv x.Calls ((2 : Int) ^ (Int.toNat b.Floors)) == 0 <;> cases decide (0 ≤ x.Shown) <;> cases decide (x.Shown ≤ 2) <;> cases decide (0 ≤ x.Idle) <;> rfl
      cases doorZ x with
      | true =>
        simp only [Bool.not_true, cond_false, Option.bind_some, Bool.true_or, Bool.true_and]
        rw [hmin, fin]; rfl
      | false =>
        cases motZ x with
        | true =>
          simp only [Bool.not_true, Bool.not_false, cond_true, cond_false, Option.bind_some, Bool.false_or, Bool.true_and]
          rw [hmin, fin]; rfl
        | false => rfl
def eachN {α : Type} (p : Nat → α → Bool) (d : α) (l : List α) (n : Int) : Bool := ((l.length : Int) == n) && allN (fun i => p i (l.getD i d)) l.length 0
def nia' (x : Loaded) : Bool := inR 0 4 x.Class
theorem nqp' {b : Bldg} (hb : b.small) (hcode : b.code = 0) {l : List Debounced} (_hl : l.length ≤ 100000) : nbc' l (b.Cars.length : Int) b.Floors b.Debounce b.Room b.Park b.Empty b.Full b.Over b.Cars = some ((eachN (fun _ x => conOK b.Debounce x) nn' l (b.Cars.length : Int), ()), (b.tup, ())) := by
  have h5 : 100000 ≤ ng' := by decide
  have lo := hb.lo
  have hcc := ncj' hcode
  unfold nbc' eachN
  by_cases hn : l.length = b.Cars.length
  · have h := nf' (nbb' (step := fun x => nq' x.1.2.1 x.1.2.2.1 x.1.2.2.2.1 x.2.1.1 x.2.1.2.1 x.2.1.2.2.1 x.2.1.2.2.2.1 x.2.1.2.2.2.2.1 x.2.1.2.2.2.2.2.1 x.2.1.2.2.2.2.2.2.1 x.2.1.2.2.2.2.2.2.2.1) l.length (fun i => (((), l, (l.length : Int), (i : Int), ()), (b.tup, ()))) (fun i => (fun _ x => conOK b.Debounce x) i (l.getD i nn')) (Sum.inl ((), (b.tup, ()))) (Sum.inr ((false, ()), (b.tup, ()))) (fun i hi => by
      show nq' l (l.length : Int) (i : Int) b.Floors b.Debounce b.Room b.Park b.Empty b.Full b.Over b.Cars = _
      unfold nq' nd9'
      simp only [decide_eq_true (show (i : Int) < (l.length : Int) by omega), nc' (show (0 : Int) ≤ (i : Int) by omega) (show (i : Int) < (l.length : Int) by omega), cond_true, Int.toNat_natCast, wrap1 hi (show l.length ≤ ng' by omega)]
      rw [show Debounced.mk 0 false false false false 0 0 0 0 0 0 0 0 0 0 0 0 0 0 0 0 0 0 0 0 0 0 0 0 0 0 0 0 0 0 0 0 0 0 0 0 = nn' from rfl]
      rw [npq' b.Debounce (l.getD i nn')]
      simp only [Option.bind_some]
      generalize conOK b.Debounce (l.getD i nn') = q
      cases q <;> rfl) (by
      show nq' l (l.length : Int) (l.length : Int) b.Floors b.Debounce b.Room b.Park b.Empty b.Full b.Over b.Cars = _
      unfold nq'
      simp only [decide_eq_false (Int.lt_irrefl (l.length : Int)), cond_false]; rfl) l.length 0 (by omega)) (by omega)
    have h' : n9' (((), l, (l.length : Int), (0 : Int), ()), (b.tup, ())) = _ := h
    simp only [Bldg.tup] at h'
    rw [show ((l.length : Int) != (b.Cars.length : Int)) = false by rw [hn, bne_self_eq_false], show ((l.length : Int) == (b.Cars.length : Int)) = true by rw [hn]; exact beq_self_eq_true _]
    simp only [cond_false, Bool.true_and, h']
    generalize allN (fun i => (fun _ x => conOK b.Debounce x) i (l.getD i nn')) l.length 0 = q
    cases q <;> rfl
  · rw [show ((l.length : Int) != (b.Cars.length : Int)) = true from bne_t (by omega), beq_f (show ¬ (l.length : Int) = (b.Cars.length : Int) by omega)]
    rfl
theorem ntw' {b : Bldg} (hb : b.small) (hcode : b.code = 0) {l : List Belief} (_hl : l.length ≤ 100000) (hd : ∀ x ∈ l, x.Duties.length ≤ 100000) : nbl' l (b.Cars.length : Int) b.Floors b.Debounce b.Room b.Park b.Empty b.Full b.Over b.Cars = some ((eachN (fun i x => belOK b i x) (Belief.mk 0 0 0 [] 0 false) l (b.Cars.length : Int), ()), (b.tup, ())) := by
  have h5 : 100000 ≤ ng' := by decide
  have lo := hb.lo
  have hcc := ncj' hcode
  unfold nbl' eachN
  by_cases hn : l.length = b.Cars.length
  · have h := nf' (nbb' (step := fun x => ns' x.1.2.1 x.1.2.2.1 x.1.2.2.2.1 x.2.1.1 x.2.1.2.1 x.2.1.2.2.1 x.2.1.2.2.2.1 x.2.1.2.2.2.2.1 x.2.1.2.2.2.2.2.1 x.2.1.2.2.2.2.2.2.1 x.2.1.2.2.2.2.2.2.2.1) l.length (fun i => (((), l, (l.length : Int), (i : Int), ()), (b.tup, ()))) (fun i => (fun i x => belOK b i x) i (l.getD i (Belief.mk 0 0 0 [] 0 false))) (Sum.inl ((), (b.tup, ()))) (Sum.inr ((false, ()), (b.tup, ()))) (fun i hi => by
      show ns' l (l.length : Int) (i : Int) b.Floors b.Debounce b.Room b.Park b.Empty b.Full b.Over b.Cars = _
      unfold ns' nd7'
      simp only [decide_eq_true (show (i : Int) < (l.length : Int) by omega), nc' (show (0 : Int) ≤ (i : Int) by omega) (show (i : Int) < (l.length : Int) by omega), cond_true, Int.toNat_natCast, wrap1 hi (show l.length ≤ ng' by omega)]
      
      have hm := nes' (Belief.mk 0 0 0 [] 0 false) hi
      rw [nqq' hb hcode (show i < b.Cars.length by omega) (l.getD i (Belief.mk 0 0 0 [] 0 false)) (hd _ hm)]
      simp only [Option.bind_some]
      generalize belOK b i (l.getD i (Belief.mk 0 0 0 [] 0 false)) = q
      cases q <;> rfl) (by
      show ns' l (l.length : Int) (l.length : Int) b.Floors b.Debounce b.Room b.Park b.Empty b.Full b.Over b.Cars = _
      unfold ns'
      simp only [decide_eq_false (Int.lt_irrefl (l.length : Int)), cond_false]; rfl) l.length 0 (by omega)) (by omega)
    have h' : nbh' (((), l, (l.length : Int), (0 : Int), ()), (b.tup, ())) = _ := h
    simp only [Bldg.tup] at h'
    rw [show ((l.length : Int) != (b.Cars.length : Int)) = false by rw [hn, bne_self_eq_false], show ((l.length : Int) == (b.Cars.length : Int)) = true by rw [hn]; exact beq_self_eq_true _]
    simp only [cond_false, Bool.true_and, h']
    generalize allN (fun i => (fun i x => belOK b i x) i (l.getD i (Belief.mk 0 0 0 [] 0 false))) l.length 0 = q
    cases q <;> rfl
  · rw [show ((l.length : Int) != (b.Cars.length : Int)) = true from bne_t (by omega), beq_f (show ¬ (l.length : Int) = (b.Cars.length : Int) by omega)]
    rfl
theorem ntu' {b : Bldg} (hb : b.small) (hcode : b.code = 0) {l : List NewCar} (_hl : l.length ≤ 100000) : nbk' l (b.Cars.length : Int) b.Floors b.Debounce b.Room b.Park b.Empty b.Full b.Over b.Cars = some ((eachN (fun _ x => newOK b x) noNewCar l (b.Cars.length : Int), ()), (b.tup, ())) := by
  have h5 : 100000 ≤ ng' := by decide
  have lo := hb.lo
  have hcc := ncj' hcode
  unfold nbk' eachN
  by_cases hn : l.length = b.Cars.length
  · have h := nf' (nbb' (step := fun x => nt' x.1.2.1 x.1.2.2.1 x.1.2.2.2.1 x.2.1.1 x.2.1.2.1 x.2.1.2.2.1 x.2.1.2.2.2.1 x.2.1.2.2.2.2.1 x.2.1.2.2.2.2.2.1 x.2.1.2.2.2.2.2.2.1 x.2.1.2.2.2.2.2.2.2.1) l.length (fun i => (((), l, (l.length : Int), (i : Int), ()), (b.tup, ()))) (fun i => (fun _ x => newOK b x) i (l.getD i noNewCar)) (Sum.inl ((), (b.tup, ()))) (Sum.inr ((false, ()), (b.tup, ()))) (fun i hi => by
      show nt' l (l.length : Int) (i : Int) b.Floors b.Debounce b.Room b.Park b.Empty b.Full b.Over b.Cars = _
      unfold nt' nd8'
      simp only [decide_eq_true (show (i : Int) < (l.length : Int) by omega), nc' (show (0 : Int) ≤ (i : Int) by omega) (show (i : Int) < (l.length : Int) by omega), cond_true, Int.toNat_natCast, wrap1 hi (show l.length ≤ ng' by omega)]
      rw [show NewCar.mk 0 0 0 0 0 false 0 0 0 0 0 0 0 false = noNewCar from rfl]
      rw [nqs' hb hcode (l.getD i noNewCar)]
      simp only [Option.bind_some]
      generalize newOK b (l.getD i noNewCar) = q
      cases q <;> rfl) (by
      show nt' l (l.length : Int) (l.length : Int) b.Floors b.Debounce b.Room b.Park b.Empty b.Full b.Over b.Cars = _
      unfold nt'
      simp only [decide_eq_false (Int.lt_irrefl (l.length : Int)), cond_false]; rfl) l.length 0 (by omega)) (by omega)
    have h' : nbi' (((), l, (l.length : Int), (0 : Int), ()), (b.tup, ())) = _ := h
    simp only [Bldg.tup] at h'
    rw [show ((l.length : Int) != (b.Cars.length : Int)) = false by rw [hn, bne_self_eq_false], show ((l.length : Int) == (b.Cars.length : Int)) = true by rw [hn]; exact beq_self_eq_true _]
    simp only [cond_false, Bool.true_and, h']
    generalize allN (fun i => (fun _ x => newOK b x) i (l.getD i noNewCar)) l.length 0 = q
    cases q <;> rfl
  · rw [show ((l.length : Int) != (b.Cars.length : Int)) = true from bne_t (by omega), beq_f (show ¬ (l.length : Int) = (b.Cars.length : Int) by omega)]
    rfl
theorem nug' {b : Bldg} (hb : b.small) (hcode : b.code = 0) {l : List Loaded} (_hl : l.length ≤ 100000) : nbt' l (b.Cars.length : Int) = some ((eachN (fun _ x => nia' x) n3' l (b.Cars.length : Int), ()), ()) := by
  have h5 : 100000 ≤ ng' := by decide
  have lo := hb.lo
  have hcc := ncj' hcode
  unfold nbt' eachN
  by_cases hn : l.length = b.Cars.length
  · have h := nf' (nbb' (step := fun x => nz' x.1.2.1 x.1.2.2.1 x.1.2.2.2.1) l.length (fun i => (((), l, (l.length : Int), (i : Int), ()), ())) (fun i => (fun _ x => nia' x) i (l.getD i n3')) (Sum.inl ((), ())) (Sum.inr ((false, ()), ())) (fun i hi => by
      show nz' l (l.length : Int) (i : Int) = _
      unfold nz' nf8'
      simp only [decide_eq_true (show (i : Int) < (l.length : Int) by omega), nc' (show (0 : Int) ≤ (i : Int) by omega) (show (i : Int) < (l.length : Int) by omega), cond_true, Int.toNat_natCast, wrap1 hi (show l.length ≤ ng' by omega)]
      rw [show Loaded.mk 0 = n3' from rfl]
      have hk : ∀ c : Int, (Option.bind (bif decide (0 ≤ c) then some ((decide (c ≤ 4), ()), ()) else some ((false, ()), ())) fun y1 : (Bool × Unit) × Unit => some ((y1.1.1, ()), ())) = some ((inR 0 4 c, ()), ()) := fun c => by
        unfold inR
        cases decide (0 ≤ c) <;> rfl
      rw [hk]
      simp only [Option.bind_some]
      show (bif !(nia' (l.getD i n3')) then _ else _) = _
      generalize nia' (l.getD i n3') = q
      cases q <;> rfl) (by
      show nz' l (l.length : Int) (l.length : Int) = _
      unfold nz'
      simp only [decide_eq_false (Int.lt_irrefl (l.length : Int)), cond_false]) l.length 0 (by omega)) (by omega)
    have h' : nbp' (((), l, (l.length : Int), (0 : Int), ()), ()) = _ := h
    skip
    rw [show ((l.length : Int) != (b.Cars.length : Int)) = false by rw [hn, bne_self_eq_false], show ((l.length : Int) == (b.Cars.length : Int)) = true by rw [hn]; exact beq_self_eq_true _]
    simp only [cond_false, Bool.true_and, h']
    generalize allN (fun i => (fun _ x => nia' x) i (l.getD i n3')) l.length 0 = q
    cases q <;> rfl
  · rw [show ((l.length : Int) != (b.Cars.length : Int)) = true from bne_t (by omega), beq_f (show ¬ (l.length : Int) = (b.Cars.length : Int) by omega)]
    rfl
def nkq' (b : Bldg) (m : Mch) : Bool := fitsV b m.Image && (decide (m.Store.ok b.Room) && (((m.Expect.length : Int) == (m.Image.Entries.length : Int)) && (nhf' m.Expect && (nhf' [m.Tick, m.Faults, m.Refused] && (eachN (fun _ x => conOK b.Debounce x) nn' m.Contacts (b.Cars.length : Int) && (eachN (fun i x => belOK b i x) (Belief.mk 0 0 0 [] 0 false) m.Beliefs (b.Cars.length : Int) && (eachN (fun _ x => newOK b x) noNewCar m.Cars (b.Cars.length : Int) && (eachN (fun _ x => nia' x) n3' m.Loads (b.Cars.length : Int) && ((m.Lit.length : Int) == (b.Cars.length : Int))))))))))
theorem ng7' {b : Bldg} (hb : b.small) (hcode : b.code = 0) {m : Mch} (hm : m.fit) : nbr' b.Floors b.Debounce b.Room b.Park b.Empty b.Full b.Over b.Cars m.Image.Phases m.Image.Flags m.Image.Leaving m.Image.Entries m.Store.h0 m.Store.h1 m.Store.sel m.Contacts m.Beliefs m.Cars m.Loads m.Expect m.Lit m.Tick m.Faults m.Refused = some ((nkq' b m, ()), ()) := by
  have hcc := ncj' hcode
  have hex := hm.ex
  unfold nbr' nkq'
  rw [nm8' hb m.Image (by omega) hm.im, nee', nlv' (xs := m.Expect) (by omega), nlv' (xs := [m.Tick, m.Faults, m.Refused]) (by show 3 ≤ 1000000; omega)]
  simp only [Option.bind_some]
  rw [show decide (Sto.ok b.Room ⟨m.Store.h0, m.Store.h1, m.Store.sel⟩) = decide (m.Store.ok b.Room) from rfl]
  cases fitsV b m.Image with
  | false => rfl
  | true =>
  cases decide (m.Store.ok b.Room) with
  | false => rfl
  | true =>
  simp only [bne]
  cases ((m.Expect.length : Int) == (m.Image.Entries.length : Int)) with
  | false => rfl
  | true =>
  cases nhf' m.Expect with
  | false => rfl
  | true =>
  cases nhf' [m.Tick, m.Faults, m.Refused] with
  | false => rfl
  | true =>
  simp only [Bool.not_true, cond_false, Bool.true_and]
  rw [nqp' hb hcode hm.co]
  simp only [Option.bind_some, Bldg.tup]
  rw [ntw' hb hcode hm.be hm.du]
  simp only [Option.bind_some, Bldg.tup]
  rw [ntu' hb hcode hm.ca]
  simp only [Option.bind_some, Bldg.tup]
  rw [nug' hb hcode hm.lo]
  simp only [Option.bind_some]
  generalize eachN (fun _ x => conOK b.Debounce x) nn' m.Contacts (b.Cars.length : Int) = q1
  generalize eachN (fun i x => belOK b i x) (Belief.mk 0 0 0 [] 0 false) m.Beliefs (b.Cars.length : Int) = q2
  generalize eachN (fun _ x => newOK b x) noNewCar m.Cars (b.Cars.length : Int) = q3
  generalize eachN (fun _ x => nia' x) n3' m.Loads (b.Cars.length : Int) = q4
  cases q1 <;> cases q2 <;> cases q3 <;> cases q4 <;> rfl
theorem noe' {α : Type} {p : Nat → α → Bool} {d a : α} {n : Nat} (h : ∀ i, i < n → p i a = true) : eachN p d (List.replicate n a) (n : Int) = true := by
  unfold eachN
  rw [List.length_replicate, beq_self_eq_true, Bool.true_and]
  refine npl' n 0 fun k _ hk => ?_
  have hk' : k < n := by omega
  rw [show (List.replicate n a).getD k d = a by simp [List.getD_eq_getElem?_getD, hk']]
  exact h k hk'
theorem n3v' {b : Bldg} (h : b.code = 0) : 1 ≤ b.Debounce ∧ b.Debounce ≤ 16 := by
  unfold Bldg.code at h
  cases h1 : inR 2 32 b.Floors <;> rw [h1] at h
  · cases h
  cases h2 : inR 1 8 (b.Cars.length : Int) <;> rw [h2] at h
  · cases h
  cases h3 : inR 1 16 b.Debounce <;> rw [h3] at h
  · cases h
  exact nv'.1 h3
theorem nz8' {fl : Int} {c : Car} (h : ncy' fl c = true) : 0 ≤ c.Deadline ∧ c.Deadline ≤ 1000000 := by
  unfold ncy' at h
  rw [Bool.and_eq_true, List.all_eq_true] at h
  have := nv'.1 (h.1 c.Deadline (List.mem_cons_self ..))
  omega
theorem n0x' {b : Bldg} (h : b.code = 0) {c : Car} (hc : c ∈ b.Cars) : 0 ≤ c.Deadline ∧ c.Deadline ≤ 1000000 := by
  unfold Bldg.code at h
  cases h1 : inR 2 32 b.Floors <;> rw [h1] at h
  · cases h
  cases h2 : inR 1 8 (b.Cars.length : Int) <;> rw [h2] at h
  · cases h
  cases h3 : inR 1 16 b.Debounce <;> rw [h3] at h
  · cases h
  cases h4 : inR 1 10000 b.Park <;> rw [h4] at h
  · cases h
  cases h5 : b.Cars.all (ncy' b.Floors) <;> rw [h5] at h
  · cases h
  exact nz8' (List.all_eq_true.1 h5 c hc)
theorem n4r' {n : Int} (h : 1 ≤ n ∧ n ≤ 16) : conOK n nn' = true := by
  unfold conOK
  rw [decide_eq_true h.1, decide_eq_true h.2, Bool.true_and, Bool.true_and]
  refine npl' 36 0 fun k _ hk => ?_
  unfold cntP
  have : (cntL nn').getD k 0 = 0 := by
    show (List.replicate 36 (0 : Int)).getD k 0 = 0
    rw [List.getD_eq_getElem?_getD, List.getElem?_replicate]
    split <;> rfl
  rw [this, decide_eq_true (show (0 : Int) < n by omega)]; rfl
theorem n2y' {b : Bldg} (hb : b.small) {m : Img} (hm : ImgOK b m) (hfit : 18 * ((b.Cars.length : Int) + (m.Entries.length : Int)) + 6 ≤ b.Room) {s : Sto} (hs : s.ok b.Room) : nkq' b (nfa' b m s) = true := by
  have hcode := hm.code
  have lo := hb.lo
  unfold nkq' nfa'
  simp only
  rw [nzl' hm hfit, decide_eq_true hs, List.length_map, beq_self_eq_true, List.length_replicate, beq_self_eq_true]
  have c1 : nhf' (m.Entries.map (nea' b)) = true := by
    unfold nhf'
    rw [List.all_map, List.all_eq_true]
    intro e he
    show inR 0 1000000 (nea' b e) = true
    unfold nea'
    cases hd : decide (0 ≤ e.Car) with
    | false => rfl
    | true =>
      have h0 : 0 ≤ e.Car := of_decide_eq_true hd
      have hc := (nfw'.1 (hm.en e he)).2.1.2
      have : carAt b e.Car.toNat ∈ b.Cars := nes' _ (by omega)
      exact nv'.2 (n0x' hcode this)
  have e1 : eachN (fun _ x => conOK b.Debounce x) nn' (List.replicate b.Cars.length nn') (b.Cars.length : Int) = true := noe' fun _ _ => n4r' (n3v' hcode)
  have e2 : eachN (fun i x => belOK b i x) (Belief.mk 0 0 0 [] 0 false) (List.replicate b.Cars.length newBel) (b.Cars.length : Int) = true := noe' fun i _ => by
    unfold belOK
    rw [show inR (-1) (b.Floors - 1) newBel.Floor = true from nv'.2 ⟨by show (-1 : Int) ≤ -1; omega, by show (-1 : Int) ≤ _; omega⟩]
    rfl
  have e3 : eachN (fun _ x => newOK b x) noNewCar (List.replicate b.Cars.length noNewCar) (b.Cars.length : Int) = true := noe' fun _ _ => by
    show nk1' b.Floors noNewCar = true
    unfold nk1' nn0'
    rw [show noNewCar.Calls = 0 from rfl, Int.zero_fdiv]
    rfl
  have e4 : eachN (fun _ x => nia' x) n3' (List.replicate b.Cars.length n3') (b.Cars.length : Int) = true := noe' fun _ _ => rfl
  rw [c1, e1, e2, e3, e4]
  rfl
end Go.Ovl
