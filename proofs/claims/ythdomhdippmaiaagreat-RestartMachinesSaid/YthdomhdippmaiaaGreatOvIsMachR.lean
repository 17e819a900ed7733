/- Layer 26: which machines belong to a building: the reference's side. -/
import Derived.Test.YthdomhdippmaiaaGreatOvIsMach
import Derived.Test.YthdomhdippmaiaaGreatOvFreshR
namespace Go.Ovl
open Go Go.Ab
set_option maxRecDepth 100000
theorem nua' (n : Int) (x : Debounced) : ni7' n x.Contacts_Floors x.Contacts_Up x.Contacts_Down x.Contacts_Open x.Contacts_Closed x.Count_0 x.Count_1 x.Count_2 x.Count_3 x.Count_4 x.Count_5 x.Count_6 x.Count_7 x.Count_8 x.Count_9 x.Count_10 x.Count_11 x.Count_12 x.Count_13 x.Count_14 x.Count_15 x.Count_16 x.Count_17 x.Count_18 x.Count_19 x.Count_20 x.Count_21 x.Count_22 x.Count_23 x.Count_24 x.Count_25 x.Count_26 x.Count_27 x.Count_28 x.Count_29 x.Count_30 x.Count_31 x.Count_32 x.Count_33 x.Count_34 x.Count_35 = some ((conOK n x, ()), ()) := by
  have h := nf' (nbb' (step := fun x => nei' x.1.1 x.1.2.2.1 x.2.1.1 x.2.1.2.1 x.2.1.2.2.1 x.2.1.2.2.2.1 x.2.1.2.2.2.2.1 x.2.1.2.2.2.2.2.1 x.2.1.2.2.2.2.2.2.1 x.2.1.2.2.2.2.2.2.2.1 x.2.1.2.2.2.2.2.2.2.2.1 x.2.1.2.2.2.2.2.2.2.2.2.1 x.2.1.2.2.2.2.2.2.2.2.2.2.1 x.2.1.2.2.2.2.2.2.2.2.2.2.2.1 x.2.1.2.2.2.2.2.2.2.2.2.2.2.2.1 x.2.1.2.2.2.2.2.2.2.2.2.2.2.2.2.1 x.2.1.2.2.2.2.2.2.2.2.2.2.2.2.2.2.1 x.2.1.2.2.2.2.2.2.2.2.2.2.2.2.2.2.2.1 x.2.1.2.2.2.2.2.2.2.2.2.2.2.2.2.2.2.2.1 x.2.1.2.2.2.2.2.2.2.2.2.2.2.2.2.2.2.2.2.1 x.2.1.2.2.2.2.2.2.2.2.2.2.2.2.2.2.2.2.2.2.1 x.2.1.2.2.2.2.2.2.2.2.2.2.2.2.2.2.2.2.2.2.2.1 x.2.1.2.2.2.2.2.2.2.2.2.2.2.2.2.2.2.2.2.2.2.2.1 x.2.1.2.2.2.2.2.2.2.2.2.2.2.2.2.2.2.2.2.2.2.2.2.1 x.2.1.2.2.2.2.2.2.2.2.2.2.2.2.2.2.2.2.2.2.2.2.2.2.1 x.2.1.2.2.2.2.2.2.2.2.2.2.2.2.2.2.2.2.2.2.2.2.2.2.2.1 x.2.1.2.2.2.2.2.2.2.2.2.2.2.2.2.2.2.2.2.2.2.2.2.2.2.2.1 x.2.1.2.2.2.2.2.2.2.2.2.2.2.2.2.2.2.2.2.2.2.2.2.2.2.2.2.1 x.2.1.2.2.2.2.2.2.2.2.2.2.2.2.2.2.2.2.2.2.2.2.2.2.2.2.2.2.1 x.2.1.2.2.2.2.2.2.2.2.2.2.2.2.2.2.2.2.2.2.2.2.2.2.2.2.2.2.2.1 x.2.1.2.2.2.2.2.2.2.2.2.2.2.2.2.2.2.2.2.2.2.2.2.2.2.2.2.2.2.2.1 x.2.1.2.2.2.2.2.2.2.2.2.2.2.2.2.2.2.2.2.2.2.2.2.2.2.2.2.2.2.2.2.1 x.2.1.2.2.2.2.2.2.2.2.2.2.2.2.2.2.2.2.2.2.2.2.2.2.2.2.2.2.2.2.2.2.1 x.2.1.2.2.2.2.2.2.2.2.2.2.2.2.2.2.2.2.2.2.2.2.2.2.2.2.2.2.2.2.2.2.2.1 x.2.1.2.2.2.2.2.2.2.2.2.2.2.2.2.2.2.2.2.2.2.2.2.2.2.2.2.2.2.2.2.2.2.2.1 x.2.1.2.2.2.2.2.2.2.2.2.2.2.2.2.2.2.2.2.2.2.2.2.2.2.2.2.2.2.2.2.2.2.2.2.1 x.2.1.2.2.2.2.2.2.2.2.2.2.2.2.2.2.2.2.2.2.2.2.2.2.2.2.2.2.2.2.2.2.2.2.2.2.1 x.2.1.2.2.2.2.2.2.2.2.2.2.2.2.2.2.2.2.2.2.2.2.2.2.2.2.2.2.2.2.2.2.2.2.2.2.2.1 x.2.1.2.2.2.2.2.2.2.2.2.2.2.2.2.2.2.2.2.2.2.2.2.2.2.2.2.2.2.2.2.2.2.2.2.2.2.2.1 x.2.1.2.2.2.2.2.2.2.2.2.2.2.2.2.2.2.2.2.2.2.2.2.2.2.2.2.2.2.2.2.2.2.2.2.2.2.2.2.1 x.2.1.2.2.2.2.2.2.2.2.2.2.2.2.2.2.2.2.2.2.2.2.2.2.2.2.2.2.2.2.2.2.2.2.2.2.2.2.2.2.1 x.2.1.2.2.2.2.2.2.2.2.2.2.2.2.2.2.2.2.2.2.2.2.2.2.2.2.2.2.2.2.2.2.2.2.2.2.2.2.2.2.2.1 x.2.1.2.2.2.2.2.2.2.2.2.2.2.2.2.2.2.2.2.2.2.2.2.2.2.2.2.2.2.2.2.2.2.2.2.2.2.2.2.2.2.2.1) 36 (fun i => ((n, (), (i : Int), ()), ((x.Contacts_Floors, x.Contacts_Up, x.Contacts_Down, x.Contacts_Open, x.Contacts_Closed, x.Count_0, x.Count_1, x.Count_2, x.Count_3, x.Count_4, x.Count_5, x.Count_6, x.Count_7, x.Count_8, x.Count_9, x.Count_10, x.Count_11, x.Count_12, x.Count_13, x.Count_14, x.Count_15, x.Count_16, x.Count_17, x.Count_18, x.Count_19, x.Count_20, x.Count_21, x.Count_22, x.Count_23, x.Count_24, x.Count_25, x.Count_26, x.Count_27, x.Count_28, x.Count_29, x.Count_30, x.Count_31, x.Count_32, x.Count_33, x.Count_34, x.Count_35, ()), ()))) (cntP n x) (Sum.inl ((), ())) (Sum.inr ((false, ()), ())) (fun i hi => by
    show nei' n (i : Int) x.Contacts_Floors x.Contacts_Up x.Contacts_Down x.Contacts_Open x.Contacts_Closed x.Count_0 x.Count_1 x.Count_2 x.Count_3 x.Count_4 x.Count_5 x.Count_6 x.Count_7 x.Count_8 x.Count_9 x.Count_10 x.Count_11 x.Count_12 x.Count_13 x.Count_14 x.Count_15 x.Count_16 x.Count_17 x.Count_18 x.Count_19 x.Count_20 x.Count_21 x.Count_22 x.Count_23 x.Count_24 x.Count_25 x.Count_26 x.Count_27 x.Count_28 x.Count_29 x.Count_30 x.Count_31 x.Count_32 x.Count_33 x.Count_34 x.Count_35 = _
    unfold nei'
    simp only [decide_eq_true (show (i : Int) < 36 by omega), nc' (show (0 : Int) ≤ (i : Int) by omega) (show (i : Int) < ((36 : Nat) : Int) by omega), cond_true, Int.toNat_natCast, wrap1 hi (show 36 ≤ ng' by decide)]
    show (bif decide ((cntL x).getD i 0 < 0) then _ else bif decide (n ≤ (cntL x).getD i 0) then _ else _) = some (bif (decide (0 ≤ (cntL x).getD i 0) && decide ((cntL x).getD i 0 < n)) then _ else _)
    rw [ltD ((cntL x).getD i 0) 0, leD n ((cntL x).getD i 0)]
    cases decide (0 ≤ (cntL x).getD i 0) <;> cases decide ((cntL x).getD i 0 < n) <;> rfl) (by
    show nei' n (36 : Int) x.Contacts_Floors x.Contacts_Up x.Contacts_Down x.Contacts_Open x.Contacts_Closed x.Count_0 x.Count_1 x.Count_2 x.Count_3 x.Count_4 x.Count_5 x.Count_6 x.Count_7 x.Count_8 x.Count_9 x.Count_10 x.Count_11 x.Count_12 x.Count_13 x.Count_14 x.Count_15 x.Count_16 x.Count_17 x.Count_18 x.Count_19 x.Count_20 x.Count_21 x.Count_22 x.Count_23 x.Count_24 x.Count_25 x.Count_26 x.Count_27 x.Count_28 x.Count_29 x.Count_30 x.Count_31 x.Count_32 x.Count_33 x.Count_34 x.Count_35 = _
    unfold nei'
    simp only [show decide ((36 : Int) < 36) = false from rfl, cond_false]) 36 0 (by omega)) (by omega)
  have h' : nh0' ((n, (), (0 : Int), ()), ((x.Contacts_Floors, x.Contacts_Up, x.Contacts_Down, x.Contacts_Open, x.Contacts_Closed, x.Count_0, x.Count_1, x.Count_2, x.Count_3, x.Count_4, x.Count_5, x.Count_6, x.Count_7, x.Count_8, x.Count_9, x.Count_10, x.Count_11, x.Count_12, x.Count_13, x.Count_14, x.Count_15, x.Count_16, x.Count_17, x.Count_18, x.Count_19, x.Count_20, x.Count_21, x.Count_22, x.Count_23, x.Count_24, x.Count_25, x.Count_26, x.Count_27, x.Count_28, x.Count_29, x.Count_30, x.Count_31, x.Count_32, x.Count_33, x.Count_34, x.Count_35, ()), ())) = _ := h
  unfold ni7' conOK
  rw [ltD n 1, ltD 16 n]
  cases decide (1 ≤ n) with
  | false => rfl
  | true =>
    cases decide (n ≤ 16) with
    | false => rfl
    | true =>
      simp only [Bool.not_true, cond_false, Bool.true_and, h']
      cases allN (cntP n x) 36 0 <;> rfl
theorem nu5' (n lo hi : Int) : ngy' n lo hi = some ((inR lo hi n, ()), ()) := by
  unfold ngy' inR
  cases decide (lo ≤ n) <;> rfl
def dutW (d : Duty) : Int := IntKind.i64.wrap (IntKind.i64.wrap (4 * d.Floor) + d.Dir)
def dutR (x : Belief) (i : Nat) : Bool := i == 0 || decide (dutW (x.Duties.getD (i - 1) n1') < dutW (x.Duties.getD i n1'))
def dutQ (b : Bldg) (car : Nat) (x : Belief) (i : Nat) : Bool := nbf' b (x.Duties.getD i n1').Floor (x.Duties.getD i n1').Dir && (inR 0 (carAt b car).Deadline (x.Duties.getD i n1').Age && dutR x i)
theorem n5k' {b : Bldg} (hb : b.small) {car : Nat} {x : Belief} : allN (dutQ b car x) x.Duties.length 0 = allN (dutP b car x) x.Duties.length 0 := by
  refine nr9' _ _ fun k _ _ h => ?_
  unfold dutQ dutP
  cases hc : nbf' b (x.Duties.getD k n1').Floor (x.Duties.getD k n1').Dir with
  | false => rfl
  | true =>
    unfold dutR dutO
    by_cases k0 : k = 0
    · subst k0; rfl
    · have hp := h (k - 1) (by omega) (by omega)
      unfold dutQ at hp
      rw [Bool.and_eq_true] at hp
      have r1 := nhq' hb hp.1
      have r2 := nhq' hb hc
      have e : decide (dutW (x.Duties.getD (k - 1) n1') < dutW (x.Duties.getD k n1')) = lessD (x.Duties.getD (k - 1) n1') (x.Duties.getD k n1') := by
        unfold dutW lessD
        generalize x.Duties.getD (k - 1) n1' = d1 at r1
        generalize x.Duties.getD k n1' = d2 at r2
        rw [nb' (n := 4 * d1.Floor) (by omega) (by omega), nb' (n := 4 * d2.Floor) (by omega) (by omega), nb' (n := 4 * d1.Floor + d1.Dir) (by omega) (by omega), nb' (n := 4 * d2.Floor + d2.Dir) (by omega) (by omega)]
        by_cases g : d1.Floor < d2.Floor
        · rw [decide_eq_true g, decide_eq_true (show 4 * d1.Floor + d1.Dir < 4 * d2.Floor + d2.Dir by omega)]; rfl
        · rw [decide_eq_false g]
          by_cases g2 : d1.Floor = d2.Floor
          · rw [g2, beq_self_eq_true, Bool.false_or, Bool.true_and]
            by_cases g3 : d1.Dir < d2.Dir
            · rw [decide_eq_true g3, decide_eq_true (by omega)]
            · rw [decide_eq_false g3, decide_eq_false (by omega)]
          · rw [beq_f g2, decide_eq_false (by omega)]; rfl
      rw [e]
theorem ntg' {b : Bldg} (hb : b.small) (hcode : b.code = 0) {car : Nat} (hcar : car < b.Cars.length) (x : Belief) (hx : x.Duties.length ≤ 100000) : njh' b.Floors b.Debounce b.Room b.Park b.Empty b.Full b.Over b.Cars (car : Int) x.Floor x.Dir x.Door x.Duties x.Still x.Late = some ((belOK b car x, ()), ()) := by
  have lo := hb.lo
  have hi8 := hb.hi
  have hcc := ncj' hcode
  have h5 : 100000 ≤ ng' := by decide
  have h := nf' (nbb' (step := fun x => neh' x.1.1 x.1.2.2.2.1 x.2.1.1 x.2.1.2.1 x.2.1.2.2.1 x.2.1.2.2.2.1 x.2.1.2.2.2.2.1 x.2.1.2.2.2.2.2.1 x.2.1.2.2.2.2.2.2.1 x.2.1.2.2.2.2.2.2.2.1 x.2.2.1.1 x.2.2.1.2.1 x.2.2.1.2.2.1 x.2.2.1.2.2.2.1 x.2.2.1.2.2.2.2.1 x.2.2.1.2.2.2.2.2.1) x.Duties.length (fun i => (((car : Int), (), (), (i : Int), ()), (b.tup, (x.Floor, x.Dir, x.Door, x.Duties, x.Still, x.Late, ()), ()))) (dutQ b car x) (Sum.inl ((), ())) (Sum.inr ((false, ()), ())) (fun i hi => by
    show neh' (car : Int) (i : Int) b.Floors b.Debounce b.Room b.Park b.Empty b.Full b.Over b.Cars x.Floor x.Dir x.Door x.Duties x.Still x.Late = _
    unfold neh'
    simp only [decide_eq_true (show (i : Int) < (x.Duties.length : Int) by omega), nc' (show (0 : Int) ≤ (i : Int) by omega) (show (i : Int) < (x.Duties.length : Int) by omega), nc' (show (0 : Int) ≤ (car : Int) by omega) (show (car : Int) < (b.Cars.length : Int) by omega), cond_true, Int.toNat_natCast, nlp' hb, nu5', Option.bind_some]
    rw [show Duty.mk 0 0 0 = n1' from rfl, show Car.mk 0 0 0 0 0 0 0 0 0 = ⟨0, 0, 0, 0, 0, 0, 0, 0, 0⟩ from rfl]
    rw [show b.Cars.getD car ⟨0, 0, 0, 0, 0, 0, 0, 0, 0⟩ = carAt b car from rfl]
    unfold dutQ dutR
    cases nbf' b (x.Duties.getD i n1').Floor (x.Duties.getD i n1').Dir with
    | false => rfl
    | true =>
    cases inR 0 (carAt b car).Deadline (x.Duties.getD i n1').Age with
    | false => rfl
    | true =>
      simp only [Bool.not_true, cond_false, Bool.true_and]
      by_cases i0 : i = 0
      · subst i0
        simp only [show decide ((0 : Int) < ((0 : Nat) : Int)) = false from rfl, cond_false, Option.bind_some, wrap1 hi (show x.Duties.length ≤ ng' by omega)]
        rfl
      · rw [decide_eq_true (show (0 : Int) < (i : Int) by omega), show (i == 0) = false by simpa using i0]
        simp only [cond_true, Bool.false_or, nb' (n := (i : Int) - 1) (by omega) (by omega), nc' (show (0 : Int) ≤ (i : Int) - 1 by omega) (show (i : Int) - 1 < (x.Duties.length : Int) by omega)]
        rw [show Int.toNat ((i : Int) - 1) = i - 1 by omega]
        rw [show IntKind.i64.wrap (IntKind.i64.wrap (4 * (x.Duties.getD (i - 1) n1').Floor) + (x.Duties.getD (i - 1) n1').Dir) = dutW (x.Duties.getD (i - 1) n1') from rfl, show IntKind.i64.wrap (IntKind.i64.wrap (4 * (x.Duties.getD i n1').Floor) + (x.Duties.getD i n1').Dir) = dutW (x.Duties.getD i n1') from rfl, leD]
        simp only [Option.bind_some]
        rw [wrap1 hi (show x.Duties.length ≤ ng' by omega)]
        cases decide (dutW (x.Duties.getD (i - 1) n1') < dutW (x.Duties.getD i n1')) <;> rfl) (by
    show neh' (car : Int) (x.Duties.length : Int) b.Floors b.Debounce b.Room b.Park b.Empty b.Full b.Over b.Cars x.Floor x.Dir x.Door x.Duties x.Still x.Late = _
    unfold neh'
    simp only [decide_eq_false (Int.lt_irrefl (x.Duties.length : Int)), cond_false]) x.Duties.length 0 (by omega)) (by omega)
  have h' : nh3' (((car : Int), (), (), (0 : Int), ()), (b.tup, (x.Floor, x.Dir, x.Door, x.Duties, x.Still, x.Late, ()), ())) = _ := h
  rw [n5k' hb] at h'
  simp only [Bldg.tup] at h'
  unfold njh' belOK
  rw [nd3', hcode]
  simp only [nu5', Option.bind_some, bne_self_eq_false, cond_false, nb' (n := (b.Cars.length : Int) - 1) (by omega) (by omega), nb' (n := b.Floors - 1) (by omega) (by omega), show inR 0 ((b.Cars.length : Int) - 1) (car : Int) = true from nv'.2 ⟨by omega, by omega⟩, Bool.not_true]
  cases inR (-1) (b.Floors - 1) x.Floor with
  | false => rfl
  | true =>
  cases inR 0 3 x.Dir with
  | false => rfl
  | true =>
  cases inR 0 3 x.Door with
  | false => rfl
  | true =>
  cases inR 0 1000000 x.Still with
  | false => rfl
  | true =>
    simp only [Bool.not_true, cond_false, Bool.true_and]
    cases hL : x.Late with
    | false =>
      rw [hL] at h'
      simp only [cond_false, Option.bind_some, Bool.false_and, Bool.not_false, Bool.true_and, h']
      cases allN (dutP b car x) x.Duties.length 0 <;> rfl
    | true =>
      rw [hL] at h'
      cases hD : decide ((0 : Int) < (x.Duties.length : Int)) with
      | true => simp only [cond_true, Option.bind_some]; rfl
      | false =>
        simp only [cond_true, cond_false, Option.bind_some, Bool.and_false, Bool.not_false, Bool.true_and, h']
        cases allN (dutP b car x) x.Duties.length 0 <;> rfl
theorem nti' (x : NewCar) : ni2' x.Sweep_Dir x.Sweep_Opened = some ((nik' x, ()), ()) := by
  unfold ni2' nik' inR
  cases decide (0 ≤ x.Sweep_Dir) <;> cases decide (x.Sweep_Dir ≤ 2) <;> cases decide (0 ≤ x.Sweep_Opened) <;> rfl
theorem n3n' (n : Int) : nkv' n = some ((inR 0 1000000 n, ()), ()) := by
  unfold nkv' inR
  cases decide (0 ≤ n) <;> rfl
theorem nt1' (x : NewCar) : ni8' x.Door_Stage x.Door_Time x.Door_Since x.Door_Nudge x.Door_Cycles = some ((nko' x, ()), ()) := by
  unfold ni8' nko' doorZ
  simp only [n3n', Option.bind_some]
  by_cases h : x.Door_Stage = 0
  · rw [h]; rfl
  · rw [beq_f h]
    have e : decide (0 < x.Door_Stage) = decide (0 ≤ x.Door_Stage) := by
      by_cases g : 0 < x.Door_Stage
      · rw [decide_eq_true g, decide_eq_true (by omega)]
      · rw [decide_eq_false g, decide_eq_false (by omega)]
    rw [e]
    unfold inR
    cases decide (0 ≤ x.Door_Stage) <;> cases decide (x.Door_Stage ≤ 3) <;> cases (decide (0 ≤ x.Door_Time) && decide (x.Door_Time ≤ 1000000)) <;> cases (decide (0 ≤ x.Door_Since) && decide (x.Door_Since ≤ 1000000)) <;> rfl
theorem nw5' (fl n : Int) : nfy' fl n = some ((inR 0 (fl - 1) n, ()), ()) := by
  unfold nfy' inR
  have e : decide (n < fl) = decide (n ≤ fl - 1) := by
    by_cases g : n < fl
    · rw [decide_eq_true g, decide_eq_true (by omega)]
    · rw [decide_eq_false g, decide_eq_false (by omega)]
  rw [e]
  cases decide (0 ≤ n) <;> rfl
theorem ntk' {fl : Int} (h : 2 ≤ fl ∧ fl ≤ 8) (x : NewCar) : ni3' fl x.Motion_Command x.Motion_Time x.Motion_Floor = some ((motOK fl x, ()), ()) := by
  unfold ni3' motOK
  rw [decide_eq_false (show ¬ fl < 2 by omega), decide_eq_false (show ¬ 32 < fl by omega), ltD x.Motion_Time 0, ltD 1000000 x.Motion_Time]
  simp only [cond_false, nw5', Option.bind_some]
  unfold inR
  cases decide (0 ≤ x.Motion_Time) with
  | false => rfl
  | true =>
  cases decide (x.Motion_Time ≤ 1000000) with
  | false => rfl
  | true =>
  simp only [Bool.not_true, cond_false, Bool.true_and]
  by_cases c0 : x.Motion_Command = 0
  · rw [c0]; rfl
  · rw [beq_f c0]
    simp only [cond_false]
    by_cases c1 : x.Motion_Command = 1
    · rw [c1]
      simp only [beq_self_eq_true, cond_true]
      cases hf : (decide (0 ≤ x.Motion_Floor) && decide (x.Motion_Floor ≤ fl - 1)) with
      | false => rfl
      | true =>
        have := nv'.1 (show inR 0 (fl - 1) x.Motion_Floor = true from hf)
        unfold nib'
        simp only [cond_true, beq_self_eq_true, Option.bind_some]
        rw [nb' (by omega) (by omega)]
        rfl
    · rw [beq_f c1]
      simp only [cond_false]
      by_cases c2 : x.Motion_Command = 2
      · rw [c2]
        simp only [beq_self_eq_true, cond_true]
        cases hf : (decide (0 ≤ x.Motion_Floor) && decide (x.Motion_Floor ≤ fl - 1)) with
        | false => rfl
        | true =>
          have := nv'.1 (show inR 0 (fl - 1) x.Motion_Floor = true from hf)
          unfold nib'
          simp only [cond_true, show ((2 : Int) == 1) = false from rfl, cond_false, Option.bind_some]
          rw [nb' (by omega) (by omega)]
          rfl
      · rw [beq_f c2]
        rfl
theorem nuh' {b : Bldg} (hb : b.small) (hcode : b.code = 0) (x : NewCar) (hx : 0 ≤ x.Calls ∧ x.Calls < 18446744073709551616) : njj' b.Floors b.Debounce b.Room b.Park b.Empty b.Full b.Over b.Cars x.Sweep_Dir x.Sweep_Opened x.Door_Stage x.Door_Time x.Door_Since x.Door_Nudge x.Door_Cycles x.Motion_Command x.Motion_Time x.Motion_Floor x.Calls x.Shown x.Idle x.Fault = some ((newOK b x, ()), ()) := by
  have lo := hb.lo
  have hi8 := hb.hi
  have hmin : Min.min (Int.toNat b.Floors) (IntKind.bits IntKind.u64) = Int.toNat b.Floors := Nat.min_eq_left (by show _ ≤ 64; omega)
  unfold njj' newOK
  rw [nd3', hcode]
  simp only [Option.bind_some, bne_self_eq_false, cond_false]
  cases hF : x.Fault with
  | true =>
    unfold carZ
    rw [hF]
    rfl
  | false =>
    simp only [Option.bind_some, cond_false, nti', nt1', ntk' ⟨lo, hi8⟩]
    unfold nk1'
    cases nik' x with
    | false => rfl
    | true =>
    cases nko' x with
    | false => rfl
    | true =>
    cases motOK b.Floors x with
    | false => rfl
    | true =>
      simp only [Bool.not_true, cond_false, Bool.true_and]
      rw [show ((x.Door_Stage == 0) && ((x.Door_Time == 0) && ((x.Door_Since == 0) && ((x.Door_Nudge == false) && ((x.Door_Cycles == 0) && true))))) = doorZ x from rfl, show ((x.Motion_Command == 0) && ((x.Motion_Time == 0) && ((x.Motion_Floor == 0) && true))) = motZ x from rfl]
      have fin : (bif decide (0 ≤ IntKind.u64.wrap b.Floors) then bif (Int.fdiv (IntKind.u64.wrap x.Calls) ((2 : Int) ^ (Min.min (Int.toNat (IntKind.u64.wrap b.Floors)) (IntKind.bits IntKind.u64))) == 0) then bif decide (0 ≤ x.Shown) then bif decide (x.Shown ≤ 2) then bif decide (0 ≤ x.Idle) then some ((decide (x.Idle ≤ 1000000), ()), ()) else some ((false, ()), ()) else some ((false, ()), ()) else some ((false, ()), ()) else some ((false, ()), ()) else none) = some ((nn0' b.Floors x, ()), ()) := by
        rw [nrx' (n := b.Floors) (by omega) (by omega), nrx' hx.1 hx.2, hmin, decide_eq_true (show 0 ≤ b.Floors by omega)]
        unfold nn0' inR
        cases Int.fdiv x.Calls ((2 : Int) ^ (Int.toNat b.Floors)) == 0 <;> cases decide (0 ≤ x.Shown) <;> cases decide (x.Shown ≤ 2) <;> cases decide (0 ≤ x.Idle) <;> rfl
      cases doorZ x with
      | true =>
        simp only [Bool.not_true, cond_false, Option.bind_some, Bool.true_or, Bool.true_and]
        rw [fin]; rfl
      | false =>
        cases motZ x with
        | true =>
          simp only [Bool.not_true, Bool.not_false, cond_true, cond_false, Option.bind_some, Bool.false_or, Bool.true_and]
          rw [fin]; rfl
        | false => rfl
theorem nms' (n : Int) : nhi' n = some ((inR 0 1000000 n, ()), ()) := by
  unfold nhi' inR
  cases decide (0 ≤ n) <;> rfl
theorem nsj' (m : Img) {xs : List Int} (hl : xs.length ≤ 1000000) : niu' m.Phases m.Flags m.Leaving m.Entries xs = some ((nhf' xs && (xs.length : Int) == (m.Entries.length : Int), ()), ()) := by
  have key : ∀ (k i : Nat), i + k = xs.length → iter (fun x => nd6' x.1.1 x.1.2.2.1 x.2.1.1 x.2.1.2.1 x.2.1.2.2.1 x.2.1.2.2.2.1) (k + 1) ((xs, (), (i : Int), ()), (m.tup, ())) = some (if (xs.drop i).all (inR 0 1000000) then .inl ((xs, (), ()), (m.tup, ())) else .inr ((false, ()), ())) := by
    intro k
    induction k with
    | zero =>
      intro i hi
      refine n6' ?_
      show nd6' xs (i : Int) m.Phases m.Flags m.Leaving m.Entries = _
      unfold nd6'
      rw [show decide ((i : Int) < (xs.length : Int)) = false by simp; omega, show i = xs.length by omega, List.drop_length]; rfl
    | succ k ih =>
      intro i hi
      have hi' : i < xs.length := by omega
      have hs : nd6' xs (i : Int) m.Phases m.Flags m.Leaving m.Entries = some (bif inR 0 1000000 (xs.getD i 0) then .inl ((xs, (), ((i + 1 : Nat) : Int), ()), (m.tup, ())) else .inr (.inr ((false, ()), ()))) := by
        unfold nd6'
        rw [decide_eq_true (show (i : Int) < (xs.length : Int) by omega), nc' (by omega) (by omega), wrap1 hi' (show xs.length ≤ ng' by unfold ng'; omega)]
        simp only [cond_true, Int.toNat_natCast]
        unfold inR
        rw [ltD (xs.getD i 0) 0, ltD 1000000 (xs.getD i 0)]
        cases decide (0 ≤ xs.getD i 0) <;> cases decide (xs.getD i 0 ≤ 1000000) <;> rfl
      rw [nc1' (0 : Int) hi', List.all_cons]
      cases hq : inR 0 1000000 (xs.getD i 0) with
      | true => rw [hq] at hs; exact (nb4' hs).trans (ih (i + 1) (by omega))
      | false => rw [hq] at hs; exact n6' hs
  have h1 : ng6' ((xs, (), (0 : Int), ()), (m.tup, ())) = _ := nf' (key xs.length 0 (by omega)) (by omega)
  rw [List.drop_zero] at h1
  unfold Img.tup at h1
  unfold niu'
  rw [h1]
  unfold nhf'
  cases xs.all (inR 0 1000000) <;> rfl
theorem nol' (p q : Nat → Bool) : ∀ m i : Nat, allN (fun k => p k && q k) m i = (allN p m i && allN q m i)
  | 0, _ => rfl
  | m + 1, i => by
    simp only [allN]
    rw [nol' p q m (i + 1)]
    cases p i <;> cases q i <;> cases allN p m (i + 1) <;> rfl
theorem nrg' {b : Bldg} (hb : b.small) (hcode : b.code = 0) {m : Mch} (hm : m.fit) (hcalls : ∀ x ∈ m.Cars, 0 ≤ x.Calls ∧ x.Calls < 18446744073709551616) : neo' b.Floors b.Debounce b.Room b.Park b.Empty b.Full b.Over b.Cars m.Image.Phases m.Image.Flags m.Image.Leaving m.Image.Entries m.Store.h0 m.Store.h1 m.Store.sel m.Contacts m.Beliefs m.Cars m.Loads m.Expect m.Lit m.Tick m.Faults m.Refused = some ((nkq' b m, ()), ()) := by
  have hcc := ncj' hcode
  have hex := hm.ex
  have h5 : 100000 ≤ ng' := by decide
  unfold neo' nkq'
  rw [nd3', hcode, nra' hb m.Image (by omega) hm.im, nm2', nsj' m.Image (xs := m.Expect) (by omega), nms', nms', nms']
  simp only [Option.bind_some, bne_self_eq_false, cond_false]
  rw [show decide (Sto.ok b.Room ⟨m.Store.h0, m.Store.h1, m.Store.sel⟩) = decide (m.Store.ok b.Room) from rfl, show nhf' [m.Tick, m.Faults, m.Refused] = (inR 0 1000000 m.Tick && (inR 0 1000000 m.Faults && (inR 0 1000000 m.Refused && true))) from rfl]
  unfold eachN
  simp only [bne]
  cases fitsV b m.Image with
  | false => rfl
  | true =>
  cases decide (m.Store.ok b.Room) with
  | false => rfl
  | true =>
  by_cases l1 : m.Contacts.length = b.Cars.length
  · by_cases l2 : m.Beliefs.length = b.Cars.length
    · by_cases l3 : m.Cars.length = b.Cars.length
      · by_cases l4 : m.Loads.length = b.Cars.length
        · by_cases l5 : m.Lit.length = b.Cars.length
          · have h := nf' (nbb' (step := fun x => ndx' x.1.2.2.1 x.1.2.2.2.1 x.2.1.1 x.2.1.2.1 x.2.1.2.2.1 x.2.1.2.2.2.1 x.2.1.2.2.2.2.1 x.2.1.2.2.2.2.2.1 x.2.1.2.2.2.2.2.2.1 x.2.1.2.2.2.2.2.2.2.1 x.2.2.1.1 x.2.2.1.2.1 x.2.2.1.2.2.1 x.2.2.1.2.2.2.1 x.2.2.1.2.2.2.2.1 x.2.2.1.2.2.2.2.2.1 x.2.2.1.2.2.2.2.2.2.1 x.2.2.1.2.2.2.2.2.2.2.1 x.2.2.1.2.2.2.2.2.2.2.2.1 x.2.2.1.2.2.2.2.2.2.2.2.2.1 x.2.2.1.2.2.2.2.2.2.2.2.2.2.1 x.2.2.1.2.2.2.2.2.2.2.2.2.2.2.1 x.2.2.1.2.2.2.2.2.2.2.2.2.2.2.2.1 x.2.2.1.2.2.2.2.2.2.2.2.2.2.2.2.2.1 x.2.2.1.2.2.2.2.2.2.2.2.2.2.2.2.2.2.1 x.2.2.1.2.2.2.2.2.2.2.2.2.2.2.2.2.2.2.1) b.Cars.length (fun i => (((), (), (b.Cars.length : Int), (i : Int), ()), (b.tup, m.tup, ()))) (fun i => conOK b.Debounce (m.Contacts.getD i nn') && (belOK b i (m.Beliefs.getD i (Belief.mk 0 0 0 [] 0 false)) && (newOK b (m.Cars.getD i noNewCar) && nia' (m.Loads.getD i n3')))) (Sum.inl ((), ())) (Sum.inr ((false, ()), ())) (fun i hi => by
              have hm2 := nes' (l := m.Beliefs) (Belief.mk 0 0 0 [] 0 false) (i := i) (by omega)
              have hm3 := nes' (l := m.Cars) noNewCar (i := i) (by omega)
              show ndx' (b.Cars.length : Int) (i : Int) b.Floors b.Debounce b.Room b.Park b.Empty b.Full b.Over b.Cars m.Image.Phases m.Image.Flags m.Image.Leaving m.Image.Entries m.Store.h0 m.Store.h1 m.Store.sel m.Contacts m.Beliefs m.Cars m.Loads m.Expect m.Lit m.Tick m.Faults m.Refused = _
              unfold ndx'
              simp only [decide_eq_true (show (i : Int) < (b.Cars.length : Int) by omega), nc' (show (0 : Int) ≤ (i : Int) by omega) (show (i : Int) < (m.Contacts.length : Int) by omega), nc' (show (0 : Int) ≤ (i : Int) by omega) (show (i : Int) < (m.Beliefs.length : Int) by omega), nc' (show (0 : Int) ≤ (i : Int) by omega) (show (i : Int) < (m.Cars.length : Int) by omega), nc' (show (0 : Int) ≤ (i : Int) by omega) (show (i : Int) < (m.Loads.length : Int) by omega), cond_true, Int.toNat_natCast, wrap1 hi (show b.Cars.length ≤ ng' by omega)]
              rw [show Debounced.mk 0 false false false false 0 0 0 0 0 0 0 0 0 0 0 0 0 0 0 0 0 0 0 0 0 0 0 0 0 0 0 0 0 0 0 0 0 0 0 0 = nn' from rfl, show NewCar.mk 0 0 0 0 0 false 0 0 0 0 0 0 0 false = noNewCar from rfl, show Loaded.mk 0 = n3' from rfl]
              rw [nua' b.Debounce (m.Contacts.getD i nn'), ntg' hb hcode hi (m.Beliefs.getD i (Belief.mk 0 0 0 [] 0 false)) (hm.du _ hm2), nuh' hb hcode (m.Cars.getD i noNewCar) (hcalls _ hm3)]
              simp only [Option.bind_some]
              rw [ltD (m.Loads.getD i n3').Class 0, ltD 4 (m.Loads.getD i n3').Class]
              unfold nia' inR
              cases conOK b.Debounce (m.Contacts.getD i nn') <;> cases belOK b i (m.Beliefs.getD i (Belief.mk 0 0 0 [] 0 false)) <;> cases newOK b (m.Cars.getD i noNewCar) <;> cases decide (0 ≤ (m.Loads.getD i n3').Class) <;> cases decide ((m.Loads.getD i n3').Class ≤ 4) <;> rfl) (by
              show ndx' (b.Cars.length : Int) (b.Cars.length : Int) b.Floors b.Debounce b.Room b.Park b.Empty b.Full b.Over b.Cars m.Image.Phases m.Image.Flags m.Image.Leaving m.Image.Entries m.Store.h0 m.Store.h1 m.Store.sel m.Contacts m.Beliefs m.Cars m.Loads m.Expect m.Lit m.Tick m.Faults m.Refused = _
              unfold ndx'
              simp only [decide_eq_false (Int.lt_irrefl (b.Cars.length : Int)), cond_false]) b.Cars.length 0 (by omega)) (by omega)
            rw [nol', nol', nol'] at h
            have h' : nf4' (((), (), (b.Cars.length : Int), (0 : Int), ()), (b.tup, m.tup, ())) = _ := h
            simp only [Bldg.tup, Mch.tup] at h'
            rw [l1, l2, l3, l4, l5]
            simp only [beq_self_eq_true, Bool.not_true, cond_false, Bool.true_and, Bool.and_true]
            rw [h']
            generalize allN (fun i => conOK b.Debounce (m.Contacts.getD i nn')) b.Cars.length 0 = q1
            generalize allN (fun i => belOK b i (m.Beliefs.getD i (Belief.mk 0 0 0 [] 0 false))) b.Cars.length 0 = q2
            generalize allN (fun i => newOK b (m.Cars.getD i noNewCar)) b.Cars.length 0 = q3
            generalize allN (fun i => nia' (m.Loads.getD i n3')) b.Cars.length 0 = q4
            generalize ((m.Expect.length : Int) == (m.Image.Entries.length : Int)) = q5
            generalize inR 0 1000000 m.Tick = q6
            generalize inR 0 1000000 m.Faults = q7
            generalize inR 0 1000000 m.Refused = q8
            cases nhf' m.Expect
            · cases q5 <;> rfl
            cases q5
            · rfl
            cases q6
            · rfl
            cases q7
            · rfl
            cases q8
            · rfl
            cases q1 <;> cases q2 <;> cases q3 <;> cases q4 <;> rfl
          · simp [beq_f (show ¬ (m.Lit.length : Int) = (b.Cars.length : Int) by omega)]
        · simp [beq_f (show ¬ (m.Loads.length : Int) = (b.Cars.length : Int) by omega)]
      · simp [beq_f (show ¬ (m.Cars.length : Int) = (b.Cars.length : Int) by omega)]
    · simp [beq_f (show ¬ (m.Beliefs.length : Int) = (b.Cars.length : Int) by omega)]
  · simp [beq_f (show ¬ (m.Contacts.length : Int) = (b.Cars.length : Int) by omega)]
end Go.Ovl
