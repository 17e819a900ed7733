/- The best car for a call (layer 22): the program and the reference say the same. -/
import Derived.Test.YticbfghinhhgiaaDoorOvEst
namespace Go.Ovl
open Go Go.Ab
set_option maxRecDepth 100000
def fullV (v : View) : Bool := v.Load == 3 || v.Load == 4
theorem assign_full_eq (v : View) : F_assign_full v.Ready v.Serving v.Legacy v.Lost v.Floor v.Dir v.Load v.Shows_Up v.Shows_Down v.Stops_Car v.Stops_Hall_Up v.Stops_Hall_Down = some ((fullV v, ()), ()) := by
  unfold F_assign_full fullV
  cases v.Load == 3 <;> rfl
theorem r22_full_eq (v : View) : F_r22_full v.Ready v.Serving v.Legacy v.Lost v.Floor v.Dir v.Load v.Shows_Up v.Shows_Down v.Stops_Car v.Stops_Hall_Up v.Stops_Hall_Down = some ((fullV v, ()), ()) := by
  unfold F_r22_full fullV
  cases v.Load == 3 <;> rfl
def betB (a b : Int × Int) : Bool := decide (a.1 < b.1) || (a.1 == b.1 && decide (a.2 < b.2))
theorem r22_Better_eq (a b : Int × Int) : F_r22_Better a.1 a.2 b.1 b.2 = some ((betB a b, ()), ()) := by
  unfold F_r22_Better betB
  cases decide (a.1 < b.1) <;> cases a.1 == b.1 <;> rfl
theorem assign_Better_eq (a b : Int × Int) : F_assign_Better a.1 a.2 b.1 b.2 = some ((betB a b, ()), ()) := by
  unfold F_assign_Better betB
  by_cases h : a.1 = b.1
  · by_cases h' : a.2 = b.2
    · rw [h, h', beq_self_eq_true, beq_self_eq_true, decide_eq_false (by omega), decide_eq_false (by omega)]; rfl
    · rw [h, beq_self_eq_true, beq_f h', decide_eq_false (by omega)]; rfl
  · rw [beq_f h]
    cases decide (a.1 < b.1) <;> rfl
/-- The view of a car. -/
def viewAt (vs : List View) (i : Int) : View := vs.getD i.toNat (View.mk false false false false 0 0 0 0 0 0 0 0)
def okViews (vs : List View) : Prop := ∀ v ∈ vs, v.ok
theorem View.ok_none : View.ok (View.mk false false false false 0 0 0 0 0 0 0 0) := ⟨⟨by decide, by decide⟩, ⟨by decide, by decide⟩, ⟨by decide, by decide⟩⟩
theorem okViews.at {vs : List View} (h : okViews vs) (i : Int) : (viewAt vs i).ok := by
  unfold viewAt
  rw [List.getD_eq_getElem?_getD]
  cases hq : vs[i.toNat]? with
  | none => exact View.ok_none
  | some v => exact h v (List.mem_of_getElem? hq)
noncomputable def rankV (b : Bldg) (vs : List View) (floor dir : Int) (car : Int) : Int × Int := ((bif fullV (viewAt vs car) then 1 else 0), estV b car (viewAt vs car) floor dir)
theorem assign_rank_eq {b : Bldg} (hb : b.small) {vs : List View} (hv : okViews vs) {car : Int} (hc : 0 ≤ car ∧ car < vs.length) (floor dir : Int) :
    F_assign_rank b.Floors b.Debounce b.Room b.Park b.Empty b.Full b.Over b.Cars vs car floor dir = some (((), ()), (((rankV b vs floor dir car).1, (rankV b vs floor dir car).2, ()), ())) := by
  unfold F_assign_rank
  have e : F_cost_Estimate b.Floors b.Debounce b.Room b.Park b.Empty b.Full b.Over b.Cars car (viewAt vs car).Ready (viewAt vs car).Serving (viewAt vs car).Legacy (viewAt vs car).Lost (viewAt vs car).Floor (viewAt vs car).Dir (viewAt vs car).Load (viewAt vs car).Shows_Up (viewAt vs car).Shows_Down (viewAt vs car).Stops_Car (viewAt vs car).Stops_Hall_Up (viewAt vs car).Stops_Hall_Down floor dir = _ := estP_eq hb (hv.at car) car floor dir
  rw [inB_true hc.1 hc.2]
  show (F_cost_Estimate b.Floors b.Debounce b.Room b.Park b.Empty b.Full b.Over b.Cars car (viewAt vs car).Ready (viewAt vs car).Serving (viewAt vs car).Legacy (viewAt vs car).Lost (viewAt vs car).Floor (viewAt vs car).Dir (viewAt vs car).Load (viewAt vs car).Shows_Up (viewAt vs car).Shows_Down (viewAt vs car).Stops_Car (viewAt vs car).Stops_Hall_Up (viewAt vs car).Stops_Hall_Down floor dir).bind (fun y1 => (F_assign_full (viewAt vs car).Ready (viewAt vs car).Serving (viewAt vs car).Legacy (viewAt vs car).Lost (viewAt vs car).Floor (viewAt vs car).Dir (viewAt vs car).Load (viewAt vs car).Shows_Up (viewAt vs car).Shows_Down (viewAt vs car).Stops_Car (viewAt vs car).Stops_Hall_Up (viewAt vs car).Stops_Hall_Down).bind (fun y2 => bif y2.1.1 then some (((), ()), (((1 : Int), y1.1.1, ()), ())) else some (((), ()), (((0 : Int), y1.1.1, ()), ())))) = _
  rw [e, Option.bind_some, assign_full_eq, Option.bind_some]
  unfold rankV
  cases fullV (viewAt vs car) <;> rfl
theorem r22_rank_eq {b : Bldg} (hb : b.small) {vs : List View} (hv : okViews vs) {car : Int} (hc : 0 ≤ car ∧ car < vs.length) (floor dir : Int) :
    F_r22_rank b.Floors b.Debounce b.Room b.Park b.Empty b.Full b.Over b.Cars vs car floor dir = some (((), ()), (((rankV b vs floor dir car).1, (rankV b vs floor dir car).2, ()), ())) := by
  unfold F_r22_rank
  have e : F_r21_Estimate b.Floors b.Debounce b.Room b.Park b.Empty b.Full b.Over b.Cars car (viewAt vs car).Ready (viewAt vs car).Serving (viewAt vs car).Legacy (viewAt vs car).Lost (viewAt vs car).Floor (viewAt vs car).Dir (viewAt vs car).Load (viewAt vs car).Shows_Up (viewAt vs car).Shows_Down (viewAt vs car).Stops_Car (viewAt vs car).Stops_Hall_Up (viewAt vs car).Stops_Hall_Down floor dir = _ := estR_eq hb (hv.at car) car floor dir
  have ef := r22_full_eq (viewAt vs car)
  unfold viewAt at ef e
  simp only [inB_true hc.1 hc.2, cond_true, ef, Option.bind_some]
  unfold rankV
  unfold viewAt
  cases fullV (vs.getD car.toNat (View.mk false false false false 0 0 0 0 0 0 0 0)) <;> (simp only [cond_true, cond_false, Option.bind_some, inB_true hc.1 hc.2, e])
noncomputable def bestStep (b : Bldg) (vs : List View) (floor dir except : Int) (i best : Int) : Int :=
  bif !(viewAt vs i).Ready || i == except then best else bif best == -1 || betB (rankV b vs floor dir i) (rankV b vs floor dir best) then i else best
noncomputable def bestF (b : Bldg) (vs : List View) (floor dir except : Int) : Nat → Nat → Int → Int
  | 0, _, best => best
  | m + 1, i, best => bestF b vs floor dir except m (i + 1) (bestStep b vs floor dir except i best)
noncomputable def chooseV (b : Bldg) (vs : List View) (floor dir except : Int) : Int :=
  bif b.code != 0 || (vs.length : Int) != (b.Cars.length : Int) then -1 else bestF b vs floor dir except vs.length 0 (-1)
def bestIn (vs : List View) (best : Int) : Prop := best = -1 ∨ (0 ≤ best ∧ best < vs.length)
theorem bestStep_in {b : Bldg} {vs : List View} {floor dir except : Int} {i : Nat} (hi : i < vs.length) {best : Int} (h : bestIn vs best) : bestIn vs (bestStep b vs floor dir except i best) := by
  unfold bestStep
  cases (!(viewAt vs i).Ready || (i : Int) == except) with
  | true => exact h
  | false =>
    simp only [cond_false]
    cases (best == -1 || betB (rankV b vs floor dir i) (rankV b vs floor dir best)) with
    | true => exact .inr (by simp only [cond_true]; omega)
    | false => exact h
theorem r22_Choose_loop {b : Bldg} (hb : b.small) {vs : List View} (hv : okViews vs) (hl : vs.length ≤ 100) (floor dir except : Int) :
    ∀ (m i : Nat) (best : Int), i + m = vs.length → bestIn vs best →
      iter (fun x => R_r22_Choose_0 x.1.1 x.1.2.1 x.1.2.2.1 x.1.2.2.2.1 x.1.2.2.2.2.2.1 x.1.2.2.2.2.2.2.1 x.2.1.1 x.2.1.2.1 x.2.1.2.2.1 x.2.1.2.2.2.1 x.2.1.2.2.2.2.1 x.2.1.2.2.2.2.2.1 x.2.1.2.2.2.2.2.2.1 x.2.1.2.2.2.2.2.2.2.1) (m + 1) ((vs, floor, dir, except, (), best, (i : Int), ()), (b.tup, ())) = some ((bestF b vs floor dir except m i best, ()), ())
  | 0, i, best, hi, hin => by
    refine iter_inr ?_
    show R_r22_Choose_0 vs floor dir except best (i : Int) b.Floors b.Debounce b.Room b.Park b.Empty b.Full b.Over b.Cars = _
    unfold R_r22_Choose_0
    have e : decide ((i : Int) < (vs.length : Int)) = false := by simp; omega
    rw [e]; rfl
  | m + 1, i, best, hi, hin => by
    have hi' : i < vs.length := by omega
    have e : decide ((i : Int) < (vs.length : Int)) = true := by simp; omega
    have ib : inB (i : Int) vs.length = true := inB_true (by omega) (by omega)
    have w : IntKind.i64.wrap ((i : Int) + 1) = ((i + 1 : Nat) : Int) := by rw [wrap_small (by omega) (by omega)]; omega
    refine (iter_inl (x' := ((vs, floor, dir, except, (), bestStep b vs floor dir except i best, ((i + 1 : Nat) : Int), ()), (b.tup, ()))) ?_).trans (r22_Choose_loop hb hv hl floor dir except m (i + 1) _ (by omega) (bestStep_in hi' hin))
    show R_r22_Choose_0 vs floor dir except best (i : Int) b.Floors b.Debounce b.Room b.Park b.Empty b.Full b.Over b.Cars = _
    unfold R_r22_Choose_0
    have k1 := r22_rank_eq hb hv (car := (i : Int)) (by omega) floor dir
    rw [e, ib, w]
    simp only [cond_true]
    unfold bestStep
    rw [show vs.getD (Int.toNat (i : Int)) (View.mk false false false false 0 0 0 0 0 0 0 0) = viewAt vs (i : Int) from rfl]
    cases (viewAt vs (i : Int)).Ready with
    | false => rfl
    | true =>
      simp only [Bool.not_true, cond_false, Bool.false_or]
      cases (i : Int) == except with
      | true => rfl
      | false =>
        simp only [cond_false]
        rcases hin with hbest | hbest
        · subst hbest
          rw [show decide ((-1 : Int) < 0) = true from rfl, show ((-1 : Int) == -1) = true from rfl]
          simp only [cond_true, Option.bind_some, w, Bool.true_or]
          rfl
        · have k2 := r22_rank_eq hb hv hbest floor dir
          rw [decide_eq_false (show ¬ best < 0 by omega), beq_f (show ¬ best = -1 by omega), k1, k2]
          simp only [cond_false, Option.bind_some, Bool.false_or, r22_Better_eq]
          cases betB (rankV b vs floor dir i) (rankV b vs floor dir best) <;> (simp only [cond_true, cond_false, w]; rfl)
theorem assign_Choose_loop {b : Bldg} (hb : b.small) {vs : List View} (hv : okViews vs) (hl : vs.length ≤ 100) (floor dir except : Int) :
    ∀ (m i : Nat) (best l0 l1 : Int), i + m = vs.length → bestIn vs best → (best ≠ -1 → (l0, l1) = rankV b vs floor dir best) →
      iter (fun x => R_assign_Choose_0 x.1.1 x.1.2.1 x.1.2.2.1 x.1.2.2.2.1 x.1.2.2.2.2.2.1 x.1.2.2.2.2.2.2.2.1 x.1.2.2.2.2.2.2.2.2.1 x.1.2.2.2.2.2.2.2.2.2.1 x.2.1.1 x.2.1.2.1 x.2.1.2.2.1 x.2.1.2.2.2.1 x.2.1.2.2.2.2.1 x.2.1.2.2.2.2.2.1 x.2.1.2.2.2.2.2.2.1 x.2.1.2.2.2.2.2.2.2.1 x.2.2.1.1 x.2.2.1.2.1) (m + 1) ((vs, floor, dir, except, (), best, (), vs, (vs.length : Int), (i : Int), ()), (b.tup, (l0, l1, ()), ())) = some ((bestF b vs floor dir except m i best, ()), ())
  | 0, i, best, l0, l1, hi, hin, hr => by
    refine iter_inr ?_
    show R_assign_Choose_0 vs floor dir except best vs (vs.length : Int) (i : Int) b.Floors b.Debounce b.Room b.Park b.Empty b.Full b.Over b.Cars l0 l1 = _
    unfold R_assign_Choose_0
    have e : decide ((i : Int) < (vs.length : Int)) = false := by simp; omega
    rw [e]; rfl
  | m + 1, i, best, l0, l1, hi, hin, hr => by
    have hi' : i < vs.length := by omega
    have e : decide ((i : Int) < (vs.length : Int)) = true := by simp; omega
    have ib : inB (i : Int) vs.length = true := inB_true (by omega) (by omega)
    have w : IntKind.i64.wrap ((i : Int) + 1) = ((i + 1 : Nat) : Int) := by rw [wrap_small (by omega) (by omega)]; omega
    have hs : ∃ l0' l1', (bestStep b vs floor dir except i best ≠ -1 → (l0', l1') = rankV b vs floor dir (bestStep b vs floor dir except i best)) ∧ R_assign_Choose_0 vs floor dir except best vs (vs.length : Int) (i : Int) b.Floors b.Debounce b.Room b.Park b.Empty b.Full b.Over b.Cars l0 l1 = some (.inl ((vs, floor, dir, except, (), bestStep b vs floor dir except i best, (), vs, (vs.length : Int), ((i + 1 : Nat) : Int), ()), (b.tup, (l0', l1', ()), ()))) := by
      unfold R_assign_Choose_0
      have k1 := assign_rank_eq hb hv (car := (i : Int)) (by omega) floor dir
      rw [e, ib, w]
      simp only [cond_true]
      unfold bestStep
      rw [show vs.getD (Int.toNat (i : Int)) (View.mk false false false false 0 0 0 0 0 0 0 0) = viewAt vs (i : Int) from rfl]
      cases (viewAt vs (i : Int)).Ready with
      | false => exact ⟨l0, l1, hr, rfl⟩
      | true =>
        simp only [Bool.not_true, cond_false, Bool.false_or]
        cases (i : Int) == except with
        | true => exact ⟨l0, l1, hr, rfl⟩
        | false =>
          simp only [cond_false, k1, Option.bind_some]
          rcases hin with hbest | hbest
          · subst hbest
            rw [show ((-1 : Int) == -1) = true from rfl]
            simp only [cond_true, Option.bind_some, w, Bool.true_or]
            exact ⟨_, _, fun _ => rfl, rfl⟩
          · have hr' := hr (by omega)
            have e1 : l0 = (rankV b vs floor dir best).1 := congrArg Prod.fst hr'
            have e2 : l1 = (rankV b vs floor dir best).2 := congrArg Prod.snd hr'
            subst e1 e2
            rw [beq_f (show ¬ best = -1 by omega)]
            simp only [cond_false, Option.bind_some, Bool.false_or, assign_Better_eq]
            cases betB (rankV b vs floor dir i) (rankV b vs floor dir best) with
            | true => simp only [cond_true, w]; exact ⟨_, _, fun _ => rfl, rfl⟩
            | false => simp only [cond_false, w]; exact ⟨_, _, fun _ => rfl, rfl⟩
    obtain ⟨l0', l1', h1, h2⟩ := hs
    exact (iter_inl h2).trans (assign_Choose_loop hb hv hl floor dir except m (i + 1) _ l0' l1' (by omega) (bestStep_in hi' hin) h1)
theorem assign_Choose_eq {b : Bldg} (hb : b.small) {vs : List View} (hv : okViews vs) (hl : vs.length ≤ 100) (floor dir except : Int) :
    F_assign_Choose b.Floors b.Debounce b.Room b.Park b.Empty b.Full b.Over b.Cars vs floor dir except = some ((chooseV b vs floor dir except, ()), ()) := by
  unfold F_assign_Choose chooseV
  rw [F_building_Valid_eq, Option.bind_some]
  cases b.code != 0 with
  | true => rfl
  | false =>
    simp only [cond_false, Bool.false_or]
    cases (vs.length : Int) != (b.Cars.length : Int) with
    | true => rfl
    | false =>
      have h := iter_fuel (assign_Choose_loop hb hv hl floor dir except vs.length 0 (-1) 0 0 (by omega) (.inl rfl) (fun h => absurd rfl h)) (by omega)
      have h' : L_assign_Choose_0 ((vs, floor, dir, except, (), (-1 : Int), (), vs, (vs.length : Int), (0 : Int), ()), (b.tup, ((0 : Int), (0 : Int), ()), ())) = _ := h
      simp only [cond_false]
      refine (congrArg (fun z => Option.bind z _) h').trans ?_
      rfl
theorem r22_Choose_eq {b : Bldg} (hb : b.small) {vs : List View} (hv : okViews vs) (hl : vs.length ≤ 100) (floor dir except : Int) :
    F_r22_Choose b.Floors b.Debounce b.Room b.Park b.Empty b.Full b.Over b.Cars vs floor dir except = some ((chooseV b vs floor dir except, ()), ()) := by
  unfold F_r22_Choose chooseV
  rw [F_r01_Valid_eq, Option.bind_some]
  cases b.code != 0 with
  | true => rfl
  | false =>
    simp only [cond_false, Bool.false_or]
    cases (vs.length : Int) != (b.Cars.length : Int) with
    | true => rfl
    | false =>
      have h := iter_fuel (r22_Choose_loop hb hv hl floor dir except vs.length 0 (-1) (by omega) (.inl rfl)) (by omega)
      have h' : L_r22_Choose_0 ((vs, floor, dir, except, (), (-1 : Int), (0 : Int), ()), (b.tup, ())) = _ := h
      simp only [cond_false]
      refine (congrArg (fun z => Option.bind z _) h').trans ?_
      rfl
end Go.Ovl
