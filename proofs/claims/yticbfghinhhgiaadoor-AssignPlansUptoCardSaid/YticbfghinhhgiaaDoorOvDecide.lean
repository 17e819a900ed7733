/- The decision about an entry (layer 22): the program and the reference say the same. -/
import Derived.Test.YticbfghinhhgiaaDoorOvChoose
import Derived.Test.YticbfghinhhgiaaDoorOvImage
namespace Go.Ovl
open Go Go.Ab
set_option maxRecDepth 100000
theorem bestF_in {b : Bldg} {vs : List View} {floor dir except : Int} : ∀ (m i : Nat) (best : Int), i + m = vs.length → bestIn vs best → bestIn vs (bestF b vs floor dir except m i best)
  | 0, _, _, _, h => h
  | m + 1, i, best, hi, h => bestF_in m (i + 1) _ (by omega) (bestStep_in (by omega) h)
theorem chooseV_in (b : Bldg) (vs : List View) (floor dir except : Int) : bestIn vs (chooseV b vs floor dir except) := by
  unfold chooseV
  cases (b.code != 0 || (vs.length : Int) != (b.Cars.length : Int)) with
  | true => exact .inl rfl
  | false => exact bestF_in vs.length 0 (-1) (by omega) (.inl rfl)
/-- Is another car, n, better than the entry's own one? -/
noncomputable def betterV (b : Bldg) (vs : List View) (e : Entry) (x n : Int) : Bool :=
  ((viewAt vs e.Car).Legacy && (x == 0 && betB (rankV b vs e.Floor e.Dir n) (rankV b vs e.Floor e.Dir e.Car))) || (!(viewAt vs e.Car).Legacy && (fullV (viewAt vs e.Car) && !fullV (viewAt vs n)))
noncomputable def otherV (b : Bldg) (vs : List View) (e : Entry) (x : Int) : Int :=
  bif chooseV b vs e.Floor e.Dir e.Car == -1 then -1 else bif betterV b vs e x (chooseV b vs e.Floor e.Dir e.Car) then chooseV b vs e.Floor e.Dir e.Car else -1
noncomputable def decV (b : Bldg) (vs : List View) (e : Entry) (x : Int) : Entry :=
  bif e.Car == -2 then e
  else bif e.Car == -1 then ⟨e.Floor, e.Dir, chooseV b vs e.Floor e.Dir (-1), e.Moves, e.Moved⟩
  else bif (viewAt vs e.Car).Lost then (bif decide ((b.Cars.length : Int) < e.Moves) then ⟨e.Floor, e.Dir, -2, e.Moves, e.Moved⟩ else ⟨e.Floor, e.Dir, chooseV b vs e.Floor e.Dir e.Car, e.Moves + 1, e.Moved⟩)
  else bif !e.Moved && decide (e.Moves ≤ (b.Cars.length : Int)) then (bif otherV b vs e x != -1 then ⟨e.Floor, e.Dir, otherV b vs e x, e.Moves + 1, true⟩ else e)
  else e
def Entry.tup (e : Entry) : Int × Int × Int × Int × Bool × Unit := (e.Floor, e.Dir, e.Car, e.Moves, e.Moved, ())
section
variable {b : Bldg} (hb : b.small) {vs : List View} (hv : okViews vs) (hl : vs.length ≤ 100) {e : Entry}
include hb hv hl
theorem planner_other_eq (hc : 0 ≤ e.Car ∧ e.Car < vs.length) (x : Int) : F_assign_planner_other b.Floors b.Debounce b.Room b.Park b.Empty b.Full b.Over b.Cars vs e.Floor e.Dir e.Car e.Moves e.Moved x = some ((otherV b vs e x, ()), ()) := by
  unfold F_assign_planner_other otherV
  have hn := chooseV_in b vs e.Floor e.Dir e.Car
  rw [assign_Choose_eq hb hv hl]
  generalize chooseV b vs e.Floor e.Dir e.Car = n at hn
  simp only [Option.bind_some]
  rcases hn with rfl | hn
  · rfl
  · have k1 := assign_rank_eq hb hv hn e.Floor e.Dir
    have k2 := assign_rank_eq hb hv hc e.Floor e.Dir
    have f1 := assign_full_eq (viewAt vs e.Car)
    have f2 := assign_full_eq (viewAt vs n)
    rw [beq_f (show ¬ n = -1 by omega), inB_true hc.1 hc.2]
    unfold betterV
    unfold viewAt at f1 f2 ⊢
    simp only [cond_true, cond_false]
    cases hleg : (vs.getD e.Car.toNat (View.mk false false false false 0 0 0 0 0 0 0 0)).Legacy with
    | true =>
      simp only [cond_true, Bool.true_and, Bool.not_true, Bool.false_and, Bool.or_false]
      cases x == 0 with
      | true =>
        simp only [cond_true, Bool.true_and, k1, k2, Option.bind_some, assign_Better_eq]
        cases betB (rankV b vs e.Floor e.Dir n) (rankV b vs e.Floor e.Dir e.Car) <;> rfl
      | false => rfl
    | false =>
      rw [hleg] at f1
      simp only [cond_false, Bool.false_and, Bool.not_false, Bool.true_and, Bool.false_or, Option.bind_some, cond_true, f1]
      cases fullV (vs.getD e.Car.toNat (View.mk false false false false 0 0 0 0 0 0 0 0)) with
      | false => rfl
      | true =>
        simp only [cond_true, inB_true hn.1 hn.2, Bool.true_and, f2, Option.bind_some]
        cases fullV (vs.getD n.toNat (View.mk false false false false 0 0 0 0 0 0 0 0)) <;> rfl
theorem planner_decide_eq (hc : -2 ≤ e.Car ∧ e.Car < vs.length) (hm : 0 ≤ e.Moves ∧ e.Moves ≤ 255) (x : Int) : F_assign_planner_decide b.Floors b.Debounce b.Room b.Park b.Empty b.Full b.Over b.Cars vs e.Floor e.Dir e.Car e.Moves e.Moved x = some (((), ()), ((decV b vs e x).tup, ())) := by
  unfold F_assign_planner_decide decV
  have w : IntKind.i64.wrap (e.Moves + 1) = e.Moves + 1 := wrap_small (by omega) (by omega)
  by_cases g1 : e.Car = -2
  · rw [show (e.Car == -2) = true by rw [g1]; rfl]; rfl
  rw [beq_f g1]
  by_cases g2 : e.Car = -1
  · rw [show (e.Car == -1) = true by rw [g2]; rfl]
    simp only [cond_true, cond_false, assign_Choose_eq hb hv hl, Option.bind_some]
    rfl
  rw [beq_f g2]
  have hc' : 0 ≤ e.Car ∧ e.Car < vs.length := by omega
  have ho := planner_other_eq hb hv hl hc' x
  unfold viewAt
  simp only [cond_false, inB_true hc'.1 hc'.2, cond_true]
  cases hlost : (vs.getD e.Car.toNat (View.mk false false false false 0 0 0 0 0 0 0 0)).Lost with
  | true =>
    simp only [cond_true, Option.bind_some]
    cases decide ((b.Cars.length : Int) < e.Moves) with
    | true => rfl
    | false =>
      simp only [cond_false, inB_true hc'.1 hc'.2, cond_true, hlost, assign_Choose_eq hb hv hl, Option.bind_some, w]
      rfl
  | false =>
    simp only [cond_false, Option.bind_some, inB_true hc'.1 hc'.2, cond_true, hlost]
    cases hmv : e.Moved with
    | true =>
      simp only [Bool.not_true, cond_false, Option.bind_some, Bool.false_and]
      unfold Entry.tup; rw [hmv]
    | false =>
      rw [hmv] at ho
      simp only [Bool.not_false, cond_true, Option.bind_some, Bool.true_and]
      cases decide (e.Moves ≤ (b.Cars.length : Int)) with
      | false =>
        simp only [cond_false]
        unfold Entry.tup; rw [hmv]
      | true =>
        simp only [cond_true, ho, Option.bind_some, w]
        cases otherV b vs e x != -1 with
        | true => rfl
        | false =>
          simp only [cond_false]
          unfold Entry.tup; rw [hmv]
theorem r22_changed_eq (hcl : b.Cars.length ≤ 100) (hc : -2 ≤ e.Car ∧ e.Car < vs.length) (hm : 0 ≤ e.Moves ∧ e.Moves ≤ 255) (x : Int) : F_r22_changed b.Floors b.Debounce b.Room b.Park b.Empty b.Full b.Over b.Cars e.Floor e.Dir e.Car e.Moves e.Moved x vs = some (((), ()), ((decV b vs e x).tup, ())) := by
  unfold F_r22_changed decV
  have w : IntKind.i64.wrap (e.Moves + 1) = e.Moves + 1 := wrap_small (by omega) (by omega)
  have wc : IntKind.i64.wrap ((b.Cars.length : Int) + 1) = (b.Cars.length : Int) + 1 := wrap_small (by omega) (by omega)
  have d1 : decide ((b.Cars.length : Int) + 1 ≤ e.Moves) = decide ((b.Cars.length : Int) < e.Moves) := decide_eq_decide.2 (by omega)
  have d2 : decide ((b.Cars.length : Int) < e.Moves) = !decide (e.Moves ≤ (b.Cars.length : Int)) := dec_lt _ _
  by_cases g1 : e.Car = -2
  · rw [show (e.Car == -2) = true by rw [g1]; rfl]; rfl
  rw [beq_f g1]
  by_cases g2 : e.Car = -1
  · rw [show (e.Car == -1) = true by rw [g2]; rfl]
    simp only [cond_true, cond_false, r22_Choose_eq hb hv hl, Option.bind_some]
    rfl
  rw [beq_f g2]
  have hc' : 0 ≤ e.Car ∧ e.Car < vs.length := by omega
  unfold viewAt
  simp only [cond_false, inB_true hc'.1 hc'.2, cond_true, wc, d1]
  cases hlost : (vs.getD e.Car.toNat (View.mk false false false false 0 0 0 0 0 0 0 0)).Lost with
  | true =>
    simp only [cond_true, Option.bind_some]
    cases decide ((b.Cars.length : Int) < e.Moves) with
    | true => rfl
    | false =>
      simp only [cond_false, inB_true hc'.1 hc'.2, cond_true, hlost, r22_Choose_eq hb hv hl, Option.bind_some, w]
      rfl
  | false =>
    simp only [cond_false, Option.bind_some, inB_true hc'.1 hc'.2, cond_true, hlost]
    cases hmv : e.Moved with
    | true =>
      simp only [Bool.not_true, cond_true, cond_false, Bool.false_and]
      unfold Entry.tup; rw [hmv]
    | false =>
      simp only [Bool.not_false, cond_false, Bool.true_and, d1, d2]
      cases decide (e.Moves ≤ (b.Cars.length : Int)) with
      | false =>
        simp only [Bool.not_false, cond_true, cond_false]
        unfold Entry.tup; rw [hmv]
      | true =>
        simp only [Bool.not_true, cond_true, cond_false, r22_Choose_eq hb hv hl, Option.bind_some]
        unfold otherV
        have hn := chooseV_in b vs e.Floor e.Dir e.Car
        generalize chooseV b vs e.Floor e.Dir e.Car = n at hn
        rcases hn with rfl | hn
        · show _ = some (((), ()), (Entry.tup e, ()))
          unfold Entry.tup; rw [hmv]; rfl
        · have k1 := r22_rank_eq hb hv hn e.Floor e.Dir
          have k2 := r22_rank_eq hb hv hc' e.Floor e.Dir
          have f1 := r22_full_eq (viewAt vs e.Car)
          have f2 := r22_full_eq (viewAt vs n)
          rw [decide_eq_false (show ¬ n < 0 by omega), beq_f (show ¬ n = -1 by omega)]
          unfold betterV
          unfold viewAt at f1 f2 ⊢
          rw [hlost] at f1
          simp only [cond_false]
          have fin : ∀ p : Bool, (some (((), ()), ((bif p then (⟨e.Floor, e.Dir, n, e.Moves + 1, true⟩ : Entry) else e).tup, ())) : Option ((Unit × Unit) × ((Int × Int × Int × Int × Bool × Unit) × Unit))) = some (((), ()), ((bif (bif p then n else -1) != -1 then (⟨e.Floor, e.Dir, (bif p then n else -1), e.Moves + 1, true⟩ : Entry) else e).tup, ())) := fun p => by
            cases p with
            | true => simp only [cond_true]; rw [bne_t (show ¬ n = -1 by omega)]; rfl
            | false => rfl
          refine Eq.trans ?_ (fin _)
          cases hleg : (vs.getD e.Car.toNat (View.mk false false false false 0 0 0 0 0 0 0 0)).Legacy with
          | true =>
            simp only [cond_true, Bool.true_and, Bool.not_true, Bool.false_and, Bool.or_false]
            cases x == 0 with
            | true =>
              simp only [cond_true, Bool.true_and, k1, k2, Option.bind_some, r22_Better_eq]
              cases betB (rankV b vs e.Floor e.Dir n) (rankV b vs e.Floor e.Dir e.Car) with
              | true => simp only [cond_true, Option.bind_some, w]; rfl
              | false =>
                simp only [cond_false, Option.bind_some, Bool.not_true]
                unfold Entry.tup; rw [hmv]
            | false =>
              simp only [cond_false, Option.bind_some, Bool.not_true, Bool.false_and]
              unfold Entry.tup; rw [hmv]
          | false =>
            rw [hleg] at f1
            simp only [cond_false, Bool.false_and, Bool.not_false, Bool.true_and, Bool.false_or, Option.bind_some, cond_true, f1]
            cases fullV (vs.getD e.Car.toNat (View.mk false false false false 0 0 0 0 0 0 0 0)) with
            | false =>
              simp only [cond_false, Option.bind_some, Bool.false_and]
              unfold Entry.tup; rw [hmv]
            | true =>
              simp only [cond_true, inB_true hn.1 hn.2, Bool.true_and, f2, Option.bind_some]
              cases fullV (vs.getD n.toNat (View.mk false false false false 0 0 0 0 0 0 0 0)) with
              | true =>
                simp only [Bool.not_true, cond_false]
                unfold Entry.tup; rw [hmv]
              | false => simp only [Bool.not_false, cond_true, w]; rfl
end
end Go.Ovl
