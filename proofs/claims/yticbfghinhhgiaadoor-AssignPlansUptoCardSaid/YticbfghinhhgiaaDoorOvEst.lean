/- The estimate of a car for a call (layer 21): the program and the reference say the same. -/
import Derived.Test.YticbfghinhhgiaaDoorOvCount
import Derived.Test.YticbfghinhhgiaaDoorOvSmall
namespace Go.Ovl
open Go Go.Ab
set_option maxRecDepth 100000
def View.none : View := View.mk false false false false 0 0 0 0 0 0 0 0
def Car.none : Car := Car.mk 0 0 0 0 0 0 0 0 0
/-- The stops of a view are numbers of 32 bits. -/
structure View.ok (v : View) : Prop where
  c : u32r v.Stops_Car
  u : u32r v.Stops_Hall_Up
  d : u32r v.Stops_Hall_Down
noncomputable def estP (b : Bldg) (car : Int) (v : View) (floor dir : Int) : Option ((Int × Unit) × Unit) :=
  F_cost_Estimate b.Floors b.Debounce b.Room b.Park b.Empty b.Full b.Over b.Cars car v.Ready v.Serving v.Legacy v.Lost v.Floor v.Dir v.Load v.Shows_Up v.Shows_Down v.Stops_Car v.Stops_Hall_Up v.Stops_Hall_Down floor dir
noncomputable def estR (b : Bldg) (car : Int) (v : View) (floor dir : Int) : Option ((Int × Unit) × Unit) :=
  F_r21_Estimate b.Floors b.Debounce b.Room b.Park b.Empty b.Full b.Over b.Cars car v.Ready v.Serving v.Legacy v.Lost v.Floor v.Dir v.Load v.Shows_Up v.Shows_Down v.Stops_Car v.Stops_Hall_Up v.Stops_Hall_Down floor dir
noncomputable def estV (b : Bldg) (car : Int) (v : View) (floor dir : Int) : Int := match estR b car v floor dir with | some r => r.1.1 | none => 0
theorem est_ex {b : Bldg} (hb : b.small) {v : View} (hv : v.ok) (car floor dir : Int) : ∃ n : Int, estP b car v floor dir = some ((n, ()), ()) ∧ estR b car v floor dir = some ((n, ()), ()) := by
  unfold estP estR F_cost_Estimate F_r21_Estimate
  rw [F_building_Valid_eq, F_r01_Valid_eq]
  simp only [Option.bind_some]
  cases b.code != 0 with
  | true => exact ⟨_, rfl, rfl⟩
  | false =>
    simp only [cond_false]
    by_cases g1 : car < 0
    · rw [decide_eq_true g1]; exact ⟨_, rfl, rfl⟩
    rw [decide_eq_false g1]
    simp only [cond_false]
    by_cases g2 : (b.Cars.length : Int) ≤ car
    · rw [decide_eq_true g2]; exact ⟨_, rfl, rfl⟩
    rw [decide_eq_false g2]
    simp only [cond_false]
    have ib : inB car b.Cars.length = true := inB_true (by omega) (by omega)
    have fl : (b.Floors.toNat : Int) = b.Floors := by have := hb.lo; omega
    have key : ∀ sw : Int, ∃ n : Int, F_cost_Path b.Floors v.Floor sw v.Stops_Car v.Stops_Hall_Up v.Stops_Hall_Down floor dir = some ((n, ()), ()) ∧ F_r21_Path b.Floors v.Floor sw v.Stops_Car v.Stops_Hall_Up v.Stops_Hall_Down floor dir = some ((n, ()), ()) ∧ (v.Floor < 0 → n = -1) := fun sw => by
      have := path_eq (fl := b.Floors.toNat) (by have := hb.lo; omega) (by have := hb.hi; omega) hv.c hv.u hv.d v.Floor sw floor dir
      rw [fl] at this; exact this
    obtain ⟨k, _, c1, c2⟩ : ∃ n : Nat, n ≤ 24 ∧ F_cost_Count b.Floors v.Stops_Car v.Stops_Hall_Up v.Stops_Hall_Down = some (((n : Int), ()), ()) ∧ F_r21_Count b.Floors v.Stops_Car v.Stops_Hall_Up v.Stops_Hall_Down = some (((n : Int), ()), ()) := by
      have := count_eq (fl := b.Floors.toNat) (by have := hb.lo; omega) (by have := hb.hi; omega) hv.c hv.u hv.d
      rw [fl] at this; exact this
    have fin : ∀ sw : Int, ∃ n : Int,
        ((F_cost_Path b.Floors v.Floor sw v.Stops_Car v.Stops_Hall_Up v.Stops_Hall_Down floor dir).bind fun y3 => bif decide (y3.1.1 < 0) then some ((1000000, ()), ()) else
          bif inB car b.Cars.length then
            let z0 : Car := b.Cars.getD car.toNat (Car.mk 0 0 0 0 0 0 0 0 0)
            (F_cost_Count b.Floors v.Stops_Car v.Stops_Hall_Up v.Stops_Hall_Down).bind fun y4 =>
            let z1 : Int := IntKind.i64.wrap (IntKind.i64.wrap (y3.1.1 * z0.Step) + IntKind.i64.wrap (y4.1.1 * IntKind.i64.wrap (IntKind.i64.wrap (2 * z0.Travel) + z0.Dwell)))
            some (((bif decide (1000000 < z1) then 1000000 else z1), ()), ())
          else none) = some ((n, ()), ()) ∧
        (bif decide (v.Floor < 0) then some ((1000000, ()), ()) else (F_r21_Path b.Floors v.Floor sw v.Stops_Car v.Stops_Hall_Up v.Stops_Hall_Down floor dir).bind fun y3 => bif decide (y3.1.1 < 0) then some ((1000000, ()), ()) else
          bif inB car b.Cars.length then
            let z0 : Car := b.Cars.getD car.toNat (Car.mk 0 0 0 0 0 0 0 0 0)
            (F_r21_Count b.Floors v.Stops_Car v.Stops_Hall_Up v.Stops_Hall_Down).bind fun y4 =>
            let z1 : Int := IntKind.i64.wrap (IntKind.i64.wrap (y3.1.1 * z0.Step) + IntKind.i64.wrap (y4.1.1 * IntKind.i64.wrap (IntKind.i64.wrap (2 * z0.Travel) + z0.Dwell)))
            some (((bif decide (1000000 < z1) then 1000000 else z1), ()), ())
          else none) = some ((n, ()), ()) := fun sw => by
      obtain ⟨n, q1, q2, q3⟩ := key sw
      rw [q1, q2, c1, c2, ib]
      simp only [Option.bind_some, cond_true]
      by_cases g : v.Floor < 0
      · have := q3 g
        subst this
        rw [decide_eq_true g]
        exact ⟨_, rfl, rfl⟩
      · rw [decide_eq_false g]
        cases decide (n < 0) <;> exact ⟨_, rfl, rfl⟩
    cases v.Dir == 3 with
    | true =>
      obtain ⟨n, h1, h2⟩ := fin 0
      exact ⟨n, h1, by
        cases hd : decide (v.Floor < 0) with
        | true => rw [hd] at h2; exact h2
        | false => rw [hd] at h2; exact h2⟩
    | false =>
      obtain ⟨n, h1, h2⟩ := fin v.Dir
      exact ⟨n, h1, by
        cases hd : decide (v.Floor < 0) with
        | true => rw [hd] at h2; exact h2
        | false => rw [hd] at h2; exact h2⟩
theorem estR_eq {b : Bldg} (hb : b.small) {v : View} (hv : v.ok) (car floor dir : Int) : estR b car v floor dir = some ((estV b car v floor dir, ()), ()) := by
  obtain ⟨n, _, h⟩ := est_ex hb hv car floor dir
  rw [show estV b car v floor dir = n by unfold estV; rw [h]]; exact h
theorem estP_eq {b : Bldg} (hb : b.small) {v : View} (hv : v.ok) (car floor dir : Int) : estP b car v floor dir = some ((estV b car v floor dir, ()), ()) := by
  obtain ⟨n, h1, h⟩ := est_ex hb hv car floor dir
  rw [show estV b car v floor dir = n by unfold estV; rw [h]]; exact h1
end Go.Ovl
