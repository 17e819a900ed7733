/- How far a car goes (layer 21): the program and the reference say the same. -/
import Derived.Test.YticbfghinhhgiaaDoorOvWay
namespace Go.Ovl
open Go Go.Ab
set_option maxRecDepth 100000
def isCallB (fl floor dir : Int) : Bool := (dir == 1 && (decide (0 ≤ floor) && decide (floor < fl - 1))) || (dir == 2 && (decide (0 < floor) && decide (floor < fl)))
theorem F_cost_isCall_eq {fl : Int} (h : 0 ≤ fl ∧ fl < 100) (floor dir : Int) : F_cost_isCall fl floor dir = some ((isCallB fl floor dir, ()), ()) := by
  have w : IntKind.i64.wrap (fl - 1) = fl - 1 := wrap_small (by omega) (by omega)
  unfold F_cost_isCall isCallB
  rw [w]
  cases dir == 1 <;> cases decide (0 ≤ floor) <;> cases decide (floor < fl - 1) <;> cases dir == 2 <;> cases decide (0 < floor) <;> cases decide (floor < fl) <;> rfl
theorem F_cost_isFloors_eq {fl : Int} (h : 2 ≤ fl ∧ fl ≤ 32) : F_cost_isFloors fl = some ((true, ()), ()) := by
  unfold F_cost_isFloors
  rw [decide_eq_true h.1, decide_eq_true h.2]; rfl
theorem refG {fl : Int} (h : 0 ≤ fl ∧ fl < 100) (from_ sweep floor dir car up down : Int) : (bif (dir == (1 : Int)) then bif (decide ((0 : Int) ≤ floor)) then bif (decide (floor < (Go.IntKind.wrap Go.IntKind.i64 (fl - (1 : Int))))) then some ((fl, from_, sweep, floor, dir, (), false, ()), ((car, up, down, ()), ())) else bif (dir == (2 : Int)) then bif (decide ((0 : Int) < floor)) then some ((fl, from_, sweep, floor, dir, (), (!(decide (floor < fl))), ()), ((car, up, down, ()), ())) else some ((fl, from_, sweep, floor, dir, (), true, ()), ((car, up, down, ()), ())) else some ((fl, from_, sweep, floor, dir, (), true, ()), ((car, up, down, ()), ())) else bif (dir == (2 : Int)) then bif (decide ((0 : Int) < floor)) then some ((fl, from_, sweep, floor, dir, (), (!(decide (floor < fl))), ()), ((car, up, down, ()), ())) else some ((fl, from_, sweep, floor, dir, (), true, ()), ((car, up, down, ()), ())) else some ((fl, from_, sweep, floor, dir, (), true, ()), ((car, up, down, ()), ())) else bif (dir == (2 : Int)) then bif (decide ((0 : Int) < floor)) then some ((fl, from_, sweep, floor, dir, (), (!(decide (floor < fl))), ()), ((car, up, down, ()), ())) else some ((fl, from_, sweep, floor, dir, (), true, ()), ((car, up, down, ()), ())) else some ((fl, from_, sweep, floor, dir, (), true, ()), ((car, up, down, ()), ()))) = some ((fl, from_, sweep, floor, dir, (), !isCallB fl floor dir, ()), ((car, up, down, ()), ())) := by
  have w : IntKind.i64.wrap (fl - 1) = fl - 1 := wrap_small (by omega) (by omega)
  unfold isCallB
  rw [w]
  cases dir == 1 <;> cases decide (0 ≤ floor) <;> cases decide (floor < fl - 1) <;> cases dir == 2 <;> cases decide (0 < floor) <;> cases decide (floor < fl) <;> rfl
/-- How many floors, by the highest and the lowest. -/
def pathV (sw di fr fo lo hi : Int) : Int :=
  bif sw == 0 then (bif decide (fr - fo < fo - fr) then fo - fr else fr - fo)
  else bif sw == 1 then (bif di == 1 then (bif decide (fr ≤ fo) then fo - fr else hi - fr + hi - lo + fo - lo) else hi - fr + hi - fo)
  else (bif di == 2 then (bif decide (fo ≤ fr) then fr - fo else fr - lo + hi - lo + hi - fo) else fr - lo + fo - lo)
/-- The set of the floors that count. -/
theorem set_eq {fl : Nat} (hfl : fl ≤ 8) {car up down : Int} {a u d : Nat} (c : Cnt fl car up down a u d) {fr fo : Nat} (hr : fr < fl) (ho : fo < fl) :
    ∃ S : Nat, S < 256 ∧ S ≠ 0 ∧ (∀ i, S.testBit i = (decide (i < fl) && (a.testBit i || (u.testBit i || d.testBit i)) || (decide (i = fr) || decide (i = fo)))) ∧
      vb ((((bv a ||| bv u) ||| bv d) ||| BitVec.twoPow 32 fr) ||| BitVec.twoPow 32 fo) = (S : Int) := by
  have hb : ∀ (x : Nat), x < 256 → ∀ i, (bv (x : Int)).getLsbD i = x.testBit i := fun x hx i => by
    show bitF (x : Int) i = _
    rw [bit_test' ⟨by omega, by omega⟩]; simp
  have hS : ∀ i, ((((bv a ||| bv u) ||| bv d) ||| BitVec.twoPow 32 fr) ||| BitVec.twoPow 32 fo).getLsbD i = (decide (i < fl) && (a.testBit i || (u.testBit i || d.testBit i)) || (decide (i = fr) || decide (i = fo))) := by
    intro i
    simp only [BitVec.getLsbD_or, hb a c.la, hb u c.lu, hb d c.ld, BitVec.getLsbD_twoPow]
    have e1 : (decide (fr < 32) && decide (fr = i)) = decide (i = fr) := by rw [decide_eq_true (show fr < 32 by omega), Bool.true_and]; exact decide_eq_decide.2 eq_comm
    have e2 : (decide (fo < 32) && decide (fo = i)) = decide (i = fo) := by rw [decide_eq_true (show fo < 32 by omega), Bool.true_and]; exact decide_eq_decide.2 eq_comm
    rw [e1, e2]
    by_cases hi : i < fl
    · rw [decide_eq_true hi, Bool.true_and]
      cases a.testBit i <;> cases u.testBit i <;> cases d.testBit i <;> cases decide (i = fr) <;> cases decide (i = fo) <;> rfl
    · obtain ⟨q1, q2, q3⟩ := c.hi i (by omega)
      rw [q1, q2, q3, decide_eq_false hi]; rfl
  refine ⟨((((bv a ||| bv u) ||| bv d) ||| BitVec.twoPow 32 fr) ||| BitVec.twoPow 32 fo).toNat, small_of hfl fun i _ h => ?_, fun h0 => ?_, hS, rfl⟩
  · rw [hS] at h
    simp only [Bool.or_eq_true, Bool.and_eq_true, decide_eq_true_eq] at h
    rcases h with ⟨h, _⟩ | rfl | rfl
    · exact h
    · exact hr
    · exact ho
  · have := hS fr
    rw [BitVec.getLsbD, h0] at this
    simp at this
theorem path_guard {fl : Nat} (h2 : 2 ≤ fl) (hfl : fl ≤ 8) (car up down from_ sweep floor dir : Int) (h : ¬ (0 ≤ from_ ∧ from_ < fl ∧ 0 ≤ sweep ∧ sweep ≤ 2 ∧ isCallB fl floor dir = true)) :
    F_cost_Path (fl : Int) from_ sweep car up down floor dir = some ((-1, ()), ()) ∧ F_r21_Path (fl : Int) from_ sweep car up down floor dir = some ((-1, ()), ()) := by
  unfold F_cost_Path F_r21_Path
  rw [F_cost_isFloors_eq ⟨by omega, by omega⟩, F_cost_isCall_eq ⟨by omega, by omega⟩]
  simp only [Option.bind_some, Bool.not_true, cond_false]
  rw [decide_eq_false (show ¬ ((fl : Int) < 2) by omega), decide_eq_false (show ¬ ((32 : Int) < fl) by omega)]
  simp only [cond_false]
  by_cases g1 : from_ < 0
  · rw [decide_eq_true g1]; exact ⟨rfl, rfl⟩
  rw [decide_eq_false g1]
  simp only [cond_false]
  by_cases g2 : (fl : Int) ≤ from_
  · rw [decide_eq_true g2]; exact ⟨rfl, rfl⟩
  rw [decide_eq_false g2]
  simp only [cond_false]
  by_cases g3 : sweep < 0
  · rw [decide_eq_true g3]; exact ⟨rfl, rfl⟩
  rw [decide_eq_false g3]
  simp only [cond_false]
  by_cases g4 : 2 < sweep
  · rw [decide_eq_true g4]; exact ⟨rfl, rfl⟩
  rw [decide_eq_false g4]
  simp only [cond_false]
  have hc : isCallB fl floor dir = false := by
    cases hq : isCallB fl floor dir with
    | false => rfl
    | true => exact absurd ⟨by omega, by omega, by omega, by omega, hq⟩ h
  rw [refG ⟨by omega, by omega⟩, hc]
  exact ⟨rfl, rfl⟩
end Go.Ovl
