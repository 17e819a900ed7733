/- The hall calls that a car is to serve (layer 22): the program and the reference say the same. -/
import Derived.Test.YticbfghinhhgiaaDoorOvPlanAll
namespace Go.Ovl
open Go Go.Ab
set_option maxRecDepth 100000
def powV (floor : Int) : Int := IntKind.u32.wrap (1 * 2 ^ min (Int.toNat floor) (IntKind.bits .u32))
def oneV (floor dir : Int) : Int × Int :=
  bif inR 0 31 floor then (bif dir == 1 then (powV floor, 0) else bif dir == 2 then (0, powV floor) else (0, 0)) else (0, 0)
theorem calls_One_eq (floor dir : Int) : F_calls_One floor dir = some (((), ()), (((oneV floor dir).1, (oneV floor dir).2, ()), ())) := by
  unfold F_calls_One oneV inR
  by_cases g : 0 ≤ floor
  · by_cases g' : floor < 32
    · rw [decide_eq_true g, decide_eq_true g', decide_eq_true (show floor ≤ 31 by omega)]
      simp only [cond_true, Option.bind_some, Bool.and_self, decide_eq_true g]
      cases dir == 1 <;> cases dir == 2 <;> rfl
    · rw [decide_eq_true g, decide_eq_false g', decide_eq_false (show ¬ floor ≤ 31 by omega)]; rfl
  · rw [decide_eq_false g]; rfl
theorem r07_One_eq (floor dir : Int) : F_r07_One floor dir = some (((), ()), (((oneV floor dir).1, (oneV floor dir).2, ()), ())) := by
  unfold F_r07_One oneV inR
  by_cases g : floor < 0
  · rw [decide_eq_true g, decide_eq_false (show ¬ 0 ≤ floor by omega)]; rfl
  · rw [decide_eq_false g, decide_eq_true (show 0 ≤ floor by omega)]
    by_cases g' : 31 < floor
    · rw [decide_eq_true g', decide_eq_false (show ¬ floor ≤ 31 by omega)]; rfl
    · rw [decide_eq_false g', decide_eq_true (show floor ≤ 31 by omega)]
      have w : IntKind.u64.wrap floor = floor := wrap_u64 (by omega) (by omega)
      simp only [cond_false, w, decide_eq_true (show 0 ≤ floor by omega), cond_true, Bool.and_self]
      cases dir == 1 <;> cases dir == 2 <;> rfl
def orV (a c : Int) : Int := IntKind.u32.wrap (stk a c (BitVec.toNat (BitVec.ofInt (IntKind.bits .u32) a ||| BitVec.ofInt (IntKind.bits .u32) c)))
def unionV (a c : Int × Int) : Int × Int := (orV a.1 c.1, orV a.2 c.2)
theorem calls_Union_eq (a c : Int × Int) : F_calls_Union a.1 a.2 c.1 c.2 = some (((), ()), (((unionV a c).1, (unionV a c).2, ()), ())) := rfl
theorem r07_Union_eq (a c : Int × Int) : F_r07_Union a.1 a.2 c.1 c.2 = some (((), ()), (((unionV a c).1, (unionV a c).2, ()), ())) := rfl
def stopB (vs : List View) (car : Int) (e : Entry) : Bool := e.Car == car || (e.Car == -2 && (viewAt vs car).Ready)
def stopStep (vs : List View) (car : Int) (e : Entry) (c : Int × Int) : Int × Int := bif stopB vs car e then unionV c (oneV e.Floor e.Dir) else c
def stopsF (vs : List View) (car : Int) : List Entry → Int × Int → Int × Int
  | [], c => c
  | e :: t, c => stopsF vs car t (stopStep vs car e c)
def stopsV (b : Bldg) (m : Img) (vs : List View) (car : Int) : Int × Int :=
  bif m.ok b && ((vs.length : Int) == (b.Cars.length : Int) && (decide (0 ≤ car) && decide (car < (b.Cars.length : Int)))) then stopsF vs car m.Entries (0, 0) else (0, 0)
section
variable {vs : List View} {car : Int} (hc : 0 ≤ car ∧ car < vs.length) {m : Img} (hm : m.Entries.length ≤ 1000)
include hc hm
theorem assign_Stops_loop : ∀ (k i : Nat) (c : Int × Int), i + k = m.Entries.length →
    iter (fun x => R_assign_Stops_0 x.1.1 x.1.2.1 x.1.2.2.2.2.1 x.1.2.2.2.2.2.1 x.1.2.2.2.2.2.2.1 x.2.1.1 x.2.1.2.1 x.2.2.1.1 x.2.2.1.2.1) (k + 1) ((vs, car, (), (), m.Entries, (m.Entries.length : Int), (i : Int), ()), (((0 : Int), (0 : Int), ()), (c.1, c.2, ()), ())) = some (((), (), ()), (((0 : Int), (0 : Int), ()), ((stopsF vs car (m.Entries.drop i) c).1, (stopsF vs car (m.Entries.drop i) c).2, ()), ()))
  | 0, i, c, hi => by
    refine iter_inr ?_
    show R_assign_Stops_0 vs car m.Entries (m.Entries.length : Int) (i : Int) 0 0 c.1 c.2 = _
    unfold R_assign_Stops_0
    rw [show decide ((i : Int) < (m.Entries.length : Int)) = false by simp; omega, show i = m.Entries.length by omega, List.drop_length]; rfl
  | k + 1, i, c, hi => by
    have hi' : i < m.Entries.length := by omega
    have w : IntKind.i64.wrap ((i : Int) + 1) = ((i + 1 : Nat) : Int) := by rw [wrap_small (by omega) (by omega)]; omega
    rw [drop_getD noE hi']
    refine (iter_inl (x' := ((vs, car, (), (), m.Entries, (m.Entries.length : Int), ((i + 1 : Nat) : Int), ()), (((0 : Int), (0 : Int), ()), ((stopStep vs car (m.Entries.getD i noE) c).1, (stopStep vs car (m.Entries.getD i noE) c).2, ()), ()))) ?_).trans (assign_Stops_loop k (i + 1) _ (by omega))
    show R_assign_Stops_0 vs car m.Entries (m.Entries.length : Int) (i : Int) 0 0 c.1 c.2 = _
    unfold R_assign_Stops_0
    rw [show decide ((i : Int) < (m.Entries.length : Int)) = true by simp; omega, inB_true (show (0 : Int) ≤ (i : Int) by omega) (show (i : Int) < (m.Entries.length : Int) by omega), show Entry.mk 0 0 0 0 false = noE from rfl]
    unfold stopStep stopB viewAt
    have hu := calls_Union_eq c (oneV (m.Entries.getD i noE).Floor (m.Entries.getD i noE).Dir)
    simp only [cond_true, Int.toNat_natCast]
    cases (m.Entries.getD i noE).Car == car with
    | true => simp only [cond_true, Option.bind_some, Bool.true_or, calls_One_eq, hu, w]
    | false =>
      cases (m.Entries.getD i noE).Car == -2 with
      | true =>
        simp only [cond_true, cond_false, inB_true hc.1 hc.2, Option.bind_some, Bool.false_or, Bool.true_and]
        cases (vs.getD car.toNat (View.mk false false false false 0 0 0 0 0 0 0 0)).Ready with
        | true => simp only [cond_true, calls_One_eq, Option.bind_some, hu, w]
        | false => simp only [cond_false, w]
      | false => simp only [cond_false, Option.bind_some, Bool.false_and, Bool.or_self, w]
theorem r22_Stops_loop : ∀ (k i : Nat) (c : Int × Int), i + k = m.Entries.length →
    iter (fun x => R_r22_Stops_0 x.1.1 x.1.2.1 x.1.2.2.2.2.2.1 x.2.1.1 x.2.1.2.1 x.2.1.2.2.1 x.2.1.2.2.2.1 x.2.2.1.1 x.2.2.1.2.1 x.2.2.2.1.1 x.2.2.2.1.2.1) (k + 1) ((vs, car, (), (), (), (i : Int), ()), (m.tup, ((0 : Int), (0 : Int), ()), (c.1, c.2, ()), ())) = some (((), (), ()), (((0 : Int), (0 : Int), ()), ((stopsF vs car (m.Entries.drop i) c).1, (stopsF vs car (m.Entries.drop i) c).2, ()), ()))
  | 0, i, c, hi => by
    refine iter_inr ?_
    show R_r22_Stops_0 vs car (i : Int) m.Phases m.Flags m.Leaving m.Entries 0 0 c.1 c.2 = _
    unfold R_r22_Stops_0
    rw [show decide ((i : Int) < (m.Entries.length : Int)) = false by simp; omega, show i = m.Entries.length by omega, List.drop_length]; rfl
  | k + 1, i, c, hi => by
    have hi' : i < m.Entries.length := by omega
    have w : IntKind.i64.wrap ((i : Int) + 1) = ((i + 1 : Nat) : Int) := by rw [wrap_small (by omega) (by omega)]; omega
    rw [drop_getD noE hi']
    refine (iter_inl (x' := ((vs, car, (), (), (), ((i + 1 : Nat) : Int), ()), (m.tup, ((0 : Int), (0 : Int), ()), ((stopStep vs car (m.Entries.getD i noE) c).1, (stopStep vs car (m.Entries.getD i noE) c).2, ()), ()))) ?_).trans (r22_Stops_loop k (i + 1) _ (by omega))
    show R_r22_Stops_0 vs car (i : Int) m.Phases m.Flags m.Leaving m.Entries 0 0 c.1 c.2 = _
    unfold R_r22_Stops_0
    rw [show decide ((i : Int) < (m.Entries.length : Int)) = true by simp; omega, inB_true (show (0 : Int) ≤ (i : Int) by omega) (show (i : Int) < (m.Entries.length : Int) by omega), show Entry.mk 0 0 0 0 false = noE from rfl]
    unfold stopStep stopB viewAt
    have hu := r07_Union_eq c (oneV (m.Entries.getD i noE).Floor (m.Entries.getD i noE).Dir)
    simp only [cond_true, Int.toNat_natCast]
    cases (m.Entries.getD i noE).Car == car with
    | true => simp only [cond_true, Option.bind_some, Bool.true_or, r07_One_eq, hu, w]; rfl
    | false =>
      cases (m.Entries.getD i noE).Car == -2 with
      | true =>
        simp only [cond_true, cond_false, inB_true hc.1 hc.2, Option.bind_some, Bool.false_or, Bool.true_and]
        cases (vs.getD car.toNat (View.mk false false false false 0 0 0 0 0 0 0 0)).Ready with
        | true => simp only [cond_true, r07_One_eq, Option.bind_some, hu, w]; rfl
        | false => simp only [cond_false, w]; rfl
      | false => simp only [cond_false, Option.bind_some, Bool.false_and, Bool.or_self, w]; rfl
end
section
variable {b : Bldg} (hb : b.small) (vs : List View) (m : Img) (hm : m.Entries.length ≤ 1000) (hp : m.Phases.length ≤ maxLen) (car : Int)
include hb hm hp
theorem assign_Stops_eq : F_assign_Stops b.Floors b.Debounce b.Room b.Park b.Empty b.Full b.Over b.Cars m.Phases m.Flags m.Leaving m.Entries vs car = some (((), ()), (((stopsV b m vs car).1, (stopsV b m vs car).2, ()), ())) := by
  have hmx : 1000 ≤ maxLen := by decide
  unfold F_assign_Stops stopsV
  rw [log_IsImage_eq hb m hp (by omega)]
  simp only [Option.bind_some, bne]
  cases hok : m.ok b with
  | false => rfl
  | true =>
    cases hq : (vs.length : Int) == (b.Cars.length : Int) with
    | false => rfl
    | true =>
      have hq' : (vs.length : Int) = (b.Cars.length : Int) := by simpa using hq
      by_cases g : 0 ≤ car
      · rw [decide_eq_true g, decide_eq_false (show ¬ car < 0 by omega)]
        by_cases g' : car < (b.Cars.length : Int)
        · rw [decide_eq_true g', decide_eq_false (show ¬ (b.Cars.length : Int) ≤ car by omega)]
          have hlp := iter_fuel (assign_Stops_loop (vs := vs) (car := car) ⟨g, by omega⟩ hm m.Entries.length 0 (0, 0) (by omega)) (by omega)
          have hlp' : L_assign_Stops_0 ((vs, car, (), (), m.Entries, (m.Entries.length : Int), (0 : Int), ()), (((0 : Int), (0 : Int), ()), ((0 : Int), (0 : Int), ()), ())) = _ := hlp
          simp only [Bool.not_true, cond_false, hlp', Option.bind_some, List.drop_zero, Bool.and_self, cond_true]
        · rw [decide_eq_false g', decide_eq_true (show (b.Cars.length : Int) ≤ car by omega)]; rfl
      · rw [decide_eq_false g, decide_eq_true (show car < 0 by omega)]; rfl
theorem r22_Stops_eq : F_r22_Stops b.Floors b.Debounce b.Room b.Park b.Empty b.Full b.Over b.Cars m.Phases m.Flags m.Leaving m.Entries vs car = some (((), ()), (((stopsV b m vs car).1, (stopsV b m vs car).2, ()), ())) := by
  have hmx : 1000 ≤ maxLen := by decide
  unfold F_r22_Stops stopsV
  rw [r10_IsImage_eq hb m hp (by omega)]
  simp only [Option.bind_some, bne]
  cases hok : m.ok b with
  | false => rfl
  | true =>
    cases hq : (vs.length : Int) == (b.Cars.length : Int) with
    | false => rfl
    | true =>
      have hq' : (vs.length : Int) = (b.Cars.length : Int) := by simpa using hq
      by_cases g : 0 ≤ car
      · rw [decide_eq_true g, decide_eq_false (show ¬ car < 0 by omega)]
        by_cases g' : car < (b.Cars.length : Int)
        · rw [decide_eq_true g', decide_eq_false (show ¬ (b.Cars.length : Int) ≤ car by omega)]
          have hlp := iter_fuel (r22_Stops_loop (vs := vs) (car := car) ⟨g, by omega⟩ hm m.Entries.length 0 (0, 0) (by omega)) (by omega)
          have hlp' : L_r22_Stops_0 ((vs, car, (), (), (), (0 : Int), ()), (m.tup, ((0 : Int), (0 : Int), ()), ((0 : Int), (0 : Int), ()), ())) = _ := hlp
          unfold Img.tup at hlp'
          simp only [Bool.not_true, cond_false, hlp', Option.bind_some, List.drop_zero, Bool.and_self, cond_true]
        · rw [decide_eq_false g', decide_eq_true (show (b.Cars.length : Int) ≤ car by omega)]; rfl
      · rw [decide_eq_false g, decide_eq_true (show car < 0 by omega)]; rfl
end
end Go.Ovl
