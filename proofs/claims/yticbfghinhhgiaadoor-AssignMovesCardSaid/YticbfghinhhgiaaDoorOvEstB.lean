/- How great an estimate, and what is expected next, can be (layers 21 and 22). -/
import Derived.Test.YticbfghinhhgiaaDoorOvReady
namespace Go.Ovl
open Go Go.Ab
set_option maxRecDepth 100000
theorem path_le {fl : Nat} (h2 : 2 ≤ fl) (hfl : fl ≤ 8) {car up down : Int} (hc : u32r car) (hu : u32r up) (hd : u32r down) (from_ sweep floor dir : Int) :
    ∃ n : Int, n ≤ 100 ∧ F_r21_Path (fl : Int) from_ sweep car up down floor dir = some ((n, ()), ()) := by
  by_cases h : 0 ≤ from_ ∧ from_ < fl ∧ 0 ≤ sweep ∧ sweep ≤ 2 ∧ isCallB fl floor dir = true
  · obtain ⟨g1, g2, g3, g4, g5⟩ := h
    have hcall := g5
    unfold isCallB at g5
    simp only [Bool.or_eq_true, Bool.and_eq_true, decide_eq_true_eq, beq_iff_eq] at g5
    have e1 : (from_.toNat : Int) = from_ := by omega
    have e2 : (floor.toNat : Int) = floor := by omega
    rw [← e2] at hcall
    obtain ⟨lo, hi, b1, b2, b3, b4, b5, q1, q2⟩ := path_main h2 hfl hc hu hd (fr := from_.toNat) (fo := floor.toNat) (by omega) (by omega) ⟨g3, g4⟩ hcall
    rw [e1, e2] at q2
    refine ⟨_, ?_, q2⟩
    have k : ∀ (p : Bool) (x y : Int), x ≤ 100 → y ≤ 100 → (bif p then x else y) ≤ 100 := fun p x y hx hy => by cases p <;> assumption
    unfold pathV
    exact k _ _ _ (k _ _ _ (by omega) (by omega)) (k _ _ _ (k _ _ _ (k _ _ _ (by omega) (by omega)) (by omega)) (k _ _ _ (k _ _ _ (by omega) (by omega)) (by omega)))
  · obtain ⟨q1, q2⟩ := path_guard h2 hfl car up down from_ sweep floor dir h
    exact ⟨-1, by omega, q2⟩
theorem code_times {b : Bldg} (h : b.code = 0) {c : Car} (hc : c ∈ b.Cars) : timesOK b.Floors c = true := by
  unfold Bldg.code at h
  cases h1 : inR 2 32 b.Floors with
  | false => rw [h1] at h; exact absurd h (fun hh => by simp at hh)
  | true =>
    cases h2 : inR 1 8 (b.Cars.length : Int) with
    | false => rw [h1, h2] at h; exact absurd h (fun hh => by simp at hh)
    | true =>
      cases h3 : (inR 1 16 b.Debounce && inR 1 10000 b.Park && b.Cars.all (timesOK b.Floors)) with
      | false => rw [h1, h2, h3] at h; exact absurd h (fun hh => by simp at hh)
      | true =>
        rw [Bool.and_eq_true, List.all_eq_true] at h3
        exact h3.2 c hc
theorem car_times {b : Bldg} (h : b.code = 0) {i : Int} (hi : 0 ≤ i ∧ i < b.Cars.length) : (1 ≤ (carAt b i).Step ∧ (carAt b i).Step ≤ 10000) ∧ (1 ≤ (carAt b i).Travel ∧ (carAt b i).Travel ≤ 10000) ∧ (1 ≤ (carAt b i).Dwell ∧ (carAt b i).Dwell ≤ 10000) ∧ 0 ≤ (carAt b i).Slack ∧ (carAt b i).Slack ≤ 10000 := by
  have hm : carAt b i ∈ b.Cars := getD_mem _ (show i.toNat < b.Cars.length by omega)
  have := code_times h hm
  unfold timesOK at this
  simp only [List.all_cons, List.all_nil, Bool.and_eq_true, inR_iff] at this
  omega
theorem est_range {b : Bldg} (hb : b.small) (hcode : b.code = 0) {v : View} (hv : v.ok) (car floor dir : Int) : 0 ≤ estV b car v floor dir ∧ estV b car v floor dir ≤ 1000000 := by
  suffices h : ∃ n : Int, estR b car v floor dir = some ((n, ()), ()) ∧ 0 ≤ n ∧ n ≤ 1000000 by
    obtain ⟨n, h1, h2⟩ := h
    unfold estV; rw [h1]; exact h2
  unfold estR F_r21_Estimate
  rw [F_r01_Valid_eq, hcode]
  simp only [Option.bind_some, bne_self_eq_false, cond_false]
  by_cases g1 : car < 0
  · rw [decide_eq_true g1]; exact ⟨_, rfl, by omega, by omega⟩
  rw [decide_eq_false g1]
  simp only [cond_false]
  by_cases g2 : (b.Cars.length : Int) ≤ car
  · rw [decide_eq_true g2]; exact ⟨_, rfl, by omega, by omega⟩
  rw [decide_eq_false g2]
  simp only [cond_false]
  by_cases g3 : v.Floor < 0
  · rw [decide_eq_true g3]; exact ⟨_, rfl, by omega, by omega⟩
  rw [decide_eq_false g3]
  simp only [cond_false]
  have ib : inB car b.Cars.length = true := inB_true (by omega) (by omega)
  have fl : (b.Floors.toNat : Int) = b.Floors := by have := hb.lo; omega
  obtain ⟨k, hk, _, c2⟩ : ∃ n : Nat, n ≤ 24 ∧ F_cost_Count b.Floors v.Stops_Car v.Stops_Hall_Up v.Stops_Hall_Down = some (((n : Int), ()), ()) ∧ F_r21_Count b.Floors v.Stops_Car v.Stops_Hall_Up v.Stops_Hall_Down = some (((n : Int), ()), ()) := by
    have := count_eq (fl := b.Floors.toNat) (by have := hb.lo; omega) (by have := hb.hi; omega) hv.c hv.u hv.d
    rw [fl] at this; exact this
  obtain ⟨⟨s1, s2⟩, ⟨t1, t2⟩, ⟨d1, d2⟩, _⟩ := car_times hcode (i := car) (by omega)
  unfold carAt at s1 s2 t1 t2 d1 d2
  have fin : ∀ sw : Int, ∃ n : Int, ((F_r21_Path b.Floors v.Floor sw v.Stops_Car v.Stops_Hall_Up v.Stops_Hall_Down floor dir).bind fun y3 => bif decide (y3.1.1 < 0) then some ((1000000, ()), ()) else
          bif inB car b.Cars.length then
            let z0 : Car := b.Cars.getD car.toNat (Car.mk 0 0 0 0 0 0 0 0 0)
            (F_r21_Count b.Floors v.Stops_Car v.Stops_Hall_Up v.Stops_Hall_Down).bind fun y4 =>
            let z1 : Int := IntKind.i64.wrap (IntKind.i64.wrap (y3.1.1 * z0.Step) + IntKind.i64.wrap (y4.1.1 * IntKind.i64.wrap (IntKind.i64.wrap (2 * z0.Travel) + z0.Dwell)))
            some (((bif decide (1000000 < z1) then 1000000 else z1), ()), ())
          else none) = some ((n, ()), ()) ∧ 0 ≤ n ∧ n ≤ 1000000 := fun sw => by
    obtain ⟨n, hn, q⟩ : ∃ n : Int, n ≤ 100 ∧ F_r21_Path b.Floors v.Floor sw v.Stops_Car v.Stops_Hall_Up v.Stops_Hall_Down floor dir = some ((n, ()), ()) := by
      have := path_le (fl := b.Floors.toNat) (by have := hb.lo; omega) (by have := hb.hi; omega) hv.c hv.u hv.d v.Floor sw floor dir
      rw [fl] at this; exact this
    rw [q, c2, ib]
    simp only [Option.bind_some, cond_true]
    by_cases g4 : n < 0
    · rw [decide_eq_true g4]; exact ⟨_, rfl, by omega, by omega⟩
    · rw [decide_eq_false g4]
      generalize b.Cars.getD car.toNat (Car.mk 0 0 0 0 0 0 0 0 0) = c at *
      have m1 : 0 ≤ n * c.Step := Int.mul_nonneg (by omega) (by omega)
      have m2 : n * c.Step ≤ 100 * 10000 := Int.mul_le_mul hn s2 (by omega) (by omega)
      have w1 : IntKind.i64.wrap (2 * c.Travel) = 2 * c.Travel := wrap_small (by omega) (by omega)
      have w2 : IntKind.i64.wrap (2 * c.Travel + c.Dwell) = 2 * c.Travel + c.Dwell := wrap_small (by omega) (by omega)
      have m3 : 0 ≤ (k : Int) * (2 * c.Travel + c.Dwell) := Int.mul_nonneg (by omega) (by omega)
      have m4 : (k : Int) * (2 * c.Travel + c.Dwell) ≤ 24 * 30000 := Int.mul_le_mul (by omega) (by omega) (by omega) (by omega)
      have w3 : IntKind.i64.wrap (n * c.Step) = n * c.Step := wrap_small (by omega) (by omega)
      have w4 : IntKind.i64.wrap ((k : Int) * (2 * c.Travel + c.Dwell)) = (k : Int) * (2 * c.Travel + c.Dwell) := wrap_small (by omega) (by omega)
      have w5 : IntKind.i64.wrap (n * c.Step + (k : Int) * (2 * c.Travel + c.Dwell)) = n * c.Step + (k : Int) * (2 * c.Travel + c.Dwell) := wrap_small (by omega) (by omega)
      simp only [w1, w2, w3, w4, w5, cond_false]
      by_cases g5 : 1000000 < n * c.Step + (k : Int) * (2 * c.Travel + c.Dwell)
      · rw [decide_eq_true g5]; exact ⟨_, rfl, by show (0 : Int) ≤ 1000000; omega, by show (1000000 : Int) ≤ 1000000; omega⟩
      · rw [decide_eq_false g5]; exact ⟨_, rfl, by show 0 ≤ n * c.Step + (k : Int) * (2 * c.Travel + c.Dwell); omega, by show n * c.Step + (k : Int) * (2 * c.Travel + c.Dwell) ≤ 1000000; omega⟩
  cases v.Dir == 3 with
  | true => exact fin 0
  | false => exact fin v.Dir
theorem Plan22.next {b : Bldg} {m : Img} {vs : List View} {xs : List Int} (h : Plan22 b m vs xs) {e : Entry} (he : -2 ≤ e.Car ∧ e.Car < vs.length) {x : Int} (hx : 0 ≤ x ∧ x ≤ 1000000) : 0 ≤ nextV b vs e (decV b vs e x) x ∧ nextV b vs e (decV b vs e x) x ≤ 1000000 := by
  have hin := decV_in b he x
  generalize decV b vs e x = n at *
  unfold nextV
  cases hc : (n.Car != e.Car && decide (0 ≤ n.Car)) with
  | true =>
    rw [Bool.and_eq_true, decide_eq_true_eq] at hc
    obtain ⟨r1, r2⟩ := est_range h.small h.code (h.made.ok.at n.Car) n.Car e.Floor e.Dir
    obtain ⟨_, _, _, r3, r4⟩ := car_times h.code (i := n.Car) (by have := h.vlen; omega)
    have w : IntKind.i64.wrap (estV b n.Car (viewAt vs n.Car) e.Floor e.Dir + (carAt b n.Car).Slack) = estV b n.Car (viewAt vs n.Car) e.Floor e.Dir + (carAt b n.Car).Slack := wrap_small (by omega) (by omega)
    rw [cond_true, w]
    by_cases g : 1000000 < estV b n.Car (viewAt vs n.Car) e.Floor e.Dir + (carAt b n.Car).Slack
    · rw [decide_eq_true g]; exact ⟨by show (0 : Int) ≤ 1000000; omega, by show (1000000 : Int) ≤ 1000000; omega⟩
    · rw [decide_eq_false g]; simp only [cond_false]; omega
  | false =>
    have w : IntKind.i64.wrap (x - 1) = x - 1 := wrap_small (by omega) (by omega)
    rw [cond_false, w]
    by_cases g : x - 1 < 0
    · rw [decide_eq_true g]; exact ⟨by show (0 : Int) ≤ 0; omega, by show (0 : Int) ≤ 1000000; omega⟩
    · rw [decide_eq_false g]; simp only [cond_false]; omega
end Go.Ovl
