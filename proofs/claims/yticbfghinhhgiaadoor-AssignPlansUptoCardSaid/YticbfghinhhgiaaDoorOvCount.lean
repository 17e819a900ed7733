/- How many stops count (layer 21), and the path of a car: the program and the reference say the same. -/
import Derived.Test.YticbfghinhhgiaaDoorOvPathMain
namespace Go.Ovl
open Go Go.Ab
set_option maxRecDepth 100000
/-- How far a car goes. -/
def pathOk (fl from_ sweep floor dir : Int) : Bool := decide (0 ≤ from_) && (decide (from_ < fl) && (decide (0 ≤ sweep) && (decide (sweep ≤ 2) && isCallB fl floor dir)))
theorem path_eq {fl : Nat} (h2 : 2 ≤ fl) (hfl : fl ≤ 8) {car up down : Int} (hc : u32r car) (hu : u32r up) (hd : u32r down) (from_ sweep floor dir : Int) :
    ∃ n : Int, F_cost_Path (fl : Int) from_ sweep car up down floor dir = some ((n, ()), ()) ∧ F_r21_Path (fl : Int) from_ sweep car up down floor dir = some ((n, ()), ()) ∧ (from_ < 0 → n = -1) := by
  by_cases h : 0 ≤ from_ ∧ from_ < fl ∧ 0 ≤ sweep ∧ sweep ≤ 2 ∧ isCallB fl floor dir = true
  · obtain ⟨g1, g2, g3, g4, g5⟩ := h
    have hcall := g5
    unfold isCallB at g5
    simp only [Bool.or_eq_true, Bool.and_eq_true, decide_eq_true_eq, beq_iff_eq] at g5
    have e1 : (from_.toNat : Int) = from_ := by omega
    have e2 : (floor.toNat : Int) = floor := by omega
    rw [← e2] at hcall
    obtain ⟨lo, hi, b1, b2, b3, b4, b5, q1, q2⟩ := path_main h2 hfl hc hu hd (fr := from_.toNat) (fo := floor.toNat) (by omega) (by omega) ⟨g3, g4⟩ hcall
    rw [e1, e2] at q1 q2
    exact ⟨_, q1, q2, by omega⟩
  · obtain ⟨q1, q2⟩ := path_guard h2 hfl car up down from_ sweep floor dir h
    exact ⟨-1, q1, q2, fun _ => rfl⟩
/-- How many of some bits are set. -/
def sB (s : Nat) : Nat → Nat → Nat
  | 0, _ => 0
  | m + 1, i => (s.testBit i).toNat + sB s m (i + 1)
theorem sB_le (s : Nat) : ∀ m i, sB s m i ≤ m
  | 0, _ => Nat.le_refl _
  | m + 1, i => by
    have := sB_le s m (i + 1)
    have h : (s.testBit i).toNat ≤ 1 := by cases s.testBit i <;> decide
    show _ + _ ≤ _
    omega
theorem sB_all : ((List.range 256).all fun s => (List.range 9).all fun fl => Nat.beq (sB s fl 0) (ones8 s) || (List.range 8).any fun i => Nat.ble fl i && s.testBit i) = true := by kernel_rfl
theorem sB_ones {s fl : Nat} (h : s < 256) (hfl : fl ≤ 8) (hz : ∀ i, fl ≤ i → s.testBit i = false) : sB s fl 0 = ones8 s := by
  have := List.all_eq_true.1 (List.all_eq_true.1 sB_all s (List.mem_range.2 h)) fl (List.mem_range.2 (by omega))
  rw [Bool.or_eq_true] at this
  rcases this with h | h
  · exact Nat.eq_of_beq_eq_true h
  · obtain ⟨i, _, hi⟩ := List.any_eq_true.1 h
    rw [Bool.and_eq_true] at hi
    rw [hz i (Nat.le_of_ble_eq_true hi.1)] at hi
    cases hi.2
theorem r21_Count_in {fl : Nat} (h2 : 2 ≤ fl) (hfl : fl ≤ 8) {car up down : Int} (hc : u32r car) (hu : u32r up) (hd : u32r down) {a u d : Nat} (c : Cnt fl car up down a u d) {f : Nat} (hf : f < fl) {n : Nat} (hn : n < 100) :
    L_r21_Count_1 (((fl : Int), (), (n : Int), (f : Int), (0 : Int), ()), ((car, up, down, ()), ())) = some (((fl : Int), (), (((n + (a.testBit f).toNat + (u.testBit f).toNat + (d.testBit f).toNat : Nat)) : Int), (f : Int), ()), ((car, up, down, ()), ())) := by
  obtain ⟨k0, k1, k2⟩ := F_r21_is_eq h2 hfl hc hu hd c hf
  have w : ∀ k : Nat, k < 200 → IntKind.i64.wrap ((k : Int) + 1) = ((k + 1 : Nat) : Int) := fun k hk => by rw [wrap_small (by omega) (by omega)]; omega
  have st : ∀ (p : Bool) (k : Nat), k < 200 → (bif p then IntKind.i64.wrap ((k : Int) + 1) else (k : Int)) = ((k + p.toNat : Nat) : Int) := fun p k hk => by
    cases p
    · rfl
    · exact w k hk
  have r : ∀ (k : Nat) (p : Bool) (j : Int), j < 3 → ∀ j', IntKind.i64.wrap (j + 1) = j' → k < 200 → F_r21_is fl car up down f j = some ((p, ()), ()) → R_r21_Count_1 fl k f j car up down = some (.inl (((fl : Int), (), ((k + p.toNat : Nat) : Int), (f : Int), j', ()), ((car, up, down, ()), ()))) := fun k p j hj j' hw hk h => by
    unfold R_r21_Count_1
    rw [decide_eq_true hj, h, hw, ← st p k hk]
    cases p <;> rfl
  refine iter_fuel (f := 4) ?_ (by omega)
  refine (iter_inl (r n _ 0 (by omega) 1 (by decide) (by omega) k0)).trans ?_
  have a1 : (a.testBit f).toNat ≤ 1 := by cases a.testBit f <;> decide
  have a2 : (u.testBit f).toNat ≤ 1 := by cases u.testBit f <;> decide
  refine (iter_inl (r _ _ 1 (by omega) 2 (by decide) (by omega) k1)).trans ?_
  refine (iter_inl (r _ _ 2 (by omega) 3 (by decide) (by omega) k2)).trans ?_
  refine iter_inr ?_
  show R_r21_Count_1 (fl : Int) _ (f : Int) 3 car up down = _
  unfold R_r21_Count_1
  rfl
theorem r21_Count_loop {fl : Nat} (h2 : 2 ≤ fl) (hfl : fl ≤ 8) {car up down : Int} (hc : u32r car) (hu : u32r up) (hd : u32r down) {a u d : Nat} (c : Cnt fl car up down a u d) :
    ∀ (m i n : Nat), i + m = fl → n + 3 * m < 100 → iter (fun x => R_r21_Count_0 x.1.1 x.1.2.2.1 x.1.2.2.2.1 x.2.1.1 x.2.1.2.1 x.2.1.2.2.1) (m + 1) (((fl : Int), (), (n : Int), (i : Int), ()), ((car, up, down, ()), ())) = some ((((n + sB a m i + sB u m i + sB d m i : Nat) : Int), ()), ())
  | 0, i, n, hi, hn => by
    refine iter_inr ?_
    show R_r21_Count_0 (fl : Int) n i car up down = _
    unfold R_r21_Count_0
    have e : decide ((i : Int) < (fl : Int)) = false := by simp; omega
    rw [e]; rfl
  | m + 1, i, n, hi, hn => by
    have e : decide ((i : Int) < (fl : Int)) = true := by simp; omega
    have w : IntKind.i64.wrap ((i : Int) + 1) = ((i + 1 : Nat) : Int) := by rw [wrap_small (by omega) (by omega)]; omega
    have a1 : (a.testBit i).toNat ≤ 1 := by cases a.testBit i <;> decide
    have a2 : (u.testBit i).toNat ≤ 1 := by cases u.testBit i <;> decide
    have a3 : (d.testBit i).toNat ≤ 1 := by cases d.testBit i <;> decide
    refine (iter_inl (x' := (((fl : Int), (), ((n + (a.testBit i).toNat + (u.testBit i).toNat + (d.testBit i).toNat : Nat) : Int), ((i + 1 : Nat) : Int), ()), ((car, up, down, ()), ()))) ?_).trans ?_
    · show R_r21_Count_0 (fl : Int) n i car up down = _
      unfold R_r21_Count_0
      rw [e, r21_Count_in h2 hfl hc hu hd c (show i < fl by omega) (show n < 100 by omega)]
      simp only [cond_true, Option.bind_some, w]
    · rw [r21_Count_loop h2 hfl hc hu hd c m (i + 1) _ (by omega) (by omega)]
      have : n + (a.testBit i).toNat + (u.testBit i).toNat + (d.testBit i).toNat + sB a m (i + 1) + sB u m (i + 1) + sB d m (i + 1) = n + sB a (m + 1) i + sB u (m + 1) i + sB d (m + 1) i := by
        simp only [sB]; omega
      rw [this]
theorem count_eq {fl : Nat} (h2 : 2 ≤ fl) (hfl : fl ≤ 8) {car up down : Int} (hc : u32r car) (hu : u32r up) (hd : u32r down) :
    ∃ n : Nat, n ≤ 24 ∧ F_cost_Count (fl : Int) car up down = some (((n : Int), ()), ()) ∧ F_r21_Count (fl : Int) car up down = some (((n : Int), ()), ()) := by
  obtain ⟨a, u, d, hcnt, c⟩ := F_cost_counted_eq hfl car up down
  have ea := sB_ones c.la hfl fun i hi => (c.hi i hi).1
  have eu := sB_ones c.lu hfl fun i hi => (c.hi i hi).2.1
  have ed := sB_ones c.ld hfl fun i hi => (c.hi i hi).2.2
  have la := sB_le a fl 0
  have lu := sB_le u fl 0
  have ld := sB_le d fl 0
  refine ⟨sB a fl 0 + sB u fl 0 + sB d fl 0, by omega, ?_, ?_⟩
  · unfold F_cost_Count F_calls_Count
    rw [F_cost_isFloors_eq ⟨by omega, by omega⟩, hcnt]
    simp only [Option.bind_some, Bool.not_true, cond_false, ones_eq c.la, ones_eq c.lu, ones_eq c.ld]
    rw [← ea, ← eu, ← ed]
    rw [wrap_small (n := ((sB u fl 0 : Nat) : Int) + ((sB d fl 0 : Nat) : Int)) (by omega) (by omega), wrap_small (by omega) (by omega)]
    have : ((sB a fl 0 : Nat) : Int) + (((sB u fl 0 : Nat) : Int) + ((sB d fl 0 : Nat) : Int)) = ((sB a fl 0 + sB u fl 0 + sB d fl 0 : Nat) : Int) := by omega
    rw [this]
  · unfold F_r21_Count
    rw [decide_eq_false (show ¬ ((fl : Int) < 2) by omega), decide_eq_false (show ¬ ((32 : Int) < fl) by omega)]
    have hl := iter_fuel (r21_Count_loop h2 hfl hc hu hd c fl 0 0 (by omega) (by omega)) (by omega)
    have hl' : L_r21_Count_0 (((fl : Int), (), (0 : Int), (0 : Int), ()), ((car, up, down, ()), ())) = _ := hl
    rw [hl']
    simp only [cond_false, Option.bind_some, Nat.zero_add]
end Go.Ovl
