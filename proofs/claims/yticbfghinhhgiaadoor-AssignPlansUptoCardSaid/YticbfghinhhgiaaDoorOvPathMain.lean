/- How far a car goes (layer 21): the program and the reference say the same. -/
import Derived.Test.YticbfghinhhgiaaDoorOvPathTail
namespace Go.Ovl
open Go Go.Ab
set_option maxRecDepth 100000
set_option maxHeartbeats 1000000 in
theorem path_main {fl : Nat} (h2 : 2 ≤ fl) (hfl : fl ≤ 8) {car up down : Int} (hc : u32r car) (hu : u32r up) (hd : u32r down) {fr fo : Nat} (hr : fr < fl) (ho : fo < fl) {sweep dir : Int} (hs : 0 ≤ sweep ∧ sweep ≤ 2) (hcall : isCallB fl fo dir = true) :
    ∃ lo hi : Nat, lo ≤ fr ∧ lo ≤ fo ∧ fr ≤ hi ∧ fo ≤ hi ∧ hi < 8 ∧ F_cost_Path (fl : Int) fr sweep car up down fo dir = some ((pathV sweep dir fr fo lo hi, ()), ()) ∧ F_r21_Path (fl : Int) fr sweep car up down fo dir = some ((pathV sweep dir fr fo lo hi, ()), ()) := by
  obtain ⟨a, u, d, hcnt, c⟩ := F_cost_counted_eq hfl car up down
  obtain ⟨S, s1, s2, s3, s4⟩ := set_eq hfl c hr ho
  obtain ⟨lo, t1, t2, t3, t4⟩ := tz_eq s1 s2
  obtain ⟨hi, l1, l2, l3, l4⟩ := len_eq s1 s2
  have hl := hl_set (p := fun i => a.testBit i || (u.testBit i || d.testBit i)) hr ho s3 l3 l4 t3 t4
  have hlo : ∀ i, S.testBit i = true → lo ≤ i := fun i h => by
    rcases Nat.lt_or_ge i lo with h' | h'
    · rw [t4 i h'] at h; cases h
    · exact h'
  have hhi : ∀ i, S.testBit i = true → i ≤ hi := fun i h => by
    rcases Nat.lt_or_ge hi i with h' | h'
    · rw [l4 i h'] at h; cases h
    · exact h'
  have mfr : S.testBit fr = true := by rw [s3]; simp
  have mfo : S.testBit fo = true := by rw [s3]; simp
  have b1 := hlo _ mfr
  have b2 := hlo _ mfo
  have b3 := hhi _ mfr
  have b4 := hhi _ mfo
  have hdir : dir = 1 ∨ dir = 2 := by
    unfold isCallB at hcall
    simp only [Bool.or_eq_true, Bool.and_eq_true, beq_iff_eq] at hcall
    omega
  have hsw : sweep = 0 ∨ sweep = 1 ∨ sweep = 2 := by omega
  have x0 : IntKind.i64.wrap (((hi : Nat) : Int) - ((fr : Nat) : Int)) = ((hi : Nat) : Int) - ((fr : Nat) : Int) := wrap_small (by omega) (by omega)
  have x1 : IntKind.i64.wrap (((hi : Nat) : Int) - ((fr : Nat) : Int) + ((hi : Nat) : Int)) = ((hi : Nat) : Int) - ((fr : Nat) : Int) + ((hi : Nat) : Int) := wrap_small (by omega) (by omega)
  have x2 : IntKind.i64.wrap (((hi : Nat) : Int) - ((fr : Nat) : Int) + ((hi : Nat) : Int) - ((fo : Nat) : Int)) = ((hi : Nat) : Int) - ((fr : Nat) : Int) + ((hi : Nat) : Int) - ((fo : Nat) : Int) := wrap_small (by omega) (by omega)
  have x3 : IntKind.i64.wrap (((hi : Nat) : Int) - ((fr : Nat) : Int) + ((hi : Nat) : Int) - ((lo : Nat) : Int)) = ((hi : Nat) : Int) - ((fr : Nat) : Int) + ((hi : Nat) : Int) - ((lo : Nat) : Int) := wrap_small (by omega) (by omega)
  have x4 : IntKind.i64.wrap (((hi : Nat) : Int) - ((fr : Nat) : Int) + ((hi : Nat) : Int) - ((lo : Nat) : Int) + ((fo : Nat) : Int)) = ((hi : Nat) : Int) - ((fr : Nat) : Int) + ((hi : Nat) : Int) - ((lo : Nat) : Int) + ((fo : Nat) : Int) := wrap_small (by omega) (by omega)
  have x5 : IntKind.i64.wrap (((hi : Nat) : Int) - ((fr : Nat) : Int) + ((hi : Nat) : Int) - ((lo : Nat) : Int) + ((fo : Nat) : Int) - ((lo : Nat) : Int)) = ((hi : Nat) : Int) - ((fr : Nat) : Int) + ((hi : Nat) : Int) - ((lo : Nat) : Int) + ((fo : Nat) : Int) - ((lo : Nat) : Int) := wrap_small (by omega) (by omega)
  have x6 : IntKind.i64.wrap (((fr : Nat) : Int) - ((lo : Nat) : Int)) = ((fr : Nat) : Int) - ((lo : Nat) : Int) := wrap_small (by omega) (by omega)
  have x7 : IntKind.i64.wrap (((fr : Nat) : Int) - ((lo : Nat) : Int) + ((fo : Nat) : Int)) = ((fr : Nat) : Int) - ((lo : Nat) : Int) + ((fo : Nat) : Int) := wrap_small (by omega) (by omega)
  have x8 : IntKind.i64.wrap (((fr : Nat) : Int) - ((lo : Nat) : Int) + ((fo : Nat) : Int) - ((lo : Nat) : Int)) = ((fr : Nat) : Int) - ((lo : Nat) : Int) + ((fo : Nat) : Int) - ((lo : Nat) : Int) := wrap_small (by omega) (by omega)
  have x9 : IntKind.i64.wrap (((fr : Nat) : Int) - ((lo : Nat) : Int) + ((hi : Nat) : Int)) = ((fr : Nat) : Int) - ((lo : Nat) : Int) + ((hi : Nat) : Int) := wrap_small (by omega) (by omega)
  have x10 : IntKind.i64.wrap (((fr : Nat) : Int) - ((lo : Nat) : Int) + ((hi : Nat) : Int) - ((lo : Nat) : Int)) = ((fr : Nat) : Int) - ((lo : Nat) : Int) + ((hi : Nat) : Int) - ((lo : Nat) : Int) := wrap_small (by omega) (by omega)
  have x11 : IntKind.i64.wrap (((fr : Nat) : Int) - ((lo : Nat) : Int) + ((hi : Nat) : Int) - ((lo : Nat) : Int) + ((hi : Nat) : Int)) = ((fr : Nat) : Int) - ((lo : Nat) : Int) + ((hi : Nat) : Int) - ((lo : Nat) : Int) + ((hi : Nat) : Int) := wrap_small (by omega) (by omega)
  have x12 : IntKind.i64.wrap (((fr : Nat) : Int) - ((lo : Nat) : Int) + ((hi : Nat) : Int) - ((lo : Nat) : Int) + ((hi : Nat) : Int) - ((fo : Nat) : Int)) = ((fr : Nat) : Int) - ((lo : Nat) : Int) + ((hi : Nat) : Int) - ((lo : Nat) : Int) + ((hi : Nat) : Int) - ((fo : Nat) : Int) := wrap_small (by omega) (by omega)
  have x13 : IntKind.i64.wrap (((fr : Nat) : Int) - ((fo : Nat) : Int)) = ((fr : Nat) : Int) - ((fo : Nat) : Int) := wrap_small (by omega) (by omega)
  have x14 : IntKind.i64.wrap (((fo : Nat) : Int) - ((fr : Nat) : Int)) = ((fo : Nat) : Int) - ((fr : Nat) : Int) := wrap_small (by omega) (by omega)
  refine ⟨lo, hi, b1, b2, b3, b4, l2, ?_, ?_⟩
  · unfold F_cost_Path
    rw [F_cost_isFloors_eq ⟨by omega, by omega⟩, F_cost_isCall_eq ⟨by omega, by omega⟩, hcall, hcnt]
    rw [decide_eq_false (show ¬ ((fr : Int) < 0) by omega), decide_eq_false (show ¬ ((fl : Int) ≤ fr) by omega), decide_eq_false (show ¬ (sweep < 0) by omega), decide_eq_false (show ¬ (2 < sweep) by omega)]
    have tn1 : Int.toNat (fr : Int) = fr := by omega
    have tn2 : Int.toNat (fo : Int) = fo := by omega
    have p1 : bv (IntKind.u32.wrap (1 * 2 ^ min fr (IntKind.bits .u32))) = BitVec.twoPow 32 fr := by rw [bv_pow, if_pos (by omega)]
    have p2 : bv (IntKind.u32.wrap (1 * 2 ^ min fo (IntKind.bits .u32))) = BitVec.twoPow 32 fo := by rw [bv_pow, if_pos (by omega)]
    have z1 : decide ((0 : Int) ≤ (fr : Int)) = true := by simp
    have z2 : decide ((0 : Int) ≤ (fo : Int)) = true := by simp
    have lw : IntKind.i64.wrap (((hi + 1 : Nat) : Int) - 1) = (hi : Int) := by rw [wrap_small (by omega) (by omega)]; omega
    simp only [Option.bind_some, Bool.not_true, cond_false, cond_true, z1, z2, tn1, tn2, w_or, bv_vb, p1, p2, s4, t1, l1, lw]
    exact path_tail b1 b2 b3 b4 l2 hsw hdir
  · unfold F_r21_Path
    rw [decide_eq_false (show ¬ ((fl : Int) < 2) by omega), decide_eq_false (show ¬ ((32 : Int) < fl) by omega), decide_eq_false (show ¬ ((fr : Int) < 0) by omega), decide_eq_false (show ¬ ((fl : Int) ≤ fr) by omega), decide_eq_false (show ¬ (sweep < 0) by omega), decide_eq_false (show ¬ (2 < sweep) by omega), refG ⟨by omega, by omega⟩, hcall]
    simp only [cond_false, Option.bind_some, Bool.not_true]
    have hloop := r21_Path_loop h2 hfl hc hu hd c fr sweep fo dir (bif decide ((fr : Int) < fo) then (fo : Int) else fr, bif decide ((fo : Int) < fr) then (fo : Int) else fr)
    rw [hl] at hloop
    simp only at hloop
    rw [hloop]
    rcases hsw with rfl | rfl | rfl
    · unfold pathV
      simp only [Option.bind_some, beq_self_eq_true, cond_true, x13, x14]
    · rcases hdir with rfl | rfl
      · by_cases g : (fr : Int) ≤ fo
        · unfold pathV
          simp only [Option.bind_some, beq_self_eq_true, cond_true, decide_eq_true g, show ((1 : Int) == 0) = false from rfl, cond_false, x0, x1, x2, x3, x4, x5, x13, x14]
        · unfold pathV
          simp only [Option.bind_some, beq_self_eq_true, cond_true, decide_eq_false g, show ((1 : Int) == 0) = false from rfl, show ((1 : Int) == 2) = false from rfl, cond_false, x0, x1, x2, x3, x4, x5, x6, x7, x8, x9, x10, x11, x12, x13, x14]
      · unfold pathV
        simp only [Option.bind_some, beq_self_eq_true, cond_true, show ((1 : Int) == 0) = false from rfl, show ((2 : Int) == 1) = false from rfl, cond_false, x0, x1, x2, x3, x4, x5, x6, x7, x8, x9, x10, x11, x12, x13, x14]
    · rcases hdir with rfl | rfl
      · unfold pathV
        simp only [Option.bind_some, beq_self_eq_true, cond_true, show ((2 : Int) == 0) = false from rfl, show ((2 : Int) == 1) = false from rfl, show ((1 : Int) == 2) = false from rfl, cond_false, x0, x1, x2, x3, x4, x5, x6, x7, x8, x9, x10, x11, x12, x13, x14]
      · by_cases g : (fo : Int) ≤ fr
        · unfold pathV
          simp only [Option.bind_some, beq_self_eq_true, cond_true, decide_eq_true g, show ((2 : Int) == 0) = false from rfl, show ((2 : Int) == 1) = false from rfl, cond_false, x0, x1, x2, x3, x4, x5, x6, x7, x8, x9, x10, x11, x12, x13, x14]
        · unfold pathV
          simp only [Option.bind_some, beq_self_eq_true, cond_true, decide_eq_false g, show ((2 : Int) == 0) = false from rfl, show ((2 : Int) == 1) = false from rfl, cond_false, x0, x1, x2, x3, x4, x5, x6, x7, x8, x9, x10, x11, x12, x13, x14]
end Go.Ovl
