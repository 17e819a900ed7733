/- math/bits on small sets. -/
import Derived.Test.YticbfghinhhgiaaDoorOvBits2
import Derived.Test.YticbfghinhhgiaaDoorDefs2
namespace Go.Ovl
open Go Go.Ab
set_option maxRecDepth 100000
def chkTz (s : Nat) : Option ((Int × Unit) × Unit) → Bool
  | some ((k, _), _) => Nat.beq s 0 || (decide (0 ≤ k) && (decide (k < 8) && (s.testBit k.toNat && (List.range 8).all fun i => Nat.ble k.toNat i || !s.testBit i)))
  | none => false
def chkLen (s : Nat) : Option ((Int × Unit) × Unit) → Bool
  | some ((k, _), _) => Nat.beq s 0 || (decide (1 ≤ k) && (decide (k ≤ 8) && (s.testBit (k.toNat - 1) && (List.range 8).all fun i => Nat.blt i k.toNat || !s.testBit i)))
  | none => false
def ones8 (s : Nat) : Nat := (List.range 8).foldl (fun n i => n + (s.testBit i).toNat) 0
def chkOnes (s : Nat) : Option ((Int × Unit) × Unit) → Bool
  | some ((k, _), _) => k == (ones8 s : Int)
  | none => false
theorem tz_all : ((List.range 256).all fun s => chkTz s (F_bits_TrailingZeros32 (s : Int))) = true := by kernel_rfl
theorem len_all : ((List.range 256).all fun s => chkLen s (F_bits_Len32 (s : Int))) = true := by kernel_rfl
theorem ones_all : ((List.range 256).all fun s => chkOnes s (F_bits_OnesCount32 (s : Int))) = true := by kernel_rfl
theorem tz_eq {s : Nat} (h : s < 256) (h0 : s ≠ 0) : ∃ k : Nat, F_bits_TrailingZeros32 (s : Int) = some (((k : Int), ()), ()) ∧ k < 8 ∧ s.testBit k = true ∧ ∀ i, i < k → s.testBit i = false := by
  have := List.all_eq_true.1 tz_all s (List.mem_range.2 h)
  cases hf : F_bits_TrailingZeros32 (s : Int) with
  | none => rw [hf] at this; cases this
  | some r =>
    obtain ⟨⟨k, _⟩, _⟩ := r
    rw [hf] at this
    have hb : Nat.beq s 0 = false := by cases hb : Nat.beq s 0 with
      | false => rfl
      | true => exact absurd (Nat.eq_of_beq_eq_true hb) h0
    simp only [chkTz, hb, Bool.false_or, Bool.and_eq_true, decide_eq_true_eq, List.all_eq_true] at this
    obtain ⟨a1, a2, a3, a4⟩ := this
    refine ⟨k.toNat, by rw [Int.toNat_of_nonneg a1], by omega, a3, fun i hi => ?_⟩
    have := a4 i (List.mem_range.2 (by omega))
    have hn : Nat.ble k.toNat i = false := by
      cases hb : Nat.ble k.toNat i with
      | false => rfl
      | true => exact absurd (Nat.le_of_ble_eq_true hb) (by omega)
    rw [hn] at this
    simpa using this
theorem len_eq {s : Nat} (h : s < 256) (h0 : s ≠ 0) : ∃ k : Nat, F_bits_Len32 (s : Int) = some ((((k + 1 : Nat) : Int), ()), ()) ∧ k < 8 ∧ s.testBit k = true ∧ ∀ i, k < i → s.testBit i = false := by
  have := List.all_eq_true.1 len_all s (List.mem_range.2 h)
  cases hf : F_bits_Len32 (s : Int) with
  | none => rw [hf] at this; cases this
  | some r =>
    obtain ⟨⟨k, _⟩, _⟩ := r
    rw [hf] at this
    have hb : Nat.beq s 0 = false := by cases hb : Nat.beq s 0 with
      | false => rfl
      | true => exact absurd (Nat.eq_of_beq_eq_true hb) h0
    simp only [chkLen, hb, Bool.false_or, Bool.and_eq_true, decide_eq_true_eq, List.all_eq_true] at this
    obtain ⟨a1, a2, a3, a4⟩ := this
    refine ⟨k.toNat - 1, by congr 3; omega, by omega, a3, fun i hi => ?_⟩
    by_cases hi8 : i < 8
    · have := a4 i (List.mem_range.2 hi8)
      have hn : Nat.blt i k.toNat = false := by
        cases hb : Nat.blt i k.toNat with
        | false => rfl
        | true => exact absurd (Nat.le_of_ble_eq_true hb) (by omega)
      rw [hn] at this
      simpa using this
    · exact Nat.testBit_lt_two_pow (Nat.lt_of_lt_of_le h (by rw [show 256 = 2 ^ 8 from rfl]; exact Nat.pow_le_pow_right (by omega) (by omega)))
theorem ones_eq {s : Nat} (h : s < 256) : F_bits_OnesCount32 (s : Int) = some ((((ones8 s : Nat) : Int), ()), ()) := by
  have := List.all_eq_true.1 ones_all s (List.mem_range.2 h)
  cases hf : F_bits_OnesCount32 (s : Int) with
  | none => rw [hf] at this; cases this
  | some r =>
    obtain ⟨⟨k, _⟩, _⟩ := r
    rw [hf] at this
    simp only [chkOnes, beq_iff_eq] at this
    rw [this]
end Go.Ovl
