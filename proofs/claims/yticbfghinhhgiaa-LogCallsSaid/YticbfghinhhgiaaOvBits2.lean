/- Sets of 32 bits: what the code's words do, for any two of them. -/
import Derived.Test.YticbfghinhhgiaaOvBits
namespace Go.Ovl
open Go Go.Ab
theorem w_or (x y : Int) : IntKind.u32.wrap (stk x y (BitVec.toNat (BitVec.ofInt (IntKind.bits .u32) x ||| BitVec.ofInt (IntKind.bits .u32) y))) = vb (bv x ||| bv y) := by
  rw [stk_eq]; exact wrap_vb _
theorem w_and (x y : Int) : IntKind.u32.wrap (stk x y (BitVec.toNat (BitVec.ofInt (IntKind.bits .u32) x &&& BitVec.ofInt (IntKind.bits .u32) y))) = vb (bv x &&& bv y) := by
  rw [stk_eq]; exact wrap_vb _
theorem w_xor (x y : Int) : IntKind.u32.wrap (stk x y (BitVec.toNat (BitVec.ofInt (IntKind.bits .u32) x ^^^ BitVec.ofInt (IntKind.bits .u32) y))) = vb (bv x ^^^ bv y) := by
  rw [stk_eq]; exact wrap_vb _
theorem w_andNot (x y : Int) : IntKind.u32.wrap (stk x y (BitVec.toNat (BitVec.ofInt (IntKind.bits .u32) x &&& ~~~ BitVec.ofInt (IntKind.bits .u32) y))) = vb (bv x &&& ~~~ bv y) := by
  rw [stk_eq]; exact wrap_vb _
theorem bit_vb (b : BitVec 32) (i : Nat) : bitF (vb b) i = b.getLsbD i := by unfold bitF; rw [bv_vb]
theorem bit_big (f : Int) {i : Nat} (h : 32 ≤ i) : bitF f i = false := by unfold bitF; exact BitVec.getLsbD_of_ge _ _ h
/-- The one bit of a place. -/
theorem bit_pow {k : Nat} (h : k < 32) (i : Nat) : bitF (IntKind.u32.wrap (1 * 2 ^ min k (IntKind.bits .u32))) i = decide (i = k) := by
  unfold bitF
  rw [bv_pow, if_pos h, BitVec.getLsbD_twoPow]
  by_cases e : i = k
  · subst e; simp [h]
  · simp [e, Ne.symm e]
/-- A number below 2^n has no bit from n on. -/
theorem bit_test' {f : Int} (h : 0 ≤ f ∧ f < 4294967296) (i : Nat) : bitF f i = f.toNat.testBit i := by
  simp only [bitF, bv, BitVec.getLsbD, BitVec.toNat_ofInt]
  have : (f % ((2 ^ 32 : Nat) : Int)).toNat = f.toNat := by simp; omega
  rw [this]
end Go.Ovl
