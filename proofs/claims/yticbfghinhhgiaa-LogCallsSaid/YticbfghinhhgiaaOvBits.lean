/- Sets of 32 bits, as numbers. -/
import Derived.Test.YticbfghinhhgiaaOvBase
namespace Go.Ovl
open Go Go.Ab

/-- A number as 32 bits, and back. -/
def bv (f : Int) : BitVec 32 := BitVec.ofInt 32 f
def vb (b : BitVec 32) : Int := (b.toNat : Int)
theorem vb_bound (b : BitVec 32) : 0 ≤ vb b ∧ vb b < 4294967296 := by
  have := b.isLt
  unfold vb; omega
theorem bv_vb (b : BitVec 32) : bv (vb b) = b := by
  apply BitVec.eq_of_toNat_eq
  have := b.isLt
  simp only [bv, vb, BitVec.toNat_ofInt]
  omega
theorem vb_bv {f : Int} (h : 0 ≤ f ∧ f < 4294967296) : vb (bv f) = f := by
  simp only [bv, vb, BitVec.toNat_ofInt]
  omega
theorem wrap_vb (b : BitVec 32) : IntKind.u32.wrap ((b.toNat : Nat) : Int) = vb b := by
  have := b.isLt
  simp only [IntKind.wrap, IntKind.signed, IntKind.bits, vb]
  simp
  omega
theorem bits_u32 : IntKind.bits .u32 = 32 := rfl
theorem bv_def (f : Int) : BitVec.ofInt (IntKind.bits .u32) f = bv f := rfl
theorem bv_wrap (f : Int) : bv (IntKind.u32.wrap f) = bv f := by
  apply BitVec.eq_of_toNat_eq
  simp only [bv, BitVec.toNat_ofInt, IntKind.wrap, IntKind.signed, IntKind.bits]
  simp
theorem bv_pow (i : Nat) : bv (IntKind.u32.wrap (1 * 2 ^ min i (IntKind.bits .u32))) = if i < 32 then BitVec.twoPow 32 i else 0#32 := by
  rw [bv_wrap, Int.one_mul]
  apply BitVec.eq_of_toNat_eq
  simp only [bv, BitVec.toNat_ofInt, bits_u32]
  by_cases h : i < 32
  · rw [if_pos h, Nat.min_eq_left (by omega), BitVec.toNat_twoPow]
    have : ((2 : Int) ^ i) = ((2 ^ i : Nat) : Int) := by simp
    rw [this]
    norm_cast
  · rw [if_neg h, Nat.min_eq_right (by omega)]
    rfl
/-- The bit of a place. -/
def bitF (f : Int) (i : Nat) : Bool := (bv f).getLsbD i
theorem bit_test {f : Int} (h : 0 ≤ f ∧ f < 4294967296) {i : Nat} (hi : i < 32) :
    (IntKind.u32.wrap ((BitVec.toNat (BitVec.ofInt (IntKind.bits .u32) (Int.fdiv f (2 ^ min i (IntKind.bits .u32))) &&& BitVec.ofInt (IntKind.bits .u32) 1) : Nat) : Int) == 1) = bitF f i := by
  have e : Int.fdiv f (2 ^ min i (IntKind.bits .u32)) = ((f.toNat / 2 ^ i : Nat) : Int) := by
    rw [bits_u32, Nat.min_eq_left (by omega), Int.fdiv_eq_ediv_of_nonneg _ (by exact Int.le_of_lt (Int.pow_pos (by omega)))]
    have : f = ((f.toNat : Nat) : Int) := by omega
    rw [this]
    simp
  rw [e]
  show (IntKind.u32.wrap (((bv ((f.toNat / 2 ^ i : Nat) : Int) &&& bv 1).toNat : Nat) : Int) == 1) = _
  rw [wrap_vb]
  have hb : (bv ((f.toNat / 2 ^ i : Nat) : Int) &&& bv 1) = if bitF f i then 1#32 else 0#32 := by
    apply BitVec.eq_of_getLsbD_eq
    intro j hj
    have h1 : (bv ((f.toNat / 2 ^ i : Nat) : Int)).getLsbD j = (f.toNat / 2 ^ i).testBit j := by
      simp only [bv, BitVec.getLsbD, BitVec.toNat_ofInt]
      have : (((f.toNat / 2 ^ i : Nat) : Int) % ((2 ^ 32 : Nat) : Int)).toNat = (f.toNat / 2 ^ i) % 2 ^ 32 := by norm_cast
      rw [this, Nat.testBit_mod_two_pow]
      simp [hj]
    have h2 : bitF f i = f.toNat.testBit i := by
      simp only [bitF, bv, BitVec.getLsbD, BitVec.toNat_ofInt]
      have : (f % ((2 ^ 32 : Nat) : Int)).toNat = f.toNat := by simp; omega
      rw [this]
    have h3 : (bv 1).getLsbD j = decide (j = 0) := by
      have : bv 1 = 1#32 := rfl
      rw [this]; simp [BitVec.getLsbD_one]
    rw [BitVec.getLsbD_and, h1, h3, h2]
    by_cases hj0 : j = 0
    · subst hj0
      rw [Nat.testBit_div_two_pow]
      simp only [Nat.zero_add, decide_true, Bool.and_true]
      cases f.toNat.testBit i <;> simp
    · simp only [hj0, decide_false, Bool.and_false]
      cases f.toNat.testBit i <;> simp [BitVec.getLsbD_one, hj0]
  rw [hb]
  cases bitF f i <;> rfl
/-- A bit set, or not. -/
def setF (f : Int) (i : Nat) (on : Bool) : Int := vb (if on then bv f ||| BitVec.twoPow 32 i else bv f &&& ~~~ BitVec.twoPow 32 i)
theorem setF_bound (f : Int) (i : Nat) (on : Bool) : 0 ≤ setF f i on ∧ setF f i on < 4294967296 := vb_bound _
theorem bit_set (f : Int) {i j : Nat} (on : Bool) (hi : i < 32) (hj : j < 32) : bitF (setF f i on) j = if j = i then on else bitF f j := by
  unfold bitF setF
  rw [bv_vb]
  cases on with
  | true =>
    simp only [if_true, BitVec.getLsbD_or, BitVec.getLsbD_twoPow]
    by_cases h : j = i
    · subst h; simp [hj]
    · simp [h, Ne.symm h]
  | false =>
    simp only [if_false, BitVec.getLsbD_and, BitVec.getLsbD_not, BitVec.getLsbD_twoPow, Bool.false_eq_true]
    by_cases h : j = i
    · subst h; simp [hj]
    · simp [h, hj, Ne.symm h]
theorem bit_ext {f g : Int} (hf : 0 ≤ f ∧ f < 4294967296) (hg : 0 ≤ g ∧ g < 4294967296) (h : ∀ i, i < 32 → bitF f i = bitF g i) : f = g := by
  rw [← vb_bv hf, ← vb_bv hg]
  congr 1
  apply BitVec.eq_of_getLsbD_eq
  intro i hi
  exact h i hi
/-- As the code writes it. -/
theorem or_set (f : Int) {i : Nat} (hi : i < 32) : IntKind.u32.wrap ((BitVec.toNat (BitVec.ofInt (IntKind.bits .u32) f ||| BitVec.ofInt (IntKind.bits .u32) (IntKind.u32.wrap (1 * 2 ^ min i (IntKind.bits .u32)))) : Nat) : Int) = setF f i true := by
  show IntKind.u32.wrap (((bv f ||| bv (IntKind.u32.wrap (1 * 2 ^ min i (IntKind.bits .u32)))).toNat : Nat) : Int) = _
  rw [wrap_vb, bv_pow, if_pos hi]; rfl
theorem and_clear (f : Int) {i : Nat} (hi : i < 32) : IntKind.u32.wrap ((BitVec.toNat (BitVec.ofInt (IntKind.bits .u32) f &&& ~~~ BitVec.ofInt (IntKind.bits .u32) (IntKind.u32.wrap (1 * 2 ^ min i (IntKind.bits .u32)))) : Nat) : Int) = setF f i false := by
  show IntKind.u32.wrap (((bv f &&& ~~~ bv (IntKind.u32.wrap (1 * 2 ^ min i (IntKind.bits .u32)))).toNat : Nat) : Int) = _
  rw [wrap_vb, bv_pow, if_pos hi]; rfl
theorem set_clear (f : Int) (i : Nat) : setF (setF f i false) i true = setF f i true := by
  unfold setF
  simp only [if_true, if_false, Bool.false_eq_true, bv_vb]
  congr 1
  apply BitVec.eq_of_getLsbD_eq
  intro j hj
  simp only [BitVec.getLsbD_or, BitVec.getLsbD_and, BitVec.getLsbD_not]
  cases (bv f).getLsbD j <;> cases (BitVec.twoPow 32 i).getLsbD j <;> simp [hj]
end Go.Ovl
