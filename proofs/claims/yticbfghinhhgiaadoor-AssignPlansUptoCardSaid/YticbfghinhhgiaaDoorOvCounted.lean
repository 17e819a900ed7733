/- Stops that count (layer 21). -/
import Derived.Test.YticbfghinhhgiaaDoorOvTables
namespace Go.Ovl
open Go Go.Ab
set_option maxRecDepth 100000
def allM (fl : Nat) : Int := IntKind.u32.wrap (IntKind.u32.wrap (1 * 2 ^ min fl (IntKind.bits .u32)) - 1)
theorem allM_tab : ((List.range 9).all fun fl => (List.range 32).all fun i => (bitF (allM fl) i == decide (i < fl)) && ((bitF (Int.fdiv (allM fl) (2 ^ min (Int.toNat 1) (IntKind.bits .u32))) i == decide (i + 1 < fl)) && (bitF (IntKind.u32.wrap (stk (allM fl) 1 (BitVec.toNat (BitVec.ofInt (IntKind.bits .u32) (allM fl) &&& ~~~ BitVec.ofInt (IntKind.bits .u32) 1)))) i == (decide (0 < i) && decide (i < fl))))) = true := by kernel_rfl
theorem allM_bits {fl : Nat} (h : fl ≤ 8) {i : Nat} (hi : i < 32) : bitF (allM fl) i = decide (i < fl) ∧ bitF (Int.fdiv (allM fl) (2 ^ min (Int.toNat 1) (IntKind.bits .u32))) i = decide (i + 1 < fl) ∧
    bitF (IntKind.u32.wrap (stk (allM fl) 1 (BitVec.toNat (BitVec.ofInt (IntKind.bits .u32) (allM fl) &&& ~~~ BitVec.ofInt (IntKind.bits .u32) 1)))) i = (decide (0 < i) && decide (i < fl)) := by
  have := List.all_eq_true.1 (List.all_eq_true.1 allM_tab fl (List.mem_range.2 (by omega))) i (List.mem_range.2 hi)
  simpa only [Bool.and_eq_true, beq_iff_eq] using this
def u32r (n : Int) : Prop := 0 ≤ n ∧ n < 4294967296
/-- A number by its bits. -/
theorem small_of {b : BitVec 32} {fl : Nat} (hfl : fl ≤ 8) (h : ∀ i, i < 32 → b.getLsbD i = true → i < fl) : b.toNat < 256 := by
  have : b.toNat < 2 ^ 8 := by
    refine Nat.lt_pow_two_of_testBit _ fun i hi => ?_
    by_cases h32 : i < 32
    · cases hb : b.toNat.testBit i with
      | false => rfl
      | true => have := h i h32 (by rw [BitVec.getLsbD]; exact hb); omega
    · rw [← BitVec.getLsbD]; exact BitVec.getLsbD_of_ge _ _ (by omega)
  simpa using this
/-- The stops that count. -/
structure Cnt (fl : Nat) (car up down : Int) (a u d : Nat) : Prop where
  la : a < 256
  lu : u < 256
  ld : d < 256
  ab : ∀ i, i < fl → a.testBit i = bitF car i
  ub : ∀ i, i < fl → u.testBit i = (decide (i + 1 < fl) && bitF up i)
  db : ∀ i, i < fl → d.testBit i = (decide (0 < i) && bitF down i)
  hi : ∀ i, fl ≤ i → a.testBit i = false ∧ u.testBit i = false ∧ d.testBit i = false
theorem F_cost_counted_eq {fl : Nat} (hfl : fl ≤ 8) (car up down : Int) : ∃ a u d : Nat, F_cost_counted fl car up down = some (((), ()), (((a : Int), (u : Int), (d : Int), ()), ())) ∧ Cnt fl car up down a u d := by
  have e0 : decide ((0 : Int) ≤ (fl : Int)) = true := by simp
  have tn : Int.toNat (fl : Int) = fl := by omega
  refine ⟨(bv car &&& bv (allM fl)).toNat, (bv up &&& bv (Int.fdiv (allM fl) (2 ^ min (Int.toNat 1) (IntKind.bits .u32)))).toNat, (bv down &&& bv (IntKind.u32.wrap (stk (allM fl) 1 (BitVec.toNat (BitVec.ofInt (IntKind.bits .u32) (allM fl) &&& ~~~ BitVec.ofInt (IntKind.bits .u32) 1))))).toNat, ?_, ?_⟩
  · unfold F_cost_counted
    rw [e0, cond_true, tn]
    unfold F_calls_Both
    simp only [Option.bind_some]
    rw [show IntKind.u32.wrap (IntKind.u32.wrap (1 * 2 ^ min fl (IntKind.bits .u32)) - 1) = allM fl from rfl]
    rw [w_and, w_and, w_and]
    rfl
  · have hb : ∀ (x y : Int) (i : Nat), (bv x &&& bv y).toNat.testBit i = (bitF x i && bitF y i) := fun x y i => by
      rw [← BitVec.getLsbD, BitVec.getLsbD_and]; rfl
    have hlo : ∀ (x y : Int), (∀ i, i < 32 → bitF y i = true → i < fl) → (bv x &&& bv y).toNat < 256 := fun x y h => small_of hfl fun i hi hg => h i hi (by
      rw [BitVec.getLsbD_and, Bool.and_eq_true] at hg; exact hg.2)
    refine ⟨hlo _ _ fun i hi h => ?_, hlo _ _ fun i hi h => ?_, hlo _ _ fun i hi h => ?_, fun i hi => ?_, fun i hi => ?_, fun i hi => ?_, fun i hi => ?_⟩
    · rw [(allM_bits hfl hi).1] at h; simpa using h
    · rw [(allM_bits hfl hi).2.1] at h; have := of_decide_eq_true h; omega
    · rw [(allM_bits hfl hi).2.2, Bool.and_eq_true] at h; exact of_decide_eq_true h.2
    · rw [hb, (allM_bits hfl (by omega)).1]; simp [hi]
    · rw [hb, (allM_bits hfl (by omega)).2.1, Bool.and_comm]
    · rw [hb, (allM_bits hfl (by omega)).2.2, Bool.and_comm]; simp [hi]
    · rw [hb, hb, hb]
      by_cases h32 : i < 32
      · obtain ⟨h1, h2, h3⟩ := allM_bits hfl h32
        rw [h1, h2, h3, show decide (i < fl) = false from decide_eq_false (by omega), show decide (i + 1 < fl) = false from decide_eq_false (by omega)]
        simp
      · rw [bit_big _ (by omega), bit_big up (by omega), bit_big down (by omega)]
        simp
theorem bit_test2 {f : Int} (h : u32r f) {i : Nat} (hi : i < 32) :
    (IntKind.u32.wrap (stk (Int.fdiv f (2 ^ min i (IntKind.bits .u32))) 1 (BitVec.toNat (BitVec.ofInt (IntKind.bits .u32) (Int.fdiv f (2 ^ min i (IntKind.bits .u32))) &&& BitVec.ofInt (IntKind.bits .u32) 1))) == 1) = bitF f i := by
  rw [stk_eq]; exact bit_test h hi
theorem F_r21_is_eq {fl : Nat} (h2 : 2 ≤ fl) (hfl : fl ≤ 8) {car up down : Int} (hc : u32r car) (hu : u32r up) (hd : u32r down) {a u d : Nat} (c : Cnt fl car up down a u d) {f : Nat} (hf : f < fl) :
    F_r21_is fl car up down f 0 = some ((a.testBit f, ()), ()) ∧ F_r21_is fl car up down f 1 = some ((u.testBit f, ()), ()) ∧ F_r21_is fl car up down f 2 = some ((d.testBit f, ()), ()) := by
  have w : IntKind.u64.wrap (f : Int) = (f : Int) := wrap_u64 (by omega) (by omega)
  have e0 : decide ((0 : Int) ≤ (f : Int)) = true := by simp
  have tn : Int.toNat (f : Int) = f := by omega
  have w1 : IntKind.i64.wrap ((fl : Int) - 1) = (fl : Int) - 1 := wrap_small (by omega) (by omega)
  refine ⟨?_, ?_, ?_⟩
  · unfold F_r21_is
    rw [show ((0 : Int) == 1) = false from rfl, show ((0 : Int) == 2) = false from rfl]
    simp only [cond_false, w, e0, tn, cond_true, bit_test2 hc (show f < 32 by omega), c.ab f hf]
  · unfold F_r21_is
    rw [show ((1 : Int) == 1) = true from rfl]
    simp only [cond_true, w, w1, e0, tn, bit_test2 hu (show f < 32 by omega), c.ub f hf]
    by_cases h : f + 1 < fl
    · rw [show decide ((f : Int) < (fl : Int) - 1) = true from decide_eq_true (by omega), show decide (f + 1 < fl) = true from decide_eq_true h]
      simp
    · rw [show decide ((f : Int) < (fl : Int) - 1) = false from decide_eq_false (by omega), show decide (f + 1 < fl) = false from decide_eq_false h]
      simp
  · unfold F_r21_is
    rw [show ((2 : Int) == 1) = false from rfl, show ((2 : Int) == 2) = true from rfl]
    simp only [cond_true, cond_false, w, e0, tn, bit_test2 hd (show f < 32 by omega), c.db f hf]
    by_cases h : 0 < f
    · rw [show decide ((0 : Int) < (f : Int)) = true from decide_eq_true (by omega), show decide (0 < f) = true from decide_eq_true h]
      simp
    · rw [show decide ((0 : Int) < (f : Int)) = false from decide_eq_false (by omega), show decide (0 < f) = false from decide_eq_false h]
      simp
end Go.Ovl
