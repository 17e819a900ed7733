/- StoreKeeps: no action touches the other half; only choosing changes what is current. -/
import Derived.Test.YtfooilbkiclplaaOvStore
namespace Go.Ovl
open Go Go.Ab
theorem l08_sane' : F_l08_sane = some ((true, ()), ()) := by kernel_rfl
theorem F_l08_short_eq' (h0 h1 : ByteArray) (sel : Int) : F_l08_short h0 h1 sel = some ((decide (h0.size ≤ 2000 ∧ h1.size ≤ 2000), ()), ()) := by
  unfold F_l08_short
  by_cases a : h0.size ≤ 2000
  · have a' : decide (((h0.size : Nat) : Int) ≤ 2000) = true := by simp; omega
    by_cases b : h1.size ≤ 2000
    · have b' : decide (((h1.size : Nat) : Int) ≤ 2000) = true := by simp; omega
      simp [a, b, a', b']
    · have b' : decide (((h1.size : Nat) : Int) ≤ 2000) = false := by simp; omega
      simp [a, b, a', b']
  · have a' : decide (((h0.size : Nat) : Int) ≤ 2000) = false := by simp; omega
    simp [a, a']
theorem law_StoreKeeps (s_Halves_0 : ByteArray) (s_Halves_1 : ByteArray) (s_Select : Int) (data : ByteArray) (x_f0 : Int) (x_f1 : Int) (x_f2 : Int) (_ : s_Halves_0.size ≤ maxLen) (_ : s_Halves_1.size ≤ maxLen) (_ : -9223372036854775808 ≤ s_Select ∧ s_Select < 9223372036854775808) (_ : data.size ≤ maxLen) (h_x_f0 : 0 ≤ x_f0 ∧ x_f0 < 256) (h_x_f1 : 0 ≤ x_f1 ∧ x_f1 < 256) (h_x_f2 : 0 ≤ x_f2 ∧ x_f2 < 256) :
    F_l08_StoreKeeps s_Halves_0 s_Halves_1 s_Select data x_f0 x_f1 x_f2 = some ((true, ()), ()) := by
  unfold F_l08_StoreKeeps
  rw [F_l08_short_eq']
  by_cases s : s_Halves_0.size ≤ 2000 ∧ s_Halves_1.size ≤ 2000
  · by_cases d : data.size ≤ 500
    · have e : decide ((500 : Int) < ((data.size : Nat) : Int)) = false := by simp; omega
      have a0 : x_f0.tmod 2 = 0 ∨ x_f0.tmod 2 = 1 := by
        have := Int.tmod_nonneg (2 : Int) h_x_f0.1
        have := Int.tmod_lt_of_pos x_f0 (b := 2) (by omega)
        omega
      have a1 : x_f1.tmod 2 = 0 ∨ x_f1.tmod 2 = 1 := by
        have := Int.tmod_nonneg (2 : Int) h_x_f1.1
        have := Int.tmod_lt_of_pos x_f1 (b := 2) (by omega)
        omega
      generalize x_f0.tmod 2 = z0 at a0 ⊢
      generalize x_f1.tmod 2 = z1 at a1 ⊢
      have w0 : IntKind.i64.wrap z0 = z0 := wrap_small (by omega) (by omega)
      have w1 : IntKind.i64.wrap z1 = z1 := wrap_small (by omega) (by omega)
      have w2 : IntKind.i64.wrap x_f2 = x_f2 := wrap_small (by omega) (by omega)
      have hc : Sto.chk 9000 ⟨s_Halves_0, s_Halves_1, z0⟩ z1 x_f2 = 0 := by
        unfold Sto.chk
        rw [if_pos ⟨by omega, by omega, by simp only; omega, by simp only; omega, a0⟩, if_neg (by omega)]
      have hr : ¬ ((9000 : Int) < ((Sto.get ⟨s_Halves_0, s_Halves_1, z0⟩ z1).size : Int) + (data.size : Int)) := by
        rcases a1 with rfl | rfl <;> simp [Sto.get] <;> omega
      simp only [s, e, w0, w1, w2, and_self, decide_true, Option.bind_some, Bool.not_true, cond_false]
      rw [F_store_Write_eq _ _ _ _ _ _ _ (by omega), unit_erase _ _ _ _ _ _ (by omega), unit_choose _ _ _ _ _ _ (by omega)]
      simp only [Sto.write, Sto.erase, Sto.choose, Sto.act, hc, hr, if_false, ne_eq, not_true_eq_false]
      have i01 : IntKind.i64.wrap 1 = 1 := by kernel_rfl
      have i11 : IntKind.i64.wrap 0 = 0 := by kernel_rfl
      have b01 : inB 0 2 = true := rfl
      have b11 : inB 1 2 = true := rfl
      have en : eqB noB (ByteArray.mk (Array.mk [])) = true := eqB_refl _
      by_cases h0 : x_f2 = 0
      · subst h0
        by_cases h1 : (0 : Int) < data.size
        · rw [if_pos h1]
          rcases a1 with rfl | rfl <;> simp [Sto.out, Sto.set, Sto.get, i01, i11, b01, b11, eqB_refl]
        · rw [if_neg h1]
          rcases a1 with rfl | rfl <;> simp [Sto.out, Sto.set, Sto.get, i01, i11, b01, b11, eqB_refl]
      · have hp : decide ((0 : Int) < x_f2) = true := by simp; omega
        by_cases h1 : x_f2 < data.size
        · rw [if_pos h1]
          rcases a1 with rfl | rfl <;> simp [h0, hp, Sto.out, Sto.set, Sto.get, i01, i11, b01, b11, eqB_refl, en, F_store_Current_eq, Sto.cur, l08_sane']
        · rw [if_neg h1]
          rcases a1 with rfl | rfl <;> simp [h0, hp, Sto.out, Sto.set, Sto.get, i01, i11, b01, b11, eqB_refl, en, F_store_Current_eq, Sto.cur, l08_sane']
    · have e : decide ((500 : Int) < ((data.size : Nat) : Int)) = true := by simp; omega
      simp [s, e, l08_sane']
  · simp [s, l08_sane']
end Go.Ovl
