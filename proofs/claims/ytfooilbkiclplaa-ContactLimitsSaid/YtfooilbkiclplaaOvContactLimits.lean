/- ContactLimits: how many readings a run may have. -/
import Derived.Test.YtfooilbkiclplaaOvContactAll
namespace Go.Ovl
open Go Go.Ab
set_option maxRecDepth 100000
theorem law_ContactLimits (n : Int) (h_n : 0 ≤ n ∧ n < 256) : F_l04_ContactLimits n = some ((true, ()), ()) := by
  unfold F_l04_ContactLimits
  have t0 := Int.tmod_nonneg (3 : Int) h_n.1
  have t1 := Int.tmod_lt_of_pos n (b := 3) (by omega)
  have w : IntKind.i64.wrap (IntKind.i64.wrap (5000 + IntKind.i64.wrap (n.tmod 3)) - 1) = 4999 + n.tmod 3 := by
    rw [wrap_small (n := n.tmod 3) (by omega) (by omega), wrap_small (n := 5000 + n.tmod 3) (by omega) (by omega), wrap_small (by omega) (by omega)]; omega
  rw [w]
  generalize n.tmod 3 = k at t0 t1 ⊢
  have e0 : ((decide ((0 : Int) ≤ 4999 + k) && decide (4999 + k ≤ 4999 + k)) && decide (4999 + k ≤ 2147483648)) = true := by simp; omega
  have hwf : ∀ e ∈ List.replicate (4999 + k).toNat (Contacts.mk 0 false false false false), e.wf := fun e he => by
    have := List.eq_of_mem_replicate he
    subst this; exact no_wf.c
  have hr := F_contact_Run_no (n := 3) hwf
  rw [if_pos (no_is (by omega) (by omega))] at hr
  simp only [e0, cond_true, hr, List.length_replicate]
  by_cases h : k = 2
  · subst h
    rw [if_pos (by decide)]
    have e1 : decide ((5000 : Int) < 4999 + 2) = true := by decide
    simp only [Option.bind_some, e1, cond_true, l04_sane]
    rfl
  · rw [if_neg (by omega)]
    have e1 : decide ((5000 : Int) < 4999 + k) = false := by simp; omega
    have e2 : (((4999 + k).toNat : Nat) : Int) = 4999 + k := by omega
    simp only [Option.bind_some, e1, cond_false, runs_len, List.length_replicate, e2, beq_self_eq_true, cond_true, l04_sane]
end Go.Ovl
