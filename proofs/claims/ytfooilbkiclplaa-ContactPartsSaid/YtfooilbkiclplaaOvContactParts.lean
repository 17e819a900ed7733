/- ContactParts: which contact has which number, for arbitrary contacts and numbers. -/
import Derived.Test.YtfooilbkiclplaaOvContact
namespace Go.Ovl
open Go Go.Ab
theorem l04_sane : F_l04_sane = some ((true, ()), ()) := by kernel_rfl
theorem parts_round (c : Contacts) (hc : c.wf) (i : Int) (on : Bool) (k : Int) (h0 : -1 ≤ k) (hk : k < 38) :
    R_l04_ContactParts_0 i on k c.Floors c.Up c.Down c.Open c.Closed = some (.inl ((i, on, (), (k + 1), ()), (c.tup, ()))) := by
  unfold R_l04_ContactParts_0
  have e : decide (k < 38) = true := by simpa using hk
  have w : IntKind.i64.wrap (k + 1) = k + 1 := wrap_small (by omega) (by omega)
  rw [e, cond_true, F_contact_Get_eq c hc, F_r04_Get_eq c hc k (by omega), F_contact_Set_eq c, F_r04_Set_eq c k on (by omega)]
  simp only [Option.bind_some, beq_self_eq_true, Bool.not_true, cond_false, Contacts.tup, Bool.and_self]
  by_cases h1 : 0 ≤ k
  · have e1 : decide (0 ≤ k) = true := by simpa using h1
    by_cases h2 : k < 36
    · have e2 : decide (k < 36) = true := by simpa using h2
      rw [e1, e2, F_contact_Get_eq (c.set k on) (Contacts.set_wf hc k on), Contacts.get_set c on ⟨h1, h2⟩ ⟨h1, h2⟩]
      simp only [cond_true, Option.bind_some, if_true, beq_self_eq_true, Bool.not_true, cond_false, w]
    · have e2 : decide (k < 36) = false := by simpa using h2
      simp only [e1, e2, cond_true, cond_false, Option.bind_some, w]
  · have e1 : decide (0 ≤ k) = false := by simpa using h1
    simp only [e1, cond_false, Option.bind_some, w]
theorem parts_loop (c : Contacts) (hc : c.wf) (i : Int) (on : Bool) : ∀ (n : Nat) (k : Int), (38 - k).toNat = n → -1 ≤ k → k ≤ 38 →
    iter (fun x => R_l04_ContactParts_0 x.1.1 x.1.2.1 x.1.2.2.2.1 x.2.1.1 x.2.1.2.1 x.2.1.2.2.1 x.2.1.2.2.2.1 x.2.1.2.2.2.2.1) (n + 1) ((i, on, (), k, ()), (c.tup, ())) = some (.inl ((i, on, (), ()), (c.tup, ())))
  | 0, k, hn, h0, h1 => by
    refine iter_inr ?_
    show R_l04_ContactParts_0 i on k c.Floors c.Up c.Down c.Open c.Closed = _
    unfold R_l04_ContactParts_0
    have e : decide (k < 38) = false := by simp; omega
    rw [e]; rfl
  | n + 1, k, hn, h0, h1 => by
    rw [iter_inl (show R_l04_ContactParts_0 i on k c.Floors c.Up c.Down c.Open c.Closed = _ from parts_round c hc i on k h0 (by omega))]
    exact parts_loop c hc i on n (k + 1) (by omega) (by omega) (by omega)
theorem law_ContactParts (c_Floors : Int) (c_Up : Bool) (c_Down : Bool) (c_Open : Bool) (c_Closed : Bool) (i : Int) (on_1 : Bool) (h_c_Floors : 0 ≤ c_Floors ∧ c_Floors < 4294967296) (h_i : -9223372036854775808 ≤ i ∧ i < 9223372036854775808) :
    F_l04_ContactParts c_Floors c_Up c_Down c_Open c_Closed i on_1 = some ((true, ()), ()) := by
  obtain ⟨c, hc, e⟩ : ∃ c : Contacts, c.wf ∧ c = ⟨c_Floors, c_Up, c_Down, c_Open, c_Closed⟩ := ⟨⟨c_Floors, c_Up, c_Down, c_Open, c_Closed⟩, h_c_Floors, rfl⟩
  have hl : L_l04_ContactParts_0 ((i, on_1, (), (-1 : Int), ()), (c.tup, ())) = _ := iter_fuel (parts_loop c hc i on_1 39 (-1) (by omega) (by omega) (by omega)) (by omega)
  unfold F_l04_ContactParts
  have e1 : (c_Floors, c_Up, c_Down, c_Open, c_Closed, ()) = c.tup := by rw [e]; rfl
  rw [e1, hl]
  simp only [Option.bind_some, Contacts.tup]
  rw [F_contact_Get_eq c hc, F_r04_Get_eq c hc i h_i, F_contact_Set_eq c, F_r04_Set_eq c i on_1 h_i]
  simp [l04_sane]
end Go.Ovl
