/- StoreActs: the program's store and the reference's do the same. -/
import Derived.Test.YtfooilbkiclplaaOvStore
namespace Go.Ovl
open Go Go.Ab
theorem l08_sane : F_l08_sane = some ((true, ()), ()) := by kernel_rfl
theorem F_l08_short_eq (h0 h1 : ByteArray) (sel : Int) : F_l08_short h0 h1 sel = some ((decide (h0.size ≤ 2000 ∧ h1.size ≤ 2000), ()), ()) := by
  unfold F_l08_short
  by_cases a : h0.size ≤ 2000
  · have a' : decide (((h0.size : Nat) : Int) ≤ 2000) = true := by simp; omega
    by_cases b : h1.size ≤ 2000
    · have b' : decide (((h1.size : Nat) : Int) ≤ 2000) = true := by simp; omega
      simp [a, b, a', b']
    · have b' : decide (((h1.size : Nat) : Int) ≤ 2000) = false := by simp; omega
      simp [a, b, a', b']
  · have a' : decide (((h0.size : Nat) : Int) ≤ 2000) = false := by simp; omega
    simp [a, a']
theorem acts_round {data : ByteArray} {k : Int} {h0 h1 : ByteArray} {sel room half bud : Int} (hd : data.size ≤ 2000) (hk : 0 ≤ k) (hk4 : k < 4) (hb : bud < 9223372036854775808) :
    R_l08_StoreActs_0 data k h0 h1 sel room half bud = some (.inl ((data, ((), ((), ((k + 1), ())))), ((h0, (h1, (sel, ()))), ((room, (half, (bud, ()))), ())))) := by
  unfold R_l08_StoreActs_0
  have e : decide (k < 4) = true := by simpa using hk4
  have ek : IntKind.i64.wrap (k + 1) = k + 1 := wrap_small (by omega) (by omega)
  rw [e, cond_true]
  by_cases h : 0 < k
  · have e2 : decide (0 < k) = true := by simpa using h
    have w : IntKind.u64.wrap (IntKind.i64.wrap (((data.size : Nat) : Int) + 3)) = ((data.size : Nat) : Int) + 3 := by
      rw [wrap_small (by omega) (by omega), wrap_u64 (by omega) (by omega)]
    have z : (((data.size : Nat) : Int) + 3 != 0) = true := bne_t (by omega)
    have hu : ∀ n : Int, 0 ≤ IntKind.u64.wrap n := fun n => by simp only [IntKind.wrap, IntKind.signed, IntKind.bits]; simp; omega
    have t4 := Int.tmod_lt_of_pos (IntKind.u64.wrap room) (b := 4) (by omega)
    have t4' := Int.tmod_nonneg (4 : Int) (hu room)
    have w4 : IntKind.i64.wrap ((IntKind.u64.wrap room).tmod 4) = (IntKind.u64.wrap room).tmod 4 := wrap_small (by omega) (by omega)
    have i4 : inB ((IntKind.u64.wrap room).tmod 4) (List.length [(0 : Int), 1, ((data.size : Nat) : Int), 5000]) = true := inB_true t4' (by simpa using t4)
    have tb := Int.tmod_lt_of_pos (IntKind.u64.wrap bud) (b := ((data.size : Nat) : Int) + 3) (by omega)
    have tb' := Int.tmod_nonneg (((data.size : Nat) : Int) + 3) (hu bud)
    have wb : IntKind.i64.wrap ((IntKind.u64.wrap bud).tmod (((data.size : Nat) : Int) + 3)) = (IntKind.u64.wrap bud).tmod (((data.size : Nat) : Int) + 3) := wrap_small (by omega) (by omega)
    simp only [e2, cond_true, w, z, w4, i4, wb, Option.bind_some, ek]
    rw [F_store_Write_eq _ _ _ _ _ _ _ (by omega), F_r08_Write_eq _ _ _ _ _ _ _ (by omega) (by omega), unit_erase _ _ _ _ _ _ (by omega), r08_erase _ _ _ _ _ _ (by omega), unit_choose _ _ _ _ _ _ (by omega), r08_choose _ _ _ _ _ _ (by omega),
      F_store_Current_eq, F_r08_Current_eq, F_store_IsStore_eq, F_r08_IsStore_eq]
    simp [eqB_refl]
  · have e2 : decide (0 < k) = false := by simpa using h
    simp only [e2, cond_false, Option.bind_some, ek]
    rw [F_store_Write_eq _ _ _ _ _ _ _ (by omega), F_r08_Write_eq _ _ _ _ _ _ _ (by omega) (by omega), unit_erase _ _ _ _ _ _ (by omega), r08_erase _ _ _ _ _ _ (by omega), unit_choose _ _ _ _ _ _ (by omega), r08_choose _ _ _ _ _ _ (by omega),
      F_store_Current_eq, F_r08_Current_eq, F_store_IsStore_eq, F_r08_IsStore_eq]
    simp [eqB_refl]
theorem acts_loop {data : ByteArray} {h0 h1 : ByteArray} {sel room half bud : Int} (hd : data.size ≤ 2000) (hb : bud < 9223372036854775808) : ∀ (n : Nat) (k : Int), (4 - k).toNat = n → 0 ≤ k → k ≤ 4 →
    iter (fun x => R_l08_StoreActs_0 x.1.1 x.1.2.2.2.1 x.2.1.1 x.2.1.2.1 x.2.1.2.2.1 x.2.2.1.1 x.2.2.1.2.1 x.2.2.1.2.2.1) (n + 1) ((data, ((), ((), (k, ())))), ((h0, (h1, (sel, ()))), ((room, (half, (bud, ()))), ()))) = some (.inl ((), ()))
  | 0, k, hn, h0', h4 => by
    refine iter_inr ?_
    show R_l08_StoreActs_0 data k h0 h1 sel room half bud = _
    unfold R_l08_StoreActs_0
    have e : decide (k < 4) = false := by simp; omega
    rw [e]; rfl
  | n + 1, k, hn, h0', h4 => by
    rw [iter_inl (show R_l08_StoreActs_0 data k h0 h1 sel room half bud = _ from acts_round hd h0' (by omega) hb)]
    exact acts_loop hd hb n (k + 1) (by omega) (by omega) (by omega)
theorem plain_StoreActs (h0 h1 : ByteArray) (sel : Int) (data : ByteArray) (room half bud : Int) (hb : bud < 9223372036854775808) : F_l08_StoreActs h0 h1 sel data room half bud = some ((true, ()), ()) := by
  unfold F_l08_StoreActs
  rw [F_l08_short_eq]
  by_cases s : h0.size ≤ 2000 ∧ h1.size ≤ 2000
  · by_cases d : data.size ≤ 2000
    · have e : decide ((2000 : Int) < ((data.size : Nat) : Int)) = false := by simp; omega
      have hl : L_l08_StoreActs_0 ((data, ((), ((), ((0 : Int), ())))), ((h0, (h1, (sel, ()))), ((room, (half, (bud, ()))), ()))) = some (.inl ((), ())) := iter_fuel (acts_loop d hb 4 0 (by omega) (by omega) (by omega)) (by omega)
      simp [s, e, hl, l08_sane]
    · have e : decide ((2000 : Int) < ((data.size : Nat) : Int)) = true := by simp; omega
      simp [s, e, l08_sane]
  · simp [s, l08_sane]
theorem law_StoreActs (s_Halves_0 : ByteArray) (s_Halves_1 : ByteArray) (s_Select : Int) (data : ByteArray) (p_Room : Int) (p_Half : Int) (p_Budget : Int) (_ : s_Halves_0.size ≤ maxLen) (_ : s_Halves_1.size ≤ maxLen) (_ : -9223372036854775808 ≤ s_Select ∧ s_Select < 9223372036854775808) (_ : data.size ≤ maxLen) (_ : -9223372036854775808 ≤ p_Room ∧ p_Room < 9223372036854775808) (_ : -9223372036854775808 ≤ p_Half ∧ p_Half < 9223372036854775808) (h_p_Budget : -9223372036854775808 ≤ p_Budget ∧ p_Budget < 9223372036854775808) :
    F_l08_StoreActs s_Halves_0 s_Halves_1 s_Select data p_Room p_Half p_Budget = some ((true, ()), ()) := plain_StoreActs _ _ _ _ _ _ _ h_p_Budget.2
end Go.Ovl
