/- The made building, image, views and expect of the laws on plans (layer 22). -/
import Derived.Test.YticbfghinhhgiaaDoorOvReady
namespace Go.Ovl
open Go Go.Ab
set_option maxRecDepth 100000
theorem made22 {n : Int} (h_n : 0 ≤ n ∧ n < 256) {l k : List Int} (h_l : l.length ≤ maxLen ∧ ∀ e ∈ l, (0 ≤ e ∧ e < 256)) (h_k : k.length ≤ maxLen ∧ ∀ e ∈ k, (0 ≤ e ∧ e < 256)) :
    ∃ (b : Bldg) (m : Img) (vs : List View) (xs : List Int), F_l10_Building n 200 = some (((), ()), (b.tup, ())) ∧ F_l10_Image b.Floors b.Debounce b.Room b.Park b.Empty b.Full b.Over b.Cars l = some (((), ()), (m.tup, ())) ∧ F_l22_Views b.Floors b.Debounce b.Room b.Park b.Empty b.Full b.Over b.Cars k = some ((vs, ()), ()) ∧ F_l22_expects m.Phases m.Flags m.Leaving m.Entries k = some ((xs, ()), ()) ∧ Plan22 b m vs xs ∧ ∀ x ∈ xs, 0 ≤ x ∧ x ≤ 3 := by
  obtain ⟨fl, ca, h1, h2, h3, h4, hB⟩ := F_l10_Building_eq h_n (room := 200) (by omega)
  have hs : (bld10 fl ca 200).small := ⟨by show (2 : Int) ≤ (fl : Int); omega, by show (fl : Int) ≤ 8; omega⟩
  have hc : (bld10 fl ca 200).Cars.length = ca := by simp [bld10, sample]
  have hcode : (bld10 fl ca 200).code = 0 := bld10_code h1 h2 h3 h4 (by omega)
  obtain ⟨m, hI, hm, hml⟩ := F_l10_Image_eq hs hcode (by omega) h_l.2
  obtain ⟨vs, hV, hM⟩ := F_l22_Views_eq hs (by omega) h_k.2 h_k.1
  obtain ⟨xs, hX, hxl, hxs⟩ := F_l22_expects_eq m (by omega) h_k.2 h_k.1
  exact ⟨_, m, vs, xs, hB, hI, hV, hX, ⟨hs, hcode, by omega, hm, hml, hM, hxl, fun x hx => by have := hxs x hx; omega⟩, hxs⟩
theorem put_entries (m : Img) (l : List Entry) : (m.put l).Entries = l := rfl
theorem ready_loop (vs : List View) (m x : Img) (hl : vs.length ≤ 1000) : L_l22_AssignLeaves_0 (((), vs, (), (0 : Int), (0 : Int), ()), (m.tup, x.tup, ())) = some (((), vs, (), (readyN vs : Int), ()), (m.tup, x.tup, ())) := by
  have key : ∀ (k i r : Nat), i + k = vs.length → r ≤ i →
      iter (fun x => R_l22_AssignLeaves_0 x.1.2.1 x.1.2.2.2.1 x.1.2.2.2.2.1 x.2.1.1 x.2.1.2.1 x.2.1.2.2.1 x.2.1.2.2.2.1 x.2.2.1.1 x.2.2.1.2.1 x.2.2.1.2.2.1 x.2.2.1.2.2.2.1) (k + 1) (((), vs, (), (r : Int), (i : Int), ()), (m.tup, x.tup, ())) = some (((), vs, (), ((r + readyN (vs.drop i) : Nat) : Int), ()), (m.tup, x.tup, ())) := by
    intro k
    induction k with
    | zero =>
      intro i r hi hr
      refine iter_inr ?_
      show R_l22_AssignLeaves_0 vs (r : Int) (i : Int) m.Phases m.Flags m.Leaving m.Entries x.Phases x.Flags x.Leaving x.Entries = _
      unfold R_l22_AssignLeaves_0
      rw [show decide ((i : Int) < (vs.length : Int)) = false by simp; omega, show i = vs.length by omega, List.drop_length]; rfl
    | succ k ih =>
      intro i r hi hr
      have hi' : i < vs.length := by omega
      have w : ∀ i : Nat, i < 2000 → IntKind.i64.wrap ((i : Int) + 1) = ((i + 1 : Nat) : Int) := fun i _ => by rw [wrap_small (by omega) (by omega)]; omega
      rw [drop_getD (View.mk false false false false 0 0 0 0 0 0 0 0) hi']
      cases hv : (vs.getD i (View.mk false false false false 0 0 0 0 0 0 0 0)).Ready with
      | true =>
        have hn : readyN (vs.getD i (View.mk false false false false 0 0 0 0 0 0 0 0) :: vs.drop (i + 1)) = 1 + readyN (vs.drop (i + 1)) := by
          unfold readyN; rw [List.countP_cons_of_pos (by rw [hv])]; omega
        rw [hn, ← Nat.add_assoc]
        refine (iter_inl (x' := (((), vs, (), ((r + 1 : Nat) : Int), ((i + 1 : Nat) : Int), ()), (m.tup, x.tup, ()))) ?_).trans (ih (i + 1) (r + 1) (by omega) (by omega))
        show R_l22_AssignLeaves_0 vs (r : Int) (i : Int) m.Phases m.Flags m.Leaving m.Entries x.Phases x.Flags x.Leaving x.Entries = _
        unfold R_l22_AssignLeaves_0
        rw [show decide ((i : Int) < (vs.length : Int)) = true by simp; omega, inB_true (show (0 : Int) ≤ (i : Int) by omega) (show (i : Int) < (vs.length : Int) by omega), Int.toNat_natCast, hv, w i (by omega), w r (by omega)]
        rfl
      | false =>
        have hn : readyN (vs.getD i (View.mk false false false false 0 0 0 0 0 0 0 0) :: vs.drop (i + 1)) = readyN (vs.drop (i + 1)) := by
          unfold readyN; rw [List.countP_cons_of_neg (by rw [hv]; simp)]
        rw [hn]
        refine (iter_inl (x' := (((), vs, (), (r : Int), ((i + 1 : Nat) : Int), ()), (m.tup, x.tup, ()))) ?_).trans (ih (i + 1) r (by omega) (by omega))
        show R_l22_AssignLeaves_0 vs (r : Int) (i : Int) m.Phases m.Flags m.Leaving m.Entries x.Phases x.Flags x.Leaving x.Entries = _
        unfold R_l22_AssignLeaves_0
        rw [show decide ((i : Int) < (vs.length : Int)) = true by simp; omega, inB_true (show (0 : Int) ≤ (i : Int) by omega) (show (i : Int) < (vs.length : Int) by omega), Int.toNat_natCast, hv, w i (by omega)]
        rfl
  have h := iter_fuel (key vs.length 0 0 (by omega) (by omega)) (by omega)
  rw [Nat.zero_add, List.drop_zero] at h
  exact h
end Go.Ovl
