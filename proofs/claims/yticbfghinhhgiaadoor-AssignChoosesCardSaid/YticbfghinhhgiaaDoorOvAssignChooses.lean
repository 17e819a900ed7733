/- AssignChooses: the best car for every call is the reference's, for made and arbitrary views. -/
import Derived.Test.YticbfghinhhgiaaDoorOvViews
namespace Go.Ovl
open Go Go.Ab
set_option maxRecDepth 100000
theorem l22_sane : F_l22_sane = some ((true, ()), ()) := by kernel_rfl
section
variable {b : Bldg} (hb : b.small) {v : List View} (hv : okViews v) (hl : v.length ≤ 100) (n : Int) (l : List Int) (raw : List View) (s25 : List (List View)) (s26 s27 : Int)
include hb hv hl
theorem ac3 (f d : Int) : L_l22_AssignChooses_3 ((n, l, raw, (), v, f, d, (-2 : Int), s25, s26, s27, ()), (b.tup, ())) = some (.inl ((n, l, raw, (), v, f, d, s25, s26, s27, ()), (b.tup, ()))) := by
  refine loop_of (fun x y => ∃ e : Int, -2 ≤ e ∧ e ≤ 4 ∧ x = ((n, l, raw, (), v, f, d, e, s25, s26, s27, ()), (b.tup, ())) ∧ y = .inl ((n, l, raw, (), v, f, d, s25, s26, s27, ()), (b.tup, ()))) (fun x => (4 - x.1.2.2.2.2.2.2.2.1).toNat) ?_ ⟨-2, by omega, by omega, rfl, rfl⟩ (by show (4 - (-2 : Int)).toNat < _; omega)
  rintro _ _ ⟨e, h1, h2, rfl, rfl⟩
  show (∃ x', R_l22_AssignChooses_3 n l raw v f d e s25 s26 s27 b.Floors b.Debounce b.Room b.Park b.Empty b.Full b.Over b.Cars = _ ∧ _) ∨ R_l22_AssignChooses_3 n l raw v f d e s25 s26 s27 b.Floors b.Debounce b.Room b.Park b.Empty b.Full b.Over b.Cars = _
  unfold R_l22_AssignChooses_3
  by_cases g : e < 4
  · rw [decide_eq_true g, assign_Choose_eq hb hv hl, r22_Choose_eq hb hv hl, wrap_small (by omega) (by omega)]
    simp only [cond_true, Option.bind_some, bne_self_eq_false, cond_false]
    exact .inl ⟨_, rfl, ⟨e + 1, by omega, by omega, rfl, by trivial⟩, by show (4 - (e + 1)).toNat < (4 - e).toNat; omega⟩
  · rw [decide_eq_false g]
    exact .inr rfl
theorem ac2 (f : Int) : L_l22_AssignChooses_2 ((n, l, raw, (), v, f, (0 : Int), s25, s26, s27, ()), (b.tup, ())) = some (.inl ((n, l, raw, (), v, f, s25, s26, s27, ()), (b.tup, ()))) := by
  refine loop_of (fun x y => ∃ e : Int, 0 ≤ e ∧ e ≤ 4 ∧ x = ((n, l, raw, (), v, f, e, s25, s26, s27, ()), (b.tup, ())) ∧ y = .inl ((n, l, raw, (), v, f, s25, s26, s27, ()), (b.tup, ()))) (fun x => (4 - x.1.2.2.2.2.2.2.1).toNat) ?_ ⟨0, by omega, by omega, rfl, rfl⟩ (by show (4 - (0 : Int)).toNat < _; omega)
  rintro _ _ ⟨e, h1, h2, rfl, rfl⟩
  show (∃ x', R_l22_AssignChooses_2 n l raw v f e s25 s26 s27 b.Floors b.Debounce b.Room b.Park b.Empty b.Full b.Over b.Cars = _ ∧ _) ∨ R_l22_AssignChooses_2 n l raw v f e s25 s26 s27 b.Floors b.Debounce b.Room b.Park b.Empty b.Full b.Over b.Cars = _
  unfold R_l22_AssignChooses_2
  by_cases g : e < 4
  · have h := ac3 hb hv hl n l raw s25 s26 s27 f e
    unfold Bldg.tup at h
    rw [decide_eq_true g, h]
    simp only [cond_true, Option.bind_some]
    rw [wrap_small (by omega) (by omega)]
    exact .inl ⟨_, rfl, ⟨e + 1, by omega, by omega, rfl, by trivial⟩, by show (4 - (e + 1)).toNat < (4 - e).toNat; omega⟩
  · rw [decide_eq_false g]
    exact .inr rfl
theorem ac1 : L_l22_AssignChooses_1 ((n, l, raw, (), v, (-1 : Int), s25, s26, s27, ()), (b.tup, ())) = some (.inl ((n, l, raw, (), s25, s26, s27, ()), (b.tup, ()))) := by
  have lo := hb.lo
  have hi := hb.hi
  refine loop_of (fun x y => ∃ e : Int, -1 ≤ e ∧ e ≤ 9 ∧ x = ((n, l, raw, (), v, e, s25, s26, s27, ()), (b.tup, ())) ∧ y = .inl ((n, l, raw, (), s25, s26, s27, ()), (b.tup, ()))) (fun x => (9 - x.1.2.2.2.2.2.1).toNat) ?_ ⟨-1, by omega, by omega, rfl, rfl⟩ (by show (9 - (-1 : Int)).toNat < _; omega)
  rintro _ _ ⟨e, h1, h2, rfl, rfl⟩
  show (∃ x', R_l22_AssignChooses_1 n l raw v e s25 s26 s27 b.Floors b.Debounce b.Room b.Park b.Empty b.Full b.Over b.Cars = _ ∧ _) ∨ R_l22_AssignChooses_1 n l raw v e s25 s26 s27 b.Floors b.Debounce b.Room b.Park b.Empty b.Full b.Over b.Cars = _
  unfold R_l22_AssignChooses_1
  by_cases g : e ≤ b.Floors
  · have h := ac2 hb hv hl n l raw s25 s26 s27 e
    unfold Bldg.tup at h
    rw [decide_eq_true g, h]
    simp only [cond_true, Option.bind_some]
    rw [wrap_small (by omega) (by omega)]
    exact .inl ⟨_, rfl, ⟨e + 1, by omega, by omega, rfl, by trivial⟩, by show (9 - (e + 1)).toNat < (9 - e).toNat; omega⟩
  · rw [decide_eq_false g]
    exact .inr rfl
end
theorem ac0 {b : Bldg} (hb : b.small) {v raw : List View} (hv : okViews v) (hl : v.length ≤ 100) (hv' : okViews raw) (hl' : raw.length ≤ 100) (n : Int) (l : List Int) :
    L_l22_AssignChooses_0 ((n, l, raw, (), [v, raw], (2 : Int), (0 : Int), ()), (b.tup, ())) = some (.inl ((n, l, raw, ()), ())) := by
  have st : ∀ (k : Nat) (w : List View), okViews w → w.length ≤ 100 → k < 2 → [v, raw].getD k [] = w → R_l22_AssignChooses_0 n l raw [v, raw] 2 (k : Int) b.Floors b.Debounce b.Room b.Park b.Empty b.Full b.Over b.Cars = some (.inl ((n, l, raw, (), [v, raw], (2 : Int), ((k + 1 : Nat) : Int), ()), (b.tup, ()))) := fun k w h1 h2 h3 h4 => by
    unfold R_l22_AssignChooses_0
    have h := ac1 hb h1 h2 n l raw [v, raw] 2 (k : Int)
    unfold Bldg.tup at h
    have w1 : IntKind.i64.wrap ((k : Int) + 1) = ((k + 1 : Nat) : Int) := by rw [wrap_small (by omega) (by omega)]; omega
    rw [decide_eq_true (show (k : Int) < 2 by omega), inB_true (show (0 : Int) ≤ (k : Int) by omega) (show (k : Int) < (([v, raw] : List (List View)).length : Int) from (show (k : Int) < ((2 : Nat) : Int) by omega)), Int.toNat_natCast, h4, h]
    simp only [cond_true, Option.bind_some, w1]
    rfl
  refine iter_fuel (f := 3) ?_ (by omega)
  refine (iter_inl (st 0 v hv hl (by omega) rfl)).trans ?_
  refine (iter_inl (st 1 raw hv' hl' (by omega) rfl)).trans ?_
  exact iter_inr rfl
theorem choose_none {vs : List View} (_hv : okViews vs) (_hl : vs.length ≤ 100) (f d e : Int) : F_assign_Choose 0 0 0 0 0 0 0 [] vs f d e = some ((-1, ()), ()) := by
  unfold F_assign_Choose
  rw [show F_building_Valid 0 0 0 0 0 0 0 [] = some ((Bldg.none.code, ()), ()) from F_building_Valid_eq Bldg.none, show Bldg.none.code = 10 by kernel_rfl]
  rfl
theorem law_AssignChooses (n : Int) (l : List (Int)) (raw : List (View)) (h_n : 0 ≤ n ∧ n < 256) (h_l : l.length ≤ maxLen ∧ ∀ e ∈ l, (0 ≤ e ∧ e < 256)) (h_raw : raw.length ≤ maxLen ∧ ∀ e ∈ raw, (-9223372036854775808 ≤ e.Floor ∧ e.Floor < 9223372036854775808) ∧ (-9223372036854775808 ≤ e.Dir ∧ e.Dir < 9223372036854775808) ∧ (-9223372036854775808 ≤ e.Load ∧ e.Load < 9223372036854775808) ∧ (0 ≤ e.Shows_Up ∧ e.Shows_Up < 4294967296) ∧ (0 ≤ e.Shows_Down ∧ e.Shows_Down < 4294967296) ∧ (0 ≤ e.Stops_Car ∧ e.Stops_Car < 4294967296) ∧ (0 ≤ e.Stops_Hall_Up ∧ e.Stops_Hall_Up < 4294967296) ∧ (0 ≤ e.Stops_Hall_Down ∧ e.Stops_Hall_Down < 4294967296)) : F_l22_AssignChooses n l raw = some ((true, ()), ()) := by
  unfold F_l22_AssignChooses
  by_cases g : (20 : Int) < (raw.length : Int)
  · rw [decide_eq_true g, l22_sane]; rfl
  rw [decide_eq_false g]
  obtain ⟨fl, ca, h1, h2, h3, h4, hB⟩ := F_l10_Building_eq h_n (room := 200) (by omega)
  have hs : (bld10 fl ca 200).small := ⟨by show (2 : Int) ≤ (fl : Int); omega, by show (fl : Int) ≤ 8; omega⟩
  have hc : (bld10 fl ca 200).Cars.length = ca := by simp [bld10, sample]
  obtain ⟨vs, hV, hM⟩ := F_l22_Views_eq hs (by omega) h_l.2 h_l.1
  have hr : okViews raw := fun v hv => by
    obtain ⟨_, _, _, _, _, k1, k2, k3⟩ := h_raw.2 v hv
    exact ⟨k1, k2, k3⟩
  have h0 := ac0 hs hM.ok (by have := hM.len; omega) hr (by omega) n l
  rw [hB]
  simp only [cond_false, Option.bind_some, Bldg.tup, hV]
  unfold Bldg.tup at h0
  rw [show (([vs, raw] : List (List View)).length : Int) = 2 from rfl, h0]
  simp only [Option.bind_some]
  have hbet : ∀ a c d e : Int, F_assign_Better a c d e = F_r22_Better a c d e := fun a c d e => (assign_Better_eq (a, c) (d, e)).trans (r22_Better_eq (a, c) (d, e)).symm
  rw [hbet]
  have hbe : ∀ a c d e : Int, F_r22_Better a c d e = some ((betB (a, c) (d, e), ()), ()) := fun a c d e => r22_Better_eq (a, c) (d, e)
  rw [hbe]
  simp only [Option.bind_some, beq_self_eq_true, cond_true, choose_none hr (show raw.length ≤ 100 by omega), l22_sane]
end Go.Ovl
