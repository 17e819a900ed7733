/- AssignPlans: plans and stops are the reference's for made images and views, and errors where they are due. -/
import Derived.Test.YticbfghinhhgiaaDoorOvMk22
import Derived.Test.YticbfghinhhgiaaDoorOvStops
namespace Go.Ovl
open Go Go.Ab
set_option maxRecDepth 100000
theorem okViews.drop {vs : List View} (h : okViews vs) (n : Nat) : okViews (vs.drop n) := fun v hv => h v (List.mem_of_mem_drop hv)
section
variable {b : Bldg} {m : Img} {vs : List View} {xs : List Int} (h : Plan22 b m vs xs) (k : List Int)
include h
theorem plans_loop {l1 l2 : List Int} (h1 : l1.length ≤ 1000) (h2 : l2.length ≤ 1000) : L_l22_AssignPlans_0 ((k, (), (), vs, [l1, [], [(-1 : Int)], l2], (4 : Int), (0 : Int), ()), (b.tup, m.tup, ())) = some (.inl ((k, (), (), vs, ()), (b.tup, m.tup, ()))) := by
  have hc := h.cars
  have hent := h.ents
  have hmx : 1000 ≤ maxLen := by decide
  have st : ∀ (j : Nat) (z : List Int), z.length ≤ 1000 → j < 4 → [l1, [], [(-1 : Int)], l2].getD j [] = z → R_l22_AssignPlans_0 k vs [l1, [], [(-1 : Int)], l2] 4 (j : Int) b.Floors b.Debounce b.Room b.Park b.Empty b.Full b.Over b.Cars m.Phases m.Flags m.Leaving m.Entries = some (.inl ((k, (), (), vs, [l1, [], [(-1 : Int)], l2], (4 : Int), ((j + 1 : Nat) : Int), ()), (b.tup, m.tup, ()))) := fun j z hz hj hg => by
    have p1 := assign_Plan_eq h.small h.made.ok (by have := h.made.len; omega) m (by omega) (by rw [h.img.lp]; omega) z (by omega)
    have p2 := r22_Plan_eq h.small h.made.ok (by have := h.made.len; omega) m (by omega) (by rw [h.img.lp]; omega) z (by omega)
    have hlen := planV_len b m z vs
    have q1 := r09_Same_refl (l := (planV b m z vs).1) (by omega)
    have q2 := r22_SameInts_refl (l := (planV b m z vs).2.1) (by omega)
    have w : IntKind.i64.wrap ((j : Int) + 1) = ((j + 1 : Nat) : Int) := by rw [wrap_small (by omega) (by omega)]; omega
    unfold R_l22_AssignPlans_0
    rw [decide_eq_true (show (j : Int) < 4 by omega), inB_true (show (0 : Int) ≤ (j : Int) by omega) (show (j : Int) < (([l1, [], [(-1 : Int)], l2] : List (List Int)).length : Int) from (show (j : Int) < ((4 : Nat) : Int) by omega)), Int.toNat_natCast]
    simp only [cond_true, hg, p1, p2, Option.bind_some, bne_self_eq_false, cond_false, q1, q2, Bool.not_true, w]
    rfl
  refine iter_fuel (f := 5) ?_ (by omega)
  refine (iter_inl (st 0 l1 h1 (by omega) rfl)).trans ?_
  refine (iter_inl (st 1 [] (Nat.zero_le _) (by omega) rfl)).trans ?_
  refine (iter_inl (st 2 [-1] (by simp) (by omega) rfl)).trans ?_
  refine (iter_inl (st 3 l2 h2 (by omega) rfl)).trans ?_
  exact iter_inr rfl
theorem stops_loop : L_l22_AssignPlans_1 ((k, (), (), vs, (-1 : Int), ()), (b.tup, m.tup, ())) = some (.inl ((k, (), (), vs, ()), (b.tup, m.tup, ()))) := by
  have hc := h.cars
  have hent := h.ents
  have hv := h.vlen
  have hmx : 1000 ≤ maxLen := by decide
  refine loop_of (fun x y => ∃ c : Int, -1 ≤ c ∧ c ≤ (b.Cars.length : Int) + 1 ∧ x = ((k, (), (), vs, c, ()), (b.tup, m.tup, ())) ∧ y = .inl ((k, (), (), vs, ()), (b.tup, m.tup, ()))) (fun x => ((b.Cars.length : Int) + 1 - x.1.2.2.2.2.1).toNat) ?_ ⟨-1, by omega, by omega, rfl, rfl⟩ (by show ((b.Cars.length : Int) + 1 - (-1)).toNat < _; omega)
  rintro _ _ ⟨c, h1, h2, rfl, rfl⟩
  show (∃ x', R_l22_AssignPlans_1 k vs c b.Floors b.Debounce b.Room b.Park b.Empty b.Full b.Over b.Cars m.Phases m.Flags m.Leaving m.Entries = _ ∧ _) ∨ R_l22_AssignPlans_1 k vs c b.Floors b.Debounce b.Room b.Park b.Empty b.Full b.Over b.Cars m.Phases m.Flags m.Leaving m.Entries = _
  unfold R_l22_AssignPlans_1
  by_cases g : c ≤ (b.Cars.length : Int)
  · have s1 := assign_Stops_eq h.small vs m (by omega) (by rw [h.img.lp]; omega) c
    have s2 := r22_Stops_eq h.small vs m (by omega) (by rw [h.img.lp]; omega) c
    have s3 := assign_Stops_eq h.small (List.drop 1 (List.take vs.length vs)) m (by omega) (by rw [h.img.lp]; omega) c
    have z3 : stopsV b m (List.drop 1 (List.take vs.length vs)) c = (0, 0) := by
      unfold stopsV
      have : ((List.drop 1 (List.take vs.length vs)).length : Int) ≠ (b.Cars.length : Int) := by rw [List.take_length, List.length_drop]; omega
      rw [beq_f this]
      simp
    rw [z3] at s3
    have w : IntKind.i64.wrap (c + 1) = c + 1 := wrap_small (by omega) (by omega)
    rw [decide_eq_true g]
    simp only [cond_true, Option.bind_some, s1, s2, beq_self_eq_true, Bool.and_self, Bool.not_true, cond_false, decide_eq_true (show (1 : Int) ≤ (vs.length : Int) by omega), s3, w]
    exact .inl ⟨_, rfl, ⟨c + 1, by omega, by omega, rfl, by trivial⟩, by show ((b.Cars.length : Int) + 1 - (c + 1)).toNat < ((b.Cars.length : Int) + 1 - c).toNat; omega⟩
  · rw [decide_eq_false g]
    exact .inr rfl
end
theorem law_AssignPlansUpto (n : Int) (l : List (Int)) (k : List (Int)) (h_n : 0 ≤ n ∧ n < 256) (h_l : l.length ≤ maxLen ∧ ∀ e ∈ l, (0 ≤ e ∧ e < 256)) (h_k : k.length ≤ maxLen ∧ ∀ e ∈ k, (0 ≤ e ∧ e < 256)) (_u_l : l.length ≤ 1048576) (u_k : k.length ≤ 1048576) : F_l22_AssignPlans n l k = some ((true, ()), ()) := by
  obtain ⟨b, m, vs, xs, hB, hI, hV, hX, h, _⟩ := made22 h_n h_l h_k
  have hc := h.cars
  have hent := h.ents
  have hv := h.vlen
  have hmx : 1000 ≤ maxLen := by decide
  have hmx2 : 2000000 ≤ maxLen := by decide
  obtain ⟨ys, hY, hyl, _⟩ := F_l22_expects_eq m (by omega) (l := [7] ++ k) (fun e he => by
    rcases List.mem_append.1 he with he | he
    · rw [List.mem_singleton.1 he]; exact ⟨by omega, by omega⟩
    · exact h_k.2 e he) (by rw [List.length_append, List.length_singleton]; omega)
  have h0 := plans_loop h k (l1 := xs) (l2 := ys) (by rw [h.xlen]; omega) (by omega)
  have h1 := stops_loop h k
  have p1 := assign_Plan_eq h.small h.made.ok (by have := h.made.len; omega) Img.none (by show 0 ≤ 1000; omega) (by show 0 ≤ maxLen; omega) [] (by show 0 ≤ maxLen; omega)
  have hn : Img.ok b Img.none = false := by
    cases hq : Img.ok b Img.none with
    | false => rfl
    | true =>
      have := (Img.ok_iff.1 hq).lp
      have hz : Img.none.Phases.length = 0 := rfl
      omega
  have v1 : planV b Img.none [] vs = ([], [], 1, ()) := by unfold planV; rw [hn]; rfl
  rw [v1] at p1
  have p2 := assign_Plan_eq h.small (vs := List.drop 1 (List.take vs.length vs)) (by rw [List.take_length]; exact h.made.ok.drop 1) (by rw [List.take_length, List.length_drop]; omega) m (by omega) (by rw [h.img.lp]; omega) xs (by rw [h.xlen]; omega)
  have v2 : planV b m xs (List.drop 1 (List.take vs.length vs)) = ([], [], 1, ()) := by
    unfold planV
    have : ((List.drop 1 (List.take vs.length vs)).length : Int) ≠ (b.Cars.length : Int) := by rw [List.take_length, List.length_drop]; omega
    rw [beq_f this]
    simp
  rw [v2] at p2
  unfold Bldg.tup at hB h0 h1
  unfold Img.tup at hI h0 h1
  have p1' : F_assign_Plan b.Floors b.Debounce b.Room b.Park b.Empty b.Full b.Over b.Cars [] [] [] [] [] vs = some (([], [], 1, ()), ()) := p1
  unfold F_l22_AssignPlans
  simp only [hB, Option.bind_some, hI, hV, hX]
  rw [show Nat.ble ([(7 : Int)].length + k.length) 2147483648 = true from ble_true (by rw [List.length_singleton]; omega)]
  simp only [cond_true, hY, Option.bind_some]
  rw [show (([xs, [], [(-1 : Int)], ys] : List (List Int)).length : Int) = 4 from rfl, h0]
  simp only [Option.bind_some]
  rw [h1]
  simp only [Option.bind_some, p1', hX, decide_eq_true (show (1 : Int) ≤ (vs.length : Int) by omega), cond_true, p2, beq_self_eq_true, l22_sane]
end Go.Ovl
