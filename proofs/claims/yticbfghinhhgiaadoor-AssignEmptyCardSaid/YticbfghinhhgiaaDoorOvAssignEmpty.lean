/- AssignEmpty: what happens without ready cars: no call gets a car, calls of lost cars lose theirs, and all others stay as they are. -/
import Derived.Test.YticbfghinhhgiaaDoorOvMk22
import Derived.Test.YticbfghinhhgiaaDoorOvStops
namespace Go.Ovl
open Go Go.Ab
set_option maxRecDepth 100000
def offV (v : View) : View := View.mk false v.Serving v.Legacy v.Lost v.Floor v.Dir v.Load v.Shows_Up v.Shows_Down v.Stops_Car v.Stops_Hall_Up v.Stops_Hall_Down
theorem clear_loop (k : List Int) (b : Bldg) (m : Img) : ∀ (T P : List View), P.length + T.length ≤ 1000 →
    iter (fun x => R_l22_AssignEmpty_0 x.1.1 x.1.2.2.2.1 x.1.2.2.2.2.1 x.2.1.1 x.2.1.2.1 x.2.1.2.2.1 x.2.1.2.2.2.1 x.2.1.2.2.2.2.1 x.2.1.2.2.2.2.2.1 x.2.1.2.2.2.2.2.2.1 x.2.1.2.2.2.2.2.2.2.1 x.2.2.1.1 x.2.2.1.2.1 x.2.2.1.2.2.1 x.2.2.1.2.2.2.1) (T.length + 1) ((k, (), (), P ++ T, (P.length : Int), ()), (b.tup, m.tup, ())) = some ((k, (), (), P ++ T.map offV, ()), (b.tup, m.tup, ()))
  | [], P, _ => by
    refine iter_inr ?_
    show R_l22_AssignEmpty_0 k (P ++ []) (P.length : Int) b.Floors b.Debounce b.Room b.Park b.Empty b.Full b.Over b.Cars m.Phases m.Flags m.Leaving m.Entries = _
    unfold R_l22_AssignEmpty_0
    rw [List.map_nil, List.append_nil, show decide ((P.length : Int) < (P.length : Int)) = false by simp]; rfl
  | v :: T, P, hl => by
    rw [List.length_cons] at hl
    have w : IntKind.i64.wrap ((P.length : Int) + 1) = (((P ++ [offV v]).length : Nat) : Int) := by rw [wrap_small (by omega) (by omega), List.length_append]; rfl
    have hg : (P ++ v :: T).getD P.length (View.mk false false false false 0 0 0 0 0 0 0 0) = v := by simp [List.getD_eq_getElem?_getD]
    have e1 : P ++ offV v :: T = (P ++ [offV v]) ++ T := by simp
    have e2 : P ++ (v :: T).map offV = (P ++ [offV v]) ++ T.map offV := by simp
    have hL : (P.length : Int) < ((P ++ v :: T).length : Int) := by rw [List.length_append, List.length_cons]; omega
    rw [e2]
    refine (iter_inl (x' := ((k, (), (), (P ++ [offV v]) ++ T, (((P ++ [offV v]).length : Nat) : Int), ()), (b.tup, m.tup, ()))) ?_).trans (clear_loop k b m T (P ++ [offV v]) (by rw [List.length_append, List.length_singleton]; omega))
    show R_l22_AssignEmpty_0 k (P ++ v :: T) (P.length : Int) b.Floors b.Debounce b.Room b.Park b.Empty b.Full b.Over b.Cars m.Phases m.Flags m.Leaving m.Entries = _
    unfold R_l22_AssignEmpty_0
    rw [decide_eq_true hL, inB_true (show (0 : Int) ≤ (P.length : Int) by omega) hL, Int.toNat_natCast, w, ← e1]
    simp only [cond_true, hg, set_mid]
    rfl
theorem off_ready (vs : List View) (i : Int) : (viewAt (vs.map offV) i).Ready = false := by
  unfold viewAt
  rw [List.getD_eq_getElem?_getD, List.getElem?_map]
  cases vs[i.toNat]? <;> rfl
theorem Plan22.off {b : Bldg} {m : Img} {vs : List View} {xs : List Int} (h : Plan22 b m vs xs) : Plan22 b m (vs.map offV) xs := by
  refine ⟨h.small, h.code, h.cars, h.img, h.ents, ⟨by rw [List.length_map]; exact h.made.len, fun v hv => ?_, fun v hv _ => ?_, fun v hv => ?_⟩, h.xlen, h.xval⟩
  · obtain ⟨w, hw, rfl⟩ := List.mem_map.1 hv
    exact ⟨(h.made.ok w hw).c, (h.made.ok w hw).u, (h.made.ok w hw).d⟩
  · obtain ⟨w, hw, rfl⟩ := List.mem_map.1 hv
    rfl
  · obtain ⟨w, hw, rfl⟩ := List.mem_map.1 hv
    exact h.made.flo w hw
section
variable {b : Bldg} {m : Img} {vs : List View} {xs : List Int} (h : Plan22 b m vs xs) (hno : ∀ i : Int, (viewAt vs i).Ready = false)
include h hno
theorem choose_no (floor dir except : Int) : chooseV b vs floor dir except = -1 := by
  rcases chooseV_spec h.code h.vlen floor dir except with ⟨h1, _⟩ | ⟨_, _, h3, _⟩
  · exact h1
  · rw [hno] at h3; cases h3
/-- Without ready cars. -/
theorem dec_no {e : Entry} (he : -2 ≤ e.Car) (x : Int) : decV b vs e x = (bif decide (0 ≤ e.Car) && (viewAt vs e.Car).Lost then (bif decide ((b.Cars.length : Int) < e.Moves) then ⟨e.Floor, e.Dir, -2, e.Moves, e.Moved⟩ else ⟨e.Floor, e.Dir, -1, e.Moves + 1, e.Moved⟩) else e) := by
  unfold decV
  by_cases g1 : e.Car = -2
  · rw [show (e.Car == -2) = true by rw [g1]; rfl, decide_eq_false (show ¬ 0 ≤ e.Car by omega)]; rfl
  rw [beq_f g1]
  by_cases g2 : e.Car = -1
  · rw [show (e.Car == -1) = true by rw [g2]; rfl, decide_eq_false (show ¬ 0 ≤ e.Car by omega), choose_no h hno]
    obtain ⟨a, d, c, mv, mo⟩ := e
    simp only at g2
    subst g2; rfl
  rw [beq_f g2, decide_eq_true (show 0 ≤ e.Car by omega)]
  simp only [choose_no h hno]
  cases (viewAt vs e.Car).Lost with
  | true => rfl
  | false =>
    have : otherV b vs e x = -1 := by unfold otherV; rw [choose_no h hno]; rfl
    rw [this]
    simp only [Bool.and_false, cond_false]
    cases (!e.Moved && decide (e.Moves ≤ (b.Cars.length : Int))) <;> rfl
theorem empty_step {i : Nat} (hi : i < m.Entries.length) : R_l22_AssignEmpty_1 vs (i : Int) b.Floors b.Debounce b.Room b.Park b.Empty b.Full b.Over b.Cars m.Phases m.Flags m.Leaving m.Entries m.Phases m.Flags m.Leaving (decL b vs m.Entries xs) = some (.inl (((), (), vs, (), ((i + 1 : Nat) : Int), ()), (b.tup, m.tup, (m.put (decL b vs m.Entries xs)).tup, ()))) := by
  have hl1 := decL_len b vs m.Entries xs h.xlen
  have hent := h.ents
  have wi : IntKind.i64.wrap ((i : Int) + 1) = ((i + 1 : Nat) : Int) := by rw [wrap_small (by omega) (by omega)]; omega
  have hd := decL_getD b vs m.Entries xs i h.xlen hi
  obtain ⟨_, k2, k3, k4⟩ := h.ent hi
  rw [dec_no h hno k2.1] at hd
  unfold R_l22_AssignEmpty_1
  rw [show decide ((i : Int) < ((decL b vs m.Entries xs).length : Int)) = true by simp; omega, inB_true (show (0 : Int) ≤ (i : Int) by omega) (show (i : Int) < (m.Entries.length : Int) by omega), inB_true (show (0 : Int) ≤ (i : Int) by omega) (show (i : Int) < ((decL b vs m.Entries xs).length : Int) by omega), show Entry.mk 0 0 0 0 false = noE from rfl, Int.toNat_natCast, hd]
  simp only [cond_true]
  generalize m.Entries.getD i noE = E at *
  by_cases g : 0 ≤ E.Car
  · rw [decide_eq_true g, inB_true g k2.2]
    simp only [cond_true, Bool.true_and]
    cases hL : (viewAt vs E.Car).Lost with
    | false =>
      unfold viewAt at hL
      simp only [hL, cond_false, Option.bind_some, beq_self_eq_true, Bool.and_self, Bool.not_true, wi]
      rfl
    | true =>
      unfold viewAt at hL
      by_cases g' : (b.Cars.length : Int) < E.Moves
      · rw [decide_eq_true g']
        simp only [hL, cond_true, Option.bind_some, show decide ((0 : Int) ≤ -2) = false from rfl, cond_false, show ((-2 : Int) == -2) = true from rfl, decide_eq_false (show ¬ E.Moves ≤ (b.Cars.length : Int) by omega), show ((-2 : Int) == -1) = false from rfl, wi]
        rfl
      · rw [decide_eq_false g']
        have w2 : IntKind.i64.wrap (E.Moves + 1) = E.Moves + 1 := wrap_small (by omega) (by omega)
        simp only [hL, cond_true, Option.bind_some, show decide ((0 : Int) ≤ -1) = false from rfl, cond_false, show ((-1 : Int) == -2) = false from rfl, show ((-1 : Int) == -1) = true from rfl, w2, bne_self_eq_false, wi]
        rfl
  · rw [decide_eq_false g]
    simp only [cond_false, Bool.false_and, Option.bind_some, beq_self_eq_true, Bool.and_self, Bool.not_true, wi]
    rfl
theorem empty_loop : L_l22_AssignEmpty_1 (((), (), vs, (), (0 : Int), ()), (b.tup, m.tup, (m.put (decL b vs m.Entries xs)).tup, ())) = some (.inl (((), (), vs, ()), (b.tup, m.tup, ()))) := by
  have hlen := decL_len b vs m.Entries xs h.xlen
  have hent := h.ents
  refine loop_of (fun x y => ∃ i : Nat, i ≤ m.Entries.length ∧ x = (((), (), vs, (), (i : Int), ()), (b.tup, m.tup, (m.put (decL b vs m.Entries xs)).tup, ())) ∧ y = .inl (((), (), vs, ()), (b.tup, m.tup, ()))) (fun x => m.Entries.length - x.1.2.2.2.2.1.toNat) ?_ ⟨0, by omega, rfl, rfl⟩ (by show m.Entries.length - 0 < _; omega)
  rintro _ _ ⟨i, h1, rfl, rfl⟩
  show (∃ x', R_l22_AssignEmpty_1 vs (i : Int) b.Floors b.Debounce b.Room b.Park b.Empty b.Full b.Over b.Cars m.Phases m.Flags m.Leaving m.Entries m.Phases m.Flags m.Leaving (decL b vs m.Entries xs) = _ ∧ _) ∨ R_l22_AssignEmpty_1 vs (i : Int) b.Floors b.Debounce b.Room b.Park b.Empty b.Full b.Over b.Cars m.Phases m.Flags m.Leaving m.Entries m.Phases m.Flags m.Leaving (decL b vs m.Entries xs) = _
  by_cases g : i < m.Entries.length
  · exact .inl ⟨_, empty_step h hno g, ⟨i + 1, by omega, rfl, by trivial⟩, by show m.Entries.length - (i + 1) < m.Entries.length - i; omega⟩
  · unfold R_l22_AssignEmpty_1
    rw [show decide ((i : Int) < ((decL b vs m.Entries xs).length : Int)) = false by simp; omega]
    exact .inr rfl
theorem own_loop (c : Int) : ∀ (k i : Nat) (o : Int × Int), i + k = m.Entries.length →
    iter (fun x => R_l22_AssignEmpty_3 x.1.2.2.1 x.1.2.2.2.1 x.1.2.2.2.2.2.1 x.2.1.1 x.2.1.2.1 x.2.1.2.2.1 x.2.1.2.2.2.1 x.2.1.2.2.2.2.1 x.2.1.2.2.2.2.2.1 x.2.1.2.2.2.2.2.2.1 x.2.1.2.2.2.2.2.2.2.1 x.2.2.1.1 x.2.2.1.2.1 x.2.2.1.2.2.1 x.2.2.1.2.2.2.1 x.2.2.2.1.1 x.2.2.2.1.2.1) (k + 1) (((), (), vs, c, (), (i : Int), ()), (b.tup, m.tup, (o.1, o.2, ()), ())) = some (((), (), vs, c, (), ()), (b.tup, m.tup, ((stopsF vs c (m.Entries.drop i) o).1, (stopsF vs c (m.Entries.drop i) o).2, ()), ()))
  | 0, i, o, hi => by
    refine iter_inr ?_
    show R_l22_AssignEmpty_3 vs c (i : Int) b.Floors b.Debounce b.Room b.Park b.Empty b.Full b.Over b.Cars m.Phases m.Flags m.Leaving m.Entries o.1 o.2 = _
    unfold R_l22_AssignEmpty_3
    rw [show decide ((i : Int) < (m.Entries.length : Int)) = false by simp; omega, show i = m.Entries.length by omega, List.drop_length]; rfl
  | k + 1, i, o, hi => by
    have hi' : i < m.Entries.length := by omega
    have hent := h.ents
    have w : IntKind.i64.wrap ((i : Int) + 1) = ((i + 1 : Nat) : Int) := by rw [wrap_small (by omega) (by omega)]; omega
    rw [drop_getD noE hi']
    refine (iter_inl (x' := (((), (), vs, c, (), ((i + 1 : Nat) : Int), ()), (b.tup, m.tup, ((stopStep vs c (m.Entries.getD i noE) o).1, (stopStep vs c (m.Entries.getD i noE) o).2, ()), ()))) ?_).trans (own_loop c k (i + 1) _ (by omega))
    show R_l22_AssignEmpty_3 vs c (i : Int) b.Floors b.Debounce b.Room b.Park b.Empty b.Full b.Over b.Cars m.Phases m.Flags m.Leaving m.Entries o.1 o.2 = _
    unfold R_l22_AssignEmpty_3
    rw [show decide ((i : Int) < (m.Entries.length : Int)) = true by simp; omega, inB_true (show (0 : Int) ≤ (i : Int) by omega) (show (i : Int) < (m.Entries.length : Int) by omega), show Entry.mk 0 0 0 0 false = noE from rfl, Int.toNat_natCast]
    have hu := r07_Union_eq o (oneV (m.Entries.getD i noE).Floor (m.Entries.getD i noE).Dir)
    unfold stopStep stopB
    rw [hno, Bool.and_false, Bool.or_false]
    cases (m.Entries.getD i noE).Car == c with
    | true => simp only [cond_true, r07_One_eq, Option.bind_some, hu, w]; rfl
    | false => simp only [cond_true, cond_false, w]; rfl
theorem cars_loop : L_l22_AssignEmpty_2 (((), (), vs, (0 : Int), ()), (b.tup, m.tup, ())) = some (.inl ((), ())) := by
  have hent := h.ents
  have hc := h.cars
  have hmx : 1000 ≤ maxLen := by decide
  refine loop_of (fun x y => ∃ i : Nat, i ≤ b.Cars.length ∧ x = (((), (), vs, (i : Int), ()), (b.tup, m.tup, ())) ∧ y = .inl ((), ())) (fun x => b.Cars.length - x.1.2.2.2.1.toNat) ?_ ⟨0, by omega, rfl, rfl⟩ (by show b.Cars.length - 0 < _; omega)
  rintro _ _ ⟨i, h1, rfl, rfl⟩
  show (∃ x', R_l22_AssignEmpty_2 vs (i : Int) b.Floors b.Debounce b.Room b.Park b.Empty b.Full b.Over b.Cars m.Phases m.Flags m.Leaving m.Entries = _ ∧ _) ∨ R_l22_AssignEmpty_2 vs (i : Int) b.Floors b.Debounce b.Room b.Park b.Empty b.Full b.Over b.Cars m.Phases m.Flags m.Leaving m.Entries = _
  unfold R_l22_AssignEmpty_2
  by_cases g : i < b.Cars.length
  · have w : IntKind.i64.wrap ((i : Int) + 1) = ((i + 1 : Nat) : Int) := by rw [wrap_small (by omega) (by omega)]; omega
    have hlp := iter_fuel (own_loop h hno (i : Int) m.Entries.length 0 (0, 0) (by omega)) (by omega)
    have hlp' : L_l22_AssignEmpty_3 (((), (), vs, (i : Int), (), (0 : Int), ()), (b.tup, m.tup, ((0 : Int), (0 : Int), ()), ())) = _ := hlp
    rw [List.drop_zero] at hlp'
    unfold Bldg.tup Img.tup at hlp'
    have hs := assign_Stops_eq h.small vs m (by omega) (by rw [h.img.lp]; omega) (i : Int)
    have hv : stopsV b m vs (i : Int) = stopsF vs (i : Int) m.Entries (0, 0) := by
      unfold stopsV
      have h2 : (vs.length : Int) == (b.Cars.length : Int) := by rw [h.vlen]; simp
      rw [Img.ok_iff.2 h.img, h2, decide_eq_true (show (0 : Int) ≤ (i : Int) by omega), decide_eq_true (show (i : Int) < (b.Cars.length : Int) by omega)]
      rfl
    rw [hv] at hs
    rw [show decide ((i : Int) < (b.Cars.length : Int)) = true by simp; omega, hlp']
    simp only [cond_true, Option.bind_some, hs, beq_self_eq_true, Bool.and_self, Bool.not_true, cond_false, w]
    exact .inl ⟨_, rfl, ⟨i + 1, by omega, rfl, by trivial⟩, by show b.Cars.length - (i + 1) < b.Cars.length - i; omega⟩
  · rw [show decide ((i : Int) < (b.Cars.length : Int)) = false by simp; omega]
    exact .inr rfl
end
theorem law_AssignEmpty (n : Int) (l : List (Int)) (k : List (Int)) (h_n : 0 ≤ n ∧ n < 256) (h_l : l.length ≤ maxLen ∧ ∀ e ∈ l, (0 ≤ e ∧ e < 256)) (h_k : k.length ≤ maxLen ∧ ∀ e ∈ k, (0 ≤ e ∧ e < 256)) : F_l22_AssignEmpty n l k = some ((true, ()), ()) := by
  obtain ⟨b, m, vs, xs, hB, hI, hV, hX, h0, _⟩ := made22 h_n h_l h_k
  have h := h0.off
  have hno := off_ready vs
  have hc := h0.cars
  have hclr := iter_fuel (clear_loop k b m vs [] (by have := h0.vlen; rw [List.length_nil]; omega)) (by have := h0.vlen; omega)
  have hclr' : L_l22_AssignEmpty_0 ((k, (), (), vs, (0 : Int), ()), (b.tup, m.tup, ())) = some ((k, (), (), vs.map offV, ()), (b.tup, m.tup, ())) := hclr
  have h1 := empty_loop h hno
  have h2 := cars_loop h hno
  obtain ⟨ha, _, hlen⟩ := h.after
  have hp := h.plan_eq
  unfold Bldg.tup at hB hclr' h1 h2
  unfold Img.tup at hI hclr' h1 h2 ha
  unfold F_l22_AssignEmpty
  rw [put_entries] at ha h1
  simp only [hB, Option.bind_some, hI, hV]
  rw [hclr']
  simp only [Option.bind_some, hX, hp, ha, bne_self_eq_false, cond_false, Bool.not_true, hlen]
  rw [h1]
  simp only [Option.bind_some]
  rw [h2]
  simp only [Option.bind_some, l22_sane]
end Go.Ovl
