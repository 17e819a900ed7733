/- AssignExpects: when a call is moved although its car is not lost, and what is expected behind a plan. -/
import Derived.Test.YticbfghinhhgiaaDoorOvMk22
import Derived.Test.YticbfghinhhgiaaDoorOvStops
namespace Go.Ovl
open Go Go.Ab
set_option maxRecDepth 100000
theorem decV_free {b : Bldg} {vs : List View} {e : Entry} {x : Int} (h0 : 0 ≤ e.Car) (hl : (viewAt vs e.Car).Lost = false) (hc : (decV b vs e x).Car ≠ e.Car) :
    (decV b vs e x).Moved = true ∧ e.Moved = false ∧ ((viewAt vs e.Car).Legacy = true → x = 0) ∧ ((viewAt vs e.Car).Legacy = false → fullV (viewAt vs e.Car) = true ∧ fullV (viewAt vs (decV b vs e x).Car) = false) := by
  unfold decV at hc ⊢
  rw [beq_f (show ¬ e.Car = -2 by omega), beq_f (show ¬ e.Car = -1 by omega), hl] at hc ⊢
  simp only [cond_false] at hc ⊢
  cases hm : (!e.Moved && decide (e.Moves ≤ (b.Cars.length : Int))) with
  | false => rw [hm] at hc; exact absurd rfl hc
  | true =>
    rw [hm] at hc
    simp only [cond_true] at hc ⊢
    cases ho : (otherV b vs e x != -1) with
    | false => rw [ho] at hc; exact absurd rfl hc
    | true =>
      have hmv : e.Moved = false := by simp at hm; exact hm.1
      have hne : otherV b vs e x ≠ -1 := by simpa using ho
      unfold otherV at hne ⊢
      cases h1 : chooseV b vs e.Floor e.Dir e.Car == -1 with
      | true => rw [h1] at hne; exact absurd rfl hne
      | false =>
        rw [h1] at hne
        cases h2 : betterV b vs e x (chooseV b vs e.Floor e.Dir e.Car) with
        | false => rw [h2] at hne; exact absurd rfl hne
        | true =>
          unfold betterV at h2
          refine ⟨rfl, hmv, fun hL => ?_, fun hL => ?_⟩
          · rw [hL] at h2
            simp only [Bool.true_and, Bool.not_true, Bool.false_and, Bool.or_false, Bool.and_eq_true] at h2
            simpa using h2.1
          · rw [hL] at h2
            simp only [Bool.false_and, Bool.false_or, Bool.not_false, Bool.true_and, Bool.and_eq_true, Bool.not_eq_true'] at h2
            exact h2
def ofF : List Entry → Int × Int → Int × Int
  | [], c => c
  | e :: t, c => ofF t (unionV c (oneV e.Floor e.Dir))
theorem r07_Of_loop {l : List Entry} (hl : l.length ≤ 1000) : ∀ (k i : Nat) (c : Int × Int), i + k = l.length →
    iter (fun x => R_r07_Of_0 x.1.1 x.1.2.2.2.1 x.2.1.1 x.2.1.2.1 x.2.2.1.1 x.2.2.1.2.1) (k + 1) ((l, (), (), (i : Int), ()), (((0 : Int), (0 : Int), ()), (c.1, c.2, ()), ())) = some (((), (), ()), (((0 : Int), (0 : Int), ()), ((ofF (l.drop i) c).1, (ofF (l.drop i) c).2, ()), ()))
  | 0, i, c, hi => by
    refine iter_inr ?_
    show R_r07_Of_0 l (i : Int) 0 0 c.1 c.2 = _
    unfold R_r07_Of_0
    rw [show decide ((i : Int) < (l.length : Int)) = false by simp; omega, show i = l.length by omega, List.drop_length]; rfl
  | k + 1, i, c, hi => by
    have hi' : i < l.length := by omega
    have w : IntKind.i64.wrap ((i : Int) + 1) = ((i + 1 : Nat) : Int) := by rw [wrap_small (by omega) (by omega)]; omega
    rw [drop_getD noE hi']
    refine (iter_inl (x' := ((l, (), (), ((i + 1 : Nat) : Int), ()), (((0 : Int), (0 : Int), ()), ((unionV c (oneV (l.getD i noE).Floor (l.getD i noE).Dir)).1, (unionV c (oneV (l.getD i noE).Floor (l.getD i noE).Dir)).2, ()), ()))) ?_).trans (r07_Of_loop hl k (i + 1) _ (by omega))
    show R_r07_Of_0 l (i : Int) 0 0 c.1 c.2 = _
    unfold R_r07_Of_0
    rw [show decide ((i : Int) < (l.length : Int)) = true by simp; omega, inB_true (show (0 : Int) ≤ (i : Int) by omega) (show (i : Int) < (l.length : Int) by omega), show Entry.mk 0 0 0 0 false = noE from rfl, Int.toNat_natCast]
    have hu := r07_Union_eq c (oneV (l.getD i noE).Floor (l.getD i noE).Dir)
    simp only [cond_true, r07_One_eq, Option.bind_some, hu, w]
theorem r07_Of_eq {l : List Entry} (hl : l.length ≤ 1000) : F_r07_Of l = some (((), ()), (((ofF l (0, 0)).1, (ofF l (0, 0)).2, ()), ())) := by
  have h := iter_fuel (r07_Of_loop hl l.length 0 (0, 0) (by omega)) (by omega)
  have h' : L_r07_Of_0 ((l, (), (), (0 : Int), ()), (((0 : Int), (0 : Int), ()), ((0 : Int), (0 : Int), ()), ())) = _ := h
  unfold F_r07_Of
  rw [h', List.drop_zero]
  rfl
theorem ofF_dec (b : Bldg) (vs : List View) : ∀ (l : List Entry) (xs : List Int) (c : Int × Int), xs.length = l.length → ofF (decL b vs l xs) c = ofF l c
  | [], _, _, _ => by simp [decL, ofF]
  | _ :: _, [], _, h => by simp at h
  | e :: t, x :: xs, c, h => by
    obtain ⟨h1, h2⟩ := decV_call b vs e x
    simp only [decL, ofF, h1, h2]
    exact ofF_dec b vs t xs _ (by simpa using h)
section
variable {b : Bldg} {m : Img} {vs : List View} {xs : List Int} (h : Plan22 b m vs xs) {i : Nat} (hi : i < m.Entries.length) (hx : 0 ≤ xs.getD i 0 ∧ xs.getD i 0 ≤ 3)
include h hi hx
theorem expects_step : R_l22_AssignExpects_0 vs xs (planN b vs m.Entries xs) (i : Int) b.Floors b.Debounce b.Room b.Park b.Empty b.Full b.Over b.Cars m.Phases m.Flags m.Leaving m.Entries m.Phases m.Flags m.Leaving (decL b vs m.Entries xs) = some (.inl (((), (), vs, xs, planN b vs m.Entries xs, (), ((i + 1 : Nat) : Int), ()), (b.tup, m.tup, (m.put (decL b vs m.Entries xs)).tup, ()))) := by
  have hl1 := decL_len b vs m.Entries xs h.xlen
  have hl2 := planN_len b vs m.Entries xs h.xlen
  have hent := h.ents
  have wi : IntKind.i64.wrap ((i : Int) + 1) = ((i + 1 : Nat) : Int) := by rw [wrap_small (by omega) (by omega)]; omega
  have hd := decL_getD b vs m.Entries xs i h.xlen hi
  have hp := planN_getD b vs m.Entries xs i h.xlen hi
  obtain ⟨_, k2, _⟩ := h.ent hi
  have hin := decV_in b k2 (xs.getD i 0)
  obtain ⟨f1, f2, f3, f4⟩ := h.car k2 (xs.getD i 0)
  obtain ⟨c1, c2⟩ := decV_call b vs (m.Entries.getD i noE) (xs.getD i 0)
  have hfree := decV_free (b := b) (vs := vs) (e := m.Entries.getD i noE) (x := xs.getD i 0)
  unfold R_l22_AssignExpects_0
  rw [show decide ((i : Int) < (xs.length : Int)) = true by have := h.xlen; simp; omega, inB_true (show (0 : Int) ≤ (i : Int) by omega) (show (i : Int) < (m.Entries.length : Int) by omega), inB_true (show (0 : Int) ≤ (i : Int) by omega) (show (i : Int) < ((decL b vs m.Entries xs).length : Int) by omega), show Entry.mk 0 0 0 0 false = noE from rfl, Int.toNat_natCast, hd]
  simp only [cond_true]
  have iN := inB_true (show (0 : Int) ≤ (i : Int) by omega) (show (i : Int) < ((planN b vs m.Entries xs).length : Int) by omega)
  have iX := inB_true (show (0 : Int) ≤ (i : Int) by omega) (show (i : Int) < (xs.length : Int) by have := h.xlen; omega)
  generalize hD : decV b vs (m.Entries.getD i noE) (xs.getD i 0) = D at *
  generalize hE : m.Entries.getD i noE = E at *
  generalize hX : xs.getD i 0 = x at *
  have stay : nextV b vs E D x = (bif decide ((0 : Int) < IntKind.i64.wrap (x - 1)) then IntKind.i64.wrap (x - 1) else 0) ∨ (D.Car ≠ E.Car ∧ 0 ≤ D.Car) := by
    by_cases g : D.Car ≠ E.Car ∧ 0 ≤ D.Car
    · exact .inr g
    · left
      have : (D.Car != E.Car && decide (0 ≤ D.Car)) = false := by
        rw [Bool.and_eq_false_iff, decide_eq_false_iff_not, bne_eq_false_iff_eq]
        omega
      unfold nextV
      rw [this, cond_false, wrap_small (n := x - 1) (by omega) (by omega)]
      by_cases g1 : x - 1 < 0
      · rw [decide_eq_true g1, decide_eq_false (show ¬ (0 : Int) < x - 1 by omega)]; rfl
      · rw [decide_eq_false g1]
        by_cases g2 : 0 < x - 1
        · rw [decide_eq_true g2]; rfl
        · rw [decide_eq_false g2]; show x - 1 = 0; omega
  by_cases g : D.Car = E.Car
  · have st := stay.resolve_right (by omega)
    rw [show (D.Car == E.Car) = true by rw [g]; simp]
    simp only [cond_true, Option.bind_some, iN, iX, Int.toNat_natCast, hp, hX, st, bne_self_eq_false, cond_false, wi]
    rfl
  rw [beq_f g]
  by_cases g0 : D.Car < 0
  · have st := stay.resolve_right (by omega)
    simp only [cond_true, cond_false, decide_eq_true g0, Option.bind_some, iN, iX, Int.toNat_natCast, hp, hX, st, bne_self_eq_false, wi]
    rfl
  have g0' : 0 ≤ D.Car := by omega
  have e1 : F_r21_Estimate b.Floors b.Debounce b.Room b.Park b.Empty b.Full b.Over b.Cars D.Car (viewAt vs D.Car).Ready (viewAt vs D.Car).Serving (viewAt vs D.Car).Legacy (viewAt vs D.Car).Lost (viewAt vs D.Car).Floor (viewAt vs D.Car).Dir (viewAt vs D.Car).Load (viewAt vs D.Car).Shows_Up (viewAt vs D.Car).Shows_Down (viewAt vs D.Car).Stops_Car (viewAt vs D.Car).Stops_Hall_Up (viewAt vs D.Car).Stops_Hall_Down D.Floor D.Dir = some ((estV b D.Car (viewAt vs D.Car) E.Floor E.Dir, ()), ()) := by
    rw [c1, c2]; exact estR_eq h.small (h.made.ok.at _) D.Car E.Floor E.Dir
  have e2 : nextV b vs E D x = (bif decide (IntKind.i64.wrap (estV b D.Car (viewAt vs D.Car) E.Floor E.Dir + (carAt b D.Car).Slack) < 1000000) then IntKind.i64.wrap (estV b D.Car (viewAt vs D.Car) E.Floor E.Dir + (carAt b D.Car).Slack) else 1000000) := by
    unfold nextV
    rw [bne_t g, decide_eq_true g0', Bool.and_self, cond_true]
    generalize IntKind.i64.wrap (estV b D.Car (viewAt vs D.Car) E.Floor E.Dir + (carAt b D.Car).Slack) = z
    by_cases q : 1000000 < z
    · rw [decide_eq_true q, decide_eq_false (show ¬ z < 1000000 by omega)]; rfl
    · rw [decide_eq_false q]
      by_cases q' : z < 1000000
      · rw [decide_eq_true q']; rfl
      · rw [decide_eq_false q']; show z = 1000000; omega
  have iV := inB_true g0' hin.2
  have iC := inB_true g0' (show D.Car < (b.Cars.length : Int) by have := h.vlen; omega)
  unfold viewAt at e1 e2
  unfold carAt at e2
  by_cases gE : E.Car < 0
  · simp only [cond_true, cond_false, decide_eq_false g0, Option.bind_some, iN, iV, e1, iC, Int.toNat_natCast, hp, e2, bne_self_eq_false, decide_eq_true gE, wi]
    rfl
  have gE' : 0 ≤ E.Car := by omega
  have iW := inB_true gE' k2.2
  cases hL : (viewAt vs E.Car).Lost with
  | true =>
    unfold viewAt at hL
    simp only [cond_true, cond_false, decide_eq_false g0, Option.bind_some, iN, iV, e1, iC, Int.toNat_natCast, hp, e2, bne_self_eq_false, decide_eq_false gE, iW, hL, wi]
    rfl
  | false =>
    obtain ⟨q1, q2, q3, q4⟩ := hfree gE' hL g
    unfold viewAt at hL
    simp only [cond_true, cond_false, decide_eq_false g0, Option.bind_some, iN, iV, e1, iC, Int.toNat_natCast, hp, e2, bne_self_eq_false, decide_eq_false gE, iW, hL, q1, q2]
    cases hleg : (viewAt vs E.Car).Legacy with
    | true =>
      have := q3 hleg
      subst this
      unfold viewAt at hleg
      cases hf : (vs.getD E.Car.toNat (View.mk false false false false 0 0 0 0 0 0 0 0)).Load == 3 <;> simp only [cond_true, cond_false, Option.bind_some, hleg, iX, Int.toNat_natCast, hX, bne_self_eq_false, Bool.not_true, wi] <;> rfl
    | false =>
      obtain ⟨q5, q6⟩ := q4 hleg
      unfold fullV at q5 q6
      unfold viewAt at hleg q5 q6
      rw [Bool.or_eq_false_iff] at q6
      cases hf : (vs.getD E.Car.toNat (View.mk false false false false 0 0 0 0 0 0 0 0)).Load == 3 with
      | true => simp only [cond_true, cond_false, Option.bind_some, hleg, Bool.not_true, Bool.not_false, q6.1, q6.2, wi]; rfl
      | false =>
        rw [hf, Bool.false_or] at q5
        simp only [cond_true, cond_false, Option.bind_some, hleg, Bool.not_true, Bool.not_false, q5, q6.1, q6.2, wi]; rfl
end
theorem expects_loop {b : Bldg} {m : Img} {vs : List View} {xs : List Int} (h : Plan22 b m vs xs) (hxs : ∀ x ∈ xs, 0 ≤ x ∧ x ≤ 3) : L_l22_AssignExpects_0 (((), (), vs, xs, planN b vs m.Entries xs, (), (0 : Int), ()), (b.tup, m.tup, (m.put (decL b vs m.Entries xs)).tup, ())) = some (.inl (((), (), ()), (m.tup, (m.put (decL b vs m.Entries xs)).tup, ()))) := by
  have hxl := h.xlen
  have := h.ents
  refine loop_of (fun x y => ∃ i : Nat, i ≤ m.Entries.length ∧ x = (((), (), vs, xs, planN b vs m.Entries xs, (), (i : Int), ()), (b.tup, m.tup, (m.put (decL b vs m.Entries xs)).tup, ())) ∧ y = .inl (((), (), ()), (m.tup, (m.put (decL b vs m.Entries xs)).tup, ()))) (fun x => m.Entries.length - x.1.2.2.2.2.2.2.1.toNat) ?_ ⟨0, by omega, rfl, rfl⟩ (by show m.Entries.length - 0 < _; omega)
  rintro _ _ ⟨i, h1, rfl, rfl⟩
  show (∃ x', R_l22_AssignExpects_0 vs xs (planN b vs m.Entries xs) (i : Int) b.Floors b.Debounce b.Room b.Park b.Empty b.Full b.Over b.Cars m.Phases m.Flags m.Leaving m.Entries m.Phases m.Flags m.Leaving (decL b vs m.Entries xs) = _ ∧ _) ∨ R_l22_AssignExpects_0 vs xs (planN b vs m.Entries xs) (i : Int) b.Floors b.Debounce b.Room b.Park b.Empty b.Full b.Over b.Cars m.Phases m.Flags m.Leaving m.Entries m.Phases m.Flags m.Leaving (decL b vs m.Entries xs) = _
  by_cases g : i < m.Entries.length
  · exact .inl ⟨_, expects_step h g (hxs _ (getD_mem 0 (by omega))), ⟨i + 1, by omega, rfl, by trivial⟩, by show m.Entries.length - (i + 1) < m.Entries.length - i; omega⟩
  · unfold R_l22_AssignExpects_0
    rw [show decide ((i : Int) < (xs.length : Int)) = false by simp; omega]
    exact .inr rfl
theorem law_AssignExpects (n : Int) (l : List (Int)) (k : List (Int)) (h_n : 0 ≤ n ∧ n < 256) (h_l : l.length ≤ maxLen ∧ ∀ e ∈ l, (0 ≤ e ∧ e < 256)) (h_k : k.length ≤ maxLen ∧ ∀ e ∈ k, (0 ≤ e ∧ e < 256)) : F_l22_AssignExpects n l k = some ((true, ()), ()) := by
  obtain ⟨b, m, vs, xs, hB, hI, hV, hX, h, hxs⟩ := made22 h_n h_l h_k
  have h1 := expects_loop h hxs
  obtain ⟨ha, _, hlen⟩ := h.after
  have hp := h.plan_eq
  have hent := h.ents
  have hl2 := planN_len b vs m.Entries xs h.xlen
  have ho1 := r07_Of_eq (l := m.Entries) (by omega)
  have ho2 := r07_Of_eq (l := decL b vs m.Entries xs) (by omega)
  rw [ofF_dec b vs m.Entries xs _ h.xlen] at ho2
  unfold Bldg.tup at hB h1
  unfold Img.tup at hI h1 ha
  unfold F_l22_AssignExpects
  rw [put_entries] at ha h1
  simp only [hB, Option.bind_some, hI, hV, hX, hp, ha, bne_self_eq_false, cond_false, Bool.not_true, hlen, hl2, h.xlen]
  rw [h1]
  simp only [Option.bind_some, ho1, ho2, beq_self_eq_true, Bool.and_self, cond_true, l22_sane]
end Go.Ovl
