/- AssignMoves: how often a call is moved, over many plans with changing views. -/
import Derived.Test.YticbfghinhhgiaaDoorOvMk22
import Derived.Test.YticbfghinhhgiaaDoorOvEstB
namespace Go.Ovl
open Go Go.Ab
set_option maxRecDepth 100000
/-- What is counted of an entry's moves. -/
structure Mv (b : Bldg) (e : Entry) (lo fr : Int) : Prop where
  l0 : 0 ≤ lo
  f0 : 0 ≤ fr
  f1 : fr ≤ 1
  mv : e.Moves = lo + fr
  mo : e.Moved = (fr == 1)
  le : e.Moves ≤ (b.Cars.length : Int) + 1
theorem mv_dec {b : Bldg} {vs : List View} {e : Entry} {lo fr : Int} (h : Mv b e lo fr) (he : -2 ≤ e.Car) (x : Int) :
    (((decV b vs e x).Moves = e.Moves ∧ Mv b (decV b vs e x) lo fr) ∨
     ((decV b vs e x).Moves = e.Moves + 1 ∧ 0 ≤ e.Car ∧ (viewAt vs e.Car).Lost = true ∧ Mv b (decV b vs e x) (lo + 1) fr) ∨
     ((decV b vs e x).Moves = e.Moves + 1 ∧ 0 ≤ e.Car ∧ (viewAt vs e.Car).Lost = false ∧ Mv b (decV b vs e x) lo (fr + 1))) ∧
    ((decV b vs e x).Car = -2 → e.Car ≠ -2 → 0 ≤ e.Car ∧ (viewAt vs e.Car).Lost = true ∧ e.Moves = (b.Cars.length : Int) + 1) := by
  obtain ⟨h1, h2, h3, h4, h5, h6⟩ := h
  have nochoose : ∀ f d x' : Int, chooseV b vs f d x' ≠ -2 := fun f d x' => by
    rcases chooseV_in b vs f d x' with hh | hh <;> omega
  unfold decV
  by_cases g1 : e.Car = -2
  · rw [show (e.Car == -2) = true by rw [g1]; rfl, cond_true]
    exact ⟨.inl ⟨rfl, h1, h2, h3, h4, h5, h6⟩, fun _ hh => absurd g1 hh⟩
  rw [beq_f g1, cond_false]
  by_cases g2 : e.Car = -1
  · rw [show (e.Car == -1) = true by rw [g2]; rfl, cond_true]
    exact ⟨.inl ⟨rfl, h1, h2, h3, h4, h5, h6⟩, fun hh _ => absurd hh (nochoose _ _ _)⟩
  rw [beq_f g2, cond_false]
  have g3 : 0 ≤ e.Car := by omega
  cases hl : (viewAt vs e.Car).Lost with
  | true =>
    rw [cond_true]
    by_cases g : (b.Cars.length : Int) < e.Moves
    · rw [decide_eq_true g, cond_true]
      exact ⟨.inl ⟨rfl, h1, h2, h3, h4, h5, h6⟩, fun _ _ => ⟨g3, rfl, by omega⟩⟩
    · rw [decide_eq_false g, cond_false]
      exact ⟨.inr (.inl ⟨rfl, g3, rfl, by omega, h2, h3, by show e.Moves + 1 = _; omega, h5, by show e.Moves + 1 ≤ _; omega⟩), fun hh _ => absurd hh (nochoose _ _ _)⟩
  | false =>
    rw [cond_false]
    have self : (((e.Moves = e.Moves ∧ Mv b e lo fr) ∨ (e.Moves = e.Moves + 1 ∧ 0 ≤ e.Car ∧ false = true ∧ Mv b e (lo + 1) fr) ∨ (e.Moves = e.Moves + 1 ∧ 0 ≤ e.Car ∧ false = false ∧ Mv b e lo (fr + 1))) ∧ (e.Car = -2 → e.Car ≠ -2 → 0 ≤ e.Car ∧ false = true ∧ e.Moves = (b.Cars.length : Int) + 1)) :=
      ⟨.inl ⟨rfl, h1, h2, h3, h4, h5, h6⟩, fun hh => absurd hh g1⟩
    cases hm : (!e.Moved && decide (e.Moves ≤ (b.Cars.length : Int))) with
    | false => exact self
    | true =>
      rw [cond_true]
      cases ho : otherV b vs e x != -1 with
      | false => exact self
      | true =>
        rw [cond_true]
        simp only [Bool.and_eq_true, Bool.not_eq_true', decide_eq_true_eq] at hm
        rw [h5, beq_eq_false_iff_ne] at hm
        have hfr : fr = 0 := by omega
        subst hfr
        refine ⟨.inr (.inr ⟨rfl, g3, rfl, h1, by omega, by omega, by show e.Moves + 1 = _; omega, rfl, by show e.Moves + 1 ≤ _; omega⟩), fun hh _ => ?_⟩
        rcases otherV_in b vs e x with hh' | hh'
        · rw [hh'] at ho; cases ho
        · have : otherV b vs e x = -2 := hh
          omega
theorem upd_at {j : Int} (hj : j = 0 ∨ j = 1) (x a c : Int) : [bif Nat.beq j.toNat 0 then x else a, bif Nat.beq j.toNat 1 then x else c].getD j.toNat 0 = x := by
  rcases hj with rfl | rfl <;> rfl
theorem upd_no {j : Int} (hj : j = 0 ∨ j = 1) (x a c : Int) {q : Nat} (hq : q < 2) (hne : q ≠ j.toNat) : [bif Nat.beq j.toNat 0 then x else a, bif Nat.beq j.toNat 1 then x else c].getD q 0 = [a, c].getD q 0 := by
  have hq' : q = 0 ∨ q = 1 := by omega
  rcases hj with rfl | rfl <;> rcases hq' with rfl | rfl <;> first | rfl | exact absurd rfl hne
section
variable {b : Bldg} {m : Img} {vs : List View} {xs : List Int} (h : Plan22 b m vs xs) (h2 : m.Entries.length = 2) (k : List Int) (i : Int) (y : List Int)
include h h2
theorem moves_step {j : Int} (hj : j = 0 ∨ j = 1) {l0 l1 f0 f1 : Int} (hM : Mv b (m.Entries.getD j.toNat noE) ([l0, l1].getD j.toNat 0) ([f0, f1].getD j.toNat 0)) :
    ∃ L0 L1 F0 F1 : Int, R_l22_AssignMoves_2 k i vs y j b.Floors b.Debounce b.Room b.Park b.Empty b.Full b.Over b.Cars m.Phases m.Flags m.Leaving m.Entries l0 l1 f0 f1 m.Phases m.Flags m.Leaving (decL b vs m.Entries xs) = some (.inl ((k, (), (), (), (), i, vs, y, (), j + 1, ()), (b.tup, m.tup, (L0, L1, ()), (F0, F1, ()), (m.put (decL b vs m.Entries xs)).tup, ()))) ∧
      Mv b ((decL b vs m.Entries xs).getD j.toNat noE) ([L0, L1].getD j.toNat 0) ([F0, F1].getD j.toNat 0) ∧
      ∀ q : Nat, q < 2 → q ≠ j.toNat → [L0, L1].getD q 0 = [l0, l1].getD q 0 ∧ [F0, F1].getD q 0 = [f0, f1].getD q 0 := by
  have hl1 := decL_len b vs m.Entries xs h.xlen
  have hc := h.cars
  have hj' : 0 ≤ j ∧ j < 2 := by omega
  have wi : IntKind.i64.wrap (j + 1) = j + 1 := wrap_small (by omega) (by omega)
  have hd := decL_getD b vs m.Entries xs j.toNat h.xlen (by omega)
  obtain ⟨_, k2, k3⟩ := h.ent (show j.toNat < m.Entries.length by omega)
  obtain ⟨d1, d2⟩ := mv_dec (vs := vs) hM k2.1 (xs.getD j.toNat 0)
  have b2 : inB j 2 = true := inB_true hj'.1 hj'.2
  have im := inB_true hj'.1 (show j < (m.Entries.length : Int) by omega)
  have io := inB_true hj'.1 (show j < ((decL b vs m.Entries xs).length : Int) by omega)
  rw [← hd] at d1 d2
  generalize hD : (decL b vs m.Entries xs).getD j.toNat noE = D at *
  generalize hE : m.Entries.getD j.toNat noE = E at *
  have wc : IntKind.i64.wrap ((b.Cars.length : Int) + 1) = (b.Cars.length : Int) + 1 := wrap_small (by omega) (by omega)
  have wm : IntKind.i64.wrap (E.Moves + 1) = E.Moves + 1 := wrap_small (by omega) (by omega)
  unfold R_l22_AssignMoves_2
  rw [decide_eq_true hj'.2, im, io, show Entry.mk 0 0 0 0 false = noE from rfl, hD, hE]
  have iW : 0 ≤ E.Car → inB E.Car vs.length = true := fun g => inB_true g k2.2
  simp only [cond_true]
  rcases d1 with ⟨e1, M⟩ | ⟨e1, c1, c2, M⟩ | ⟨e1, c1, c2, M⟩
  · refine ⟨l0, l1, f0, f1, ?_, M, fun q _ _ => ⟨rfl, rfl⟩⟩
    rw [show (D.Moves != E.Moves) = false by rw [e1]; simp, cond_false]
    simp only [Option.bind_some]
    have t1 : decide (1 < [f0, f1].getD j.toNat 0) = false := by have := M.f1; simp only [decide_eq_false_iff_not]; omega
    have t2 : (D.Moves != IntKind.i64.wrap ([l0, l1].getD j.toNat 0 + [f0, f1].getD j.toNat 0)) = false := by
      have := M.mv; have := M.le; have := M.l0; have := M.f0
      rw [wrap_small (by omega) (by omega), M.mv]; simp
    have t3 : (!(D.Moved == ([f0, f1].getD j.toNat 0 == 1))) = false := by rw [M.mo]; simp
    have t4 : decide (IntKind.i64.wrap ((b.Cars.length : Int) + 1) < D.Moves) = false := by have := M.le; rw [wc]; simp only [decide_eq_false_iff_not]; omega
    by_cases q1 : D.Car = -2
    · rw [show (D.Car == -2) = true by rw [q1]; rfl]
      by_cases q2 : E.Car = -2
      · rw [show (E.Car != -2) = false by rw [q2]; rfl]
        simp only [cond_true, cond_false, Option.bind_some, b2, t1, t2, t3, t4, wi]
        rfl
      · obtain ⟨p1, p2, p3⟩ := d2 q1 q2
        unfold viewAt at p2
        have e5 : (E.Moves != IntKind.i64.wrap ((b.Cars.length : Int) + 1)) = false := by rw [p3, wc]; simp
        rw [bne_t q2, decide_eq_false (show ¬ E.Car < 0 by omega), iW p1, p2]
        simp only [cond_true, cond_false, Option.bind_some, Bool.not_true, e5, b2, t1, t2, t3, t4, wi]
        rfl
    · rw [beq_f q1]
      simp only [cond_true, cond_false, Option.bind_some, b2, t1, t2, t3, t4, wi]
      rfl
  · have c2' := c2
    unfold viewAt at c2'
    have lo0 := hM.l0
    have lo1 := hM.mv
    have lo2 := hM.f0
    have wl : IntKind.i64.wrap ([l0, l1].getD j.toNat 0 + 1) = [l0, l1].getD j.toNat 0 + 1 := wrap_small (by omega) (by omega)
    rw [bne_t (show ¬ D.Moves = E.Moves by omega), show (D.Moves != IntKind.i64.wrap (E.Moves + 1)) = false by rw [wm, e1]; simp, decide_eq_false (show ¬ E.Car < 0 by omega), iW c1, c2', b2, wl]
    simp only [cond_true, cond_false]
    have hno := fun (q : Nat) hq hne => upd_no hj ([l0, l1].getD j.toNat 0 + 1) l0 l1 (q := q) hq hne
    rw [← upd_at hj ([l0, l1].getD j.toNat 0 + 1) l0 l1] at M
    generalize (bif Nat.beq j.toNat 0 then [l0, l1].getD j.toNat 0 + 1 else l0) = L0 at *
    generalize (bif Nat.beq j.toNat 1 then [l0, l1].getD j.toNat 0 + 1 else l1) = L1 at *
    refine ⟨L0, L1, f0, f1, ?_, M, fun q hq hne => ⟨hno q hq hne, rfl⟩⟩
    simp only [Option.bind_some]
    have t1 : decide (1 < [f0, f1].getD j.toNat 0) = false := by have := M.f1; simp only [decide_eq_false_iff_not]; omega
    have t2 : (D.Moves != IntKind.i64.wrap ([L0, L1].getD j.toNat 0 + [f0, f1].getD j.toNat 0)) = false := by
      have := M.mv; have := M.le; have := M.l0; have := M.f0
      rw [wrap_small (by omega) (by omega), M.mv]; simp
    have t3 : (!(D.Moved == ([f0, f1].getD j.toNat 0 == 1))) = false := by rw [M.mo]; simp
    have t4 : decide (IntKind.i64.wrap ((b.Cars.length : Int) + 1) < D.Moves) = false := by have := M.le; rw [wc]; simp only [decide_eq_false_iff_not]; omega
    by_cases q1 : D.Car = -2
    · rw [show (D.Car == -2) = true by rw [q1]; rfl]
      by_cases q2 : E.Car = -2
      · rw [show (E.Car != -2) = false by rw [q2]; rfl]
        simp only [cond_true, cond_false, Option.bind_some, b2, t1, t2, t3, t4, wi]
        rfl
      · obtain ⟨p1, p2, p3⟩ := d2 q1 q2
        unfold viewAt at p2
        have e5 : (E.Moves != IntKind.i64.wrap ((b.Cars.length : Int) + 1)) = false := by rw [p3, wc]; simp
        rw [bne_t q2, decide_eq_false (show ¬ E.Car < 0 by omega), iW p1, p2]
        simp only [cond_true, cond_false, Option.bind_some, Bool.not_true, e5, b2, t1, t2, t3, t4, wi]
        rfl
    · rw [beq_f q1]
      simp only [cond_true, cond_false, Option.bind_some, b2, t1, t2, t3, t4, wi]
      rfl
  · have c2' := c2
    unfold viewAt at c2'
    have lo0 := hM.f0
    have lo1 := hM.f1
    have wl : IntKind.i64.wrap ([f0, f1].getD j.toNat 0 + 1) = [f0, f1].getD j.toNat 0 + 1 := wrap_small (by omega) (by omega)
    rw [bne_t (show ¬ D.Moves = E.Moves by omega), show (D.Moves != IntKind.i64.wrap (E.Moves + 1)) = false by rw [wm, e1]; simp, decide_eq_false (show ¬ E.Car < 0 by omega), iW c1, c2', b2, wl]
    simp only [cond_true, cond_false]
    have hno := fun (q : Nat) hq hne => upd_no hj ([f0, f1].getD j.toNat 0 + 1) f0 f1 (q := q) hq hne
    rw [← upd_at hj ([f0, f1].getD j.toNat 0 + 1) f0 f1] at M
    generalize (bif Nat.beq j.toNat 0 then [f0, f1].getD j.toNat 0 + 1 else f0) = F0 at *
    generalize (bif Nat.beq j.toNat 1 then [f0, f1].getD j.toNat 0 + 1 else f1) = F1 at *
    refine ⟨l0, l1, F0, F1, ?_, M, fun q hq hne => ⟨rfl, hno q hq hne⟩⟩
    simp only [Option.bind_some]
    have t1 : decide (1 < [F0, F1].getD j.toNat 0) = false := by have := M.f1; simp only [decide_eq_false_iff_not]; omega
    have t2 : (D.Moves != IntKind.i64.wrap ([l0, l1].getD j.toNat 0 + [F0, F1].getD j.toNat 0)) = false := by
      have := M.mv; have := M.le; have := M.l0; have := M.f0
      rw [wrap_small (by omega) (by omega), M.mv]; simp
    have t3 : (!(D.Moved == ([F0, F1].getD j.toNat 0 == 1))) = false := by rw [M.mo]; simp
    have t4 : decide (IntKind.i64.wrap ((b.Cars.length : Int) + 1) < D.Moves) = false := by have := M.le; rw [wc]; simp only [decide_eq_false_iff_not]; omega
    by_cases q1 : D.Car = -2
    · rw [show (D.Car == -2) = true by rw [q1]; rfl]
      by_cases q2 : E.Car = -2
      · rw [show (E.Car != -2) = false by rw [q2]; rfl]
        simp only [cond_true, cond_false, Option.bind_some, b2, t1, t2, t3, t4, wi]
        rfl
      · obtain ⟨p1, p2, p3⟩ := d2 q1 q2
        unfold viewAt at p2
        have e5 : (E.Moves != IntKind.i64.wrap ((b.Cars.length : Int) + 1)) = false := by rw [p3, wc]; simp
        rw [bne_t q2, decide_eq_false (show ¬ E.Car < 0 by omega), iW p1, p2]
        simp only [cond_true, cond_false, Option.bind_some, Bool.not_true, e5, b2, t1, t2, t3, t4, wi]
        rfl
    · rw [beq_f q1]
      simp only [cond_true, cond_false, Option.bind_some, b2, t1, t2, t3, t4, wi]
      rfl
end
theorem u8_range (n : Int) : u8r (IntKind.u8.wrap n) := by
  unfold u8r; simp only [IntKind.wrap, IntKind.signed, IntKind.bits]; simp; omega
theorem part_loop {k : List Int} (_hk : k.length ≤ maxLen) (x : List Int) {i : Int} (hi : 0 ≤ i ∧ i < 40) (b : Bldg) (m : Img) (l0 l1 f0 f1 : Int) :
    ∃ part : List Int, (∀ e ∈ part, u8r e) ∧ part.length ≤ 12 ∧ L_l22_AssignMoves_1 ((k, (), (), x, (), (), i, ([] : List Int), (0 : Int), ()), (b.tup, m.tup, (l0, l1, ()), (f0, f1, ()), ())) = some ((k, (), (), x, (), (), i, part, ()), (b.tup, m.tup, (l0, l1, ()), (f0, f1, ()), ())) := by
  have key : ∃ y : (List Int × Unit × Unit × List Int × Unit × Unit × Int × List Int × Unit) × ((Int × Int × Int × Int × Nat × Nat × Nat × List Car × Unit) × (List Int × List Bool × List Bool × List Entry × Unit) × (Int × Int × Unit) × (Int × Int × Unit) × Unit), L_l22_AssignMoves_1 ((k, (), (), x, (), (), i, ([] : List Int), (0 : Int), ()), (b.tup, m.tup, (l0, l1, ()), (f0, f1, ()), ())) = some y ∧ ∃ part : List Int, (∀ e ∈ part, u8r e) ∧ part.length ≤ 12 ∧ y = ((k, (), (), x, (), (), i, part, ()), (b.tup, m.tup, (l0, l1, ()), (f0, f1, ()), ())) := by
    refine loop_ex (fun s => ∃ part : List Int, (∀ e ∈ part, u8r e) ∧ part.length ≤ 12 ∧ s = ((k, (), (), x, (), (), i, part, (part.length : Int), ()), (b.tup, m.tup, (l0, l1, ()), (f0, f1, ()), ()))) (fun y => ∃ part : List Int, (∀ e ∈ part, u8r e) ∧ part.length ≤ 12 ∧ y = ((k, (), (), x, (), (), i, part, ()), (b.tup, m.tup, (l0, l1, ()), (f0, f1, ()), ()))) (fun s => 12 - s.1.2.2.2.2.2.2.2.2.1.toNat) ?_ ⟨[], (fun _ h => by cases h), Nat.zero_le _, rfl⟩ (by show 12 - 0 < _; omega)
    rintro _ ⟨part, h1, h2, rfl⟩
    show (∃ x', R_l22_AssignMoves_1 k x i part (part.length : Int) b.Floors b.Debounce b.Room b.Park b.Empty b.Full b.Over b.Cars m.Phases m.Flags m.Leaving m.Entries l0 l1 f0 f1 = _ ∧ _) ∨ ∃ y, R_l22_AssignMoves_1 k x i part (part.length : Int) b.Floors b.Debounce b.Room b.Park b.Empty b.Full b.Over b.Cars m.Phases m.Flags m.Leaving m.Entries l0 l1 f0 f1 = _ ∧ _
    unfold R_l22_AssignMoves_1
    by_cases g : (part.length : Int) < 12
    · rw [decide_eq_true g]
      by_cases g' : (0 : Int) < (k.length : Int)
      · have w1 : IntKind.i64.wrap (12 * i) = 12 * i := wrap_small (by omega) (by omega)
        have w2 : IntKind.i64.wrap (12 * i + (part.length : Int)) = 12 * i + (part.length : Int) := wrap_small (by omega) (by omega)
        have w : IntKind.i64.wrap ((part.length : Int) + 1) = ((part.length + 1 : Nat) : Int) := by rw [wrap_small (by omega) (by omega)]; omega
        have hm0 := Int.tmod_nonneg (k.length : Int) (show 0 ≤ 12 * i + (part.length : Int) by omega)
        have hm1 := Int.tmod_lt_of_pos (12 * i + (part.length : Int)) g'
        rw [decide_eq_true g']
        simp only [cond_true, bne_t (show ¬ (k.length : Int) = 0 by omega), w1, w2, inB_true hm0 hm1, w]
        generalize k.getD (Int.tmod (12 * i + (part.length : Int)) (k.length : Int)).toNat 0 + IntKind.u8.wrap i = z
        rw [show Nat.ble (part.length + [IntKind.u8.wrap z].length) 2147483648 = true from ble_true (by rw [List.length_singleton]; omega), cond_true]
        refine .inl ⟨_, rfl, ⟨part ++ [IntKind.u8.wrap z], fun e he => ?_, by rw [List.length_append, List.length_singleton]; omega, by rw [List.length_append, List.length_singleton]; rfl⟩, by show 12 - ((part.length + 1 : Nat) : Int).toNat < 12 - (part.length : Int).toNat; omega⟩
        rcases List.mem_append.1 he with he | he
        · exact h1 e he
        · rw [List.mem_singleton.1 he]; exact u8_range _
      · rw [decide_eq_false g']
        exact .inr ⟨_, rfl, part, h1, h2, rfl⟩
    · rw [decide_eq_false g]
      exact .inr ⟨_, rfl, part, h1, h2, rfl⟩
  obtain ⟨_, q1, part, q2, q3, rfl⟩ := key
  exact ⟨part, q2, q3, q1⟩
/-- What holds ahead of each round. -/
structure MvI (b : Bldg) (m : Img) (x : List Int) (l0 l1 f0 f1 : Int) : Prop where
  img : ImgOK b m
  two : m.Entries.length = 2
  xl : x.length = 2
  xv : ∀ e ∈ x, 0 ≤ e ∧ e ≤ 1000000
  m0 : Mv b (m.Entries.getD 0 noE) l0 f0
  m1 : Mv b (m.Entries.getD 1 noE) l1 f1
theorem mem_of_two {y : List Int} (hy : y.length = 2) {P : Int → Prop} (h0 : P (y.getD 0 0)) (h1 : P (y.getD 1 0)) : ∀ e ∈ y, P e := by
  match y, hy with
  | [a, c], _ =>
    intro e he
    simp only [List.mem_cons, List.not_mem_nil, or_false] at he
    rcases he with rfl | rfl
    · exact h0
    · exact h1
section
variable {b : Bldg} (hs : b.small) (hcode : b.code = 0) (hc : 1 ≤ b.Cars.length ∧ b.Cars.length ≤ 3) {k : List Int} (hk : k.length ≤ maxLen)
include hs hcode hc hk
theorem moves_round {m : Img} {x : List Int} {l0 l1 f0 f1 : Int} (h : MvI b m x l0 l1 f0 f1) {i : Int} (hi : 0 ≤ i ∧ i < 40) :
    ∃ (m' : Img) (x' : List Int) (l0' l1' f0' f1' : Int), MvI b m' x' l0' l1' f0' f1' ∧ R_l22_AssignMoves_0 k x i b.Floors b.Debounce b.Room b.Park b.Empty b.Full b.Over b.Cars m.Phases m.Flags m.Leaving m.Entries l0 l1 f0 f1 = some (.inl ((k, (), (), x', (), (), i + 1, ()), (b.tup, m'.tup, (l0', l1', ()), (f0', f1', ()), ()))) := by
  obtain ⟨part, hp1, hp2, hp3⟩ := part_loop hk x hi b m l0 l1 f0 f1
  have hmx : 1000 ≤ maxLen := by decide
  obtain ⟨vs, hV, hM⟩ := F_l22_Views_eq hs (by omega) hp1 (by omega)
  have P : Plan22 b m vs x := ⟨hs, hcode, hc, h.img, by rw [h.two]; omega, hM, by rw [h.xl, h.two], h.xv⟩
  have hpl := P.plan_eq
  obtain ⟨ha, hok, hlen⟩ := P.after
  have hN := planN_len b vs m.Entries x P.xlen
  have h2 := h.two
  obtain ⟨A0, A1, G0, G1, s1, s2, s3⟩ := moves_step P h2 k i (planN b vs m.Entries x) (j := 0) (.inl rfl) (l0 := l0) (l1 := l1) (f0 := f0) (f1 := f1) h.m0
  obtain ⟨q1, q2⟩ := s3 1 (by omega) (by show (1 : Nat) ≠ 0; omega)
  have q1' : A1 = l1 := q1
  have q2' : G1 = f1 := q2
  subst q1' q2'
  obtain ⟨B0, B1, H0, H1, t1, t2, t3⟩ := moves_step P h2 k i (planN b vs m.Entries x) (j := 1) (.inr rfl) (l0 := A0) (l1 := A1) (f0 := G0) (f1 := G1) h.m1
  obtain ⟨r1, r2⟩ := t3 0 (by omega) (by show (0 : Nat) ≠ 1; omega)
  have r1' : B0 = A0 := r1
  have r2' : H0 = G0 := r2
  subst r1' r2'
  have hlp : L_l22_AssignMoves_2 ((k, (), (), (), (), i, vs, planN b vs m.Entries x, (), (0 : Int), ()), (b.tup, m.tup, (l0, A1, ()), (f0, G1, ()), (m.put (decL b vs m.Entries x)).tup, ())) = some (.inl ((k, (), (), (), (), i, planN b vs m.Entries x, (), ()), (b.tup, m.tup, (B0, B1, ()), (H0, H1, ()), (m.put (decL b vs m.Entries x)).tup, ()))) := by
    refine iter_fuel (f := 3) ?_ (by omega)
    refine (iter_inl s1).trans ?_
    refine (iter_inl t1).trans ?_
    exact iter_inr rfl
  refine ⟨m.put (decL b vs m.Entries x), planN b vs m.Entries x, B0, B1, H0, H1, ⟨hok, by rw [put_entries, hlen, h2], by rw [hN, h2], ?_, s2, t2⟩, ?_⟩
  · have nx : ∀ j : Nat, j < 2 → 0 ≤ (planN b vs m.Entries x).getD j 0 ∧ (planN b vs m.Entries x).getD j 0 ≤ 1000000 := fun j hj => by
      rw [planN_getD b vs m.Entries x j P.xlen (by omega)]
      obtain ⟨_, k2, _⟩ := P.ent (show j < m.Entries.length by omega)
      exact P.next k2 (h.xv _ (getD_mem 0 (by rw [h.xl]; exact hj)))
    exact mem_of_two (by rw [hN, h2]) (nx 0 (by omega)) (nx 1 (by omega))
  · unfold Bldg.tup at hlp hp3
    unfold Img.tup at hlp hp3 ha
    have wi : IntKind.i64.wrap (i + 1) = i + 1 := wrap_small (by omega) (by omega)
    unfold R_l22_AssignMoves_0
    rw [decide_eq_true hi.2, cond_true, hp3]
    simp only [Option.bind_some, hV, hpl, ha, bne_self_eq_false, cond_false, Bool.not_true, hN, hlen, h2, put_entries, show ((2 : Nat) : Int) = 2 from rfl]
    rw [put_entries] at hlp
    rw [hlp]
    simp only [Option.bind_some, wi]
    rfl
theorem moves_loop {m : Img} {x : List Int} {l0 l1 f0 f1 : Int} (h : MvI b m x l0 l1 f0 f1) : L_l22_AssignMoves_0 ((k, (), (), x, (), (), (0 : Int), ()), (b.tup, m.tup, (l0, l1, ()), (f0, f1, ()), ())) = some (.inl ((), ())) := by
  refine loop_of (fun s y => ∃ (i : Int) (m : Img) (x : List Int) (l0 l1 f0 f1 : Int), 0 ≤ i ∧ i ≤ 40 ∧ MvI b m x l0 l1 f0 f1 ∧ s = ((k, (), (), x, (), (), i, ()), (b.tup, m.tup, (l0, l1, ()), (f0, f1, ()), ())) ∧ y = .inl ((), ())) (fun s => (40 - s.1.2.2.2.2.2.2.1).toNat) ?_ ⟨0, m, x, l0, l1, f0, f1, by omega, by omega, h, rfl, rfl⟩ (by show (40 - (0 : Int)).toNat < _; omega)
  rintro _ _ ⟨i, m, x, l0, l1, f0, f1, h1, h2, hI, rfl, rfl⟩
  show (∃ x', R_l22_AssignMoves_0 k x i b.Floors b.Debounce b.Room b.Park b.Empty b.Full b.Over b.Cars m.Phases m.Flags m.Leaving m.Entries l0 l1 f0 f1 = _ ∧ _) ∨ R_l22_AssignMoves_0 k x i b.Floors b.Debounce b.Room b.Park b.Empty b.Full b.Over b.Cars m.Phases m.Flags m.Leaving m.Entries l0 l1 f0 f1 = _
  by_cases g : i < 40
  · obtain ⟨m', x', l0', l1', f0', f1', q1, q2⟩ := moves_round hs hcode hc hk hI ⟨h1, g⟩
    exact .inl ⟨_, q2, ⟨i + 1, m', x', l0', l1', f0', f1', by omega, by omega, q1, rfl, rfl⟩, by show (40 - (i + 1)).toNat < (40 - i).toNat; omega⟩
  · unfold R_l22_AssignMoves_0
    rw [decide_eq_false g]
    exact .inr rfl
end
theorem law_AssignMoves (n : Int) (l : List (Int)) (k : List (Int)) (h_n : 0 ≤ n ∧ n < 256) (_h_l : l.length ≤ maxLen ∧ ∀ e ∈ l, (0 ≤ e ∧ e < 256)) (h_k : k.length ≤ maxLen ∧ ∀ e ∈ k, (0 ≤ e ∧ e < 256)) : F_l22_AssignMoves n l k = some ((true, ()), ()) := by
  obtain ⟨fl, ca, h1, h2, h3, h4, hB⟩ := F_l10_Building_eq h_n (room := 200) (by omega)
  have hs : (bld10 fl ca 200).small := ⟨by show (2 : Int) ≤ (fl : Int); omega, by show (fl : Int) ≤ 8; omega⟩
  have hc : (bld10 fl ca 200).Cars.length = ca := by simp [bld10, sample]
  have hcode : (bld10 fl ca 200).code = 0 := bld10_code h1 h2 h3 h4 (by omega)
  have hflo : (bld10 fl ca 200).Floors = (fl : Int) := rfl
  generalize bld10 fl ca 200 = b at *
  have hI := r10_Initial_eq (b := b) hcode (by omega)
  have e1 : entOK b (Entry.mk 0 1 (-1) 0 false) = true := by
    unfold entOK isCallV callB inR
    rw [hcode, hflo, hc]
    simp; omega
  have e2 : entOK b (Entry.mk 1 2 (-1) 0 false) = true := by
    unfold entOK isCallV callB inR
    rw [hcode, hflo, hc]
    simp; omega
  have h0 := initV_ok hcode
  have hOK : ImgOK b ((initV b).put [Entry.mk 0 1 (-1) 0 false, Entry.mk 1 2 (-1) 0 false]) := by
    refine ⟨hcode, h0.lp, h0.lf, h0.ll, h0.ph, fun e he => ?_, ?_⟩
    · simp only [put_entries, List.mem_cons, List.not_mem_nil, or_false] at he
      rcases he with rfl | rfl
      · exact e1
      · exact e2
    · rw [sorted_iff, put_entries]
      simp [lessE]
  have hl := moves_loop hs hcode (by omega) h_k.1 (m := (initV b).put [Entry.mk 0 1 (-1) 0 false, Entry.mk 1 2 (-1) 0 false]) (x := [0, 0]) (l0 := 0) (l1 := 0) (f0 := 0) (f1 := 0) ⟨hOK, rfl, rfl, fun e he => by simp at he; omega, ⟨by omega, by omega, by omega, rfl, rfl, by show (0 : Int) ≤ _; omega⟩, ⟨by omega, by omega, by omega, rfl, rfl, by show (0 : Int) ≤ _; omega⟩⟩
  unfold F_l22_AssignMoves
  unfold Bldg.tup at hl hB
  unfold Img.tup at hl
  rw [put_entries] at hl
  simp only [hB, hI, Option.bind_some, Img.tup]
  have hl' : L_l22_AssignMoves_0 ((k, (), (), [(0 : Int), (0 : Int)], (), (), (0 : Int), ()), (b.Floors, b.Debounce, b.Room, b.Park, b.Empty, b.Full, b.Over, b.Cars, ()), ((initV b).Phases, (initV b).Flags, (initV b).Leaving, [Entry.mk 0 1 (-1) 0 false, Entry.mk 1 2 (-1) 0 false], ()), (0, 0, ()), (0, 0, ()), ()) = _ := hl
  rw [hl']
  simp only [Option.bind_some, l22_sane]
end Go.Ovl
