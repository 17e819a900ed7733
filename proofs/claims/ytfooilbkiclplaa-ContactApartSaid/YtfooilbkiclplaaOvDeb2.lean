/- Debounced contacts (layer 4): runs; the program and the reference do the same. -/
import Derived.Test.YtfooilbkiclplaaOvDeb
namespace Go.Ovl
open Go Go.Ab
set_option maxRecDepth 100000
/-- What counts behind each reading. -/
def Deb.runs (n : Int) : Deb → List Contacts → List Contacts
  | _, [] => []
  | s, r :: t => (s.step n r).c :: Deb.runs n (s.step n r) t
/-- The last state. -/
def Deb.last (n : Int) (s : Deb) (l : List Contacts) : Deb := l.foldl (Deb.step n) s
theorem runs_len (n : Int) : ∀ (l : List Contacts) (s : Deb), (Deb.runs n s l).length = l.length
  | [], _ => rfl
  | r :: t, s => by simp [Deb.runs, runs_len n t]
theorem last_wf {n : Int} : ∀ (l : List Contacts) (s : Deb), s.wf → s.is n → (s.last n l).wf ∧ (s.last n l).is n
  | [], _, h, hs => ⟨h, hs⟩
  | r :: t, s, h, hs => last_wf t (s.step n r) (step_wf h hs r).1 (step_wf h hs r).2
noncomputable instance (n : Int) (s : Deb) : Decidable (s.is n) := Classical.propDecidable _
def Deb.rng (n : Int) (s : Deb) : Prop := ∀ j, j < 36 → 0 ≤ s.k.getD j 0 ∧ s.k.getD j 0 < n
noncomputable instance (n : Int) (s : Deb) : Decidable (s.rng n) := Classical.propDecidable _
theorem is_iff {n : Int} {s : Deb} : s.is n ↔ 1 ≤ n ∧ n ≤ 16 ∧ s.rng n := Iff.rfl
theorem drop_cons {l : List Contacts} {i : Nat} (h : i < l.length) : l.drop i = l.getD i ⟨0, false, false, false, false⟩ :: l.drop (i + 1) := by
  rw [List.drop_eq_getElem_cons h]; simp [h]
theorem getD_wf {l : List Contacts} (hl : ∀ e ∈ l, e.wf) {i : Nat} (h : i < l.length) : (l.getD i ⟨0, false, false, false, false⟩).wf := by
  simp only [List.getD_eq_getElem?_getD, List.getElem?_eq_getElem h, Option.getD_some]
  exact hl _ (List.getElem_mem h)

theorem contact_sloop {n : Int} {s : Deb} (h : s.wf) (hs : s.is n) {r : Contacts} (hr : r.wf) :
    L_contact_step_0 ((n, (), (), (), (0 : Int), ()), (s.tup, r.tup, Deb.no.tup, ())) = some (((), (), ()), ((s.step n r).tup, Deb.no.tup, ())) := by
  unfold L_contact_step_0
  refine iter_fuel (iter_range 36 (fun (i : Nat) (s : Deb) => ((n, (), (), (), (i : Int), ()), (s.tup, r.tup, Deb.no.tup, ()))) (Deb.at n r) (fun _ s => s.wf ∧ s.is n) (fun s => (((), (), ()), (s.tup, Deb.no.tup, ()))) (fun i s hi hin => ⟨contact_round hin.1 hin.2 hr Deb.no hi, at_wf hin.1 hin.2 hi⟩) (fun s hin => ?_) 36 0 s rfl ⟨h, hs⟩).1 (by omega)
  show R_contact_step_0 n ((36 : Nat) : Int) s.c.Floors s.c.Up s.c.Down s.c.Open s.c.Closed (s.k.getD 0 0) (s.k.getD 1 0) (s.k.getD 2 0) (s.k.getD 3 0) (s.k.getD 4 0) (s.k.getD 5 0) (s.k.getD 6 0) (s.k.getD 7 0) (s.k.getD 8 0) (s.k.getD 9 0) (s.k.getD 10 0) (s.k.getD 11 0) (s.k.getD 12 0) (s.k.getD 13 0) (s.k.getD 14 0) (s.k.getD 15 0) (s.k.getD 16 0) (s.k.getD 17 0) (s.k.getD 18 0) (s.k.getD 19 0) (s.k.getD 20 0) (s.k.getD 21 0) (s.k.getD 22 0) (s.k.getD 23 0) (s.k.getD 24 0) (s.k.getD 25 0) (s.k.getD 26 0) (s.k.getD 27 0) (s.k.getD 28 0) (s.k.getD 29 0) (s.k.getD 30 0) (s.k.getD 31 0) (s.k.getD 32 0) (s.k.getD 33 0) (s.k.getD 34 0) (s.k.getD 35 0) r.Floors r.Up r.Down r.Open r.Closed Deb.no.c.Floors Deb.no.c.Up Deb.no.c.Down Deb.no.c.Open Deb.no.c.Closed (Deb.no.k.getD 0 0) (Deb.no.k.getD 1 0) (Deb.no.k.getD 2 0) (Deb.no.k.getD 3 0) (Deb.no.k.getD 4 0) (Deb.no.k.getD 5 0) (Deb.no.k.getD 6 0) (Deb.no.k.getD 7 0) (Deb.no.k.getD 8 0) (Deb.no.k.getD 9 0) (Deb.no.k.getD 10 0) (Deb.no.k.getD 11 0) (Deb.no.k.getD 12 0) (Deb.no.k.getD 13 0) (Deb.no.k.getD 14 0) (Deb.no.k.getD 15 0) (Deb.no.k.getD 16 0) (Deb.no.k.getD 17 0) (Deb.no.k.getD 18 0) (Deb.no.k.getD 19 0) (Deb.no.k.getD 20 0) (Deb.no.k.getD 21 0) (Deb.no.k.getD 22 0) (Deb.no.k.getD 23 0) (Deb.no.k.getD 24 0) (Deb.no.k.getD 25 0) (Deb.no.k.getD 26 0) (Deb.no.k.getD 27 0) (Deb.no.k.getD 28 0) (Deb.no.k.getD 29 0) (Deb.no.k.getD 30 0) (Deb.no.k.getD 31 0) (Deb.no.k.getD 32 0) (Deb.no.k.getD 33 0) (Deb.no.k.getD 34 0) (Deb.no.k.getD 35 0) = _
  unfold R_contact_step_0
  have e : decide (((36 : Nat) : Int) < 36) = false := rfl
  rw [e]; rfl

theorem contact_iloop {n : Int} {s : Deb} (hl : s.k.length = 36) : L_contact_IsState_0 ((n, s.cnt, (0 : Int), ()), ()) = some (if s.rng n then .inl ((), ()) else .inr ((false, ()), ())) := by
  unfold L_contact_IsState_0
  have key : ∀ (step : _ → _), (∀ i : Nat, step ((n, s.cnt, (i : Int), ()), ()) = R_contact_IsState_0 n (s.k.getD 0 0) (s.k.getD 1 0) (s.k.getD 2 0) (s.k.getD 3 0) (s.k.getD 4 0) (s.k.getD 5 0) (s.k.getD 6 0) (s.k.getD 7 0) (s.k.getD 8 0) (s.k.getD 9 0) (s.k.getD 10 0) (s.k.getD 11 0) (s.k.getD 12 0) (s.k.getD 13 0) (s.k.getD 14 0) (s.k.getD 15 0) (s.k.getD 16 0) (s.k.getD 17 0) (s.k.getD 18 0) (s.k.getD 19 0) (s.k.getD 20 0) (s.k.getD 21 0) (s.k.getD 22 0) (s.k.getD 23 0) (s.k.getD 24 0) (s.k.getD 25 0) (s.k.getD 26 0) (s.k.getD 27 0) (s.k.getD 28 0) (s.k.getD 29 0) (s.k.getD 30 0) (s.k.getD 31 0) (s.k.getD 32 0) (s.k.getD 33 0) (s.k.getD 34 0) (s.k.getD 35 0) (i : Int)) → ∀ (m i : Nat), i + m = 36 → (∀ j, j < i → 0 ≤ s.k.getD j 0 ∧ s.k.getD j 0 < n) → iter step (m + 1) ((n, s.cnt, (i : Int), ()), ()) = some (if s.rng n then Sum.inl ((), ()) else Sum.inr ((false, ()), ())) := by
    intro step hstep m
    induction m with
    | zero =>
      intro i hi hj
      have : i = 36 := by omega
      subst this
      rw [if_pos (show s.rng n from hj)]
      refine iter_inr ?_
      rw [hstep]
      unfold R_contact_IsState_0
      have e : decide (((36 : Nat) : Int) < 36) = false := rfl
      rw [e]; rfl
    | succ m ih =>
      intro i hi hj
      have e0 : decide ((i : Int) < 36) = true := by simp; omega
      have ib : inB (i : Int) 36 = true := inB_true (by omega) (by omega)
      have tn : Int.toNat (i : Int) = i := by omega
      have w : IntKind.i64.wrap ((i : Int) + 1) = ((i + 1 : Nat) : Int) := by rw [wrap_small (by omega) (by omega)]; omega
      by_cases h1 : s.k.getD i 0 < 0
      · rw [if_neg (show ¬ s.rng n from fun hall => by have := (hall i (by omega)).1; omega)]
        refine iter_inr ?_
        rw [hstep]
        unfold R_contact_IsState_0
        have e1 : decide (s.k.getD i 0 < 0) = true := by simpa using h1
        simp only [e0, ib, tn, list36 hl, e1, cond_true]
      · have e1 : decide (s.k.getD i 0 < 0) = false := by simpa using h1
        by_cases h2 : n ≤ s.k.getD i 0
        · rw [if_neg (show ¬ s.rng n from fun hall => by have := (hall i (by omega)).2; omega)]
          refine iter_inr ?_
          rw [hstep]
          unfold R_contact_IsState_0
          have e2 : decide (n ≤ s.k.getD i 0) = true := by simpa using h2
          simp only [e0, ib, tn, list36 hl, e1, e2, cond_true, cond_false]
        · have e2 : decide (n ≤ s.k.getD i 0) = false := by simpa using h2
          have st : step ((n, s.cnt, (i : Int), ()), ()) = some (.inl ((n, s.cnt, ((i + 1 : Nat) : Int), ()), ())) := by
            rw [hstep]
            unfold R_contact_IsState_0
            simp only [e0, ib, tn, list36 hl, e1, e2, cond_true, cond_false, w]
            rfl
          rw [iter_inl st]
          exact ih (i + 1) (by omega) fun j hj' => if e : j = i then by subst e; omega else hj j (by omega)
  exact iter_fuel (key _ (fun _ => rfl) 36 0 rfl (fun j hj => by omega)) (by omega)
theorem F_contact_IsState_eq {n : Int} {s : Deb} (hl : s.k.length = 36) : F_contact_IsState n s.c.Floors s.c.Up s.c.Down s.c.Open s.c.Closed (s.k.getD 0 0) (s.k.getD 1 0) (s.k.getD 2 0) (s.k.getD 3 0) (s.k.getD 4 0) (s.k.getD 5 0) (s.k.getD 6 0) (s.k.getD 7 0) (s.k.getD 8 0) (s.k.getD 9 0) (s.k.getD 10 0) (s.k.getD 11 0) (s.k.getD 12 0) (s.k.getD 13 0) (s.k.getD 14 0) (s.k.getD 15 0) (s.k.getD 16 0) (s.k.getD 17 0) (s.k.getD 18 0) (s.k.getD 19 0) (s.k.getD 20 0) (s.k.getD 21 0) (s.k.getD 22 0) (s.k.getD 23 0) (s.k.getD 24 0) (s.k.getD 25 0) (s.k.getD 26 0) (s.k.getD 27 0) (s.k.getD 28 0) (s.k.getD 29 0) (s.k.getD 30 0) (s.k.getD 31 0) (s.k.getD 32 0) (s.k.getD 33 0) (s.k.getD 34 0) (s.k.getD 35 0) = some ((decide (s.is n), ()), ()) := by
  unfold F_contact_IsState
  by_cases h1 : n < 1
  · have : ¬ s.is n := fun h => by have := h.1; omega
    simp [h1, this]
  · have h1' : 1 ≤ n := by omega
    by_cases h2 : 16 < n
    · have : ¬ s.is n := fun h => by have := h.2.1; omega
      simp [h1, h2, this]
    · have h2' : n ≤ 16 := by omega
      have hl' := contact_iloop (n := n) hl
      simp only [Deb.cnt] at hl'
      have e1 : decide (n < 1) = false := by simpa using h1
      have e2 : decide (16 < n) = false := by simpa using h2
      simp only [e1, e2, cond_false, hl', Option.bind_some]
      by_cases h3 : s.rng n
      · rw [if_pos h3, decide_eq_true (is_iff.2 ⟨h1', h2', h3⟩)]
      · rw [if_neg h3, decide_eq_false fun h => h3 (is_iff.1 h).2.2]

theorem r04_sloop {n : Int} {s : Deb} (h : s.wf) (hs : s.is n) {r : Contacts} (hr : r.wf) :
    L_r04_Step_0 ((n, (), (), (), (0 : Int), ()), (s.tup, r.tup, Deb.no.tup, ())) = some (((), (), ()), ((s.step n r).tup, Deb.no.tup, ())) := by
  unfold L_r04_Step_0
  refine iter_fuel (iter_range 36 (fun (i : Nat) (s : Deb) => ((n, (), (), (), (i : Int), ()), (s.tup, r.tup, Deb.no.tup, ()))) (Deb.at n r) (fun _ s => s.wf ∧ s.is n) (fun s => (((), (), ()), (s.tup, Deb.no.tup, ()))) (fun i s hi hin => ⟨r04_round hin.1 hin.2 hr Deb.no hi, at_wf hin.1 hin.2 hi⟩) (fun s hin => ?_) 36 0 s rfl ⟨h, hs⟩).1 (by omega)
  show R_r04_Step_0 n ((36 : Nat) : Int) s.c.Floors s.c.Up s.c.Down s.c.Open s.c.Closed (s.k.getD 0 0) (s.k.getD 1 0) (s.k.getD 2 0) (s.k.getD 3 0) (s.k.getD 4 0) (s.k.getD 5 0) (s.k.getD 6 0) (s.k.getD 7 0) (s.k.getD 8 0) (s.k.getD 9 0) (s.k.getD 10 0) (s.k.getD 11 0) (s.k.getD 12 0) (s.k.getD 13 0) (s.k.getD 14 0) (s.k.getD 15 0) (s.k.getD 16 0) (s.k.getD 17 0) (s.k.getD 18 0) (s.k.getD 19 0) (s.k.getD 20 0) (s.k.getD 21 0) (s.k.getD 22 0) (s.k.getD 23 0) (s.k.getD 24 0) (s.k.getD 25 0) (s.k.getD 26 0) (s.k.getD 27 0) (s.k.getD 28 0) (s.k.getD 29 0) (s.k.getD 30 0) (s.k.getD 31 0) (s.k.getD 32 0) (s.k.getD 33 0) (s.k.getD 34 0) (s.k.getD 35 0) r.Floors r.Up r.Down r.Open r.Closed Deb.no.c.Floors Deb.no.c.Up Deb.no.c.Down Deb.no.c.Open Deb.no.c.Closed (Deb.no.k.getD 0 0) (Deb.no.k.getD 1 0) (Deb.no.k.getD 2 0) (Deb.no.k.getD 3 0) (Deb.no.k.getD 4 0) (Deb.no.k.getD 5 0) (Deb.no.k.getD 6 0) (Deb.no.k.getD 7 0) (Deb.no.k.getD 8 0) (Deb.no.k.getD 9 0) (Deb.no.k.getD 10 0) (Deb.no.k.getD 11 0) (Deb.no.k.getD 12 0) (Deb.no.k.getD 13 0) (Deb.no.k.getD 14 0) (Deb.no.k.getD 15 0) (Deb.no.k.getD 16 0) (Deb.no.k.getD 17 0) (Deb.no.k.getD 18 0) (Deb.no.k.getD 19 0) (Deb.no.k.getD 20 0) (Deb.no.k.getD 21 0) (Deb.no.k.getD 22 0) (Deb.no.k.getD 23 0) (Deb.no.k.getD 24 0) (Deb.no.k.getD 25 0) (Deb.no.k.getD 26 0) (Deb.no.k.getD 27 0) (Deb.no.k.getD 28 0) (Deb.no.k.getD 29 0) (Deb.no.k.getD 30 0) (Deb.no.k.getD 31 0) (Deb.no.k.getD 32 0) (Deb.no.k.getD 33 0) (Deb.no.k.getD 34 0) (Deb.no.k.getD 35 0) = _
  unfold R_r04_Step_0
  have e : decide (((36 : Nat) : Int) < 36) = false := rfl
  rw [e]; rfl

theorem r04_iloop {n : Int} {s : Deb} (hl : s.k.length = 36) : L_r04_IsState_0 ((n, (), (0 : Int), ()), (s.tup, ())) = some (if s.rng n then .inl ((), ()) else .inr ((false, ()), ())) := by
  unfold L_r04_IsState_0
  have key : ∀ (step : _ → _), (∀ i : Nat, step ((n, (), (i : Int), ()), (s.tup, ())) = R_r04_IsState_0 n (i : Int) s.c.Floors s.c.Up s.c.Down s.c.Open s.c.Closed (s.k.getD 0 0) (s.k.getD 1 0) (s.k.getD 2 0) (s.k.getD 3 0) (s.k.getD 4 0) (s.k.getD 5 0) (s.k.getD 6 0) (s.k.getD 7 0) (s.k.getD 8 0) (s.k.getD 9 0) (s.k.getD 10 0) (s.k.getD 11 0) (s.k.getD 12 0) (s.k.getD 13 0) (s.k.getD 14 0) (s.k.getD 15 0) (s.k.getD 16 0) (s.k.getD 17 0) (s.k.getD 18 0) (s.k.getD 19 0) (s.k.getD 20 0) (s.k.getD 21 0) (s.k.getD 22 0) (s.k.getD 23 0) (s.k.getD 24 0) (s.k.getD 25 0) (s.k.getD 26 0) (s.k.getD 27 0) (s.k.getD 28 0) (s.k.getD 29 0) (s.k.getD 30 0) (s.k.getD 31 0) (s.k.getD 32 0) (s.k.getD 33 0) (s.k.getD 34 0) (s.k.getD 35 0)) → ∀ (m i : Nat), i + m = 36 → (∀ j, j < i → 0 ≤ s.k.getD j 0 ∧ s.k.getD j 0 < n) → iter step (m + 1) ((n, (), (i : Int), ()), (s.tup, ())) = some (if s.rng n then Sum.inl ((), ()) else Sum.inr ((false, ()), ())) := by
    intro step hstep m
    induction m with
    | zero =>
      intro i hi hj
      have : i = 36 := by omega
      subst this
      rw [if_pos (show s.rng n from hj)]
      refine iter_inr ?_
      rw [hstep]
      unfold R_r04_IsState_0
      have e : decide (((36 : Nat) : Int) < 36) = false := rfl
      rw [e]; rfl
    | succ m ih =>
      intro i hi hj
      have e0 : decide ((i : Int) < 36) = true := by simp; omega
      have ib : inB (i : Int) 36 = true := inB_true (by omega) (by omega)
      have tn : Int.toNat (i : Int) = i := by omega
      have w : IntKind.i64.wrap ((i : Int) + 1) = ((i + 1 : Nat) : Int) := by rw [wrap_small (by omega) (by omega)]; omega
      by_cases h1 : s.k.getD i 0 < 0
      · rw [if_neg (show ¬ s.rng n from fun hall => by have := (hall i (by omega)).1; omega)]
        refine iter_inr ?_
        rw [hstep]
        unfold R_r04_IsState_0
        have e1 : decide (s.k.getD i 0 < 0) = true := by simpa using h1
        simp only [e0, ib, tn, list36 hl, e1, cond_true]
      · have e1 : decide (s.k.getD i 0 < 0) = false := by simpa using h1
        by_cases h2 : n ≤ s.k.getD i 0
        · rw [if_neg (show ¬ s.rng n from fun hall => by have := (hall i (by omega)).2; omega)]
          refine iter_inr ?_
          rw [hstep]
          unfold R_r04_IsState_0
          have e2 : decide (n ≤ s.k.getD i 0) = true := by simpa using h2
          simp only [e0, ib, tn, list36 hl, e1, e2, cond_true, cond_false]
        · have e2 : decide (n ≤ s.k.getD i 0) = false := by simpa using h2
          have st : step ((n, (), (i : Int), ()), (s.tup, ())) = some (.inl ((n, (), ((i + 1 : Nat) : Int), ()), (s.tup, ()))) := by
            rw [hstep]
            unfold R_r04_IsState_0
            simp only [e0, ib, tn, list36 hl, e1, e2, cond_true, cond_false, w]
            rfl
          rw [iter_inl st]
          exact ih (i + 1) (by omega) fun j hj' => if e : j = i then by subst e; omega else hj j (by omega)
  exact iter_fuel (key _ (fun _ => rfl) 36 0 rfl (fun j hj => by omega)) (by omega)
theorem F_r04_IsState_eq {n : Int} {s : Deb} (hl : s.k.length = 36) : F_r04_IsState n s.c.Floors s.c.Up s.c.Down s.c.Open s.c.Closed (s.k.getD 0 0) (s.k.getD 1 0) (s.k.getD 2 0) (s.k.getD 3 0) (s.k.getD 4 0) (s.k.getD 5 0) (s.k.getD 6 0) (s.k.getD 7 0) (s.k.getD 8 0) (s.k.getD 9 0) (s.k.getD 10 0) (s.k.getD 11 0) (s.k.getD 12 0) (s.k.getD 13 0) (s.k.getD 14 0) (s.k.getD 15 0) (s.k.getD 16 0) (s.k.getD 17 0) (s.k.getD 18 0) (s.k.getD 19 0) (s.k.getD 20 0) (s.k.getD 21 0) (s.k.getD 22 0) (s.k.getD 23 0) (s.k.getD 24 0) (s.k.getD 25 0) (s.k.getD 26 0) (s.k.getD 27 0) (s.k.getD 28 0) (s.k.getD 29 0) (s.k.getD 30 0) (s.k.getD 31 0) (s.k.getD 32 0) (s.k.getD 33 0) (s.k.getD 34 0) (s.k.getD 35 0) = some ((decide (s.is n), ()), ()) := by
  unfold F_r04_IsState
  by_cases h1 : n < 1
  · have : ¬ s.is n := fun h => by have := h.1; omega
    simp [h1, this]
  · have h1' : 1 ≤ n := by omega
    by_cases h2 : 16 < n
    · have : ¬ s.is n := fun h => by have := h.2.1; omega
      simp [h1, h2, this]
    · have h2' : n ≤ 16 := by omega
      have hl' := r04_iloop (n := n) hl
      simp only [Deb.tup] at hl'
      have e1 : decide (n < 1) = false := by simpa using h1
      have e2 : decide (16 < n) = false := by simpa using h2
      simp only [e1, e2, cond_false, hl', Option.bind_some]
      by_cases h3 : s.rng n
      · rw [if_pos h3, decide_eq_true (is_iff.2 ⟨h1', h2', h3⟩)]
      · rw [if_neg h3, decide_eq_false fun h => h3 (is_iff.1 h).2.2]

theorem F_contact_step_eq {n : Int} {s : Deb} (h : s.wf) (hs : s.is n) {r : Contacts} (hr : r.wf) : F_contact_step n s.c.Floors s.c.Up s.c.Down s.c.Open s.c.Closed (s.k.getD 0 0) (s.k.getD 1 0) (s.k.getD 2 0) (s.k.getD 3 0) (s.k.getD 4 0) (s.k.getD 5 0) (s.k.getD 6 0) (s.k.getD 7 0) (s.k.getD 8 0) (s.k.getD 9 0) (s.k.getD 10 0) (s.k.getD 11 0) (s.k.getD 12 0) (s.k.getD 13 0) (s.k.getD 14 0) (s.k.getD 15 0) (s.k.getD 16 0) (s.k.getD 17 0) (s.k.getD 18 0) (s.k.getD 19 0) (s.k.getD 20 0) (s.k.getD 21 0) (s.k.getD 22 0) (s.k.getD 23 0) (s.k.getD 24 0) (s.k.getD 25 0) (s.k.getD 26 0) (s.k.getD 27 0) (s.k.getD 28 0) (s.k.getD 29 0) (s.k.getD 30 0) (s.k.getD 31 0) (s.k.getD 32 0) (s.k.getD 33 0) (s.k.getD 34 0) (s.k.getD 35 0) r.Floors r.Up r.Down r.Open r.Closed = some (((), ()), ((s.step n r).tup, ())) := by
  have hl := contact_sloop h hs hr
  unfold F_contact_step
  show (L_contact_step_0 ((n, (), (), (), (0 : Int), ()), (s.tup, r.tup, Deb.no.tup, ()))).bind _ = _
  rw [hl]; rfl
theorem F_contact_Step_eq {n : Int} {s : Deb} (h : s.k.length = 36) (hc : s.c.wf) {r : Contacts} (hr : r.wf) :
    F_contact_Step n s.c.Floors s.c.Up s.c.Down s.c.Open s.c.Closed (s.k.getD 0 0) (s.k.getD 1 0) (s.k.getD 2 0) (s.k.getD 3 0) (s.k.getD 4 0) (s.k.getD 5 0) (s.k.getD 6 0) (s.k.getD 7 0) (s.k.getD 8 0) (s.k.getD 9 0) (s.k.getD 10 0) (s.k.getD 11 0) (s.k.getD 12 0) (s.k.getD 13 0) (s.k.getD 14 0) (s.k.getD 15 0) (s.k.getD 16 0) (s.k.getD 17 0) (s.k.getD 18 0) (s.k.getD 19 0) (s.k.getD 20 0) (s.k.getD 21 0) (s.k.getD 22 0) (s.k.getD 23 0) (s.k.getD 24 0) (s.k.getD 25 0) (s.k.getD 26 0) (s.k.getD 27 0) (s.k.getD 28 0) (s.k.getD 29 0) (s.k.getD 30 0) (s.k.getD 31 0) (s.k.getD 32 0) (s.k.getD 33 0) (s.k.getD 34 0) (s.k.getD 35 0) r.Floors r.Up r.Down r.Open r.Closed = if s.is n then some (((), (0 : Int), ()), ((s.step n r).tup, ())) else some (((), (1 : Int), ()), (Deb.no.tup, ())) := by
  unfold F_contact_Step
  rw [F_contact_IsState_eq h]
  by_cases hs : s.is n
  · have hw : s.wf := ⟨hc, h, fun j hj => (hs.2.2 j hj).1, fun j hj => by have := (hs.2.2 j hj).2; have := hs.2.1; omega⟩
    simp only [hs, decide_true, Option.bind_some, Bool.not_true, cond_false, if_true]
    rw [F_contact_step_eq hw hs hr]; rfl
  · simp only [hs, decide_false, Option.bind_some, Bool.not_false, cond_true, if_false]
    rfl
theorem F_r04_Step_eq {n : Int} {s : Deb} (h : s.k.length = 36) (hc : s.c.wf) {r : Contacts} (hr : r.wf) :
    F_r04_Step n s.c.Floors s.c.Up s.c.Down s.c.Open s.c.Closed (s.k.getD 0 0) (s.k.getD 1 0) (s.k.getD 2 0) (s.k.getD 3 0) (s.k.getD 4 0) (s.k.getD 5 0) (s.k.getD 6 0) (s.k.getD 7 0) (s.k.getD 8 0) (s.k.getD 9 0) (s.k.getD 10 0) (s.k.getD 11 0) (s.k.getD 12 0) (s.k.getD 13 0) (s.k.getD 14 0) (s.k.getD 15 0) (s.k.getD 16 0) (s.k.getD 17 0) (s.k.getD 18 0) (s.k.getD 19 0) (s.k.getD 20 0) (s.k.getD 21 0) (s.k.getD 22 0) (s.k.getD 23 0) (s.k.getD 24 0) (s.k.getD 25 0) (s.k.getD 26 0) (s.k.getD 27 0) (s.k.getD 28 0) (s.k.getD 29 0) (s.k.getD 30 0) (s.k.getD 31 0) (s.k.getD 32 0) (s.k.getD 33 0) (s.k.getD 34 0) (s.k.getD 35 0) r.Floors r.Up r.Down r.Open r.Closed = if s.is n then some (((), (0 : Int), ()), ((s.step n r).tup, ())) else some (((), (1 : Int), ()), (Deb.no.tup, ())) := by
  unfold F_r04_Step
  rw [F_r04_IsState_eq h]
  by_cases hs : s.is n
  · have hw : s.wf := ⟨hc, h, fun j hj => (hs.2.2 j hj).1, fun j hj => by have := (hs.2.2 j hj).2; have := hs.2.1; omega⟩
    simp only [hs, decide_true, Option.bind_some, Bool.not_true, cond_false, if_true]
    have hl := r04_sloop hw hs hr
    show (L_r04_Step_0 ((n, (), (), (), (0 : Int), ()), (s.tup, r.tup, Deb.no.tup, ()))).bind _ = _
    rw [hl]; rfl
  · simp only [hs, decide_false, Option.bind_some, Bool.not_false, cond_true, if_false]
    rfl

theorem contact_runloop {n : Int} {l : List Contacts} (hl : ∀ e ∈ l, e.wf) (hlen : l.length ≤ 5000) : ∀ (m i : Nat) (s : Deb) (out : List Contacts), i + m = l.length → out.length ≤ i → s.wf → s.is n →
    ∀ (step : _ → _), (∀ (i : Nat) (s : Deb) (out : List Contacts), step ((n, (), (), out, l, (l.length : Int), (i : Int), ()), (s.tup, Deb.no.tup, ())) = R_contact_Run_0 n out l (l.length : Int) (i : Int) s.c.Floors s.c.Up s.c.Down s.c.Open s.c.Closed (s.k.getD 0 0) (s.k.getD 1 0) (s.k.getD 2 0) (s.k.getD 3 0) (s.k.getD 4 0) (s.k.getD 5 0) (s.k.getD 6 0) (s.k.getD 7 0) (s.k.getD 8 0) (s.k.getD 9 0) (s.k.getD 10 0) (s.k.getD 11 0) (s.k.getD 12 0) (s.k.getD 13 0) (s.k.getD 14 0) (s.k.getD 15 0) (s.k.getD 16 0) (s.k.getD 17 0) (s.k.getD 18 0) (s.k.getD 19 0) (s.k.getD 20 0) (s.k.getD 21 0) (s.k.getD 22 0) (s.k.getD 23 0) (s.k.getD 24 0) (s.k.getD 25 0) (s.k.getD 26 0) (s.k.getD 27 0) (s.k.getD 28 0) (s.k.getD 29 0) (s.k.getD 30 0) (s.k.getD 31 0) (s.k.getD 32 0) (s.k.getD 33 0) (s.k.getD 34 0) (s.k.getD 35 0) Deb.no.c.Floors Deb.no.c.Up Deb.no.c.Down Deb.no.c.Open Deb.no.c.Closed (Deb.no.k.getD 0 0) (Deb.no.k.getD 1 0) (Deb.no.k.getD 2 0) (Deb.no.k.getD 3 0) (Deb.no.k.getD 4 0) (Deb.no.k.getD 5 0) (Deb.no.k.getD 6 0) (Deb.no.k.getD 7 0) (Deb.no.k.getD 8 0) (Deb.no.k.getD 9 0) (Deb.no.k.getD 10 0) (Deb.no.k.getD 11 0) (Deb.no.k.getD 12 0) (Deb.no.k.getD 13 0) (Deb.no.k.getD 14 0) (Deb.no.k.getD 15 0) (Deb.no.k.getD 16 0) (Deb.no.k.getD 17 0) (Deb.no.k.getD 18 0) (Deb.no.k.getD 19 0) (Deb.no.k.getD 20 0) (Deb.no.k.getD 21 0) (Deb.no.k.getD 22 0) (Deb.no.k.getD 23 0) (Deb.no.k.getD 24 0) (Deb.no.k.getD 25 0) (Deb.no.k.getD 26 0) (Deb.no.k.getD 27 0) (Deb.no.k.getD 28 0) (Deb.no.k.getD 29 0) (Deb.no.k.getD 30 0) (Deb.no.k.getD 31 0) (Deb.no.k.getD 32 0) (Deb.no.k.getD 33 0) (Deb.no.k.getD 34 0) (Deb.no.k.getD 35 0)) →
    iter step (m + 1) ((n, (), (), out, l, (l.length : Int), (i : Int), ()), (s.tup, Deb.no.tup, ())) = some (((), (), out ++ Deb.runs n s (l.drop i), ()), ((s.last n (l.drop i)).tup, Deb.no.tup, ()))
  | 0, i, s, out, hi, ho, hw, hs, step, hstep => by
    have : l.length = i := by omega
    have hd : l.drop i = [] := List.drop_eq_nil_of_le (by omega)
    refine iter_inr ?_
    rw [hstep, hd]
    unfold R_contact_Run_0
    have e : decide ((i : Int) < (l.length : Int)) = false := by simp; omega
    simp only [e, cond_false, Deb.runs, Deb.last, List.foldl_nil, List.append_nil]
    rfl
  | m + 1, i, s, out, hi, ho, hw, hs, step, hstep => by
    have hi' : i < l.length := by omega
    have st : step ((n, (), (), out, l, (l.length : Int), (i : Int), ()), (s.tup, Deb.no.tup, ())) = some (.inl ((n, (), (), (out ++ [(s.step n (l.getD i ⟨0, false, false, false, false⟩)).c]), l, (l.length : Int), ((i + 1 : Nat) : Int), ()), ((s.step n (l.getD i ⟨0, false, false, false, false⟩)).tup, Deb.no.tup, ()))) := by
      rw [hstep]
      unfold R_contact_Run_0
      have e : decide ((i : Int) < (l.length : Int)) = true := by simp; omega
      have ib : inB (i : Int) l.length = true := inB_true (by omega) (by omega)
      have tn : Int.toNat (i : Int) = i := by omega
      have w : IntKind.i64.wrap ((i : Int) + 1) = ((i + 1 : Nat) : Int) := by rw [wrap_small (by omega) (by omega)]; omega
      simp only [e, ib, tn, cond_true, w]
      rw [F_contact_step_eq hw hs (getD_wf hl hi')]
      have e2 : ∀ x : Contacts, Nat.ble (out.length + [x].length) 2147483648 = true := fun x => ble_true (by simp; omega)
      simp only [Option.bind_some, e2, cond_true]
      rfl
    have hsw := step_wf hw hs (l.getD i ⟨0, false, false, false, false⟩)
    rw [iter_inl st, contact_runloop hl hlen m (i + 1) _ _ (by omega) (by simp; omega) hsw.1 hsw.2 step hstep, drop_cons hi']
    simp only [Deb.runs, Deb.last, List.foldl_cons, List.append_assoc, List.cons_append, List.nil_append]
theorem F_contact_Run_eq {n : Int} {s : Deb} (h : s.k.length = 36) (hc : s.c.wf) {l : List Contacts} (hl : ∀ e ∈ l, e.wf) :
    F_contact_Run n s.c.Floors s.c.Up s.c.Down s.c.Open s.c.Closed (s.k.getD 0 0) (s.k.getD 1 0) (s.k.getD 2 0) (s.k.getD 3 0) (s.k.getD 4 0) (s.k.getD 5 0) (s.k.getD 6 0) (s.k.getD 7 0) (s.k.getD 8 0) (s.k.getD 9 0) (s.k.getD 10 0) (s.k.getD 11 0) (s.k.getD 12 0) (s.k.getD 13 0) (s.k.getD 14 0) (s.k.getD 15 0) (s.k.getD 16 0) (s.k.getD 17 0) (s.k.getD 18 0) (s.k.getD 19 0) (s.k.getD 20 0) (s.k.getD 21 0) (s.k.getD 22 0) (s.k.getD 23 0) (s.k.getD 24 0) (s.k.getD 25 0) (s.k.getD 26 0) (s.k.getD 27 0) (s.k.getD 28 0) (s.k.getD 29 0) (s.k.getD 30 0) (s.k.getD 31 0) (s.k.getD 32 0) (s.k.getD 33 0) (s.k.getD 34 0) (s.k.getD 35 0) l = if s.is n then (if 5000 < l.length then some (((), [], (3 : Int), ()), (Deb.no.tup, ())) else some (((), Deb.runs n s l, (0 : Int), ()), ((s.last n l).tup, ()))) else some (((), [], (1 : Int), ()), (Deb.no.tup, ())) := by
  unfold F_contact_Run
  rw [F_contact_IsState_eq h]
  by_cases hs : s.is n
  · have hw : s.wf := ⟨hc, h, fun j hj => (hs.2.2 j hj).1, fun j hj => by have := (hs.2.2 j hj).2; have := hs.2.1; omega⟩
    by_cases h5 : 5000 < l.length
    · have e : decide ((5000 : Int) < (l.length : Int)) = true := by simp; omega
      simp only [hs, decide_true, Option.bind_some, Bool.not_true, cond_false, if_true, e, cond_true, h5]
      rfl
    · have e : decide ((5000 : Int) < (l.length : Int)) = false := by simp; omega
      have e2 : (decide ((0 : Int) ≤ (l.length : Int)) && decide ((l.length : Int) ≤ 2147483648)) = true := by simp; omega
      have hloop : L_contact_Run_0 ((n, (), (), [], l, (l.length : Int), (0 : Int), ()), (s.tup, Deb.no.tup, ())) = _ := iter_fuel (contact_runloop hl (by omega) l.length 0 s [] (by omega) (Nat.le_refl _) hw hs _ (fun _ _ _ => rfl)) (by omega)
      simp only [hs, decide_true, Option.bind_some, Bool.not_true, cond_false, if_true, e, e2, cond_true, h5, if_false]
      show (L_contact_Run_0 ((n, (), (), [], l, (l.length : Int), (0 : Int), ()), (s.tup, Deb.no.tup, ()))).bind _ = _
      rw [hloop]
      simp only [List.drop_zero, List.nil_append, Option.bind_some]
      try rfl
  · simp only [hs, decide_false, Option.bind_some, Bool.not_false, cond_true, if_false]
    rfl

theorem r04_runloop {n : Int} {l : List Contacts} (hl : ∀ e ∈ l, e.wf) (hlen : l.length ≤ 5000) : ∀ (m i : Nat) (s : Deb) (out : List Contacts), i + m = l.length → out.length ≤ i → s.wf → s.is n →
    ∀ (step : _ → _), (∀ (i : Nat) (s : Deb) (out : List Contacts), step ((n, l, (), (), out, (i : Int), ()), (s.tup, Deb.no.tup, ())) = R_r04_Run_0 n l out (i : Int) s.c.Floors s.c.Up s.c.Down s.c.Open s.c.Closed (s.k.getD 0 0) (s.k.getD 1 0) (s.k.getD 2 0) (s.k.getD 3 0) (s.k.getD 4 0) (s.k.getD 5 0) (s.k.getD 6 0) (s.k.getD 7 0) (s.k.getD 8 0) (s.k.getD 9 0) (s.k.getD 10 0) (s.k.getD 11 0) (s.k.getD 12 0) (s.k.getD 13 0) (s.k.getD 14 0) (s.k.getD 15 0) (s.k.getD 16 0) (s.k.getD 17 0) (s.k.getD 18 0) (s.k.getD 19 0) (s.k.getD 20 0) (s.k.getD 21 0) (s.k.getD 22 0) (s.k.getD 23 0) (s.k.getD 24 0) (s.k.getD 25 0) (s.k.getD 26 0) (s.k.getD 27 0) (s.k.getD 28 0) (s.k.getD 29 0) (s.k.getD 30 0) (s.k.getD 31 0) (s.k.getD 32 0) (s.k.getD 33 0) (s.k.getD 34 0) (s.k.getD 35 0) Deb.no.c.Floors Deb.no.c.Up Deb.no.c.Down Deb.no.c.Open Deb.no.c.Closed (Deb.no.k.getD 0 0) (Deb.no.k.getD 1 0) (Deb.no.k.getD 2 0) (Deb.no.k.getD 3 0) (Deb.no.k.getD 4 0) (Deb.no.k.getD 5 0) (Deb.no.k.getD 6 0) (Deb.no.k.getD 7 0) (Deb.no.k.getD 8 0) (Deb.no.k.getD 9 0) (Deb.no.k.getD 10 0) (Deb.no.k.getD 11 0) (Deb.no.k.getD 12 0) (Deb.no.k.getD 13 0) (Deb.no.k.getD 14 0) (Deb.no.k.getD 15 0) (Deb.no.k.getD 16 0) (Deb.no.k.getD 17 0) (Deb.no.k.getD 18 0) (Deb.no.k.getD 19 0) (Deb.no.k.getD 20 0) (Deb.no.k.getD 21 0) (Deb.no.k.getD 22 0) (Deb.no.k.getD 23 0) (Deb.no.k.getD 24 0) (Deb.no.k.getD 25 0) (Deb.no.k.getD 26 0) (Deb.no.k.getD 27 0) (Deb.no.k.getD 28 0) (Deb.no.k.getD 29 0) (Deb.no.k.getD 30 0) (Deb.no.k.getD 31 0) (Deb.no.k.getD 32 0) (Deb.no.k.getD 33 0) (Deb.no.k.getD 34 0) (Deb.no.k.getD 35 0)) →
    iter step (m + 1) ((n, l, (), (), out, (i : Int), ()), (s.tup, Deb.no.tup, ())) = some (((), (), out ++ Deb.runs n s (l.drop i), ()), ((s.last n (l.drop i)).tup, Deb.no.tup, ()))
  | 0, i, s, out, hi, ho, hw, hs, step, hstep => by
    have : l.length = i := by omega
    have hd : l.drop i = [] := List.drop_eq_nil_of_le (by omega)
    refine iter_inr ?_
    rw [hstep, hd]
    unfold R_r04_Run_0
    have e : decide ((i : Int) < (l.length : Int)) = false := by simp; omega
    simp only [e, cond_false, Deb.runs, Deb.last, List.foldl_nil, List.append_nil]
    rfl
  | m + 1, i, s, out, hi, ho, hw, hs, step, hstep => by
    have hi' : i < l.length := by omega
    have st : step ((n, l, (), (), out, (i : Int), ()), (s.tup, Deb.no.tup, ())) = some (.inl ((n, l, (), (), (out ++ [(s.step n (l.getD i ⟨0, false, false, false, false⟩)).c]), ((i + 1 : Nat) : Int), ()), ((s.step n (l.getD i ⟨0, false, false, false, false⟩)).tup, Deb.no.tup, ()))) := by
      rw [hstep]
      unfold R_r04_Run_0
      have e : decide ((i : Int) < (l.length : Int)) = true := by simp; omega
      have ib : inB (i : Int) l.length = true := inB_true (by omega) (by omega)
      have tn : Int.toNat (i : Int) = i := by omega
      have w : IntKind.i64.wrap ((i : Int) + 1) = ((i + 1 : Nat) : Int) := by rw [wrap_small (by omega) (by omega)]; omega
      simp only [e, ib, tn, cond_true, w]
      rw [F_r04_Step_eq hw.len hw.c (getD_wf hl hi'), if_pos hs]
      have e2 : ∀ x : Contacts, Nat.ble (out.length + [x].length) 2147483648 = true := fun x => ble_true (by simp; omega)
      simp only [Option.bind_some, e2, cond_true]
      rfl
    have hsw := step_wf hw hs (l.getD i ⟨0, false, false, false, false⟩)
    rw [iter_inl st, r04_runloop hl hlen m (i + 1) _ _ (by omega) (by simp; omega) hsw.1 hsw.2 step hstep, drop_cons hi']
    simp only [Deb.runs, Deb.last, List.foldl_cons, List.append_assoc, List.cons_append, List.nil_append]
theorem F_r04_Run_eq {n : Int} {s : Deb} (h : s.k.length = 36) (hc : s.c.wf) {l : List Contacts} (hl : ∀ e ∈ l, e.wf) :
    F_r04_Run n s.c.Floors s.c.Up s.c.Down s.c.Open s.c.Closed (s.k.getD 0 0) (s.k.getD 1 0) (s.k.getD 2 0) (s.k.getD 3 0) (s.k.getD 4 0) (s.k.getD 5 0) (s.k.getD 6 0) (s.k.getD 7 0) (s.k.getD 8 0) (s.k.getD 9 0) (s.k.getD 10 0) (s.k.getD 11 0) (s.k.getD 12 0) (s.k.getD 13 0) (s.k.getD 14 0) (s.k.getD 15 0) (s.k.getD 16 0) (s.k.getD 17 0) (s.k.getD 18 0) (s.k.getD 19 0) (s.k.getD 20 0) (s.k.getD 21 0) (s.k.getD 22 0) (s.k.getD 23 0) (s.k.getD 24 0) (s.k.getD 25 0) (s.k.getD 26 0) (s.k.getD 27 0) (s.k.getD 28 0) (s.k.getD 29 0) (s.k.getD 30 0) (s.k.getD 31 0) (s.k.getD 32 0) (s.k.getD 33 0) (s.k.getD 34 0) (s.k.getD 35 0) l = if s.is n then (if 5000 < l.length then some (((), [], (3 : Int), ()), (Deb.no.tup, ())) else some (((), Deb.runs n s l, (0 : Int), ()), ((s.last n l).tup, ()))) else some (((), [], (1 : Int), ()), (Deb.no.tup, ())) := by
  unfold F_r04_Run
  rw [F_r04_IsState_eq h]
  by_cases hs : s.is n
  · have hw : s.wf := ⟨hc, h, fun j hj => (hs.2.2 j hj).1, fun j hj => by have := (hs.2.2 j hj).2; have := hs.2.1; omega⟩
    by_cases h5 : 5000 < l.length
    · have e : decide ((5000 : Int) < (l.length : Int)) = true := by simp; omega
      simp only [hs, decide_true, Option.bind_some, Bool.not_true, cond_false, if_true, e, cond_true, h5]
      rfl
    · have e : decide ((5000 : Int) < (l.length : Int)) = false := by simp; omega
      have e2 : (decide ((0 : Int) ≤ (l.length : Int)) && decide ((l.length : Int) ≤ 2147483648)) = true := by simp; omega
      have hloop : L_r04_Run_0 ((n, l, (), (), [], (0 : Int), ()), (s.tup, Deb.no.tup, ())) = _ := iter_fuel (r04_runloop hl (by omega) l.length 0 s [] (by omega) (Nat.le_refl _) hw hs _ (fun _ _ _ => rfl)) (by omega)
      simp only [hs, decide_true, Option.bind_some, Bool.not_true, cond_false, if_true, e, e2, cond_true, h5, if_false]
      show (L_r04_Run_0 ((n, l, (), (), [], (0 : Int), ()), (s.tup, Deb.no.tup, ()))).bind _ = _
      rw [hloop]
      simp only [List.drop_zero, List.nil_append, Option.bind_some]
      try rfl
  · simp only [hs, decide_false, Option.bind_some, Bool.not_false, cond_true, if_false]
    rfl
end Go.Ovl
