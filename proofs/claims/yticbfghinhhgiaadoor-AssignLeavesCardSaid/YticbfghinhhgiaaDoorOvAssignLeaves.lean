/- AssignLeaves: what holds behind a plan: no entry has a lost car, an entry without a car finds none that is ready, and a car that an entry has got is ready. -/
import Derived.Test.YticbfghinhhgiaaDoorOvMk22
namespace Go.Ovl
open Go Go.Ab
set_option maxRecDepth 100000
theorem leaves_step {vs : List View} {r : Int} {i : Nat} {m x : Img} (hi : i < m.Entries.length) (hx : i < x.Entries.length) (hl : i < 1000) {c w : Int} (hc : (x.Entries.getD i noE).Car = c) (hw : (m.Entries.getD i noE).Car = w)
    (hb : c < vs.length) (f1 : 0 ≤ c → (viewAt vs c).Lost = false) (f2 : 0 ≤ c → c ≠ w → (viewAt vs c).Ready = true) (f3 : w = -2 → c = -2) (f4 : c = -1 → (w = -1 → r = 0) ∧ (0 ≤ w → r ≤ 1)) :
    R_l22_AssignLeaves_1 vs r (i : Int) m.Phases m.Flags m.Leaving m.Entries x.Phases x.Flags x.Leaving x.Entries = some (.inl (((), vs, (), r, ((i + 1 : Nat) : Int), ()), (m.tup, x.tup, ()))) := by
  have wi : IntKind.i64.wrap ((i : Int) + 1) = ((i + 1 : Nat) : Int) := by rw [wrap_small (by omega) (by omega)]; omega
  unfold R_l22_AssignLeaves_1
  rw [show decide ((i : Int) < (x.Entries.length : Int)) = true by simp; omega, inB_true (show (0 : Int) ≤ (i : Int) by omega) (show (i : Int) < (x.Entries.length : Int) by omega), inB_true (show (0 : Int) ≤ (i : Int) by omega) (show (i : Int) < (m.Entries.length : Int) by omega), show Entry.mk 0 0 0 0 false = noE from rfl, Int.toNat_natCast]
  unfold viewAt at f1 f2
  simp only [cond_true, hc, hw]
  refine (congrArg (fun t => Option.bind t _) (?_ : _ = some (((), vs, (), r, (i : Int), c, w, false, ()), (m.tup, x.tup, ())))).trans ?_
  · by_cases g : 0 ≤ c
    · rw [decide_eq_true g, inB_true g hb, f1 g]
      by_cases g' : c = w
      · rw [show (c != w) = false by rw [g']; simp]
        simp only [cond_true, cond_false]
        cases w == -2 <;> rfl
      · rw [bne_t g', f2 g g', beq_f (show ¬ w = -2 from fun hh => by have := f3 hh; omega)]
        rfl
    · rw [decide_eq_false g]
      by_cases g' : w = -2
      · rw [show (w == -2) = true by rw [g']; rfl, show (c != w) = false by rw [f3 g', g']; rfl]
        rfl
      · rw [beq_f g']
        rfl
  · simp only [Option.bind_some, cond_false]
    by_cases g : c = -1
    · obtain ⟨k1, k2⟩ := f4 g
      rw [show (c == -1) = true by rw [g]; rfl]
      by_cases g' : w = -1
      · rw [show (w == -1) = true by rw [g']; rfl, k1 g', g']
        simp only [cond_true, show decide ((0 : Int) < 0) = false from rfl, show decide ((0 : Int) ≤ -1) = false from rfl, cond_false, Option.bind_some, wi]
      · rw [beq_f g']
        by_cases g'' : 0 ≤ w
        · have := k2 g''
          simp only [decide_eq_true g'', decide_eq_false (show ¬ (1 : Int) < r by omega), cond_true, cond_false, Option.bind_some, wi]
        · simp only [decide_eq_false g'', cond_true, cond_false, Option.bind_some, wi]
    · rw [beq_f g]
      simp only [cond_false, Option.bind_some, wi]
theorem leaves_loop {b : Bldg} {m : Img} {vs : List View} {xs : List Int} (h : Plan22 b m vs xs) : L_l22_AssignLeaves_1 (((), vs, (), (readyN vs : Int), (0 : Int), ()), (m.tup, (m.put (decL b vs m.Entries xs)).tup, ())) = some (.inl ((), ())) := by
  have hlen := decL_len b vs m.Entries xs h.xlen
  refine loop_of (fun x y => ∃ i : Nat, i ≤ m.Entries.length ∧ x = (((), vs, (), (readyN vs : Int), (i : Int), ()), (m.tup, (m.put (decL b vs m.Entries xs)).tup, ())) ∧ y = .inl ((), ())) (fun x => m.Entries.length - x.1.2.2.2.2.1.toNat) ?_ ⟨0, by omega, rfl, rfl⟩ (by show m.Entries.length - 0 < _; have := h.ents; omega)
  rintro _ _ ⟨i, h1, rfl, rfl⟩
  show (∃ x', R_l22_AssignLeaves_1 vs (readyN vs : Int) (i : Int) m.Phases m.Flags m.Leaving m.Entries (m.put (decL b vs m.Entries xs)).Phases (m.put (decL b vs m.Entries xs)).Flags (m.put (decL b vs m.Entries xs)).Leaving (m.put (decL b vs m.Entries xs)).Entries = _ ∧ _) ∨ R_l22_AssignLeaves_1 vs (readyN vs : Int) (i : Int) m.Phases m.Flags m.Leaving m.Entries (m.put (decL b vs m.Entries xs)).Phases (m.put (decL b vs m.Entries xs)).Flags (m.put (decL b vs m.Entries xs)).Leaving (m.put (decL b vs m.Entries xs)).Entries = _
  by_cases g : i < m.Entries.length
  · obtain ⟨_, k2, _⟩ := h.ent g
    obtain ⟨f1, f2, f3, f4⟩ := h.car k2 (xs.getD i 0)
    have hd := decL_getD b vs m.Entries xs i h.xlen g
    have hin := decV_in b k2 (xs.getD i 0)
    have := h.ents
    refine .inl ⟨_, leaves_step g (by rw [put_entries]; omega) (by omega) (by rw [put_entries, hd]) rfl hin.2 f1 f2 f3 (fun hh => ?_), ⟨i + 1, by omega, rfl, by trivial⟩, by show m.Entries.length - (i + 1) < m.Entries.length - i; omega⟩
    obtain ⟨q1, q2⟩ := f4 hh
    exact ⟨fun z => by have := q1 z; omega, fun z => by have := q2 z; omega⟩
  · unfold R_l22_AssignLeaves_1
    rw [show decide ((i : Int) < ((m.put (decL b vs m.Entries xs)).Entries.length : Int)) = false by rw [put_entries]; simp; omega]
    exact .inr rfl
theorem law_AssignLeaves (n : Int) (l : List (Int)) (k : List (Int)) (h_n : 0 ≤ n ∧ n < 256) (h_l : l.length ≤ maxLen ∧ ∀ e ∈ l, (0 ≤ e ∧ e < 256)) (h_k : k.length ≤ maxLen ∧ ∀ e ∈ k, (0 ≤ e ∧ e < 256)) : F_l22_AssignLeaves n l k = some ((true, ()), ()) := by
  obtain ⟨b, m, vs, xs, hB, hI, hV, hX, h, _⟩ := made22 h_n h_l h_k
  have hc := h.cars
  have h0 := ready_loop vs m (m.put (decL b vs m.Entries xs)) (by have := h.vlen; omega)
  have h1 := leaves_loop h
  obtain ⟨ha, _, hlen⟩ := h.after
  have hp := h.plan_eq
  unfold Bldg.tup at hB
  unfold Img.tup at hI h0 h1 ha
  unfold F_l22_AssignLeaves
  simp only [hB, Option.bind_some, hI, hV, hX, hp, ha, bne_self_eq_false, cond_false, Bool.not_true, put_entries, hlen]
  rw [put_entries] at h0 h1
  rw [h0]
  simp only [Option.bind_some]
  rw [h1]
  simp only [Option.bind_some, l22_sane]
end Go.Ovl
