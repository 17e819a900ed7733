/- A valid record keeps an image an image (layer 10). -/
import Derived.Test.YthdomhdippmaiaaGreatOvApply2
namespace Go.Ovl
open Go Go.Ab
set_option maxRecDepth 100000
theorem nfv' {a c : Entry} : lessE a c = true ↔ a.Floor < c.Floor ∨ (a.Floor = c.Floor ∧ a.Dir < c.Dir) := by
  unfold lessE
  simp only [Bool.or_eq_true, Bool.and_eq_true, decide_eq_true_eq, beq_iff_eq]
theorem nk7' {a c d : Entry} (h : lessE a c = true) (h' : lessE c d = true) : lessE a d = true := by
  rw [nfv'] at *
  omega
def njy' (e : Entry) : Int × Int := (e.Floor, e.Dir)
def ltC (a c : Int × Int) : Prop := a.1 < c.1 ∨ (a.1 = c.1 ∧ a.2 < c.2)
def ncb' (l : List Entry) : Prop := (l.map njy').Pairwise ltC
theorem ndn' {l : List Entry} : ncb' l ↔ l.Pairwise fun x y => lessE x y = true := by
  unfold ncb'
  rw [List.pairwise_map]
  exact ⟨fun h => h.imp fun hh => nfv'.2 hh, fun h => h.imp fun hh => nfv'.1 hh⟩
theorem nu6' {b : Bldg} : ∀ {l : List Entry} {p : Option Entry}, entsF b p l = true ↔ (∀ e ∈ l, entOK b e = true) ∧ ncb' l ∧ (∀ q, p = some q → ∀ e ∈ l, lessE q e = true)
  | [], p => by simp [entsF, ncb']
  | a :: t, p => by
    simp only [entsF, Bool.and_eq_true]
    rw [nu6' (l := t), ndn', ndn', List.pairwise_cons]
    constructor
    · rintro ⟨h1, h2, h3, h4, h5⟩
      refine ⟨fun e he => ?_, ⟨fun e he => h5 a rfl e he, h4⟩, fun q hq e he => ?_⟩
      · rcases List.mem_cons.1 he with rfl | he
        · exact h1
        · exact h3 e he
      · subst hq
        simp only at h2
        rcases List.mem_cons.1 he with rfl | he
        · exact h2
        · exact nk7' h2 (h5 a rfl e he)
    · rintro ⟨h1, ⟨h2, h3⟩, h4⟩
      refine ⟨h1 a (List.mem_cons_self ..), ?_, fun e he => h1 e (List.mem_cons_of_mem _ he), h3, fun q hq e he => ?_⟩
      · cases p with
        | none => rfl
        | some q => exact h4 q rfl a (List.mem_cons_self ..)
      · obtain rfl := Option.some.inj hq
        exact h2 e he
theorem ns0' {b : Bldg} {l : List Entry} : entsF b none l = true ↔ (∀ e ∈ l, entOK b e = true) ∧ ncb' l := by
  rw [nu6']
  exact ⟨fun h => ⟨h.1, h.2.1⟩, fun h => ⟨h.1, h.2, fun _ hq => by cases hq⟩⟩
theorem n0c' {l : List Entry} (h : ncb' l) (k : Nat) : ncb' (l.take k ++ l.drop (k + 1)) := by
  rw [ndn'] at *
  exact h.sublist (by rw [← List.eraseIdx_eq_take_drop_succ]; exact List.eraseIdx_sublist ..)
theorem nwa' {l : List Entry} {k : Nat} {e : Entry} (hk : k < l.length) (he : njy' e = njy' (l.getD k noE)) : (l.set k e).map njy' = l.map njy' := by
  rw [List.map_set, he]
  apply List.ext_getElem?
  intro i
  rw [List.getElem?_set]
  by_cases h : k = i
  · subst h
    rw [if_pos rfl]
    simp [hk, List.getD_eq_getElem?_getD]
  · rw [if_neg h]
theorem nsw' {l : List Entry} (h : ncb' l) {k : Nat} {e : Entry} (hk : k < l.length) (he : njy' e = njy' (l.getD k noE)) : ncb' (l.set k e) := by
  unfold ncb' at *
  rw [nwa' hk he]; exact h
theorem nr0' {e x : Entry} : ∀ {l : List Entry}, x ∈ insL e false l → x = e ∨ x ∈ l
  | [], h => by simp [insL] at h; exact .inl h
  | a :: t, h => by
    simp only [insL] at h
    cases hq : lessE e a with
    | true =>
      rw [hq, cond_true, nm5'] at h
      rcases List.mem_cons.1 h with h | h
      · exact .inl h
      · exact .inr h
    | false =>
      rw [hq, cond_false] at h
      rcases List.mem_cons.1 h with h | h
      · exact .inr (by rw [h]; exact List.mem_cons_self ..)
      · rcases nr0' h with h | h
        · exact .inl h
        · exact .inr (List.mem_cons_of_mem _ h)
theorem nsu' {e : Entry} : ∀ {l : List Entry}, ncb' l → (∀ x ∈ l, isC e.Floor e.Dir x = false) → ncb' (insL e false l)
  | [], _, _ => by simp [insL, ncb']
  | a :: t, h, hn => by
    rw [ndn'] at *
    obtain ⟨h1, h2⟩ := List.pairwise_cons.1 h
    simp only [insL]
    cases hq : lessE e a with
    | true =>
      rw [cond_true, nm5']
      refine List.pairwise_cons.2 ⟨fun x hx => ?_, h⟩
      rcases List.mem_cons.1 hx with rfl | hx
      · exact hq
      · exact nk7' hq (h1 x hx)
    | false =>
      rw [cond_false]
      refine List.pairwise_cons.2 ⟨fun x hx => ?_, ndn'.1 (nsu' (ndn'.2 h2) fun x hx => hn x (List.mem_cons_of_mem _ hx))⟩
      rcases nr0' hx with rfl | hx
      · rw [nfv']
        have h3 : ¬ (x.Floor < a.Floor ∨ (x.Floor = a.Floor ∧ x.Dir < a.Dir)) := fun hh => by rw [nfv'.2 hh] at hq; cases hq
        have h4 := hn a (List.mem_cons_self ..)
        unfold isC at h4
        simp only [Bool.and_eq_false_iff, beq_eq_false_iff_ne] at h4
        omega
      · exact h1 x hx
structure ImgOK (b : Bldg) (m : Img) : Prop where
  code : b.code = 0
  lp : m.Phases.length = b.Cars.length
  lf : m.Flags.length = b.Cars.length
  ll : m.Leaving.length = b.Cars.length
  ph : ∀ p ∈ m.Phases, 0 ≤ p ∧ p ≤ 4
  en : ∀ e ∈ m.Entries, entOK b e = true
  so : ncb' m.Entries
theorem Img.ok_iff {b : Bldg} {m : Img} : m.ok b = true ↔ ImgOK b m := by
  unfold Img.ok
  simp only [Bool.and_eq_true, beq_iff_eq]
  constructor
  · rintro ⟨h0, h1, h2, h3, h4, h5⟩
    have h6 := ns0'.1 h5
    exact ⟨h0, by omega, by omega, by omega, fun p hp => nv'.1 (List.all_eq_true.1 h4 p hp), h6.1, h6.2⟩
  · rintro ⟨h0, h1, h2, h3, h4, h5, h6⟩
    exact ⟨h0, by omega, by omega, by omega, List.all_eq_true.2 fun p hp => nv'.2 (h4 p hp), ns0'.2 ⟨h5, h6⟩⟩
theorem nfw' {b : Bldg} {e : Entry} : entOK b e = true ↔ nbf' b e.Floor e.Dir = true ∧ (-2 ≤ e.Car ∧ e.Car < (b.Cars.length : Int)) ∧ 0 ≤ e.Moves ∧ e.Moves ≤ 255 := by
  unfold entOK
  simp only [Bool.and_eq_true, decide_eq_true_eq]
  constructor
  · rintro ⟨h1, h2, h3, h4, h5⟩; exact ⟨h1, ⟨h2, h3⟩, h4, h5⟩
  · rintro ⟨h1, ⟨h2, h3⟩, h4, h5⟩; exact ⟨h1, h2, h3, h4, h5⟩
theorem nto' {α : Type} {l : List α} {k : Nat} {a x : α} (h : x ∈ l.set k a) : x = a ∨ x ∈ l := by
  rcases List.mem_or_eq_of_mem_set h with h | h
  · exact .inr h
  · exact .inl h
theorem nrb' {b : Bldg} {r : Record} (h : n4' b r = true) : b.code = 0 ∧
    ((r.Kind = 1 ∧ nbf' b r.Floor r.Dir = true ∧ r.Car = 0 ∧ r.Value = 0) ∨ (r.Kind = 2 ∧ nbf' b r.Floor r.Dir = true ∧ r.Car = 0 ∧ r.Value = 0) ∨
     (r.Kind = 3 ∧ nbf' b r.Floor r.Dir = true ∧ (-2 ≤ r.Car ∧ r.Car < (b.Cars.length : Int)) ∧ r.Value = 0) ∨
     (r.Kind = 4 ∧ (0 ≤ r.Car ∧ r.Car < (b.Cars.length : Int)) ∧ (0 ≤ r.Value ∧ r.Value ≤ 4)) ∨
     (r.Kind = 5 ∧ (0 ≤ r.Car ∧ r.Car < (b.Cars.length : Int)) ∧ (0 ≤ r.Value ∧ r.Value ≤ 1)) ∨
     (r.Kind = 6 ∧ (0 ≤ r.Car ∧ r.Car < (b.Cars.length : Int)) ∧ (0 ≤ r.Value ∧ r.Value ≤ 1)) ∨
     (r.Kind = 7 ∧ nbf' b r.Floor r.Dir = true ∧ (0 ≤ r.Car ∧ r.Car ≤ 1) ∧ (0 ≤ r.Value ∧ r.Value ≤ 255))) := by
  unfold n4' carR at h
  simp only [Bool.and_eq_true, beq_iff_eq] at h
  obtain ⟨h0, h⟩ := h
  refine ⟨h0, ?_⟩
  by_cases k1 : r.Kind = 1
  · rw [k1] at h; simp only [beq_self_eq_true, cond_true, Bool.and_eq_true, beq_iff_eq] at h; exact .inl ⟨k1, h.1, h.2⟩
  rw [beq_f k1, cond_false] at h
  by_cases k2 : r.Kind = 2
  · rw [k2] at h; simp only [beq_self_eq_true, cond_true, Bool.and_eq_true, beq_iff_eq] at h; exact .inr (.inl ⟨k2, h.1, h.2⟩)
  rw [beq_f k2, cond_false] at h
  by_cases k3 : r.Kind = 3
  · rw [k3] at h; simp only [beq_self_eq_true, cond_true, Bool.and_eq_true, beq_iff_eq, nv'] at h; exact .inr (.inr (.inl ⟨k3, h.1, by omega, h.2.2⟩))
  rw [beq_f k3, cond_false] at h
  by_cases k4 : r.Kind = 4
  · rw [k4] at h; simp only [beq_self_eq_true, cond_true, Bool.and_eq_true, beq_iff_eq, nv'] at h; exact .inr (.inr (.inr (.inl ⟨k4, by omega, h.2⟩)))
  rw [beq_f k4, cond_false] at h
  by_cases k5 : r.Kind = 5
  · rw [k5] at h; simp only [beq_self_eq_true, cond_true, Bool.and_eq_true, beq_iff_eq, nv'] at h; exact .inr (.inr (.inr (.inr (.inl ⟨k5, by omega, h.2⟩))))
  rw [beq_f k5, cond_false] at h
  by_cases k6 : r.Kind = 6
  · rw [k6] at h; simp only [beq_self_eq_true, cond_true, Bool.and_eq_true, beq_iff_eq, nv'] at h; exact .inr (.inr (.inr (.inr (.inr (.inl ⟨k6, by omega, h.2⟩)))))
  rw [beq_f k6, cond_false] at h
  by_cases k7 : r.Kind = 7
  · rw [k7] at h; simp only [beq_self_eq_true, cond_true, Bool.and_eq_true, nv'] at h; exact .inr (.inr (.inr (.inr (.inr (.inr ⟨k7, h.1, h.2.1, h.2.2⟩)))))
  rw [beq_f k7] at h; cases h
theorem nsa' {b : Bldg} {m : Img} (h : ImgOK b m) {l : List Entry} (h1 : ∀ e ∈ l, entOK b e = true) (h2 : ncb' l) : ImgOK b (m.put l) := ⟨h.code, h.lp, h.lf, h.ll, h.ph, h1, h2⟩
theorem npe' {b : Bldg} {m : Img} (h : ImgOK b m) {r : Record} (hv : n4' b r = true) : ImgOK b (ncl' m r) ∧ (ncl' m r).Entries.length ≤ m.Entries.length + 1 := by
  obtain ⟨_, hk⟩ := nrb' hv
  unfold ncl'
  by_cases k4 : r.Kind = 4
  · rw [show (r.Kind == 4) = true by rw [k4]; rfl]
    refine ⟨⟨h.code, by show (m.Phases.set _ _).length = _; rw [List.length_set]; exact h.lp, h.lf, h.ll, fun p hp => ?_, h.en, h.so⟩, Nat.le_succ _⟩
    rcases nto' hp with rfl | hp
    · omega
    · exact h.ph p hp
  rw [beq_f k4, cond_false]
  by_cases k5 : r.Kind = 5
  · rw [show (r.Kind == 5) = true by rw [k5]; rfl]
    exact ⟨⟨h.code, h.lp, by show (m.Flags.set _ _).length = _; rw [List.length_set]; exact h.lf, h.ll, h.ph, h.en, h.so⟩, Nat.le_succ _⟩
  rw [beq_f k5, cond_false]
  by_cases k6 : r.Kind = 6
  · rw [show (r.Kind == 6) = true by rw [k6]; rfl]
    exact ⟨⟨h.code, h.lp, h.lf, by show (m.Leaving.set _ _).length = _; rw [List.length_set]; exact h.ll, h.ph, h.en, h.so⟩, Nat.le_succ _⟩
  rw [beq_f k6, cond_false]
  rcases nlx' r.Floor r.Dir m.Entries 0 with ⟨h1, h2⟩ | ⟨k, h1, h2, h3⟩
  · rw [h1, show ((-1 : Int) == -1) = true from rfl, cond_true]
    by_cases k1 : r.Kind = 1
    · rw [show (r.Kind == 1) = true by rw [k1]; rfl, cond_true]
      refine ⟨nsa' h (fun e he => ?_) (nsu' h.so h2), nrv' _ _ _⟩
      rcases nr0' he with rfl | he
      · rw [nfw']
        have hc : nbf' b r.Floor r.Dir = true := by
          rcases hk with hk | hk | hk | hk | hk | hk | hk
          · exact hk.2.1
          all_goals omega
        exact ⟨hc, ⟨by show (-2 : Int) ≤ -1; omega, by show (-1 : Int) < _; omega⟩, by show (0 : Int) ≤ 0; omega, by show (0 : Int) ≤ 255; omega⟩
      · exact h.en e he
    · rw [beq_f k1, cond_false]; exact ⟨h, Nat.le_succ _⟩
  · rw [Nat.zero_add] at h2
    rw [h2, beq_f (show ¬ (k : Int) = -1 by omega), cond_false, Int.toNat_natCast]
    have hmem := nes' noE h1
    have hent := nfw'.1 (h.en _ hmem)
    cases r.Kind == 2 with
    | true =>
      refine ⟨nsa' h (fun e he => ?_) (n0c' h.so k), ?_⟩
      · rcases List.mem_append.1 he with he | he
        · exact h.en e (List.mem_of_mem_take he)
        · exact h.en e (List.mem_of_mem_drop he)
      · show (m.Entries.take k ++ m.Entries.drop (k + 1)).length ≤ _
        rw [List.length_append, List.length_take, List.length_drop]; omega
    | false =>
      rw [cond_false]
      by_cases k3 : r.Kind = 3
      · rw [show (r.Kind == 3) = true by rw [k3]; rfl, cond_true]
        refine ⟨nsa' h (fun e he => ?_) (nsw' h.so h1 rfl), by show (m.Entries.set _ _).length ≤ _; rw [List.length_set]; omega⟩
        rcases nto' he with rfl | he
        · rw [nfw']
          refine ⟨hent.1, ?_, hent.2.2⟩
          show -2 ≤ r.Car ∧ r.Car < _
          rcases hk with hk | hk | hk | hk | hk | hk | hk
          all_goals first
            | exact hk.2.2.1
            | omega
        · exact h.en e he
      · rw [beq_f k3, cond_false]
        by_cases k7 : r.Kind = 7
        · rw [show (r.Kind == 7) = true by rw [k7]; rfl, cond_true]
          refine ⟨nsa' h (fun e he => ?_) (nsw' h.so h1 rfl), by show (m.Entries.set _ _).length ≤ _; rw [List.length_set]; omega⟩
          rcases nto' he with rfl | he
          · rw [nfw']
            refine ⟨hent.1, hent.2.1, ?_⟩
            show 0 ≤ r.Value ∧ r.Value ≤ 255
            rcases hk with hk | hk | hk | hk | hk | hk | hk
            all_goals first
              | exact hk.2.2.2
              | omega
          · exact h.en e he
        · rw [beq_f k7, cond_false]; exact ⟨h, Nat.le_succ _⟩
end Go.Ovl
