/- A state cut down to a shape: the relation to the model's state is kept. -/
import Derived.Test.YtfooilbkiclplaaAbT
namespace Go.Ab
variable {G : Sig}

theorem nodupB_spec : ∀ {l : List Nat}, nodupB l = true → l.Nodup
  | [], _ => by simp
  | n :: t, h => by
    simp only [nodupB, Bool.and_eq_true, Bool.not_eq_true'] at h
    refine List.nodup_cons.2 ⟨fun hm => ?_, nodupB_spec h.2⟩
    rw [(has_iff t n).2 hm] at h; simp at h
theorem disjN_spec : ∀ {a b : List Nat}, disjN a b = true → ∀ n ∈ a, n ∉ b
  | [], _, _, n, h => by simp at h
  | m :: t, b, h, n, hn => by
    simp only [disjN, Bool.and_eq_true, Bool.not_eq_true'] at h
    rcases List.mem_cons.1 hn with rfl | hn
    · intro hm; rw [(has_iff b n).2 hm] at h; simp at h
    · exact disjN_spec h.2 n hn
theorem allLt_spec : ∀ {a : List Nat}, allLt a = true → ∀ n ∈ a, n < lo
  | [], _, n, h => by simp at h
  | m :: t, h, n, hn => by
    simp only [allLt, Bool.and_eq_true] at h
    rcases List.mem_cons.1 hn with rfl | hn
    · have := h.1; simp [Nat.blt] at this; omega
    · exact allLt_spec h.2 n hn
theorem allIn_spec {us : List Nat} : ∀ {a : List Nat}, allIn us a = true → ∀ n ∈ a, lo ≤ n → n ∈ us
  | [], _, n, h, _ => by simp at h
  | m :: t, h, n, hn, hl => by
    simp only [allIn, Bool.and_eq_true, Bool.or_eq_true] at h
    rcases List.mem_cons.1 hn with rfl | hn
    · rcases h.1 with h1 | h1
      · simp [Nat.blt] at h1; omega
      · exact (has_iff us n).1 h1
    · exact allIn_spec h.2 n hn hl
theorem mem_keysN {ρ : List (Nat × Option Nat)} {p : Nat × Option Nat} (h : p ∈ ρ) : p.1 ∈ keysN ρ := by
  induction ρ with
  | nil => simp at h
  | cons q t ih =>
    rcases List.mem_cons.1 h with rfl | h
    · simp [keysN]
    · simp [keysN, ih h]
theorem mem_oldsN {ρ : List (Nat × Option Nat)} {m n : Nat} (h : (m, some n) ∈ ρ) : n ∈ oldsN ρ := by
  induction ρ with
  | nil => simp at h
  | cons q t ih =>
    obtain ⟨k, o⟩ := q
    rcases List.mem_cons.1 h with h1 | h1
    · simp at h1; obtain ⟨rfl, rfl⟩ := h1; simp [oldsN]
    · have := ih h1
      cases o <;> simp [oldsN, this]
theorem keysN_get {ρ : List (Nat × Option Nat)} {n : Nat} (h : n ∈ keysN ρ) : ∃ o, (n, o) ∈ ρ := by
  induction ρ with
  | nil => simp [keysN] at h
  | cons q t ih =>
    simp only [keysN, List.mem_cons] at h
    rcases h with rfl | h
    · exact ⟨q.2, by simp⟩
    · obtain ⟨o, ho⟩ := ih h
      exact ⟨o, by simp [ho]⟩
theorem get_mem {α : Type} {l : List (Nat × α)} {n : Nat} {x : α} (h : get l n = some x) : (n, x) ∈ l := by
  induction l with
  | nil => simp [get] at h
  | cons q t ih =>
    obtain ⟨k, v⟩ := q
    simp only [get, beq_ite] at h
    by_cases e : k = n
    · subst e; simp at h; subst h; simp
    · rw [if_neg e] at h; simp [ih h]
theorem mem_get {ρ : List (Nat × Option Nat)} (hn : (keysN ρ).Nodup) {n : Nat} {o : Option Nat} (h : (n, o) ∈ ρ) : get ρ n = some o := by
  induction ρ with
  | nil => simp at h
  | cons q t ih =>
    obtain ⟨k, v⟩ := q
    simp only [keysN, List.nodup_cons] at hn
    simp only [get, beq_ite]
    rcases List.mem_cons.1 h with h | h
    · simp at h; obtain ⟨rfl, rfl⟩ := h; simp
    · have : k ≠ n := fun e => hn.1 (by rw [e]; exact mem_keysN h)
      rw [if_neg this]
      exact ih hn.2 h
theorem olds_inj {ρ : List (Nat × Option Nat)} (hn : (oldsN ρ).Nodup) {m m' n : Nat} (h : (m, some n) ∈ ρ) (h' : (m', some n) ∈ ρ) : m = m' := by
  induction ρ with
  | nil => simp at h
  | cons q t ih =>
    obtain ⟨k, v⟩ := q
    have hn' : (oldsN t).Nodup ∧ (∀ j, v = some j → j ∉ oldsN t) := by
      cases v with
      | none => exact ⟨hn, by simp⟩
      | some j => simp only [oldsN, List.nodup_cons] at hn; exact ⟨hn.2, fun i hi => by simp at hi; subst hi; exact hn.1⟩
    rcases List.mem_cons.1 h with h1 | h1 <;> rcases List.mem_cons.1 h' with h2 | h2
    · simp at h1 h2; rw [h1.1, h2.1]
    · simp at h1; obtain ⟨rfl, rfl⟩ := h1; exact absurd (mem_oldsN h2) (hn'.2 n rfl)
    · simp at h2; obtain ⟨rfl, rfl⟩ := h2; exact absurd (mem_oldsN h1) (hn'.2 n rfl)
    · exact ih hn'.1 h1 h2
theorem mem_keysB {l : List (Nat × Blk G.T)} {p : Nat × Blk G.T} (h : p ∈ l) : p.1 ∈ keysB l := by
  induction l with
  | nil => simp at h
  | cons q t ih =>
    rcases List.mem_cons.1 h with rfl | h
    · simp [keysB]
    · simp [keysB, ih h]

theorem Spec.take_rel {cx : Cx} {s : Spec} {st : St G} {x : s.T G} (ht : s.take st = some x) {a : Act} {w : World} (hrel : Rel G cx st a w) (hnu : ∀ n y, cx.nu0 n = some y → lo ≤ n) : Rel G cx (s.mk' x) a w := by
  obtain ⟨ν, S, r⟩ := hrel
  unfold Spec.take at ht
  split at ht
  · rename_i ta tb hta htb
    generalize hc : (s.tm.all (fun p => p.2.fix (keysH s.hp)) && s.hp.all (fun p => p.2.all (CSh.fix (keysH s.hp))) &&
      (nodupB (keysN (ta.nm ++ tb.nm) ++ keysH s.hp) && allLt (keysN (ta.nm ++ tb.nm)) && nodupB (oldsN (ta.nm ++ tb.nm) ++ keysH s.hp) && disjN (oldsN (ta.nm ++ tb.nm) ++ keysH s.hp) (ta.fz ++ tb.fz) && allIn s.us st.us)) = c at ht
    cases c with
    | false => simp at ht
    | true =>
      have ht : (ta.x, tb.x) = x := Option.some.inj ht
      subst ht
      simp only [Bool.and_eq_true] at hc
      obtain ⟨⟨c1, c2⟩, ⟨⟨⟨c3, c4⟩, c5⟩, c6⟩, c7⟩ := hc
      generalize hρ : ta.nm ++ tb.nm = ρ at c3 c4 c5 c6
      generalize hfz : ta.fz ++ tb.fz = fz at c6
      have d3 := List.nodup_append.1 (nodupB_spec c3)
      have d5 := List.nodup_append.1 (nodupB_spec c5)
      have d4 := allLt_spec c4
      have d6 := disjN_spec c6
      have d7 := allIn_spec c7
      let ν' : Nat → Option Value := fun n => match get ρ n with
        | some (some m) => ν m
        | some none => some (.slice none 0 0)
        | none => if n ∈ keysH s.hp ∨ lo ≤ n then ν n else none
      let S' : Nat → Prop := fun b => S b ∨ ∃ n ∈ fz, get st.hp n ≠ none ∧ ∃ y, ν n = some y ∧ blkOf y = some b
      have hown : ∀ p ∈ ρ, ν' p.1 = match p.2 with | some n => ν n | none => some (.slice none 0 0) := by
        intro p hp
        simp only [ν', mem_get d3.1 hp]
        cases p.2 <;> rfl
      have hno : ∀ n, n ∉ keysN ρ → get ρ n = none := by
        intro n hn
        cases hg : get ρ n with
        | none => rfl
        | some o => exact absurd (mem_keysN (get_mem hg)) hn
      have hkeep : ∀ n ∈ keysH s.hp, ν' n = ν n := by
        intro n hn
        have : get ρ n = none := hno n fun hm => d3.2.2 n hm n hn rfl
        simp only [ν', this]
        rw [if_pos (.inl hn)]
      have rn : Ren ν ν' S S' (get st.hp) (keysH s.hp) ρ fz := ⟨hown, hkeep, fun n hn hh y b hy hb => .inr ⟨n, hn, hh, y, hy, hb⟩, fun b hb => .inl hb⟩
      rw [← hρ, ← hfz] at rn
      obtain ⟨g1, g2⟩ := takeTm_sound r.heap r.slot s.tm ta hta c1 rn.left
      obtain ⟨g3, g4, g5, g6⟩ := takeHp_sound r.heap s.hp tb htb (fun _ h => h) c2 rn.right
      have hkeys : keysB (blkTm s.tm ta.x ++ (blkHp s.hp tb.x ++ giveHp s.hp tb.x)) = keysN ρ ++ keysH s.hp := by
        rw [keysB_append, keysB_append, g2.2.1, g6.2.1, g4, ← hρ, keysN_append, List.append_assoc]
      have hsrc : ∀ n y b, get (blkTm s.tm ta.x ++ (blkHp s.hp tb.x ++ giveHp s.hp tb.x)) n ≠ none → ν' n = some y → blkOf y = some b →
          ∃ m, ν m = some y ∧ get st.hp m ≠ none ∧ ((n, some m) ∈ ρ ∨ (n ∈ keysH s.hp ∧ m = n)) := by
        intro n y b hn hy hb
        obtain ⟨k, hk⟩ := Option.ne_none_iff_exists'.1 hn
        have hm := mem_keysB (get_mem hk)
        rw [hkeys] at hm
        rcases List.mem_append.1 hm with hm | hm
        · obtain ⟨o, ho⟩ := keysN_get hm
          have h1 := hown _ ho
          simp only at h1
          cases o with
          | none => rw [hy] at h1; simp at h1; subst h1; simp [blkOf] at hb
          | some m =>
            refine ⟨m, by rw [← hy, h1], ?_, .inl ho⟩
            rw [← hρ] at ho
            rcases List.mem_append.1 ho with ho | ho
            · exact g2.2.2 _ ho m rfl
            · exact g6.2.2 _ ho m rfl
        · refine ⟨n, by rw [← hkeep n hm]; exact hy, ?_, .inr ⟨hm, rfl⟩⟩
          obtain ⟨cs, hcs⟩ := g5 n hm
          rw [hcs]; simp
      refine ⟨ν', S', ⟨g1, ⟨fun n k hk => ?_, fun n m y z b h1 h2 h3 h4 h5 h6 => ?_, fun n y b h1 h2 h3 => ?_, fun b hb => ?_⟩, fun n hn => ?_, r.defers, r.nt, r.size, r.frame, r.env, fun b hb => ?_, fun b hb => .inl (r.keep b hb), fun n y hy => ?_⟩⟩
      · have hm := get_mem hk
        rcases List.mem_append.1 hm with hm | hm
        · exact g2.1 _ hm
        · rcases List.mem_append.1 hm with hm | hm
          · exact g6.1 _ hm
          · exact g3 _ hm
      · obtain ⟨n1, q1, q2, q3⟩ := hsrc n y b h1 h3 h5
        obtain ⟨n2, p1, p2, p3⟩ := hsrc m z b h2 h4 h6
        have e := r.heap.apart n1 n2 y z b q2 p2 q1 p1 h5 h6
        subst e
        rcases q3 with q3 | ⟨q3, q4⟩ <;> rcases p3 with p3 | ⟨p3, p4⟩
        · exact olds_inj d5.1 q3 p3
        · exact absurd rfl (d5.2.2 n1 (mem_oldsN q3) n1 (by rw [p4]; exact p3))
        · exact absurd rfl (d5.2.2 n1 (mem_oldsN p3) n1 (by rw [q4]; exact q3))
        · exact q4.symm.trans p4
      · obtain ⟨n1, q1, q2, q3⟩ := hsrc n y b h1 h2 h3
        obtain ⟨o1, o2⟩ := r.heap.own n1 y b q2 q1 h3
        refine ⟨?_, o2⟩
        rintro (hS | ⟨m, hm, hmh, z, hz, hbz⟩)
        · exact o1 hS
        · have e := r.heap.apart n1 m y z b q2 hmh q1 hz h3 hbz
          subst e
          refine d6 n1 (List.mem_append.2 ?_) hm
          rcases q3 with q3 | ⟨q3, q4⟩
          · exact .inl (mem_oldsN q3)
          · exact .inr (by rw [q4]; exact q3)
      · rcases hb with hb | ⟨m, hm, hmh, z, hz, hbz⟩
        · exact r.heap.stay b hb
        · exact r.heap.lt hmh hz hbz
      · show n ∈ keysB _ ++ s.us
        rw [hkeys]
        cases hg : get ρ n with
        | some o => simp [mem_keysN (get_mem hg)]
        | none =>
          simp only [ν', hg] at hn
          by_cases hc : n ∈ keysH s.hp ∨ lo ≤ n
          · rw [if_pos hc] at hn
            rcases hc with hc | hc
            · simp [hc]
            · have := d7 n (r.used n hn) hc
              simp [this]
          · rw [if_neg hc] at hn; simp at hn
      · rcases hb with hb | ⟨m, hm, hmh, z, hz, hbz⟩
        · exact r.sub b hb
        · exact .inr (r.heap.own m z b hmh hz hbz).2
      · have h1 := r.names n y hy
        have h2 := hnu n y hy
        have : get ρ n = none := hno n fun hm => by have := d4 n hm; omega
        simp only [ν', this]
        rw [if_pos (.inr h2)]; exact h1
  · simp at ht

theorem eqEx_eq {e e' : Ex} (h : eqEx e e' = true) : e = e' := by
  cases e <;> cases e' <;> simp [eqEx] at h <;> first | rfl | (rw [h])
theorem takeE_one {p : Ex × Spec} {e : Ex} {st : St G} {y : p.2.T G} (h : takeE [p] e st = some y) : e = p.1 ∧ p.2.take st = some y := by
  have h : (bif eqEx e p.1 then p.2.take st else none) = some y := h
  generalize he : eqEx e p.1 = b at h
  cases b with
  | false => simp at h
  | true => exact ⟨eqEx_eq he, h⟩
theorem takeE_two {p q : Ex × Spec} {t : List (Ex × Spec)} {e : Ex} {st : St G} {y : Sum (p.2.T G) (SumE G (q :: t))} (h : takeE (p :: q :: t) e st = some y) :
    (∃ x, y = .inl x ∧ e = p.1 ∧ p.2.take st = some x) ∨ ∃ z, y = .inr z ∧ takeE (q :: t) e st = some z := by
  have h : (bif eqEx e p.1 then match p.2.take st with | some x => some (Sum.inl x) | none => none
      else match takeE (q :: t) e st with | some y => some (.inr y) | none => none) = some y := h
  generalize he : eqEx e p.1 = b at h
  cases b with
  | false =>
    simp only [cond_false] at h
    split at h
    · rename_i z hz
      exact .inr ⟨z, (Option.some.inj h).symm, hz⟩
    · simp at h
  | true =>
    simp only [cond_true] at h
    split at h
    · rename_i z hz
      exact .inl ⟨z, (Option.some.inj h).symm, eqEx_eq he, hz⟩
    · simp at h
theorem takeE_rel {cx : Cx} (hnu : ∀ n y, cx.nu0 n = some y → lo ≤ n) {R : Type} : ∀ (E : List (Ex × Spec)) {e : Ex} {st : St G} {y : SumE G E}, takeE E e st = some y → ∀ {a : Act} {w : World}, Rel G cx st a w → ∀ (k : Ex × St G → Option R) (o : R), caseE E y k = some o →
    ∃ st', k (e, st') = some o ∧ Rel G cx st' a w
  | [], _, _, y, _, _, _, _, _, _, _ => y.elim
  | [p], e, st, y, h, a, w, r, k, o, hk => by
    obtain ⟨rfl, h2⟩ := takeE_one h
    exact ⟨_, hk, Spec.take_rel h2 r hnu⟩
  | p :: q :: t, e, st, y, h, a, w, r, k, o, hk => by
    rcases takeE_two h with ⟨x, rfl, rfl, h3⟩ | ⟨z, rfl, h2⟩
    · exact ⟨_, hk, Spec.take_rel h3 r hnu⟩
    · exact takeE_rel hnu (q :: t) h2 r k o hk
theorem takeE_ex : ∀ (E : List (Ex × Spec)) (y : SumE G E) (e0 : Ex) (st : St G), takeE E e0 st = some y → ∀ o, caseE E y some = some o → o.1 = e0
  | [], y, _, _, _, _, _ => y.elim
  | [p], y, e0, st, h, o, ho => by
    obtain ⟨rfl, _⟩ := takeE_one h
    have ho : some (p.1, p.2.mk' y) = some o := ho
    rw [← Option.some.inj ho]
  | p :: q :: t, y, e0, st, h, o, ho => by
    rcases takeE_two h with ⟨x, rfl, rfl, h3⟩ | ⟨z, rfl, h2⟩
    · have ho : some (p.1, p.2.mk' x) = some o := ho
      rw [← Option.some.inj ho]
    · exact takeE_ex (q :: t) z e0 st h2 o ho

/-- Ways out that are cut down. -/
theorem cutM_spec {E : List (Ex × Spec)} {m : M (Ex × St G)} (hm : Law m) {e : Ex} {st' : St G} (h : cutM E m _ some = some (e, st')) :
    ∃ st, m _ some = some (e, st) ∧ ∀ {cx : Cx} (_ : ∀ n y, cx.nu0 n = some y → lo ≤ n) {a : Act} {w : World}, Rel G cx st a w → Rel G cx st' a w := by
  unfold cutM at h
  have hl := hm (SumE G E) fun p => takeE E p.1 p.2
  rw [hl] at h
  cases hv : m _ some with
  | none => rw [hv] at h; simp at h
  | some p =>
    rw [hv] at h
    simp only [Option.bind] at h
    cases hy : takeE E p.1 p.2 with
    | none => rw [hy] at h; simp at h
    | some y =>
      rw [hy] at h
      simp only at h
      have he := takeE_ex E y p.1 p.2 hy _ h
      simp at he
      subst he
      refine ⟨p.2, rfl, fun {cx} hnu {a w} r => ?_⟩
      obtain ⟨st2, h1, h2⟩ := takeE_rel hnu E hy r some _ h
      simp at h1; subst h1; exact h2
theorem caseE_law {R : Type} : ∀ (E : List (Ex × Spec)) (y : SumE G E) (k : Ex × St G → Option R), caseE E y k = (caseE E y some).bind k
  | [], y, _ => y.elim
  | [p], y, k => rfl
  | p :: q :: t, y, k => by
    cases y with
    | inl x => rfl
    | inr y => exact caseE_law (q :: t) y k
theorem law_cutM {E : List (Ex × Spec)} {m : M (Ex × St G)} : Law (cutM E m) := by
  intro R k
  unfold cutM
  cases m _ (fun p => takeE E p.1 p.2) with
  | none => rfl
  | some y => exact caseE_law E y k
theorem law_cutO {j : Option (List (Ex × Spec))} {m : M (Ex × St G)} (hm : Law m) : Law (cutO j m) := by
  cases j with
  | none => exact hm
  | some E => exact law_cutM
theorem cutO_spec {j : Option (List (Ex × Spec))} {m : M (Ex × St G)} (hm : Law m) {e : Ex} {st' : St G} (h : cutO j m _ some = some (e, st')) :
    ∃ st, m _ some = some (e, st) ∧ ∀ {cx : Cx} (_ : ∀ n y, cx.nu0 n = some y → lo ≤ n) {a : Act} {w : World}, Rel G cx st a w → Rel G cx st' a w := by
  cases j with
  | none => exact ⟨st', h, fun {_} _ {_ _} r => r⟩
  | some E => exact cutM_spec hm h
end Go.Ab
