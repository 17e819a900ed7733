/- A state cut down to a shape still stands for what it stood for. -/
import Derived.Test.YtfooilbkiclplaaAb14
namespace Go.Ab
variable {G : Sig}

theorem castL_self {t t' : Nat} {l : List (G.T t)} {l' : List (G.T t')} (h : castL G t t' l = some l') : ∃ e : t = t', e ▸ l = l' := by
  unfold castL at h
  split at h
  · rename_i e; simp at h; exact ⟨e, h⟩
  · simp at h
theorem rowAt_spec {h : Nat → Option (Blk G.T)} {n t : Nat} {l : List (G.T t)} (hr : rowAt h n t = some l) : h n = some (.row t l) := by
  unfold rowAt at hr
  split at hr
  · rename_i t' l' hn
    obtain ⟨rfl, rfl⟩ := castL_self hr
    exact hn
  · simp at hr
theorem castT_self {t t' : Nat} {x : G.T t} {x' : G.T t'} (h : castT G t t' x = some x') : ∃ e : t = t', e ▸ x = x' := by
  unfold castT at h
  split at h
  · rename_i e; simp at h; exact ⟨e, h⟩
  · simp at h
theorem isNilS_eq {v : Value} (h : isNilS v = true) : v = .slice none 0 0 := by
  unfold isNilS at h
  split at h
  · rfl
  · simp at h
theorem eqNN_eq : ∀ {a b : List (Nat × Nat)}, eqNN a b = true → a = b
  | [], [], _ => rfl
  | [], _ :: _, h => by simp [eqNN] at h
  | _ :: _, [], h => by simp [eqNN] at h
  | (x, y) :: s, (u, v) :: t, h => by
    simp only [eqNN, Bool.and_eq_true] at h
    rw [eqNN_eq h.2]
    have h1 : x = u := beq_true.1 h.1.1
    have h2 : y = v := beq_true.1 h.1.2
    rw [h1, h2]
theorem allHas_spec {l : List Nat} : ∀ {m : List Nat}, allHas l m = true → ∀ n ∈ m, n ∈ l
  | [], _, _, h => by simp at h
  | k :: t, h, n, hn => by
    simp only [allHas, Bool.and_eq_true] at h
    rcases List.mem_cons.1 hn with rfl | hn
    · exact (has_iff l n).1 h.1
    · exact allHas_spec h.2 n hn
theorem mem_fstsP : ∀ {p : List (Nat × Nat)} {q : Nat × Nat}, q ∈ p → q.1 ∈ fstsP p
  | x :: t, q, h => by
    rcases List.mem_cons.1 h with rfl | h
    · simp [fstsP]
    · simp [fstsP, mem_fstsP h]

structure Ren (ν ν' : Nat → Option Value) (S S' : Nat → Prop) (h : Nat → Option (Blk G.T)) (H : List Nat) (nm : List (Nat × Option Nat)) (fz : List Nat) : Prop where
  own : ∀ p ∈ nm, ν' p.1 = match p.2 with | some n => ν n | none => some (.slice none 0 0)
  keep : ∀ n ∈ H, ν' n = ν n
  frz : ∀ n ∈ fz, h n ≠ none → ∀ x b, ν n = some x → blkOf x = some b → S' b
  sub : ∀ b, S b → S' b
section
variable {ν ν' : Nat → Option Value} {S S' B : Nat → Prop} {h : Nat → Option (Blk G.T)} {H : List Nat} {w : World}
theorem Ren.left {a b : List (Nat × Option Nat)} {c d : List Nat} (r : Ren ν ν' S S' h H (a ++ b) (c ++ d)) : Ren ν ν' S S' h H a c :=
  ⟨fun p hp => r.own p (by simp [hp]), r.keep, fun n hn => r.frz n (by simp [hn]), r.sub⟩
theorem Ren.right {a b : List (Nat × Option Nat)} {c d : List Nat} (r : Ren ν ν' S S' h H (a ++ b) (c ++ d)) : Ren ν ν' S S' h H b d :=
  ⟨fun p hp => r.own p (by simp [hp]), r.keep, fun n hn => r.frz n (by simp [hn]), r.sub⟩
theorem Ren.rptr {nm : List (Nat × Option Nat)} {fz : List Nat} (r : Ren ν ν' S S' h H nm fz) {p : Nat × Nat} (hp : p.1 ∈ H) {v : Value} (hv : RPtr ν p v) : RPtr ν' p v := by
  obtain ⟨b, h1, h2⟩ := hv
  exact ⟨b, by rw [r.keep _ hp]; exact h1, h2⟩
theorem Ren.rptrs {nm : List (Nat × Option Nat)} {fz : List Nat} (r : Ren ν ν' S S' h H nm fz) {p : List (Nat × Nat)} (hp : allHas H (fstsP p) = true) {vs : List Value} (hv : F2 (RPtr ν) p vs) : F2 (RPtr ν') p vs :=
  ⟨hv.1, fun i x y hx hy => r.rptr (allHas_spec hp _ (mem_fstsP (List.mem_of_getElem? hx))) (hv.2 i x y hx hy)⟩

/-- What is known of the rows that a shape owns. -/
def RowsOK (G : Sig) (ν' : Nat → Option Value) (S' : Nat → Prop) (w : World) (h : Nat → Option (Blk G.T)) (nm : List (Nat × Option Nat)) (bl : List (Nat × Blk G.T)) : Prop :=
  (∀ p ∈ bl, Rb G ν' S' w.heap p.1 p.2) ∧ keysB bl = keysN nm ∧ ∀ p ∈ nm, ∀ n, p.2 = some n → h n ≠ none
theorem keysB_append (a b : List (Nat × Blk G.T)) : keysB (a ++ b) = keysB a ++ keysB b := by induction a with | nil => rfl | cons x t ih => simp [keysB, ih]
theorem keysN_append (a b : List (Nat × Option Nat)) : keysN (a ++ b) = keysN a ++ keysN b := by induction a with | nil => rfl | cons x t ih => simp [keysN, ih]
theorem RowsOK.append {nm nm' : List (Nat × Option Nat)} {bl bl' : List (Nat × Blk G.T)} (r : RowsOK G ν' S' w h nm bl) (r' : RowsOK G ν' S' w h nm' bl') : RowsOK G ν' S' w h (nm ++ nm') (bl ++ bl') :=
  ⟨fun p hp => (List.mem_append.1 hp).elim (r.1 p) (r'.1 p), by rw [keysB_append, keysN_append, r.2.1, r'.2.1], fun p hp => (List.mem_append.1 hp).elim (r.2.2 p) (r'.2.2 p)⟩
theorem RowsOK.nil : RowsOK G ν' S' w h [] [] := ⟨by simp, rfl, by simp⟩

theorem CSh.take_sound (hr : HRel G ν S B h w) {s : CSh} {c : Cv G.T} {t : Tk (s.T G)} (ht : s.take h c = some t) (hf : s.fix H = true) (rn : Ren ν ν' S S' h H t.nm t.fz) {v : Value} (hc : Rc G ν S w.heap c v) :
    Rc G ν' S' w.heap (s.give t.x) v ∧ RowsOK G ν' S' w h t.nm (s.blk t.x) := by
  have rd : ∀ {c : Cv G.T} {v : Value}, Rd G S w.heap c v → Rd G S' w.heap c v := fun r => r.mono rn.sub fun _ _ => rfl
  cases s with
  | int k =>
    cases c with
    | sc u =>
      cases u with
      | int k' n =>
        simp only [CSh.take] at ht
        cases hk : eqIK k k' with
        | false => rw [hk] at ht; simp at ht
        | true =>
          rw [hk] at ht; simp [tk0] at ht; subst ht
          rw [eqIK_eq hk]
          exact ⟨rd hc, .nil⟩
      | _ => simp [CSh.take] at ht
    | _ => simp [CSh.take] at ht
  | bool =>
    cases c with
    | sc u => cases u <;> simp [CSh.take, tk0] at ht; subst ht; exact ⟨rd hc, .nil⟩
    | _ => simp [CSh.take] at ht
  | str =>
    cases c with
    | sc u => cases u <;> simp [CSh.take, tk0] at ht; subst ht; exact ⟨rd hc, .nil⟩
    | _ => simp [CSh.take] at ht
  | flt k =>
    cases c with
    | sc u =>
      cases u with
      | float k' n =>
        simp only [CSh.take] at ht
        cases hk : eqFK k k' with
        | false => rw [hk] at ht; simp at ht
        | true =>
          rw [hk] at ht; simp [tk0] at ht; subst ht
          rw [eqFK_eq hk]
          exact ⟨rd hc, .nil⟩
      | _ => simp [CSh.take] at ht
    | _ => simp [CSh.take] at ht
  | own m t' =>
    cases c with
    | own n =>
      simp only [CSh.take] at ht
      split at ht
      · rename_i l hl
        simp at ht; subst ht
        have hn := rowAt_spec hl
        have ho := rn.own (m, some n) (by simp)
        simp only at ho
        obtain ⟨av, len, cap, h1, h2⟩ := hc
        refine ⟨⟨av, len, cap, ho.trans h1, h2⟩, fun p hp => ?_, rfl, fun p hp n' hp' => ?_⟩
        · simp [CSh.blk] at hp; subst hp
          rcases hr.blk n _ hn with ⟨g1, g2⟩ | ⟨b, cap', cs, te, g1, g2, g3, g4, g5, g6⟩
          · exact .inl ⟨ho.trans g1, g2⟩
          · refine .inr ⟨b, cap', cs, te, ho.trans g1, g2, g3, g4, fun i j x cv hx hcv => ?_, g6⟩
            obtain ⟨u, hu, hrd⟩ := g5 i j x cv hx hcv
            exact ⟨u, hu, rd hrd⟩
        · simp at hp; subst hp; simp at hp'; subst hp'; rw [hn]; simp
      · simp at ht
    | sc u =>
      simp only [CSh.take] at ht
      cases hk : isNilS u with
      | false => rw [hk] at ht; simp at ht
      | true =>
        rw [hk] at ht; simp at ht; subst ht
        have hu := isNilS_eq hk; subst hu
        have ho := rn.own (m, none) (by simp)
        simp only at ho
        have hv : v = .slice none 0 0 := by have hc : Rd G S w.heap (.sc (.slice none 0 0)) v := hc; cases hc; rfl
        subst hv
        refine ⟨⟨none, 0, 0, ho, rfl⟩, fun p hp => ?_, rfl, fun p hp n' hp' => ?_⟩
        · simp [CSh.blk] at hp; subst hp
          exact .inl ⟨ho, rfl⟩
        · simp at hp; subst hp; simp at hp'
    | _ => simp [CSh.take] at ht
  | ro t' =>
    cases c with
    | ro t'' l =>
      simp only [CSh.take] at ht
      split at ht
      · rename_i l' hl
        obtain ⟨rfl, rfl⟩ := castL_self hl
        simp [tk0] at ht; subst ht
        exact ⟨rd hc, .nil⟩
      · simp at ht
    | own n =>
      simp only [CSh.take] at ht
      split at ht
      · rename_i l hl
        simp at ht; subst ht
        have hn := rowAt_spec hl
        refine ⟨?_, .nil⟩
        obtain ⟨av, len, cap, hν, rfl⟩ := hc
        rcases hr.blk n _ hn with ⟨h1, h2⟩ | ⟨b, cap', c, te, h1, h2, h3, h4, h5⟩
        · rw [hν] at h1; simp at h1; obtain ⟨rfl, rfl, rfl⟩ := h1
          simp only [CSh.give]; rw [h2]
          exact .nil _ _ _
        · rw [hν] at h1; simp at h1; obtain ⟨rfl, rfl, rfl⟩ := h1
          have hSb : S' b := rn.frz n (by simp) (by rw [hn]; simp) _ b hν rfl
          show Rd G S' w.heap (.ro t' l) _
          refine .ro t' l b 0 cap c te (0, 0) (fun i j => c.getD (i * G.sz t' + j) undef) hSb h2 h3 (fun i j hi hj => ?_) (fun i j x cv hx hcv => ?_)
          · have hm : (i + 1) * G.sz t' ≤ cap * G.sz t' := Nat.mul_le_mul_right _ (by omega)
            rw [Nat.add_mul] at hm
            have hlt : i * G.sz t' + j < c.size := by omega
            rw [Nat.zero_add]; simp [hlt]
          · obtain ⟨v, hv, hrd⟩ := h5.1 i j x cv hx hcv
            have : c.getD (i * G.sz t' + j) undef = v := by rw [Array.getD_eq_getD_getElem?, hv]; rfl
            rw [this]
            exact rd hrd
      · simp at ht
    | sc u =>
      simp only [CSh.take] at ht
      cases hk : isNilS u with
      | false => rw [hk] at ht; simp at ht
      | true =>
        rw [hk] at ht; simp [tk0] at ht; subst ht
        have hu := isNilS_eq hk; subst hu
        have hv : v = .slice none 0 0 := by have hc : Rd G S w.heap (.sc (.slice none 0 0)) v := hc; cases hc; rfl
        subst hv
        exact ⟨Rd.nil _ _ _, .nil⟩
    | _ => simp [CSh.take] at ht
  | rp t' off =>
    cases c with
    | rp t'' x off' =>
      simp only [CSh.take] at ht
      cases hk : Nat.beq off off' with
      | false => rw [hk] at ht; simp at ht
      | true =>
        rw [hk, cond_true] at ht
        have e := beq_true.1 hk; subst e
        split at ht
        · rename_i x' hx
          obtain ⟨rfl, rfl⟩ := castT_self hx
          simp [tk0] at ht; subst ht
          exact ⟨rd hc, .nil⟩
        · simp at ht
    | _ => simp [CSh.take] at ht
  | ptr n off =>
    cases c with
    | ptr n' off' =>
      simp only [CSh.take] at ht
      cases hk : (Nat.beq n n' && Nat.beq off off') with
      | false => rw [hk] at ht; simp at ht
      | true =>
        rw [hk, cond_true] at ht
        simp only [Bool.and_eq_true] at hk
        have e1 : n = n' := beq_true.1 hk.1
        have e2 : off = off' := beq_true.1 hk.2
        subst e1; subst e2
        simp [tk0] at ht; subst ht
        exact ⟨rn.rptr ((has_iff H n).1 hf) hc, .nil⟩
    | _ => simp [CSh.take] at ht
  | clo f p q =>
    cases c with
    | clo f' p' q' =>
      simp only [CSh.take] at ht
      cases hk : (Nat.beq f f' && eqNN p p' && eqNN q q') with
      | false => rw [hk] at ht; simp at ht
      | true =>
        rw [hk, cond_true] at ht
        simp only [Bool.and_eq_true] at hk
        have e1 : f = f' := beq_true.1 hk.1.1
        have e2 := eqNN_eq hk.1.2
        have e3 := eqNN_eq hk.2
        subst e1; subst e2; subst e3
        simp [tk0] at ht; subst ht
        simp only [CSh.fix, Bool.and_eq_true] at hf
        obtain ⟨vp, vq, h1, h2, h3⟩ := hc
        exact ⟨⟨vp, vq, h1, rn.rptrs hf.1 h2, rn.rptrs hf.2 h3⟩, .nil⟩
    | _ => simp [CSh.take] at ht

theorem takeL_sound (hr : HRel G ν S B h w) : ∀ (s : List CSh) (cs : List (Cv G.T)) (t : Tk (TL G s)), takeL h s cs = some t → s.all (CSh.fix H) = true → Ren ν ν' S S' h H t.nm t.fz → ∀ vs : List Value, F2 (Rc G ν S w.heap) cs vs →
    F2 (Rc G ν' S' w.heap) (giveL s t.x) vs ∧ RowsOK G ν' S' w h t.nm (blkL s t.x)
  | [], [], t, ht, _, _, vs, hc => by
    simp [takeL, tk0] at ht; subst ht
    exact ⟨by rw [hc.inv_nil]; exact .nil, .nil⟩
  | [], _ :: _, _, ht, _, _, _, _ => by simp [takeL] at ht
  | _ :: _, [], _, ht, _, _, _, _ => by simp [takeL] at ht
  | s :: ss, c :: cs, t, ht, hf, rn, vs, hc => by
    simp only [takeL] at ht
    split at ht
    · rename_i a b ha hb
      simp at ht; subst ht
      simp only [List.all_cons, Bool.and_eq_true] at hf
      obtain ⟨v, vs', rfl, hv, hvs⟩ := hc.inv
      have h1 := CSh.take_sound hr ha hf.1 rn.left hv
      have h2 := takeL_sound hr ss cs b hb hf.2 rn.right vs' hvs
      exact ⟨h2.1.cons h1.1, h1.2.append h2.2⟩
    · simp at ht
theorem PSh.take_sound (hr : HRel G ν S B h w) {s : PSh} {c : Pv G.T} {t : Tk (s.T G)} (ht : s.take h c = some t) (hf : s.fix H = true) (rn : Ren ν ν' S S' h H t.nm t.fz) {v : Value} (hc : Rp G ν S w.heap c v) :
    Rp G ν' S' w.heap (s.give t.x) v ∧ RowsOK G ν' S' w h t.nm (s.blk t.x) := by
  cases s with
  | one s =>
    cases hc with
    | one c v hc =>
      obtain ⟨x, nm, fz⟩ := t
      have h1 := CSh.take_sound (ν' := ν') (S' := S') (H := H) hr (s := s) (t := ⟨x, nm, fz⟩) ht hf rn hc
      exact ⟨Rp.one (s.give x) v h1.1, h1.2⟩
    | agg cs vs hc => exact absurd (show (none : Option (Tk (s.T G))) = some t from ht) (by simp)
  | agg ss =>
    cases hc with
    | one c v hc => exact absurd (show (none : Option (Tk (TL G ss))) = some t from ht) (by simp)
    | agg cs vs hc =>
      obtain ⟨x, nm, fz⟩ := t
      have h1 := takeL_sound (ν' := ν') (S' := S') (H := H) hr ss cs ⟨x, nm, fz⟩ ht hf rn vs hc
      exact ⟨Rp.agg (giveL ss x) vs h1.1, h1.2⟩
theorem takeTm_sound (hr : HRel G ν S B h w) {tm : List (Nat × Sv G.T)} {f : Nat → Value} (hs : ∀ k s, get tm k = some s → Rs G ν S w.heap s (f k)) : ∀ (s : List (Nat × PSh)) (t : Tk (TmT G s)), takeTm h tm s = some t → s.all (fun p => p.2.fix H) = true →
    Ren ν ν' S S' h H t.nm t.fz → (∀ k v, get (giveTm s t.x) k = some v → Rs G ν' S' w.heap v (f k)) ∧ RowsOK G ν' S' w h t.nm (blkTm s t.x)
  | [], t, ht, _, _ => by
    simp [takeTm, tk0] at ht; subst ht
    exact ⟨fun k v h => by simp [giveTm, get] at h, .nil⟩
  | p :: ss, t, ht, hf, rn => by
    simp only [takeTm] at ht
    split at ht
    · rename_i c hc
      split at ht
      · rename_i a b ha hb
        simp at ht; subst ht
        simp only [List.all_cons, Bool.and_eq_true] at hf
        have hrs := hs p.1 _ hc
        generalize hfk : f p.1 = v0 at hrs
        cases hrs with
        | p _ _ hrp =>
        obtain ⟨g1, g2⟩ := PSh.take_sound hr ha hf.1 rn.left hrp
        obtain ⟨g3, g4⟩ := takeTm_sound hr hs ss b hb hf.2 rn.right
        refine ⟨fun k v hk => ?_, g2.append g4⟩
        simp only [giveTm, get, beq_ite] at hk
        by_cases e : p.1 = k
        · rw [if_pos e] at hk; simp at hk; subst hk; rw [← e, hfk]; exact .p _ _ g1
        · rw [if_neg e] at hk; exact g3 k v hk
      · simp at ht
    · simp at ht
theorem takeHp_sound (hr : HRel G ν S B h w) : ∀ (s : List (Nat × List CSh)) (t : Tk (HpT G s)), takeHp h s = some t → (∀ n ∈ keysH s, n ∈ H) → s.all (fun p => p.2.all (CSh.fix H)) = true →
    Ren ν ν' S S' h H t.nm t.fz → (∀ p ∈ giveHp s t.x, Rb G ν' S' w.heap p.1 p.2) ∧ keysB (giveHp s t.x) = keysH s ∧ (∀ n ∈ keysH s, ∃ cs, h n = some (.cells cs)) ∧ RowsOK G ν' S' w h t.nm (blkHp s t.x)
  | [], t, ht, _, _, _ => by
    simp [takeHp, tk0] at ht; subst ht
    exact ⟨by simp [giveHp], rfl, by simp [keysH], .nil⟩
  | p :: ss, t, ht, hk, hf, rn => by
    simp only [takeHp] at ht
    split at ht
    · rename_i cs hc
      split at ht
      · rename_i a b ha hb
        simp at ht; subst ht
        simp only [List.all_cons, Bool.and_eq_true] at hf
        obtain ⟨bb, c, te, q1, q2, q3⟩ := hr.blk p.1 _ hc
        obtain ⟨g1, g2⟩ := takeL_sound hr p.2 cs a ha hf.1 rn.left c.toList q3
        obtain ⟨g3, g5, g6, g4⟩ := takeHp_sound hr ss b hb (fun n hn => hk n (by simp [keysH, hn])) hf.2 rn.right
        refine ⟨fun q hq => ?_, by simp only [giveHp, keysB, keysH, g5], fun n hn => ?_, g2.append g4⟩
        · simp only [giveHp, List.mem_cons] at hq
          rcases hq with rfl | hq
          · exact ⟨bb, c, te, by rw [rn.keep _ (hk _ (by simp [keysH]))]; exact q1, q2, g1⟩
          · exact g3 q hq
        · simp only [keysH, List.mem_cons] at hn
          rcases hn with rfl | hn
          · exact ⟨cs, hc⟩
          · exact g6 n hn
      · simp at ht
    · simp at ht
end
end Go.Ab
