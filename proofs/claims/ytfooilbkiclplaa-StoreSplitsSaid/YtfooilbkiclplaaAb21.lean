/- Regions whose order is drawn: the answer, at the model's own choice of an order. -/
import Derived.Test.YtfooilbkiclplaaAb20
namespace Go.Ab
variable {G : Sig}

theorem countP_lt {α : Type} {p q : α → Bool} : ∀ (l : List α) (x : α), x ∈ l → (∀ y ∈ l, q y = true → p y = true) → p x = true → q x = false → l.countP q < l.countP p
  | [], _, h, _, _, _ => by simp at h
  | y :: t, x, h, hi, hp, hq => by
    rcases List.mem_cons.1 h with rfl | h
    · rw [List.countP_cons_of_neg (by simp [hq]), List.countP_cons_of_pos hp]
      have : t.countP q ≤ t.countP p := List.countP_mono_left fun z hz hqz => hi z (by simp [hz]) hqz
      omega
    · have ih := countP_lt t x h (fun z hz => hi z (by simp [hz])) hp hq
      cases hy : q y with
      | false =>
        rw [List.countP_cons_of_neg (by simp [hy])]
        rw [List.countP_cons]
        omega
      | true =>
        rw [List.countP_cons_of_pos hy, List.countP_cons_of_pos (hi y (by simp) hy)]
        omega

section
variable {P : Program} (ok : SigOK P G) (eqok : EqOK P G) {cf : CallF G} (cfok : CfOK P G cf) (cfl : CfLoc cf) {nt : Nat} {ops : Array Oper}
variable {st : St G} {outs : List (Out G)}

def left (n : Nat) (listed : Array Bool) : Nat := (List.range n).countP fun i => !listed.getD i true
theorem getD_set {listed : Array Bool} {i : Nat} (h : i < listed.size) (j : Nat) (d : Bool) : (listed.setIfInBounds i true).getD j d = if j = i then true else listed.getD j d := by
  simp only [Array.getD_eq_getD_getElem?, Array.getElem?_setIfInBounds]
  by_cases e : j = i
  · subst e; simp [h]
  · simp [Ne.symm e, e]
theorem getD_any {listed : Array Bool} {n i : Nat} (hs : listed.size = n) (hi : i < n) (d d' : Bool) : listed.getD i d = listed.getD i d' := by
  simp [Array.getD_eq_getD_getElem?, hs, hi]
theorem mem_ready {listed : Array Bool} {i : Nat} : i ∈ Region.ready .any ops listed ↔ i < ops.size ∧ listed.getD i true = false ∧ ∃ o, ops[i]? = some o ∧ ∀ e ∈ o.after.toList, Region.binds .any e = true → listed.getD e.on false = true := by
  unfold Region.ready
  rw [List.mem_filter, List.mem_range]
  constructor
  · rintro ⟨h1, h2⟩
    rw [Bool.and_eq_true, Bool.not_eq_true'] at h2
    refine ⟨h1, h2.1, ops[i], Array.getElem?_eq_getElem h1, ?_⟩
    have h3 := h2.2
    rw [Array.getElem?_eq_getElem h1] at h3
    simp only [Option.map_some, Option.getD_some] at h3
    intro e he hb
    rw [← Array.all_toList, List.all_eq_true] at h3
    have := h3 e he
    rw [hb] at this
    simpa using this
  · rintro ⟨h1, h2, o, h3, h4⟩
    refine ⟨h1, ?_⟩
    rw [h2, h3]
    simp only [Bool.not_false, Option.map_some, Option.getD_some, Bool.true_and]
    rw [← Array.all_toList, List.all_eq_true]
    intro e he
    cases hb : Region.binds .any e with
    | false => rfl
    | true => simpa using h4 e he hb

include ok eqok cfok cfl in
theorem any_sound {cx : Cx} (dn : Done cf cx.nt ops st outs) {Q : Exit → Act → World → Prop} (hQ : ∀ a' w', Rel G cx (replay (fun _ => true) 0 (recs ops.toList outs) st) a' w' → Q .normal a' w') :
    ∀ (fuel : Nat) (listed : Array Bool) (a : Act) (w : World), listed.size = ops.size → Down ops (fun i => listed.getD i false) → left ops.size listed ≤ fuel →
      Rel G cx (replay (fun i => listed.getD i false) 0 (recs ops.toList outs) st) a w → wpAny P .any ops Q fuel listed a w := by
  have full : ∀ (listed : Array Bool) (a : Act) (w : World), listed.size = ops.size → (∀ i, i < ops.size → listed.getD i false = true) → Rel G cx (replay (fun i => listed.getD i false) 0 (recs ops.toList outs) st) a w → Q .normal a w := by
    intro listed a w _ hall r
    refine hQ a w (r.ext (replay_ext _ _ _ _ _ (fun i hi => ?_) ExtEq.rfl'))
    rw [Nat.zero_add]
    refine hall i ?_
    have := (recs_get (List.getElem?_eq_getElem hi)).choose_spec.1
    have := (List.getElem?_eq_some_iff.1 this).1
    simpa using this
  have none_ready : ∀ (listed : Array Bool), listed.size = ops.size → Region.ready .any ops listed = [] → ∀ (n i : Nat), i < n → i < ops.size → listed.getD i false = true := by
    intro listed hs hr n
    induction n with
    | zero => intro i h; omega
    | succ n ih =>
      intro i hin hi
      cases hb : listed.getD i false with
      | true => rfl
      | false =>
        have : i ∈ Region.ready .any ops listed := by
          refine mem_ready.2 ⟨hi, by rw [getD_any hs hi true false]; exact hb, ops[i], Array.getElem?_eq_getElem hi, fun e he hbd => ?_⟩
          have hlt := allEdges_spec dn.edges i ops[i] (by simp [hi]) e he hbd
          exact ih e.on (by omega) (by omega)
        rw [hr] at this; simp at this
  intro fuel
  induction fuel with
  | zero =>
    intro listed a w hs hD hl r
    have hall : ∀ i, i < ops.size → listed.getD i false = true := by
      intro i hi
      have h0 : left ops.size listed = 0 := by omega
      unfold left at h0
      rw [List.countP_eq_zero] at h0
      have := h0 i (by simp [hi])
      simp only [Bool.not_eq_true', Bool.not_eq_false] at this
      rw [getD_any hs hi false true]; exact this
    refine ⟨?_, full listed a w hs hall r⟩
    cases hr : Region.ready .any ops listed with
    | nil => rfl
    | cons i t =>
      have : i ∈ Region.ready .any ops listed := by rw [hr]; simp
      obtain ⟨h1, h2, _⟩ := mem_ready.1 this
      rw [getD_any hs h1 true false, hall i h1] at h2; simp at h2
  | succ fuel ih =>
    intro listed a w hs hD hl r
    refine ⟨fun hr => full listed a w hs (fun i hi => none_ready listed hs hr (i + 1) i (by omega) hi) r, fun i hi => ?_⟩
    obtain ⟨h1, h2, o, ho, hpre⟩ := mem_ready.1 hi
    rw [getD_any hs h1 true false] at h2
    have hlen : i < outs.length := by rw [dn.len]; exact h1
    have hout : outs[i]? = some outs[i] := List.getElem?_eq_getElem hlen
    have hstep := step_any cfl dn hD ho hout h2 hpre
    have hnext := next_any dn hD ho hout h2 hpre (D' := fun j => (listed.setIfInBounds i true).getD j false) (by show Array.getD _ _ _ = true; rw [getD_set (by omega)]; simp)
      (fun j hj => by show Array.getD _ _ _ = _; rw [getD_set (by omega), if_neg hj])
    have hD' : Down ops (fun j => (listed.setIfInBounds i true).getD j false) := by
      intro j p hp hj e he hb
      show Array.getD _ _ _ = true
      have hj : Array.getD _ _ _ = true := hj
      rw [getD_set (by omega)] at hj ⊢
      by_cases e1 : e.on = i
      · rw [if_pos e1]
      · rw [if_neg e1]
        by_cases e2 : j = i
        · subst e2
          rw [ho] at hp; simp at hp; subst hp
          exact hpre e he hb
        · rw [if_neg e2] at hj
          exact hD j p hp hj e he hb
    have hwp := stepR_wp ok eqok cfok hstep r (K := wpAny P .any ops Q fuel (listed.setIfInBounds i true)) (Q := Q) fun a' w' r' =>
      ih (listed.setIfInBounds i true) a' w' (by simp [hs]) hD' (by
        have : left ops.size (listed.setIfInBounds i true) < left ops.size listed := by
          refine countP_lt _ i (by simp [h1]) (fun j _ hq => ?_) (by rw [getD_any hs h1 true false, h2]; rfl) (by rw [getD_set (by omega)]; simp)
          rw [getD_set (by omega)] at hq
          by_cases e : j = i
          · rw [if_pos e] at hq; simp at hq
          · rw [if_neg e] at hq; exact hq
        omega) (r'.ext hnext)
    unfold wpOp
    rw [ho]
    simp only
    by_cases hw : Region.wanted o (yielded ops a.tmps) = true
    · rw [if_pos hw] at hwp ⊢; exact .inl hwp
    · rw [if_neg hw] at hwp ⊢; exact hwp

include ok eqok cfok cfl in
theorem drawnX_ok (hm : P.follows .mixedOrders = true) : DrawOK P G nt (drawnX cf nt) := by
  refine ⟨fun ops st => law_bind (law_need _) fun _ => law_bind (law_runD cfok _ _) fun _ => law_bind (law_need _) fun _ => law_ret _, ?_⟩
  intro ops st st' h cx a w id Q hnt hrel hQ
  subst hnt
  unfold drawnX at h
  obtain ⟨h1, h2⟩ := M.bindneed h
  obtain ⟨⟨outs, st1⟩, h3, h4⟩ := (law_runD cfok (ops := ops) ops.toList st).spec (M.bind_spec h2)
  obtain ⟨h5, h6⟩ := M.bindneed h4
  simp [M.ret] at h6; subst h6
  obtain ⟨e1, e2, e3⟩ := runD_spec cfok ops.toList st st1 outs h3
  rw [Bool.and_eq_true] at h1
  have dn : Done cf cx.nt ops st outs := ⟨by simpa using e1, h1.1, h1.2, h5, fun i o out hi ho => e3 i o out (by simpa using hi) ho⟩
  refine wp_region_any hm (any_sound ok eqok cfok cfl dn (fun a' w' r' => hQ a' w' (r'.ext e2.symm)) ops.size _ a _ (by simp) ?_ ?_ ?_)
  · intro j o _ hj
    have hj : (Array.replicate ops.size false).getD j false = true := hj
    simp [Array.getD_eq_getD_getElem?, Array.getElem?_replicate] at hj
    split at hj <;> simp at hj
  · exact Nat.le_trans List.countP_le_length (by simp)
  · refine (hrel.drawn _).ext ?_
    have : replay (fun i => (Array.replicate ops.size false).getD i false) 0 (recs ops.toList outs) st = st := by
      have e : (fun i => (Array.replicate ops.size false).getD i false) = fun _ => false := by
        funext i
        simp only [Array.getD_eq_getD_getElem?, Array.getElem?_replicate]
        split <;> rfl
      rw [e, replay_none]
    rw [this]
    exact ExtEq.rfl'
end
end Go.Ab
