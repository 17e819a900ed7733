/- Regions whose order is drawn: every order comes to the same. -/
import Derived.Test.YtfooilbkiclplaaAb18
import Derived.Orders
namespace Go.Ab
variable {G : Sig}

/-! ### The evaluator -/
section
variable (cf : CallF G) (nt : Nat)
/-- One step, with what came of it. -/
def stepD (ops : Array Oper) (o : Oper) (st : St G) : M (Out G × St G) :=
  M.bind (M.need (dstOk nt o.dst)) fun _ => M.bind (guardOf ops st.tm o) fun g =>
    match g.1 with
    | true => M.bind (act cf (evalO st.tm) (get st.hp) (dstOf 0 o.dst) o.op) fun out =>
        M.bind (M.need (fresh st.us out.nw)) fun _ => M.ret (out, (st.note g.2).next o.dst out)
    | false => M.ret (⟨some (.tup []), [], [], []⟩, (st.note g.2).next o.dst ⟨some (.tup []), [], [], []⟩)
def runD (ops : Array Oper) : List Oper → St G → M (List (Out G) × St G)
  | [], st => M.ret ([], st)
  | o :: t, st => M.bind (stepD cf nt ops o st) fun p => M.bind (runD ops t p.2) fun q => M.ret (p.1 :: q.1, q.2)
end
def maskOf (acc : List Nat) : List Edge → Nat
  | [] => 0
  | e :: t => bif Region.binds .any e then Nat.lor (Nat.lor (2 ^ e.on) (acc.getD e.on 0)) (maskOf acc t) else maskOf acc t
def edgesOK (n : Nat) : List Edge → Bool
  | [] => true
  | e :: t => (!Region.binds .any e || Nat.blt e.on n) && edgesOK n t
def masks : List Oper → List Nat → List Nat
  | [], acc => acc
  | o :: t, acc => masks t (acc ++ [maskOf acc o.after.toList])
def allEdges : Nat → List Oper → Bool
  | _, [] => true
  | n, o :: t => edgesOK n o.after.toList && allEdges (n + 1) t
/-- For each place of the first list, for each later place: either ordered or apart. -/
def pairs {α : Type} (f : α → α → Bool) (ms : List Nat) (l : List α) : Bool :=
  go 0 l
where
  one (x : α) (i j : Nat) : List α → Bool
    | [] => true
    | y :: t => (f x y || Nat.testBit (ms.getD j 0) i) && one x i (j + 1) t
  go (i : Nat) : List α → Bool
    | [] => true
    | x :: t => one x i (i + 1) t && go (i + 1) t
def keysD : List (Nat × Option (Blk G.T)) → List Nat
  | [] => []
  | (n, _) :: t => n :: keysD t
def disj : List Nat → List Nat → Bool
  | [], _ => true
  | n :: t, l => !has l n && disj t l
def apartO (x y : Out G) : Bool := disj (keysD x.d) y.rd && disj (keysD x.d) (keysD y.d) && disj (keysD y.d) x.rd
def drawnX (cf : CallF G) (nt : Nat) (ops : Array Oper) (st : St G) : M (St G) :=
  M.bind (M.need (allEdges 0 ops.toList && pairs (fun x y => Oper.apart ops x y) (masks ops.toList []) ops.toList)) fun _ =>
  M.bind (runD cf nt ops ops.toList st) fun p =>
  M.bind (M.need (pairs apartO (masks ops.toList []) p.1)) fun _ => M.ret p.2

/-! ### The order of the edges -/
theorem pairs_spec {α : Type} {f : α → α → Bool} {ms : List Nat} {l : List α} (h : pairs f ms l = true) : ∀ i j x y, i < j → l[i]? = some x → l[j]? = some y → f x y = true ∨ (ms.getD j 0).testBit i = true := by
  have one : ∀ (l : List α) (x : α) (i j : Nat), pairs.one f ms x i j l = true → ∀ k y, l[k]? = some y → f x y = true ∨ (ms.getD (j + k) 0).testBit i = true := by
    intro l
    induction l with
    | nil => intro x i j _ k y h; simp at h
    | cons z t ih =>
      intro x i j h k y hk
      simp only [pairs.one, Bool.and_eq_true, Bool.or_eq_true] at h
      cases k with
      | zero => simp at hk; subst hk; exact h.1
      | succ k =>
        simp at hk
        have := ih x i (j + 1) h.2 k y hk
        rwa [Nat.add_assoc, Nat.add_comm 1 k] at this
  have go : ∀ (l : List α) (n : Nat), pairs.go f ms n l = true → ∀ i j x y, i < j → l[i]? = some x → l[j]? = some y → f x y = true ∨ (ms.getD (n + j) 0).testBit (n + i) = true := by
    intro l
    induction l with
    | nil => intro n _ i j x y _ h; simp at h
    | cons z t ih =>
      intro n h i j x y hij hi hj
      simp only [pairs.go, Bool.and_eq_true] at h
      cases j with
      | zero => omega
      | succ j =>
        simp at hj
        cases i with
        | zero =>
          simp at hi; subst hi
          have := one t z n (n + 1) h.1 j y hj
          rwa [Nat.add_assoc, Nat.add_comm 1 j] at this
        | succ i =>
          simp at hi
          have := ih (n + 1) h.2 i j x y (by omega) hi hj
          rwa [Nat.add_assoc, Nat.add_comm 1 j, Nat.add_assoc n 1 i, Nat.add_comm 1 i] at this
  intro i j x y hij hi hj
  simpa using go l 0 h i j x y hij hi hj
theorem maskOf_spec {acc : List Nat} {i : Nat} : ∀ {es : List Edge}, (maskOf acc es).testBit i = true → ∃ e ∈ es, Region.binds .any e = true ∧ (e.on = i ∨ (acc.getD e.on 0).testBit i = true)
  | [], h => by simp [maskOf] at h
  | e :: t, h => by
    simp only [maskOf] at h
    cases hb : Region.binds .any e with
    | false =>
      rw [hb] at h
      obtain ⟨e', h1, h2⟩ := maskOf_spec (es := t) h
      exact ⟨e', by simp [h1], h2⟩
    | true =>
      rw [hb] at h
      have h : (2 ^ e.on ||| acc.getD e.on 0 ||| maskOf acc t).testBit i = true := h
      rw [Nat.testBit_or, Nat.testBit_or, Nat.testBit_two_pow] at h
      simp only [Bool.or_eq_true, decide_eq_true_eq] at h
      rcases h with (h | h) | h
      · exact ⟨e, by simp, hb, .inl h⟩
      · exact ⟨e, by simp, hb, .inr h⟩
      · obtain ⟨e', h1, h2⟩ := maskOf_spec (es := t) h
        exact ⟨e', by simp [h1], h2⟩
theorem edgesOK_spec {n : Nat} : ∀ {es : List Edge}, edgesOK n es = true → ∀ e ∈ es, Region.binds .any e = true → e.on < n
  | [], _, _, h, _ => by simp at h
  | e :: t, h, e', he, hb => by
    simp only [edgesOK, Bool.and_eq_true, Bool.or_eq_true] at h
    rcases List.mem_cons.1 he with rfl | he
    · rcases h.1 with h1 | h1
      · rw [hb] at h1; simp at h1
      · simp [Nat.blt] at h1; omega
    · exact edgesOK_spec h.2 e' he hb
theorem allEdges_spec : ∀ {l : List Oper} {n : Nat}, allEdges n l = true → ∀ i o, l[i]? = some o → ∀ e ∈ o.after.toList, Region.binds .any e = true → e.on < n + i
  | [], _, _, i, o, h => by simp at h
  | p :: t, n, h, i, o, hi => by
    simp only [allEdges, Bool.and_eq_true] at h
    cases i with
    | zero => simp at hi; subst hi; exact edgesOK_spec h.1
    | succ i =>
      simp at hi
      intro e he hb
      have := allEdges_spec h.2 i o hi e he hb
      omega
theorem masks_keep : ∀ (l : List Oper) (acc : List Nat) (j : Nat), j < acc.length → (masks l acc).getD j 0 = acc.getD j 0
  | [], _, _, _ => rfl
  | o :: t, acc, j, h => by
    rw [masks, masks_keep t _ j (by simp; omega)]
    simp [List.getD_eq_getElem?_getD, List.getElem?_append, h]
theorem masks_spec : ∀ (l : List Oper) (acc : List Nat) (j : Nat) (o : Oper), l[j]? = some o →
    ∃ acc', (masks l acc).getD (acc.length + j) 0 = maskOf acc' o.after.toList ∧ ∀ k, k < acc.length + j → acc'.getD k 0 = (masks l acc).getD k 0
  | [], _, _, _, h => by simp at h
  | p :: t, acc, j, o, h => by
    cases j with
    | zero =>
      simp at h; subst h
      refine ⟨acc, ?_, fun k hk => ?_⟩
      · rw [masks, masks_keep t _ _ (by simp)]
        simp [List.getD_eq_getElem?_getD]
      · rw [masks_keep _ _ _ (by omega)]
    | succ j =>
      simp at h
      obtain ⟨acc', h1, h2⟩ := masks_spec t (acc ++ [maskOf acc p.after.toList]) j o h
      simp only [List.length_append, List.length_singleton] at h1 h2
      refine ⟨acc', ?_, fun k hk => ?_⟩
      · rw [masks, ← h1]; congr 1; omega
      · rw [masks, h2 k (by omega)]

/-- What must come first is among what is done. -/
def Down (ops : Array Oper) (D : Nat → Bool) : Prop := ∀ j o, ops[j]? = some o → D j = true → ∀ e ∈ o.after.toList, Region.binds .any e = true → D e.on = true
theorem down_mask {ops : Array Oper} (he : allEdges 0 ops.toList = true) {D : Nat → Bool} (hD : Down ops D) : ∀ (n j : Nat) (o : Oper), j < n → ops[j]? = some o → (∀ e ∈ o.after.toList, Region.binds .any e = true → D e.on = true) →
    ∀ i, ((masks ops.toList []).getD j 0).testBit i = true → D i = true
  | 0, _, _, h, _, _, _, _ => by omega
  | n + 1, j, o, hj, ho, hpre, i, hi => by
    have ho' : ops.toList[j]? = some o := by simpa using ho
    obtain ⟨acc', h1, h2⟩ := masks_spec ops.toList [] j o ho'
    simp only [List.length_nil, Nat.zero_add] at h1 h2
    rw [h1] at hi
    obtain ⟨e, he1, he2, he3⟩ := maskOf_spec hi
    have hlt := allEdges_spec he j o ho' e he1 he2
    rw [Nat.zero_add] at hlt
    have hDe := hpre e he1 he2
    rcases he3 with rfl | he3
    · exact hDe
    · rw [h2 e.on hlt] at he3
      have hjs : j < ops.size := by
        have := (Array.getElem?_eq_some_iff.1 ho).1; exact this
      obtain ⟨o', ho2⟩ : ∃ o', ops[e.on]? = some o' := ⟨ops[e.on]'(by omega), Array.getElem?_eq_getElem _⟩
      exact down_mask he hD n e.on o' (by omega) ho2 (fun e' h3 h4 => hD e.on o' ho2 hDe e' h3 h4) i he3

/-! ### States, up to what can be seen -/
structure ExtEq (s s' : St G) : Prop where
  tm : ∀ k, get s.tm k = get s'.tm k
  hp : ∀ n, get s.hp n = get s'.hp n
  us : ∀ n, n ∈ s.us ↔ n ∈ s'.us
theorem ExtEq.rfl' {s : St G} : ExtEq s s := ⟨fun _ => rfl, fun _ => rfl, fun _ => Iff.rfl⟩
theorem ExtEq.symm {s s' : St G} (h : ExtEq s s') : ExtEq s' s := ⟨fun k => (h.tm k).symm, fun k => (h.hp k).symm, fun k => (h.us k).symm⟩
theorem ExtEq.trans {s s' s'' : St G} (h : ExtEq s s') (g : ExtEq s' s'') : ExtEq s s'' := ⟨fun k => (h.tm k).trans (g.tm k), fun k => (h.hp k).trans (g.hp k), fun k => (h.us k).trans (g.us k)⟩
theorem Rel.ext {cx : Cx} {s s' : St G} {a : Act} {w : World} (e : ExtEq s s') (h : Rel G cx s a w) : Rel G cx s' a w := by
  obtain ⟨ν, S, r⟩ := h
  have hf : get s.hp = get s'.hp := funext e.hp
  exact ⟨ν, S, ⟨fun k v hk => r.slot k v ((e.tm k).trans hk), hf ▸ r.heap, fun n hn => (e.us n).1 (r.used n hn), r.defers, r.nt, r.size, r.frame, r.env, r.sub, r.keep, r.names⟩⟩
theorem next_tm {s : St G} {d : Option Nat} {o : Out G} (k : Nat) : get (s.next d o).tm k = if d = some k then o.v else get s.tm k := by
  cases d with
  | none => simp [St.next]
  | some d =>
    simp only [St.next]
    cases hv : o.v with
    | none =>
      simp only [get_del]
      by_cases e : d = k <;> simp [e]
    | some v =>
      simp only [get_put]
      by_cases e : d = k <;> simp [e]
theorem next_hp {s : St G} {d : Option Nat} {o : Out G} (n : Nat) : get (s.next d o).hp n = appD (get s.hp) o.d n := by
  show get (putD s.hp o.d) n = _
  rw [get_putD]
theorem next_us {s : St G} {d : Option Nat} {o : Out G} (n : Nat) : n ∈ (s.next d o).us ↔ n ∈ o.nw ∨ n ∈ s.us := by
  show n ∈ o.nw ++ s.us ↔ _
  simp
theorem appD_off : ∀ (d : List (Nat × Option (Blk G.T))) (h : Nat → Option (Blk G.T)) (n : Nat), n ∉ keysD d → appD h d n = h n
  | [], _, _, _ => rfl
  | (m, b) :: t, h, n, hn => by
    simp only [keysD, List.mem_cons, not_or] at hn
    rw [appD, appD_off t _ n hn.2, if_neg (Ne.symm hn.1)]
theorem appD_on : ∀ (d : List (Nat × Option (Blk G.T))) (h h' : Nat → Option (Blk G.T)) (n : Nat), h n = h' n ∨ n ∈ keysD d → appD h d n = appD h' d n
  | [], _, _, _, hn => by simpa [keysD, appD] using hn
  | (m, b) :: t, h, h', n, hn => by
    simp only [appD]
    refine appD_on t _ _ n ?_
    by_cases e : m = n
    · left; simp [e]
    · simp only [e, if_false]
      rcases hn with h1 | h1
      · exact .inl h1
      · simp only [keysD, List.mem_cons] at h1
        exact .inr (h1.resolve_left (Ne.symm e))
theorem ExtEq.next {s s' : St G} (h : ExtEq s s') (d : Option Nat) (o : Out G) : ExtEq (s.next d o) (s'.next d o) :=
  ⟨fun k => by rw [next_tm, next_tm, h.tm], fun n => by rw [next_hp, next_hp]; exact appD_on _ _ _ _ (.inl (h.hp n)), fun n => by rw [next_us, next_us, h.us]⟩
theorem note_ext {s : St G} {p : Nat × Bool} (h : get s.tm p.1 = some (.p (.one (.sc (.bool p.2))))) : ExtEq s (s.note (some p)) :=
  ⟨fun k => by
    show _ = get (put s.tm p.1 _) k
    rw [get_put]
    by_cases e : p.1 = k
    · rw [if_pos e, ← e, h]
    · rw [if_neg e], fun _ => rfl, fun _ => Iff.rfl⟩

/-- What was done, of a list of what there was to be done. -/
def replay (D : Nat → Bool) : Nat → List (Option Nat × Out G) → St G → St G
  | _, [], s => s
  | i, r :: t, s => replay D (i + 1) t (bif D i then s.next r.1 r.2 else s)
section
variable {D D' : Nat → Bool}
theorem replay_tm {k : Nat} : ∀ (l : List (Option Nat × Out G)) (n : Nat) (s s' : St G), (∀ i r, l[i]? = some r → r.1 = some k → D (n + i) = D' (n + i)) → get s.tm k = get s'.tm k →
    get (replay D n l s).tm k = get (replay D' n l s').tm k
  | [], _, _, _, _, h => h
  | r :: t, n, s, s', hd, h => by
    simp only [replay]
    refine replay_tm t (n + 1) _ _ (fun i q hq hk => by have := hd (i + 1) q (by simpa using hq) hk; rwa [← Nat.add_assoc, Nat.add_right_comm] at this) ?_
    by_cases e : r.1 = some k
    · have := hd 0 r rfl e
      rw [Nat.add_zero] at this
      rw [← this]
      cases D n
      · exact h
      · simp [next_tm, e]
    · cases D n <;> cases D' n <;> simp [next_tm, e, h]
theorem replay_hp {k : Nat} : ∀ (l : List (Option Nat × Out G)) (n : Nat) (s s' : St G), (∀ i r, l[i]? = some r → k ∈ keysD r.2.d → D (n + i) = D' (n + i)) → get s.hp k = get s'.hp k →
    get (replay D n l s).hp k = get (replay D' n l s').hp k
  | [], _, _, _, _, h => h
  | r :: t, n, s, s', hd, h => by
    simp only [replay]
    refine replay_hp t (n + 1) _ _ (fun i q hq hk => by have := hd (i + 1) q (by simpa using hq) hk; rwa [← Nat.add_assoc, Nat.add_right_comm] at this) ?_
    by_cases e : k ∈ keysD r.2.d
    · have := hd 0 r rfl e
      rw [Nat.add_zero] at this
      rw [← this]
      cases D n
      · exact h
      · simp only [cond_true, next_hp]; exact appD_on _ _ _ _ (.inr e)
    · cases D n <;> cases D' n <;> simp [next_hp, appD_off _ _ _ e, h]
theorem replay_us {k : Nat} : ∀ (l : List (Option Nat × Out G)) (n : Nat) (s : St G), k ∈ (replay D n l s).us ↔ k ∈ s.us ∨ ∃ i r, l[i]? = some r ∧ D (n + i) = true ∧ k ∈ r.2.nw
  | [], _, s => by simp [replay]
  | r :: t, n, s => by
    simp only [replay]
    rw [replay_us t (n + 1)]
    constructor
    · rintro (h | ⟨i, q, h1, h2, h3⟩)
      · cases hd : D n with
        | false => rw [hd] at h; exact .inl h
        | true =>
          rw [hd] at h
          rcases (next_us k).1 h with h | h
          · exact .inr ⟨0, r, rfl, by simpa using hd, h⟩
          · exact .inl h
      · exact .inr ⟨i + 1, q, by simpa using h1, by rwa [Nat.add_comm i 1, ← Nat.add_assoc], h3⟩
    · rintro (h | ⟨i, q, h1, h2, h3⟩)
      · left
        cases hd : D n with
        | false => exact h
        | true => exact (next_us k).2 (.inr h)
      · cases i with
        | zero =>
          simp at h1 h2; subst h1
          left; rw [h2]; exact (next_us k).2 (.inl h3)
        | succ i =>
          simp at h1
          exact .inr ⟨i, q, h1, by rwa [Nat.add_assoc, Nat.add_comm 1 i], h3⟩
theorem replay_none : ∀ (l : List (Option Nat × Out G)) (n : Nat) (s : St G), replay (fun _ => false) n l s = s
  | [], _, _ => rfl
  | _ :: t, n, s => replay_none t (n + 1) s
theorem last_tm {k : Nat} : ∀ (l : List (Option Nat × Out G)) (n i : Nat) (r : Option Nat × Out G) (s : St G), l[i]? = some r → r.1 = some k → D (n + i) = true →
    (∀ j q, i < j → l[j]? = some q → D (n + j) = true → q.1 ≠ some k) → get (replay D n l s).tm k = r.2.v
  | [], _, _, _, _, h, _, _, _ => by simp at h
  | p :: t, n, i, r, s, hi, hk, hd, hl => by
    simp only [replay]
    cases i with
    | zero =>
      simp at hi hd; subst hi
      rw [hd, cond_true]
      rw [replay_tm (D' := fun _ => false) (s' := s.next p.1 p.2) t (n + 1) _ (fun j q hq hqk => ?_) rfl, replay_none, next_tm, if_pos hk]
      cases hdj : D (n + 1 + j) with
      | false => rfl
      | true => exact absurd hqk (hl (j + 1) q (by omega) (by simpa using hq) (by rwa [Nat.add_comm j 1, ← Nat.add_assoc]))
    | succ i =>
      simp at hi
      refine last_tm t (n + 1) i r _ hi hk (by rwa [Nat.add_assoc, Nat.add_comm 1 i]) fun j q hj hq hdj => ?_
      exact hl (j + 1) q (by omega) (by simpa using hq) (by rwa [Nat.add_comm j 1, ← Nat.add_assoc])
theorem last_hp {k : Nat} : ∀ (l : List (Option Nat × Out G)) (n i : Nat) (r : Option Nat × Out G) (s : St G) (h : Nat → Option (Blk G.T)), l[i]? = some r → k ∈ keysD r.2.d → D (n + i) = true →
    (∀ j q, i < j → l[j]? = some q → D (n + j) = true → k ∉ keysD q.2.d) → get (replay D n l s).hp k = appD h r.2.d k
  | [], _, _, _, _, _, h, _, _, _ => by simp at h
  | p :: t, n, i, r, s, h, hi, hk, hd, hl => by
    simp only [replay]
    cases i with
    | zero =>
      simp at hi hd; subst hi
      rw [hd, cond_true]
      rw [replay_hp (D' := fun _ => false) (s' := s.next p.1 p.2) t (n + 1) _ (fun j q hq hqk => ?_) rfl, replay_none, next_hp]
      · exact appD_on _ _ _ _ (.inr hk)
      cases hdj : D (n + 1 + j) with
      | false => rfl
      | true => exact absurd hqk (hl (j + 1) q (by omega) (by simpa using hq) (by rwa [Nat.add_comm j 1, ← Nat.add_assoc]))
    | succ i =>
      simp at hi
      refine last_hp t (n + 1) i r _ h hi hk (by rwa [Nat.add_assoc, Nat.add_comm 1 i]) fun j q hj hq hdj => ?_
      exact hl (j + 1) q (by omega) (by simpa using hq) (by rwa [Nat.add_comm j 1, ← Nat.add_assoc])
end
end Go.Ab
