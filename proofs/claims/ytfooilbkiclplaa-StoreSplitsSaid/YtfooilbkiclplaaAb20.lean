/- Regions whose order is drawn: the evaluator's answer holds for every order. -/
import Derived.Test.YtfooilbkiclplaaAb19
namespace Go.Ab
variable {G : Sig}

theorem replay_ext {D D' : Nat → Bool} : ∀ (l : List (Option Nat × Out G)) (n n' : Nat) (s s' : St G), (∀ i, i < l.length → D (n + i) = D' (n' + i)) → ExtEq s s' → ExtEq (replay D n l s) (replay D' n' l s')
  | [], _, _, _, _, _, h => h
  | r :: t, n, n', s, s', hd, h => by
    simp only [replay]
    refine replay_ext t (n + 1) (n' + 1) _ _ (fun i hi => by have := hd (i + 1) (by simpa using hi); rwa [← Nat.add_assoc, ← Nat.add_assoc, Nat.add_right_comm, Nat.add_right_comm n'] at this) ?_
    have := hd 0 (by simp)
    rw [Nat.add_zero, Nat.add_zero] at this
    rw [← this]
    cases D n
    · exact h
    · exact h.next _ _

inductive StepR (cf : CallF G) (nt : Nat) (ops : Array Oper) (o : Oper) (st : St G) (out : Out G) : Prop
  | act (g : Option (Nat × Bool)) (hd : dstOk nt o.dst = true)
      (hg : ∀ p, g = some p → get st.tm p.1 = some (.p (.one (.sc (.bool p.2)))) ∧ ∃ j want, o.guard = some (j, want) ∧ (ops[j]?).bind (·.dst) = some p.1 ∧ p.2 = want)
      (hn : g = none → o.guard = none) (hact : act cf (evalO st.tm) (get st.hp) (dstOf 0 o.dst) o.op (Out G) some = some out) (hf : fresh st.us out.nw = true)
  | skip (p : Nat × Bool) (j : Nat) (want : Bool) (hd : dstOk nt o.dst = true) (hp : get st.tm p.1 = some (.p (.one (.sc (.bool p.2))))) (hg : o.guard = some (j, want)) (hj : (ops[j]?).bind (·.dst) = some p.1) (hw : p.2 ≠ want)
      (e : out = ⟨some (.tup []), [], [], []⟩)
  | skipU (gs j : Nat) (want : Bool) (hd : dstOk nt o.dst = true) (hp : get st.tm gs = some (.tup [])) (hg : o.guard = some (j, want)) (hj : (ops[j]?).bind (·.dst) = some gs) (e : out = ⟨some (.tup []), [], [], []⟩)
theorem drop_next {s : St G} {d : Option Nat} : ExtEq (s.drop d) (s.next d ⟨some (.tup []), [], [], []⟩) := by
  cases d with
  | none => exact ⟨fun _ => rfl, fun _ => rfl, fun _ => Iff.rfl⟩
  | some d => exact ⟨fun _ => rfl, fun _ => rfl, fun _ => Iff.rfl⟩

section
variable {P : Program} (ok : SigOK P G) (eqok : EqOK P G) {cf : CallF G} (cfok : CfOK P G cf) (cfl : CfLoc cf) {nt : Nat} {ops : Array Oper}
include cfok in
theorem law_stepD (o : Oper) (st : St G) : Law (stepD cf nt ops o st) := by
  refine law_bind (law_need _) fun _ => law_bind (law_guard _ _ _) fun g => ?_
  split
  · exact law_bind (law_act cfok.law _) fun _ => law_bind (law_need _) fun _ => law_ret _
  · exact law_ret _
include cfok in
theorem law_runD : ∀ (l : List Oper) (st : St G), Law (runD cf nt ops l st)
  | [], _ => law_ret _
  | o :: t, st => law_bind (law_stepD cfok o st) fun _ => law_bind (law_runD t _) fun _ => law_ret _
include cfok in
theorem stepD_spec {o : Oper} {st st' : St G} {out : Out G} (h : stepD cf nt ops o st _ some = some (out, st')) : StepR cf nt ops o st out ∧ ExtEq st' (st.next o.dst out) := by
  unfold stepD at h
  obtain ⟨hd, h1⟩ := M.bindneed h
  obtain ⟨⟨go, g⟩, hgo, h2⟩ := (law_guard ops st.tm o).spec (M.bind_spec h1)
  have hcar : ∀ (hg : ∀ p, g = some p → get st.tm p.1 = some (.p (.one (.sc (.bool p.2)))) ∧ ∃ j want, o.guard = some (j, want) ∧ (ops[j]?).bind (·.dst) = some p.1 ∧ p.2 = want) (hn : g = none → o.guard = none), go = true →
      StepR cf nt ops o st out ∧ ExtEq st' (st.next o.dst out) := by
    intro hg hn hgo
    subst hgo
    simp only at h2
    obtain ⟨out', hout, h3⟩ := (law_act cfok.law _).spec (M.bind_spec h2)
    obtain ⟨hf, h4⟩ := M.bindneed h3
    simp [M.ret] at h4
    obtain ⟨rfl, rfl⟩ := h4
    refine ⟨.act g hd hg hn hout hf, ?_⟩
    cases g with
    | none => exact ExtEq.rfl'
    | some p => exact ((note_ext (hg p rfl).1).symm).next _ _
  unfold guardOf at hgo
  cases hog : o.guard with
  | none =>
    simp [hog, M.ret] at hgo
    obtain ⟨rfl, rfl⟩ := hgo
    exact hcar (by simp) (fun _ => hog) rfl
  | some jw =>
    obtain ⟨j, want⟩ := jw
    simp only [hog, guardB] at hgo
    split at hgo
    · rename_i gs hgs
      split at hgo
      · rename_i b hb
        have hsk : ∀ bb : Bool, get st.tm gs = some (.p (.one (.sc (.bool bb)))) → bb ≠ want → go = false → g = some (gs, bb) → StepR cf nt ops o st out ∧ ExtEq st' (st.next o.dst out) := by
          intro bb h5 h6 h7 h8
          subst h7
          simp [M.ret] at h2
          obtain ⟨rfl, rfl⟩ := h2
          refine ⟨.skip (gs, bb) j want hd h5 hog hgs h6 rfl, ?_⟩
          rw [h8]
          exact ((note_ext (p := (gs, bb)) h5).symm).next _ _
        cases b with
        | true =>
          simp at hgo
          obtain ⟨rfl, rfl⟩ := hgo
          cases want with
          | true => exact hcar (by rintro p hp; simp at hp; subst hp; exact ⟨hb, j, true, hog, hgs, rfl⟩) (by simp) rfl
          | false => exact hsk true hb (by simp) rfl rfl
        | false =>
          simp at hgo
          obtain ⟨rfl, rfl⟩ := hgo
          cases go with
          | false => exact hsk false hb (by simp) rfl rfl
          | true => exact hcar (by rintro p hp; simp at hp; subst hp; exact ⟨hb, j, _, hog, hgs, rfl⟩) (by simp) rfl
      · rename_i hu
        simp at hgo
        obtain ⟨rfl, rfl⟩ := hgo
        simp [M.ret] at h2
        obtain ⟨rfl, rfl⟩ := h2
        exact ⟨.skipU gs j want hd hu hog hgs rfl, ExtEq.rfl'⟩
      · simp at hgo
    · simp at hgo

def recs (l : List Oper) (outs : List (Out G)) : List (Option Nat × Out G) := l.zipWith (fun o out => (o.dst, out)) outs
theorem recs_get {l : List Oper} {outs : List (Out G)} {i : Nat} {r : Option Nat × Out G} (h : (recs l outs)[i]? = some r) : ∃ o, l[i]? = some o ∧ outs[i]? = some r.2 ∧ r.1 = o.dst := by
  unfold recs at h
  rw [List.getElem?_zipWith] at h
  cases h1 : l[i]? with
  | none => simp [h1] at h
  | some o =>
    cases h2 : outs[i]? with
    | none => simp [h1, h2] at h
    | some out => simp [h1, h2] at h; subst h; exact ⟨o, rfl, rfl, rfl⟩
include cfok in
theorem runD_spec : ∀ (l : List Oper) (st st' : St G) (outs : List (Out G)), runD cf nt ops l st _ some = some (outs, st') →
    outs.length = l.length ∧ ExtEq st' (replay (fun _ => true) 0 (recs l outs) st) ∧
    ∀ i o out, l[i]? = some o → outs[i]? = some out → ∃ s, ExtEq s (replay (fun j => decide (j < i)) 0 (recs l outs) st) ∧ StepR cf nt ops o s out
  | [], st, st', outs, h => by
    simp [runD, M.ret] at h
    obtain ⟨rfl, rfl⟩ := h
    exact ⟨rfl, ExtEq.rfl', fun i o out h => by simp at h⟩
  | p :: t, st, st', outs, h => by
    unfold runD at h
    obtain ⟨⟨out, st1⟩, h1, h2⟩ := (law_stepD cfok p st).spec (M.bind_spec h)
    obtain ⟨⟨outs', st2⟩, h3, h4⟩ := (law_runD cfok t st1).spec (M.bind_spec h2)
    simp [M.ret] at h4
    obtain ⟨rfl, rfl⟩ := h4
    obtain ⟨hs, he⟩ := stepD_spec cfok h1
    obtain ⟨e1, e2, e3⟩ := runD_spec t st1 st2 outs' h3
    refine ⟨by simp [e1], ?_, fun i o q hi hq => ?_⟩
    · refine e2.trans ?_
      show ExtEq _ (replay _ 1 (recs t outs') (st.next p.dst out))
      exact replay_ext _ _ _ _ _ (fun _ _ => rfl) he
    · cases i with
      | zero =>
        simp at hi hq; subst hi; subst hq
        refine ⟨st, ?_, hs⟩
        show ExtEq st (replay _ 1 (recs t outs') st)
        have := replay_ext (D := fun _ => false) (D' := fun j => decide (j < 0)) (recs t outs') 0 1 st st (fun i _ => by simp) ExtEq.rfl'
        rwa [replay_none] at this
      | succ i =>
        simp at hi hq
        obtain ⟨s, g1, g2⟩ := e3 i o q hi hq
        refine ⟨s, g1.trans ?_, g2⟩
        show ExtEq _ (replay _ 1 (recs t outs') (st.next p.dst out))
        exact replay_ext _ _ _ _ _ (fun k _ => by simp; omega) he

theorem fresh_of {us l : List Nat} (h : ∀ n ∈ l, n ∉ us) : fresh us l = true := by
  induction l with
  | nil => rfl
  | cons k t ih =>
    simp only [fresh, Bool.and_eq_true, Bool.not_eq_true']
    refine ⟨?_, ih fun n hn => h n (by simp [hn])⟩
    cases hb : has us k with
    | false => rfl
    | true => exact absurd ((has_iff us k).1 hb) (h k (by simp))
theorem disj_spec : ∀ {a b : List Nat}, disj a b = true → ∀ n ∈ a, n ∉ b
  | [], _, _, n, h => by simp at h
  | m :: t, b, h, n, hn => by
    simp only [disj, Bool.and_eq_true] at h
    rcases List.mem_cons.1 hn with rfl | hn
    · intro hm; rw [(has_iff b n).2 hm] at h; simp at h
    · exact disj_spec h.2 n hn
theorem mem_looks {x : Operand} {o : Oper} (h : x ∈ o.op.operands.toList) {t : Nat} (hx : x = .tmp t) : t ∈ o.looksAt ops := by
  unfold Oper.looksAt
  refine List.mem_append.2 (.inl (List.mem_filterMap.2 ⟨x, h, ?_⟩))
  subst hx; rfl
theorem guard_looks {o : Oper} {j : Nat} {want : Bool} {d : Nat} (hg : o.guard = some (j, want)) (hj : (ops[j]?).bind (·.dst) = some d) : d ∈ o.looksAt ops := by
  unfold Oper.looksAt
  refine List.mem_append.2 (.inr ?_)
  rw [hg]
  simp [hj]

/-- What was recorded, and that it was sound. -/
structure Done (cf : CallF G) (nt : Nat) (ops : Array Oper) (st : St G) (outs : List (Out G)) : Prop where
  len : outs.length = ops.size
  edges : allEdges 0 ops.toList = true
  slots : pairs (fun x y => Oper.apart ops x y) (masks ops.toList []) ops.toList = true
  mem : pairs apartO (masks ops.toList []) outs = true
  step : ∀ i o out, ops[i]? = some o → outs[i]? = some out → ∃ s, ExtEq s (replay (fun j => decide (j < i)) 0 (recs ops.toList outs) st) ∧ StepR cf nt ops o s out

variable {st : St G} {outs : List (Out G)} (dn : Done cf nt ops st outs)
section
variable {D : Nat → Bool} (hD : Down ops D) {i : Nat} {o : Oper} {out : Out G} (ho : ops[i]? = some o) (hout : outs[i]? = some out) (hi : D i = false)
  (hpre : ∀ e ∈ o.after.toList, Region.binds .any e = true → D e.on = true)
include dn hD ho hout hi hpre
/-- Whoever is done on the other side of 'i' is apart from it. -/
theorem apart_of {j : Nat} {p : Oper} {q : Out G} (hp : ops[j]? = some p) (hq : outs[j]? = some q) (hj : (j < i ∧ D j = false) ∨ (i < j ∧ D j = true)) :
    (∀ d, p.dst = some d → d ∉ o.looksAt ops) ∧ (∀ d, p.dst = some d → o.dst ≠ some d) ∧ (∀ n ∈ keysD q.d, n ∉ out.rd) ∧ (∀ n ∈ keysD q.d, n ∉ keysD out.d) := by
  have hp' : ops.toList[j]? = some p := by simpa using hp
  have ho' : ops.toList[i]? = some o := by simpa using ho
  have hcur : ∀ e ∈ o.after.toList, Region.binds .any e = true → D e.on = true := hpre
  rcases hj with ⟨h1, h2⟩ | ⟨h1, h2⟩
  · have hno : ((masks ops.toList []).getD i 0).testBit j = true → False := fun hb => by
      have := down_mask dn.edges hD (i + 1) i o (by omega) ho hcur j hb
      rw [h2] at this; simp at this
    have a1 := (pairs_spec dn.slots j i p o h1 hp' ho').resolve_right hno
    have a2 := (pairs_spec dn.mem j i q out h1 hq hout).resolve_right hno
    have a1 := Oper.apart_spec a1
    simp only [apartO, Bool.and_eq_true] at a2
    exact ⟨a1.1, a1.2.1, disj_spec a2.1.1, disj_spec a2.1.2⟩
  · have hno : ((masks ops.toList []).getD j 0).testBit i = true → False := fun hb => by
      have := down_mask dn.edges hD (j + 1) j p (by omega) hp (hD j p hp h2) i hb
      rw [hi] at this; simp at this
    have a1 := (pairs_spec dn.slots i j o p h1 ho' hp').resolve_right hno
    have a2 := (pairs_spec dn.mem i j out q h1 hout hq).resolve_right hno
    have a1 := Oper.apart_spec a1
    simp only [apartO, Bool.and_eq_true] at a2
    refine ⟨a1.2.2, fun d hd he => a1.2.1 d he hd, disj_spec a2.2, fun n hn hm => disj_spec a2.1.2 n hm hn⟩
theorem agree_tm {s : St G} (hs : ExtEq s (replay (fun j => decide (j < i)) 0 (recs ops.toList outs) st)) {k : Nat} (hk : k ∈ o.looksAt ops) :
    get (replay D 0 (recs ops.toList outs) st).tm k = get s.tm k := by
  rw [hs.tm k]
  refine replay_tm _ 0 _ _ (fun j r hr hrk => ?_) rfl
  rw [Nat.zero_add]
  obtain ⟨p, h1, h2, h3⟩ := recs_get hr
  have h1' : ops[j]? = some p := by simpa using h1
  rw [h3] at hrk
  by_cases hji : j < i
  · rw [decide_eq_true hji]
    cases hd : D j with
    | true => rfl
    | false => exact absurd hk ((apart_of dn hD ho hout hi hpre h1' h2 (.inl ⟨hji, hd⟩)).1 k hrk)
  · rw [decide_eq_false hji]
    by_cases e : j = i
    · subst e; exact hi
    · cases hd : D j with
      | false => rfl
      | true => exact absurd hk ((apart_of dn hD ho hout hi hpre h1' h2 (.inr ⟨by omega, hd⟩)).1 k hrk)
theorem agree_hp {s : St G} (hs : ExtEq s (replay (fun j => decide (j < i)) 0 (recs ops.toList outs) st)) {n : Nat} (hn : n ∈ out.rd) :
    get (replay D 0 (recs ops.toList outs) st).hp n = get s.hp n := by
  rw [hs.hp n]
  refine replay_hp _ 0 _ _ (fun j r hr hrk => ?_) rfl
  rw [Nat.zero_add]
  obtain ⟨p, h1, h2, h3⟩ := recs_get hr
  have h1' : ops[j]? = some p := by simpa using h1
  by_cases hji : j < i
  · rw [decide_eq_true hji]
    cases hd : D j with
    | true => rfl
    | false => exact absurd hn ((apart_of dn hD ho hout hi hpre h1' h2 (.inl ⟨hji, hd⟩)).2.2.1 n hrk)
  · rw [decide_eq_false hji]
    by_cases e : j = i
    · subst e; exact hi
    · cases hd : D j with
      | false => rfl
      | true => exact absurd hn ((apart_of dn hD ho hout hi hpre h1' h2 (.inr ⟨by omega, hd⟩)).2.2.1 n hrk)
omit hD hpre in
theorem agree_us {s : St G} (hs : ExtEq s (replay (fun j => decide (j < i)) 0 (recs ops.toList outs) st)) (hf : fresh s.us out.nw = true) :
    fresh (replay D 0 (recs ops.toList outs) st).us out.nw = true := by
  refine fresh_of fun n hn hm => ?_
  have h0 := fresh_iff hf n hn
  rw [hs.us n, replay_us] at h0
  rcases (replay_us _ _ _).1 hm with h | ⟨j, r, h1, h2, h3⟩
  · exact h0 (.inl h)
  · rw [Nat.zero_add] at h2
    by_cases hji : j < i
    · exact h0 (.inr ⟨j, r, h1, by rw [Nat.zero_add]; exact decide_eq_true hji, h3⟩)
    · by_cases e : j = i
      · subst e; rw [hi] at h2; simp at h2
      · obtain ⟨p, q1, q2, q3⟩ := recs_get h1
        obtain ⟨s2, g1, g2⟩ := dn.step j p r.2 (by simpa using q1) q2
        cases g2 with
        | act g hd hg hn' hact hf2 =>
          refine fresh_iff hf2 n h3 ?_
          rw [g1.us n, replay_us]
          right
          have hr : (recs ops.toList outs)[i]? = some (o.dst, out) := by
            unfold recs
            rw [List.getElem?_zipWith]
            have : ops.toList[i]? = some o := by simpa using ho
            rw [this, hout]
          exact ⟨i, _, hr, by rw [Nat.zero_add]; exact decide_eq_true (by omega), hn⟩
        | skip p j want hd hp hg hj hw e => rw [e] at h3; simp at h3
        | skipU gs j want hd hp hg hj e => rw [e] at h3; simp at h3
include cfl in
theorem step_any : StepR cf nt ops o (replay D 0 (recs ops.toList outs) st) out := by
  obtain ⟨s, hs, hstep⟩ := dn.step i o out ho hout
  cases hstep with
  | act g hd hg hn hact hf =>
    refine .act g hd (fun p hp => ?_) hn ?_ (agree_us dn ho hout hi hs hf)
    · obtain ⟨h1, j, want, h2, h3, h4⟩ := hg p hp
      refine ⟨?_, j, want, h2, h3, h4⟩
      rw [agree_tm dn hD ho hout hi hpre hs (guard_looks h2 h3)]; exact h1
    · rw [act_ops (ev := evalO s.tm) o.op fun x hx => ?_]
      · exact act_loc cfl hact fun n hn => agree_hp dn hD ho hout hi hpre hs hn
      · cases x with
        | tmp t => exact agree_tm dn hD ho hout hi hpre hs (mem_looks hx rfl)
        | const v => cases v <;> rfl
        | _ => rfl
  | skip p j want hd hp hg hj hw e =>
    refine .skip p j want hd ?_ hg hj hw e
    rw [agree_tm dn hD ho hout hi hpre hs (guard_looks hg hj)]; exact hp
  | skipU gs j want hd hp hg hj e =>
    refine .skipU gs j want hd ?_ hg hj e
    rw [agree_tm dn hD ho hout hi hpre hs (guard_looks hg hj)]; exact hp
theorem next_any {D' : Nat → Bool} (hD' : D' i = true) (hne : ∀ j, j ≠ i → D' j = D j) :
    ExtEq ((replay D 0 (recs ops.toList outs) st).next o.dst out) (replay D' 0 (recs ops.toList outs) st) := by
  have hr : (recs ops.toList outs)[i]? = some (o.dst, out) := by
    unfold recs
    rw [List.getElem?_zipWith]
    have : ops.toList[i]? = some o := by simpa using ho
    rw [this, hout]
  have hne0 : ∀ j r, (recs ops.toList outs)[j]? = some r → r ≠ (o.dst, out) → j ≠ i := by
    intro j r h1 h2 e
    subst e; rw [hr] at h1; simp at h1; exact h2 h1.symm
  refine ⟨fun k => ?_, fun n => ?_, fun n => ?_⟩
  · rw [next_tm]
    by_cases e : o.dst = some k
    · rw [if_pos e]
      rw [last_tm _ 0 i _ _ hr e (by rw [Nat.zero_add]; exact hD') fun j q hj hq hdj hqk => ?_]
      rw [Nat.zero_add, hne j (by omega)] at hdj
      obtain ⟨p, h1, h2, h3⟩ := recs_get hq
      rw [h3] at hqk
      exact (apart_of dn hD ho hout hi hpre (by simpa using h1) h2 (.inr ⟨hj, hdj⟩)).2.1 k hqk e
    · rw [if_neg e]
      refine replay_tm _ 0 _ _ (fun j r h1 h2 => ?_) rfl
      rw [Nat.zero_add]
      exact (hne j fun ej => by subst ej; rw [hr] at h1; simp at h1; subst h1; exact e h2).symm
  · rw [next_hp]
    by_cases e : n ∈ keysD out.d
    · rw [last_hp _ 0 i _ _ (get (replay D 0 (recs ops.toList outs) st).hp) hr e (by rw [Nat.zero_add]; exact hD') fun j q hj hq hdj hqk => ?_]
      rw [Nat.zero_add, hne j (by omega)] at hdj
      obtain ⟨p, h1, h2, h3⟩ := recs_get hq
      exact (apart_of dn hD ho hout hi hpre (by simpa using h1) h2 (.inr ⟨hj, hdj⟩)).2.2.2 n hqk e
    · rw [appD_off _ _ _ e]
      refine replay_hp _ 0 _ _ (fun j r h1 h2 => ?_) rfl
      rw [Nat.zero_add]
      exact (hne j fun ej => by subst ej; rw [hr] at h1; simp at h1; subst h1; exact e h2).symm
  · rw [next_us, replay_us, replay_us]
    constructor
    · rintro (h | h | ⟨j, r, h1, h2, h3⟩)
      · exact .inr ⟨i, _, hr, by rw [Nat.zero_add]; exact hD', h⟩
      · exact .inl h
      · refine .inr ⟨j, r, h1, ?_, h3⟩
        rw [Nat.zero_add] at h2 ⊢
        by_cases e : j = i
        · subst e; exact hD'
        · rw [hne j e]; exact h2
    · rintro (h | ⟨j, r, h1, h2, h3⟩)
      · exact .inr (.inl h)
      · by_cases e : j = i
        · subst e; rw [hr] at h1; simp at h1; subst h1; exact .inl h3
        · refine .inr (.inr ⟨j, r, h1, ?_, h3⟩)
          rw [Nat.zero_add] at h2 ⊢
          rw [← hne j e]; exact h2
end
include ok eqok cfok in
theorem stepR_wp {cx : Cx} {o : Oper} {s : St G} {out : Out G} {a : Act} {w : World} (h : StepR cf cx.nt ops o s out) (r : Rel G cx s a w) {K : Act → World → Prop} {Q : Exit → Act → World → Prop}
    (hK : ∀ a' w', Rel G cx (s.next o.dst out) a' w' → K a' w') : if Region.wanted o (yielded ops a.tmps) then o.wp P a w K Q else K (a.put o.dst undef) w := by
  cases h with
  | act g hd hg hn hact hf =>
    refine step_wp ok eqok cfok (.act g out hd hg hn hact hf rfl) r fun a' w' r' => hK a' w' (r'.ext ?_)
    cases g with
    | none => exact ExtEq.rfl'
    | some p => exact ((note_ext (hg p rfl).1).symm).next _ _
  | skip p j want hd hp hg hj hw e =>
    subst e
    refine step_wp ok eqok cfok (.skip p j want hd hp hg hj hw rfl) r fun a' w' r' => hK a' w' (r'.ext ?_)
    refine ExtEq.trans drop_next ?_
    exact ((note_ext hp).symm).next _ _
  | skipU gs j want hd hp hg hj e =>
    subst e
    exact step_wp ok eqok cfok (.skipU gs j want hd hp hg hj rfl) r fun a' w' r' => hK a' w' (r'.ext drop_next)
end
end Go.Ab
