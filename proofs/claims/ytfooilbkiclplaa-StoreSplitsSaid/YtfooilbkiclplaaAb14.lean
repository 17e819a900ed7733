/- Regions in the order of the text, code, functions: what the evaluator says, the model does. -/
import Derived.Test.YtfooilbkiclplaaAb13
namespace Go.Ab
variable {G : Sig}

/-- The start of a call, as it stays known: the world, the blocks that may be changed, those that are only read, the names that came in. -/
structure Cx where
  w0 : World
  mo : Nat → Prop
  s0 : Nat → Prop
  nu0 : Nat → Option Value
  nt : Nat
def Cx.own (cx : Cx) (b : Nat) : Prop := cx.mo b ∨ cx.w0.heap.size ≤ b

structure RelI (G : Sig) (cx : Cx) (ν : Nat → Option Value) (S : Nat → Prop) (st : St G) (a : Act) (w : World) : Prop where
  slot : ∀ k s, get st.tm k = some s → Rs G ν S w.heap s (a.tmps.getD k undef)
  heap : HRel G ν S cx.own (get st.hp) w
  used : ∀ n, ν n ≠ none → n ∈ st.us
  defers : a.defers = []
  nt : a.tmps.size = cx.nt
  size : cx.w0.heap.size ≤ w.heap.size
  frame : ∀ b, b < cx.w0.heap.size → ¬ cx.mo b → w.heap[b]? = cx.w0.heap[b]?
  env : w.os = cx.w0.os ∧ w.tape = cx.w0.tape ∧ w.output = cx.w0.output
  sub : ∀ b, S b → cx.s0 b ∨ cx.own b
  keep : ∀ b, cx.s0 b → S b
  names : ∀ n x, cx.nu0 n = some x → ν n = some x
def Rel (G : Sig) (cx : Cx) (st : St G) (a : Act) (w : World) : Prop := ∃ ν S, RelI G cx ν S st a w

/-- The model's own draw of an order changes nothing here. -/
theorem Rel.drawn {cx : Cx} {st : St G} {a : Act} {w : World} (h : Rel G cx st a w) (n : Nat) : Rel G cx st a { w with drawn := n } :=
  let ⟨ν, S, r⟩ := h
  ⟨ν, S, ⟨r.slot, ⟨r.heap.blk, r.heap.apart, r.heap.own, r.heap.stay⟩, r.used, r.defers, r.nt, r.size, r.frame, r.env, r.sub, r.keep, r.names⟩⟩

theorem isSc_rd {S : Nat → Prop} {h : Array Obj} {v : Value} (hv : isSc v = true) : Rd G S h (.sc v) v := .sc v hv
theorem evalO_sound {ν : Nat → Option Value} {S : Nat → Prop} {tm : List (Nat × Sv G.T)} {a : Act} {w : World} (hs : ∀ k s, get tm k = some s → Rs G ν S w.heap s (a.tmps.getD k undef)) (x : Operand) (s : Sv G.T)
    (he : evalO tm x = some s) : Rs G ν S w.heap s (a.eval x) := by
  cases x with
  | tmp t => exact hs t s he
  | global g => simp [evalO] at he
  | func f =>
    simp [evalO] at he; subst he
    exact .p _ _ (.one _ _ ⟨[], [], rfl, .nil, .nil⟩)
  | const v =>
    have one : (bif isSc v then some (Sv.p (Pv.one (Cv.sc v))) else none) = some s → Rs G ν S w.heap s v := by
      intro h
      cases hv : isSc v with
      | false => simp [hv] at h
      | true => simp [hv] at h; subst h; exact .p _ _ (.one _ _ (isSc_rd hv))
    cases v with
    | agg cs =>
      simp only [evalO] at he
      cases hall : cs.toList.all isSc with
      | false => rw [hall] at he; simp at he
      | true =>
        rw [hall] at he; simp at he; subst he
        refine .p _ _ ?_
        have : (Value.agg cs) = .agg cs.toList.toArray := by simp
        show Rp G ν S w.heap _ (Value.agg cs)
        rw [this]
        refine .agg _ _ (F2.map_left ⟨rfl, fun i x y hx hy => ?_⟩)
        rw [hx] at hy; simp at hy; subst hy
        exact isSc_rd (List.all_eq_true.1 hall x (List.mem_of_getElem? hx))
    | _ => exact one he

theorem getD_put {a : Act} {d : Nat} {v : Value} (hd : d < a.tmps.size) (k : Nat) : (a.put (some d) v).tmps.getD k undef = if d = k then v else a.tmps.getD k undef := by
  simp only [Act.put, Array.getD_eq_getD_getElem?, Array.getElem?_setIfInBounds]
  by_cases e : d = k
  · subst e; simp [hd]
  · simp [e]
theorem size_put {a : Act} {d : Option Nat} {v : Value} : (a.put d v).tmps.size = a.tmps.size := by cases d <;> simp [Act.put]
theorem defers_put {a : Act} {d : Option Nat} {v : Value} : (a.put d v).defers = a.defers := by cases d <;> rfl

/-- A slot is forgotten. -/
theorem RelI.drop {cx : Cx} {ν : Nat → Option Value} {S : Nat → Prop} {st : St G} {a : Act} {w : World} (r : RelI G cx ν S st a w) {d : Option Nat} (hd : dstOk cx.nt d = true) :
    RelI G cx ν S (st.drop d) (a.put d undef) w := by
  cases d with
  | none => exact r
  | some d =>
    have hlt : d < a.tmps.size := by rw [r.nt]; simp [dstOk, Nat.blt] at hd; omega
    refine ⟨fun k s hk => ?_, r.heap, r.used, r.defers, by rw [size_put]; exact r.nt, r.size, r.frame, r.env, r.sub, r.keep, r.names⟩
    simp only [St.drop, get_put] at hk
    rw [getD_put hlt]
    by_cases e : d = k
    · rw [if_pos e] at hk ⊢; simp at hk; subst hk; exact .tup _ _ .nil
    · rw [if_neg e] at hk ⊢
      exact r.slot k s hk
theorem RelI.note {cx : Cx} {ν : Nat → Option Value} {S : Nat → Prop} {st : St G} {a : Act} {w : World} (r : RelI G cx ν S st a w) {g : Nat} {b : Bool} (hg : get st.tm g = some (.p (.one (.sc (.bool b))))) :
    RelI G cx ν S (st.note (some (g, b))) a w := by
  refine ⟨fun k s hk => ?_, r.heap, r.used, r.defers, r.nt, r.size, r.frame, r.env, r.sub, r.keep, r.names⟩
  simp only [St.note, get_put] at hk
  by_cases e : g = k
  · subst e; simp at hk; subst hk; exact r.slot g _ hg
  · rw [if_neg e] at hk; exact r.slot k s hk
theorem slot_bool {cx : Cx} {ν : Nat → Option Value} {S : Nat → Prop} {st : St G} {a : Act} {w : World} (r : RelI G cx ν S st a w) {g : Nat} {b : Bool} (hg : get st.tm g = some (.p (.one (.sc (.bool b))))) :
    a.tmps.getD g undef = .bool b := by
  have h := r.slot g _ hg
  generalize a.tmps.getD g undef = v at h
  cases h with
  | p _ _ h =>
    cases h with
    | one _ _ h =>
      have h' : Rd G S w.heap (.sc (.bool b)) v := h
      cases h'; rfl
/-- What lies behind an operation. -/
theorem RelI.next {cx : Cx} {ν : Nat → Option Value} {S : Nat → Prop} {st : St G} {a : Act} {w : World} (r : RelI G cx ν S st a w) {d : Option Nat} (hd : dstOk cx.nt d = true) {out : Out G}
    {ν' : Nat → Option Value} {S' : Nat → Prop} {w' : World} {v : Value} (hp : Post G ν S cx.own (get st.hp) w out (appD (get st.hp) out.d) ν' S' w' v) : RelI G cx ν' S' (st.next d out) (a.put d v) w' := by
  have le := hp.le r.heap
  refine ⟨fun k s hk => ?_, ?_, fun n hn => ?_, by rw [defers_put]; exact r.defers, by rw [size_put]; exact r.nt, Nat.le_trans r.size hp.size, fun b hb hm => ?_, ?_, fun b hb => ?_, fun b hb => hp.st b (r.keep b hb), fun n x hn => hp.nu n x (r.names n x hn)⟩
  · cases d with
    | none => exact (r.slot k s hk).mono le
    | some d =>
      have hlt : d < a.tmps.size := by rw [r.nt]; simp [dstOk, Nat.blt] at hd; omega
      rw [getD_put hlt]
      simp only [St.next] at hk
      split at hk
      · rename_i u hu
        rw [get_put] at hk
        by_cases e : d = k
        · rw [if_pos e] at hk ⊢; simp at hk; subst hk; exact hp.val _ hu
        · rw [if_neg e] at hk ⊢; exact (r.slot k s hk).mono le
      · rw [get_del] at hk
        by_cases e : d = k
        · rw [if_pos e] at hk; simp at hk
        · rw [if_neg e] at hk ⊢; exact (r.slot k s hk).mono le
  · simp only [St.next, get_putD]; exact hp.rel
  · rcases hp.new n hn with h | h
    · exact List.mem_append.2 (.inr (r.used n h))
    · exact List.mem_append.2 (.inl h)
  · rw [hp.frame b (Nat.lt_of_lt_of_le hb r.size) fun n x hn hx e => ?_]
    · exact r.frame b hb hm
    · rcases (r.heap.own n x b hn hx e).2 with h | h
      · exact hm h
      · omega
  · exact ⟨hp.env.1.trans r.env.1, hp.env.2.1.trans r.env.2.1, hp.env.2.2.trans r.env.2.2⟩
  · rcases hp.stn b hb with h | h
    · exact r.sub b h
    · exact .inr (.inr (Nat.le_trans r.size h))
theorem fresh_iff {us l : List Nat} (h : fresh us l = true) : ∀ n ∈ l, n ∉ us := by
  induction l with
  | nil => simp
  | cons k t ih =>
    simp only [fresh, Bool.and_eq_true] at h
    intro n hn
    rcases List.mem_cons.1 hn with rfl | hn
    · intro hm; rw [(has_iff us n).2 hm] at h; simp at h
    · exact ih h.2 n hn

section
variable {P : Program} (ok : SigOK P G) (eqok : EqOK P G) {cf : CallF G} (cfok : CfOK P G cf) {cx : Cx}
omit eqok ok in
theorem law_guard (ops : Array Oper) (tm : List (Nat × Sv G.T)) (o : Oper) : Law (guardOf ops tm o) := by
  unfold guardOf
  split
  · exact law_ret _
  · intro R k
    unfold guardB
    split
    · split
      · rename_i b _; cases b <;> rfl
      · rfl
      · rfl
    · rfl
include cfok in
theorem law_step (ops : Array Oper) (o : Oper) (st : St G) : Law (stepO cf cx.nt ops o st) := by
  refine law_bind (law_need _) fun _ => law_bind (law_guard _ _ _) fun g => ?_
  split
  · exact law_bind (law_act cfok.law _) fun _ => law_bind (law_need _) fun _ => law_ret _
  · exact law_ret _
include cfok in
theorem law_runOps (ops : Array Oper) : ∀ (l : List Oper) (st : St G), Law (runOps cf cx.nt ops l st)
  | [], _ => law_ret _
  | o :: t, st => law_bind (law_step cfok ops o st) fun st => law_runOps ops t st

/-- One step: the operation is carried out, or passed over. -/
inductive StepTo (cf : CallF G) (nt : Nat) (ops : Array Oper) (o : Oper) (st st' : St G) : Prop
  | act (g : Option (Nat × Bool)) (out : Out G) (hd : dstOk nt o.dst = true)
      (hg : ∀ p, g = some p → get st.tm p.1 = some (.p (.one (.sc (.bool p.2)))) ∧ ∃ j want, o.guard = some (j, want) ∧ (ops[j]?).bind (·.dst) = some p.1 ∧ p.2 = want)
      (hn : g = none → o.guard = none) (hact : act cf (evalO st.tm) (get st.hp) (dstOf 0 o.dst) o.op (Out G) some = some out) (hf : fresh st.us out.nw = true) (e : st' = (st.note g).next o.dst out)
  | skip (p : Nat × Bool) (j : Nat) (want : Bool) (hd : dstOk nt o.dst = true) (hp : get st.tm p.1 = some (.p (.one (.sc (.bool p.2))))) (hg : o.guard = some (j, want)) (hj : (ops[j]?).bind (·.dst) = some p.1) (hw : p.2 ≠ want)
      (e : st' = (st.note (some p)).drop o.dst)
  | skipU (gs j : Nat) (want : Bool) (hd : dstOk nt o.dst = true) (hp : get st.tm gs = some (.tup [])) (hg : o.guard = some (j, want)) (hj : (ops[j]?).bind (·.dst) = some gs)
      (e : st' = st.drop o.dst)
include cfok in
theorem step_to {nt : Nat} {ops : Array Oper} {o : Oper} {st st' : St G} (h : stepO cf nt ops o st (St G) some = some st') : StepTo cf nt ops o st st' := by
  unfold stepO at h
  obtain ⟨hd, h1⟩ := M.bindneed h
  obtain ⟨⟨go, g⟩, hgo, h2⟩ := (law_guard ops st.tm o).spec (M.bind_spec h1)
  have hcar : ∀ (hg : ∀ p, g = some p → get st.tm p.1 = some (.p (.one (.sc (.bool p.2)))) ∧ ∃ j want, o.guard = some (j, want) ∧ (ops[j]?).bind (·.dst) = some p.1 ∧ p.2 = want) (hn : g = none → o.guard = none), go = true → StepTo cf nt ops o st st' := by
    intro hg hn hgo
    subst hgo
    simp only at h2
    obtain ⟨out, hout, h3⟩ := (law_act cfok.law _).spec (M.bind_spec h2)
    obtain ⟨hf, h4⟩ := M.bindneed h3
    simp [M.ret] at h4
    exact .act g out hd hg hn hout hf h4.symm
  unfold guardOf at hgo
  cases hog : o.guard with
  | none =>
    simp [hog, M.ret] at hgo
    obtain ⟨rfl, rfl⟩ := hgo
    exact hcar (by simp) (fun _ => hog) rfl
  | some jw =>
    obtain ⟨j, want⟩ := jw
    simp only [hog, guardB] at hgo
    split at hgo
    · rename_i gs hgs
      split at hgo
      · rename_i b hb
        have hsk : ∀ bb : Bool, get st.tm gs = some (.p (.one (.sc (.bool bb)))) → bb ≠ want → go = false → g = some (gs, bb) → StepTo cf nt ops o st st' := by
          intro bb h5 h6 h7 h8
          subst h7
          simp [M.ret] at h2
          exact .skip (gs, bb) j want hd h5 hog hgs h6 (by rw [← h8]; exact h2.symm)
        cases b with
        | true =>
          simp at hgo
          obtain ⟨rfl, rfl⟩ := hgo
          cases want with
          | true => exact hcar (by rintro p hp; simp at hp; subst hp; exact ⟨hb, j, true, hog, hgs, rfl⟩) (by simp) rfl
          | false => exact hsk true hb (by simp) rfl rfl
        | false =>
          simp at hgo
          obtain ⟨rfl, rfl⟩ := hgo
          cases go with
          | false => exact hsk false hb (by simp) rfl rfl
          | true => exact hcar (by rintro p hp; simp at hp; subst hp; exact ⟨hb, j, _, hog, hgs, rfl⟩) (by simp) rfl
      · rename_i hu
        simp at hgo
        obtain ⟨rfl, rfl⟩ := hgo
        simp [M.ret] at h2
        exact .skipU gs j want hd hu hog hgs h2.symm
      · simp at hgo
    · simp at hgo

theorem wanted_undef {cx : Cx} {ν : Nat → Option Value} {S : Nat → Prop} {st : St G} {a : Act} {w : World} (r : RelI G cx ν S st a w) {ops : Array Oper} {o : Oper} {j : Nat} {want : Bool} {gs : Nat} (hg : o.guard = some (j, want))
    (hj : (ops[j]?).bind (·.dst) = some gs) (hu : get st.tm gs = some (.tup [])) : Region.wanted o (yielded ops a.tmps) = false := by
  have h := r.slot gs _ hu
  have h2 : a.tmps[gs]? = none ∨ a.tmps[gs]? = some (.tuple #[]) := by
    cases hq : a.tmps[gs]? with
    | none => exact .inl rfl
    | some v =>
      right
      rw [Array.getD_eq_getD_getElem?, hq] at h
      simp at h
      cases h with
      | tup xs vs hc =>
        have := hc.inv_nil; subst this; rfl
  have h3 : yielded ops a.tmps j = none := by
    unfold yielded
    rw [hj]
    rcases h2 with h2 | h2 <;> simp [h2]
  simp [Region.wanted, hg, h3]
theorem wanted_of {cx : Cx} {ν : Nat → Option Value} {S : Nat → Prop} {st : St G} {a : Act} {w : World} (r : RelI G cx ν S st a w) {ops : Array Oper} {o : Oper} {j : Nat} {want b : Bool} {gs : Nat} (hg : o.guard = some (j, want))
    (hj : (ops[j]?).bind (·.dst) = some gs) (hb : get st.tm gs = some (.p (.one (.sc (.bool b))))) : Region.wanted o (yielded ops a.tmps) = (b == want) := by
  have h := slot_bool r hb
  have h2 : a.tmps[gs]? = some (.bool b) := by
    rw [Array.getD_eq_getD_getElem?] at h
    cases hq : a.tmps[gs]? with
    | none => rw [hq] at h; simp [undef] at h
    | some v => rw [hq] at h; simp at h; rw [h]
  have h3 : yielded ops a.tmps j = some b := by
    unfold yielded
    rw [hj]; simp [h2]
  simp only [Region.wanted, hg, h3]
  cases b <;> cases want <;> rfl
include ok eqok cfok in
/-- One step in the model. -/
theorem step_wp {ops : Array Oper} {o : Oper} {st st' : St G} {a : Act} {w : World} (h : StepTo cf cx.nt ops o st st') (r : Rel G cx st a w) {K : Act → World → Prop} {Q : Exit → Act → World → Prop}
    (hK : ∀ a' w', Rel G cx st' a' w' → K a' w') : if Region.wanted o (yielded ops a.tmps) then o.wp P a w K Q else K (a.put o.dst undef) w := by
  obtain ⟨ν, S, r⟩ := r
  cases h with
  | act g out hd hg hn hact hf e =>
    have hw : Region.wanted o (yielded ops a.tmps) = true := by
      cases g with
      | none => simp [Region.wanted, hn rfl]
      | some p =>
        obtain ⟨h1, j, want, h2, h3, h4⟩ := hg p rfl
        rw [wanted_of r h2 h3 h1, h4]; simp
    rw [if_pos hw]
    have hfr : ∀ n ∈ out.nw, ν n = none := by
      intro n hn
      cases hv : ν n with
      | none => rfl
      | some x => exact absurd (r.used n (by simp [hv])) (fresh_iff hf n hn)
    refine act_wp ok eqok cfok (fun x s => evalO_sound r.slot x s) r.heap (fun b hb => .inr (Nat.le_trans r.size hb)) hfr hact fun ν' S' w' v hp => hK _ _ ?_
    subst e
    have r' : RelI G cx ν S (st.note g) a w := by
      cases g with
      | none => exact r
      | some p => exact r.note (hg p rfl).1
    have hhp : (st.note g).hp = st.hp := by cases g <;> rfl
    exact ⟨ν', S', r'.next hd (by rw [hhp]; exact hp)⟩
  | skip p j want hd hp hg hj hw e =>
    have hwf : Region.wanted o (yielded ops a.tmps) = false := by
      rw [wanted_of r hg hj hp]
      cases hb : p.2 <;> cases hw' : want <;> simp_all
    rw [if_neg (by simp [hwf])]
    subst e
    exact hK _ _ ⟨ν, S, (r.note hp).drop hd⟩
  | skipU gs j want hd hp hg hj e =>
    have hwf := wanted_undef r hg hj hp
    rw [if_neg (by simp [hwf])]
    subst e
    exact hK _ _ ⟨ν, S, r.drop hd⟩
include ok eqok cfok in
theorem runOps_sound {ops : Array Oper} {Q : Exit → Act → World → Prop} : ∀ (l : List Oper) (st st' : St G) (a : Act) (w : World), runOps cf cx.nt ops l st (St G) some = some st' → Rel G cx st a w →
    (∀ a' w', Rel G cx st' a' w' → Q .normal a' w') → wpList P ops Q l a w
  | [], st, st', a, w, h, r, hQ => by
    simp [runOps, M.ret] at h; subst h
    exact hQ a w r
  | o :: t, st, st', a, w, h, r, hQ => by
    unfold runOps at h
    obtain ⟨st1, h1, h2⟩ := (law_step cfok ops o st).spec (M.bind_spec h)
    have hs := step_wp ok eqok cfok (step_to cfok h1) r (K := wpList P ops Q t) (Q := Q) fun a' w' r' => runOps_sound t st1 st' a' w' h2 r' hQ
    unfold wpList
    by_cases hw : Region.wanted o (yielded ops a.tmps) = true
    · rw [if_pos hw] at hs ⊢; exact .inl hs
    · rw [if_neg hw] at hs ⊢; exact hs
end
end Go.Ab
