/- Code and functions: what the evaluator says, the model does. -/
import Derived.Test.YtfooilbkiclplaaAbU
namespace Go.Ab
variable {G : Sig}

def loops : Code → List Code
  | .seq a b => loops a ++ loops b
  | .cond _ a b => loops a ++ loops b
  | .block _ a => loops a
  | .loop a => a :: loops a
  | _ => []
theorem loopsIn_eq : ∀ c : Code, loopsIn c = (loops c).length := by
  intro c
  induction c with
  | seq a b iha ihb => simp [loopsIn, loops, iha, ihb]
  | cond x a b iha ihb => simp [loopsIn, loops, iha, ihb]
  | block n a ih => simp [loopsIn, loops, ih]
  | loop a ih => simp [loopsIn, loops, ih]
  | _ => rfl

def ExR : Ex → Exit → Prop
  | .normal, .normal => True
  | .exit i, .exit j => i = j
  | .ret, .ret => True
  | _, _ => False
theorem exr_normal {e : Exit} (h : ExR .normal e) : e = .normal := by cases e <;> first | rfl | exact h.elim
theorem exr_exit {i : Nat} {e : Exit} (h : ExR (.exit i) e) : e = .exit i := by
  cases e <;> first | exact h.elim | (have : i = _ := h; rw [this])
theorem exr_ret {e : Exit} (h : ExR .ret e) : e = .ret := by cases e <;> first | rfl | exact h.elim

/-- What a loop comes to. -/
structure LoopOK (P : Program) (G : Sig) (nt : Nat) (f : St G → M (Ex × St G)) (c : Code) : Prop where
  law : ∀ st, Law (f st)
  wp : ∀ st ex st', f st (Ex × St G) some = some (ex, st') → ∀ (cx : Cx) (a : Act) (w : World) (Q : Exit → Act → World → Prop), cx.nt = nt → (∀ n y, cx.nu0 n = some y → lo ≤ n) → Rel G cx st a w →
    (∀ e a' w', ExR ex e → Rel G cx st' a' w' → Q e a' w') → (Code.loop c).wp P Q a w
/-- What a region comes to whose order is drawn. -/
structure DrawOK (P : Program) (G : Sig) (nt : Nat) (f : Array Oper → St G → M (St G)) : Prop where
  law : ∀ ops st, Law (f ops st)
  wp : ∀ ops st st', f ops st (St G) some = some st' → ∀ (cx : Cx) (a : Act) (w : World) (id : Nat) (Q : Exit → Act → World → Prop), cx.nt = nt → Rel G cx st a w →
    (∀ a' w', Rel G cx st' a' w' → Q .normal a' w') → (Code.region id ops true).wp P Q a w

theorem get_dropAll : ∀ (ks : List Nat) (l : List (Nat × Sv G.T)) (k : Nat) (s : Sv G.T), get (dropAll l ks) k = some s → get l k = some s
  | [], _, _, _, h => h
  | n :: t, l, k, s, h => by
    have := get_dropAll t (del l n) k s h
    rw [get_del] at this
    by_cases e : n = k
    · simp [e] at this
    · simpa [e] using this
theorem Rel.kill {cx : Cx} {st : St G} {a : Act} {w : World} (h : Rel G cx st a w) (ks : List Nat) : Rel G cx (st.kill ks) a w :=
  let ⟨ν, S, r⟩ := h
  ⟨ν, S, ⟨fun k s hk => r.slot k s (get_dropAll ks _ k s hk), r.heap, r.used, r.defers, r.nt, r.size, r.frame, r.env, r.sub, r.keep, r.names⟩⟩

section
variable {P : Program} (ok : SigOK P G) (eqok : EqOK P G) {cf : CallF G} (cfok : CfOK P G cf) {nt : Nat} {drawn : Array Oper → St G → M (St G)} (dok : DrawOK P G nt drawn)
  {lp : Nat → St G → M (Ex × St G)} {kl : Nat → List Nat} {jn : Nat → Option (List (Ex × Spec))}
theorem law_cond (tm : List (Nat × Sv G.T)) (c : Operand) : Law (condB tm c) := by
  cases c with
  | tmp t =>
    intro R k
    show condT tm t R k = (condT tm t _ some).bind k
    unfold condT
    split
    · rename_i b _; cases b <;> rfl
    · rfl
  | const v => show Law (condV v); cases v <;> first | exact law_ret _ | exact law_fail
  | global g => exact law_fail
  | func f => exact law_fail
include cfok dok in
theorem law_runC : ∀ (c : Code) (n : Nat) (st : St G), (∀ (k : Nat) c', (loops c)[k]? = some c' → LoopOK P G nt (lp (n + k)) c') → Law (runC cf nt drawn lp kl jn n c st)
  | .skip, _, _, _ => law_ret _
  | .ret, _, _, _ => law_ret _
  | .exit _, _, _, _ => law_ret _
  | .seq a b, n, st, hl => by
    unfold runC
    refine law_bind (law_cutO (law_runC a n st fun k c' hk => hl k c' ?_)) fun p => ?_
    · simp only [loops]; rw [List.getElem?_append_left (List.getElem?_eq_some_iff.1 hk).1]; exact hk
    · split
      · refine law_runC b _ _ fun k c' hk => ?_
        rw [loopsIn_eq, Nat.add_assoc]
        refine hl _ c' ?_
        simp only [loops]; rw [List.getElem?_append_right (by omega), Nat.add_sub_cancel_left]; exact hk
      · exact law_ret _
  | .cond c a b, n, st, hl => by
    unfold runC
    refine law_bind (law_cond _ _) fun p => ?_
    split
    · refine law_runC a n _ fun k c' hk => hl k c' ?_
      simp only [loops]; rw [List.getElem?_append_left (List.getElem?_eq_some_iff.1 hk).1]; exact hk
    · refine law_runC b _ _ fun k c' hk => ?_
      rw [loopsIn_eq, Nat.add_assoc]
      refine hl _ c' ?_
      simp only [loops]; rw [List.getElem?_append_right (by omega), Nat.add_sub_cancel_left]; exact hk
  | .block id a, n, st, hl => by
    unfold runC
    refine law_bind (law_runC a n st hl) fun p => ?_
    split <;> exact law_ret _
  | .loop c, n, st, hl => (hl 0 c rfl).law st
  | .region id ops false, _, st, _ => by
    unfold runC
    have := law_runOps (cx := ⟨default, fun _ => False, fun _ => False, fun _ => none, nt⟩) cfok ops ops.toList st
    exact law_bind this fun _ => law_ret _
  | .region id ops true, _, st, _ => law_bind (dok.law _ _) fun _ => law_ret _
  | .rangeFunc .., _, _, _ => law_fail
  | .scope _, _, _, _ => law_fail
  | .label _, _, _, _ => law_fail
  | .goto _, _, _, _ => law_fail
  | .refuse _, _, _, _ => law_fail

include ok eqok cfok dok in
theorem runC_sound {cx : Cx} (hnt : cx.nt = nt) (hnu : ∀ n y, cx.nu0 n = some y → lo ≤ n) : ∀ (c : Code) (n : Nat) (st st' : St G) (ex : Ex) (a : Act) (w : World) (Q : Exit → Act → World → Prop),
    (∀ (k : Nat) c', (loops c)[k]? = some c' → LoopOK P G nt (lp (n + k)) c') → runC cf nt drawn lp kl jn n c st (Ex × St G) some = some (ex, st') → Rel G cx st a w →
    (∀ e a' w', ExR ex e → Rel G cx st' a' w' → Q e a' w') → c.wp P Q a w
  | .skip, _, st, st', ex, a, w, Q, _, h, r, hQ => by
    simp [runC, M.ret] at h; obtain ⟨rfl, rfl⟩ := h
    exact wp_skip (hQ _ _ _ trivial r)
  | .ret, _, st, st', ex, a, w, Q, _, h, r, hQ => by
    simp [runC, M.ret] at h; obtain ⟨rfl, rfl⟩ := h
    exact wp_ret (hQ _ _ _ trivial r)
  | .exit i, _, st, st', ex, a, w, Q, _, h, r, hQ => by
    simp [runC, M.ret] at h; obtain ⟨rfl, rfl⟩ := h
    exact wp_exit (hQ _ _ _ rfl r)
  | .seq x y, n, st, st', ex, a, w, Q, hl, h, r, hQ => by
    unfold runC at h
    have hlx : ∀ (k : Nat) c', (loops x)[k]? = some c' → LoopOK P G nt (lp (n + k)) c' := fun k c' hk => hl k c' (by
      simp only [loops]; rw [List.getElem?_append_left (List.getElem?_eq_some_iff.1 hk).1]; exact hk)
    obtain ⟨⟨e1, st1⟩, h1, h2⟩ := (law_cutO (law_runC cfok dok x n st hlx)).spec (M.bind_spec h)
    obtain ⟨st0, h0, hcut⟩ := cutO_spec (law_runC cfok dok x n st hlx) h1
    refine wp_seq (runC_sound hnt hnu x n st st0 e1 a w _ hlx h0 r fun e a' w' he r'' => ?_)
    have r' := hcut hnu r''
    cases e1 with
    | normal =>
      rw [exr_normal he]
      refine runC_sound hnt hnu y (n + loopsIn x) st1 st' ex a' w' Q (fun k c' hk => ?_) h2 r' hQ
      rw [loopsIn_eq, Nat.add_assoc]
      refine hl _ c' ?_
      simp only [loops]; rw [List.getElem?_append_right (by omega), Nat.add_sub_cancel_left]; exact hk
    | exit i =>
      simp [M.ret] at h2; obtain ⟨rfl, rfl⟩ := h2
      rw [exr_exit he]
      exact hQ _ _ _ rfl r'
    | ret =>
      simp [M.ret] at h2; obtain ⟨rfl, rfl⟩ := h2
      rw [exr_ret he]
      exact hQ _ _ _ trivial r'
  | .cond c x y, n, st, st', ex, a, w, Q, hl, h, r, hQ => by
    unfold runC at h
    obtain ⟨⟨b, g⟩, hb, h2⟩ := (law_cond st.tm c).spec (M.bind_spec h)
    have hcb : a.eval c = .bool b ∧ Rel G cx (st.note g) a w := by
      obtain ⟨ν, S, r⟩ := r
      cases c with
      | tmp t =>
        simp only [condB, condT] at hb
        split at hb
        · rename_i b0 hg
          have : (b0, some (t, b0)) = (b, g) := by cases b0 <;> simpa using hb
          simp at this
          obtain ⟨rfl, rfl⟩ := this
          exact ⟨slot_bool r hg, ν, S, r.note hg⟩
        · simp at hb
      | const v =>
        cases v with
        | bool b0 =>
          simp [condB, condV, M.ret] at hb
          obtain ⟨rfl, rfl⟩ := hb
          exact ⟨rfl, ν, S, r⟩
        | _ => simp [condB, condV, M.fail] at hb
      | global _ => simp [condB, M.fail] at hb
      | func _ => simp [condB, M.fail] at hb
    refine wp_cond hcb.1 ?_
    cases b with
    | true =>
      refine runC_sound hnt hnu x n _ st' ex a w Q (fun k c' hk => hl k c' ?_) h2 hcb.2 hQ
      simp only [loops]; rw [List.getElem?_append_left (List.getElem?_eq_some_iff.1 hk).1]; exact hk
    | false =>
      refine runC_sound hnt hnu y (n + loopsIn x) _ st' ex a w Q (fun k c' hk => ?_) h2 hcb.2 hQ
      rw [loopsIn_eq, Nat.add_assoc]
      refine hl _ c' ?_
      simp only [loops]; rw [List.getElem?_append_right (by omega), Nat.add_sub_cancel_left]; exact hk
  | .block id x, n, st, st', ex, a, w, Q, hl, h, r, hQ => by
    unfold runC at h
    obtain ⟨⟨e1, st1⟩, h1, h2⟩ := (law_runC cfok dok x n st hl).spec (M.bind_spec h)
    refine wp_block (runC_sound hnt hnu x n st st1 e1 a w _ hl h1 r fun e a' w' he r' => ?_)
    cases e1 with
    | normal =>
      simp [M.ret] at h2; obtain ⟨rfl, rfl⟩ := h2
      rw [exr_normal he]
      exact hQ _ _ _ trivial r'
    | exit i =>
      simp only [M.ret, beq_ite] at h2
      rw [exr_exit he]
      by_cases hi : i = id
      · simp [hi] at h2; obtain ⟨rfl, rfl⟩ := h2
        simp only [Exit.inBlock, hi, if_true]
        exact hQ _ _ _ trivial r'
      · simp [hi] at h2; obtain ⟨rfl, rfl⟩ := h2
        simp only [Exit.inBlock, hi, if_false]
        exact hQ _ _ _ rfl r'
    | ret =>
      simp [M.ret] at h2; obtain ⟨rfl, rfl⟩ := h2
      rw [exr_ret he]
      exact hQ _ _ _ trivial r'
  | .loop c, n, st, st', ex, a, w, Q, hl, h, r, hQ => (hl 0 c rfl).wp st ex st' h cx a w Q hnt hnu r hQ
  | .region id ops false, _, st, st', ex, a, w, Q, _, h, r, hQ => by
    unfold runC at h
    subst hnt
    obtain ⟨st1, h1, h2⟩ := (law_runOps cfok ops ops.toList st).spec (M.bind_spec h)
    simp [M.ret] at h2; obtain ⟨rfl, rfl⟩ := h2
    exact wp_region_list (runOps_sound ok eqok cfok ops.toList st st1 a w h1 r fun a' w' r' => hQ _ _ _ trivial (r'.kill _))
  | .region id ops true, _, st, st', ex, a, w, Q, _, h, r, hQ => by
    unfold runC at h
    obtain ⟨st1, h1, h2⟩ := (dok.law ops st).spec (M.bind_spec h)
    simp [M.ret] at h2; obtain ⟨rfl, rfl⟩ := h2
    exact dok.wp ops st st1 h1 cx a w id Q hnt r fun a' w' r' => hQ _ _ _ trivial (r'.kill _)
  | .rangeFunc .., _, _, _, _, _, _, _, _, h, _, _ => by simp [runC, M.fail] at h
  | .scope _, _, _, _, _, _, _, _, _, h, _, _ => by simp [runC, M.fail] at h
  | .label _, _, _, _, _, _, _, _, _, h, _, _ => by simp [runC, M.fail] at h
  | .goto _, _, _, _, _, _, _, _, _, h, _, _ => by simp [runC, M.fail] at h
  | .refuse _, _, _, _, _, _, _, _, _, h, _, _ => by simp [runC, M.fail] at h

/-! ### Functions -/
def resV (tmps : Array Value) : ResultVar → Sem Value
  | .tmp t => pure (tmps.getD t undef)
  | .cell a t => do loadVar t (← asAddr (tmps.getD a undef))
theorem rs_p {ν : Nat → Option Value} {S : Nat → Prop} {h : Array Obj} {x : Pv G.T} {v : Value} (r : Rs G ν S h (.p x) v) : Rp G ν S h x v := by
  cases r; assumption
include ok in
theorem res_run {cx : Cx} {ν : Nat → Option Value} {S : Nat → Prop} {st : St G} {a : Act} {w : World} (r : RelI G cx ν S st a w) {rv : ResultVar} {x : Pv G.T} (h : resOf st rv = some x) :
    ∃ v, (resV a.tmps rv).run P w = .ok v w ∧ Rp G ν S w.heap x v := by
  cases rv with
  | tmp t =>
    simp only [resOf] at h
    split at h
    · rename_i y hy
      simp at h; subst h
      exact ⟨_, rfl, rs_p (r.slot t _ hy)⟩
    · simp at h
  | cell b t =>
    simp only [resOf] at h
    split at h
    · rename_i c hc
      split at h
      · rename_i cs hcs
        have hs := r.slot b _ hc
        generalize hu : a.tmps.getD b undef = u at hs
        cases hs with
        | p _ _ hp =>
        cases hp with
        | one _ _ hrc =>
        obtain ⟨bb, off, vs, rfl, hf, hlen, hcell⟩ := look_sound ok r.heap hcs hrc
        have hno : G.ty t ≠ .no := by
          intro e
          rw [ok.nosz t e] at hlen
          have : cs = [] := by have := hf.1; rw [hlen] at this; exact List.eq_nil_of_length_eq_zero this
          subst this
          simp [pack, e, Ty.isAgg] at h
        refine ⟨_, ?_, rp_of_cells h hf⟩
        have hload : (loadCells ⟨bb, off, none⟩ vs.length).run P w = .ok vs.toArray w := run_loadCells_list (P := P) w ⟨bb, off, none⟩ vs (fun j v hj => by rw [add_mk]; exact hcell j v hj)
        simp only [resV, hu, asAddr, loadVar, Sem.run_bind, Sem.run_pure, Result.andThen_ok, ok.isAgg w hno]
        cases ha : (G.ty t).isAgg with
        | true => simp only [if_true, Sem.run_bind, ok.sizeOf w hno, Result.andThen_ok, ← hlen, hload, Sem.run_pure]
        | false =>
          have hone : vs.length = 1 := by
            simp only [pack, ha, cond_false] at h
            split at h
            · have := hf.1; simpa using this.symm
            · simp at h
          obtain ⟨u, rfl⟩ : ∃ u, vs = [u] := List.length_eq_one_iff.1 hone
          have hu' := hcell 0 u rfl
          simp only [Nat.add_zero] at hu'
          simp [hu']
      · simp at h
    · simp at h
include ok in
theorem res_all {cx : Cx} {ν : Nat → Option Value} {S : Nat → Prop} {st : St G} {a : Act} {w : World} (r : RelI G cx ν S st a w) : ∀ (rs : List ResultVar) (xs : List (Pv G.T)), resAll st rs = some xs →
    ∃ vs : List Value, (rs.mapM (resV a.tmps)).run P w = .ok vs w ∧ F2 (Rp G ν S w.heap) xs vs
  | [], xs, h => by simp [resAll] at h; subst h; exact ⟨[], rfl, .nil⟩
  | rv :: t, xs, h => by
    simp only [resAll] at h
    split at h
    · rename_i x l hx hl
      simp at h; subst h
      obtain ⟨v, h1, h2⟩ := res_run ok r hx
      obtain ⟨vs, h3, h4⟩ := res_all r t l hl
      exact ⟨v :: vs, by simp only [List.mapM_cons, Sem.run_bind, h1, Result.andThen_ok, h3, Sem.run_pure], h4.cons h2⟩
    · simp at h
include ok in
theorem results_run {cx : Cx} {ν : Nat → Option Value} {S : Nat → Prop} {st : St G} {a : Act} {w : World} (r : RelI G cx ν S st a w) {fn : Func} {s : Sv G.T} (h : resS st fn.results.toList = some s) :
    ∃ v, (results fn a.tmps).run P w = .ok v w ∧ Rs G ν S w.heap s v := by
  unfold resS at h
  cases hra : resAll st fn.results.toList with
  | none => simp [hra] at h
  | some xs =>
    obtain ⟨vs, h1, h2⟩ := res_all ok r _ xs hra
    have hrun : (results fn a.tmps).run P w = .ok (if h : vs.toArray.size = 1 then vs.toArray[0] else .tuple vs.toArray) w := by
      have e : results fn a.tmps = (do let vs ← fn.results.mapM (resV a.tmps); pure (if h : vs.size = 1 then vs[0] else .tuple vs)) := by
        unfold results
        congr 1
      rw [e, Sem.run_bind, Array.mapM_eq_mapM_toList]
      simp only [Sem.run_map, h1]
      rfl
    refine ⟨_, hrun, ?_⟩
    rw [hra] at h
    cases xs with
    | nil =>
      simp at h; subst h
      have := h2.inv_nil; subst this
      exact .tup _ _ .nil
    | cons x t =>
      cases t with
      | nil =>
        simp at h; subst h
        obtain ⟨v, t', rfl, hv, ht⟩ := h2.inv
        have := ht.inv_nil; subst this
        exact .p _ _ hv
      | cons y t' =>
        simp at h; subst h
        have hl : vs.toArray.size ≠ 1 := by have := h2.1; simp at this ⊢; omega
        rw [dif_neg hl]
        exact .tup _ _ h2
end
end Go.Ab
