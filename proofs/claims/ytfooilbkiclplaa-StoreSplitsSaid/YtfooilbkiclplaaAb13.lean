/- Regions in the order of the text, code, functions: what the evaluator says, the model does. -/
import Derived.Test.YtfooilbkiclplaaAb12
namespace Go.Ab
variable {G : Sig}

/-- What is asked of the calls. -/
structure CfOK (P : Program) (G : Sig) (cf : CallF G) : Prop where
  law : ∀ g args h nm, Law (cf g args h nm)
  calls : ∀ g args h nm out, cf g args h nm (Out G) some = some out →
    (∃ fn, P.funcs[g]? = some fn ∧ (fn.name == "runtime.NumGoroutine") = false ∧ fn.body.isNone = false) ∧
    ∀ (ν : Nat → Option Value) (S B : Nat → Prop) (w : World) (vals : List Value), HRel G ν S B h w → (∀ b, w.heap.size ≤ b → B b) → (∀ n ∈ out.nw, ν n = none) → F2 (Rp G ν S w.heap) args vals →
      Calls P g vals.toArray w fun e w' => ∃ v ν' S', e = .returned v ∧ Post G ν S B h w out (appD h out.d) ν' S' w' v

theorem builtin_cases {ev : Operand → Option (Sv G.T)} {h : Nat → Option (Blk G.T)} {nm : Nat} {out : Out G} {b : Builtin} {tys : List Nat} {xs : List Operand} (hact : actBuiltin ev h nm b tys xs (Out G) some = some out) :
    (b = .len ∧ ∃ t ts x, tys = t :: ts ∧ xs = [x]) ∨ (b = .min ∧ ∃ x y, xs = [x, y]) ∨ (b = .max ∧ ∃ x y, xs = [x, y]) ∨ (b = .append ∧ ∃ t x y, tys = [t, t] ∧ xs = [x, y]) := by
  cases b with
  | len =>
    rcases tys with _ | ⟨t, ts⟩ <;> rcases xs with _ | ⟨x, _ | ⟨y, zs⟩⟩ <;> first | (simp [actBuiltin, M.fail] at hact; done) | exact .inl ⟨rfl, _, _, _, rfl, rfl⟩
  | min =>
    rcases xs with _ | ⟨x, _ | ⟨y, _ | ⟨z, zs⟩⟩⟩ <;> first | (simp [actBuiltin, M.fail] at hact; done) | exact .inr (.inl ⟨rfl, _, _, rfl⟩)
  | max =>
    rcases xs with _ | ⟨x, _ | ⟨y, _ | ⟨z, zs⟩⟩⟩ <;> first | (simp [actBuiltin, M.fail] at hact; done) | exact .inr (.inr (.inl ⟨rfl, _, _, rfl⟩))
  | append =>
    rcases tys with _ | ⟨t, _ | ⟨t', _ | ⟨t2, ts⟩⟩⟩ <;> rcases xs with _ | ⟨x, _ | ⟨y, _ | ⟨z, zs⟩⟩⟩ <;> first | (simp [actBuiltin, M.fail] at hact; done) | skip
    have hb : bAppend ev h nm t t' x y (Out G) some = some out := hact
    have : t = t' := by
      unfold bAppend at hb
      cases ht : G.ty t <;> simp only [ht] at hb <;> first | (simp [M.fail] at hb; done) | exact beq_true.1 (M.bindneed hb).1
    subst this
    exact .inr (.inr (.inr ⟨rfl, _, _, _, rfl, rfl⟩))
  | _ => simp [actBuiltin, M.fail] at hact
section
variable {P : Program} {ν : Nat → Option Value} {S B : Nat → Prop} {h : Nat → Option (Blk G.T)} {w : World} {a : Act} {o : Oper}
variable (ok : SigOK P G) (eqok : EqOK P G) {cf : CallF G} (cfok : CfOK P G cf)
  {ev : Operand → Option (Sv G.T)} (hev : ∀ x s, ev x = some s → Rs G ν S w.heap s (a.eval x)) (hr : HRel G ν S B h w) (hB : ∀ b, w.heap.size ≤ b → B b)
  {nm : Nat} {out : Out G} (hfresh : ∀ n ∈ out.nw, ν n = none)
include ok eqok cfok hev hr hB hfresh
theorem act_wp (hact : act cf ev h nm o.op (Out G) some = some out) {K : Act → World → Prop} {Q : Exit → Act → World → Prop}
    (hK : ∀ ν' S' w' v, Post G ν S B h w out (appD h out.d) ν' S' w' v → K (a.put o.dst v) w') : o.wp P a w K Q := by
  have fin : Runs P G a.eval o ν S B h w out → o.wp P a w K Q := by
    rintro ⟨nx, w', v, ν', S', hrun, hnx, hp⟩
    unfold Oper.wp
    rw [hrun]
    rcases hnx with rfl | ⟨rfl, rfl⟩
    · exact hK _ _ _ _ hp
    · exact hK _ _ _ _ hp
  cases ho : o.op with
  | move x => rw [ho] at hact; exact fin (move_runs hev hr (.inl ho) hact)
  | assign x => rw [ho] at hact; exact fin (move_runs hev hr (.inr ho) hact)
  | pick c x y => rw [ho] at hact; exact fin (pick_runs hev hr ho hact)
  | alloc t => rw [ho] at hact; exact fin (alloc_runs ok hr hB hfresh ho hact)
  | box t x => rw [ho] at hact; exact fin (box_runs hev hr hB hfresh ho hact)
  | build t ps => rw [ho] at hact; exact fin (build_runs ok hev hr ho hact)
  | buildSlice t n ps => rw [ho] at hact; exact fin (buildSlice_runs ok hev hr hB hfresh ho hact)
  | load t x => rw [ho] at hact; exact fin (load_runs ok hev hr ho hact)
  | store t x y => rw [ho] at hact; exact fin (store_runs ok hev hr ho hact)
  | nilCheck x => rw [ho] at hact; exact fin (nil_runs hev hr ho hact)
  | binOp op t x y u => rw [ho] at hact; exact fin (bin_runs ok eqok hev hr ho hact)
  | unOp op t x => rw [ho] at hact; exact fin (un_runs hev hr ho hact)
  | convert s t x => rw [ho] at hact; exact fin (conv_runs ok hev hr ho hact)
  | makeFunc fn x y =>
    rw [ho] at hact
    cases fn with
    | func f => exact fin (makeFunc_runs hev hr ho hact)
    | _ => simp [act, M.fail] at hact
  | makeSlice t x y => rw [ho] at hact; exact fin (makeSlice_runs ok hev hr hB hfresh ho hact)
  | slice t x lo hi mx => rw [ho] at hact; exact fin (slice_runs ok hev hr ho hact)
  | fieldAddr t x f => rw [ho] at hact; exact fin (fieldAddr_runs ok hev hr ho hact)
  | field t x f => rw [ho] at hact; exact fin (field_runs ok hev hr ho hact)
  | indexAddr t x i => rw [ho] at hact; exact fin (indexAddr_runs ok hev hr ho hact)
  | index t x i => rw [ho] at hact; exact fin (index_runs ok hev hr ho hact)
  | extract x i => rw [ho] at hact; exact fin (extract_runs hev hr ho hact)
  | call c =>
    rw [ho] at hact
    obtain ⟨callee, xs, tys⟩ := c
    cases callee with
    | invoke r m => exact absurd hact (by intro e; cases e)
    | builtin b =>
      have hact : actBuiltin ev h nm b tys.toList xs.toList (Out G) some = some out := hact
      rcases builtin_cases hact with ⟨rfl, t, ts, x, h1, h2⟩ | ⟨rfl, x, y, h1⟩ | ⟨rfl, x, y, h1⟩ | ⟨rfl, t, x, y, h1, h2⟩
      · exact fin (len_runs ok hev hr ho ⟨_, h1⟩ h2 hact)
      · exact fin (minmax_runs hev hr (.inl rfl) ho h1 hact)
      · exact fin (minmax_runs hev hr (.inr rfl) ho h1 hact)
      · exact fin (append_runs ok hev hr hB hfresh ho h1 h2 hact)
    | value f =>
      have hact : aCall cf ev h nm f xs.toList (Out G) some = some out := hact
      unfold aCall at hact
      obtain ⟨c, hc, h1⟩ := bindC hact
      obtain ⟨as, h2, has⟩ := bindPs h1
      unfold callC at h2
      cases c with
      | clo g fst caps =>
        simp only at h2
        obtain ⟨vp, vq, hv, hvp, hvq⟩ := rcOf hev hc
        obtain ⟨⟨fn, hfn, hname, hbody⟩, hcalls⟩ := cfok.calls g _ h nm out h2
        have hptr : ∀ (ps : List (Nat × Nat)) (vs : List Value), F2 (RPtr ν) ps vs → F2 (Rp G ν S w.heap) (ps.map ptrP) vs := fun ps vs hps =>
          F2.map_left (hps.mono fun p v hpv => .one _ _ hpv)
        have hargs : F2 (Rp G ν S w.heap) as (xs.toList.map a.eval) := by
          refine ⟨by simp [has.1], fun i x v hx hv => ?_⟩
          rw [List.getElem?_map] at hv
          cases hq : xs.toList[i]? with
          | none => simp [hq] at hv
          | some y =>
            simp [hq] at hv; subst hv
            exact rpOf hev (has.2 i y x hq hx)
        have hall := (hptr _ _ hvp).append (hargs.append (hptr _ _ hvq))
        have hc := hcalls ν S B w _ hr hB hfresh hall
        have hexec : (execOp a.eval o).run P w = .ok (.enter g (vp ++ (xs.toList.map a.eval ++ vq)).toArray) w := by
          unfold execOp; rw [ho]
          simp only [resolve, hv, Deferred.ofValue, invoke, callFunc, Sem.run_bind, Sem.run_pure, Result.andThen_ok, run_program, hfn, hname, hbody]
          simp [← Array.toList_map]
        unfold Oper.wp
        rw [hexec]
        refine hc.mono fun e w' ⟨v, ν', S', he, hp⟩ => ?_
        subst he
        exact hK _ _ _ _ hp
      | _ => simp [M.fail] at h2
  | _ => rw [ho] at hact; simp [act, M.fail] at hact
end
end Go.Ab
