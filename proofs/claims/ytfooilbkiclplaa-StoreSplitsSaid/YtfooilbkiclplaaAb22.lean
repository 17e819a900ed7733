/- Loops: from the body's rounds. -/
import Derived.Test.YtfooilbkiclplaaAb21
import Derived.LoopN
namespace Go.Ab
variable {G : Sig}
section
variable {P : Program} (ok : SigOK P G) (eqok : EqOK P G) {cf : CallF G} (cfok : CfOK P G cf) {nt : Nat} {drawn : Array Oper → St G → M (St G)} (dok : DrawOK P G nt drawn)
  {lp : Nat → St G → M (Ex × St G)} {kl : Nat → List Nat} {jn : Nat → Option (List (Ex × Spec))}
include ok eqok cfok dok in
theorem rounds_of {S : Spec} {E : List (Ex × Spec)} {c : Code} {n : Nat} (hl : ∀ (k : Nat) c', (loops c)[k]? = some c' → LoopOK P G nt (lp (n + k)) c') {cx : Cx} (hnt : cx.nt = nt) (hnu : ∀ n y, cx.nu0 n = some y → lo ≤ n)
    {y : SumE G E} {ex : Ex} {st' : St G} (hy : caseE E y some = some (ex, st')) {Q : Exit → Act → World → Prop} (hQ : ∀ e a' w', ExR ex e → Rel G cx st' a' w' → Q e a' w') :
    ∀ (f : Nat) (x : S.T G) (a : Act) (w : World), iter (roundX S E (runC cf nt drawn lp kl jn n c)) f x = some y → Rel G cx (S.mk' x) a w → Code.rounds P c Q f a w
  | 0, _, _, _, h, _ => by simp [iter] at h
  | f + 1, x, a, w, h, r => by
    rw [rounds_succ]
    have hlaw := law_runC cfok dok (kl := kl) (jn := jn) c n (S.mk' x) hl
    simp only [iter] at h
    have hround : roundX S E (runC cf nt drawn lp kl jn n c) x = (runC cf nt drawn lp kl jn n c (S.mk' x) _ some).bind fun p => outX S E p.1 p.2 := hlaw _ _
    rw [hround] at h
    cases hv : runC cf nt drawn lp kl jn n c (S.mk' x) _ some with
    | none => rw [hv] at h; simp [afterX] at h
    | some p =>
      obtain ⟨e, st1⟩ := p
      rw [hv] at h
      have h : afterX (iter (roundX S E (runC cf nt drawn lp kl jn n c)) f) (outX S E e st1) = some y := h
      refine runC_sound ok eqok cfok dok hnt hnu c n _ st1 e a w _ hl hv r fun e' a' w' he r' => ?_
      have hout : ∀ z, takeE E e st1 = some z → z = y → Q e' a' w' := by
        intro z hz e1
        subst e1
        obtain ⟨st2, h2, h3⟩ := takeE_rel hnu E hz r' some _ hy
        simp at h2
        obtain ⟨rfl, rfl⟩ := h2
        exact hQ _ _ _ he h3
      have hiter : ∀ o : Option (Sum (S.T G) (SumE G E)), afterX (iter (roundX S E (runC cf nt drawn lp kl jn n c)) f) o = some y → (∃ x1, o = some (.inl x1) ∧ iter (roundX S E (runC cf nt drawn lp kl jn n c)) f x1 = some y) ∨ o = some (.inr y) := by
        intro o ho
        unfold afterX at ho
        split at ho
        · exact .inl ⟨_, rfl, ho⟩
        · simp at ho; subst ho; exact .inr rfl
        · simp at ho
      have hrest : ∀ (hne : e ≠ .normal), outX S E e st1 = (match takeE E e st1 with | some y => some (Sum.inr (α := S.T G) y) | none => none) := by
        intro hne
        cases e with
        | normal => exact absurd rfl hne
        | exit i => rfl
        | ret => rfl
      by_cases hne : e = .normal
      · subst hne
        have hn : outX S E .normal st1 = (match S.take st1 with | some x => some (Sum.inl (β := SumE G E) x) | none => none) := rfl
        rw [exr_normal he]
        rcases hiter _ h with ⟨x1, h1, h2⟩ | h1
        · rw [hn] at h1
          split at h1
          · rename_i x2 hx2
            have : x2 = x1 := by simpa using h1
            subst this
            exact rounds_of hl hnt hnu hy hQ f x2 a' w' h2 (Spec.take_rel hx2 r' hnu)
          · simp at h1
        · rw [hn] at h1
          split at h1 <;> simp at h1
      · have hr := hrest hne
        rcases hiter _ h with ⟨x1, h1, h2⟩ | h1
        · rw [hr] at h1
          split at h1 <;> simp at h1
        · rw [hr] at h1
          split at h1
          · rename_i z hz
            have hz2 := hout z hz (by simpa using h1)
            cases e with
            | normal => exact absurd rfl hne
            | exit i => rw [exr_exit he] at hz2 ⊢; exact hz2
            | ret => rw [exr_ret he] at hz2 ⊢; exact hz2
          · simp at h1

include ok eqok cfok dok in
theorem lpX_ok {S : Spec} {E : List (Ex × Spec)} {c : Code} {n : Nat} (hl : ∀ (k : Nat) c', (loops c)[k]? = some c' → LoopOK P G nt (lp (n + k)) c') {L : S.T G → Option (SumE G E)}
    (hL : ∀ x y, L x = some y → ∃ f, iter (roundX S E (runC cf nt drawn lp kl jn n c)) f x = some y) : LoopOK P G nt (lpX S E L) c := by
  refine ⟨fun st R k => ?_, fun st ex st' h cx a w Q hnt hnu r hQ => ?_⟩
  · unfold lpX
    cases S.take st with
    | none => rfl
    | some x =>
      simp only
      cases L x with
      | none => rfl
      | some y => exact caseE_law E y k
  · unfold lpX at h
    cases hx : S.take st with
    | none => rw [hx] at h; simp at h
    | some x =>
      rw [hx] at h
      simp only at h
      cases hy : L x with
      | none => rw [hy] at h; simp at h
      | some y =>
        rw [hy] at h
        obtain ⟨f, hf⟩ := hL x y hy
        exact wp_loop_rounds f (rounds_of ok eqok cfok dok hl hnt hnu h hQ f x a w hf (Spec.take_rel hx r hnu))
end
end Go.Ab
