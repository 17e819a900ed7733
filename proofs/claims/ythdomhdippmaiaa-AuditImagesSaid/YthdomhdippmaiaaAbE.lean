/- Loops: from the body's rounds. -/
import Derived.Test.YthdomhdippmaiaaAbD
import Derived.LoopN
namespace Go.Ab
variable {G : Sig}
section
variable {P : Program} (ok : SigOK P G) (eqok : EqOK P G) {cf : CallF G} (cfok : CfOK P G cf) {nt : Nat} {drawn : Array Oper → St G → M (St G)} (dok : DrawOK P G nt drawn)
  {lp : Nat → St G → M (Ex × St G)} {kl : Nat → List Nat} {jn : Nat → Option (List (Ex × Spec))}
include ok eqok cfok dok in
theorem nuc' {S : Spec} {E : List (Ex × Spec)} {c : Code} {n : Nat} (hl : ∀ (k : Nat) c', (loops c)[k]? = some c' → LoopOK P G nt (lp (n + k)) c') {cx : Cx} (hnt : cx.nt = nt) (hnu : ∀ n y, cx.nu0 n = some y → lo ≤ n)
    {y : SumE G E} {ex : Ex} {st' : St G} (hy : caseE E y some = some (ex, st')) {Q : Exit → Act → World → Prop} (hQ : ∀ e a' w', ExR ex e → Rel G cx st' a' w' → Q e a' w') :
    ∀ (f : Nat) (x : S.T G) (a : Act) (w : World), iter (nj6' S E (runC cf nt drawn lp kl jn n c)) f x = some y → Rel G cx (S.mk' x) a w → Code.rounds P c Q f a w
  | 0, _, _, _, h, _ => by simp [iter] at h
  | f + 1, x, a, w, h, r => by
    rw [rounds_succ]
    have hlaw := neh' cfok dok (kl := kl) (jn := jn) c n (S.mk' x) hl
    simp only [iter] at h
    have hround : nj6' S E (runC cf nt drawn lp kl jn n c) x = (runC cf nt drawn lp kl jn n c (S.mk' x) _ some).bind fun p => outX S E p.1 p.2 := hlaw _ _
    rw [hround] at h
    cases hv : runC cf nt drawn lp kl jn n c (S.mk' x) _ some with
    | none => rw [hv] at h; simp [njw'] at h
    | some p =>
      obtain ⟨e, st1⟩ := p
      rw [hv] at h
      have h : njw' (iter (nj6' S E (runC cf nt drawn lp kl jn n c)) f) (outX S E e st1) = some y := h
      refine nfi' ok eqok cfok dok hnt hnu c n _ st1 e a w _ hl hv r fun e' a' w' he r' => ?_
      have hout : ∀ z, takeE E e st1 = some z → z = y → Q e' a' w' := by
        intro z hz e1
        subst e1
        obtain ⟨st2, h2, h3⟩ := nl0' hnu E hz r' some _ hy
        simp at h2
        obtain ⟨rfl, rfl⟩ := h2
        exact hQ _ _ _ he h3
      have hiter : ∀ o : Option (Sum (S.T G) (SumE G E)), njw' (iter (nj6' S E (runC cf nt drawn lp kl jn n c)) f) o = some y → (∃ x1, o = some (.inl x1) ∧ iter (nj6' S E (runC cf nt drawn lp kl jn n c)) f x1 = some y) ∨ o = some (.inr y) := by
        intro o ho
        unfold njw' at ho
        split at ho
        · exact .inl ⟨_, rfl, ho⟩
        · simp at ho; subst ho; exact .inr rfl
        · simp at ho
      have hrest : ∀ (hne : e ≠ .normal), outX S E e st1 = (match takeE E e st1 with | some y => some (Sum.inr (α := S.T G) y) | none => none) := by
        intro hne
        cases e with
        | normal => exact absurd rfl hne
        | exit i => rfl
        | ret => rfl
      by_cases hne : e = .normal
      · subst hne
        have hn : outX S E .normal st1 = (match S.take st1 with | some x => some (Sum.inl (β := SumE G E) x) | none => none) := rfl
        rw [nkl' he]
        rcases hiter _ h with ⟨x1, h1, h2⟩ | h1
        · rw [hn] at h1
          split at h1
          · rename_i x2 hx2
            have : x2 = x1 := by simpa using h1
            subst this
            exact nuc' hl hnt hnu hy hQ f x2 a' w' h2 (Spec.take_rel hx2 r' hnu)
          · simp at h1
        · rw [hn] at h1
          split at h1 <;> simp at h1
      · have hr := hrest hne
        rcases hiter _ h with ⟨x1, h1, h2⟩ | h1
        · rw [hr] at h1
          split at h1 <;> simp at h1
        · rw [hr] at h1
          split at h1
          · rename_i z hz
            have hz2 := hout z hz (by simpa using h1)
            cases e with
            | normal => exact absurd rfl hne
            | exit i => rw [nql' he] at hz2 ⊢; exact hz2
            | ret => rw [npd' he] at hz2 ⊢; exact hz2
          · simp at h1
include ok eqok cfok dok in
theorem n4n' {S : Spec} {E : List (Ex × Spec)} {c : Code} {n : Nat} (hl : ∀ (k : Nat) c', (loops c)[k]? = some c' → LoopOK P G nt (lp (n + k)) c') {L : S.T G → Option (SumE G E)}
    (hL : ∀ x y, L x = some y → ∃ f, iter (nj6' S E (runC cf nt drawn lp kl jn n c)) f x = some y) : LoopOK P G nt (lpX S E L) c := by
  refine ⟨fun st R k => ?_, fun st ex st' h cx a w Q hnt hnu r hQ => ?_⟩
  · unfold lpX
    cases S.take st with
    | none => rfl
    | some x =>
      simp only
      cases L x with
      | none => rfl
      | some y => exact nhr' E y k
  · unfold lpX at h
    cases hx : S.take st with
    | none => rw [hx] at h; simp at h
    | some x =>
      rw [hx] at h
      simp only at h
      cases hy : L x with
      | none => rw [hy] at h; simp at h
      | some y =>
        rw [hy] at h
        obtain ⟨f, hf⟩ := hL x y hy
        exact wp_loop_rounds f (nuc' ok eqok cfok dok hl hnt hnu h hQ f x a w hf (Spec.take_rel hx r hnu))
end
end Go.Ab
namespace Go.Ab
variable {G : Sig}
section
variable {h h' : Nat → Option (Blk G.T)}
theorem ntm' {n t : Nat} (hh : h' n = h n) : rowAt h' n t = rowAt h n t := by unfold rowAt; rw [hh]
theorem nta' {s : CSh} {c : Cv G.T} (hh : ∀ n ∈ c.ows, h' n = h n) : s.take h' c = s.take h c := by
  cases c with
  | own n =>
    have := hh n (by simp [Cv.ows])
    cases s with
    | own m t => simp only [CSh.take]; rw [ntm' this]
    | ro t => simp only [CSh.take]; rw [ntm' this]
    | _ => rfl
  | sc v => cases s <;> first | rfl | (cases v <;> rfl)
  | _ => cases s <;> rfl
theorem noz' : ∀ {s : List CSh} {cs : List (Cv G.T)}, (∀ c ∈ cs, ∀ n ∈ c.ows, h' n = h n) → takeL h' s cs = takeL h s cs
  | [], [], _ => rfl
  | [], _ :: _, _ => rfl
  | _ :: _, [], _ => rfl
  | s :: ss, c :: cs, hh => by
    simp only [takeL]
    rw [nta' (hh c (by simp)), noz' fun c hc => hh c (by simp [hc])]
theorem n1o' {s : PSh} {x : Pv G.T} (hh : ∀ c ∈ x.cells, ∀ n ∈ c.ows, h' n = h n) : s.take h' x = s.take h x := by
  cases s with
  | one s => cases x with
    | one c => exact nta' (hh c (by simp [Pv.cells]))
    | agg cs => rfl
  | agg ss => cases x with
    | one c => rfl
    | agg cs => exact noz' hh
theorem nrw' {tm : List (Nat × Sv G.T)} (hh : ∀ k x, get tm k = some (.p x) → ∀ c ∈ x.cells, ∀ n ∈ c.ows, h' n = h n) : ∀ (s : List (Nat × PSh)), nep' h' tm s = nep' h tm s
  | [] => rfl
  | p :: t => by
    simp only [nep']
    cases hg : get tm p.1 with
    | none => rfl
    | some v =>
      cases v with
      | tup _ => rfl
      | p c =>
        simp only
        rw [n1o' (hh _ _ hg), nrw' hh t]
theorem nrf' : ∀ (s : List (Nat × List CSh)), (∀ n ∈ keysH s, h' n = h n ∧ ∀ cs, h n = some (.cells cs) → ∀ c ∈ cs, ∀ n ∈ c.ows, h' n = h n) → ne0' h' s = ne0' h s
  | [], _ => rfl
  | p :: t, hh => by
    have h1 := hh p.1 (by simp [keysH])
    simp only [ne0']
    rw [h1.1]
    cases hg : h p.1 with
    | none => rfl
    | some k =>
      cases k with
      | row _ _ => rfl
      | cells cs =>
        simp only
        rw [noz' (h1.2 cs hg), nrf' t fun n hn => hh n (by simp [keysH, hn])]
end
theorem nyb' {T : Nat → Type} {ns : List Nat} {g : Nat → Option Nat} {c c' : Cv T} (h : c.ren (rowN ns) g = some c') : ∀ n ∈ c'.ows, n ∈ c.ows ∧ n < lo ∧ n ∉ ns := by
  cases c with
  | own n =>
    simp only [Cv.ren] at h
    split at h
    · rename_i m hm
      cases h
      obtain ⟨rfl, h2, h3⟩ := nt2' hm
      intro n hn
      simp [Cv.ows] at hn ⊢
      subst hn; exact ⟨rfl, h2, h3⟩
    · cases h
  | ptr n off => simp only [Cv.ren] at h; split at h <;> cases h; simp [Cv.ows]
  | clo k p q => simp only [Cv.ren] at h; split at h <;> cases h; simp [Cv.ows]
  | np n t => simp only [Cv.ren] at h; split at h <;> cases h; simp [Cv.ows]
  | sc v => cases h; simp [Cv.ows]
  | ro t l => cases h; simp [Cv.ows]
  | rp t x o => cases h; simp [Cv.ows]
  | pd _ _ _ _ _ => cases h
  | pr _ _ _ _ => cases h
  | sa _ _ _ => cases h
theorem nvd' {T : Nat → Type} {ns : List Nat} {g : Nat → Option Nat} {cs cs' : List (Cv T)} (h : mapO (Cv.ren (rowN ns) g) cs = some cs') : ∀ c' ∈ cs', ∀ n ∈ c'.ows, (∃ c ∈ cs, n ∈ c.ows) ∧ n < lo ∧ n ∉ ns := by
  intro c' hc' n hn
  obtain ⟨m1, m2⟩ := nbg' _ _ h
  obtain ⟨i, hi⟩ := List.mem_iff_getElem?.1 hc'
  have hi' : i < cs.length := by have := (List.getElem?_eq_some_iff.1 hi).1; omega
  obtain ⟨z, hz, hfz⟩ := m2 i _ (List.getElem?_eq_getElem hi')
  rw [hi] at hz; cases hz
  obtain ⟨q1, q2⟩ := nyb' hfz n hn
  exact ⟨⟨cs[i], List.getElem_mem hi', q1⟩, q2⟩
theorem nrm' {ns : List Nat} {h1 h1' : Nat → Option (Blk G.T)} {nm : Nat} {rd rd' : List Nat} {args : List (Pv G.T)} {g : Nat} (hrd : rd' = rd) : ∀ (l : List (Nat × Fe G)), (∀ I : Spec, takeI I h1' ns.length args = takeI I h1 ns.length args) →
    tryP ns h1' nm rd' args g l = tryP ns h1 nm rd args g l
  | [], _ => rfl
  | p :: r, h => by
    subst hrd
    funext R k
    simp only [tryP]
    rw [h p.2.I, nrm' rfl r h]
theorem nxm' (l : List (Nat × Fe G)) : CfLoc (cfP l) := by
  intro g args h h' nm out ha hh
  unfold cfP at ha ⊢
  generalize hns : ptsA args = ns at ha ⊢
  obtain ⟨args', hargs', h1⟩ := M.bindopt ha
  obtain ⟨hnd, h2⟩ := M.bindneed h1
  have hrd : out.rd = ns ++ ownOf ns h args := by
    obtain ⟨p, _, _, t, _, hc⟩ := nl4' h2
    obtain ⟨y, p, s, bl, _, _, _, hf⟩ := nq5' hc
    obtain ⟨_, _, _, _, _, _, _, _, _, rfl, _⟩ := nth' hf
    rfl
  rw [hrd] at hh
  have hn1 : ∀ n ∈ ns, h' n = h n := fun n hn => hh n (by simp [hn])
  have hown : ownOf ns h' args = ownOf ns h args := by
    unfold ownOf
    congr 1
    have : ∀ l : List Nat, (∀ n ∈ l, h' n = h n) → (l.flatMap fun n => match h' n with | some (.cells cs) => cs.flatMap Cv.ows | _ => []) = l.flatMap fun n => match h n with | some (.cells cs) => cs.flatMap Cv.ows | _ => [] := by
      intro l
      induction l with
      | nil => intro _; rfl
      | cons a t ih =>
        intro hl
        simp only [List.flatMap_cons]
        rw [hl a (by simp), ih fun n hn => hl n (by simp [hn])]
    exact this ns hn1
  have hblk : ∀ (i n : Nat), ns[i]? = some n → nci' ns h' (lo + i) = nci' ns h (lo + i) := by
    intro i n hi
    unfold nci'
    rw [ngq'.2 (by omega : lo ≤ lo + i)]
    simp only [cond_true, Nat.add_sub_cancel_left, hi]
    rw [hn1 n (List.mem_of_getElem? hi)]
  have hrow : ∀ n, n < lo → (n ∈ ns ∨ n ∈ ownOf ns h args) → nci' ns h' n = nci' ns h n := by
    intro n hn hm
    unfold nci'
    cases hb : Nat.ble lo n with
    | true => have := ngq'.1 hb; omega
    | false =>
      simp only [cond_false]
      cases hc : has ns n with
      | true => rfl
      | false =>
        simp only [cond_false]
        rw [hh n (by rcases hm with hm | hm <;> simp [hm])]
  have htake : ∀ I : Spec, takeI I (nci' ns h') ns.length args' = takeI I (nci' ns h) ns.length args' := by
    intro I
    unfold takeI
    cases hb : Nat.beq args'.length I.tm.length && Nat.beq ns.length I.hp.length && nmj' lo (keysH I.hp) with
    | false => rfl
    | true =>
      simp only [Bool.and_eq_true, nu'] at hb
      obtain ⟨⟨hb1, hb2⟩, hb3⟩ := hb
      have hl : ∀ l : List (Nat × List CSh), (keysH l).length = l.length := by intro l; induction l with | nil => rfl | cons p t ih => simp [keysH, ih]
      have e1 : nep' (nci' ns h') (zipN 0 (args'.map Sv.p)) I.tm = nep' (nci' ns h) (zipN 0 (args'.map Sv.p)) I.tm := by
        refine nrw' (fun k x hk c hc n hn => ?_) I.tm
        rw [nm9'] at hk
        simp at hk
        have hx := List.mem_of_getElem? hk
        obtain ⟨m1, m2⟩ := nbg' _ _ hargs'
        obtain ⟨i, hi⟩ := List.mem_iff_getElem?.1 hx
        have hi' : i < args.length := by have := (List.getElem?_eq_some_iff.1 hi).1; omega
        obtain ⟨z, hz, hfz⟩ := m2 i _ (List.getElem?_eq_getElem hi')
        rw [hi] at hz; cases hz
        have key : (∃ c0 ∈ (args[i]).cells, n ∈ c0.ows) ∧ n < lo ∧ n ∉ ns := by
          generalize args[i] = u at hfz
          cases u with
          | one c0 =>
            simp only [Pv.ren] at hfz
            split at hfz
            · rename_i c1 hc1
              cases hfz
              simp [Pv.cells] at hc
              subst hc
              obtain ⟨q1, q2⟩ := nyb' hc1 n hn
              exact ⟨⟨c0, by simp [Pv.cells], q1⟩, q2⟩
            · cases hfz
          | agg cs =>
            simp only [Pv.ren] at hfz
            split at hfz
            · rename_i cs1 hcs1
              cases hfz
              exact nvd' hcs1 c hc n hn
            · cases hfz
        obtain ⟨⟨c0, k1, k2⟩, k3, k4⟩ := key
        refine hrow n k3 (.inr ?_)
        unfold ownOf
        exact List.mem_append.2 (.inl (List.mem_flatMap.2 ⟨args[i], List.getElem_mem hi', List.mem_flatMap.2 ⟨c0, k1, k2⟩⟩))
      have e2 : ne0' (nci' ns h') I.hp = ne0' (nci' ns h) I.hp := by
        refine nrf' I.hp fun n hn => ?_
        obtain ⟨i, hi⟩ := List.mem_iff_getElem?.1 hn
        have hni := nma' hb3 i n hi
        have hil : i < ns.length := by have := (List.getElem?_eq_some_iff.1 hi).1; rw [hl] at this; omega
        have hi2 := List.getElem?_eq_getElem hil
        subst hni
        refine ⟨hblk i _ hi2, fun cs hcs c hc n hn => ?_⟩
        unfold nci' at hcs
        rw [ngq'.2 (by omega : lo ≤ lo + i)] at hcs
        simp only [cond_true, Nat.add_sub_cancel_left, hi2] at hcs
        unfold blkIn at hcs
        split at hcs
        · rename_i cs0 hcs0
          split at hcs
          · rename_i cs1 hcs1
            cases hcs
            obtain ⟨⟨c0, k1, k2⟩, k3, k4⟩ := nvd' hcs1 c hc n hn
            refine hrow n k3 (.inr ?_)
            unfold ownOf
            refine List.mem_append.2 (.inr (List.mem_flatMap.2 ⟨ns[i], List.getElem_mem hil, ?_⟩))
            rw [hcs0]
            exact List.mem_flatMap.2 ⟨c0, k1, k2⟩
          · cases hcs
        · cases hcs
      rw [e1, e2]
  simp only [M.bind, M.opt, hargs', M.need, hnd, cond_true]
  rw [nrm' (by rw [hown]) l htake]
  exact h2
def endI (cf : CallF G) (lp : Nat → St G → M (Ex × St G)) (jn : Nat → Option (List (Ex × Spec))) (nt : Nat) (body : Code) (I : Spec) (E : List (Ex × Spec)) (x : I.T G) : Option (SumE G E) :=
  runC cf nt (nn4' cf nt) lp (fun _ => []) jn 0 body (I.mk' x) _ fun p => takeE E p.1 p.2
def rndI (cf : CallF G) (lp : Nat → St G → M (Ex × St G)) (jn : Nat → Option (List (Ex × Spec))) (nt : Nat) (n : Nat) (body : Code) (S : Spec) (E : List (Ex × Spec)) (x : S.T G) : Option (Sum (S.T G) (SumE G E)) :=
  nj6' S E (runC cf nt (nn4' cf nt) lp (fun _ => []) jn n body) x
def fuel : Nat := 18446744073709551616
def ne' (f : Func) : Code := f.body.getD .skip
def ni' (c : Code) (n : Nat) : Code := (loops c)[n]?.getD .skip
section
variable {P : Program} (ok : SigOK P G) (eqok : EqOK P G) (hm : P.follows .mixedOrders = true) {l : List (Nat × Fe G)} (hl : ∀ p ∈ l, FnOK P G p.1 p.2) {lp : Nat → St G → M (Ex × St G)} {jn : Nat → Option (List (Ex × Spec))}
include ok eqok hm hl in
theorem n3n' {nt n k : Nat} {c : Code} (S : Spec) (E : List (Ex × Spec)) (R : S.T G → Option (Sum (S.T G) (SumE G E))) (hP : lp k = lpX S E (iter R fuel)) (hin : ∀ (k : Nat) c', (loops c)[k]? = some c' → LoopOK P G nt (lp (n + k)) c')
    (hR : ∀ x, rndI (cfP l) lp jn nt n c S E x = R x) : LoopOK P G nt (lp k) c := by
  rw [hP]
  exact n4n' ok eqok (nq2' ok hl) (ntx' ok eqok (nq2' ok hl) (nxm' l) hm) hin fun x _ h => ⟨fuel, by
    rw [show nj6' S E (runC (cfP l) nt (nn4' (cfP l) nt) lp (fun _ => []) jn n c) = R from funext hR]; exact h⟩
include ok eqok hm hl in
theorem fn_ok {g : Nat} {fn : Func} (hfn : P.funcs[g]? = some fn) (hname : (fn.name == "runtime.NumGoroutine") = false) (hbody : fn.body = some (ne' fn)) {e : Fe G} (hrs : fn.results.toList = e.rs) (hlen : Nat.ble e.I.tm.length fn.ntmps = true)
    (hlp : ∀ (k : Nat) c', (loops (ne' fn))[k]? = some c' → LoopOK P G fn.ntmps (lp k) c') (hF : ∀ x, endI (cfP l) lp jn fn.ntmps (ne' fn) e.I e.E x = e.F x) : FnOK P G g e :=
  nw0' ok eqok (nq2' ok hl) hfn hname hbody hrs (ngq'.1 hlen) (ntx' ok eqok (nq2' ok hl) (nxm' l) hm) hlp fun x _ h => (hF x).trans h
end
def AllAt (Q : Nat → Code → Prop) (n : Nat) (l : List Code) : Prop := ∀ (k : Nat) c', l[k]? = some c' → Q (n + k) c'
theorem nk' {Q : Nat → Code → Prop} {n : Nat} : AllAt Q n [] := fun k c' h' => by simp at h'
theorem nf' {Q : Nat → Code → Prop} {n : Nat} {t : List Code} {c : Code} (h0 : Q n c) (ht : AllAt Q (n + 1) t) : AllAt Q n (c :: t) := fun k c' h' => by
  cases k with
  | zero => simp at h'; subst h'; exact h0
  | succ k => have := ht k c' (by simpa using h'); rwa [show n + (k + 1) = n + 1 + k by omega]
theorem nh' {Q : Nat → Code → Prop} {n : Nat} {l : List Code} (l' : List Code) (h : l = l') (h' : AllAt Q n l') : AllAt Q n l := h ▸ h'
theorem n3g' {P : Program} {nt : Nat} {f : St G → M (Ex × St G)} {c : Code} (h : f = fun _ => M.fail) : LoopOK P G nt f c := by
  subst h
  exact ⟨fun _ => ng', fun st ex st' h => by simp [M.fail] at h⟩
theorem nyo' {Q : Nat → Code → Prop} {l : List Code} (h : AllAt Q 0 l) : ∀ (k : Nat) c', l[k]? = some c' → Q k c' := fun k c' hk => by have := h k c' hk; rwa [Nat.zero_add] at this
end Go.Ab
namespace Go.Ab
variable {G : Sig}
structure Ctx (P : Program) (G : Sig) : Prop where
  ok : SigOK P G
  eqok : EqOK P G
  hm : P.follows .mixedOrders = true
def oi64 : PSh := .one (.int .i64)
def ou64 : PSh := .one (.int .u64)
def ou32 : PSh := .one (.int .u32)
def ou8 : PSh := .one (.int .u8)
def ob : PSh := .one .bool
def os : PSh := .one .str
def op (n : Nat) : PSh := .one (.ptr n 0)
def oro (t : Nat) : PSh := .one (.ro t)
abbrev Sp := Spec
abbrev SL := List (Ex × Spec)
def jl (l : List (Nat × SL)) : Nat → Option SL := fun n => get l n
def lf : St G → M (Ex × St G) := fun _ => M.fail
def pl : List (St G → M (Ex × St G)) → Nat → St G → M (Ex × St G)
  | [], _ => lf
  | a :: _, 0 => a
  | _ :: t, n + 1 => pl t n
inductive Sk where
  | i (k : IntKind) | b | s | f (k : FloatKind)
def Sk.T : Sk → Type
  | .i _ => Int
  | .b => Bool
  | .s => ByteArray
  | .f _ => Nat
def SkL : List Sk → Type
  | [] => Unit
  | a :: t => a.T × SkL t
def Sk.enc {T : Nat → Type} : (a : Sk) → a.T → Cv T
  | .i k, n => .sc (.int k n)
  | .b, x => .sc (.bool x)
  | .s, x => .sc (.string x)
  | .f k, n => .sc (.float k n)
def Sk.dec {T : Nat → Type} : (a : Sk) → Cv T → Option a.T
  | .i k, .sc (.int k' n) => bif eqIK k k' then some n else none
  | .b, .sc (.bool x) => some x
  | .s, .sc (.string x) => some x
  | .f k, .sc (.float k' n) => bif eqFK k k' then some n else none
  | _, _ => none
def encK {T : Nat → Type} : (l : List Sk) → SkL l → List (Cv T)
  | [], _ => []
  | a :: t, x => a.enc x.1 :: encK t x.2
def decK {T : Nat → Type} : (l : List Sk) → List (Cv T) → Option (SkL l)
  | [], [] => some ()
  | a :: t, c :: cs => match a.dec c, decK t cs with
    | some x, some y => some (x, y)
    | _, _ => none
  | _, _ => none
theorem Sk.dec_ok {T : Nat → Type} {a : Sk} {c : Cv T} {x : a.T} (h : a.dec c = some x) : a.enc x = c := by
  unfold Sk.dec at h
  split at h
  · rename_i k k' n
    have : k = k' := by cases k <;> cases k' <;> first | rfl | (simp [eqIK] at h)
    subst this
    have : eqIK k k = true := by cases k <;> rfl
    rw [this] at h; cases h; rfl
  · cases h; rfl
  · cases h; rfl
  · rename_i k k' n
    have : k = k' := by cases k <;> cases k' <;> first | rfl | (simp [eqFK] at h)
    subst this
    have : eqFK k k = true := by cases k <;> rfl
    rw [this] at h; cases h; rfl
  · cases h
theorem nxl' {T : Nat → Type} : ∀ {l : List Sk} {cs : List (Cv T)} {x : SkL l}, decK l cs = some x → encK l x = cs
  | [], [], _, _ => rfl
  | a :: t, c :: cs, x, h => by
    simp only [decK] at h
    split at h
    · rename_i y z hy hz
      cases h
      simp only [encK, Sk.dec_ok hy, nxl' hz]
    · cases h
section
variable {P : Program}
theorem tn : ∀ p ∈ ([] : List (Nat × Fe G)), FnOK P G p.1 p.2 := fun _ h => absurd h (List.not_mem_nil)
theorem tc {g : Nat} {e : Fe G} {l : List (Nat × Fe G)} (h : FnOK P G g e) (t : ∀ p ∈ l, FnOK P G p.1 p.2) : ∀ p ∈ (g, e) :: l, FnOK P G p.1 p.2 := List.forall_mem_cons.2 ⟨h, t⟩
theorem an0 {Q : Nat → Code → Prop} {n : Nat} {l : List Code} (h : l = []) : AllAt Q n l := h ▸ nk'
theorem ln {nt k : Nat} {c : Code} {lp : Nat → St G → M (Ex × St G)} (h : lp k = lf) : LoopOK P G nt (lp k) c := n3g' h
variable (cx : Ctx P G) {l : List (Nat × Fe G)} (hl : ∀ p ∈ l, FnOK P G p.1 p.2) (jn : Nat → Option SL) {lp : Nat → St G → M (Ex × St G)}
include cx hl in
theorem lk (n : Nat) {nt k : Nat} {c : Code} (S : Spec) (E : SL) {L : S.T G → Option (SumE G E)} {R : S.T G → Option (Sum (S.T G) (SumE G E))} (hL : L = iter R fuel) (hP : lp k = lpX S E L) (hin : AllAt (fun k c => LoopOK P G nt (lp k) c) n (loops c))
    (hR : ∀ x, rndI (cfP l) lp jn nt n c S E x = R x) : LoopOK P G nt (lp k) c :=
  n3n' cx.ok cx.eqok cx.hm hl S E R (hL ▸ hP) hin hR
include cx hl in
theorem fk {g : Nat} {fn : Func} (hfn : P.funcs[g]? = some fn) {e : Fe G} (hc : (!(fn.name == "runtime.NumGoroutine") && Nat.ble e.I.tm.length fn.ntmps) = true) (hbody : fn.body = some (ne' fn)) (hrs : fn.results.toList = e.rs)
    (hlp : AllAt (fun k c => LoopOK P G fn.ntmps (lp k) c) 0 (loops (ne' fn))) (hF : ∀ x, endI (cfP l) lp jn fn.ntmps (ne' fn) e.I e.E x = e.F x) : FnOK P G g e := by
  rw [Bool.and_eq_true, Bool.not_eq_true'] at hc
  exact fn_ok cx.ok cx.eqok cx.hm hl hfn hc.1 hbody hrs hc.2 (nyo' hlp) hF
end
end Go.Ab
namespace Go.Ab
structure TyD where
  A : Type
  d : A
def lookD : List (Nat × TyD) → Nat → TyD
  | [], _ => ⟨Unit, ()⟩
  | p :: r, t => bif Nat.beq p.1 t then p.2 else lookD r t
@[reducible] def TOf (tys : List (Nat × TyD)) (t : Nat) : Type := (lookD tys t).A
structure Ent (T : Nat → Type) (t : Nat) where
  ty : Ty
  sz : Nat
  zero : List Value
  enc : T t → List (Cv T)
  dec : List (Cv T) → Option (T t)
  flat : Bool
structure Ent1 (T : Nat → Type) where
  t : Nat
  e : Ent T t
def noEnt (T : Nat → Type) (t : Nat) : Ent T t := ⟨.no, 0, [], fun _ => [], fun _ => none, false⟩
def findE {T : Nat → Type} : List (Ent1 T) → (t : Nat) → Ent T t
  | [], t => noEnt T t
  | p :: r, t => if h : p.t = t then h ▸ p.e else findE r t
def mkSig (tys : List (Nat × TyD)) (l : List (Ent1 (TOf tys))) (gl : Nat → Option ((t : Nat) × TOf tys t) := fun _ => none) (ext : Nat → Nat := fun _ => 0) : Sig :=
  { T := TOf tys
    ty := fun t => (findE l t).ty
    sz := fun t => (findE l t).sz
    zero := fun t => (findE l t).zero
    enc := fun t => (findE l t).enc
    dec := fun t => (findE l t).dec
    dfl := fun t => (lookD tys t).d
    flat := fun t => (findE l t).flat
    gl := gl
    ext := ext }
def extL : List (Nat × Nat) → Nat → Nat
  | [], _ => 0
  | p :: r, g => bif Nat.beq p.1 g then p.2 else extL r g
def njt' (T : Nat → Type) (t t' : Nat) (l : List (T t)) : Option (List (T t')) := if h : t = t' then some (h ▸ l) else none
theorem nf0' {T : Nat → Type} {t t' : Nat} {l : List (T t)} {l' : List (T t')} (h : njt' T t t' l = some l') : ∃ e : t = t', e ▸ l = l' := by
  unfold njt' at h
  split at h
  · rename_i e; simp at h; exact ⟨e, h⟩
  · simp at h
def plain (T : Nat → Type) (t : Nat) (ty : Ty) (sz : Nat) (zero : List Value) : Ent1 T := ⟨t, ⟨ty, sz, zero, fun _ => [], fun _ => none, false⟩⟩
end Go.Ab
namespace Go.Ab
def TyOK (P : Program) (G : Sig) (t : Nat) : Ty → Prop
  | .no => True
  | .bool => P.underlying t = some .bool
  | .int k => P.underlying t = some (.int k)
  | .flt k => P.underlying t = some (.float k)
  | .str => P.underlying t = some .string
  | .sl e => P.underlying t = some (.slice e) ∧ isNo (G.ty e) = false ∧ (∃ i, P.info? e = some i ∧ Nat.ble i.bytes 4096 = true) ∧ ∀ x, (G.enc e x).length = G.sz e
  | .pt e => P.underlying t = some (.pointer e)
  | .fn => ∃ a b c, P.underlying t = some (.func a b c)
  | .st fs => ∃ fields, P.underlying t = some (.struct fields) ∧ fields.toList.map (fun f => (f.offset, f.type)) = fs ∧ fs.all (fun p => !isNo (G.ty p.2)) = true
  | .arr n e => P.underlying t = some (.array n e) ∧ isNo (G.ty e) = false
def n00' {T : Nat → Type} : Cv T → Bool
  | .sc _ | .ro _ _ => true
  | _ => false
def isScC {T : Nat → Type} : Cv T → Bool
  | .sc _ => true
  | _ => false
structure EntOK (P : Program) (G : Sig) (t : Nat) (e : Ent G.T t) : Prop where
  ty : TyOK P G t e.ty
  info : e.ty ≠ .no → ∃ i z, P.info? t = some i ∧ i.size = e.sz ∧ i.zero = some z ∧ z.cells.toList = e.zero
  pos : e.ty ≠ .no → Nat.ble 1 e.sz = true
  nosz : e.ty = .no → e.sz = 0
  zsc : e.zero.all isSc = true
  zlen : e.zero.length = e.sz
  encl : ∀ x, (e.enc x).length ≤ e.sz
  encdec : ∀ cs x, e.dec cs = some x → e.enc x = cs
  encd : ∀ x, (e.enc x).all n00' = true
  flatd : e.flat = true → ∀ x, (e.enc x).all isScC = true
  u8d : ∀ x y, (e.enc x).map u8C = (e.enc y).map u8C
theorem n2d' {P : Program} {G : Sig} (t : Nat) : EntOK P G t (noEnt G.T t) :=
  ⟨trivial, fun h => absurd rfl h, fun h => absurd rfl h, fun _ => rfl, rfl, rfl, fun _ => Nat.le_refl _, fun cs x h => by simp [noEnt] at h, fun _ => rfl, fun _ _ => rfl, fun _ _ => rfl⟩
theorem nls' {T : Nat → Type} {Q : (t : Nat) → Ent T t → Prop} (h0 : ∀ t, Q t (noEnt T t)) : ∀ {l : List (Ent1 T)}, (∀ p ∈ l, Q p.t p.e) → ∀ t, Q t (findE l t)
  | [], _, t => h0 t
  | p :: r, h, t => by
    unfold findE
    split
    · rename_i e
      subst e
      exact h p (by simp)
    · exact nls' h0 (fun q hq => h q (by simp [hq])) t
theorem nm2' {y : Ty} (h : isNo y = false) : y ≠ .no := by intro e; subst e; simp [isNo] at h
theorem nyl' {P : Program} : ExtOK P fun _ => 0 := fun _ h => absurd rfl h
theorem n11' {P : Program} : ∀ {l : List (Nat × Nat)}, (∀ p ∈ l, ExtAt P p.1 (extE p.2)) → ExtOK P (extL l)
  | [], _, g, h => absurd rfl h
  | p :: r, h, g, hg => by
    unfold extL at hg ⊢
    cases hb : Nat.beq p.1 g with
    | true =>
      rw [cond_true]
      rw [← nu'.1 hb]
      exact h p (by simp)
    | false =>
      rw [hb, cond_false] at hg
      rw [cond_false]
      exact n11' (fun q hq => h q (by simp [hq])) g hg
theorem n15' {P : Program} {tys : List (Nat × TyD)} {l : List (Ent1 (TOf tys))} {gl : Nat → Option ((t : Nat) × TOf tys t)} {ext : Nat → Nat} (h : ∀ p ∈ l, EntOK P (mkSig tys l gl ext) p.t p.e) (hx : ExtOK P ext) : SigOK P (mkSig tys l gl ext) := by
  have key : ∀ t, EntOK P (mkSig tys l gl ext) t (findE l t) := nls' (T := TOf tys) (Q := fun t e => EntOK P (mkSig tys l gl ext) t e) (fun t => n2d' t) h
  have tyOf : ∀ t, TyOK P (mkSig tys l gl ext) t ((mkSig tys l gl ext).ty t) := fun t => (key t).ty
  refine ⟨fun t e => ?_, fun t k e => ?_, fun t k e => ?_, fun t e => ?_, fun t e he => ?_, fun t e he => ?_, fun t e => ?_, fun t fs e => ?_, fun t n e he => ?_, fun t => (key t).info, fun t ht => ?_, fun t => (key t).nosz, fun t v hv => ?_, fun t => (key t).zlen, fun t => (key t).encl, fun t => (key t).encdec, fun t x c hc => ?_, fun t x c hf hc => ?_, fun t => (key t).u8d, hx⟩
  · have := tyOf t; rw [e] at this; exact this
  · have := tyOf t; rw [e] at this; exact this
  · have := tyOf t; rw [e] at this; exact this
  · have := tyOf t; rw [e] at this; exact this
  · have := tyOf t; rw [he] at this
    obtain ⟨h1, h2, ⟨i, h3, h4⟩, h5⟩ := this
    exact ⟨h1, nm2' h2, ⟨i, h3, Nat.le_of_ble_eq_true h4⟩, h5⟩
  · have := tyOf t; rw [he] at this; exact this
  · have := tyOf t; rw [e] at this; exact this
  · have := tyOf t; rw [e] at this
    obtain ⟨fields, h1, h2, h3⟩ := this
    refine ⟨fields, h1, h2, fun o u hou => nm2' ?_⟩
    have := List.all_eq_true.1 h3 (o, u) hou
    simpa using this
  · have := tyOf t; rw [he] at this; exact ⟨this.1, nm2' this.2⟩
  · exact Nat.le_of_ble_eq_true ((key t).pos ht)
  · exact List.all_eq_true.1 (key t).zsc v hv
  · have := List.all_eq_true.1 ((key t).encd x) c hc
    cases c with
    | sc v => exact .inl ⟨v, rfl⟩
    | ro t' l => exact .inr ⟨t', l, rfl⟩
    | _ => simp [n00'] at this
  · have := List.all_eq_true.1 ((key t).flatd hf x) c hc
    cases c with
    | sc v => exact ⟨v, rfl⟩
    | _ => simp [isScC] at this
end Go.Ab
