/- Each operation: what the evaluator says, the model does. First half. -/
import Derived.Test.YtfooilbkiclplaaAb5
namespace Go.Ab
variable {G : Sig}

/-- An operation runs in the model to a value (or to none), and what lies behind it is as the evaluator says. -/
def Runs (P : Program) (G : Sig) (ρ : Operand → Value) (o : Oper) (ν : Nat → Option Value) (S B : Nat → Prop) (h : Nat → Option (Blk G.T)) (w : World) (out : Out G) : Prop :=
  ∃ nx w' v ν' S', (execOp ρ o).run P w = .ok nx w' ∧ (nx = .value v ∨ (nx = .skip ∧ v = undef)) ∧ Post G ν S B h w out (appD h out.d) ν' S' w' v

theorem rp_form {S : Nat → Prop} {h : Array Obj} {t : Nat} {x : G.T t} {off : Nat} {v : Value} (r : Rd G S h (.rp t x off) v) : ∃ b o, v = .pointer (some ⟨b, o, none⟩) := by
  cases r; exact ⟨_, _, rfl⟩

section
variable {P : Program} {ν : Nat → Option Value} {S B : Nat → Prop} {h : Nat → Option (Blk G.T)} {w : World} {ρ : Operand → Value} {o : Oper}

theorem Post.pure (hr : HRel G ν S B h w) {out : Out G} (hd : out.d = []) {v : Value} (hv : ∀ s, out.v = some s → Rs G ν S w.heap s v) :
    Post G ν S B h w out (appD h out.d) ν S w v :=
  ⟨fun _ _ h => h, fun _ h => .inl h, fun _ h => h, fun _ h => .inl h, by rw [hd]; exact hr, hv, Nat.le_refl _, fun _ _ _ => rfl, rfl, rfl, rfl⟩
theorem Runs.value (hr : HRel G ν S B h w) {out : Out G} (hd : out.d = []) {v : Value} (hrun : (execOp ρ o).run P w = .ok (.value v) w) (hv : ∀ s, out.v = some s → Rs G ν S w.heap s v) :
    Runs P G ρ o ν S B h w out :=
  ⟨_, w, v, ν, S, hrun, .inl rfl, Post.pure hr hd hv⟩
theorem Runs.outP (hr : HRel G ν S B h w) {x : Pv G.T} {v : Value} (hrun : (execOp ρ o).run P w = .ok (.value v) w) (hv : Rp G ν S w.heap x v) :
    Runs P G ρ o ν S B h w (outP x) :=
  Runs.value hr rfl hrun fun s hs => by simp [Ab.outP] at hs; subst hs; exact .p _ _ hv
theorem Runs.outV (hr : HRel G ν S B h w) {v : Value} (hrun : (execOp ρ o).run P w = .ok (.value v) w) (hv : isSc v = true) :
    Runs P G ρ o ν S B h w (Ab.outV v) :=
  Runs.outP hr hrun (.one _ _ (.sc v hv))

def ext (ν : Nat → Option Value) (nm : Nat) (x : Value) : Nat → Option Value := fun n => if n = nm then some x else ν n
theorem ext_le {nm : Nat} {x : Value} (hν : ν nm = none) : ∀ n y, ν n = some y → ext ν nm x n = some y := by
  intro n y hy
  unfold ext
  by_cases e : n = nm
  · subst e; rw [hν] at hy; simp at hy
  · simp [e, hy]
theorem ext_new {nm : Nat} {x : Value} : ∀ n, ext ν nm x n ≠ none → ν n ≠ none ∨ n ∈ [nm] := by
  intro n hn
  unfold ext at hn
  by_cases e : n = nm
  · exact .inr (by simp [e])
  · simp [e] at hn; exact .inl hn
theorem ext_self {nm : Nat} {x : Value} : ext ν nm x nm = some x := by simp [ext]

/-- A name comes up: for a block that nobody has. -/
theorem HRel.add (hr : HRel G ν S B h w) {nm : Nat} {x : Value} {k : Blk G.T} {w' : World} (hν : ν nm = none)
    (hsame : ∀ b, b < w.heap.size → (S b ∨ ∃ m y, h m ≠ none ∧ ν m = some y ∧ blkOf y = some b) → w'.heap[b]? = w.heap[b]?) (hsize : w.heap.size ≤ w'.heap.size)
    (hnew : ∀ b, blkOf x = some b → ¬ S b ∧ B b ∧ ∀ m y, h m ≠ none → ν m = some y → blkOf y ≠ some b)
    (hk : Rb G (ext ν nm x) S w'.heap nm k) : HRel G (ext ν nm x) S B (fun m => if nm = m then some k else h m) w' := by
  have le : Le ν (ext ν nm x) S S w.heap w'.heap := ⟨ext_le hν, fun _ h => h, fun b hb => hsame b (hr.stay b hb) (.inl hb)⟩
  have old : ∀ m, nm ≠ m → ∀ y, ext ν nm x m = some y → ν m = some y := by
    intro m hm y hy; unfold ext at hy; rwa [if_neg (Ne.symm hm)] at hy
  refine ⟨fun m k' hm => ?_, fun m m' y y' b h1 h2 h3 h4 h5 h6 => ?_, fun m y b h1 h2 h3 => ?_, fun b hb => Nat.lt_of_lt_of_le (hr.stay b hb) hsize⟩
  · by_cases e : nm = m
    · subst e; simp at hm; subst hm; exact hk
    · simp [e] at hm
      exact (hr.blk m k' hm).mono le fun y b hy hb => hsame b (hr.lt (by simp [hm]) hy hb) (.inr ⟨m, y, by simp [hm], hy, hb⟩)
  · by_cases e : nm = m
    · subst e
      by_cases e' : nm = m'
      · exact e'
      · rw [ext_self] at h3; simp at h3; subst h3
        simp [e'] at h2
        exact absurd h6 ((hnew b h5).2.2 m' y' h2 (old m' e' y' h4))
    · simp [e] at h1
      by_cases e' : nm = m'
      · subst e'
        rw [ext_self] at h4; simp at h4; subst h4
        exact absurd h5 ((hnew b h6).2.2 m y h1 (old m e y h3))
      · simp [e'] at h2
        exact hr.apart m m' y y' b h1 h2 (old m e y h3) (old m' e' y' h4) h5 h6
  · by_cases e : nm = m
    · subst e
      rw [ext_self] at h2; simp at h2; subst h2
      exact ⟨(hnew b h3).1, (hnew b h3).2.1⟩
    · simp [e] at h1
      exact hr.own m y b h1 (old m e y h2) h3
theorem HRel.sub (hr : HRel G ν S B h w) {h' : Nat → Option (Blk G.T)} (hs : ∀ m, h' m ≠ none → h' m = h m) : HRel G ν S B h' w := by
  have al : ∀ m, h' m ≠ none → h m ≠ none := fun m hm => by rw [← hs m hm]; exact hm
  exact ⟨fun n k hk => hr.blk n k (by rw [← hs n (by simp [hk])]; exact hk), fun n m x y b h1 h2 => hr.apart n m x y b (al n h1) (al m h2), fun n x b h1 => hr.own n x b (al n h1), hr.stay⟩

/-- A new block under a new name. -/
theorem Post.alloc (hr : HRel G ν S B h w) (hB : ∀ b, w.heap.size ≤ b → B b) {nm : Nat} (hν : ν nm = none) {out : Out G} {c : Array Value} {te : TypeId} {x : Value} {k : Blk G.T}
    (hd : out.d = [(nm, some k)]) (hn : out.nw = [nm]) (hx : blkOf x = some w.heap.size) {w' : World} (hheap : w'.heap = w.heap.push (.cells c te)) (henv : w'.os = w.os ∧ w'.tape = w.tape ∧ w'.output = w.output)
    (hk : Rb G (ext ν nm x) S (w.heap.push (.cells c te)) nm k) {v : Value}
    (hv : ∀ s, out.v = some s → Rs G (ext ν nm x) S (w.heap.push (.cells c te)) s v) : Post G ν S B h w out (appD h out.d) (ext ν nm x) S w' v := by
  have hold : ∀ b, b < w.heap.size → w'.heap[b]? = w.heap[b]? := fun b hb => by rw [hheap, Array.getElem?_push, if_neg (Nat.ne_of_lt hb)]
  refine ⟨ext_le hν, by rw [hn]; exact ext_new, fun _ h => h, fun _ h => .inl h, ?_, by rw [hheap]; exact hv, by rw [hheap]; simp, fun b hb _ => hold b hb, henv⟩
  rw [hd]
  refine hr.add hν (fun b hb _ => hold b hb) (by rw [hheap]; simp) (fun b hb => ?_) (by rw [hheap]; exact hk)
  rw [hx] at hb; simp at hb; subst hb
  refine ⟨fun hS => absurd (hr.stay _ hS) (Nat.lt_irrefl _), hB _ (Nat.le_refl _), fun m y hm hy e => absurd (hr.lt hm hy e) (Nat.lt_irrefl _)⟩
theorem le_push (o : Obj) {nm : Nat} {x : Value} (hr : HRel G ν S B h w) (hν : ν nm = none) : Le ν (ext ν nm x) S S w.heap (w.heap.push o) :=
  ⟨ext_le hν, fun _ h => h, fun b hb => by rw [Array.getElem?_push, if_neg (Nat.ne_of_lt (hr.stay b hb))]⟩

/-! ### The operations -/
variable (ok : SigOK P G) {ev : Operand → Option (Sv G.T)} (hev : ∀ x s, ev x = some s → Rs G ν S w.heap s (ρ x)) (hr : HRel G ν S B h w) (hB : ∀ b, w.heap.size ≤ b → B b)
  {cf : CallF G} {nm : Nat} {out : Out G} (hfresh : ∀ n ∈ out.nw, ν n = none)
include hev
theorem rpOf {x : Operand} {y : Pv G.T} (hx : ev x = some (.p y)) : Rp G ν S w.heap y (ρ x) := by
  have := hev x _ hx
  cases this with
  | p _ _ h => exact h
theorem rcOf {x : Operand} {y : Cv G.T} (hx : ev x = some (.p (.one y))) : Rc G ν S w.heap y (ρ x) := by
  have := rpOf hev hx
  cases this with
  | one _ _ h => exact h
theorem scOf {x : Operand} {v : Value} (hx : ev x = some (.p (.one (.sc v)))) : ρ x = v ∧ isSc v = true := by
  have h : Rd G S w.heap (.sc v) (ρ x) := rcOf hev hx
  generalize ρ x = u at h
  cases h with
  | sc _ hv => exact ⟨rfl, hv⟩
include hr
theorem move_runs {x : Operand} (ho : o.op = .move x ∨ o.op = .assign x) (hact : aMove ev x (Out G) some = some out) : Runs P G ρ o ν S B h w out := by
  unfold aMove at hact
  split at hact
  · rename_i s hs
    simp at hact; subst hact
    refine Runs.value hr rfl (v := ρ x) ?_ (fun s' hs' => by simp at hs'; subst hs'; exact hev x _ hs)
    rcases ho with e | e <;> (unfold execOp; rw [e]; rfl)
  · simp at hact
theorem pick_runs {c x y : Operand} (ho : o.op = .pick c x y) (hact : aPick ev c x y (Out G) some = some out) : Runs P G ρ o ν S B h w out := by
  unfold aPick at hact
  obtain ⟨b, hb, hact⟩ := bindB hact
  have hact := M.split_spec (M.bind_spec hact)
  unfold aMove at hact
  split at hact
  · rename_i s hs
    simp at hact; subst hact
    have hρ := (scOf hev hb).1
    refine Runs.value hr rfl (v := if b then ρ x else ρ y) ?_ (fun s' hs' => by simp at hs'; subst hs'; cases b <;> exact hev _ _ hs)
    unfold execOp; rw [ho]
    simp only [Sem.run_bind, hρ, asBool, Sem.run_pure, Result.andThen_ok]
  · simp at hact
include ok
theorem load_runs {t : Nat} {x : Operand} (ho : o.op = .load t x) (hact : aLoad ev h t x (Out G) some = some out) : Runs P G ρ o ν S B h w out := by
  unfold aLoad at hact
  obtain ⟨c, hc, hact⟩ := bindC hact
  obtain ⟨cs, hcs, hact⟩ := M.bindopt hact
  obtain ⟨x', hx', hact⟩ := M.bindopt hact
  simp [M.ret] at hact; subst hact
  obtain ⟨b, off, vs, hv, hf, hlen, hcell⟩ := look_sound ok hr hcs (rcOf hev hc)
  have hno : G.ty t ≠ .no := by
    intro e
    rw [ok.nosz t e] at hlen
    have : cs = [] := by have := hf.1; rw [hlen] at this; exact List.eq_nil_of_length_eq_zero this
    subst this
    simp [pack, e, Ty.isAgg] at hx'
  refine Runs.value hr rfl (v := if (G.ty t).isAgg then .agg vs.toArray else vs.getD 0 undef) ?_ (fun s hs => by simp at hs; subst hs; exact .p _ _ (rp_of_cells hx' hf))
  have hload : (loadCells ⟨b, off, none⟩ vs.length).run P w = .ok vs.toArray w := run_loadCells_list (P := P) w ⟨b, off, none⟩ vs (fun j v hj => by rw [add_mk]; exact hcell j v hj)
  unfold execOp; rw [ho]
  simp only [Instr.loadAt, hv, Instr.sureAddr, loadVar, Sem.run_bind, Sem.run_pure, Result.andThen_ok, ok.isAgg w hno]
  cases ha : (G.ty t).isAgg with
  | true =>
    simp only [if_true, Sem.run_bind, ok.sizeOf w hno, Result.andThen_ok, ← hlen, hload, Sem.run_pure]
  | false =>
    have hone : vs.length = 1 := by
      simp only [pack, ha, cond_false] at hx'
      split at hx'
      · have := hf.1; simpa using this.symm
      · simp at hx'
    obtain ⟨u, rfl⟩ : ∃ u, vs = [u] := List.length_eq_one_iff.1 hone
    have hu := hcell 0 u rfl
    simp only [Nat.add_zero] at hu
    simp [hu]
theorem store_runs {t : Nat} {x y : Operand} (ho : o.op = .store t x y) (hact : aStore ev h t x y (Out G) some = some out) : Runs P G ρ o ν S B h w out := by
  unfold aStore at hact
  obtain ⟨c, hc, hact⟩ := bindC hact
  obtain ⟨x', hx', hact⟩ := bindP hact
  obtain ⟨hsz, hact⟩ := M.bindneed hact
  obtain ⟨⟨n, k'⟩, hp, hact⟩ := M.bindopt hact
  simp [M.ret] at hact; subst hact
  have hnew := rp_cells (rpOf hev hx')
  obtain ⟨b, off, w', xx, hv, hrun, hn, hνn, hb, ⟨c', te, hw⟩, hrel⟩ := poke_sound ok hr (rcOf hev hc) hnew hp
  have hsize : (ρ y).cells.size = G.sz t := by
    have := hnew.1
    simp at hsz
    rw [hsz.1] at this
    simpa using this.symm
  have hno : G.ty t ≠ .no := by
    intro e
    simp [e, isNo] at hsz
  refine ⟨.skip, w', undef, ν, S, ?_, .inr ⟨rfl, rfl⟩, ⟨fun _ _ h => h, fun _ h => .inl h, fun _ h => h, fun _ h => .inl h, hrel, fun s hs => by simp at hs, by rw [hw.size]; exact Nat.le_refl _,
    fun b' hb' hnot => hw.there b' (fun e => hnot n xx hn hνn (e ▸ hb)), hw.env⟩⟩
  unfold execOp; rw [ho]
  simp only [Instr.storeAt, hv, Instr.sureAddr, storeVar, Sem.run_bind, Sem.run_pure, Result.andThen_ok, ok.sizeOf w hno, hsize]
  simp [hrun]
include hB hfresh
omit hev in
theorem alloc_runs {t : Nat} (ho : o.op = .alloc t) (hact : aAlloc nm t (Out G) some = some out) : Runs P G ρ o ν S B h w out := by
  unfold aAlloc at hact
  have hno : G.ty t ≠ .no := by intro e; simp [e, M.fail] at hact
  have hact' : some (⟨some (.p (.one (.ptr nm 0))), [(nm, some (.cells (zeros G t)))], [nm], []⟩ : Out G) = some out := by
    cases hty : G.ty t <;> simp only [hty] at hact <;> first | exact absurd hty hno | exact hact
  simp at hact'; subst hact'
  obtain ⟨z, hz, hzc⟩ := ok.zeroV w hno
  refine ⟨.value (.pointer (some ⟨w.heap.size, 0, none⟩)), { w with heap := w.heap.push (.cells z.cells t) }, _, ext ν nm (.pointer (some ⟨w.heap.size, 0, none⟩)), S, ?_, .inl rfl, ?_⟩
  · unfold execOp; rw [ho]
    simp [Instr.alloc, hz, newVar, newRow]
  · have hν := hfresh nm (by simp)
    refine Post.alloc (k := .cells (zeros G t)) (c := z.cells) (te := t) (w' := { w with heap := w.heap.push (.cells z.cells t) }) hr hB hν rfl rfl rfl rfl ⟨rfl, rfl, rfl⟩ ⟨w.heap.size, z.cells, t, ext_self, by simp, ?_⟩ fun s hs => ?_
    · rw [hzc, zeros]
      exact F2.map_left ⟨rfl, fun i x y hx hy => by rw [hx] at hy; simp at hy; subst hy; exact .sc _ (ok.zsc t x (List.mem_of_getElem? hx))⟩
    · simp at hs; subst hs
      exact .p _ _ (.one _ _ ⟨w.heap.size, ext_self, rfl⟩)
omit ok
theorem box_runs {t : Nat} {x : Operand} (ho : o.op = .box t x) (hact : aBox ev nm x (Out G) some = some out) : Runs P G ρ o ν S B h w out := by
  unfold aBox at hact
  obtain ⟨y, hy, hact⟩ := bindP hact
  simp [M.ret] at hact; subst hact
  have hν := hfresh nm (by simp)
  have hc := rp_cells (rpOf hev hy)
  refine ⟨.value (.pointer (some ⟨w.heap.size, 0, none⟩)), { w with heap := w.heap.push (.cells (ρ x).cells t) }, _, ext ν nm (.pointer (some ⟨w.heap.size, 0, none⟩)), S, ?_, .inl rfl, ?_⟩
  · unfold execOp; rw [ho]
    simp [Instr.box, newVar, newRow]
  · refine Post.alloc (k := .cells y.cells) (c := (ρ x).cells) (te := t) (w' := { w with heap := w.heap.push (.cells (ρ x).cells t) }) hr hB hν rfl rfl rfl rfl ⟨rfl, rfl, rfl⟩ ⟨w.heap.size, (ρ x).cells, t, ext_self, by simp, ?_⟩ fun s hs => ?_
    · exact hc.mono fun _ _ => Rc.mono (le_push _ hr hν)
    · simp at hs; subst hs
      exact .p _ _ (.one _ _ ⟨w.heap.size, ext_self, rfl⟩)
omit hB hfresh
theorem nil_runs {x : Operand} (ho : o.op = .nilCheck x) (hact : aNil ev x (Out G) some = some out) : Runs P G ρ o ν S B h w out := by
  unfold aNil at hact
  obtain ⟨c, hc, hact⟩ := bindC hact
  obtain ⟨hp, hact⟩ := M.bindneed hact
  simp [M.ret] at hact; subst hact
  have hrc := rcOf hev hc
  refine Runs.outP hr (v := ρ x) ?_ (.one _ _ hrc)
  unfold execOp; rw [ho]
  cases c with
  | ptr n off => obtain ⟨b, _, e⟩ := hrc; simp [e]
  | pd n off s len i => obtain ⟨_, b, _, e⟩ := hrc; simp [e]
  | pr n t i off => obtain ⟨b, len, cap, _, _, e⟩ := hrc; simp [e]
  | clo f p q => obtain ⟨vp, vq, e, _⟩ := hrc; simp [e]
  | rp t' x' off => obtain ⟨b, o', e⟩ := rp_form hrc; simp [e]
  | _ => simp [isP] at hp
theorem extract_runs {x : Operand} {i : Nat} (ho : o.op = .extract x i) (hact : aExtract ev x i (Out G) some = some out) : Runs P G ρ o ν S B h w out := by
  unfold aExtract at hact
  split at hact
  · rename_i xs hx
    split at hact
    · rename_i y hy
      simp at hact; subst hact
      have := hev x _ hx
      generalize hu : ρ x = u at this
      cases this with
      | tup _ vs hvs =>
        obtain ⟨v, hv, hr'⟩ := hvs.get hy
        refine Runs.outP hr (v := v) ?_ hr'
        unfold execOp; rw [ho]
        simp only [hu, Instr.extract]
        simp [hv]
    · simp at hact
  · simp at hact
end
end Go.Ab
