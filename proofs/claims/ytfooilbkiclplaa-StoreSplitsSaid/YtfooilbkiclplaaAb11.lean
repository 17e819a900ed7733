/- Each operation: what the evaluator says, the model does. Sixth part: the builtins. -/
import Derived.Test.YtfooilbkiclplaaAb10
namespace Go.Ab
variable {G : Sig}

section
variable {P : Program} {ν : Nat → Option Value} {S B : Nat → Prop} {h : Nat → Option (Blk G.T)} {w : World} {ρ : Operand → Value} {o : Oper}
variable (ok : SigOK P G) {ev : Operand → Option (Sv G.T)} (hev : ∀ x s, ev x = some s → Rs G ν S w.heap s (ρ x)) (hr : HRel G ν S B h w) (hB : ∀ b, w.heap.size ≤ b → B b)
  {cf : CallF G} {nm : Nat} {out : Out G} (hfresh : ∀ n ∈ out.nw, ν n = none)

theorem castL_spec {t t' : Nat} {l : List (G.T t)} {l' : List (G.T t')} (hc : castL G t t' l = some l') : ∃ e : t = t', l' = e ▸ l := by
  unfold castL at hc
  split at hc
  · rename_i e; simp at hc; exact ⟨e, hc.symm⟩
  · simp at hc

include ok hr in
/-- The elements of a slice: its length, and its cells as they lie. -/
theorem elems_sound {t e : Nat} (ht : G.ty t = .sl e) {c : Cv G.T} {l : List (G.T e)} (hl : elems h e c = some l) {v : Value} (hv : Rc G ν S w.heap c v) :
    ∃ a cap, v = .slice a l.length cap ∧ (a = none → l = []) ∧ ∃ vs : List Value, vs.length = l.length * G.sz e ∧ (∀ a', a = some a' → ∀ (j : Nat) u, vs[j]? = some u → w.cell? (a'.add j) = some u) ∧
      (∀ u ∈ vs, u.oneCell' = true) ∧ ∀ (i j : Nat) x cv, l[i]? = some x → (G.enc e x)[j]? = some cv → ∃ u, vs[i * G.sz e + j]? = some u ∧ Rd G S w.heap cv u := by
  have hel := (ok.sl t e ht).2.2.2
  have hpos := ok.pos _ (ok.sl t e ht).2.1
  unfold elems at hl
  split at hl
  · simp at hl; subst hl
    have hv' : Rd G S w.heap (.sc (.slice none 0 0)) v := hv
    cases hv'
    exact ⟨none, 0, rfl, fun _ => rfl, [], by simp, by simp, by simp, by simp⟩
  · rename_i n
    split at hl
    · rename_i t' l0 hn
      obtain ⟨rfl, rfl⟩ := castL_spec hl
      obtain ⟨a, len, cap, hν, rfl⟩ := hv
      rcases hr.blk n _ hn with ⟨h1, h2⟩ | ⟨b, cap', c, te, h1, h2, h3, h4, h5⟩
      · rw [hν] at h1; simp at h1; obtain ⟨rfl, rfl, rfl⟩ := h1
        subst h2
        exact ⟨none, 0, rfl, fun _ => rfl, [], by simp, by simp, by simp, by simp⟩
      · rw [hν] at h1; simp at h1; obtain ⟨rfl, rfl, rfl⟩ := h1
        have hmul : l.length * G.sz t' ≤ cap * G.sz t' := Nat.mul_le_mul_right _ h3
        refine ⟨_, cap, rfl, by simp, c.toList.take (l.length * G.sz t'), by simp; omega, ?_, ?_, ?_⟩
        · rintro a' ha j u hu
          simp at ha; subst ha
          have hj : j < l.length * G.sz t' := by have := (List.getElem?_eq_some_iff.1 hu).1; simp at this; omega
          rw [List.getElem?_take_of_lt hj] at hu
          rw [add_mk, Nat.zero_add, cell_of_row w b j c te (0, 0) h2]
          simpa using hu
        · intro u hu
          obtain ⟨j, hj, e⟩ := List.getElem_of_mem hu
          have hj' : j < l.length * G.sz t' := by simp at hj; omega
          have hi : j / G.sz t' < l.length := Nat.div_lt_of_lt_mul (by rw [Nat.mul_comm]; exact hj')
          have hm : j % G.sz t' < (G.enc t' l[j / G.sz t']).length := by rw [hel]; exact Nat.mod_lt _ hpos
          obtain ⟨u', hu', hrd⟩ := h5.1 (j / G.sz t') (j % G.sz t') _ _ (List.getElem?_eq_getElem hi) (List.getElem?_eq_getElem hm)
          rw [Nat.mul_comm, Nat.div_add_mod] at hu'
          have : u = u' := by
            have h6 : (c.toList.take (l.length * G.sz t'))[j]? = some u := by rw [← e]; exact List.getElem?_eq_getElem hj
            rw [List.getElem?_take_of_lt hj'] at h6
            simp at h6
            rw [h6] at hu'; simpa using hu'
          rw [this]; exact rd_one hrd
        · intro i j x cv hx hcv
          obtain ⟨u, hu, hrd⟩ := h5.1 i j x cv hx hcv
          have hi : i < l.length := (List.getElem?_eq_some_iff.1 hx).1
          have hj : j < G.sz t' := by have := (List.getElem?_eq_some_iff.1 hcv).1; rw [hel] at this; exact this
          have : (i + 1) * G.sz t' ≤ l.length * G.sz t' := Nat.mul_le_mul_right _ (by omega)
          rw [Nat.add_mul] at this
          exact ⟨u, by rw [List.getElem?_take_of_lt (by omega)]; simpa using hu, hrd⟩
    · simp at hl
  · rename_i t' l0
    obtain ⟨rfl, rfl⟩ := castL_spec hl
    have hv' : Rd G S w.heap (.ro t' l) v := hv
    cases hv' with
    | nil _ a cap => exact ⟨a, cap, rfl, fun _ => rfl, [], by simp, by simp, by simp, by simp⟩
    | ro _ _ b off cap c te fz vs hS hb hcap hcell hrd =>
      have hjlt : ∀ j, j < l.length * G.sz t' → j / G.sz t' < l.length := fun j hj => Nat.div_lt_of_lt_mul (by rw [Nat.mul_comm]; exact hj)
      refine ⟨_, cap, rfl, by simp, (List.range (l.length * G.sz t')).map fun j => vs (j / G.sz t') (j % G.sz t'), by simp, ?_, ?_, ?_⟩
      · rintro a' ha j u hu
        simp at ha; subst ha
        have hj : j < l.length * G.sz t' := by have := (List.getElem?_eq_some_iff.1 hu).1; simpa using this
        simp [hj] at hu; subst hu
        rw [add_mk, cell_of_row w b (off + j) c te fz hb]
        rw [← hcell (j / G.sz t') (j % G.sz t') (hjlt j hj) (Nat.mod_lt _ hpos)]
        congr 1
        have := Nat.div_add_mod j (G.sz t')
        rw [Nat.mul_comm] at this
        omega
      · intro u hu
        simp at hu
        obtain ⟨j, hj, rfl⟩ := hu
        have hi := hjlt j hj
        have hm : j % G.sz t' < (G.enc t' l[j / G.sz t']).length := by rw [hel]; exact Nat.mod_lt _ hpos
        exact rd_one (hrd _ _ _ _ (List.getElem?_eq_getElem hi) (List.getElem?_eq_getElem hm))
      · intro i j x cv hx hcv
        have hi : i < l.length := (List.getElem?_eq_some_iff.1 hx).1
        have hj : j < G.sz t' := by have := (List.getElem?_eq_some_iff.1 hcv).1; rw [hel] at this; exact this
        have h6 : (i + 1) * G.sz t' ≤ l.length * G.sz t' := Nat.mul_le_mul_right _ (by omega)
        rw [Nat.add_mul] at h6
        have hd : (i * G.sz t' + j) / G.sz t' = i := by rw [Nat.mul_comm, Nat.mul_add_div hpos, Nat.div_eq_of_lt hj, Nat.add_zero]
        have hmo : (i * G.sz t' + j) % G.sz t' = j := by rw [Nat.mul_comm, Nat.mul_add_mod, Nat.mod_eq_of_lt hj]
        have hlt : i * G.sz t' + j < l.length * G.sz t' := by omega
        exact ⟨vs i j, by simp [hlt, hd, hmo], hrd i j x cv hx hcv⟩
  · simp at hl

/-- An operation that calls a builtin. -/
theorem exec_builtin {b : Builtin} {xs : Array Operand} {tys : Array TypeId} (ho : o.op = .call ⟨.builtin b, xs, tys⟩) {s : Sem Value} {v : Value} {w' : World}
    (hs : ∀ cs, builtin b tys o.type cs (xs.map ρ) = (do pure (.value (← s)))) (hrun : s.run P w = .ok v w') : (execOp ρ o).run P w = .ok (.value v) w' := by
  unfold execOp; rw [ho]
  simp only [resolve, invoke, Sem.run_bind, Sem.run_pure, Result.andThen_ok, hs, hrun]

include hev hr ok
theorem len_runs {t : Nat} {x : Operand} {tys : Array TypeId} {xs : Array Operand} (ho : o.op = .call ⟨.builtin .len, xs, tys⟩) (htys : ∃ ts, tys.toList = t :: ts) (hxs : xs.toList = [x])
    (hact : actBuiltin ev h nm .len tys.toList xs.toList (Out G) some = some out) : Runs P G ρ o ν S B h w out := by
  obtain ⟨ts, hts⟩ := htys
  rw [hts, hxs] at hact
  have hxs' : xs = #[x] := by rw [← Array.toArray_toList (xs := xs), hxs]
  have hty0 : tys[0]? = some t := by rw [← Array.getElem?_toList, hts]; rfl
  have go : ∀ n : Nat, (Builtin.len_ tys o.type (xs.map ρ)).run P w = .ok (goInt n) w → Runs P G ρ o ν S B h w (outV (.int .i64 n)) := by
    intro n hn
    exact Runs.outV hr (exec_builtin ho (fun _ => rfl) hn) rfl
  cases ht : G.ty t with
  | str =>
    simp only [actBuiltin, bLen, ht] at hact
    obtain ⟨c, hc, h1⟩ := bindC hact
    cases c with
    | sc v =>
      cases v with
      | string s =>
        simp [M.ret] at h1; subst h1
        refine go _ ?_
        simp [Builtin.len_, hty0, hxs', run_underlying (ok.str t ht), (scOf hev hc).1]
      | _ => simp [M.fail] at h1
    | _ => simp [M.fail] at h1
  | arr n e =>
    simp only [actBuiltin, bLen, ht] at hact
    simp [M.ret] at hact; subst hact
    refine go _ ?_
    simp [Builtin.len_, hty0, hxs', run_underlying (ok.arr t n e ht).1]
  | sl e =>
    simp only [actBuiltin, bLen, ht] at hact
    obtain ⟨c, hc, h1⟩ := bindC hact
    obtain ⟨l, hl, h2⟩ := M.bindopt h1
    simp [M.ret] at h2; subst h2
    obtain ⟨a, cap, hv, _⟩ := elems_sound ok hr ht hl (rcOf hev hc)
    refine Runs.value hr rfl (exec_builtin ho (fun _ => rfl) (v := goInt l.length) ?_) fun s hs => ?_
    · simp [Builtin.len_, hty0, hxs', run_underlying (ok.sl t e ht).1, hv]
    · simp at hs; subst hs
      exact .p _ _ (.one _ _ (.sc _ rfl))
  | _ => simp [actBuiltin, bLen, ht, M.fail] at hact
omit ok
theorem minmax_runs {x y : Operand} {tys : Array TypeId} {xs : Array Operand} {b : Builtin} (hb : b = .min ∨ b = .max) (ho : o.op = .call ⟨.builtin b, xs, tys⟩) (hxs : xs.toList = [x, y])
    (hact : actBuiltin ev h nm b tys.toList xs.toList (Out G) some = some out) : Runs P G ρ o ν S B h w out := by
  rw [hxs] at hact
  have hxs' : xs = #[x, y] := by rw [← Array.toArray_toList (xs := xs), hxs]
  rcases hb with rfl | rfl
  · simp only [actBuiltin, bMin] at hact
    obtain ⟨k, m, hm, h1⟩ := bindI hact
    obtain ⟨k', n, hn, h2⟩ := bindI h1
    obtain ⟨he, h3⟩ := M.bindneed h2
    have e := eqIK_eq he
    simp at e; subst e
    simp [M.ret] at h3; subst h3
    refine Runs.outV hr (exec_builtin ho (fun _ => rfl) ?_) rfl
    simp [Builtin.min_, hxs', (scOf hev hm).1, (scOf hev hn).1, Builtin.min2]
  · simp only [actBuiltin, bMax] at hact
    obtain ⟨k, m, hm, h1⟩ := bindI hact
    obtain ⟨k', n, hn, h2⟩ := bindI h1
    obtain ⟨he, h3⟩ := M.bindneed h2
    have e := eqIK_eq he
    simp at e; subst e
    simp [M.ret] at h3; subst h3
    refine Runs.outV hr (exec_builtin ho (fun _ => rfl) ?_) rfl
    simp [Builtin.max_, hxs', (scOf hev hm).1, (scOf hev hn).1, Builtin.max2]
omit hev hr
/-- Nothing is appended. -/
theorem append_none {t e : TypeId} (hu : P.underlying t = some (.slice e)) {i : TypeInfo} (hi : P.info? e = some i) (ty : TypeId) (a : Option Addr) (n cap : Nat) (hcap : n ≤ cap) (b : Option Addr) (c : Nat) :
    (Builtin.append_ #[t, t] ty #[.slice a n cap, .slice b 0 c]).run P w = .ok (.slice a n cap) w := by
  cases b <;> cases a <;> simp [Builtin.append_, run_underlying hu, sizeOf, typeInfo, hi, Builtin.lenOf, hcap, Builtin.firstCells, loadCells, loadCellsFrom, storeCells]
def dropO (h : Nat → Option (Blk G.T)) (n0 : Option Nat) (m : Nat) : Option (Blk G.T) :=
  match n0 with
  | some n => if n = m then none else h m
  | none => h m
include hev hr hB hfresh ok
theorem append_runs {t : Nat} {x y : Operand} {tys : Array TypeId} {xs : Array Operand} (ho : o.op = .call ⟨.builtin .append, xs, tys⟩) (htys : tys.toList = [t, t]) (hxs : xs.toList = [x, y])
    (hact : actBuiltin ev h nm .append tys.toList xs.toList (Out G) some = some out) : Runs P G ρ o ν S B h w out := by
  rw [htys, hxs] at hact
  have hxs' : xs = #[x, y] := by rw [← Array.toArray_toList (xs := xs), hxs]
  have htys' : tys = #[t, t] := by rw [← Array.toArray_toList (xs := tys), htys]
  cases ht : G.ty t with
  | sl e =>
    simp only [actBuiltin, bAppend, ht] at hact
    obtain ⟨_, h0⟩ := M.bindneed hact
    obtain ⟨c, hc, h1⟩ := bindC h0
    obtain ⟨c', hc', h2⟩ := bindC h1
    obtain ⟨l, hl, h3⟩ := M.bindopt h2
    obtain ⟨l', hl', h4⟩ := M.bindopt h3
    obtain ⟨hmax, h5⟩ := M.bindneed h4
    have hmax : l.length + l'.length ≤ 2147483648 := Nat.le_of_ble_eq_true hmax
    obtain ⟨hu, he, ⟨i, hi, hib⟩, hel⟩ := ok.sl t e ht
    obtain ⟨i', z, hi', his, hiz, hzc⟩ := ok.info e he
    rw [hi] at hi'; simp at hi'; subst hi'
    have hpos := ok.pos _ he
    have hzs : z.cells.size = G.sz e := by rw [← ok.zlen e, ← hzc]; simp
    obtain ⟨a', cap', hv', hnone', vs', hvl', hvc', hv1', hvr'⟩ := elems_sound ok hr ht hl' (rcOf hev hc')
    -- the slice that is appended to
    have main : ∀ (D : List (Nat × Option (Blk G.T))) (n0 : Option Nat) (rd : List Nat), out = ⟨some (.p (.one (.own nm))), D ++ [(nm, some (.row e (l ++ l')))], [nm], rd⟩ →
        (D = (match n0 with | some n => [(n, none)] | none => [])) →
        (∃ (xs0 : List Value), w.ownsRow 0 e (G.sz e) (ρ x) l.length xs0 ∧ (∀ (i j : Nat) y cv, l[i]? = some y → (G.enc e y)[j]? = some cv → ∃ u, xs0[i * G.sz e + j]? = some u ∧ Rd G S w.heap cv u)) →
        (∀ b, (ρ x).ownBlock = some b → ∃ n y, n0 = some n ∧ h n ≠ none ∧ ν n = some y ∧ blkOf y = some b) → (∀ n, n0 = some n → n ≠ nm) → Runs P G ρ o ν S B h w out := by
      intro D n0 rd hout hD ⟨xs0, hown, hrow⟩ hblk hne
      have hν : ν nm = none := hfresh nm (by rw [hout]; simp)
      have hbytes : (l.length + l'.length) * i.bytes ≤ 140737488355328 := by
        have : (l.length + l'.length) * i.bytes ≤ 2147483648 * 4096 := Nat.mul_le_mul hmax hib
        omega
      -- the model's append
      have hrun : ∃ v' w', (Builtin.append_ #[t, t] o.type #[ρ x, ρ y]).run P w = .ok v' w' ∧ w'.ownsRow 0 e (G.sz e) v' (l.length + l'.length) (xs0 ++ vs') ∧ w.grownBy w' (ρ x).ownBlock ∧
          (v'.ownBlock = (ρ x).ownBlock ∨ v'.ownBlock = some w.heap.size) := by
        cases a' with
        | some ad =>
          obtain ⟨v', w', h1, h2, h3, _, h5⟩ := Go.run_append_own_at (P := P) w 0 t o.type e i z (G.sz e) i.bytes hu hi hiz his rfl hzs hpos (ρ x) l.length xs0 hown ad l'.length cap' vs' hvl' (fun j u hu => hvc' ad rfl j u hu) hv1' (by unfold maxLen; omega) hbytes (Nat.zero_le _)
          exact ⟨v', w', by rw [hv']; exact h1, h2, h3, h5⟩
        | none =>
          have hz := hnone' rfl
          subst hz
          simp at hvl'
          subst hvl'
          have hsl : ∃ a0 cap0, ρ x = .slice a0 l.length cap0 ∧ l.length ≤ cap0 := by
            rcases hown.2 with ⟨h1, h2⟩ | ⟨g, cap, cur, h1, _, _, h4, _⟩
            · exact ⟨none, 0, by rw [h1, h2], by omega⟩
            · exact ⟨_, cap, h1, h4⟩
          obtain ⟨a0, cap0, hx0, hcap0⟩ := hsl
          refine ⟨ρ x, w, ?_, by simpa using hown, ⟨rfl, rfl, rfl, Nat.le_refl _, fun _ _ _ => rfl⟩, .inl rfl⟩
          rw [hx0, hv']
          exact append_none hu hi _ a0 _ cap0 hcap0 none cap'
      obtain ⟨v', w', hr1, hr2, hr3, hr4⟩ := hrun
      -- which blocks stay
      have hkeep : ∀ b, b < w.heap.size → (∀ y, (ρ x).ownBlock = some y → y ≠ b) → w'.heap[b]? = w.heap[b]? := fun b hb hn => hr3.block b hb (fun e => hn b e.symm rfl)
      have hSkeep : ∀ b, S b → w'.heap[b]? = w.heap[b]? := fun b hb => hkeep b (hr.stay b hb) fun y hy e => by
        obtain ⟨n, y', _, hn, hy', hb'⟩ := hblk y hy
        subst e
        exact (hr.own n y' y hn hy' hb').1 hb
      have hrow' : Rb G (ext ν nm v') S w'.heap nm (.row e (l ++ l')) := by
        have hcells : ∀ (i j : Nat) y cv, (l ++ l')[i]? = some y → (G.enc e y)[j]? = some cv → ∃ u, (xs0 ++ vs')[i * G.sz e + j]? = some u ∧ Rd G S w'.heap cv u := by
          intro i j y cv hy hcv
          have hj : j < G.sz e := by have := (List.getElem?_eq_some_iff.1 hcv).1; rw [hel] at this; exact this
          rw [List.getElem?_append] at hy
          by_cases hi : i < l.length
          · rw [if_pos hi] at hy
            obtain ⟨u, hu, hrd⟩ := hrow i j y cv hy hcv
            have h6 : (i + 1) * G.sz e ≤ l.length * G.sz e := Nat.mul_le_mul_right _ (by omega)
            rw [Nat.add_mul] at h6
            exact ⟨u, by rw [List.getElem?_append_left (by rw [hown.1]; omega)]; exact hu, hrd.mono (fun _ h => h) hSkeep⟩
          · rw [if_neg hi] at hy
            obtain ⟨u, hu, hrd⟩ := hvr' (i - l.length) j y cv hy hcv
            have h6 : i * G.sz e = l.length * G.sz e + (i - l.length) * G.sz e := by rw [← Nat.add_mul]; congr 1; omega
            refine ⟨u, ?_, hrd.mono (fun _ h => h) hSkeep⟩
            rw [List.getElem?_append_right (by rw [hown.1]; omega), hown.1, show i * G.sz e + j - l.length * G.sz e = (i - l.length) * G.sz e + j by omega]
            exact hu
        have hlen : (l ++ l').length = l.length + l'.length := by simp
        rcases hr2.2 with ⟨g1, g2⟩ | ⟨g, cap, cur, g1, _, g3, g4, g5, g6, g7⟩
        · refine .inl ⟨by rw [ext_self, g1], List.eq_nil_of_length_eq_zero (by rw [hlen]; exact g2)⟩
        · refine .inr ⟨g, cap, cur, e, by rw [ext_self, g1, hlen], g3, by rw [hlen]; exact g4, g6, fun i j y cv hy hcv => ?_, rfl, g5⟩
          obtain ⟨u, hu, hrd⟩ := hcells i j y cv hy hcv
          refine ⟨u, ?_, hrd⟩
          rw [← g7] at hu
          have hlt : i * G.sz e + j < (l.length + l'.length) * G.sz e := by
            have := (List.getElem?_eq_some_iff.1 hu).1
            simp at this; omega
          rw [List.getElem?_take_of_lt hlt] at hu
          simpa using hu
      -- the names
      generalize hh' : dropO h n0 = h'
      have hsub : ∀ m, h' m ≠ none → h' m = h m := by
        intro m hm
        subst hh'
        cases n0 with
        | none => rfl
        | some n =>
          by_cases e : n = m
          · simp [dropO, e] at hm
          · simp [dropO, e]
      have hr' := hr.sub hsub
      have hnotown : ∀ m y b, h' m ≠ none → ν m = some y → blkOf y = some b → (ρ x).ownBlock ≠ some b := by
        intro m y b hm hy hb e
        obtain ⟨n, y', hn0, hn, hy', hb'⟩ := hblk b e
        have := hr.apart m n y y' b (by rw [← hsub m hm]; exact hm) hn hy hy' hb hb'
        subst this
        exact hm (by rw [← hh']; simp [dropO, hn0])
      have hadd := hr'.add (nm := nm) (x := v') (k := .row e (l ++ l')) (w' := w') hν (fun b hb hor => hkeep b hb fun y hy e => by
          subst e
          rcases hor with hS | ⟨m, y', hm, hy', hb'⟩
          · obtain ⟨n, y', _, hn, hy', hb'⟩ := hblk y hy
            exact (hr.own n y' y hn hy' hb').1 hS
          · exact hnotown m y' y hm hy' hb' hy) hr3.size (fun b hb => by
          have hvb : v'.ownBlock = some b := by
            rcases hr2.2 with ⟨g1, _⟩ | ⟨g, cap, cur, g1, _⟩
            · rw [g1] at hb; simp [blkOf] at hb
            · rw [g1] at hb ⊢; simpa [blkOf, Value.ownBlock] using hb
          rcases hr4 with e | e
          · rw [hvb] at e
            obtain ⟨n, y, _, hn, hy, hb'⟩ := hblk b e.symm
            obtain ⟨q1, q2⟩ := hr.own n y b hn hy hb'
            exact ⟨q1, q2, fun m y' hm hy' hb'' => hnotown m y' b hm hy' hb'' e.symm⟩
          · rw [hvb] at e; simp at e; subst e
            exact ⟨fun hS => absurd (hr.stay _ hS) (Nat.lt_irrefl _), hB _ (Nat.le_refl _), fun m y hm hy hb' => absurd (hr'.lt hm hy hb') (Nat.lt_irrefl _)⟩) hrow'
      refine ⟨.value v', w', v', ext ν nm v', S, exec_builtin ho (s := Builtin.append_ tys o.type (xs.map ρ)) (fun _ => rfl) (by rw [htys', hxs']; simpa using hr1), .inl rfl, ?_⟩
      subst hout
      refine ⟨ext_le hν, ext_new, fun _ h => h, fun _ h => .inl h, ?_, fun s hs => ?_, hr3.size, fun b hb hn => hkeep b hb fun y hy e => ?_, hr3.os, hr3.tape, hr3.output⟩
      · have : appD h (D ++ [(nm, some (.row e (l ++ l')))]) = fun m => if nm = m then some (.row e (l ++ l')) else h' m := by
          subst hD
          cases n0 with
          | none => funext m; simp [appD, ← hh', dropO]
          | some n => funext m; simp [appD, ← hh', dropO]
        simp only [this]
        exact hadd
      · simp at hs; subst hs
        refine .p _ _ (.one _ _ ?_)
        rcases hr2.2 with ⟨g1, g2⟩ | ⟨g, cap, cur, g1, _⟩
        · exact ⟨_, _, _, ext_self, g1⟩
        · exact ⟨_, _, _, ext_self, g1⟩
      · obtain ⟨n, y', _, hn', hy', hb'⟩ := hblk y hy
        subst e
        exact hn n y' hn' hy' hb'
    unfold appC at h5
    cases c with
    | sc v =>
      simp [M.ret] at h5
      obtain ⟨hρ, hsc⟩ := scOf hev hc
      have hl0 : v = .slice none 0 0 ∧ l = [] := by
        unfold elems at hl
        split at hl
        · rename_i heq; simp at hl heq; exact ⟨heq, by first | exact hl | exact hl.symm⟩
        · rename_i heq; simp at heq
        · rename_i heq; simp at heq
        · simp at hl
      obtain ⟨rfl, rfl⟩ := hl0
      refine main [] none c'.rds h5.symm rfl ⟨[], ⟨by simp, .inl ⟨hρ, by simp⟩⟩, by simp⟩ (fun b hb => ?_) (by simp)
      rw [hρ] at hb; simp [Value.ownBlock] at hb
    | own n =>
      obtain ⟨hnn, h6⟩ := M.bindneed h5
      simp [M.ret] at h6
      obtain ⟨av, lenv, capv, hνn, hρ⟩ := rcOf hev hc
      unfold elems at hl
      simp only at hl
      split at hl
      · rename_i t' l0 hn
        obtain ⟨rfl, rfl⟩ := castL_spec hl
        refine main [(n, none)] (some n) (n :: c'.rds) h6.symm rfl ?_ (fun b hb => ?_) (fun n' hn' e => ?_)
        · rcases hr.blk n _ hn with ⟨g1, g2⟩ | ⟨b, cap, cc, te, g1, g2, g3, g4, g5, g6, g7⟩
          · rw [hνn] at g1; simp at g1
            subst g2
            exact ⟨[], ⟨by simp, .inl ⟨g1, by simp⟩⟩, by simp⟩
          · rw [hνn] at g1; simp at g1
            subst g6
            have hmul : l.length * G.sz te ≤ cap * G.sz te := Nat.mul_le_mul_right _ g3
            refine ⟨cc.toList.take (l.length * G.sz te), ⟨by simp; omega, .inr ⟨b, cap, cc, g1, Nat.zero_le _, g2, g3, g7, g4, rfl⟩⟩, fun i j y cv hy hcv => ?_⟩
            obtain ⟨u, hu, hrd⟩ := g5 i j y cv hy hcv
            have hi : i < l.length := (List.getElem?_eq_some_iff.1 hy).1
            have hj : j < G.sz te := by have := (List.getElem?_eq_some_iff.1 hcv).1; rw [hel] at this; exact this
            have : (i + 1) * G.sz te ≤ l.length * G.sz te := Nat.mul_le_mul_right _ (by omega)
            rw [Nat.add_mul] at this
            exact ⟨u, by rw [List.getElem?_take_of_lt (by omega)]; simpa using hu, hrd⟩
        · refine ⟨n, ρ x, rfl, by rw [hn]; simp, hνn, ?_⟩
          rw [hρ] at hb ⊢
          cases av with
          | none => simp [Value.ownBlock] at hb
          | some ad => simpa [Value.ownBlock, blkOf] using hb
        · simp at hn'; subst hn'; subst e
          have := hfresh n (by rw [← h6]; simp)
          rw [hνn] at this; simp at this
      · simp at hl
    | _ => simp [M.fail] at h5
  | _ => simp [actBuiltin, bAppend, ht, M.fail] at hact
end
end Go.Ab
