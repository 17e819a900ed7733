/- Each operation: what the evaluator says, the model does. Fifth part: literals of structs and slices, make, append. -/
import Derived.Test.YtfooilbkiclplaaAb9
import Derived.Maps.AppendAt
namespace Go.Ab
variable {G : Sig}

theorem foldl_set (off : Nat) : ∀ (vs : List Value) (k : Nat) (cs : Array Value), off + k + vs.length ≤ cs.size →
    ((vs.zipIdx k).foldl (fun (cs : Array Value) p => cs.setIfInBounds (off + p.2) p.1) cs).size = cs.size ∧
    ∀ j, ((vs.zipIdx k).foldl (fun (cs : Array Value) p => cs.setIfInBounds (off + p.2) p.1) cs)[j]? = if off + k ≤ j ∧ j < off + k + vs.length then vs[j - (off + k)]? else cs[j]?
  | [], k, cs, _ => by simp; intro j h1 h2; omega
  | v :: vs, k, cs, h => by
    simp only [List.length_cons] at h
    obtain ⟨h1, h2⟩ := foldl_set off vs (k + 1) (cs.setIfInBounds (off + k) v) (by simp; omega)
    simp only [List.zipIdx_cons, List.foldl_cons, List.length_cons]
    refine ⟨by rw [h1]; simp, fun j => ?_⟩
    rw [h2 j]
    simp only [Array.getElem?_setIfInBounds]
    by_cases hj : off + k = j
    · subst hj
      rw [if_neg (by omega), if_pos rfl, if_pos (by omega), if_pos (by omega)]
      simp
    · by_cases hr : off + (k + 1) ≤ j ∧ j < off + (k + 1) + vs.length
      · rw [if_pos hr, if_pos (by omega), show j - (off + k) = (j - (off + (k + 1))) + 1 by omega]; simp
      · rw [if_neg hr, if_neg hj, if_neg (by omega)]

theorem fill_sound {R : Cv G.T → Value → Prop} {place : Nat → Option (Nat × Nat)} : ∀ (ps : List (Nat × Pv G.T)) (qs : List (Nat × Value)) (cells : List (Cv G.T)) (cs : Array Value) (cells' : List (Cv G.T)),
    F2 R cells cs.toList → F2 (fun p q => p.1 = q.1 ∧ F2 R p.2.cells q.2.cells.toList) ps qs → fillO place cells ps = some cells' →
    ∃ cs', Instr.fill place cs qs = some cs' ∧ F2 R cells' cs'.toList
  | [], qs, cells, cs, cells', hc, hp, h => by
    simp [fillO] at h; subst h
    rw [hp.inv_nil]
    exact ⟨cs, rfl, hc⟩
  | (i, v) :: ps, qs, cells, cs, cells', hc, hp, h => by
    obtain ⟨⟨j, u⟩, qs', rfl, ⟨rfl, hvu⟩, hp'⟩ := hp.inv
    simp only [fillO] at h
    split at h
    · rename_i off size hpl
      rw [beq_ite] at h
      by_cases hs : v.cells.length = size
      · rw [if_pos hs] at h
        split at h
        · rename_i cells1 hsp
          obtain ⟨s1, s2, s3⟩ := splice_spec _ _ _ _ hsp
          have hl := hc.1
          have hl' := hvu.1
          simp only [Array.length_toList] at hl hl'
          have hF := foldl_set off u.cells.toList 0 cs (by simp; omega)
          have hnext : F2 R cells1 ((u.cells.toList.zipIdx).foldl (fun (cs : Array Value) p => cs.setIfInBounds (off + p.2) p.1) cs).toList := by
            refine ⟨(by rw [s1, hl]; exact hF.1.symm), fun q x y hx hy => ?_⟩
            rw [s3 q] at hx
            rw [Array.getElem?_toList, hF.2 q] at hy
            by_cases hq : off ≤ q ∧ q < off + v.cells.length
            · rw [if_pos hq] at hx
              rw [if_pos (by simp; omega)] at hy
              exact hvu.2 _ x y hx (by simpa using hy)
            · rw [if_neg hq] at hx
              rw [if_neg (by simp; omega)] at hy
              exact hc.2 q x y hx (by simpa using hy)
          obtain ⟨cs', h1, h2⟩ := fill_sound ps qs' cells1 _ cells' hnext hp' h
          refine ⟨cs', ?_, h2⟩
          simp only [Instr.fill, hpl]
          rw [if_neg (by simp; omega)]
          rw [← h1]
          congr 1
          rw [← Array.foldl_toList]
          simp
        · simp at h
      · rw [if_neg hs] at h; simp at h
    · simp at h

theorem rows_spec {P : Program} (ok : SigOK P G) {e : Nat} : ∀ (n : Nat) (cs : List (Cv G.T)) (l : List (G.T e)), rows G e n cs = some l →
    l.length = n ∧ cs.length = n * G.sz e ∧ ∀ (i j : Nat) x, l[i]? = some x → j < (G.enc e x).length → (G.enc e x)[j]? = cs[i * G.sz e + j]?
  | 0, [], l, h => by simp [rows] at h; subst h; simp
  | 0, _ :: _, l, h => by simp [rows] at h
  | n + 1, cs, l, h => by
    simp only [rows] at h
    split at h
    · rename_i a b ha hb
      split at h
      · rename_i x l' hx hl
        simp at h; subst h
        obtain ⟨t1, t2, t3⟩ := takeN_spec _ _ _ ha
        obtain ⟨d1, d2⟩ := dropN_spec _ _ _ hb
        obtain ⟨r1, r2, r3⟩ := rows_spec ok n b l' hl
        have he := ok.encdec _ _ _ hx
        refine ⟨by simp [r1], by rw [Nat.add_mul]; omega, fun i j y hy hj => ?_⟩
        cases i with
        | zero =>
          simp at hy; subst hy
          rw [he] at hj ⊢
          rw [t3 j (by omega)]; simp
        | succ i =>
          simp at hy
          rw [r3 i j y hy hj, d2]
          congr 1
          rw [Nat.add_mul]; omega
      · simp at h
    · simp at h

section
variable {P : Program} {ν : Nat → Option Value} {S B : Nat → Prop} {h : Nat → Option (Blk G.T)} {w : World} {ρ : Operand → Value} {o : Oper}
variable (ok : SigOK P G) {ev : Operand → Option (Sv G.T)} (hev : ∀ x s, ev x = some s → Rs G ν S w.heap s (ρ x)) (hr : HRel G ν S B h w) (hB : ∀ b, w.heap.size ≤ b → B b)
  {cf : CallF G} {nm : Nat} {out : Out G} (hfresh : ∀ n ∈ out.nw, ν n = none)
include hev
theorem parts_rel {l : List (Nat × Operand)} {ys : List (Nat × Pv G.T)} (hF : F2 (fun x y => x.1 = y.1 ∧ ev x.2 = some (.p y.2)) l ys) :
    F2 (fun (p : Nat × Pv G.T) (q : Nat × Value) => p.1 = q.1 ∧ F2 (Rc G ν S w.heap) p.2.cells q.2.cells.toList) ys (l.map fun p => (p.1, ρ p.2)) := by
  refine ⟨by simp [hF.1], fun i y q hy hq => ?_⟩
  rw [List.getElem?_map] at hq
  cases hx : l[i]? with
  | none => simp [hx] at hq
  | some x =>
    simp [hx] at hq; subst hq
    obtain ⟨h1, h2⟩ := hF.2 i x y hx hy
    exact ⟨h1.symm, rp_cells (rpOf hev h2)⟩
omit hev in
include ok in
theorem zeros_rel {t : Nat} {z : Value} (hz : z.cells.toList = G.zero t) : F2 (Rc G ν S w.heap) (zeros G t) z.cells.toList := by
  rw [hz, zeros]
  exact F2.map_left ⟨rfl, fun i x y hx hy => by rw [hx] at hy; simp at hy; subst hy; exact .sc _ (ok.zsc t x (List.mem_of_getElem? hx))⟩
include hr ok
theorem build_runs {t : Nat} {parts : Array (Nat × Operand)} (ho : o.op = .build t parts) (hact : aBuild ev t parts.toList (Out G) some = some out) : Runs P G ρ o ν S B h w out := by
  unfold aBuild at hact
  cases ht : G.ty t with
  | st fs =>
    simp only [ht] at hact
    obtain ⟨ps, h1, hps⟩ := bindParts hact
    obtain ⟨cs, hcs, h2⟩ := M.bindopt h1
    simp [M.ret] at h2; subst h2
    obtain ⟨fields, hu, hfs, hno⟩ := ok.strc t fs ht
    obtain ⟨z, hz, hzc⟩ := ok.zeroV w (show G.ty t ≠ .no by rw [ht]; simp)
    obtain ⟨cs', hf, hF⟩ := fill_sound ps _ (zeros G t) z.cells cs (zeros_rel ok hzc) (parts_rel hev hps) hcs
    refine Runs.outP hr (v := .agg cs'.toList.toArray) ?_ (.agg _ _ hF)
    have hpl : ∀ (l : List Field) (w : World), (∀ f ∈ l, G.ty f.type ≠ .no) → (l.mapM (fun f => (do pure (f.offset, ← sizeOf f.type) : Sem (Nat × Nat)))).run P w = .ok (l.map fun f => (f.offset, G.sz f.type)) w := by
      intro l
      induction l with
      | nil => intro w _; rfl
      | cons f l ih =>
        intro w hl
        simp only [List.mapM_cons, Sem.run_bind, ok.sizeOf w (hl f (by simp)), Result.andThen_ok, Sem.run_pure, ih w (fun g hg => hl g (by simp [hg])), List.map_cons]
    have hall : ∀ f ∈ fields.toList, G.ty f.type ≠ .no := by
      intro f hf'
      refine hno f.offset f.type ?_
      rw [← hfs]
      exact List.mem_map.2 ⟨f, hf', rfl⟩
    have hM : (fields.mapM (fun f => (do pure (f.offset, ← sizeOf f.type) : Sem (Nat × Nat)))).run P w = .ok (fields.toList.map fun f => (f.offset, G.sz f.type)).toArray w := by
      rw [Array.mapM_eq_mapM_toList]
      simp only [Sem.run_map, hpl _ w hall, Result.andThen_ok]
    have hplace : (fun i => (fields.toList.map fun f => (f.offset, G.sz f.type)).toArray[i]?) = placeS G fs := by
      funext i
      rw [← hfs]
      unfold placeS
      rw [List.getElem?_map]
      simp
      cases fields[i]? <;> rfl
    unfold execOp; rw [ho]
    simp only [Instr.build, Sem.run_bind, hz, Result.andThen_ok, run_underlying hu w, hM, hplace]
    have hf' : Instr.fill (placeS G fs) z.cells (parts.map fun (i, x) => (i, ρ x)).toList = some cs' := by rw [Array.toList_map]; exact hf
    rw [hf']
    simp
  | arr n e =>
    simp only [ht] at hact
    obtain ⟨ps, h1, hps⟩ := bindParts hact
    obtain ⟨cs, hcs, h2⟩ := M.bindopt h1
    simp [M.ret] at h2; subst h2
    obtain ⟨hu, he⟩ := ok.arr t n e ht
    obtain ⟨z, hz, hzc⟩ := ok.zeroV w (show G.ty t ≠ .no by rw [ht]; simp)
    obtain ⟨cs', hf, hF⟩ := fill_sound ps _ (zeros G t) z.cells cs (zeros_rel ok hzc) (parts_rel hev hps) hcs
    refine Runs.outP hr (v := .agg cs'.toList.toArray) ?_ (.agg _ _ hF)
    unfold execOp; rw [ho]
    have hf' : Instr.fill (fun i => some (i * G.sz e, G.sz e)) z.cells (parts.map fun (i, x) => (i, ρ x)).toList = some cs' := by rw [Array.toList_map]; exact hf
    simp only [Instr.build, Sem.run_bind, hz, Result.andThen_ok, run_underlying hu w, ok.sizeOf w he]
    rw [hf']
    simp
  | _ => simp [ht, M.fail] at hact
omit hev hr
/-- A row of cells that has just been made. -/
theorem row_rel {hh : Array Obj} {e : Nat} {n : Nat} {cs : List (Cv G.T)} {l : List (G.T e)} (hl : rows G e n cs = some l) {c : Array Value} (hF : F2 (Rc G ν S hh) cs c.toList) : RRow G S hh e l c := by
  intro i j x cv hx hcv
  obtain ⟨r1, r2, r3⟩ := rows_spec ok n cs l hl
  have hj : j < (G.enc e x).length := (List.getElem?_eq_some_iff.1 hcv).1
  have h1 := r3 i j x hx hj
  rw [hcv] at h1
  obtain ⟨v, hv, hrc⟩ := hF.get h1.symm
  exact ⟨v, by simpa using hv, rd_of_rc ok (List.mem_of_getElem? hcv) hrc⟩
theorem zerosN_rel {hh : Array Obj} {e : Nat} {z : Value} (hz : z.cells.toList = G.zero e) (hpos : 0 < G.sz e) : ∀ n, F2 (Rc G ν S hh) (zerosN G e n) (((Array.range (n * G.sz e)).map (z.cells[· % z.cells.size]!))).toList := by
  have hsz : z.cells.size = G.sz e := by rw [← ok.zlen e, ← hz]; simp
  have hlen : ∀ n, (zerosN G e n).length = n * G.sz e := by
    intro n
    induction n with
    | zero => simp [zerosN]
    | succ n ih => simp [zerosN, ih, zeros, ok.zlen e, Nat.add_mul]; omega
  have hget : ∀ n j, j < n * G.sz e → (zerosN G e n)[j]? = (G.zero e)[j % G.sz e]?.map .sc := by
    intro n
    induction n with
    | zero => intro j hj; omega
    | succ n ih =>
      intro j hj
      rw [zerosN, List.getElem?_append]
      have hzl : (zeros G e).length = G.sz e := by simp [zeros, ok.zlen e]
      by_cases hjs : j < G.sz e
      · rw [if_pos (by omega), Nat.mod_eq_of_lt hjs]; simp [zeros]
      · have hsm := Nat.succ_mul n (G.sz e)
        have hj' : j - G.sz e < n * G.sz e := by rw [Nat.succ_eq_add_one] at hsm; omega
        rw [if_neg (by omega), hzl, ih (j - G.sz e) hj']
        rw [Nat.mod_eq_sub_mod (a := j) (by omega)]
  intro n
  refine ⟨by simp [hlen n], fun j x y hx hy => ?_⟩
  have hj : j < n * G.sz e := by have := (List.getElem?_eq_some_iff.1 hx).1; rw [hlen] at this; exact this
  rw [hget n j hj] at hx
  have hm : j % G.sz e < G.sz e := Nat.mod_lt _ hpos
  have hzz : (G.zero e)[j % G.sz e]? = some z.cells[j % z.cells.size]! := by
    rw [← hz, hsz]
    simp [hsz, hm]
  rw [hzz] at hx
  simp at hx; subst hx
  simp [hj] at hy; subst hy
  exact .sc _ (ok.zsc e _ (List.mem_of_getElem? hzz))
include hev hr hB hfresh
theorem buildSlice_runs {t len : Nat} {parts : Array (Nat × Operand)} (ho : o.op = .buildSlice t len parts) (hact : aBuildSlice ev nm t len parts.toList (Out G) some = some out) : Runs P G ρ o ν S B h w out := by
  unfold aBuildSlice at hact
  cases ht : G.ty t with
  | sl e =>
    simp only [ht] at hact
    obtain ⟨ps, h1, hps⟩ := bindParts hact
    obtain ⟨hlen, h2⟩ := M.bindneed h1
    obtain ⟨cs, hcs, h3⟩ := M.bindopt h2
    obtain ⟨l, hl, h4⟩ := M.bindopt h3
    simp [M.ret] at h4; subst h4
    obtain ⟨hu, he, ⟨i, hi, hib⟩, _⟩ := ok.sl t e ht
    obtain ⟨z, hz, hzc⟩ := ok.zeroV w he
    have hpos := ok.pos _ he
    obtain ⟨cs', hf, hF⟩ := fill_sound ps _ (zerosN G e len) _ cs (zerosN_rel ok hzc hpos len) (parts_rel hev hps) hcs
    simp only [Bool.and_eq_true] at hlen
    have hsz : len * G.sz e ≤ 16777216 := Nat.le_of_ble_eq_true hlen.2
    have hle : len ≤ 65536 := Nat.le_of_ble_eq_true hlen.1
    obtain ⟨r1, r2, r3⟩ := rows_spec ok len cs l hl
    have hcs' : cs'.size = len * G.sz e := by have := hF.1; simp at this; omega
    have hν := hfresh nm (by simp)
    refine ⟨.value (.slice (some ⟨w.heap.size, 0, none⟩) len len), { w with heap := w.heap.push (.cells cs' e) }, _, ext ν nm (.slice (some ⟨w.heap.size, 0, none⟩) len len), S, ?_, .inl rfl, ?_⟩
    · unfold execOp; rw [ho]
      simp only [Instr.buildSlice, Sem.run_bind, run_underlying hu w, Result.andThen_ok, ok.sizeOf w he]
      rw [if_neg (show ¬ (len * G.sz e > 2 ^ 24) by omega)]
      have hf' : Instr.fill (fun i => some (i * G.sz e, G.sz e)) ((Array.range (len * G.sz e)).map (z.cells[· % z.cells.size]!)) (parts.map fun (i, x) => (i, ρ x)).toList = some cs' := by rw [Array.toList_map]; exact hf
      by_cases h0 : len * G.sz e = 0
      · have he0 : (Array.range (len * G.sz e)).map ((#[] : Array Value)[· % (#[] : Array Value).size]!) = (Array.range (len * G.sz e)).map (z.cells[· % z.cells.size]!) := by simp [h0]
        rw [if_pos h0]
        simp only [Sem.run_bind, Sem.run_pure, Result.andThen_ok]
        rw [he0, hf']
        simp [newRow]
      · rw [if_neg h0]
        simp only [Sem.run_bind, hz, Sem.run_pure, Result.andThen_ok]
        rw [hf']
        simp [newRow]
    · have hx : ext ν nm (.slice (some ⟨w.heap.size, 0, none⟩) len len) nm = some (.slice (some ⟨w.heap.size, 0, none⟩) l.length len) := by rw [ext_self, r1]
      refine Post.alloc (k := .row e l) (c := cs') (te := e) (w' := { w with heap := w.heap.push (.cells cs' e) }) hr hB hν rfl rfl rfl rfl ⟨rfl, rfl, rfl⟩
        (.inr ⟨w.heap.size, len, cs', e, hx, by simp, by omega, hcs', ?_, rfl, by unfold maxLen; omega⟩) fun s hs => ?_
      · exact row_rel ok (ν := ext ν nm (.slice (some ⟨w.heap.size, 0, none⟩) len len)) hl (hF.mono fun _ _ => Rc.mono (le_push _ hr hν))
      · simp at hs; subst hs
        exact .p _ _ (.one _ _ ⟨_, _, _, ext_self, rfl⟩)
  | _ => simp [ht, M.fail] at hact
theorem makeSlice_runs {t : Nat} {x y : Operand} (ho : o.op = .makeSlice t x y) (hact : aMakeSlice ev nm t x y (Out G) some = some out) : Runs P G ρ o ν S B h w out := by
  unfold aMakeSlice at hact
  cases ht : G.ty t with
  | sl e =>
    simp only [ht] at hact
    obtain ⟨kn, n, hn, h1⟩ := bindI hact
    obtain ⟨km, m, hm, h2⟩ := bindI h1
    obtain ⟨hb, h3⟩ := M.bindneed h2
    obtain ⟨z, hz, h4⟩ := M.bindopt h3
    simp [M.ret] at h4; subst h4
    obtain ⟨hu, he, ⟨i, hi, hib⟩, _⟩ := ok.sl t e ht
    obtain ⟨i', zv, hi', his, hiz, hzc⟩ := ok.info e he
    rw [hi] at hi'; simp at hi'; subst hi'
    have hpos := ok.pos _ he
    simp [lenMax] at hb
    obtain ⟨⟨hb0, hb1⟩, hb2'⟩ := hb
    have hb2 : m ≤ 2147483648 := of_decide_eq_true hb2'
    have hρn := (scOf hev hn).1
    have hρm := (scOf hev hm).1
    have hbytes : (i.bytes : Int) * m ≤ 281474976710656 := by
      have h1 : (i.bytes : Int) * m ≤ 4096 * m := Int.mul_le_mul_of_nonneg_right (by omega) (by omega)
      omega
    have hrun := run_make (P := P) w t e i zv hu hi hiz kn km n m hb0 hb1 hbytes (by omega)
    have hν := hfresh nm (by simp)
    rw [his] at hrun
    refine ⟨.value (.slice (some ⟨w.heap.size, 0, none⟩) n.toNat m.toNat), w.alloc (.cells (madeCells zv.cells (m.toNat * G.sz e)) e), _, ext ν nm (.slice (some ⟨w.heap.size, 0, none⟩) n.toNat m.toNat), S, ?_, .inl rfl, ?_⟩
    · unfold execOp; rw [ho]
      simp [hρn, hρm, hrun]
    · have hx : ext ν nm (.slice (some ⟨w.heap.size, 0, none⟩) n.toNat m.toNat) nm = some (.slice (some ⟨w.heap.size, 0, none⟩) (List.replicate n.toNat z).length m.toNat) := by rw [ext_self]; simp
      refine Post.alloc (k := .row e (List.replicate n.toNat z)) (c := madeCells zv.cells (m.toNat * G.sz e)) (te := e) (w' := w.alloc (.cells (madeCells zv.cells (m.toNat * G.sz e)) e)) hr hB hν rfl rfl rfl rfl ⟨rfl, rfl, rfl⟩
        (.inr ⟨w.heap.size, m.toNat, madeCells zv.cells (m.toNat * G.sz e), e, hx, by simp, by simp; omega, by simp [madeCells], ?_, rfl, by unfold maxLen; omega⟩) fun s hs => ?_
      · have hzr := zerosN_rel ok (ν := ν) (S := S) (hh := w.heap.push (.cells (madeCells zv.cells (m.toNat * G.sz e)) e)) hzc hpos m.toNat
        intro q j x cv hx' hcv
        have hq : q < n.toNat := by have := (List.getElem?_eq_some_iff.1 hx').1; simpa using this
        simp [hq] at hx'
        subst hx'
        rw [ok.encdec _ _ _ hz] at hcv
        have hj : j < G.sz e := by have := (List.getElem?_eq_some_iff.1 hcv).1; simpa [zeros, ok.zlen e] using this
        have hsz : zv.cells.size = G.sz e := by rw [← ok.zlen e, ← hzc]; simp
        simp [zeros] at hcv
        obtain ⟨v0, hv0, rfl⟩ := hcv
        refine ⟨v0, ?_, .sc _ (ok.zsc e _ (List.mem_of_getElem? hv0))⟩
        have hlt : q * G.sz e + j < m.toNat * G.sz e := by
          have : (q + 1) * G.sz e ≤ m.toNat * G.sz e := Nat.mul_le_mul_right _ (by omega)
          rw [Nat.add_mul] at this; omega
        have hmod : (q * G.sz e + j) % G.sz e = j := by rw [Nat.mul_comm, Nat.mul_add_mod, Nat.mod_eq_of_lt hj]
        rw [← hzc] at hv0
        simp [madeCells, hlt, hsz, hmod]
        simp [hsz, hj] at hv0
        simp [hv0, hsz, hj]
      · simp at hs; subst hs
        exact .p _ _ (.one _ _ ⟨_, _, _, ext_self, rfl⟩)
  | _ => simp [ht, M.fail] at hact
end
end Go.Ab
