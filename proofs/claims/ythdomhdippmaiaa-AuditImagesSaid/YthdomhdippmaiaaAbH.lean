/- Contracts of Go's library that are proved by hand: rows as they lie, and what a call on rows leaves. -/
import Derived.Test.YthdomhdippmaiaaAbE
import Derived.Laws.CopyRow
import Derived.Laws.AppendOwn
import Derived.Laws.Append
import Derived.Below
import Derived.Lib.AppendStr
import Derived.Shelf.Spec.SlicesInsertGrow
import Derived.Deep.LoopGhost
import Derived.Lib.SliceRun
import Derived.Shelf.Strings.Builder1
import Derived.Lib.UnsafeStr
import Derived.Lib.AppendZeros
import Derived.MapKept
namespace Go.Ab
variable {G : Sig}
section
variable {P : Program} (w : World)
theorem nnk' (dT sT ty elem : TypeId) (i : TypeInfo) (g o dLen dCap : Nat) (a : Addr) (sLen sCap : Nat) (cur : Array Value) (t : TypeId) (cs : List Value)
    (hu : P.underlying dT = some (.slice elem)) (hs : P.info? elem = some i)
    (hg : w.heap[g]? = some (.cells cur t (0, 0))) (hn : cs.length = Nat.min sLen dLen * i.size)
    (hsrc : ∀ j v, cs[j]? = some v → w.cell? (a.add j) = some v) (hfit : o + cs.length ≤ cur.size) (h1 : ∀ v ∈ cs, v.oneCell' = true) :
    (Builtin.copy_ #[dT, sT] ty #[.slice (some ⟨g, o, none⟩) dLen dCap, .slice (some a) sLen sCap]).run P w =
      .ok (goInt (Nat.min sLen dLen)) (w.setRow g (cur.toList.take o ++ cs ++ cur.toList.drop (o + cs.length)).toArray) := by
  have hl := run_loadCells_list (P := P) w a cs hsrc
  rw [hn] at hl
  have hst := run_storeCells_at P g o t cs 0 cur w hg (by simpa using hfit) h1
  simp only [Nat.add_zero] at hst
  simp [Builtin.copy_, run_underlying hu, Builtin.lenOf, Builtin.firstCells, sizeOf, typeInfo, hs, hl, hst]
end
theorem setRow_heap {w : World} {g : Nat} {cur new : Array Value} {t : TypeId} {fz : Nat × Nat} (hg : w.heap[g]? = some (.cells cur t fz)) : (w.setRow g new).heap[g]? = some (.cells new t fz) := by
  unfold World.setRow
  simp only
  rw [Array.getElem?_modify, if_pos rfl, hg]; rfl
theorem setRow_other {w : World} {g b : Nat} {new : Array Value} (h : b ≠ g) : (w.setRow g new).heap[b]? = w.heap[b]? := by
  unfold World.setRow
  simp [Array.getElem?_modify, Ne.symm h]
theorem setRow_size {w : World} {g : Nat} {new : Array Value} : (w.setRow g new).heap.size = w.heap.size := by
  unfold World.setRow; simp
structure RowOut (w w' : World) (t k : Nat) (vS v' : Value) (n : Nat) (ys : List Value) : Prop where
  row : w'.ownsRow 0 t k v' n ys
  blk : ∀ b, v'.ownBlock = some b → vS.ownBlock = some b ∨ w.heap.size ≤ b
  grow : w.grownBy w' vS.ownBlock
def ERel (G : Sig) (S : Nat → Prop) (h : Array Obj) (t : Nat) (l : List (G.T t)) (ys : List Value) : Prop :=
  ys.length = l.length * G.sz t ∧ (∀ u ∈ ys, u.oneCell' = true) ∧ ∀ (i j : Nat) (x : G.T t) (cv : Cv G.T), l[i]? = some x → (G.enc t x)[j]? = some cv → ∃ v, ys[i * G.sz t + j]? = some v ∧ Rd G S h cv v
section
variable {S : Nat → Prop} {h : Array Obj} {t : Nat}
theorem ERel.nil : ERel G S h t [] [] := ⟨by simp, by simp, by simp⟩
theorem nop' {P : Program} (ok : SigOK P G) {x : G.T t} {j : Nat} {cv : Cv G.T} (hc : (G.enc t x)[j]? = some cv) : j < G.sz t :=
  Nat.lt_of_lt_of_le (List.getElem?_eq_some_iff.1 hc).1 (ok.encl t x)
theorem nmu' {i n k j : Nat} (hi : i < n) (hj : j < k) : i * k + j < n * k := by
  have : (i + 1) * k ≤ n * k := Nat.mul_le_mul_right _ hi
  rw [Nat.add_mul] at this; omega
theorem ERel.append {l l' : List (G.T t)} {ys ys' : List Value} {P : Program} (ok : SigOK P G) (a : ERel G S h t l ys) (b : ERel G S h t l' ys') : ERel G S h t (l ++ l') (ys ++ ys') := by
  refine ⟨by rw [List.length_append, List.length_append, a.1, b.1, Nat.add_mul], fun u hu => ?_, fun i j x cv hx hc => ?_⟩
  · rcases List.mem_append.1 hu with hu | hu
    · exact a.2.1 u hu
    · exact b.2.1 u hu
  · have hj := nop' ok hc
    rw [List.getElem?_append] at hx
    split at hx
    · rename_i hi
      obtain ⟨v, h1, h2⟩ := a.2.2 i j x cv hx hc
      exact ⟨v, by rw [List.getElem?_append_left (by rw [a.1]; exact nmu' hi hj)]; exact h1, h2⟩
    · rename_i hi
      obtain ⟨v, h1, h2⟩ := b.2.2 _ j x cv hx hc
      have hm : l.length * G.sz t ≤ i * G.sz t := Nat.mul_le_mul_right _ (by omega)
      refine ⟨v, ?_, h2⟩
      rw [List.getElem?_append_right (by rw [a.1]; omega), a.1]
      rw [Nat.sub_mul] at h1
      rw [← h1]; congr 1; omega
theorem ERel.take {l : List (G.T t)} {ys : List Value} {P : Program} (ok : SigOK P G) (a : ERel G S h t l ys) (n : Nat) : ERel G S h t (l.take n) (ys.take (n * G.sz t)) := by
  refine ⟨by rw [List.length_take, List.length_take, a.1, Nat.mul_min_mul_right], fun u hu => a.2.1 u (List.mem_of_mem_take hu), fun i j x cv hx hc => ?_⟩
  have hj := nop' ok hc
  rw [List.getElem?_take] at hx
  split at hx
  · rename_i hi
    obtain ⟨v, h1, h2⟩ := a.2.2 i j x cv hx hc
    exact ⟨v, by rw [List.getElem?_take_of_lt (nmu' hi hj)]; exact h1, h2⟩
  · cases hx
theorem ERel.drop {l : List (G.T t)} {ys : List Value} (a : ERel G S h t l ys) (n : Nat) : ERel G S h t (l.drop n) (ys.drop (n * G.sz t)) := by
  refine ⟨by rw [List.length_drop, List.length_drop, a.1, Nat.sub_mul], fun u hu => a.2.1 u (List.mem_of_mem_drop hu), fun i j x cv hx hc => ?_⟩
  rw [List.getElem?_drop] at hx
  obtain ⟨v, h1, h2⟩ := a.2.2 (n + i) j x cv hx hc
  exact ⟨v, by rw [List.getElem?_drop, ← h1]; congr 1; rw [Nat.add_mul]; omega, h2⟩
end
theorem npb' {P : Program} (ok : SigOK P G) {ν : Nat → Option Value} {S B : Nat → Prop} {h : Nat → Option (Blk G.T)} {w : World} (hr : HRel G ν S B h w) {n t : Nat} {l : List (G.T t)} (hn : h n = some (.row t l)) (hty : G.ty t ≠ .no) (henc : ∀ x, (G.enc t x).length = G.sz t) {v : Value} (hv : ν n = some v) :
    ∃ ys, w.ownsRow 0 t (G.sz t) v l.length ys ∧ ERel G S w.heap t l ys ∧ (∀ b, v.ownBlock = some b → ¬ S b ∧ B b ∧ b < w.heap.size ∧ blkOf v = some b) := by
  have hpos := ok.pos t hty
  rcases hr.blk n _ hn with ⟨h1, h2⟩ | ⟨b, cap, c, te, h1, h2, h3, h4, h5, h6, h7⟩
  · rw [hv] at h1; cases h1; subst h2
    exact ⟨[], ⟨by simp, .inl ⟨rfl, rfl⟩⟩, ERel.nil, fun b hb => by simp [Value.ownBlock] at hb⟩
  · rw [hv] at h1; cases h1
    subst h6
    have hmul : l.length * G.sz te ≤ cap * G.sz te := Nat.mul_le_mul_right _ h3
    refine ⟨c.toList.take (l.length * G.sz te), ⟨by simp; omega, .inr ⟨b, cap, c, rfl, Nat.zero_le _, h2, h3, h7, h4, rfl⟩⟩, ⟨by simp; omega, fun u hu => ?_, fun i j x cv hx hc => ?_⟩, fun b' hb' => ?_⟩
    · obtain ⟨j, hj, e⟩ := List.getElem_of_mem hu
      have hj' : j < l.length * G.sz te := by simp at hj; omega
      have hi : j / G.sz te < l.length := Nat.div_lt_of_lt_mul (by rw [Nat.mul_comm]; exact hj')
      have hm : j % G.sz te < (G.enc te l[j / G.sz te]).length := by rw [henc]; exact Nat.mod_lt _ hpos
      obtain ⟨u', hu', hrd⟩ := h5 (j / G.sz te) (j % G.sz te) _ _ (List.getElem?_eq_getElem hi) (List.getElem?_eq_getElem hm)
      rw [Nat.mul_comm, Nat.div_add_mod] at hu'
      have : u = u' := by
        have h6 : (c.toList.take (l.length * G.sz te))[j]? = some u := by rw [← e]; exact List.getElem?_eq_getElem hj
        rw [List.getElem?_take_of_lt hj'] at h6
        simp at h6
        rw [h6] at hu'; simpa using hu'
      rw [this]; exact nmz' hrd
    · obtain ⟨u, hu, hrd⟩ := h5 i j x cv hx hc
      have hi : i < l.length := (List.getElem?_eq_some_iff.1 hx).1
      exact ⟨u, by rw [List.getElem?_take_of_lt (nmu' hi (nop' ok hc))]; simpa using hu, hrd⟩
    · simp [Value.ownBlock] at hb'; subst hb'
      obtain ⟨q1, q2⟩ := hr.own n _ b (by rw [hn]; simp) hv rfl
      exact ⟨q1, q2, (Array.getElem?_eq_some_iff.1 h2).1, rfl⟩
def nuOut (ν : Nat → Option Value) (m : Nat) (v : Value) : Nat → Option Value := fun n => if n = m then some v else if lo ≤ n then ν n else none
theorem njn' {P : Program} (ok : SigOK P G) {ν : Nat → Option Value} {S mo : Nat → Prop} {hp : Nat → Option (Blk G.T)} {w w' : World} (hr : HRel G ν S (fun b => mo b ∨ w.heap.size ≤ b) hp w)
    {t n m : Nat} {vS v' : Value} {ys : List Value} {l : List (G.T t)} (hout : RowOut w w' t (G.sz t) vS v' n ys) (hS : ∀ b, vS.ownBlock = some b → ¬ S b ∧ mo b) (hE : ERel G S w.heap t l ys) (hn : n = l.length) (hm : m < lo) :
    Rs G (nuOut ν m v') S w'.heap (.p (.one (.own m))) v' ∧ HRel G (nuOut ν m v') S (fun b => mo b ∨ w.heap.size ≤ b) (get [(m, .row t l)]) w' ∧
      (∀ b, S b → S b) ∧ (∀ b, S b → S b ∨ mo b ∨ w.heap.size ≤ b) ∧ (∀ n y, lo ≤ n → ν n = some y → nuOut ν m v' n = some y) ∧
      w.heap.size ≤ w'.heap.size ∧ (∀ b, b < w.heap.size → ¬ mo b → w'.heap[b]? = w.heap[b]?) ∧ (w'.os = w.os ∧ w'.tape = w.tape ∧ w'.output = w.output) := by
  have hheap : ∀ b, S b → w'.heap[b]? = w.heap[b]? := fun b hb => hout.grow.block b (hr.stay b hb) fun e => (hS b e.symm).1 hb
  have hnm : nuOut ν m v' m = some v' := by simp [nuOut]
  have hform : ∃ a len cap, v' = .slice a len cap := by
    obtain ⟨_, h | ⟨g, cap, cur, h, _⟩⟩ := hout.row
    · exact ⟨_, _, _, h.1⟩
    · exact ⟨_, _, _, h⟩
  refine ⟨.p _ _ (.one _ _ ?_), ⟨fun n' k hk => ?_, fun a b x y c ha hb hx hy hcx hcy => ?_, fun n' x b hn' hx hb => ?_, fun b hb => Nat.lt_of_lt_of_le (hr.stay b hb) hout.grow.size, hr.gl.mono (fun _ h => h) hheap⟩, fun _ h => h, fun _ h => .inl h, fun n' y hlo hy => ?_, hout.grow.size, fun b hb hmo => hout.grow.block b hb fun e => hmo (hS b e.symm).2, hout.grow.os, hout.grow.tape, hout.grow.output⟩
  · obtain ⟨a, len, cap, e⟩ := hform
    exact ⟨a, len, cap, hnm, e⟩
  · simp only [get, n2'] at hk
    split at hk
    · rename_i e
      subst e
      cases hk
      obtain ⟨hl, h | ⟨g, cap, cur, h1, _, h2, h3, h4, h5, h6⟩⟩ := hout.row
      · left
        refine ⟨by rw [hnm, h.1], ?_⟩
        have := h.2; rw [hn] at this
        exact List.eq_nil_of_length_eq_zero this
      · right
        rw [hn] at h1 h3 h6
        refine ⟨g, cap, cur, t, by rw [hnm, h1], h2, h3, h5, fun i j x cv hx hc => ?_, rfl, h4⟩
        obtain ⟨v, hv, hrd⟩ := hE.2.2 i j x cv hx hc
        have hi : i < l.length := (List.getElem?_eq_some_iff.1 hx).1
        rw [← h6, List.getElem?_take_of_lt (nmu' hi (nop' ok hc))] at hv
        exact ⟨v, by simpa using hv, hrd.mono (fun _ h => h) hheap⟩
    · cases hk
  · have one : ∀ q, get [(m, Blk.row t l)] q ≠ none → q = m := fun q hq => by
      simp only [get, n2'] at hq
      split at hq
      · rename_i e; exact e.symm
      · exact absurd rfl hq
    rw [one a ha, one b hb]
  · have e : n' = m := by
      simp only [get, n2'] at hn'
      split at hn'
      · rename_i e; exact e.symm
      · exact absurd rfl hn'
    subst e
    rw [hnm] at hx; cases hx
    have hob : v'.ownBlock = some b := by
      obtain ⟨a, len, cap, rfl⟩ := hform
      cases a with
      | none => simp [blkOf] at hb
      | some a => simpa [blkOf, Value.ownBlock] using hb
    rcases hout.blk b hob with h | h
    · exact ⟨(hS b h).1, .inl (hS b h).2⟩
    · exact ⟨fun hs => by have := hr.stay b hs; omega, .inr h⟩
  · unfold nuOut
    rw [if_neg (by omega), if_pos hlo]; exact hy
end Go.Ab
namespace Go.Ab
variable {G : Sig}
def rowE (r t : Nat) : List (Ex × Spec) := [(.ret, ⟨[(r, .one (.own 32768 t))], [], []⟩)]
def insI (t : Nat) : Spec := ⟨[(0, .one (.own 32768 t)), (1, .one (.int .i64)), (2, .one (.own 32769 t))], [], []⟩
def delI (t : Nat) : Spec := ⟨[(0, .one (.own 32768 t)), (1, .one (.int .i64)), (2, .one (.int .i64))], [], []⟩
def cloI (t : Nat) : Spec := ⟨[(0, .one (.ro t))], [], []⟩
def insF {α : Type} (l : List α) (i : Int) (v : List α) : Option ((List α × Unit) × Unit) :=
  bif (decide (0 ≤ i) && decide (i ≤ (l.length : Int))) && (Nat.blt 0 v.length && Nat.ble (l.length + v.length) 2147483648) then some ((l.take i.toNat ++ v ++ l.drop i.toNat, ()), ()) else none
def delF {α : Type} (l : List α) (i j : Int) : Option ((List α × Unit) × Unit) :=
  bif (decide (0 ≤ i) && decide (i < j)) && decide (j ≤ (l.length : Int)) then some ((l.take i.toNat ++ l.drop j.toNat, ()), ()) else none
def cloF {α : Type} (l : List α) : Option ((List α × Unit) × Unit) := bif Nat.ble l.length 2147483648 then some ((l, ()), ()) else none
def insFe (G : Sig) (r t : Nat) : Fe G := ⟨insI t, rowE r t, fun x => (insF x.1.1 x.1.2.1 x.1.2.2.1 : Option ((List (G.T t) × Unit) × Unit)), [.tmp r]⟩
def delFe (G : Sig) (r t : Nat) : Fe G := ⟨delI t, rowE r t, fun x => (delF x.1.1 x.1.2.1 x.1.2.2.1 : Option ((List (G.T t) × Unit) × Unit)), [.tmp r]⟩
def cloFe (G : Sig) (r t : Nat) : Fe G := ⟨cloI t, rowE r t, fun x => (cloF x.1.1 : Option ((List (G.T t) × Unit) × Unit)), [.tmp r]⟩
theorem njz' {α : Type} {b : Bool} {x y : α} (h : (bif b then some x else none) = some y) : b = true ∧ x = y := by
  cases b with
  | true => exact ⟨rfl, Option.some.inj h⟩
  | false => cases h
theorem nnm' {I : Spec} (hI : I.hp = []) {r t : Nat} {y : (List (G.T t) × Unit) × Unit} {p : Ex × St G} {s : Sv G.T} {bl : List (List (Cv G.T))} (hp : caseE (rowE r t) y some = some p) (ho : outsP I [.tmp r] p = some (s, bl)) :
    p.2.hp = [(32768, .row t y.1.1)] ∧ s = .p (.one (.own 32768)) ∧ bl = [] := by
  have hp' : p = (.ret, Spec.mk' ⟨[(r, .one (.own 32768 t))], [], []⟩ y) := (Option.some.inj hp).symm
  subst hp'
  unfold outsP at ho
  rw [hI] at ho
  have hg : get [(r, (Sv.p (.one (.own 32768)) : Sv G.T))] r = some (.p (.one (.own 32768))) := by simp [get]
  have hres : resS (Spec.mk' ⟨[(r, .one (.own 32768 t))], [], []⟩ y : St G) [.tmp r] = some (.p (.one (.own 32768))) := by
    unfold resS
    have : ndh' (Spec.mk' ⟨[(r, .one (.own 32768 t))], [], []⟩ y : St G) [.tmp r] = some [.one (.own 32768)] := by
      simp only [ndh', resOf, Spec.mk', ne4', PSh.give, CSh.give, hg]
    rw [this]
  simp only [hres, keysH, nll', mapO, Option.some.injEq, Prod.mk.injEq] at ho
  exact ⟨rfl, ho.1.symm, ho.2.symm⟩
section
variable {P : Program} (ok : SigOK P G) {g r t : Nat} (hent : Entr P g) (hty : G.ty t ≠ .no) (henc : ∀ x, (G.enc t x).length = G.sz t)
include ok hent hty henc
theorem n1z' (hc : ∀ (w : World) (n i m : Nat) (xs vs : List Value) (vS vV : Value), w.ownsRow 0 t (G.sz t) vS n xs → w.ownsRow 0 t (G.sz t) vV m vs → (∀ b, vS.ownBlock = some b → vV.ownBlock ≠ some b) → (∀ u ∈ xs, u.oneCell' = true) → (∀ u ∈ vs, u.oneCell' = true) →
      i ≤ n → 0 < m → n + m ≤ 2147483648 → Calls P g #[vS, .int .i64 i, vV] w fun e w' => ∃ v', e = .returned v' ∧ RowOut w w' t (G.sz t) vS v' (n + m) (xs.take (i * G.sz t) ++ vs ++ xs.drop (i * G.sz t))) : FnOK P G g (insFe G r t) := by
  refine ⟨hent, fun x y p s bl hy hp ho ν S mo w vals hheap _ hvl hslot => ?_⟩
  obtain ⟨⟨(l : List (G.T t)), (i : Int), (v : List (G.T t)), _⟩, _⟩ := x
  obtain ⟨h1, h2⟩ := njz' hy
  obtain ⟨h3, rfl, rfl⟩ := nnm' (I := insI t) rfl hp ho
  subst h2
  simp only [Bool.and_eq_true, decide_eq_true_eq, Nat.blt_eq, Nat.ble_eq] at h1
  obtain ⟨⟨g1, g2⟩, g3, g4⟩ := h1
  have s0 := hslot 0 (.p (.one (.own 32768))) rfl
  have s1 := hslot 1 (.p (.one (.sc (.int .i64 i)))) rfl
  have s2 := hslot 2 (.p (.one (.own 32769))) rfl
  have hvals : ∃ a b c, vals = [a, b, c] := by
    match vals, hvl with
    | [a, b, c], _ => exact ⟨a, b, c, rfl⟩
  obtain ⟨vS, vI, vV, rfl⟩ := hvals
  have e0 : ν 32768 = some vS := by cases s0 with | p _ _ hc => cases hc with | one _ _ hc => obtain ⟨_, _, _, h, _⟩ := hc; exact h
  have e2 : ν 32769 = some vV := by cases s2 with | p _ _ hc => cases hc with | one _ _ hc => obtain ⟨_, _, _, h, _⟩ := hc; exact h
  have e1 : vI = .int .i64 i := by cases s1 with | p _ _ hc => cases hc with | one _ _ hc => cases (show Rd G S w.heap (.sc (.int .i64 i)) vI from hc); rfl
  subst e1
  obtain ⟨xs, o1, r1, b1⟩ := npb' ok hheap (n := 32768) (t := t) (l := l) rfl hty henc e0
  obtain ⟨vs, o2, r2, b2⟩ := npb' ok hheap (n := 32769) (t := t) (l := v) rfl hty henc e2
  have hap : ∀ b, vS.ownBlock = some b → vV.ownBlock ≠ some b := fun b hb hb' => by
    have := hheap.apart 32768 32769 vS vV b (by show some _ ≠ none; simp) (by show some _ ≠ none; simp) e0 e2 (b1 b hb).2.2.2 (b2 b hb').2.2.2
    cases this
  obtain ⟨j, rfl⟩ : ∃ j : Nat, i = (j : Int) := ⟨i.toNat, by omega⟩
  refine (hc w l.length j v.length xs vs vS vV o1 o2 hap r1.2.1 r2.2.1 (by omega) g3 g4).mono ?_
  rintro e w' ⟨v', rfl, hout⟩
  have hE : ERel G S w.heap t (l.take j ++ v ++ l.drop j) (xs.take (j * G.sz t) ++ vs ++ xs.drop (j * G.sz t)) := ((r1.take ok j).append ok r2).append ok (r1.drop j)
  have := njn' ok hheap (m := 32768) (l := l.take j ++ v ++ l.drop j) hout (fun b hb => by
    obtain ⟨q1, q2, q3, _⟩ := b1 b hb
    exact ⟨q1, q2.resolve_right (by omega)⟩) hE (by simp; omega) (by decide)
  rw [h3]
  exact ⟨v', nuOut ν 32768 v', S, rfl, this⟩
theorem n1v' (hc : ∀ (w : World) (n i j : Nat) (xs : List Value) (vS : Value), w.ownsRow 0 t (G.sz t) vS n xs → (∀ u ∈ xs, u.oneCell' = true) →
      i < j → j ≤ n → Calls P g #[vS, .int .i64 i, .int .i64 j] w fun e w' => ∃ v', e = .returned v' ∧ RowOut w w' t (G.sz t) vS v' (n - (j - i)) (xs.take (i * G.sz t) ++ xs.drop (j * G.sz t))) : FnOK P G g (delFe G r t) := by
  refine ⟨hent, fun x y p s bl hy hp ho ν S mo w vals hheap _ hvl hslot => ?_⟩
  obtain ⟨⟨(l : List (G.T t)), (i : Int), (j : Int), _⟩, _⟩ := x
  obtain ⟨h1, h2⟩ := njz' hy
  obtain ⟨h3, rfl, rfl⟩ := nnm' (I := delI t) rfl hp ho
  subst h2
  simp only [Bool.and_eq_true, decide_eq_true_eq] at h1
  obtain ⟨⟨g1, g2⟩, g3⟩ := h1
  have s0 := hslot 0 (.p (.one (.own 32768))) rfl
  have s1 := hslot 1 (.p (.one (.sc (.int .i64 i)))) rfl
  have s2 := hslot 2 (.p (.one (.sc (.int .i64 j)))) rfl
  have hvals : ∃ a b c, vals = [a, b, c] := by
    match vals, hvl with
    | [a, b, c], _ => exact ⟨a, b, c, rfl⟩
  obtain ⟨vS, vI, vJ, rfl⟩ := hvals
  have e0 : ν 32768 = some vS := by cases s0 with | p _ _ hc => cases hc with | one _ _ hc => obtain ⟨_, _, _, h, _⟩ := hc; exact h
  have e1 : vI = .int .i64 i := by cases s1 with | p _ _ hc => cases hc with | one _ _ hc => cases (show Rd G S w.heap (.sc (.int .i64 i)) vI from hc); rfl
  have e2 : vJ = .int .i64 j := by cases s2 with | p _ _ hc => cases hc with | one _ _ hc => cases (show Rd G S w.heap (.sc (.int .i64 j)) vJ from hc); rfl
  subst e1 e2
  obtain ⟨xs, o1, r1, b1⟩ := npb' ok hheap (n := 32768) (t := t) (l := l) rfl hty henc e0
  obtain ⟨a, rfl⟩ : ∃ a : Nat, i = (a : Int) := ⟨i.toNat, by omega⟩
  obtain ⟨c, rfl⟩ : ∃ c : Nat, j = (c : Int) := ⟨j.toNat, by omega⟩
  refine (hc w l.length a c xs vS o1 r1.2.1 (by omega) (by omega)).mono ?_
  rintro e w' ⟨v', rfl, hout⟩
  have hE : ERel G S w.heap t (l.take a ++ l.drop c) (xs.take (a * G.sz t) ++ xs.drop (c * G.sz t)) := (r1.take ok a).append ok (r1.drop c)
  have := njn' ok hheap (m := 32768) (l := l.take a ++ l.drop c) hout (fun b hb => by
    obtain ⟨q1, q2, q3, _⟩ := b1 b hb
    exact ⟨q1, q2.resolve_right (by omega)⟩) hE (by simp; omega) (by decide)
  rw [h3]
  exact ⟨v', nuOut ν 32768 v', S, rfl, this⟩
omit hty henc in
theorem nse' {tS size bytes : Nat} (hts : G.ty tS = .sl t) (hsz : size = G.sz t) (hby : bytes ≤ 4096)
    (hcA : ∀ (w : World) (a : Addr) (n c : Nat) (news : List Value), news.length = n * size → n ≤ maxLen → n * bytes ≤ 140737488355328 → (∀ j u, news[j]? = some u → w.cell? (a.add j) = some u) → (∀ u ∈ news, u.oneCell' = true) →
      Calls P g #[.slice (some a) n c] w fun e w' => ∃ v', e = .returned v' ∧ w'.ownsRow w.heap.size t size v' n news ∧ v' ≠ .slice none 0 0 ∧ RowKit.Below w.heap.size w w')
    (hcN : ∀ (w : World) (n c : Nat), Calls P g #[.slice none n c] w fun e w' => e = .returned (.slice none 0 0) ∧ w' = w) : FnOK P G g (cloFe G r t) := by
  refine ⟨hent, fun x y p s bl hy hp ho ν S mo w vals hheap _ hvl hslot => ?_⟩
  obtain ⟨⟨(l : List (G.T t)), _⟩, _⟩ := x
  obtain ⟨h1, h2⟩ := njz' hy
  obtain ⟨h3, rfl, rfl⟩ := nnm' (I := cloI t) rfl hp ho
  subst h2
  rw [Nat.ble_eq] at h1
  have s0 := hslot 0 (.p (.one (.ro t l))) rfl
  have hvals : ∃ a, vals = [a] := by
    match vals, hvl with
    | [a], _ => exact ⟨a, rfl⟩
  obtain ⟨vS, rfl⟩ := hvals
  have hrd : Rc G ν S w.heap (.ro t l) vS := by cases s0 with | p _ _ hc => cases hc with | one _ _ hc => exact hc
  obtain ⟨a, cap, hv, hnil, vs, hvl', hcell, hone, hrel⟩ := ng4' ok hheap (t := tS) (e := t) hts (c := .ro t l) (l := l) (by simp [elems, castL]) hrd
  have hE : ERel G S w.heap t l vs := ⟨hvl', hone, hrel⟩
  have fin : ∀ (v' : Value) (w' : World), RowOut w w' t (G.sz t) (.slice none 0 0) v' l.length vs → ∃ v ν' S', Ending.returned v' = Ending.returned v ∧ Rs G ν' S' w'.heap (.p (.one (.own 32768))) v ∧ HRel G ν' S' (fun b => mo b ∨ w.heap.size ≤ b) (get p.2.hp) w' ∧
      (∀ b, S b → S' b) ∧ (∀ b, S' b → S b ∨ mo b ∨ w.heap.size ≤ b) ∧ (∀ n y, lo ≤ n → ν n = some y → ν' n = some y) ∧
      w.heap.size ≤ w'.heap.size ∧ (∀ b, b < w.heap.size → ¬ mo b → w'.heap[b]? = w.heap[b]?) ∧ (w'.os = w.os ∧ w'.tape = w.tape ∧ w'.output = w.output) := fun v' w' hout => by
    have := njn' ok hheap (m := 32768) (l := l) hout (fun b hb => by simp [Value.ownBlock] at hb) hE rfl (by decide)
    rw [h3]
    exact ⟨v', nuOut ν 32768 v', S, rfl, this⟩
  subst hv
  cases a with
  | none =>
    obtain rfl := hnil rfl
    refine (hcN w _ _).mono ?_
    rintro e w' ⟨rfl, rfl⟩
    have hz : vs = [] := List.eq_nil_of_length_eq_zero (by rw [hvl']; simp)
    exact fin _ _ ⟨by rw [hz]; exact ⟨by simp, .inl ⟨rfl, rfl⟩⟩, fun b hb => by simp [Value.ownBlock] at hb, ⟨rfl, rfl, rfl, Nat.le_refl _, fun _ _ _ => rfl⟩⟩
  | some a =>
    have hb2 : l.length * bytes ≤ 140737488355328 := by
      have : l.length * bytes ≤ 2147483648 * 4096 := Nat.mul_le_mul h1 hby
      omega
    refine (hcA w a l.length cap vs (by rw [hsz]; exact hvl') (Nat.le_trans h1 (by decide)) hb2 (fun j u hj => hcell a rfl j u hj) hone).mono ?_
    rintro e w' ⟨v', rfl, hown, _, hbel⟩
    subst hsz
    refine fin v' w' ⟨?_, fun b hb => .inr ?_, ⟨hbel.os, hbel.tape, hbel.output, hbel.size, fun k hk _ => hbel.block k hk⟩⟩
    · obtain ⟨q1, q2 | ⟨b, c2, cur, q2, _, q4⟩⟩ := hown
      · exact ⟨q1, .inl q2⟩
      · exact ⟨q1, .inr ⟨b, c2, cur, q2, Nat.zero_le _, q4⟩⟩
    · obtain ⟨_, q2 | ⟨b', c2, cur, q2, q3, _⟩⟩ := hown
      · rw [q2.1] at hb; simp [Value.ownBlock] at hb
      · rw [q2] at hb
        simp [Value.ownBlock] at hb
        omega
end
end Go.Ab
namespace Go.Ab
open Go.Lib
variable {G : Sig}
theorem npv' (w : World) (A : Array Value) (e : TypeId) : (w.drew.alloc (.cells A e)).heap.size = w.heap.size + 1 ∧ (w.drew.alloc (.cells A e)).heap[w.heap.size]? = some (.cells A e (0, 0)) ∧ (∀ k, k < w.heap.size → (w.drew.alloc (.cells A e)).heap[k]? = w.heap[k]?) := by
  refine ⟨(show (w.heap.push _).size = _ by rw [Array.size_push]), ?_, fun k hk => ?_⟩
  · show (w.heap.push _)[w.heap.size]? = _
    rw [Array.getElem?_push, if_pos rfl]
  · show (w.heap.push _)[k]? = _
    rw [Array.getElem?_push_lt hk, Array.getElem?_eq_getElem hk]
theorem nv3' (s : ByteArray) : ∀ u ∈ strCells s, u.oneCell' = true := by
  intro u hu
  simp only [strCells, List.mem_map] at hu
  obtain ⟨b, _, rfl⟩ := hu
  rfl
theorem n4h' {P : Program} (w : World) {t u e : TypeId} {i : TypeInfo} (ht : P.underlying t = some (.slice e)) (hu : P.underlying u = some .string) (hi : P.info? e = some i) (hz : i.zero = some (.int .u8 0)) (hs1 : i.size = 1) (hby : i.bytes = 1)
    {v : Value} {n : Nat} {xs : List Value} (hown : w.ownsRow 0 e 1 v n xs) (s : ByteArray) (h63 : n + s.size ≤ 2147483648) :
    ∃ v' w', (∀ ty, (Builtin.append_ #[t, u] ty #[v, .string s]).run P w = .ok v' w') ∧ RowOut w w' e 1 v v' (n + s.size) (xs ++ strCells s) := by
  have hsl : (strCells s).length = s.size := strCells_length s
  obtain ⟨hxl, ⟨rfl, rfl⟩ | ⟨b, c, cur, rfl, _, hg, hnc, hcm, hcs, hct⟩⟩ := hown
  · by_cases h0 : s.size = 0
    · refine ⟨.slice none 0 0, w, fun ty => ?_, ⟨by simp [hsl, h0, hxl], .inl ⟨rfl, by omega⟩⟩, fun b hb => by simp [Value.ownBlock] at hb, ⟨rfl, rfl, rfl, Nat.le_refl _, fun _ _ _ => rfl⟩⟩
      have hf := run_firstCells_string (P := P) w 1 s
      rw [h0] at hf
      simp [Builtin.append_, run_underlying ht, run_underlying hu, sizeOf, typeInfo, hi, hs1, Builtin.lenOf, h0, hf]
    · have hx0 : xs = [] := List.eq_nil_of_length_eq_zero (by omega)
      subst hx0
      have hr := fun ty => run_append_nil_string (P := P) w t u ty e i (.int .u8 0) ht hu hi hz s (by omega) (by omega) (by rw [hby]; omega)
      obtain ⟨p1, p2, p3⟩ := npv' w (Array.map (fun b => Value.int .u8 b.toNat) s.data ++ Builtin.zeroCells (Value.int .u8 0).cells (grownCap w s.size 0 e - s.size)) e
      have hcg := grownCap_ge w s.size 0 e
      refine ⟨_, _, hr, ⟨by simp [hsl], .inr ⟨w.heap.size, _, _, by rw [Nat.zero_add], Nat.zero_le _, p2, by omega, grownCap_le_maxLen w _ _ _ (by unfold maxLen; omega), ?_, ?_⟩⟩, fun b hb => .inr (by simp [Value.ownBlock] at hb; omega), ⟨rfl, rfl, rfl, by omega, fun k hk _ => p3 k hk⟩⟩
      · simp [Builtin.zeroCells, Value.cells]
        show s.size + _ = _
        omega
      · rw [Array.toList_append, Array.toList_map, List.nil_append, Nat.zero_add, Nat.mul_one]
        exact List.take_left' hsl
  · by_cases hr : n + s.size ≤ c
    · refine ⟨_, _, fun ty => run_append_room_string (P := P) w t u ty e i ht hu hi hs1 b n c cur hg s hr (by omega), ⟨by simp [hsl, hxl], .inr ⟨b, c, _, rfl, Nat.zero_le _, Go.Ab.setRow_heap hg, hr, hcm, ?_, ?_⟩⟩, fun b' hb' => .inl hb', ⟨rfl, rfl, rfl, by rw [Go.Ab.setRow_size]; exact Nat.le_refl _, fun k hk hne => Go.Ab.setRow_other (fun e => hne (by rw [e]; rfl))⟩⟩
      · simp [hsl, hcs]; omega
      · rw [List.toList_toArray]
        have e1 : cur.toList.take n = xs := by rw [← hct, Nat.mul_one]
        rw [e1]
        exact List.take_left' (by rw [List.length_append, hsl, hxl]; omega)
    · have hgr := fun ty => run_append_grow_string (P := P) w t u ty e i (.int .u8 0) ht hu hi hz ⟨b, 0, none⟩ n c xs (by rw [hs1]; exact hxl) (fun j v hj => by
        rw [← hct, Nat.mul_one] at hj
        have hlt : j < n := by
          have := (List.getElem?_eq_some_iff.1 hj).1
          simp at this; omega
        rw [List.getElem?_take_of_lt hlt] at hj
        rw [ndj', Nat.zero_add, cell_of_row w b _ cur e (0, 0) hg]
        simpa using hj) s (by omega) (by omega) (by rw [hby]; exact growslice_fits (by omega) (by omega))
      obtain ⟨p1, p2, p3⟩ := npv' w (xs.toArray ++ (strCells s).toArray ++ Builtin.zeroCells (Value.int .u8 0).cells (grownCap w (n + s.size) c e - (n + s.size))) e
      have hcg := grownCap_ge w (n + s.size) c e
      refine ⟨_, _, hgr, ⟨by simp [hsl, hxl], .inr ⟨w.heap.size, _, _, rfl, Nat.zero_le _, p2, by omega, grownCap_le_maxLen w _ _ _ (by unfold maxLen; omega), ?_, ?_⟩⟩, fun b hb => .inr (by simp [Value.ownBlock] at hb; omega), ⟨rfl, rfl, rfl, by omega, fun k hk _ => p3 k hk⟩⟩
      · simp [Builtin.zeroCells, Value.cells, hsl, hxl]
        omega
      · rw [Array.toList_append, Array.toList_append, List.toList_toArray, List.toList_toArray]
        exact List.take_left' (by rw [List.length_append, hsl, hxl]; omega)
structure BldOut (w w' : World) (b te e : Nat) (a v v' : Value) (n : Nat) (ys : List Value) : Prop where
  cel : w'.heap[b]? = some (.cells #[a, v'] te (0, 0))
  row : w'.ownsRow 0 e 1 v' n ys
  apart : v'.ownBlock ≠ some b
  blk : ∀ g, v'.ownBlock = some g → v.ownBlock = some g ∨ w.heap.size ≤ g
  rest : ∀ k, k < w.heap.size → k ≠ b → some k ≠ v.ownBlock → w'.heap[k]? = w.heap[k]?
  size : w.heap.size ≤ w'.heap.size
  env : w'.os = w.os ∧ w'.tape = w.tape ∧ w'.output = w.output
theorem setCell_heap {w : World} {b o : Nat} {x : Value} {cur : Array Value} {t : TypeId} {fz : Nat × Nat} (hg : w.heap[b]? = some (.cells cur t fz)) : (w.setCell ⟨b, o, none⟩ x).heap[b]? = some (.cells (cur.setIfInBounds o x) t fz) := by
  unfold World.setCell
  simp only
  rw [Array.getElem?_modify, if_pos rfl, hg]; rfl
theorem setCell_other {w : World} {b o k : Nat} {x : Value} (h : k ≠ b) : (w.setCell ⟨b, o, none⟩ x).heap[k]? = w.heap[k]? := by
  unfold World.setCell
  simp [Array.getElem?_modify, Ne.symm h]
theorem setCell_size {w : World} {a : Addr} {x : Value} : (w.setCell a x).heap.size = w.heap.size := by
  unfold World.setCell; simp
structure CcOut (w w1 : World) (b te : Nat) (v : Value) : Prop where
  cel : w1.heap[b]? = some (.cells #[.pointer (some ⟨b, 0, none⟩), v] te (0, 0))
  rest : ∀ k, k ≠ b → w1.heap[k]? = w.heap[k]?
  size : w1.heap.size = w.heap.size
  env : w1.os = w.os ∧ w1.tape = w.tape ∧ w1.output = w.output
theorem nos' {w w1 : World} {base e k n : Nat} {v : Value} {xs : List Value} (h : w.ownsRow base e k v n xs) (hk : ∀ g, v.ownBlock = some g → w1.heap[g]? = w.heap[g]?) : w1.ownsRow base e k v n xs := by
  obtain ⟨h1, h2 | ⟨g, cap, cur, rfl, h4, h5, h6⟩⟩ := h
  · exact ⟨h1, .inl h2⟩
  · exact ⟨h1, .inr ⟨g, cap, cur, rfl, h4, (hk g rfl).trans h5, h6⟩⟩
theorem n1b' {w w1 w2 : World} {b te e m : Nat} {v v' : Value} {ys : List Value} (hb : b < w.heap.size) (hc : CcOut w w1 b te v) (hne : v.ownBlock ≠ some b) (ho : RowOut w1 w2 e 1 v v' m ys) : BldOut w (w2.setCell ⟨b, 1, none⟩ v') b te e (.pointer (some ⟨b, 0, none⟩)) v v' m ys := by
  have hb1 : b < w1.heap.size := by rw [hc.size]; exact hb
  have h2 : w2.heap[b]? = some (.cells #[.pointer (some ⟨b, 0, none⟩), v] te (0, 0)) := by rw [ho.grow.block b hb1 (fun e => hne e.symm)]; exact hc.cel
  have hap : v'.ownBlock ≠ some b := fun e => by
    rcases ho.blk b e with h | h
    · exact hne h
    · omega
  refine ⟨by rw [setCell_heap h2]; rfl, nos' ho.row fun g hg => setCell_other (fun e => hap (by rw [← e]; exact hg)), hap, fun g hg => ?_, fun k hk hkb hkv => ?_, ?_, ?_⟩
  · rcases ho.blk g hg with h | h
    · exact .inl h
    · exact .inr (by rw [← hc.size]; exact h)
  · rw [setCell_other hkb, ho.grow.block k (by rw [hc.size]; exact hk) hkv, hc.rest k hkb]
  · rw [setCell_size, ← hc.size]; exact ho.grow.size
  · exact ⟨ho.grow.os.trans hc.env.1, ho.grow.tape.trans hc.env.2.1, ho.grow.output.trans hc.env.2.2⟩
end Go.Ab
namespace Go.Ab
open Go.Lib
variable {G : Sig}
def bldH (tb te : Nat) : List (Nat × List CSh) := [(65536, [.np 65536 tb, .own 32768 te])]
def wsI (tb te : Nat) : Spec := ⟨[(0, .one (.ptr 65536 0)), (1, .one .str)], bldH tb te, []⟩
def wsE (r0 r1 tb te : Nat) : List (Ex × Spec) := [(.ret, ⟨[(r0, .one (.int .i64)), (r1, .one .nili)], bldH tb te, [65536]⟩)]
def stI (tb te : Nat) : Spec := ⟨[(0, .one (.ptr 65536 0))], bldH tb te, []⟩
def stE (r0 tb te : Nat) : List (Ex × Spec) := [(.ret, ⟨[(r0, .one .str)], [(65536, [.np 65536 tb, .ro te])], [65536]⟩)]
def wsF {α : Type} (ofB : UInt8 → α) (s : ByteArray) (l : List α) : Option ((Int × Unit × Unit) × ((Unit × List α × Unit) × Unit)) :=
  bif Nat.ble (l.length + s.size) 2147483648 then some (((s.size : Int), (), ()), (((), l ++ s.data.toList.map ofB, ()), ())) else none
def okB {T : Nat → Type} : List (Cv T) → Bool
  | [.sc (.int .u8 n)] => decide (0 ≤ n) && decide (n < 256)
  | _ => false
def someL {α : Type} : List α → Bool
  | [] => false
  | _ => true
def stF (G : Sig) (te : Nat) (l : List (G.T te)) : Option ((ByteArray × Unit) × ((Unit × List (G.T te) × Unit) × Unit)) :=
  bif someL l && l.all (fun x => okB (G.enc te x)) then some ((no2' G te l, ()), (((), l, ()), ())) else none
def wsFe (G : Sig) (r0 r1 tb te : Nat) (ofB : UInt8 → G.T te) : Fe G := ⟨wsI tb te, wsE r0 r1 tb te, fun x => (wsF ofB x.1.2.1 x.2.1.2.1 : Option ((Int × Unit × Unit) × ((Unit × List (G.T te) × Unit) × Unit))), [.tmp r0, .tmp r1]⟩
def stFe (G : Sig) (r0 tb te : Nat) : Fe G := ⟨stI tb te, stE r0 tb te, fun x => stF G te x.2.1.2.1, [.tmp r0]⟩
theorem n03' {P : Program} (ok : SigOK P G) {ν : Nat → Option Value} {S B : Nat → Prop} {w : World} {tb te : Nat} {l : List (G.T te)} (hr : HRel G ν S B (get [(32768, .row te l), (65536, .cells [.np 65536 tb, .own 32768])]) w) (hty : G.ty te ≠ .no) (henc : ∀ x, (G.enc te x).length = G.sz te) :
    ∃ b a0 v xs, ν 65536 = some (.pointer (some ⟨b, 0, none⟩)) ∧ ν 32768 = some v ∧ (a0 = .pointer none ∨ a0 = .pointer (some ⟨b, 0, none⟩)) ∧ w.heap[b]? = some (.cells #[a0, v] tb (0, 0)) ∧ w.ownsRow 0 te (G.sz te) v l.length xs ∧ ERel G S w.heap te l xs ∧
      (∀ g, v.ownBlock = some g → ¬ S g ∧ B g ∧ g < w.heap.size ∧ blkOf v = some g ∧ g ≠ b) ∧ ¬ S b ∧ B b ∧ b < w.heap.size := by
  obtain ⟨b, c, t', h1, h2, h3, h4⟩ := hr.blk 65536 _ rfl
  obtain ⟨_, e4⟩ := h4 65536 tb (by simp)
  subst e4
  obtain ⟨a0, r, hc, q1, q2⟩ := h3.inv
  obtain ⟨v, r2, hc2, q3, q4⟩ := q2.inv
  have hr2 := q4.inv_nil
  subst hr2 hc2
  have hcc : c = #[a0, v] := by rw [← Array.toArray_toList (xs := c), hc]
  subst hcc
  obtain ⟨_, _, _, hv, _⟩ := q3
  obtain ⟨xs, o1, o2, o3⟩ := npb' ok hr (n := 32768) (t := te) (l := l) rfl hty henc hv
  have ha : a0 = .pointer none ∨ a0 = .pointer (some ⟨b, 0, none⟩) := by
    rcases q1 with h | ⟨b', h5, h6⟩
    · exact .inl h
    · simp only at h5
      rw [h1] at h5
      cases h5
      exact .inr h6
  obtain ⟨n1, n2⟩ := hr.own 65536 _ b (by show some _ ≠ none; simp) h1 rfl
  refine ⟨b, a0, v, xs, h1, hv, ha, h2, o1, o2, fun g hg => ?_, n1, n2, (Array.getElem?_eq_some_iff.1 h2).1⟩
  obtain ⟨z1, z2, z3, z4⟩ := o3 g hg
  refine ⟨z1, z2, z3, z4, fun e => ?_⟩
  subst e
  have := hr.apart 32768 65536 _ _ g (by show some _ ≠ none; simp) (by show some _ ≠ none; simp) hv h1 z4 rfl
  cases this
theorem n4r' {tb te r0 r1 : Nat} (hne : r0 ≠ r1) {y : (Int × Unit × Unit) × ((Unit × List (G.T te) × Unit) × Unit)} {p : Ex × St G} {s : Sv G.T} {bl : List (List (Cv G.T))} (hp : caseE (wsE r0 r1 tb te) y some = some p) (ho : outsP (wsI tb te) [.tmp r0, .tmp r1] p = some (s, bl)) :
    p.2.hp = [(32768, .row te y.2.1.2.1), (65536, .cells [.np 65536 tb, .own 32768])] ∧ s = .tup [.one (.sc (.int .i64 y.1.1)), .one (.sc .nilIface)] ∧ bl = [[.np 65536 tb, .own 32768]] := by
  have hp' : p = (.ret, Spec.mk' ⟨[(r0, .one (.int .i64)), (r1, .one .nili)], bldH tb te, [65536]⟩ y) := (Option.some.inj hp).symm
  subst hp'
  unfold outsP at ho
  have hg0 : get [(r0, (Sv.p (.one (.sc (.int .i64 y.1.1))) : Sv G.T)), (r1, .p (.one (.sc .nilIface)))] r0 = some (.p (.one (.sc (.int .i64 y.1.1)))) := by simp [get]
  have hg1 : get [(r0, (Sv.p (.one (.sc (.int .i64 y.1.1))) : Sv G.T)), (r1, .p (.one (.sc .nilIface)))] r1 = some (.p (.one (.sc .nilIface))) := by simp [get, n2', hne]
  have hres : resS (Spec.mk' ⟨[(r0, .one (.int .i64)), (r1, .one .nili)], bldH tb te, [65536]⟩ y : St G) [.tmp r0, .tmp r1] = some (.tup [.one (.sc (.int .i64 y.1.1)), .one (.sc .nilIface)]) := by
    unfold resS
    have : ndh' (Spec.mk' ⟨[(r0, .one (.int .i64)), (r1, .one .nili)], bldH tb te, [65536]⟩ y : St G) [.tmp r0, .tmp r1] = some [.one (.sc (.int .i64 y.1.1)), .one (.sc .nilIface)] := by
      simp only [ndh', resOf, Spec.mk', ne4', PSh.give, CSh.give, hg0, hg1]
    rw [this]
  have hbl : nll' (get (Spec.mk' ⟨[(r0, .one (.int .i64)), (r1, .one .nili)], bldH tb te, [65536]⟩ y : St G).hp) (keysH (wsI tb te).hp) = some [[.np 65536 tb, .own 32768]] := rfl
  simp only [hres, hbl, Option.some.injEq, Prod.mk.injEq] at ho
  exact ⟨rfl, ho.1.symm, ho.2.symm⟩
theorem n4x' {tb te r0 : Nat} {y : (ByteArray × Unit) × ((Unit × List (G.T te) × Unit) × Unit)} {p : Ex × St G} {s : Sv G.T} {bl : List (List (Cv G.T))} (hp : caseE (stE r0 tb te) y some = some p) (ho : outsP (stI tb te) [.tmp r0] p = some (s, bl)) :
    p.2.hp = [(65536, .cells [.np 65536 tb, .ro te y.2.1.2.1])] ∧ s = .p (.one (.sc (.string y.1.1))) ∧ bl = [[.np 65536 tb, .ro te y.2.1.2.1]] := by
  have hp' : p = (.ret, Spec.mk' ⟨[(r0, .one .str)], [(65536, [.np 65536 tb, .ro te])], [65536]⟩ y) := (Option.some.inj hp).symm
  subst hp'
  unfold outsP at ho
  have hg0 : get [(r0, (Sv.p (.one (.sc (.string y.1.1))) : Sv G.T))] r0 = some (.p (.one (.sc (.string y.1.1)))) := by simp [get]
  have hres : resS (Spec.mk' ⟨[(r0, .one .str)], [(65536, [.np 65536 tb, .ro te])], [65536]⟩ y : St G) [.tmp r0] = some (.p (.one (.sc (.string y.1.1)))) := by
    unfold resS
    have : ndh' (Spec.mk' ⟨[(r0, .one .str)], [(65536, [.np 65536 tb, .ro te])], [65536]⟩ y : St G) [.tmp r0] = some [.one (.sc (.string y.1.1))] := by
      simp only [ndh', resOf, Spec.mk', ne4', PSh.give, CSh.give, hg0]
    rw [this]
  have hbl : nll' (get (Spec.mk' ⟨[(r0, .one .str)], [(65536, [.np 65536 tb, .ro te])], [65536]⟩ y : St G).hp) (keysH (stI tb te).hp) = some [[.np 65536 tb, .ro te y.2.1.2.1]] := rfl
  simp only [hres, hbl, Option.some.injEq, Prod.mk.injEq] at ho
  exact ⟨rfl, ho.1.symm, ho.2.symm⟩
theorem nup' {te : Nat} {S : Nat → Prop} {h : Array Obj} {ofB : UInt8 → G.T te} (hsz : G.sz te = 1) (hof : ∀ b, G.enc te (ofB b) = [.sc (.int .u8 b.toNat)]) (s : ByteArray) : ERel G S h te (s.data.toList.map ofB) (strCells s) := by
  refine ⟨by rw [strCells_length, List.length_map, hsz, Nat.mul_one, Array.length_toList]; rfl, nv3' s, fun i j x cv hx hc => ?_⟩
  rw [List.getElem?_map] at hx
  cases hb : s.data.toList[i]? with
  | none => rw [hb] at hx; cases hx
  | some b =>
    rw [hb] at hx
    simp only [Option.map_some, Option.some.injEq] at hx
    subst hx
    rw [hof] at hc
    obtain ⟨rfl, rfl⟩ : j = 0 ∧ cv = .sc (.int .u8 b.toNat) := by
      cases j with
      | zero => simp at hc; exact ⟨rfl, hc.symm⟩
      | succ j => simp at hc
    refine ⟨.int .u8 b.toNat, ?_, .sc _ rfl⟩
    rw [hsz, Nat.mul_one, Nat.add_zero]
    unfold strCells
    rw [List.getElem?_map, hb]; rfl
section
variable {P : Program} (ok : SigOK P G) {g tb te : Nat} (hent : Entr P g) (hty : G.ty te ≠ .no) (henc : ∀ x, (G.enc te x).length = G.sz te) (hsz : G.sz te = 1)
include ok hent hty henc hsz
theorem n29' {r0 r1 : Nat} (hne : r0 ≠ r1) {ofB : UInt8 → G.T te} (hof : ∀ b, G.enc te (ofB b) = [.sc (.int .u8 b.toNat)])
    (hc : ∀ (b : Nat) (w : World) (a0 v : Value), (a0 = .pointer none ∨ a0 = .pointer (some ⟨b, 0, none⟩)) → w.heap[b]? = some (.cells #[a0, v] tb (0, 0)) → ∀ (n : Nat) (xs : List Value), w.ownsRow 0 te 1 v n xs → v.ownBlock ≠ some b → ∀ s : ByteArray, n + s.size ≤ 2147483648 →
      Calls P g #[.pointer (some ⟨b, 0, none⟩), .string s] w fun e w' => e = .returned (.tuple #[.int .i64 s.size, .nilIface]) ∧ ∃ v', BldOut w w' b tb te (.pointer (some ⟨b, 0, none⟩)) v v' (n + s.size) (xs ++ strCells s)) : FnOK P G g (wsFe G r0 r1 tb te ofB) := by
  refine ⟨hent, fun x y p s bl hy hp ho ν S mo w vals hheap _ hvl hslot => ?_⟩
  obtain ⟨⟨_, (sx : ByteArray), _⟩, ⟨_, (l : List (G.T te)), _⟩, _⟩ := x
  obtain ⟨h1, h2⟩ := njz' hy
  obtain ⟨h3, rfl, rfl⟩ := n4r' hne hp ho
  subst h2
  rw [Nat.ble_eq] at h1
  have hheap0 : HRel G ν S (fun b => mo b ∨ w.heap.size ≤ b) (get [(32768, .row te l), (65536, .cells [.np 65536 tb, .own 32768])]) w := hheap
  obtain ⟨b, a0, v, xs, e1, e2, e3, e4, e5, e6, e7, e8, e9, e10⟩ := n03' ok hheap0 hty henc
  have s0 := hslot 0 (.p (.one (.ptr 65536 0))) rfl
  have s1 := hslot 1 (.p (.one (.sc (.string sx)))) rfl
  have hvals : ∃ a c, vals = [a, c] := by
    match vals, hvl with
    | [a, c], _ => exact ⟨a, c, rfl⟩
  obtain ⟨vp, vs, rfl⟩ := hvals
  have f0 : vp = .pointer (some ⟨b, 0, none⟩) := by
    cases s0 with | p _ _ hc => cases hc with | one _ _ hc =>
      obtain ⟨b', q1, q2⟩ := hc
      simp only at q1
      rw [e1] at q1
      cases q1
      exact q2
  have f1 : vs = .string sx := by cases s1 with | p _ _ hc => cases hc with | one _ _ hc => cases (show Rd G S w.heap (.sc (.string sx)) vs from hc); rfl
  subst f0 f1
  rw [hsz] at e5
  have e9' : mo b := e9.resolve_right (by omega)
  refine (hc b w a0 v e3 e4 l.length xs e5 (fun e => (e7 b e).2.2.2.2 rfl) sx h1).mono ?_
  rintro e w' ⟨rfl, v', hout⟩
  have hvS : ∀ q, v.ownBlock = some q → ¬ S q ∧ mo q := fun q hq => by
    obtain ⟨z1, z2, z3, _⟩ := e7 q hq
    exact ⟨z1, z2.resolve_right (by omega)⟩
  have hkeep : ∀ q, S q → w'.heap[q]? = w.heap[q]? := fun q hq => hout.rest q (hheap.stay q hq) (fun e => e8 (e ▸ hq)) fun e => (hvS q e.symm).1 hq
  have hE : ERel G S w.heap te (l ++ sx.data.toList.map ofB) (xs ++ strCells sx) := e6.append ok (nup' hsz hof sx)
  have hform : ∃ a len cap, v' = .slice a len cap := by
    obtain ⟨_, h | ⟨g, cap, cur, h, _⟩⟩ := hout.row
    · exact ⟨_, _, _, h.1⟩
    · exact ⟨_, _, _, h⟩
  have hn1 : nuOut ν 32768 v' 32768 = some v' := rfl
  have hn2 : nuOut ν 32768 v' 65536 = some (.pointer (some ⟨b, 0, none⟩)) := e1
  have hb' : ∀ q, v'.ownBlock = some q → ¬ S q ∧ (mo q ∨ w.heap.size ≤ q) := fun q hq => by
    rcases hout.blk q hq with h | h
    · exact ⟨(hvS q h).1, .inl (hvS q h).2⟩
    · exact ⟨fun hs => by have := hheap.stay q hs; omega, .inr h⟩
  have hob : ∀ q, blkOf v' = some q → v'.ownBlock = some q := fun q hq => by
    obtain ⟨a, len, cap, rfl⟩ := hform
    cases a with
    | none => simp [blkOf] at hq
    | some a => simpa [blkOf, Value.ownBlock] using hq
  have two : ∀ q, get [(32768, (Blk.row te (l ++ sx.data.toList.map ofB) : Blk G.T)), (65536, .cells [.np 65536 tb, .own 32768])] q ≠ none → q = 32768 ∨ q = 65536 := fun q hq => by
    simp only [get, n2'] at hq
    by_cases z : 32768 = q
    · exact .inl z.symm
    · rw [if_neg z] at hq
      by_cases z2 : 65536 = q
      · exact .inr z2.symm
      · rw [if_neg z2] at hq; exact absurd rfl hq
  rw [h3]
  refine ⟨_, nuOut ν 32768 v', S, rfl, ?_, ⟨fun q k hk => ?_, fun q1 q2 x y c ha hb hx hy hcx hcy => ?_, fun q x c hq hx hcx => ?_, fun q hq => Nat.lt_of_lt_of_le (hheap.stay q hq) hout.size, hheap.gl.mono (fun _ h => h) hkeep⟩, fun _ h => h, fun _ h => .inl h, fun q y hlo hy => ?_, hout.size, fun q hq hmo => hout.rest q hq (fun e => hmo (e ▸ e9')) fun e => hmo (hvS q e.symm).2, hout.env⟩
  · exact .tup [.one (.sc (.int .i64 sx.size)), .one (.sc .nilIface)] [.int .i64 sx.size, .nilIface] (.cons (.one _ _ (Rd.sc _ rfl)) (.cons (.one _ _ (Rd.sc _ rfl)) .nil))
  · rcases two q (by rw [hk]; simp) with rfl | rfl
    · have hk' : some (Blk.row te (l ++ sx.data.toList.map ofB) : Blk G.T) = some k := hk
      cases hk'
      have hlen : (l ++ sx.data.toList.map ofB).length = l.length + sx.size := by rw [List.length_append, List.length_map, Array.length_toList]; rfl
      obtain ⟨hl, h | ⟨g', cap, cur, k1, _, k2, k3, k4, k5, k6⟩⟩ := hout.row
      · left
        refine ⟨by rw [hn1, h.1], ?_⟩
        exact List.eq_nil_of_length_eq_zero (by rw [hlen]; exact h.2)
      · right
        rw [← hlen] at k1 k3 k6
        refine ⟨g', cap, cur, te, by rw [hn1, k1], k2, k3, by rw [hsz]; exact k5, fun i j x cv hx hc => ?_, rfl, k4⟩
        obtain ⟨u, hu, hrd⟩ := hE.2.2 i j x cv hx hc
        have hi : i < (l ++ sx.data.toList.map ofB).length := (List.getElem?_eq_some_iff.1 hx).1
        have hj := nop' ok hc
        rw [← k6, List.getElem?_take_of_lt (by rw [← hsz]; exact nmu' hi hj)] at hu
        exact ⟨u, by simpa using hu, hrd.mono (fun _ h => h) hkeep⟩
    · have hk' : some (Blk.cells [.np 65536 tb, .own 32768] : Blk G.T) = some k := hk
      cases hk'
      refine ⟨b, _, tb, hn2, hout.cel, .cons (.inr ⟨b, hn2, rfl⟩) (.cons ?_ .nil), fun m t hm => ?_⟩
      · obtain ⟨a, len, cap, e⟩ := hform
        exact ⟨a, len, cap, hn1, e⟩
      · simp at hm
        exact ⟨hm.1, hm.2.symm⟩
  · rcases two q1 ha with rfl | rfl <;> rcases two q2 hb with rfl | rfl
    · rfl
    · rw [hn1] at hx; cases hx
      rw [hn2] at hy; cases hy
      simp [blkOf] at hcy
      exact absurd (hob c hcx) (by rw [← hcy]; exact hout.apart)
    · rw [hn2] at hx; cases hx
      rw [hn1] at hy; cases hy
      simp [blkOf] at hcx
      exact absurd (hob c hcy) (by rw [← hcx]; exact hout.apart)
    · rfl
  · rcases two q hq with rfl | rfl
    · rw [hn1] at hx; cases hx
      exact hb' c (hob c hcx)
    · rw [hn2] at hx; cases hx
      simp [blkOf] at hcx
      subst hcx
      exact ⟨e8, .inl e9'⟩
  · unfold nuOut
    have h6 : lo = 65536 := rfl
    rw [if_neg (by omega), if_pos hlo]; exact hy
omit henc in
theorem n2r' {r0 : Nat} (henc : ∀ x, (G.enc te x).length = G.sz te)
    (hc : ∀ (b : Nat) (w : World) (a0 : Value) (g0 cap : Nat) (cur : Array Value) (l : List UInt8), l ≠ [] → w.heap[b]? = some (.cells #[a0, .slice (some ⟨g0, 0, none⟩) l.length cap] tb (0, 0)) → w.heap[g0]? = some (.cells cur te (0, 0)) → l.length ≤ cur.size → l.length ≤ cap → l.length ≤ 9223372036854775807 →
      (∀ (j : Nat) (x : UInt8), l[j]? = some x → cur[j]? = some (Value.int .u8 x.toNat)) → Calls P g #[.pointer (some ⟨b, 0, none⟩)] w fun e w' => e = .returned (.string ⟨l.toArray⟩) ∧ w' = w.drew.freeze ⟨g0, 0, none⟩ l.length) : FnOK P G g (stFe G r0 tb te) := by
  refine ⟨hent, fun x y p s bl hy hp ho ν S mo w vals hheap _ hvl hslot => ?_⟩
  obtain ⟨⟨_, _⟩, ⟨_, (l : List (G.T te)), _⟩, _⟩ := x
  obtain ⟨h1, h2⟩ := njz' hy
  obtain ⟨hhp, rfl, rfl⟩ := n4x' hp ho
  subst h2
  rw [Bool.and_eq_true] at h1
  have hl0 : l ≠ [] := fun e => by have := h1.1; rw [e] at this; cases this
  have hheap0 : HRel G ν S (fun b => mo b ∨ w.heap.size ≤ b) (get [(32768, .row te l), (65536, .cells [.np 65536 tb, .own 32768])]) w := hheap
  obtain ⟨b, a0, v, xs, e1, e2, e3, e4, e5, e6, e7, e8, e9, e10⟩ := n03' ok hheap0 hty henc
  have s0 := hslot 0 (.p (.one (.ptr 65536 0))) rfl
  have hvals : ∃ a, vals = [a] := by
    match vals, hvl with
    | [a], _ => exact ⟨a, rfl⟩
  obtain ⟨vp, rfl⟩ := hvals
  have f0 : vp = .pointer (some ⟨b, 0, none⟩) := by
    cases s0 with | p _ _ hc => cases hc with | one _ _ hc =>
      obtain ⟨b', q1, q2⟩ := hc
      simp only at q1
      rw [e1] at q1
      cases q1
      exact q2
  subst f0
  rw [hsz] at e5
  have e9' : mo b := e9.resolve_right (by omega)
  have hll : l.length ≠ 0 := by simpa using hl0
  obtain ⟨hxl, ⟨_, hz⟩ | ⟨g0, cap, cur, rfl, _, k2, k3, k4, k5, k6⟩⟩ := e5
  · exact absurd hz hll
  have hbytes : ∀ (j : Nat) (x : G.T te), l[j]? = some x → ∃ n : Int, G.enc te x = [.sc (.int .u8 n)] ∧ 0 ≤ n ∧ n < 256 ∧ cur[j]? = some (.int .u8 n) := fun j x hx => by
    have := List.all_eq_true.1 h1.2 x (List.mem_of_getElem? hx)
    generalize he : G.enc te x = cs at this
    unfold okB at this
    split at this
    · rename_i n
      simp only [Bool.and_eq_true, decide_eq_true_eq] at this
      obtain ⟨u, hu, hrd⟩ := e6.2.2 j 0 x _ hx (by rw [he]; rfl)
      cases hrd
      rw [hsz, Nat.mul_one, Nat.add_zero, ← k6, List.getElem?_take_of_lt (by have := (List.getElem?_eq_some_iff.1 hx).1; omega)] at hu
      exact ⟨n, rfl, this.1, this.2, by simpa using hu⟩
    · simp at this
  let l8 : List UInt8 := l.map fun x => byteC (G.enc te x)
  have hl8 : l8.length = l.length := by simp [l8]
  have h8 : ∀ (j : Nat) (x : UInt8), l8[j]? = some x → cur[j]? = some (Value.int .u8 x.toNat) := fun j x hx => by
    simp only [l8, List.getElem?_map] at hx
    cases hj : l[j]? with
    | none => rw [hj] at hx; cases hx
    | some z =>
      rw [hj] at hx
      simp only [Option.map_some, Option.some.injEq] at hx
      obtain ⟨n, q1, q2, q3, q4⟩ := hbytes j z hj
      rw [q1] at hx
      subst hx
      rw [q4]
      have : ((byteC [Cv.sc (T := G.T) (Value.int .u8 n)]).toNat : Int) = n := by
        simp only [byteC, UInt8.toNat_ofNat']
        omega
      rw [this]
  refine (hc b w a0 g0 cap cur l8 (fun e => hll (by rw [← hl8, e]; rfl)) (by rw [hl8]; exact e4) k2 (by rw [hl8]; omega) (by rw [hl8]; exact k3) (by rw [hl8]; unfold maxLen at k4; omega) h8).mono ?_
  rintro e w' ⟨rfl, rfl⟩
  obtain ⟨z1, z2, z3, _, z5⟩ := e7 g0 rfl
  have z2' : mo g0 := z2.resolve_right (by omega)
  have hsame : ∀ k, k ≠ g0 → (w.drew.freeze ⟨g0, 0, none⟩ l8.length).heap[k]? = w.heap[k]? := fun k hk => by
    unfold World.freeze
    rw [if_neg (by omega)]
    simp only [World.drew]
    rw [Array.getElem?_modify, if_neg (Ne.symm hk)]
  have hrow : ∃ fz, (w.drew.freeze ⟨g0, 0, none⟩ l8.length).heap[g0]? = some (.cells cur te fz) := by
    unfold World.freeze
    rw [if_neg (by omega)]
    simp only [World.drew]
    rw [Array.getElem?_modify, if_pos rfl, k2]
    exact ⟨_, rfl⟩
  obtain ⟨fz, hrow⟩ := hrow
  have hkeep : ∀ q, S q → (w.drew.freeze ⟨g0, 0, none⟩ l8.length).heap[q]? = w.heap[q]? := fun q hq => hsame q fun e => z1 (e ▸ hq)
  have hsize : (w.drew.freeze ⟨g0, 0, none⟩ l8.length).heap.size = w.heap.size := by
    unfold World.freeze
    rw [if_neg (by omega)]
    exact Array.size_modify
  have henv : (w.drew.freeze ⟨g0, 0, none⟩ l8.length).os = w.os ∧ (w.drew.freeze ⟨g0, 0, none⟩ l8.length).tape = w.tape ∧ (w.drew.freeze ⟨g0, 0, none⟩ l8.length).output = w.output := by
    unfold World.freeze
    rw [if_neg (by omega)]
    exact ⟨rfl, rfl, rfl⟩
  rw [hhp]
  generalize w.drew.freeze ⟨g0, 0, none⟩ l8.length = w' at hsame hrow hkeep hsize henv
  have one : ∀ q, get [(65536, (Blk.cells [.np 65536 tb, .ro te l] : Blk G.T))] q ≠ none → q = 65536 := fun q hq => by
    simp only [get, n2'] at hq
    by_cases z : 65536 = q
    · exact z.symm
    · rw [if_neg z] at hq; exact absurd rfl hq
  refine ⟨_, ν, fun k => S k ∨ k = g0, rfl, .p _ _ (.one _ _ (Rd.sc _ rfl)), ⟨fun q k hk => ?_, fun q1 q2 x y c ha hb hx hy hcx hcy => by rw [one q1 ha, one q2 hb], fun q x c hq hx hcx => ?_, fun q hq => ?_, hheap.gl.mono (fun _ h => .inl h) hkeep⟩, fun _ h => .inl h, fun q hq => ?_, fun q y hlo hy => hy, by omega, fun q hq hmo => hsame q (fun e => hmo (e ▸ z2')), henv⟩
  · obtain rfl := one q (by rw [hk]; simp)
    have hk' : some (Blk.cells [.np 65536 tb, .ro te l] : Blk G.T) = some k := hk
    cases hk'
    refine ⟨b, _, tb, e1, (hsame b (Ne.symm z5)).trans e4, .cons (e3.imp (fun h => h) fun h => ⟨b, e1, h⟩) (.cons ?_ .nil), fun m t hm => ?_⟩
    · refine Rd.ro te l g0 0 cap cur te fz (fun i j => cur.getD (i * G.sz te + j) undef) (.inr rfl) hrow k3 (fun i j hi hj => ?_) fun i j x cv hx hcv => ?_
      · have : i < cur.size := by omega
        rw [hsz] at hj ⊢
        rw [show 0 + i * 1 + j = i by omega, show i * 1 + j = i by omega]
        simp [Array.getD_eq_getD_getElem?, this]
      · obtain ⟨n, q1, q2, q3, q4⟩ := hbytes i x hx
        rw [q1] at hcv
        obtain ⟨rfl, rfl⟩ : j = 0 ∧ cv = .sc (.int .u8 n) := by
          cases j with
          | zero => simp at hcv; exact ⟨rfl, hcv.symm⟩
          | succ j => simp at hcv
        rw [hsz, Nat.mul_one, Nat.add_zero]
        rw [Array.getD_eq_getD_getElem?, q4]
        exact .sc _ rfl
    · simp at hm
      exact ⟨hm.1, hm.2.symm⟩
  · obtain rfl := one q hq
    rw [e1] at hx; cases hx
    simp [blkOf] at hcx
    subst hcx
    exact ⟨fun h => h.elim e8 (fun e => z5 e.symm), .inl e9'⟩
  · rcases hq with h | rfl
    · rw [hsize]; exact hheap.stay q h
    · rw [hsize]; exact z3
  · rcases hq with h | rfl
    · exact .inl h
    · exact .inr (.inl z2')
end
end Go.Ab
namespace Go.Ab
open Go.Lib Go.RowKit
theorem nm7' {α : Type} (a b c : List α) (d : Nat) (h : d = a.length + b.length) : (a ++ b ++ c).take d = a ++ b := by
  subst h
  rw [← List.length_append, List.take_left']
  rfl
theorem lst1 {α : Type} (cur vs D R : List α) (p : Nat) (h : p + vs.length ≤ cur.length) : ((cur.take (p + vs.length) ++ D ++ R).take p ++ vs ++ (cur.take (p + vs.length) ++ D ++ R).drop (p + vs.length)) = cur.take p ++ vs ++ (D ++ R) := by
  have hl : (cur.take (p + vs.length)).length = p + vs.length := by rw [List.length_take]; omega
  rw [List.append_assoc (cur.take (p + vs.length)), List.take_append_of_le_length (by omega), List.take_take, Nat.min_eq_left (by omega), List.drop_left' hl]
theorem lst2 {α : Type} (a Z vs D R : List α) (p : Nat) (h : a.length = p) : ((((a ++ Z).take p ++ vs ++ (a ++ Z).drop (p + vs.length)).take (p + vs.length)) ++ D ++ R) = a ++ vs ++ D ++ R := by
  rw [List.take_left' h, List.take_left' (by rw [List.length_append, h])]
theorem nk9' {P : Program} {ops : Array Oper} {o : Oper} {a : Act} {w : World} {K : Act → World → Prop} {Q : Exit → Act → World → Prop} {E : Prop}
    (hg : o.guard = none) (d x : Operand) (dT sT : TypeId) (hop : o.op = Op.call { callee := Callee.builtin Builtin.append, args := #[d, x], argTypes := #[dT, sT] })
    (v u : Value) (hd : a.eval d = v) (hx : a.eval x = u) {v' : Value} {w' : World} (hr : (Builtin.append_ #[dT, sT] o.type #[v, u]).run P w = .ok v' w') (hK : K (a.put o.dst v') w') :
    if Region.wanted o (yielded ops a.tmps) = true then Oper.wp P o a w K Q else E := by
  have hw : Region.wanted o (yielded ops a.tmps) = true := by simp [Region.wanted, hg]
  rw [if_pos hw]
  unfold Oper.wp
  simp [execOp, hop, resolve, invoke, builtin, hd, hx, hr, Result.andThen]
  exact hK
theorem n0w' {P : Program} (w : World) (t e ty : TypeId) (z : Value) (ht : P.underlying t = some (.slice e)) (hv : ∀ w, (zeroValue e).run P w = .ok z w) (g o n c : Nat) (hn : 0 < n) (cur : Array Value) (te : TypeId) (zs : List Value)
    (hzs : zs = (Builtin.zeroCells z.cells n).toList) (hg : w.heap[g]? = some (.cells cur te (0, 0))) (hfit : o + zs.length ≤ cur.size) (h1 : ∀ u ∈ zs, u.oneCell' = true) :
    (Builtin.clear_ #[t] ty #[.slice (some ⟨g, o, none⟩) n c]).run P w = .ok (.tuple #[]) (w.setRow g (cur.toList.take o ++ zs ++ cur.toList.drop (o + zs.length)).toArray) := by
  have hst := run_storeCells_at P g o te zs 0 cur w hg (by simpa using hfit) h1
  simp only [Nat.add_zero] at hst
  obtain ⟨n, rfl⟩ : ∃ k, n = k + 1 := ⟨n - 1, by omega⟩
  rw [hzs] at hst
  simp [Builtin.clear_, run_underlying ht, hv, hst, hzs]
theorem nuq' (zc : Array Value) (h : zc.all Value.oneCell' = true) (hpos : 0 < zc.size) (n : Nat) : ∀ u ∈ (Builtin.zeroCells zc n).toList, u.oneCell' = true := by
  intro u hu
  simp only [Builtin.zeroCells, Array.toList_map, List.mem_map] at hu
  obtain ⟨q, _, rfl⟩ := hu
  have hq : q % zc.size < zc.size := Nat.mod_lt _ hpos
  rw [getElem!_pos zc _ hq]
  rw [Array.all_eq_true] at h
  exact h _ hq
end Go.Ab
namespace Go.Ab
open Go.RowKit
variable {G : Sig}
def GlAt (G : Sig) (n : Nat) (w : World) : Prop := ∃ S : Nat → Prop, GlOK G S w.heap ∧ ∀ b, S b → b < n
theorem GlAt.below {n : Nat} {w w' : World} (h : GlAt G n w) (hb : Below n w w') : GlAt G n w' := by
  obtain ⟨S, h1, h2⟩ := h
  exact ⟨S, h1.mono (fun _ h => h) fun b hs => hb.block b (h2 b hs), h2⟩
theorem GlAt.le {n m : Nat} {w : World} (h : GlAt G n w) (hm : n ≤ m) : GlAt G m w := by
  obtain ⟨S, h1, h2⟩ := h
  exact ⟨S, h1, fun b hs => Nat.lt_of_lt_of_le (h2 b hs) hm⟩
def boolE (r : Nat) : List (Ex × Spec) := [(.ret, ⟨[(r, .one .bool)], [], []⟩)]
theorem nze' {I : Spec} (hI : I.hp = []) {r : Nat} {y : (Bool × Unit) × Unit} {p : Ex × St G} {s : Sv G.T} {bl : List (List (Cv G.T))} (hp : caseE (boolE r) y some = some p) (ho : outsP I [.tmp r] p = some (s, bl)) :
    p.2.hp = [] ∧ s = .p (.one (.sc (.bool y.1.1))) ∧ bl = [] := by
  have hp' : p = (.ret, Spec.mk' ⟨[(r, .one .bool)], [], []⟩ y) := (Option.some.inj hp).symm
  subst hp'
  unfold outsP at ho
  rw [hI] at ho
  have hg : get [(r, (Sv.p (.one (.sc (.bool y.1.1))) : Sv G.T))] r = some (.p (.one (.sc (.bool y.1.1)))) := by simp [get]
  have hres : resS (Spec.mk' ⟨[(r, .one .bool)], [], []⟩ y : St G) [.tmp r] = some (.p (.one (.sc (.bool y.1.1)))) := by
    unfold resS
    have : ndh' (Spec.mk' ⟨[(r, .one .bool)], [], []⟩ y : St G) [.tmp r] = some [.one (.sc (.bool y.1.1))] := by
      simp only [ndh', resOf, Spec.mk', ne4', PSh.give, CSh.give, hg]
    rw [this]
  simp only [hres, keysH, nll', mapO, Option.some.injEq, Prod.mk.injEq] at ho
  exact ⟨rfl, ho.1.symm, ho.2.symm⟩
def edgeB (x y : Int) : Bool := bif x == 0 then y == 1 else bif x == 1 then (y == 0 || y == 2) else bif x == 2 then (y == 0 || y == 3) else bif x == 3 then (y == 2 || y == 4) else bif x == 4 then y == 2 else false
def twoI : Spec := ⟨[(0, .one (.int .i64)), (1, .one (.int .i64))], [], []⟩
def twoF (f : Int → Int → Bool) (x y : Int) : Option ((Bool × Unit) × Unit) := some ((f x y, ()), ())
def twoFe (G : Sig) (r : Nat) (f : Int → Int → Bool) : Fe G := ⟨twoI, boolE r, fun x => twoF f x.1.1 x.1.2.1, [.tmp r]⟩
theorem twoOK {P : Program} {g r : Nat} {f : Int → Int → Bool} (hent : Entr P g)
    (hc : ∀ (w : World) (x y : Int), Calls P g #[.int .i64 x, .int .i64 y] w fun e w' => e = .returned (.bool (f x y)) ∧ Below w.heap.size w w') : FnOK P G g (twoFe G r f) := by
  refine ⟨hent, fun x y p s bl hy hp ho ν S mo w vals hheap _ hvl hslot => ?_⟩
  obtain ⟨⟨(a : Int), (c : Int), _⟩, _⟩ := x
  obtain ⟨h3, rfl, rfl⟩ := nze' (I := twoI) rfl hp ho
  have hy' : y = ((f a c, ()), ()) := (Option.some.inj hy).symm
  subst hy'
  have s0 := hslot 0 (.p (.one (.sc (.int .i64 a)))) rfl
  have s1 := hslot 1 (.p (.one (.sc (.int .i64 c)))) rfl
  have hvals : ∃ a b, vals = [a, b] := by
    match vals, hvl with
    | [a, b], _ => exact ⟨a, b, rfl⟩
  obtain ⟨v0, v1, rfl⟩ := hvals
  have e0 : v0 = .int .i64 a := by cases s0 with | p _ _ hc => cases hc with | one _ _ hc => cases (show Rd G S w.heap (.sc (.int .i64 a)) v0 from hc); rfl
  have e1 : v1 = .int .i64 c := by cases s1 with | p _ _ hc => cases hc with | one _ _ hc => cases (show Rd G S w.heap (.sc (.int .i64 c)) v1 from hc); rfl
  subst e0 e1
  refine (hc w a c).mono ?_
  rintro e w' ⟨rfl, hb⟩
  refine ⟨_, fun n => if lo ≤ n then ν n else none, S, rfl, .p _ _ (.one _ _ (.sc _ rfl)), ⟨fun n k hk => ?_, fun n m x y b hn => ?_, fun n x b hn => ?_, fun b hS => Nat.lt_of_lt_of_le (hheap.stay b hS) hb.size, hheap.gl.mono (fun _ h => h) fun b hS => hb.block b (hheap.stay b hS)⟩,
    fun _ h => h, fun _ h => .inl h, fun n y hlo hy => by simp only; rw [if_pos hlo]; exact hy, hb.size, fun b hlt _ => hb.block b hlt, ⟨hb.os, hb.tape, hb.output⟩⟩
  · rw [h3] at hk; simp [get] at hk
  · rw [h3] at hn; simp [get] at hn
  · rw [h3] at hn; simp [get] at hn
def hasI : Spec := ⟨[(0, .agg [.int .u32, .int .u32]), (1, .one (.int .i64)), (2, .one (.int .i64))], [], []⟩
def hasFe (G : Sig) (r : Nat) (h : Int → Int → Int → Int → Option ((Bool × Unit) × Unit)) : Fe G := ⟨hasI, boolE r, fun x => h x.1.1.1 x.1.1.2.1 x.1.2.1 x.1.2.2.1, [.tmp r]⟩
theorem n5d' {P : Program} {g r : Nat} {h : Int → Int → Int → Int → Option ((Bool × Unit) × Unit)} (hf : FnOK P G g (hasFe G r h)) {u d f k : Int} {b : Bool} (hh : h u d f k = some ((b, ()), ())) {n : Nat} {w : World} (hgl : GlAt G n w) (hn : n ≤ w.heap.size) :
    Calls P g #[.agg #[.int .u32 u, .int .u32 d], .int .i64 f, .int .i64 k] w fun e w' => e = .returned (.bool b) ∧ Below w.heap.size w w' := by
  obtain ⟨S, hg, hS⟩ := hgl
  have hout : outsP (G := G) hasI [.tmp r] (.ret, Spec.mk' ⟨[(r, .one .bool)], [], []⟩ ((b, ()), ())) = some (.p (.one (.sc (.bool b))), []) := by
    have hg : get [(r, (Sv.p (.one (.sc (.bool b))) : Sv G.T))] r = some (.p (.one (.sc (.bool b)))) := by simp [get]
    have hres : resS (Spec.mk' ⟨[(r, .one .bool)], [], []⟩ ((b, ()), ()) : St G) [.tmp r] = some (.p (.one (.sc (.bool b)))) := by
      unfold resS
      have : ndh' (Spec.mk' ⟨[(r, .one .bool)], [], []⟩ ((b, ()), ()) : St G) [.tmp r] = some [.one (.sc (.bool b))] := by
        simp only [ndh', resOf, Spec.mk', ne4', PSh.give, CSh.give, hg]
      rw [this]
    simp only [outsP, hres, keysH, hasI, nll', mapO]
  have := hf.2 ((((u, (d, ())), (f, (k, ()))), ()) : hasI.T G) ((b, ()), ()) (.ret, Spec.mk' ⟨[(r, .one .bool)], [], []⟩ ((b, ()), ())) (.p (.one (.sc (.bool b)))) [] hh rfl hout
    (fun _ => none) S (fun _ => False) w [.agg #[.int .u32 u, .int .u32 d], .int .i64 f, .int .i64 k]
    ⟨fun n k hk => by simp [hasFe, hasI, Spec.mk', get, ndv', blkTm, blkHp, PSh.blk, blkL, CSh.blk] at hk, fun n m x y b _ _ h1 => by simp at h1, fun n x b _ h1 => by simp at h1, fun b hb => Nat.lt_of_lt_of_le (hS b hb) hn, hg⟩
    (fun n h => by simp at h) rfl (fun k' v hk => ?_)
  · refine this.mono ?_
    rintro e w' ⟨v, ν', S', rfl, hv, _, _, _, _, h1, h2, h3⟩
    have e0 : v = .bool b := by cases hv with | p _ _ hc => cases hc with | one _ _ hc => cases (show Rd G S' w'.heap (.sc (.bool b)) v from hc); rfl
    subst e0
    exact ⟨rfl, h3.1, h3.2.1, h3.2.2, h1, fun k hk => h2 k hk (fun h => h)⟩
  · simp only [hasFe, hasI, Spec.mk', ne4', PSh.give, CSh.give, giveL, get, n2'] at hk
    split at hk
    · rename_i e; subst e; cases hk
      exact .p _ _ (.agg _ [.int .u32 u, .int .u32 d] (.cons (.sc _ rfl) (.cons (.sc _ rfl) .nil)))
    · split at hk
      · rename_i e; subst e; cases hk; exact .p _ _ (.one _ _ (.sc _ rfl))
      · split at hk
        · rename_i e; subst e; cases hk; exact .p _ _ (.one _ _ (.sc _ rfl))
        · cases hk
def pairs64 : List (Int × Int) := (List.range 32).flatMap fun (f : Nat) => [((f : Int), 1), ((f : Int), 2)]
def collO {α : Type} (h : Int → Int → Option ((Bool × Unit) × Unit)) (mk : Int → Int → α) : List (Int × Int) → Option (List α)
  | [] => some []
  | p :: r => match h p.1 p.2 with
    | some y => match collO h mk r with
      | some l => some (bif y.1.1 then mk p.1 p.2 :: l else l)
      | none => none
    | none => none
def lstF {α : Type} (h : Int → Int → Option ((Bool × Unit) × Unit)) (mk : Int → Int → α) : Option ((List α × Unit) × Unit) := match collO h mk pairs64 with
  | some l => some ((l, ()), ())
  | none => none
def yesO (h : Int → Int → Option ((Bool × Unit) × Unit)) (f d : Int) : Bool := match h f d with
  | some y => y.1.1
  | none => false
theorem nrl' {α : Type} {h : Int → Int → Option ((Bool × Unit) × Unit)} {mk : Int → Int → α} : ∀ {ps : List (Int × Int)} {l : List α}, collO h mk ps = some l →
    (∀ p ∈ ps, h p.1 p.2 = some ((yesO h p.1 p.2, ()), ())) ∧ l = (ps.filter fun p => yesO h p.1 p.2).map fun p => mk p.1 p.2
  | [], l, he => by cases he; exact ⟨fun _ h => absurd h (List.not_mem_nil), rfl⟩
  | p :: r, l, he => by
    simp only [collO] at he
    split at he
    · rename_i y hy
      split at he
      · rename_i l' hl'
        cases he
        obtain ⟨h1, h2⟩ := nrl' hl'
        have hyes : yesO h p.1 p.2 = y.1.1 := by simp [yesO, hy]
        refine ⟨List.forall_mem_cons.2 ⟨by rw [hyes, hy], h1⟩, ?_⟩
        rw [List.filter_cons, hyes, h2]
        cases y.1.1 <;> rfl
      · cases he
    · cases he
def entV (p : Int × Int) : List Value := [.int .i64 p.1, .int .i64 p.2, .int .i64 (-1), .int .i64 0, .bool false]
def lstI : Spec := ⟨[(0, .agg [.int .u32, .int .u32])], [], []⟩
def lstFe (G : Sig) (r t : Nat) (h : Int → Int → Int → Int → Option ((Bool × Unit) × Unit)) (mk : Int → Int → G.T t) : Fe G := ⟨lstI, rowE r t, fun x => (lstF (h x.1.1.1 x.1.1.2.1) mk : Option ((List (G.T t) × Unit) × Unit)), [.tmp r]⟩
section
variable {P : Program} (ok : SigOK P G) {g r t : Nat} (hent : Entr P g) {h : Int → Int → Int → Int → Option ((Bool × Unit) × Unit)} {mk : Int → Int → G.T t}
  (hsz : G.sz t = 5) (hmk : ∀ f d, G.enc t (mk f d) = [.sc (.int .i64 f), .sc (.int .i64 d), .sc (.int .i64 (-1)), .sc (.int .i64 0), .sc (.bool false)])
theorem n5h' (ps : List (Int × Int)) : (ps.flatMap entV).length = ps.length * 5 := by
  induction ps with
  | nil => rfl
  | cons p r ih => rw [List.flatMap_cons, List.length_append, ih, List.length_cons]; simp [entV]; omega
include ok hsz hmk
theorem n17' (S : Nat → Prop) (hp : Array Obj) (ps : List (Int × Int)) : ERel G S hp t (ps.map fun p => mk p.1 p.2) (ps.flatMap entV) := by
  induction ps with
  | nil => exact ERel.nil
  | cons p r ih =>
    have h1 : ERel G S hp t [mk p.1 p.2] (entV p) := by
      refine ⟨by rw [hsz]; rfl, fun u hu => by simp [entV] at hu; rcases hu with rfl | rfl | rfl | rfl | rfl <;> rfl, fun i j x cv hx hc => ?_⟩
      have hi : i = 0 := by have := (List.getElem?_eq_some_iff.1 hx).1; simp at this; exact this
      subst hi
      simp at hx; subst hx
      rw [hmk] at hc
      rw [Nat.zero_mul, Nat.zero_add]
      match j, hc with
      | 0, hc => simp at hc; subst hc; exact ⟨_, rfl, .sc _ rfl⟩
      | 1, hc => simp at hc; subst hc; exact ⟨_, rfl, .sc _ rfl⟩
      | 2, hc => simp at hc; subst hc; exact ⟨_, rfl, .sc _ rfl⟩
      | 3, hc => simp at hc; subst hc; exact ⟨_, rfl, .sc _ rfl⟩
      | 4, hc => simp at hc; subst hc; exact ⟨_, rfl, .sc _ rfl⟩
      | n + 5, hc => simp at hc
    exact ERel.append ok h1 ih
include hent
theorem n5p' (hc : ∀ (w : World) (u d : Int) (hb : Int → Int → Bool), (∀ p ∈ pairs64, h u d p.1 p.2 = some ((hb p.1 p.2, ()), ())) → GlAt G w.heap.size w →
      Calls P g #[.agg #[.int .u32 u, .int .u32 d]] w fun e w' => ∃ v', e = .returned v' ∧ w'.ownsRow w.heap.size t 5 v' (pairs64.filter fun p => hb p.1 p.2).length ((pairs64.filter fun p => hb p.1 p.2).flatMap entV) ∧ Below w.heap.size w w') : FnOK P G g (lstFe G r t h mk) := by
  refine ⟨hent, fun x y p s bl hy hp ho ν S mo w vals hheap _ hvl hslot => ?_⟩
  obtain ⟨⟨⟨(u : Int), (d : Int), _⟩, _⟩, _⟩ := x
  obtain ⟨h3, rfl, rfl⟩ := nnm' (I := lstI) rfl hp ho
  have hy' : lstF (h u d) mk = some y := hy
  unfold lstF at hy'
  split at hy'
  · rename_i l hl
    cases hy'
    obtain ⟨q1, q2⟩ := nrl' hl
    have s0 := hslot 0 (.p (.agg [.sc (.int .u32 u), .sc (.int .u32 d)])) rfl
    have hvals : ∃ a, vals = [a] := by
      match vals, hvl with
      | [a], _ => exact ⟨a, rfl⟩
    obtain ⟨v0, rfl⟩ := hvals
    have e0 : v0 = .agg #[.int .u32 u, .int .u32 d] := by
      cases s0 with | p _ _ hc => cases hc with | agg _ vs hc =>
        obtain ⟨a, t1, rfl, ha, hc⟩ := hc.inv
        obtain ⟨b, t2, rfl, hb, hc⟩ := hc.inv
        obtain rfl := hc.inv_nil
        cases (show Rd G S w.heap (.sc (.int .u32 u)) a from ha)
        cases (show Rd G S w.heap (.sc (.int .u32 d)) b from hb)
        rfl
    subst e0
    refine (hc w u d (yesO (h u d)) q1 ⟨S, hheap.gl, hheap.stay⟩).mono ?_
    rintro e w' ⟨v', rfl, hown, hbel⟩
    have hE : ERel G S w.heap t l ((pairs64.filter fun p => yesO (h u d) p.1 p.2).flatMap entV) := by rw [q2]; exact n17' ok hsz hmk S w.heap _
    have hout : RowOut w w' t (G.sz t) (.slice none 0 0) v' (pairs64.filter fun p => yesO (h u d) p.1 p.2).length ((pairs64.filter fun p => yesO (h u d) p.1 p.2).flatMap entV) := by
      rw [hsz]
      refine ⟨?_, fun b hb => .inr ?_, ⟨hbel.os, hbel.tape, hbel.output, hbel.size, fun k hk _ => hbel.block k hk⟩⟩
      · obtain ⟨q1, q2 | ⟨b, c2, cur, q2, _, q4⟩⟩ := hown
        · exact ⟨q1, .inl q2⟩
        · exact ⟨q1, .inr ⟨b, c2, cur, q2, Nat.zero_le _, q4⟩⟩
      · obtain ⟨_, q2 | ⟨b', c2, cur, q2, q3, _⟩⟩ := hown
        · rw [q2.1] at hb; simp [Value.ownBlock] at hb
        · rw [q2] at hb
          simp [Value.ownBlock] at hb
          omega
    have := njn' ok hheap (m := 32768) (l := l) hout (fun b hb => by simp [Value.ownBlock] at hb) hE (by rw [q2]; simp) (by decide)
    rw [h3]
    exact ⟨v', nuOut ν 32768 v', S, rfl, this⟩
  · cases hy'
end
end Go.Ab
namespace Go.Ab
open Go.RowKit
theorem n3v' {P : Program} {mty kt et : TypeId} (hm : P.underlying mty = some (.map kt et)) (hk : P.underlying kt = some (.int .i64)) (w : World) {r clock : Nat} {es : Array MapEntry} (key : Int) (val : Value) (hb : w.heap[r]? = some (.map es clock))
    (hf : Instr.findNow (.int .i64) (.int .i64 key) es.toList 0 = some none) :
    (Instr.mapUpdate mty (.map (some r)) (.int .i64 key) val).run P w = .ok () { w with heap := w.heap.setIfInBounds r (.map (es.push { key := .int .i64 key, val := val, born := clock }) (clock + 1)) } := by
  have hc : (Instr.checkKey false 10000 kt (.int .i64 key)).run P w = .ok () w := MapKept.run_checkKey (k := .int .i64 key) hk (by simp [MapKept.IsKey]) false 9999
  simp [Instr.mapUpdate, run_underlying hm, MapKept.run_getObj_map hb, hc, MapKept.run_findKey hk hf, MapKept.run_setObj_map _ hb, Result.andThen]
def orZ (z : Value) : Option (Nat × Value) → Value
  | some p => p.2
  | none => z
theorem n12' {P : Program} {mty kt et : TypeId} (hm : P.underlying mty = some (.map kt et)) (hk : P.underlying kt = some (.int .i64)) {z : Value} (w : World) (hz : (zeroValue et).run P w = .ok z w) {r clock : Nat} {es : Array MapEntry} (key : Int) (hb : w.heap[r]? = some (.map es clock))
    {a : Option (Nat × Value)} (hf : Instr.findNow (.int .i64) (.int .i64 key) es.toList 0 = some a) :
    (Instr.lookup mty (.map (some r)) (.int .i64 key) false).run P w = .ok (orZ z a) w := by
  have hc : ∀ e, (Instr.checkKey e 10000 kt (.int .i64 key)).run P w = .ok () w := fun e => MapKept.run_checkKey (k := .int .i64 key) hk (by simp [MapKept.IsKey]) e 9999
  cases a <;> simp [orZ, Instr.lookup, run_underlying hm, MapKept.run_getObj_map hb, hc, MapKept.run_findKey hk hf, hz, Result.andThen]
structure Pr where
  key : Int
  block : Nat
  cells : Array Value
def Pr.val (p : Pr) : Value := .slice (some ⟨p.block, 0, none⟩) p.cells.size p.cells.size
def lookP (x : Int) : List Pr → Nat → Option (Nat × Value)
  | [], _ => none
  | p :: L, i => bif x == p.key then some (i, p.val) else lookP x L (i + 1)
theorem nnb' (x : Int) : ∀ (es : List MapEntry) (L : List Pr) (i : Nat), es.map (fun e => (e.key, e.val)) = L.map (fun p => (Value.int .i64 p.key, p.val)) → Instr.findNow (.int .i64) (.int .i64 x) es i = some (lookP x L i)
  | [], [], _, _ => rfl
  | [], _ :: _, _, h => by simp at h
  | _ :: _, [], _, h => by simp at h
  | e :: es, p :: L, i, h => by
    simp only [List.map_cons, List.cons.injEq, Prod.mk.injEq] at h
    obtain ⟨⟨h1, h2⟩, h3⟩ := h
    unfold Instr.findNow lookP
    rw [h1, h2]
    simp only [Instr.sameNow, if_true]
    cases x == p.key with
    | true => rfl
    | false => exact nnb' x es L (i + 1) h3
structure EM (t : TypeId) (w0 W : World) (L : List Pr) : Prop where
  map : ∃ es clock, W.heap[w0.heap.size]? = some (.map es clock) ∧ es.toList.map (fun e => (e.key, e.val)) = L.map (fun p => (Value.int .i64 p.key, p.val))
  rows : ∀ p ∈ L, W.heap[p.block]? = some (.cells p.cells t (0, 0))
  below : Below w0.heap.size w0 W
  size : w0.heap.size < W.heap.size
theorem EM.made (t : TypeId) (w : World) : EM t w (w.alloc (.map #[] 0)) [] :=
  ⟨⟨#[], 0, (MapKept.heap_alloc w _).1, rfl⟩, (fun p hp => by simp at hp), (Below.refl _ w).alloc (Nat.le_refl _) _, by simp⟩
theorem EM.ins {P : Program} {mty kt et t : TypeId} (hm : P.underlying mty = some (.map kt et)) (hk : P.underlying kt = some (.int .i64)) {w0 W : World} {L : List Pr} (h : EM t w0 W L) (k : Int) (cs : Array Value) (hn : lookP k L 0 = none) :
    ∃ W', (Instr.mapUpdate mty (.map (some w0.heap.size)) (.int .i64 k) (.slice (some ⟨W.heap.size, 0, none⟩) cs.size cs.size)).run P (W.alloc (.cells cs t)) = .ok () W' ∧ EM t w0 W' (L ++ [⟨k, W.heap.size, cs⟩]) := by
  obtain ⟨⟨es, clock, hb, he⟩, hr, hB, hs⟩ := h
  have ha := MapKept.heap_alloc W (.cells cs t)
  have hb' : (W.alloc (.cells cs t)).heap[w0.heap.size]? = some (.map es clock) := (ha.2 _ hs).trans hb
  have hf := nnb' k es.toList L 0 he
  rw [hn] at hf
  have hset := MapKept.heap_set (o' := .map (es.push { key := .int .i64 k, val := .slice (some ⟨W.heap.size, 0, none⟩) cs.size cs.size, born := clock }) (clock + 1)) hb'
  refine ⟨_, n3v' hm hk _ k _ hb' hf, ⟨_, _, hset.1, ?_⟩, ?_, ?_, ?_⟩
  · rw [Array.toList_push, List.map_append, List.map_append, he]; rfl
  · intro p hp
    rw [List.mem_append] at hp
    have hlt : ∀ {q : Nat} {o : Obj}, W.heap[q]? = some o → q < W.heap.size := fun h => (Array.getElem?_eq_some_iff.1 h).1
    rcases hp with hp | hp
    · have h1 := hr p hp
      have hne : p.block ≠ w0.heap.size := fun e => by rw [e, hb] at h1; cases h1
      rw [hset.2 _ hne]
      exact (ha.2 _ (hlt h1)).trans h1
    · simp only [List.mem_singleton] at hp
      subst hp
      show (_ : Array Obj)[W.heap.size]? = _
      rw [hset.2 _ (by omega)]
      exact ha.1
  · refine hB.trans ⟨rfl, rfl, rfl, by simp, fun q hq => ?_⟩
    rw [hset.2 _ (by omega)]
    exact ha.2 _ (by omega)
  · simp; omega
theorem EM.look {P : Program} {mty kt et t : TypeId} (hm : P.underlying mty = some (.map kt et)) (hk : P.underlying kt = some (.int .i64)) {z : Value} {w0 W : World} (hz : (zeroValue et).run P W = .ok z W) {L : List Pr} (h : EM t w0 W L) (k : Int) :
    (Instr.lookup mty (.map (some w0.heap.size)) (.int .i64 k) false).run P W = .ok (orZ z (lookP k L 0)) W := by
  obtain ⟨⟨es, clock, hb, he⟩, _, _, _⟩ := h
  exact n12' hm hk W hz k hb (nnb' k es.toList L 0 he)
theorem EM.cell {t : TypeId} {w0 W : World} {L : List Pr} (h : EM t w0 W L) {p : Pr} (hp : p ∈ L) {i : Nat} {v : Value} (hv : p.cells[i]? = some v) : W.cell? ⟨p.block, i, none⟩ = some v := by
  simp [World.cell?, h.rows p hp, hv]
end Go.Ab
