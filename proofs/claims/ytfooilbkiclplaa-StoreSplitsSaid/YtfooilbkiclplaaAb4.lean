/- What the model does at loads, stores and new blocks, in the words of the relation. -/
import Derived.Test.YtfooilbkiclplaaAb3
namespace Go.Ab
variable {G : Sig}

/-! ### What is asked of the types' table -/
structure SigOK (P : Program) (G : Sig) : Prop where
  bool : ∀ t, G.ty t = .bool → P.underlying t = some .bool
  int : ∀ t k, G.ty t = .int k → P.underlying t = some (.int k)
  flt : ∀ t k, G.ty t = .flt k → P.underlying t = some (.float k)
  str : ∀ t, G.ty t = .str → P.underlying t = some .string
  sl : ∀ t e, G.ty t = .sl e → P.underlying t = some (.slice e) ∧ G.ty e ≠ .no ∧ (∃ i, P.info? e = some i ∧ i.bytes ≤ 4096) ∧ ∀ x, (G.enc e x).length = G.sz e
  pt : ∀ t e, G.ty t = .pt e → P.underlying t = some (.pointer e)
  fn : ∀ t, G.ty t = .fn → ∃ a b c, P.underlying t = some (.func a b c)
  strc : ∀ t fs, G.ty t = .st fs → ∃ fields, P.underlying t = some (.struct fields) ∧ fields.toList.map (fun f => (f.offset, f.type)) = fs ∧ ∀ o u, (o, u) ∈ fs → G.ty u ≠ .no
  arr : ∀ t n e, G.ty t = .arr n e → P.underlying t = some (.array n e) ∧ G.ty e ≠ .no
  info : ∀ t, G.ty t ≠ .no → ∃ i z, P.info? t = some i ∧ i.size = G.sz t ∧ i.zero = some z ∧ z.cells.toList = G.zero t
  pos : ∀ t, G.ty t ≠ .no → 0 < G.sz t
  nosz : ∀ t, G.ty t = .no → G.sz t = 0
  zsc : ∀ t v, v ∈ G.zero t → isSc v = true
  zlen : ∀ t, (G.zero t).length = G.sz t
  encl : ∀ t x, (G.enc t x).length ≤ G.sz t
  encdec : ∀ t cs x, G.dec t cs = some x → G.enc t x = cs
  encd : ∀ t x c, c ∈ G.enc t x → (∃ v, c = .sc v) ∨ (∃ t' l, c = .ro t' l)
  flatd : ∀ t x c, G.flat t = true → c ∈ G.enc t x → ∃ v, c = .sc v

section
variable {P : Program} (ok : SigOK P G) (w : World)
include ok
theorem SigOK.isAgg {t : Nat} (h : G.ty t ≠ .no) : (Go.isAgg t).run P w = .ok (G.ty t).isAgg w := by
  have key : ∀ d, P.underlying t = some d → (Go.isAgg t).run P w = .ok (match d with | .struct _ | .array _ _ => true | _ => false) w := by
    intro d hd
    unfold Go.isAgg
    rw [Sem.run_bind, run_underlying hd w]
    cases d <;> rfl
  cases ht : G.ty t with
  | no => exact absurd ht h
  | bool => rw [key _ (ok.bool t ht)]; rfl
  | int k => rw [key _ (ok.int t k ht)]; rfl
  | flt k => rw [key _ (ok.flt t k ht)]; rfl
  | str => rw [key _ (ok.str t ht)]; rfl
  | sl e => rw [key _ (ok.sl t e ht).1]; rfl
  | pt e => rw [key _ (ok.pt t e ht)]; rfl
  | fn => obtain ⟨a, b, c, hd⟩ := ok.fn t ht; rw [key _ hd]; rfl
  | st fs => obtain ⟨a, hd, _⟩ := ok.strc t fs ht; rw [key _ hd]; rfl
  | arr n e => rw [key _ (ok.arr t n e ht).1]; rfl
theorem SigOK.sizeOf {t : Nat} (h : G.ty t ≠ .no) : (Go.sizeOf t).run P w = .ok (G.sz t) w := by
  obtain ⟨i, z, h1, h2, _⟩ := ok.info t h
  simp [Go.sizeOf, typeInfo, h1, h2]
theorem SigOK.zeroV {t : Nat} (h : G.ty t ≠ .no) : ∃ z, (zeroValue t).run P w = .ok z w ∧ z.cells.toList = G.zero t := by
  obtain ⟨i, z, h1, h2, h3, h4⟩ := ok.info t h
  exact ⟨z, by simp [zeroValue, typeInfo, h1, h3], h4⟩
end

/-! ### Parts of lists -/
theorem takeN_spec {α : Type} : ∀ (n : Nat) (l m : List α), takeN n l = some m → m.length = n ∧ n ≤ l.length ∧ ∀ j, j < n → m[j]? = l[j]?
  | 0, l, m, h => by simp [takeN] at h; subst h; simp
  | n + 1, [], m, h => by simp [takeN] at h
  | n + 1, x :: t, m, h => by
    simp only [takeN] at h
    split at h
    · rename_i l hl
      obtain ⟨h1, h2, h3⟩ := takeN_spec n t l hl
      simp at h; subst h
      refine ⟨by simp [h1], by simp; omega, fun j hj => ?_⟩
      cases j with
      | zero => simp
      | succ j => simp; exact h3 j (by omega)
    · simp at h
theorem dropN_spec {α : Type} : ∀ (n : Nat) (l m : List α), dropN n l = some m → n + m.length = l.length ∧ ∀ j, m[j]? = l[n + j]?
  | 0, l, m, h => by simp [dropN] at h; subst h; simp
  | n + 1, [], m, h => by simp [dropN] at h
  | n + 1, x :: t, m, h => by
    simp only [dropN] at h
    obtain ⟨h1, h2⟩ := dropN_spec n t m h
    refine ⟨by simp; omega, fun j => ?_⟩
    rw [h2 j, show n + 1 + j = (n + j) + 1 by omega]
    simp
theorem part_spec {α : Type} {l m : List α} {off n : Nat} (h : part l off n = some m) : m.length = n ∧ off + n ≤ l.length ∧ ∀ j, j < n → m[j]? = l[off + j]? := by
  unfold part at h
  split at h
  · rename_i k hk
    obtain ⟨h1, h2⟩ := dropN_spec _ _ _ hk
    obtain ⟨h3, h4, h5⟩ := takeN_spec _ _ _ h
    exact ⟨h3, by omega, fun j hj => (h5 j hj).trans (h2 j)⟩
  · simp at h
theorem splice_spec {α : Type} : ∀ (l : List α) (off : Nat) (new m : List α), splice l off new = some m →
    m.length = l.length ∧ off + new.length ≤ l.length ∧ ∀ j, m[j]? = if off ≤ j ∧ j < off + new.length then new[j - off]? else l[j]?
  | cs, 0, [], m, h => by simp [splice] at h; subst h; refine ⟨rfl, by simp, fun j => ?_⟩; simp
  | [], 0, _ :: _, m, h => by simp [splice] at h
  | _ :: t, 0, x :: new, m, h => by
    simp only [splice] at h
    split at h
    · rename_i l hl
      obtain ⟨h1, h2, h3⟩ := splice_spec t 0 new l hl
      simp at h; subst h
      refine ⟨by simp [h1], by simp at h2 ⊢; omega, fun j => ?_⟩
      cases j with
      | zero => simp
      | succ j => simp only [List.getElem?_cons_succ]; rw [h3 j]; simp
    · simp at h
  | [], _ + 1, _, m, h => by simp [splice] at h
  | c :: t, n + 1, new, m, h => by
    simp only [splice] at h
    split at h
    · rename_i l hl
      obtain ⟨h1, h2, h3⟩ := splice_spec t n new l hl
      simp at h; subst h
      refine ⟨by simp [h1], by simp; omega, fun j => ?_⟩
      cases j with
      | zero => simp
      | succ j =>
        simp only [List.getElem?_cons_succ]
        rw [h3 j, show j + 1 - (n + 1) = j - n by omega]
        congr 1
        simp; omega
    · simp at h
theorem mapO_spec {α β : Type} {f : α → Option β} : ∀ (l : List α) (m : List β), mapO f l = some m → m.length = l.length ∧ ∀ (j : Nat) (x : α), l[j]? = some x → ∃ y, m[j]? = some y ∧ f x = some y
  | [], m, h => by simp [mapO] at h; subst h; simp
  | a :: t, m, h => by
    simp only [mapO] at h
    split at h
    · rename_i b l hb hl
      obtain ⟨h1, h2⟩ := mapO_spec t l hl
      simp at h; subst h
      refine ⟨by simp [h1], fun j x hj => ?_⟩
      cases j with
      | zero => simp at hj; subst hj; exact ⟨b, rfl, hb⟩
      | succ j => simp at hj; obtain ⟨y, hy, hf⟩ := h2 j x hj; exact ⟨y, by simp [hy], hf⟩
    · simp at h
theorem upTo_eq (n : Nat) : upTo n = List.range n := by
  induction n with
  | zero => rfl
  | succ n ih => rw [upTo, ih, List.range_succ]

/-! ### Choices -/
theorem eqIK_eq {a b : IntKind} (h : eqIK a b = true) : a = b := by cases a <;> cases b <;> simp_all [eqIK]
theorem eqFK_eq {a b : FloatKind} (h : eqFK a b = true) : a = b := by cases a <;> cases b <;> simp_all [eqFK]
theorem allInt_spec {T : Nat → Type} {k : IntKind} : ∀ (l : List (Cv T)) (ns : List Int), allInt k l = some ns → l = ns.map fun n => .sc (.int k n)
  | [], ns, h => by simp [allInt] at h; subst h; rfl
  | c :: t, ns, h => by
    cases c with
    | sc v =>
      cases v with
      | int k' n =>
        simp only [allInt] at h
        cases he : eqIK k k' with
        | false => simp [he] at h
        | true =>
          have e := eqIK_eq he; subst e
          simp only [he, cond_true] at h
          split at h
          · rename_i l hl; simp at h; subst h; rw [allInt_spec t l hl]; rfl
          · simp at h
      | _ => simp [allInt] at h
    | _ => simp [allInt] at h
theorem allBool_spec {T : Nat → Type} : ∀ (l : List (Cv T)) (ns : List Bool), allBool l = some ns → l = ns.map fun n => .sc (.bool n)
  | [], ns, h => by simp [allBool] at h; subst h; rfl
  | c :: t, ns, h => by
    cases c with
    | sc v =>
      cases v with
      | bool n =>
        simp only [allBool] at h
        split at h
        · rename_i l hl; simp at h; subst h; rw [allBool_spec t l hl]; rfl
        · simp at h
      | _ => simp [allBool] at h
    | _ => simp [allBool] at h
theorem allStr_spec {T : Nat → Type} : ∀ (l : List (Cv T)) (ns : List ByteArray), allStr l = some ns → l = ns.map fun n => .sc (.string n)
  | [], ns, h => by simp [allStr] at h; subst h; rfl
  | c :: t, ns, h => by
    cases c with
    | sc v =>
      cases v with
      | string n =>
        simp only [allStr] at h
        split at h
        · rename_i l hl; simp at h; subst h; rw [allStr_spec t l hl]; rfl
        · simp at h
      | _ => simp [allStr] at h
    | _ => simp [allStr] at h
theorem selCv_spec {T : Nat → Type} {l : List (Cv T)} {i : Nat} {c : Cv T} (h : selCv l i = some c) (hi : i < l.length) : l[i]? = some c := by
  unfold selCv at h
  split at h
  · split at h
    · rename_i ns hns
      have e := allInt_spec _ _ hns
      rw [e] at hi ⊢
      simp at h hi; subst h
      simp [hi]
    · simp at h
  · split at h
    · rename_i ns hns
      have e := allBool_spec _ _ hns
      rw [e] at hi ⊢
      simp at h hi; subst h
      simp [hi]
    · simp at h
  · split at h
    · rename_i ns hns
      have e := allStr_spec _ _ hns
      rw [e] at hi ⊢
      simp at h hi; subst h
      simp [hi]
    · simp at h
  · exact h
theorem iteCv_spec {T : Nat → Type} {b : Bool} {c d e : Cv T} (h : iteCv b c d = some e) : e = if b then c else d := by
  unfold iteCv at h
  split at h
  · rename_i k x k' y
    cases he : eqIK k k' with
    | false => simp [he] at h
    | true => have e := eqIK_eq he; subst e; simp [he] at h; subst h; cases b <;> rfl
  · simp at h; subst h; cases b <;> rfl
  · simp at h; subst h; cases b <;> rfl
  · cases b <;> simp at h <;> simp [h]

/-! ### Addresses -/
theorem add_mk (b off n : Nat) : (⟨b, off, none⟩ : Addr).add n = ⟨b, off + n, none⟩ := by
  unfold Addr.add; split <;> simp_all
theorem rc_data {ν : Nat → Option Value} {S : Nat → Prop} {h : Array Obj} {P : Program} (ok : SigOK P G) {t : Nat} {x : G.T t} {c : Cv G.T} {v : Value} (hc : c ∈ G.enc t x)
    (r : Rd G S h c v) : Rc G ν S h c v := by
  rcases ok.encd t x c hc with ⟨u, rfl⟩ | ⟨t', l, rfl⟩ <;> exact r
theorem rd_of_rc {ν : Nat → Option Value} {S : Nat → Prop} {h : Array Obj} {P : Program} (ok : SigOK P G) {t : Nat} {x : G.T t} {c : Cv G.T} {v : Value} (hc : c ∈ G.enc t x)
    (r : Rc G ν S h c v) : Rd G S h c v := by
  rcases ok.encd t x c hc with ⟨u, rfl⟩ | ⟨t', l, rfl⟩ <;> exact r

/-! ### A load -/
theorem look_sound {P : Program} (ok : SigOK P G) {ν : Nat → Option Value} {S B : Nat → Prop} {hp : Nat → Option (Blk G.T)} {w : World} (hr : HRel G ν S B hp w)
    {n : Nat} {c : Cv G.T} {cs : List (Cv G.T)} (h : look hp n c = some cs) {v : Value} (hv : Rc G ν S w.heap c v) :
    ∃ (b off : Nat) (vs : List Value), v = .pointer (some ⟨b, off, none⟩) ∧ F2 (Rc G ν S w.heap) cs vs ∧ vs.length = n ∧ ∀ (j : Nat) x, vs[j]? = some x → w.cell? ⟨b, off + j, none⟩ = some x := by
  cases c with
  | ptr m off =>
    simp only [look] at h
    split at h
    · rename_i ds hd
      obtain ⟨b, c, te, h1, h2, h3⟩ := hr.blk m _ hd
      obtain ⟨b', h4, rfl⟩ := hv
      simp only at h4
      rw [h1] at h4; simp at h4; subst h4
      obtain ⟨p1, p2, p3⟩ := part_spec h
      have hlen : ds.length = c.toList.length := h3.1
      refine ⟨b, off, (c.toList.drop off).take n, rfl, ⟨by simp at hlen ⊢; omega, fun j x y hx hy => ?_⟩, by simp at hlen ⊢; omega, fun j x hj => ?_⟩
      · have hjn : j < n := by have := (List.getElem?_eq_some_iff.1 hx).1; omega
        rw [p3 j hjn] at hx
        rw [List.getElem?_take_of_lt hjn, List.getElem?_drop] at hy
        exact h3.2 _ x y hx hy
      · have hjn : j < n := by have := (List.getElem?_eq_some_iff.1 hj).1; simp at this; omega
        rw [List.getElem?_take_of_lt hjn, List.getElem?_drop] at hj
        rw [cell_of_row w b (off + j) c te (0, 0) h2]
        simpa using hj
    · simp at h
  | pd m off s len i =>
    simp only [look] at h
    split at h
    · rename_i ds hd
      obtain ⟨b, c, te, h1, h2, h3⟩ := hr.blk m _ hd
      obtain ⟨hi, b', h4, rfl⟩ := hv
      simp only at h4
      rw [h1] at h4; simp at h4; subst h4
      simp only [upTo_eq] at h
      obtain ⟨m1, m2⟩ := mapO_spec _ _ h
      have hcell : ∀ j, j < n → ∃ x y, cs[j]? = some x ∧ c.toList[off + i * s + j]? = some y ∧ Rc G ν S w.heap x y := by
        intro j hj
        obtain ⟨x, hx, hf⟩ := m2 j j (by simp [hj])
        split at hf
        · rename_i l hl
          obtain ⟨l1, l2⟩ := mapO_spec _ _ hl
          have hil : i < l.length := by simp at l1; omega
          have hsel := selCv_spec hf hil
          obtain ⟨y, hy, hq⟩ := l2 i i (by simp [hi])
          rw [hsel] at hy; simp at hy; subst hy
          obtain ⟨z, hz, hrz⟩ := h3.get hq
          exact ⟨x, z, hx, hz, hrz⟩
        · simp at hf
      refine ⟨b, off + i * s, (List.range n).map (fun j => c.toList.getD (off + i * s + j) undef), rfl, ⟨by simp [m1], fun j x y hx hy => ?_⟩, by simp, fun j x hj => ?_⟩
      · have hjn : j < n := by have := (List.getElem?_eq_some_iff.1 hx).1; simp at m1; omega
        obtain ⟨x', y', e1, e2, e3⟩ := hcell j hjn
        rw [e1] at hx; simp at hx; subst hx
        simp [hjn] at hy
        simp at e2
        rw [e2] at hy; simp at hy; subst hy
        exact e3
      · have hjn : j < n := by have := (List.getElem?_eq_some_iff.1 hj).1; simpa using this
        obtain ⟨x', y', e1, e2, e3⟩ := hcell j hjn
        simp at e2
        simp [hjn, e2] at hj
        subst hj
        rw [cell_of_row w b (off + i * s + j) c te (0, 0) h2]
        exact e2
    · simp at h
  | pr m t i off =>
    simp only [look] at h
    split at h
    · rename_i t' l hd
      rw [beq_ite] at h
      by_cases ht : t = t'
      · subst ht
        rw [if_pos rfl] at h
        obtain ⟨b, len, cap, h4, hi, rfl⟩ := hv
        rcases hr.blk m _ hd with ⟨h1, h2⟩ | ⟨b', cap', c, te, h1, h2, h3, hsz, h5⟩
        · rw [h1] at h4; simp at h4
        · rw [h1] at h4; simp at h4
          obtain ⟨rfl, rfl, rfl⟩ := h4
          obtain ⟨p1, p2, p3⟩ := part_spec h
          have hx : l[i]? = some (l.getD i (G.dfl t)) := by simp [hi]
          have hcell : ∀ j, j < n → ∃ x y, cs[j]? = some x ∧ c[i * G.sz t + off + j]? = some y ∧ Rc G ν S w.heap x y := by
            intro j hj
            have hlt : off + j < (G.enc t (l.getD i (G.dfl t))).length := by omega
            have he := List.getElem?_eq_getElem hlt
            obtain ⟨y, hy, hrd⟩ := h5.1 i (off + j) _ _ hx he
            exact ⟨_, y, (p3 j hj).trans he, by rw [Nat.add_assoc]; exact hy, rc_data ok (List.getElem_mem hlt) hrd⟩
          refine ⟨b', i * G.sz t + off, (List.range n).map (fun j => c.getD (i * G.sz t + off + j) undef), rfl, ⟨by simp [p1], fun j x y hx hy => ?_⟩, by simp, fun j x hj => ?_⟩
          · have hjn : j < n := by have := (List.getElem?_eq_some_iff.1 hx).1; omega
            obtain ⟨x', y', e1, e2, e3⟩ := hcell j hjn
            rw [e1] at hx; simp at hx; subst hx
            simp [hjn, e2] at hy; subst hy
            exact e3
          · have hjn : j < n := by have := (List.getElem?_eq_some_iff.1 hj).1; simpa using this
            obtain ⟨x', y', e1, e2, e3⟩ := hcell j hjn
            simp [hjn, e2] at hj; subst hj
            rw [cell_of_row w b' (i * G.sz t + off + j) c te (0, 0) h2]
            exact e2
      · rw [if_neg ht] at h; simp at h
    · simp at h
  | rp t x off =>
    simp only [look] at h
    cases hv with
    | rp _ _ _ b base c te fz vs hS hb hc hrd =>
      obtain ⟨p1, p2, p3⟩ := part_spec h
      have hl := ok.encl t x
      refine ⟨b, base + off, (List.range n).map (fun j => vs (off + j)), rfl, ⟨by simp [p1], fun j x' y hx hy => ?_⟩, by simp, fun j x' hj => ?_⟩
      · have hjn : j < n := by have := (List.getElem?_eq_some_iff.1 hx).1; omega
        simp [hjn] at hy; subst hy
        have hx' := (p3 j hjn).symm.trans hx
        exact rc_data ok (List.mem_of_getElem? hx') (hrd _ _ hx')
      · have hjn : j < n := by have := (List.getElem?_eq_some_iff.1 hj).1; simpa using this
        simp [hjn] at hj; subst hj
        rw [cell_of_row w b (base + off + j) c te fz hb, Nat.add_assoc]
        exact hc (off + j) (by omega)
  | sc v => simp [look] at h
  | own m => simp [look] at h
  | ro t l => simp [look] at h
  | clo f p q => simp [look] at h

end Go.Ab
