/- The arguments of a law, as the statement reads them, as values of plain types. -/
import Derived.Test.YthdomhdippmaiaaAbF
import Derived.ProofKit
import Derived.OpenShut
import Derived.Deep.Slices
namespace Go.Ab
variable {G : Sig}
def shF (G : Sig) (r : Nat → Option (List CSh)) : List (Nat × Nat) → Nat → Option (List CSh)
  | [], _ => some []
  | p :: t, off => bif Nat.beq p.1 off then match r p.2, shF G r t (off + G.sz p.2) with
    | some a, some b => bif Nat.beq a.length (G.sz p.2) then some (a ++ b) else none
    | _, _ => none
    else none
def repL {α : Type} (a : List α) : Nat → List α
  | 0 => []
  | n + 1 => a ++ repL a n
def shl (G : Sig) : Nat → Nat → Option (List CSh)
  | 0, _ => none
  | d + 1, t => match G.ty t with
    | .bool => some [.bool]
    | .int k => some [.int k]
    | .str => some [.str]
    | .sl e => some [.ro e]
    | .st fs => match shF G (shl G d) fs 0 with
      | some a => bif Nat.beq a.length (G.sz t) then some a else none
      | none => none
    | .arr n e => match shl G d e with
      | some a => bif Nat.beq a.length (G.sz e) && Nat.beq (n * G.sz e) (G.sz t) then some (repL a n) else none
      | none => none
    | _ => none
inductive WfC (G : Sig) : Cv G.T → Prop
  | bool (b : Bool) : WfC G (.sc (.bool b))
  | int (k : IntKind) (n : Int) (h : (Lit.int k n).wf = true) : WfC G (.sc (.int k n))
  | str (s : ByteArray) (h : s.size ≤ maxLen) : WfC G (.sc (.string s))
  | ro (t : Nat) (l : List (G.T t)) (h : l.length ≤ maxLen) (he : ∀ (i : Nat) (x : G.T t) (j : Nat) (c : Cv G.T), l[i]? = some x → (G.enc t x)[j]? = some c → WfC G c) : WfC G (.ro t l)
def DecOK (G : Sig) : Prop := ∀ t e, G.ty t = .sl e → ∃ s, shl G 20 e = some s ∧ ∀ x : TL G s, ∃ y, G.dec e (giveL s x) = some y
theorem nor' : ∀ (a b : List CSh) (x : TL G a) (y : TL G b), ∃ z : TL G (a ++ b), giveL (a ++ b) z = giveL a x ++ giveL b y
  | [], b, _, y => ⟨y, rfl⟩
  | c :: a, b, x, y => by
    obtain ⟨z, hz⟩ := nor' a b x.2 y
    exact ⟨(x.1, z), by simp only [giveL, List.cons_append]; rw [← hz]⟩
theorem ntk' : ∀ (a : List CSh) (x : TL G a), (giveL a x).length = a.length
  | [], _ => rfl
  | c :: a, x => by simp [giveL, ntk' a]
section
variable {H : Type} {enc : TypeId × Value → H} {P : Program} (ok : SigOK P G) (dk : DecOK G) {w : World} {sp : Nat → Bool} {hd : Bool}
include ok in
theorem nlc' {t : Nat} (h : G.ty t ≠ .no) : P.cellsOf t = G.sz t := by
  obtain ⟨i, z, h1, h2, _⟩ := ok.info t h
  unfold Program.cellsOf
  rw [h1]; exact h2
def Opened (G : Sig) (w : World) (s : List CSh) (cs : List Value) : Prop :=
  ∃ x : TL G s, F2 (Rd G (fun b => b < w.heap.size) w.heap) (giveL s x) cs ∧ ∀ c ∈ giveL s x, WfC G c
theorem Opened.append {a b : List CSh} {cs ds : List Value} (h : Opened G w a cs) (g : Opened G w b ds) : Opened G w (a ++ b) (cs ++ ds) := by
  obtain ⟨x, h1, h2⟩ := h
  obtain ⟨y, g1, g2⟩ := g
  obtain ⟨z, hz⟩ := nor' a b x y
  refine ⟨z, by rw [hz]; exact h1.append g1, fun c hc => ?_⟩
  rw [hz] at hc
  rcases List.mem_append.1 hc with hc | hc
  · exact h2 c hc
  · exact g2 c hc
theorem Opened.len {a : List CSh} {cs : List Value} (h : Opened G w a cs) : cs.length = a.length := by
  obtain ⟨x, h1, _⟩ := h
  rw [← h1.1, ntk']
theorem n5g' {cs : List Value} {o n m : Nat} (h : o + n ≤ m) : ((cs.take m).drop o).take n = (cs.drop o).take n := by
  rw [List.drop_take, List.take_take]
  congr 1
  omega
theorem npo' {r : Nat → Option (List CSh)} {cs : List Value} : ∀ (fs : List (Nat × Nat)) (off : Nat) (sh : List CSh), shF G r fs off = some sh →
    (∀ p ∈ fs, ∀ s, r p.2 = some s → Opened G w s ((cs.drop p.1).take (G.sz p.2))) → Opened G w sh ((cs.drop off).take sh.length)
  | [], off, sh, h, _ => by
    simp [shF] at h; subst h
    exact ⟨(), by simp [giveL]; exact .nil, fun c hc => by simp [giveL] at hc⟩
  | p :: t, off, sh, h, hp => by
    simp only [shF, n2'] at h
    by_cases e : p.1 = off
    · rw [if_pos e] at h
      split at h
      · rename_i a b ha hb
        by_cases hl : a.length = G.sz p.2
        · rw [if_pos hl] at h; simp at h; subst h
          have h1 := hp p (by simp) a ha
          have h2 := npo' t (off + G.sz p.2) b hb fun q hq s hs => hp q (by simp [hq]) s hs
          rw [e] at h1
          have := h1.append h2
          rw [List.length_append, hl]
          have ht : (cs.drop off).take (G.sz p.2 + b.length) = (cs.drop off).take (G.sz p.2) ++ (cs.drop (off + G.sz p.2)).take b.length := by
            rw [List.take_add, List.drop_drop]
          rw [ht]; exact this
        · rw [if_neg hl] at h; simp at h
      · simp at h
    · rw [if_neg e] at h; simp at h
theorem nqt' {a : List CSh} {cs : List Value} {sz : Nat} (hl : a.length = sz) : ∀ (n : Nat) (i : Nat), (∀ j, i ≤ j → j < i + n → Opened G w a ((cs.drop (j * sz)).take sz)) → Opened G w (repL a n) ((cs.drop (i * sz)).take (n * sz))
  | 0, i, _ => ⟨(), by simp [giveL, repL]; exact .nil, fun c hc => by simp [giveL, repL] at hc⟩
  | n + 1, i, h => by
    have h1 := h i (Nat.le_refl _) (by omega)
    have h2 := nqt' hl n (i + 1) fun j h3 h4 => h j (by omega) (by omega)
    have := h1.append h2
    have ht : (cs.drop (i * sz)).take ((n + 1) * sz) = (cs.drop (i * sz)).take sz ++ (cs.drop ((i + 1) * sz)).take (n * sz) := by
      rw [Nat.add_mul, Nat.one_mul, Nat.add_comm (n * sz), List.take_add, List.drop_drop, Nat.add_mul, Nat.one_mul]
    rw [ht]; exact this
theorem n0g' {α : Type} {Q : Nat → α → Prop} : ∀ (n : Nat), (∀ i, i < n → ∃ y, Q i y) → ∃ l : List α, l.length = n ∧ ∀ i y, l[i]? = some y → Q i y
  | 0, _ => ⟨[], rfl, fun i y h => by simp at h⟩
  | n + 1, h => by
    obtain ⟨l, h1, h2⟩ := n0g' n fun i hi => h i (by omega)
    obtain ⟨y, hy⟩ := h n (by omega)
    refine ⟨l ++ [y], by simp [h1], fun i z hz => ?_⟩
    rw [List.getElem?_append] at hz
    by_cases hi : i < l.length
    · rw [if_pos hi] at hz; exact h2 i z hz
    · rw [if_neg hi] at hz
      have : i - l.length = 0 := by
        have := (List.getElem?_eq_some_iff.1 hz).1; simp at this; omega
      rw [this] at hz
      simp at hz; subst hz
      have : i = n := by omega
      rw [this]; exact hy
include ok dk in
theorem nz2' : ∀ (fuel d t : Nat) (cs : List Value) (x : DataW H × List MemPlace) (s : List CSh), shl G d t = some s → DataW.trod enc P w 0 sp hd fuel t cs = some x → Opened G w s cs := by
  intro fuel
  induction fuel with
  | zero => intro d t cs x s _ h; simp [DataW.trod] at h
  | succ fuel ih =>
    intro d t cs x s h ht
    cases d with
    | zero => simp [shl] at h
    | succ d =>
    simp only [shl] at h
    cases hty : G.ty t with
    | bool =>
      rw [hty] at h; simp at h; subst h
      obtain ⟨b, rfl, _⟩ := DataW.trod_bool (ok.bool t hty) ht
      exact ⟨(b, ()), F2.cons (.sc _ rfl) .nil, fun c hc => by simp [giveL, CSh.give] at hc; subst hc; exact .bool b⟩
    | int k =>
      rw [hty] at h; simp at h; subst h
      obtain ⟨n, rfl, _, hw⟩ := DataW.trod_int (ok.int t k hty) ht
      exact ⟨(n, ()), F2.cons (.sc _ rfl) .nil, fun c hc => by simp [giveL, CSh.give] at hc; subst hc; exact .int k n hw⟩
    | str =>
      rw [hty] at h; simp at h; subst h
      obtain ⟨b, rfl, _, hw⟩ := DataW.trod_string (ok.str t hty) ht
      exact ⟨(b, ()), F2.cons (.sc _ rfl) .nil, fun c hc => by simp [giveL, CSh.give] at hc; subst hc; exact .str b hw⟩
    | st fs =>
      rw [hty] at h
      obtain ⟨fields, hund, hmap, hno⟩ := ok.strc t fs hty
      obtain ⟨xs, n, hn, _, hlen, hxs, hf⟩ := DataW.trod_struct hund ht
      have hn : fuel = n := by omega
      subst hn
      rw [nlc' ok (t := t) (by rw [hty]; simp)] at hlen
      simp only at h
      split at h
      · rename_i a ha
        simp only [n2'] at h
        by_cases hl : a.length = G.sz t
        · rw [if_pos hl] at h; simp at h; subst h
          have := npo' (w := w) (cs := cs) fs 0 a ha fun p hp q hq => ?_
          · rw [List.drop_zero, List.take_of_length_le (by omega)] at this
            exact this
          · have hp' : p ∈ fields.toList.map (fun f => (f.offset, f.type)) := by rw [hmap]; exact hp
            obtain ⟨f, hfm, rfl⟩ := List.mem_map.1 hp'
            obtain ⟨i, hi⟩ := List.getElem?_of_mem hfm
            have hi' : fields[i]? = some f := by simpa using hi
            have h1 := hf i f hi'
            have hlt : i < xs.length := by rw [hxs]; exact (Array.getElem?_eq_some_iff.1 hi').1
            rw [List.getElem?_eq_getElem hlt, nlc' ok (hno f.offset f.type hp)] at h1
            exact ih d f.type _ _ q hq h1
        · rw [if_neg hl] at h; simp at h
      · simp at h
    | arr n e =>
      rw [hty] at h
      obtain ⟨hund, hno⟩ := ok.arr t n e hty
      obtain ⟨xs, m, hm, _, hlen, hxs, hf⟩ := DataW.trod_array hund ht
      have hm : fuel = m := by omega
      subst hm
      rw [nlc' ok (t := t) (by rw [hty]; simp)] at hlen
      simp only at h
      split at h
      · rename_i a ha
        cases hl : (Nat.beq a.length (G.sz e) && Nat.beq (n * G.sz e) (G.sz t)) with
        | false => rw [hl] at h; simp at h
        | true =>
          rw [hl] at h; simp at h; subst h
          simp only [Bool.and_eq_true] at hl
          have hl1 := nu'.1 hl.1
          have hl2 := nu'.1 hl.2
          have := nqt' (G := G) (w := w) (cs := cs) hl1 n 0 fun j _ hj => ?_
          · rw [Nat.zero_mul, List.drop_zero, List.take_of_length_le (by omega)] at this
            exact this
          · have h1 := hf j (by omega)
            rw [List.getElem?_eq_getElem (by omega), nlc' ok hno] at h1
            exact ih d e _ _ a ha h1
      · simp at h
    | sl e =>
      rw [hty] at h; simp at h; subst h
      obtain ⟨hund, hno, _, hencl⟩ := ok.sl t e hty
      obtain ⟨se, hse, hdec⟩ := dk t e hty
      have hsz := nlc' ok hno
      rcases DataW.trod_slice hund ht with ⟨rfl, _⟩ | ⟨a, len, cap, elems, rest, n, hn, rfl, _, _, hl, hm, hel, hget, _⟩
      · exact ⟨([], ()), F2.cons (.nil _ _ _) .nil, fun c hc => by simp [giveL, CSh.give] at hc; subst hc; exact .ro e [] (Nat.zero_le _) fun i x j c h => by simp at h⟩
      · have hn : fuel = n := by omega
        subst hn
        rw [hsz] at hget
        obtain ⟨l, hll, hlq⟩ := n0g' (Q := fun i (y : G.T e) => (∀ j, j < G.sz e → ∃ v, w.cell? ((a.add (i * G.sz e)).add j) = some v ∧ ∀ cv, (G.enc e y)[j]? = some cv → Rd G (fun b => b < w.heap.size) w.heap cv v) ∧ ∀ c ∈ G.enc e y, WfC G c) len fun i hi => by
          have h1 := hget i hi
          rw [List.getElem?_eq_getElem (by omega)] at h1
          cases hc : w.cells? 0 (a.add (i * G.sz e)) (G.sz e) with
          | none => rw [hc] at h1; simp at h1
          | some ci =>
            rw [hc] at h1
            obtain ⟨xe, r1, r2⟩ := ih 20 e ci _ se hse h1
            obtain ⟨y, hy⟩ := hdec xe
            have hye := ok.encdec e _ _ hy
            obtain ⟨_, hcl, hat⟩ := World.cells?_some hc
            refine ⟨y, fun j hj => ?_, fun c hcm => r2 c (by rw [← hye]; exact hcm)⟩
            refine ⟨ci[j]'(by omega), by rw [hat j hj]; exact List.getElem?_eq_getElem (by omega), fun cv hcv => ?_⟩
            rw [hye] at hcv
            exact r1.2 j cv _ hcv (List.getElem?_eq_getElem (by omega))
        refine ⟨(l, ()), F2.cons ?_ .nil, fun c hc => ?_⟩
        · show Rd G _ w.heap (.ro e l) _
          by_cases h0 : len = 0
          · have : l = [] := List.eq_nil_of_length_eq_zero (by omega)
            rw [this, h0]
            exact .nil _ _ _
          · have hpos := ok.pos e hno
            obtain ⟨y0, hy0⟩ : ∃ y0, l[0]? = some y0 := ⟨l[0]'(by omega), List.getElem?_eq_getElem (by omega)⟩
            obtain ⟨v0, hv0, _⟩ := (hlq 0 y0 hy0).1 0 hpos
            obtain ⟨b, off, spot⟩ := a
            have ha0 : ((⟨b, off, spot⟩ : Addr).add (0 * G.sz e)).add 0 = ⟨b, off, spot⟩ := by rw [Nat.zero_mul]; rfl
            rw [ha0] at hv0
            unfold World.cell? at hv0
            simp only at hv0
            split at hv0
            · rename_i c te fz hb
              cases hsp : spot with
              | some z => rw [hsp] at hv0; simp at hv0
              | none =>
                subst hsp
                have hlt : b < w.heap.size := (Array.getElem?_eq_some_iff.1 hb).1
                rw [← hll]
                have hcell : ∀ i j, i < l.length → j < G.sz e → ∃ v, c[off + i * G.sz e + j]? = some v ∧ ∀ y cv, l[i]? = some y → (G.enc e y)[j]? = some cv → Rd G (fun b => b < w.heap.size) w.heap cv v := by
                  intro i j hi hj
                  obtain ⟨v, hv, hq⟩ := (hlq i _ (List.getElem?_eq_getElem hi)).1 j hj
                  refine ⟨v, ?_, fun y cv hy hcv => hq cv ?_⟩
                  · rw [ndj', ndj'] at hv
                    unfold World.cell? at hv
                    simp only [hb] at hv
                    simpa using hv
                  · rw [List.getElem?_eq_getElem hi] at hy
                    simp at hy; rw [hy]; exact hcv
                refine .ro e l b off cap c te fz (fun i j => c.getD (off + i * G.sz e + j) undef) hlt hb (by omega) (fun i j hi hj => ?_) (fun i j y cv hy hcv => ?_)
                · obtain ⟨v, hv, _⟩ := hcell i j hi hj
                  rw [hv]; simp [Array.getD_eq_getD_getElem?, hv]
                · have hi : i < l.length := (List.getElem?_eq_some_iff.1 hy).1
                  have hj : j < G.sz e := by rw [← hencl y]; exact (List.getElem?_eq_some_iff.1 hcv).1
                  obtain ⟨v, hv, hq⟩ := hcell i j hi hj
                  have : c.getD (off + i * G.sz e + j) undef = v := by simp [Array.getD_eq_getD_getElem?, hv]
                  rw [this]
                  exact hq y cv hy hcv
            · simp at hv0
        · simp [giveL, CSh.give] at hc; subst hc
          exact .ro e l (by omega) fun i y j c hy hc => (hlq i y hy).2 c (List.mem_of_getElem? hc)
    | _ => rw [hty] at h; simp at h
end
end Go.Ab
namespace Go.Ab
variable {G : Sig}
def ArgT (G : Sig) : List PSh → Type
  | [] => Unit
  | s :: t => s.T G × ArgT G t
def giveA : (s : List PSh) → ArgT G s → List (Pv G.T)
  | [], _ => []
  | s :: t, x => s.give x.1 :: giveA t x.2
def nn9' : CSh → Bool
  | .own _ _ => false
  | _ => true
def nu1' : PSh → Bool
  | .one c => nn9' c
  | .agg cs => cs.all nn9'
def toTm : (n : Nat) → (s : List PSh) → ArgT G s → TmT G (zipN n s)
  | _, [], _ => ()
  | n, _ :: t, x => (x.1, toTm (n + 1) t x.2)
theorem nua' : ∀ (n : Nat) (s : List PSh) (x : ArgT G s), ne4' (zipN n s) (toTm n s x) = zipN n ((giveA s x).map Sv.p)
  | _, [], _ => rfl
  | n, p :: t, x => by
    show (n, Sv.p (p.give x.1)) :: ne4' (zipN (n + 1) t) (toTm (n + 1) t x.2) = (n, Sv.p (p.give x.1)) :: zipN (n + 1) ((giveA t x.2).map Sv.p)
    rw [nua' (n + 1) t x.2]
theorem nx9' : ∀ (s : CSh) (x : s.T G), nn9' s = true → s.blk x = []
  | .own _ _, _, h => by simp [nn9'] at h
  | .int _, _, _ => rfl
  | .bool, _, _ => rfl
  | .str, _, _ => rfl
  | .flt _, _, _ => rfl
  | .ro _, _, _ => rfl
  | .rp _ _, _, _ => rfl
  | .ptr _ _, _, _ => rfl
  | .clo _ _ _, _, _ => rfl
  | .np _ _, _, _ => rfl
  | .nili, _, _ => rfl
  | .sa _ _ _, _, _ => rfl
theorem nya' : ∀ (s : List CSh) (x : TL G s), s.all nn9' = true → blkL s x = []
  | [], _, _ => rfl
  | c :: t, x, h => by
    simp only [List.all_cons, Bool.and_eq_true] at h
    simp only [blkL, nx9' c x.1 h.1, nya' t x.2 h.2, List.append_nil]
theorem n2z' (s : PSh) (x : s.T G) (h : nu1' s = true) : s.blk x = [] := by
  cases s with
  | one c => exact nx9' c x h
  | agg cs => exact nya' cs x h
theorem nwe' : ∀ (n : Nat) (s : List PSh) (x : ArgT G s), s.all nu1' = true → blkTm (zipN n s) (toTm n s x) = []
  | _, [], _, _ => rfl
  | n, p :: t, x, h => by
    simp only [List.all_cons, Bool.and_eq_true] at h
    show p.blk x.1 ++ blkTm (zipN (n + 1) t) (toTm (n + 1) t x.2) = []
    rw [n2z' p x.1 h.1, nwe' (n + 1) t x.2 h.2]; rfl
def pshO (G : Sig) (t : Nat) : Option PSh := match shl G 20 t with
  | some s => bif (G.ty t).isAgg then some (.agg s) else match s with | [c] => some (.one c) | _ => none
  | none => none
def pshs (G : Sig) : List Nat → Option (List PSh)
  | [] => some []
  | t :: r => match pshO G t, pshs G r with
    | some a, some b => some (a :: b)
    | _, _ => none
def WfA (G : Sig) (s : List PSh) (x : ArgT G s) : Prop := ∀ p ∈ giveA s x, ∀ c ∈ p.cells, WfC G c
section
variable {H : Type} {enc : TypeId × Value → H} {P : Program} (ok : SigOK P G) (dk : DecOK G) {w : World} {sp : Nat → Bool} {hd : Bool}
theorem rd_rc {S : Nat → Prop} {h : Array Obj} {c : Cv G.T} {v : Value} (hw : WfC G c) (r : Rd G S h c v) : Rc G (fun _ => none) S h c v := by
  cases hw <;> exact r
include ok dk in
theorem n2j' {t : Nat} {v : Value} {d : DataW H} {ps : List MemPlace} {s : PSh} {r : Reach} {base : Nat} (hs : pshO G t = some s) (ht : DataW.Trod enc P w 0 sp hd t v d ps) (hv : Value.okWide P w r base t v) :
    ∃ x : s.T G, Rp G (fun _ => none) (fun b => b < w.heap.size) w.heap (s.give x) v ∧ ∀ c ∈ (s.give x).cells, WfC G c := by
  obtain ⟨fuel, ht⟩ := ht
  unfold pshO at hs
  split at hs
  · rename_i sh hsh
    obtain ⟨x, h1, h2⟩ := nz2' ok dk fuel 20 t _ _ sh hsh ht
    cases ha : (G.ty t).isAgg with
    | true =>
      rw [ha] at hs; simp at hs; subst hs
      have hag : ∃ cs, v = .agg cs := by
        unfold Value.okWide at hv
        cases hty : G.ty t with
        | st fs =>
          obtain ⟨fields, hund, _⟩ := ok.strc t fs hty
          rw [hund] at hv
          obtain ⟨cs, h, _⟩ := hv
          exact ⟨cs, h⟩
        | arr n e =>
          obtain ⟨hund, _⟩ := ok.arr t n e hty
          rw [hund] at hv
          obtain ⟨cs, h, _⟩ := hv
          exact ⟨cs, h⟩
        | _ => rw [hty] at ha; simp [Ty.isAgg] at ha
      obtain ⟨cs, rfl⟩ := hag
      refine ⟨x, ?_, h2⟩
      have e1 : (Value.agg cs) = .agg cs.toList.toArray := by simp
      rw [e1]
      exact .agg _ _ ⟨h1.1, fun i c u hc hu => rd_rc (h2 c (List.mem_of_getElem? hc)) (h1.2 i c u hc hu)⟩
    | false =>
      rw [ha] at hs
      simp only [cond_false] at hs
      split at hs
      · rename_i c
        simp at hs; subst hs
        have hl : v.cells.toList.length = 1 := by rw [← h1.1]; rfl
        have hv1 : v.cells = #[v] := by
          cases v with
          | agg cs =>
            exfalso
            unfold Value.okWide at hv
            cases hty : G.ty t with
            | bool => rw [ok.bool t hty] at hv; simp [Cell.okWide, Cell.ok, ok.bool t hty] at hv
            | int k => rw [ok.int t k hty] at hv; simp [Cell.okWide, Cell.ok, ok.int t k hty] at hv
            | str => rw [ok.str t hty] at hv; simp [Cell.okWide, Cell.ok, ok.str t hty] at hv
            | sl e => rw [(ok.sl t e hty).1] at hv; simp [Cell.okWide, Cell.ok, (ok.sl t e hty).1] at hv
            | st _ => rw [hty] at ha; simp [Ty.isAgg] at ha
            | arr _ _ => rw [hty] at ha; simp [Ty.isAgg] at ha
            | _ => simp [shl, hty] at hsh
          | _ => rfl
        have hr : Rd G (fun b => b < w.heap.size) w.heap (c.give x.1) v := h1.2 0 _ v rfl (by rw [hv1]; rfl)
        have hw := h2 (c.give x.1) (by simp [giveL])
        refine ⟨x.1, .one _ _ (rd_rc hw hr), fun c' hc' => ?_⟩
        have hc' : c' ∈ [c.give x.1] := hc'
        simp at hc'; subst hc'; exact hw
      · simp at hs
  · simp at hs
include ok dk in
theorem nux' {r : Reach} {base : Nat} : ∀ (ts : List Nat) (vs : List Value) (ds : List (DataW H)) (ps : List MemPlace) (s : List PSh), pshs G ts = some s → DataW.TrodAll enc P w 0 sp hd ts vs ds ps →
    (∀ (j : Nat) t v, ts[j]? = some t → vs[j]? = some v → Value.okWide P w r base t v) → ∃ x : ArgT G s, F2 (Rp G (fun _ => none) (fun b => b < w.heap.size) w.heap) (giveA s x) vs ∧ WfA G s x
  | [], [], [], _, s, hs, _, _ => by
    simp [pshs] at hs; subst hs
    exact ⟨(), .nil, fun p hp => by simp [giveA] at hp⟩
  | t :: ts, v :: vs, d :: ds, ps, s, hs, ⟨p, q, h1, h2, _⟩, hv => by
    simp only [pshs] at hs
    split at hs
    · rename_i a b ha hb
      simp at hs; subst hs
      obtain ⟨x, g1, g2⟩ := n2j' ok dk ha h1 (hv 0 t v rfl rfl)
      obtain ⟨y, g3, g4⟩ := nux' ts vs ds q b hb h2 fun j t v ht hvv => hv (j + 1) t v (by simpa using ht) (by simpa using hvv)
      refine ⟨(x, y), g3.cons g1, fun p hp => ?_⟩
      simp only [giveA, List.mem_cons] at hp
      rcases hp with rfl | hp
      · exact g2
      · exact g4 p hp
    · simp at hs
  | [], [], _ :: _, _, _, _, h, _ => h.elim
  | [], _ :: _, _, _, _, _, h, _ => by cases h
  | _ :: _, [], _, _, _, _, h, _ => by cases h
  | _ :: _, _ :: _, [], _, _, _, h, _ => by cases h
def argI (s : List PSh) : Spec := ⟨zipN 0 s, [], []⟩
theorem n0m' {g : Nat} {sh : List PSh} {E : List (Ex × Spec)} {F : (argI sh).T G → Option (SumE G E)} {rs : List ResultVar} (hf : FnOK P G g ⟨argI sh, E, F, rs⟩) (hno : sh.all nu1' = true) {x : ArgT G sh} {y : SumE G E}
    (hF : F (toTm 0 sh x, ()) = some y) {b : Bool} {p : Ex × St G} (hp : caseE E y some = some p) (hy : outsP (argI sh) rs p = some (.p (.one (.sc (.bool b))), [])) {W : World} (hgl : GlOK G (fun b => b < W.heap.size) W.heap) {vals : List Value}
    (hargs : F2 (Rp G (fun _ => none) (fun b => b < W.heap.size) W.heap) (giveA sh x) vals) :
    Calls P g vals.toArray W fun e' W' => e' = .returned (.bool b) ∧ RowKit.Below W.heap.size W W' := by
  have hlen : ∀ (n : Nat) (s : List PSh) (x : ArgT G s), (giveA s x).length = (zipN n s).length := by
    intro n s
    induction s generalizing n with
    | nil => intro _; rfl
    | cons p t ih => intro x; simp only [giveA, zipN, List.length_cons, ih (n + 1) x.2]
  have hp0 : ((argI sh).mk' (toTm 0 sh x, ())).hp = ([] : List (Nat × Blk G.T)) := by
    show blkTm (zipN 0 sh) (toTm 0 sh x) ++ ([] ++ []) = []
    rw [nwe' 0 sh x hno]; rfl
  have htm : ((argI sh).mk' (toTm 0 sh x, ())).tm = zipN 0 ((giveA sh x).map (Sv.p (T := G.T))) := nua' 0 sh x
  refine ((hf.2 (toTm 0 sh x, ()) y p _ [] hF hp hy) (fun _ => none) (fun b => b < W.heap.size) (fun _ => False) W vals ⟨fun n k hk => ?_, fun n m z z' b h1 => ?_, fun n z b h1 => ?_, fun _ h => h, hgl⟩ (fun n hn => absurd rfl hn) ?_ fun k v hk => ?_).mono ?_
  · rw [hp0] at hk; cases hk
  · rw [hp0] at h1; exact absurd rfl h1
  · rw [hp0] at h1; exact absurd rfl h1
  · rw [← hargs.1]; exact hlen 0 sh x
  · rw [htm, nm9'] at hk
    simp at hk
    obtain ⟨u, hu, rfl⟩ := hk
    obtain ⟨v, hv, hrp⟩ := hargs.get hu
    have : vals.getD k undef = v := by simp [List.getD_eq_getElem?_getD, hv]
    rw [this]; exact .p _ _ hrp
  · rintro e' W' ⟨v, ν', S', he, hval, _, _, _, _, hsz, hfr, henv⟩
    refine ⟨?_, henv.1, henv.2.1, henv.2.2, hsz, fun b hb => hfr b hb id⟩
    rw [he]
    cases hval with
    | p _ _ hrp =>
      cases hrp with
      | one _ _ hc =>
        have hc : Rd G S' W'.heap (.sc (.bool b)) v := hc
        cases hc; rfl
end
def DecE (G : Sig) (y : Ty) : Prop := ∀ e, y = .sl e → ∃ s, shl G 20 e = some s ∧ ∀ x : TL G s, ∃ y, G.dec e (giveL s x) = some y
theorem nt' {G : Sig} {y : Ty} (h : (match y with | .sl _ => true | _ => false) = false) : DecE G y := fun e he => by subst he; simp at h
theorem ncy' {G : Sig} {e : Nat} {s : List CSh} (h : shl G 20 e = some s) (hd : ∀ x : TL G s, ∃ y, G.dec e (giveL s x) = some y) : DecE G (.sl e) := fun e' he => by
  cases he; exact ⟨s, h, hd⟩
theorem n13' {tys : List (Nat × TyD)} {l : List (Ent1 (TOf tys))} {gl : Nat → Option ((t : Nat) × TOf tys t)} {ext : Nat → Nat} (h : ∀ p ∈ l, DecE (mkSig tys l gl ext) p.e.ty) : DecOK (mkSig tys l gl ext) :=
  fun t => nls' (T := TOf tys) (Q := fun _ e => DecE (mkSig tys l gl ext) e.ty) (fun _ => nt' rfl) h t
end Go.Ab
namespace Go.Ab
variable {G : Sig}
theorem nxe' {H : Type} {enc : TypeId × Value → H} {P : Program} {w : World} {base : Nat} {sp : Nat → Bool} {held : Bool} {fuel : Nat} {t : TypeId} {k : IntKind} {c : Value} {n : Int} {q : List MemPlace}
    (ht : P.underlying t = some (.int k)) (h : DataW.trod enc P w base sp held fuel t [c] = some (.lit (.int k n), q)) : c = .int k n := by
  cases fuel with
  | zero => simp [DataW.trod] at h
  | succ fuel =>
    cases c <;> simp [DataW.trod, ht] at h
    obtain ⟨⟨rfl, _⟩, rfl, _⟩ := h
    rfl
theorem n5b' {P : Program} {w : World} {n : String} {g : Nat} {t e : TypeId} {k : IntKind} {ns : List Int} {gt : Nat} {gx : G.T gt} {cs : Array Value} {fuel : Nat} {p : List MemPlace}
    (hn : P.globalNamed n = some g) (hu : P.underlying t = some (.array ns.length e)) (he : P.underlying e = some (.int k)) (hce : P.cellsOf e = 1) (hct : P.cellsOf t = ns.length)
    (hsz : G.sz gt = ns.length) (henc : G.enc gt gx = ns.map fun x => .sc (.int k x))
    (hv : w.var? P n = some cs) (hd : DataW.trod (fun _ => ()) P w 0 (fun _ => true) false fuel t cs.toList = some (.agg (ns.map fun x => .lit (.int k x)), p)) :
    Rd G (fun b => b < w.heap.size) w.heap (.rp gt gx 0) (.pointer (some ⟨g, 0, none⟩)) := by
  obtain ⟨xs, m, _, hx, hlen, hxs, hf⟩ := DataW.trod_array hu hd
  have hcell : ∀ j (x : Int), ns[j]? = some x → cs[j]? = some (Value.int k x) := fun j x hj => by
    obtain ⟨hjl, hjx⟩ := List.getElem?_eq_some_iff.1 hj
    have h1 := hf j hjl
    rw [hce, Nat.mul_one] at h1
    have hm : xs.map (·.1) = ns.map fun x => DataW.lit (.int k x) := by
      simp only [Prod.mk.injEq, DataW.agg.injEq] at hx; exact hx.1.symm
    have h2 := congrArg (·[j]?) hm
    simp only [List.getElem?_map, hj, Option.map_some] at h2
    cases hq : xs[j]? with
    | none => rw [hq] at h2; cases h2
    | some z =>
      rw [hq] at h1 h2
      obtain ⟨z1, z2⟩ := z
      simp only [Option.map_some, Option.some.injEq] at h2
      subst h2
      have hl : j < cs.toList.length := by rw [hlen, hct]; exact hjl
      have hdrop : (cs.toList.drop j).take 1 = [cs.toList[j]] := by rw [List.drop_eq_getElem_cons hl]; rfl
      rw [hdrop] at h1
      have hz := nxe' he h1
      rw [← Array.getElem?_toList, List.getElem?_eq_getElem hl, hz]
  unfold World.var? at hv
  rw [hn] at hv
  simp only [Option.bind_some] at hv
  split at hv
  · rename_i cs' te fz hb
    obtain rfl := Option.some.inj hv
    refine .rp gt gx 0 g 0 cs' te fz (fun j => cs'.getD j undef) (Array.getElem?_eq_some_iff.1 hb).1 hb (fun j hj => ?_) fun j cv hj => ?_
    · rw [hsz] at hj
      have := hcell j ns[j] (List.getElem?_eq_getElem hj)
      rw [Nat.zero_add, this]
      simp [Array.getD_eq_getD_getElem?, this]
    · rw [henc, List.getElem?_map] at hj
      cases hq : ns[j]? with
      | none => rw [hq] at hj; cases hj
      | some x =>
        rw [hq] at hj
        simp only [Option.map_some, Option.some.injEq] at hj
        subst hj
        have := hcell j x hq
        rw [show cs'.getD j undef = .int k x by simp [Array.getD_eq_getD_getElem?, this]]
        exact .sc _ rfl
  · cases hv
theorem n5c' {H : Type} {enc : TypeId × Value → H} {P : Program} {w : World} {base : Nat} {sp : Nat → Bool} {held : Bool} {t e te : Nat} {v : Value} {d : DataW H} {ps : List MemPlace} {ν : Nat → Option Value} {S : Nat → Prop} {h : Array Obj} {l : List (G.T te)}
    (ht : P.underlying t = some (.slice e)) (hd : DataW.Trod enc P w base sp held t v d ps) (hr : Rp G ν S h (.one (.ro te l)) v) : l.length = 0 ∨ ∃ el sp', d = .slice el sp' ∧ el.length = l.length := by
  obtain ⟨fuel, hd⟩ := hd
  have hrd : Rd G S h (.ro te l) v := by cases hr with | one _ _ hc => exact hc
  have hcv : v.cells.toList = [v] := by cases hrd <;> rfl
  rw [hcv] at hd
  rcases DataW.trod_slice ht hd with ⟨h1, _⟩ | ⟨a, len, cap, elems, rest, n, _, h2, h3, _, _, _, h4, _⟩
  · obtain rfl := (List.cons.inj h1).1
    cases hrd
    exact .inl rfl
  · obtain rfl := (List.cons.inj h2).1
    obtain ⟨rfl, _⟩ := Prod.mk.inj h3
    refine .inr ⟨_, _, rfl, ?_⟩
    rw [List.length_map, h4]
    cases hrd <;> rfl
theorem n5k' {H : Type} {enc : TypeId × Value → H} {P : Program} {w : World} {base : Nat} {sp : Nat → Bool} {held : Bool} {t : Nat} {d : DataW H} {ps : List MemPlace} {s : ByteArray}
    (ht : P.underlying t = some .string) (hd : DataW.Trod enc P w base sp held t (.string s) d ps) : d = .lit (.string s.data.toList) := by
  obtain ⟨fuel, hd⟩ := hd
  obtain ⟨s', h1, h2, _⟩ := DataW.trod_string ht hd
  obtain rfl : s = s' := by
    have : ([Value.string s] : List Value) = [.string s'] := h1
    simpa using this
  exact (Prod.mk.inj h2).1
end Go.Ab
