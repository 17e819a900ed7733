/- The arguments of a law, as the statement reads them, as values of plain types. -/
import Derived.Test.YtfooilbkiclplaaAb26
import Derived.ProofKit
import Derived.OpenShut
import Derived.Deep.Slices
namespace Go.Ab
variable {G : Sig}

/-- The cells of a type, one after the other. -/
def shF (G : Sig) (r : Nat → Option (List CSh)) : List (Nat × Nat) → Nat → Option (List CSh)
  | [], _ => some []
  | p :: t, off => bif Nat.beq p.1 off then match r p.2, shF G r t (off + G.sz p.2) with
    | some a, some b => bif Nat.beq a.length (G.sz p.2) then some (a ++ b) else none
    | _, _ => none
    else none
def repL {α : Type} (a : List α) : Nat → List α
  | 0 => []
  | n + 1 => a ++ repL a n
def shl (G : Sig) : Nat → Nat → Option (List CSh)
  | 0, _ => none
  | d + 1, t => match G.ty t with
    | .bool => some [.bool]
    | .int k => some [.int k]
    | .str => some [.str]
    | .sl e => some [.ro e]
    | .st fs => match shF G (shl G d) fs 0 with
      | some a => bif Nat.beq a.length (G.sz t) then some a else none
      | none => none
    | .arr n e => match shl G d e with
      | some a => bif Nat.beq a.length (G.sz e) && Nat.beq (n * G.sz e) (G.sz t) then some (repL a n) else none
      | none => none
    | _ => none
/-- What is known of what stands in a cell. -/
inductive WfC (G : Sig) : Cv G.T → Prop
  | bool (b : Bool) : WfC G (.sc (.bool b))
  | int (k : IntKind) (n : Int) (h : (Lit.int k n).wf = true) : WfC G (.sc (.int k n))
  | str (s : ByteArray) (h : s.size ≤ maxLen) : WfC G (.sc (.string s))
  | ro (t : Nat) (l : List (G.T t)) (h : l.length ≤ maxLen) (he : ∀ (i : Nat) (x : G.T t) (j : Nat) (c : Cv G.T), l[i]? = some x → (G.enc t x)[j]? = some c → WfC G c) : WfC G (.ro t l)
/-- That the elements of slices can be told from their cells. -/
def DecOK (G : Sig) : Prop := ∀ t e, G.ty t = .sl e → ∃ s, shl G 20 e = some s ∧ ∀ x : TL G s, ∃ y, G.dec e (giveL s x) = some y

theorem giveL_append : ∀ (a b : List CSh) (x : TL G a) (y : TL G b), ∃ z : TL G (a ++ b), giveL (a ++ b) z = giveL a x ++ giveL b y
  | [], b, _, y => ⟨y, rfl⟩
  | c :: a, b, x, y => by
    obtain ⟨z, hz⟩ := giveL_append a b x.2 y
    exact ⟨(x.1, z), by simp only [giveL, List.cons_append]; rw [← hz]⟩
theorem giveL_len : ∀ (a : List CSh) (x : TL G a), (giveL a x).length = a.length
  | [], _ => rfl
  | c :: a, x => by simp [giveL, giveL_len a]

section
variable {H : Type} {enc : TypeId × Value → H} {P : Program} (ok : SigOK P G) (dk : DecOK G) {w : World} {sp : Nat → Bool} {hd : Bool}
include ok in
theorem cells_sz {t : Nat} (h : G.ty t ≠ .no) : P.cellsOf t = G.sz t := by
  obtain ⟨i, z, h1, h2, _⟩ := ok.info t h
  unfold Program.cellsOf
  rw [h1]; exact h2
def Opened (G : Sig) (w : World) (s : List CSh) (cs : List Value) : Prop :=
  ∃ x : TL G s, F2 (Rd G (fun b => b < w.heap.size) w.heap) (giveL s x) cs ∧ ∀ c ∈ giveL s x, WfC G c
theorem Opened.append {a b : List CSh} {cs ds : List Value} (h : Opened G w a cs) (g : Opened G w b ds) : Opened G w (a ++ b) (cs ++ ds) := by
  obtain ⟨x, h1, h2⟩ := h
  obtain ⟨y, g1, g2⟩ := g
  obtain ⟨z, hz⟩ := giveL_append a b x y
  refine ⟨z, by rw [hz]; exact h1.append g1, fun c hc => ?_⟩
  rw [hz] at hc
  rcases List.mem_append.1 hc with hc | hc
  · exact h2 c hc
  · exact g2 c hc
theorem Opened.len {a : List CSh} {cs : List Value} (h : Opened G w a cs) : cs.length = a.length := by
  obtain ⟨x, h1, _⟩ := h
  rw [← h1.1, giveL_len]
theorem takeDrop {cs : List Value} {o n m : Nat} (h : o + n ≤ m) : ((cs.take m).drop o).take n = (cs.drop o).take n := by
  rw [List.drop_take, List.take_take]
  congr 1
  omega
theorem fields_open {r : Nat → Option (List CSh)} {cs : List Value} : ∀ (fs : List (Nat × Nat)) (off : Nat) (sh : List CSh), shF G r fs off = some sh →
    (∀ p ∈ fs, ∀ s, r p.2 = some s → Opened G w s ((cs.drop p.1).take (G.sz p.2))) → Opened G w sh ((cs.drop off).take sh.length)
  | [], off, sh, h, _ => by
    simp [shF] at h; subst h
    exact ⟨(), by simp [giveL]; exact .nil, fun c hc => by simp [giveL] at hc⟩
  | p :: t, off, sh, h, hp => by
    simp only [shF, beq_ite] at h
    by_cases e : p.1 = off
    · rw [if_pos e] at h
      split at h
      · rename_i a b ha hb
        by_cases hl : a.length = G.sz p.2
        · rw [if_pos hl] at h; simp at h; subst h
          have h1 := hp p (by simp) a ha
          have h2 := fields_open t (off + G.sz p.2) b hb fun q hq s hs => hp q (by simp [hq]) s hs
          rw [e] at h1
          have := h1.append h2
          rw [List.length_append, hl]
          have ht : (cs.drop off).take (G.sz p.2 + b.length) = (cs.drop off).take (G.sz p.2) ++ (cs.drop (off + G.sz p.2)).take b.length := by
            rw [List.take_add, List.drop_drop]
          rw [ht]; exact this
        · rw [if_neg hl] at h; simp at h
      · simp at h
    · rw [if_neg e] at h; simp at h
theorem elems_open {a : List CSh} {cs : List Value} {sz : Nat} (hl : a.length = sz) : ∀ (n : Nat) (i : Nat), (∀ j, i ≤ j → j < i + n → Opened G w a ((cs.drop (j * sz)).take sz)) → Opened G w (repL a n) ((cs.drop (i * sz)).take (n * sz))
  | 0, i, _ => ⟨(), by simp [giveL, repL]; exact .nil, fun c hc => by simp [giveL, repL] at hc⟩
  | n + 1, i, h => by
    have h1 := h i (Nat.le_refl _) (by omega)
    have h2 := elems_open hl n (i + 1) fun j h3 h4 => h j (by omega) (by omega)
    have := h1.append h2
    have ht : (cs.drop (i * sz)).take ((n + 1) * sz) = (cs.drop (i * sz)).take sz ++ (cs.drop ((i + 1) * sz)).take (n * sz) := by
      rw [Nat.add_mul, Nat.one_mul, Nat.add_comm (n * sz), List.take_add, List.drop_drop, Nat.add_mul, Nat.one_mul]
    rw [ht]; exact this
theorem listOf {α : Type} {Q : Nat → α → Prop} : ∀ (n : Nat), (∀ i, i < n → ∃ y, Q i y) → ∃ l : List α, l.length = n ∧ ∀ i y, l[i]? = some y → Q i y
  | 0, _ => ⟨[], rfl, fun i y h => by simp at h⟩
  | n + 1, h => by
    obtain ⟨l, h1, h2⟩ := listOf n fun i hi => h i (by omega)
    obtain ⟨y, hy⟩ := h n (by omega)
    refine ⟨l ++ [y], by simp [h1], fun i z hz => ?_⟩
    rw [List.getElem?_append] at hz
    by_cases hi : i < l.length
    · rw [if_pos hi] at hz; exact h2 i z hz
    · rw [if_neg hi] at hz
      have : i - l.length = 0 := by
        have := (List.getElem?_eq_some_iff.1 hz).1; simp at this; omega
      rw [this] at hz
      simp at hz; subst hz
      have : i = n := by omega
      rw [this]; exact hy
include ok dk in
theorem open_trod : ∀ (fuel d t : Nat) (cs : List Value) (x : DataW H × List MemPlace) (s : List CSh), shl G d t = some s → DataW.trod enc P w 0 sp hd fuel t cs = some x → Opened G w s cs := by
  intro fuel
  induction fuel with
  | zero => intro d t cs x s _ h; simp [DataW.trod] at h
  | succ fuel ih =>
    intro d t cs x s h ht
    cases d with
    | zero => simp [shl] at h
    | succ d =>
    simp only [shl] at h
    cases hty : G.ty t with
    | bool =>
      rw [hty] at h; simp at h; subst h
      obtain ⟨b, rfl, _⟩ := DataW.trod_bool (ok.bool t hty) ht
      exact ⟨(b, ()), F2.cons (.sc _ rfl) .nil, fun c hc => by simp [giveL, CSh.give] at hc; subst hc; exact .bool b⟩
    | int k =>
      rw [hty] at h; simp at h; subst h
      obtain ⟨n, rfl, _, hw⟩ := DataW.trod_int (ok.int t k hty) ht
      exact ⟨(n, ()), F2.cons (.sc _ rfl) .nil, fun c hc => by simp [giveL, CSh.give] at hc; subst hc; exact .int k n hw⟩
    | str =>
      rw [hty] at h; simp at h; subst h
      obtain ⟨b, rfl, _, hw⟩ := DataW.trod_string (ok.str t hty) ht
      exact ⟨(b, ()), F2.cons (.sc _ rfl) .nil, fun c hc => by simp [giveL, CSh.give] at hc; subst hc; exact .str b hw⟩
    | st fs =>
      rw [hty] at h
      obtain ⟨fields, hund, hmap, hno⟩ := ok.strc t fs hty
      obtain ⟨xs, n, hn, _, hlen, hxs, hf⟩ := DataW.trod_struct hund ht
      have hn : fuel = n := by omega
      subst hn
      rw [cells_sz ok (t := t) (by rw [hty]; simp)] at hlen
      simp only at h
      split at h
      · rename_i a ha
        simp only [beq_ite] at h
        by_cases hl : a.length = G.sz t
        · rw [if_pos hl] at h; simp at h; subst h
          have := fields_open (w := w) (cs := cs) fs 0 a ha fun p hp q hq => ?_
          · rw [List.drop_zero, List.take_of_length_le (by omega)] at this
            exact this
          · have hp' : p ∈ fields.toList.map (fun f => (f.offset, f.type)) := by rw [hmap]; exact hp
            obtain ⟨f, hfm, rfl⟩ := List.mem_map.1 hp'
            obtain ⟨i, hi⟩ := List.getElem?_of_mem hfm
            have hi' : fields[i]? = some f := by simpa using hi
            have h1 := hf i f hi'
            have hlt : i < xs.length := by rw [hxs]; exact (Array.getElem?_eq_some_iff.1 hi').1
            rw [List.getElem?_eq_getElem hlt, cells_sz ok (hno f.offset f.type hp)] at h1
            exact ih d f.type _ _ q hq h1
        · rw [if_neg hl] at h; simp at h
      · simp at h
    | arr n e =>
      rw [hty] at h
      obtain ⟨hund, hno⟩ := ok.arr t n e hty
      obtain ⟨xs, m, hm, _, hlen, hxs, hf⟩ := DataW.trod_array hund ht
      have hm : fuel = m := by omega
      subst hm
      rw [cells_sz ok (t := t) (by rw [hty]; simp)] at hlen
      simp only at h
      split at h
      · rename_i a ha
        cases hl : (Nat.beq a.length (G.sz e) && Nat.beq (n * G.sz e) (G.sz t)) with
        | false => rw [hl] at h; simp at h
        | true =>
          rw [hl] at h; simp at h; subst h
          simp only [Bool.and_eq_true] at hl
          have hl1 := beq_true.1 hl.1
          have hl2 := beq_true.1 hl.2
          have := elems_open (G := G) (w := w) (cs := cs) hl1 n 0 fun j _ hj => ?_
          · rw [Nat.zero_mul, List.drop_zero, List.take_of_length_le (by omega)] at this
            exact this
          · have h1 := hf j (by omega)
            rw [List.getElem?_eq_getElem (by omega), cells_sz ok hno] at h1
            exact ih d e _ _ a ha h1
      · simp at h
    | sl e =>
      rw [hty] at h; simp at h; subst h
      obtain ⟨hund, hno, _, hencl⟩ := ok.sl t e hty
      obtain ⟨se, hse, hdec⟩ := dk t e hty
      have hsz := cells_sz ok hno
      rcases DataW.trod_slice hund ht with ⟨rfl, _⟩ | ⟨a, len, cap, elems, rest, n, hn, rfl, _, _, hl, hm, hel, hget, _⟩
      · exact ⟨([], ()), F2.cons (.nil _ _ _) .nil, fun c hc => by simp [giveL, CSh.give] at hc; subst hc; exact .ro e [] (Nat.zero_le _) fun i x j c h => by simp at h⟩
      · have hn : fuel = n := by omega
        subst hn
        rw [hsz] at hget
        obtain ⟨l, hll, hlq⟩ := listOf (Q := fun i (y : G.T e) => (∀ j, j < G.sz e → ∃ v, w.cell? ((a.add (i * G.sz e)).add j) = some v ∧ ∀ cv, (G.enc e y)[j]? = some cv → Rd G (fun b => b < w.heap.size) w.heap cv v) ∧ ∀ c ∈ G.enc e y, WfC G c) len fun i hi => by
          have h1 := hget i hi
          rw [List.getElem?_eq_getElem (by omega)] at h1
          cases hc : w.cells? 0 (a.add (i * G.sz e)) (G.sz e) with
          | none => rw [hc] at h1; simp at h1
          | some ci =>
            rw [hc] at h1
            obtain ⟨xe, r1, r2⟩ := ih 20 e ci _ se hse h1
            obtain ⟨y, hy⟩ := hdec xe
            have hye := ok.encdec e _ _ hy
            obtain ⟨_, hcl, hat⟩ := World.cells?_some hc
            refine ⟨y, fun j hj => ?_, fun c hcm => r2 c (by rw [← hye]; exact hcm)⟩
            refine ⟨ci[j]'(by omega), by rw [hat j hj]; exact List.getElem?_eq_getElem (by omega), fun cv hcv => ?_⟩
            rw [hye] at hcv
            exact r1.2 j cv _ hcv (List.getElem?_eq_getElem (by omega))
        refine ⟨(l, ()), F2.cons ?_ .nil, fun c hc => ?_⟩
        · show Rd G _ w.heap (.ro e l) _
          by_cases h0 : len = 0
          · have : l = [] := List.eq_nil_of_length_eq_zero (by omega)
            rw [this, h0]
            exact .nil _ _ _
          · have hpos := ok.pos e hno
            obtain ⟨y0, hy0⟩ : ∃ y0, l[0]? = some y0 := ⟨l[0]'(by omega), List.getElem?_eq_getElem (by omega)⟩
            obtain ⟨v0, hv0, _⟩ := (hlq 0 y0 hy0).1 0 hpos
            obtain ⟨b, off, spot⟩ := a
            have ha0 : ((⟨b, off, spot⟩ : Addr).add (0 * G.sz e)).add 0 = ⟨b, off, spot⟩ := by rw [Nat.zero_mul]; rfl
            rw [ha0] at hv0
            unfold World.cell? at hv0
            simp only at hv0
            split at hv0
            · rename_i c te fz hb
              cases hsp : spot with
              | some z => rw [hsp] at hv0; simp at hv0
              | none =>
                subst hsp
                have hlt : b < w.heap.size := (Array.getElem?_eq_some_iff.1 hb).1
                rw [← hll]
                have hcell : ∀ i j, i < l.length → j < G.sz e → ∃ v, c[off + i * G.sz e + j]? = some v ∧ ∀ y cv, l[i]? = some y → (G.enc e y)[j]? = some cv → Rd G (fun b => b < w.heap.size) w.heap cv v := by
                  intro i j hi hj
                  obtain ⟨v, hv, hq⟩ := (hlq i _ (List.getElem?_eq_getElem hi)).1 j hj
                  refine ⟨v, ?_, fun y cv hy hcv => hq cv ?_⟩
                  · rw [add_mk, add_mk] at hv
                    unfold World.cell? at hv
                    simp only [hb] at hv
                    simpa using hv
                  · rw [List.getElem?_eq_getElem hi] at hy
                    simp at hy; rw [hy]; exact hcv
                refine .ro e l b off cap c te fz (fun i j => c.getD (off + i * G.sz e + j) undef) hlt hb (by omega) (fun i j hi hj => ?_) (fun i j y cv hy hcv => ?_)
                · obtain ⟨v, hv, _⟩ := hcell i j hi hj
                  rw [hv]; simp [Array.getD_eq_getD_getElem?, hv]
                · have hi : i < l.length := (List.getElem?_eq_some_iff.1 hy).1
                  have hj : j < G.sz e := by rw [← hencl y]; exact (List.getElem?_eq_some_iff.1 hcv).1
                  obtain ⟨v, hv, hq⟩ := hcell i j hi hj
                  have : c.getD (off + i * G.sz e + j) undef = v := by simp [Array.getD_eq_getD_getElem?, hv]
                  rw [this]
                  exact hq y cv hy hcv
            · simp at hv0
        · simp [giveL, CSh.give] at hc; subst hc
          exact .ro e l (by omega) fun i y j c hy hc => (hlq i y hy).2 c (List.mem_of_getElem? hc)
    | _ => rw [hty] at h; simp at h
end
end Go.Ab
