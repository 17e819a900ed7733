/- The relation between abstract states and the model's, and how it is kept. -/
import Derived.Test.YtfooilbkiclplaaAbC
namespace Go.Ab

/-! ### Lists, place by place -/
def F2 {α β : Type} (R : α → β → Prop) (xs : List α) (ys : List β) : Prop :=
  xs.length = ys.length ∧ ∀ (i : Nat) x y, xs[i]? = some x → ys[i]? = some y → R x y
theorem F2.nil {α β : Type} {R : α → β → Prop} : F2 R [] [] := ⟨rfl, fun i x y h => by simp at h⟩
theorem F2.cons {α β : Type} {R : α → β → Prop} {x : α} {y : β} {xs : List α} {ys : List β} (h : R x y) (t : F2 R xs ys) : F2 R (x :: xs) (y :: ys) := by
  refine ⟨by simp [t.1], fun i a b ha hb => ?_⟩
  cases i with
  | zero => simp at ha hb; subst ha; subst hb; exact h
  | succ i => simp at ha hb; exact t.2 i a b ha hb
theorem F2.tail {α β : Type} {R : α → β → Prop} {x : α} {y : β} {xs : List α} {ys : List β} (h : F2 R (x :: xs) (y :: ys)) : R x y ∧ F2 R xs ys :=
  ⟨h.2 0 x y rfl rfl, by have := h.1; simp at this; exact this, fun i a b ha hb => h.2 (i + 1) a b (by simp [ha]) (by simp [hb])⟩
theorem F2.inv {α β : Type} {R : α → β → Prop} {x : α} {xs : List α} {ys : List β} (h : F2 R (x :: xs) ys) : ∃ y t, ys = y :: t ∧ R x y ∧ F2 R xs t := by
  cases ys with
  | nil => exact absurd h.1 (by simp)
  | cons y t => exact ⟨y, t, rfl, h.tail⟩
theorem F2.inv_nil {α β : Type} {R : α → β → Prop} {ys : List β} (h : F2 R [] ys) : ys = [] := by
  cases ys with
  | nil => rfl
  | cons y t => exact absurd h.1 (by simp)
theorem F2.mono {α β : Type} {R R' : α → β → Prop} {xs : List α} {ys : List β} (h : F2 R xs ys) (hr : ∀ x y, R x y → R' x y) : F2 R' xs ys :=
  ⟨h.1, fun i x y hx hy => hr _ _ (h.2 i x y hx hy)⟩
theorem F2.append {α β : Type} {R : α → β → Prop} {xs xs' : List α} {ys ys' : List β} (h : F2 R xs ys) (h' : F2 R xs' ys') : F2 R (xs ++ xs') (ys ++ ys') := by
  refine ⟨by simp [h.1, h'.1], fun i x y hx hy => ?_⟩
  rw [List.getElem?_append] at hx hy
  rw [h.1] at hx
  by_cases hi : i < ys.length
  · simp only [hi, if_true] at hx hy; exact h.2 i x y hx hy
  · simp only [hi, if_false] at hx hy; exact h'.2 _ x y hx hy
theorem F2.map_left {α β γ : Type} {R : α → β → Prop} {f : γ → α} {xs : List γ} {ys : List β} (h : F2 (fun c v => R (f c) v) xs ys) : F2 R (xs.map f) ys := by
  refine ⟨by simp [h.1], fun i x y hx hy => ?_⟩
  rw [List.getElem?_map] at hx
  cases hc : xs[i]? with
  | none => simp [hc] at hx
  | some c => simp [hc] at hx; subst hx; exact h.2 i c y hc hy
theorem F2.get {α β : Type} {R : α → β → Prop} {xs : List α} {ys : List β} (h : F2 R xs ys) {i : Nat} {x : α} (hx : xs[i]? = some x) : ∃ y, ys[i]? = some y ∧ R x y := by
  have hi : i < ys.length := by rw [← h.1]; exact (List.getElem?_eq_some_iff.1 hx).1
  exact ⟨ys[i], List.getElem?_eq_getElem hi, h.2 i x _ hx (List.getElem?_eq_getElem hi)⟩

/-! ### Maps -/
theorem beq_true {k n : Nat} : Nat.beq k n = true ↔ k = n := Nat.beq_eq ▸ Iff.rfl
theorem beq_ite {α : Sort _} (k n : Nat) (a b : α) : (bif Nat.beq k n then a else b) = if k = n then a else b := by
  by_cases h : k = n
  · rw [if_pos h, beq_true.2 h]; rfl
  · rw [if_neg h]
    cases hb : Nat.beq k n with
    | false => rfl
    | true => exact absurd (beq_true.1 hb) h
theorem get_del {α : Type} (l : List (Nat × α)) (n m : Nat) : get (del l n) m = if n = m then none else get l m := by
  induction l with
  | nil => simp [del, get]
  | cons p t ih =>
    obtain ⟨k, v⟩ := p
    simp only [del, get, beq_ite]
    by_cases hkn : k = n
    · subst hkn
      rw [if_pos rfl, ih]
      by_cases h : k = m <;> simp [h]
    · rw [if_neg hkn]
      simp only [get, beq_ite, ih]
      by_cases hkm : k = m
      · subst hkm; simp [Ne.symm hkn]
      · simp [hkm]
theorem get_put {α : Type} (l : List (Nat × α)) (n m : Nat) (x : α) : get (put l n x) m = if n = m then some x else get l m := by
  simp only [put, get, beq_ite, get_del]
  by_cases h : n = m <;> simp [h]
theorem has_iff (l : List Nat) (n : Nat) : has l n = true ↔ n ∈ l := by
  induction l with
  | nil => simp [has]
  | cons k t ih =>
    simp only [has, beq_ite, List.mem_cons]
    by_cases h : k = n
    · simp [h]
    · simp [h, ih, Ne.symm h]

/-! ### What a cell stands for -/
def blkOf : Value → Option Nat
  | .pointer (some a) => some a.block
  | .slice (some a) _ _ => some a.block
  | _ => none

variable {G : Sig}
inductive Rd (G : Sig) (S : Nat → Prop) (h : Array Obj) : Cv G.T → Value → Prop
  | sc (v : Value) (hv : isSc v = true) : Rd G S h (.sc v) v
  | nil (t : Nat) (a : Option Addr) (cap : Nat) : Rd G S h (.ro t []) (.slice a 0 cap)
  | ro (t : Nat) (l : List (G.T t)) (b off cap : Nat) (c : Array Value) (te : TypeId) (fz : Nat × Nat) (vs : Nat → Nat → Value)
      (hS : S b) (hb : h[b]? = some (.cells c te fz)) (hcap : l.length ≤ cap)
      (hc : ∀ i j, i < l.length → j < G.sz t → c[off + i * G.sz t + j]? = some (vs i j))
      (hr : ∀ (i j : Nat) (x : G.T t) (cv : Cv G.T), l[i]? = some x → (G.enc t x)[j]? = some cv → Rd G S h cv (vs i j)) :
      Rd G S h (.ro t l) (.slice (some ⟨b, off, none⟩) l.length cap)
  | rp (t : Nat) (x : G.T t) (off b base : Nat) (c : Array Value) (te : TypeId) (fz : Nat × Nat) (vs : Nat → Value)
      (hS : S b) (hb : h[b]? = some (.cells c te fz))
      (hc : ∀ j, j < G.sz t → c[base + j]? = some (vs j))
      (hr : ∀ (j : Nat) (cv : Cv G.T), (G.enc t x)[j]? = some cv → Rd G S h cv (vs j)) :
      Rd G S h (.rp t x off) (.pointer (some ⟨b, base + off, none⟩))

def RPtr (ν : Nat → Option Value) (p : Nat × Nat) (v : Value) : Prop :=
  ∃ b, ν p.1 = some (.pointer (some ⟨b, 0, none⟩)) ∧ v = .pointer (some ⟨b, p.2, none⟩)
def Rc (G : Sig) (ν : Nat → Option Value) (S : Nat → Prop) (h : Array Obj) : Cv G.T → Value → Prop
  | .ptr n off, v => RPtr ν (n, off) v
  | .pd n off s len i, v => i < len ∧ RPtr ν (n, off + i * s) v
  | .pr n t i off, v => ∃ b len cap, ν n = some (.slice (some ⟨b, 0, none⟩) len cap) ∧ i < len ∧ v = .pointer (some ⟨b, i * G.sz t + off, none⟩)
  | .own n, v => ∃ a len cap, ν n = some v ∧ v = .slice a len cap
  | .clo f p q, v => ∃ vp vq : List Value, v = .func (.func f) vp.toArray vq.toArray ∧ F2 (RPtr ν) p vp ∧ F2 (RPtr ν) q vq
  | c, v => Rd G S h c v
inductive Rp (G : Sig) (ν : Nat → Option Value) (S : Nat → Prop) (h : Array Obj) : Pv G.T → Value → Prop
  | one (c : Cv G.T) (v : Value) (hc : Rc G ν S h c v) : Rp G ν S h (.one c) v
  | agg (cs : List (Cv G.T)) (vs : List Value) (hc : F2 (Rc G ν S h) cs vs) : Rp G ν S h (.agg cs) (.agg vs.toArray)
inductive Rs (G : Sig) (ν : Nat → Option Value) (S : Nat → Prop) (h : Array Obj) : Sv G.T → Value → Prop
  | p (x : Pv G.T) (v : Value) (hc : Rp G ν S h x v) : Rs G ν S h (.p x) v
  | tup (xs : List (Pv G.T)) (vs : List Value) (hc : F2 (Rp G ν S h) xs vs) : Rs G ν S h (.tup xs) (.tuple vs.toArray)

/-- The elements of an owned row, as they lie. -/
def RRow (G : Sig) (S : Nat → Prop) (h : Array Obj) (t : Nat) (l : List (G.T t)) (c : Array Value) : Prop :=
  ∀ (i j : Nat) (x : G.T t) (cv : Cv G.T), l[i]? = some x → (G.enc t x)[j]? = some cv → ∃ v, c[i * G.sz t + j]? = some v ∧ Rd G S h cv v
def Rb (G : Sig) (ν : Nat → Option Value) (S : Nat → Prop) (h : Array Obj) (n : Nat) : Blk G.T → Prop
  | .cells cs => ∃ b c te, ν n = some (.pointer (some ⟨b, 0, none⟩)) ∧ h[b]? = some (.cells c te (0, 0)) ∧ F2 (Rc G ν S h) cs c.toList
  | .row t l => (ν n = some (.slice none 0 0) ∧ l = []) ∨
      ∃ b cap c te, ν n = some (.slice (some ⟨b, 0, none⟩) l.length cap) ∧ h[b]? = some (.cells c te (0, 0)) ∧ l.length ≤ cap ∧ c.size = cap * G.sz t ∧ RRow G S h t l c ∧ te = t ∧ cap ≤ maxLen

/-! ### The relation is kept when what it speaks of is kept -/
theorem Rd.mono {S S' : Nat → Prop} {h h' : Array Obj} (hS : ∀ b, S b → S' b) (hh : ∀ b, S b → h'[b]? = h[b]?) {c : Cv G.T} {v : Value} (r : Rd G S h c v) : Rd G S' h' c v := by
  induction r with
  | sc v hv => exact .sc v hv
  | nil t a cap => exact .nil t a cap
  | ro t l b off cap c te fz vs h1 h2 h3 h4 _ ih => exact .ro t l b off cap c te fz vs (hS b h1) ((hh b h1).trans h2) h3 h4 ih
  | rp t x off b base c te fz vs h1 h2 h3 _ ih => exact .rp t x off b base c te fz vs (hS b h1) ((hh b h1).trans h2) h3 ih

structure Le (ν ν' : Nat → Option Value) (S S' : Nat → Prop) (h h' : Array Obj) : Prop where
  nu : ∀ n x, ν n = some x → ν' n = some x
  st : ∀ b, S b → S' b
  hp : ∀ b, S b → h'[b]? = h[b]?
theorem Le.refl {ν : Nat → Option Value} {S : Nat → Prop} {h : Array Obj} : Le ν ν S S h h := ⟨fun _ _ h => h, fun _ h => h, fun _ _ => rfl⟩
section
variable {ν ν' : Nat → Option Value} {S S' : Nat → Prop} {h h' : Array Obj}
theorem RPtr.mono (hn : ∀ n x, ν n = some x → ν' n = some x) {p : Nat × Nat} {v : Value} (r : RPtr ν p v) : RPtr ν' p v :=
  let ⟨b, h1, h2⟩ := r
  ⟨b, hn _ _ h1, h2⟩
theorem Rc.mono (le : Le ν ν' S S' h h') {c : Cv G.T} {v : Value} (r : Rc G ν S h c v) : Rc G ν' S' h' c v := by
  cases c with
  | ptr n off => exact RPtr.mono le.nu r
  | pd n off s len i => exact ⟨r.1, RPtr.mono le.nu r.2⟩
  | pr n t i off => obtain ⟨b, len, cap, h1, h2, h3⟩ := r; exact ⟨b, len, cap, le.nu _ _ h1, h2, h3⟩
  | own n => obtain ⟨a, len, cap, h1, h2⟩ := r; exact ⟨a, len, cap, le.nu _ _ h1, h2⟩
  | clo f p q =>
    obtain ⟨vp, vq, h1, h2, h3⟩ := r
    exact ⟨vp, vq, h1, h2.mono fun _ _ => RPtr.mono le.nu, h3.mono fun _ _ => RPtr.mono le.nu⟩
  | sc v => exact Rd.mono le.st le.hp r
  | ro t l => exact Rd.mono le.st le.hp r
  | rp t x off => exact Rd.mono le.st le.hp r
theorem Rp.mono (le : Le ν ν' S S' h h') {c : Pv G.T} {v : Value} (r : Rp G ν S h c v) : Rp G ν' S' h' c v := by
  cases r with
  | one c v hc => exact .one c v (hc.mono le)
  | agg cs vs hc => exact .agg cs vs (hc.mono fun _ _ => Rc.mono le)
theorem Rs.mono (le : Le ν ν' S S' h h') {c : Sv G.T} {v : Value} (r : Rs G ν S h c v) : Rs G ν' S' h' c v := by
  cases r with
  | p x v hc => exact .p x v (hc.mono le)
  | tup xs vs hc => exact .tup xs vs (hc.mono fun _ _ => Rp.mono le)
theorem Rb.mono (le : Le ν ν' S S' h h') {n : Nat} (hb : ∀ x b, ν n = some x → blkOf x = some b → h'[b]? = h[b]?) {k : Blk G.T} (r : Rb G ν S h n k) : Rb G ν' S' h' n k := by
  cases k with
  | cells cs =>
    obtain ⟨b, c, te, h1, h2, h3⟩ := r
    exact ⟨b, c, te, le.nu _ _ h1, (hb _ b h1 rfl).trans h2, h3.mono fun _ _ => Rc.mono le⟩
  | row t l =>
    rcases r with ⟨h1, h2⟩ | ⟨b, cap, c, te, h1, h2, h3, h4, h5⟩
    · exact .inl ⟨le.nu _ _ h1, h2⟩
    · refine .inr ⟨b, cap, c, te, le.nu _ _ h1, (hb _ b h1 rfl).trans h2, h3, h4, fun i j x cv hx hc => ?_, h5.2⟩
      obtain ⟨v, hv, hr⟩ := h5.1 i j x cv hx hc
      exact ⟨v, hv, hr.mono le.st le.hp⟩
end

/-! ### Memory as a whole -/
structure HRel (G : Sig) (ν : Nat → Option Value) (S B : Nat → Prop) (hp : Nat → Option (Blk G.T)) (w : World) : Prop where
  blk : ∀ n k, hp n = some k → Rb G ν S w.heap n k
  apart : ∀ n m x y b, hp n ≠ none → hp m ≠ none → ν n = some x → ν m = some y → blkOf x = some b → blkOf y = some b → n = m
  own : ∀ n x b, hp n ≠ none → ν n = some x → blkOf x = some b → ¬ S b ∧ B b
  stay : ∀ b, S b → b < w.heap.size

/-- What lies behind an operation, or a call. -/
structure Post (G : Sig) (ν : Nat → Option Value) (S B : Nat → Prop) (hp : Nat → Option (Blk G.T)) (w : World) (out : Out G)
    (hp' : Nat → Option (Blk G.T)) (ν' : Nat → Option Value) (S' : Nat → Prop) (w' : World) (v : Value) : Prop where
  nu : ∀ n x, ν n = some x → ν' n = some x
  new : ∀ n, ν' n ≠ none → ν n ≠ none ∨ n ∈ out.nw
  st : ∀ b, S b → S' b
  stn : ∀ b, S' b → S b ∨ w.heap.size ≤ b
  rel : HRel G ν' S' B hp' w'
  val : ∀ s, out.v = some s → Rs G ν' S' w'.heap s v
  size : w.heap.size ≤ w'.heap.size
  frame : ∀ b, b < w.heap.size → (∀ n x, hp n ≠ none → ν n = some x → blkOf x ≠ some b) → w'.heap[b]? = w.heap[b]?
  env : w'.os = w.os ∧ w'.tape = w.tape ∧ w'.output = w.output
theorem Post.le {ν : Nat → Option Value} {S B : Nat → Prop} {hp : Nat → Option (Blk G.T)} {w : World} {out : Out G}
    {hp' : Nat → Option (Blk G.T)} {ν' : Nat → Option Value} {S' : Nat → Prop} {w' : World} {v : Value} (hr : HRel G ν S B hp w)
    (p : Post G ν S B hp w out hp' ν' S' w' v) : Le ν ν' S S' w.heap w'.heap :=
  ⟨p.nu, p.st, fun b hb => p.frame b (hr.stay b hb) fun n x hn hx e => (hr.own n x b hn hx e).1 hb⟩

end Go.Ab
