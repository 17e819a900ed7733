/- Plain facts: wrapped numbers, loops by rounds, strings. -/
import Derived.Test.YthdomhdippmaiaaGreatAbE
namespace Go.Ovl
open Go Go.Ab
theorem nb' {n : Int} (h : -9223372036854775808 ≤ n) (h' : n < 9223372036854775808) : IntKind.i64.wrap n = n := by
  rw [IntKind.wrap_i64]; omega
theorem nrx' {n : Int} (h : 0 ≤ n) (h' : n < 18446744073709551616) : IntKind.u64.wrap n = n := by
  simp only [IntKind.wrap, IntKind.signed, IntKind.bits]
  simp
  omega
theorem nc' {i : Int} {n : Nat} (h : 0 ≤ i) (h' : i < n) : inB i n = true := by simp [inB]; omega
theorem nbn' {a b : Nat} (h : a ≤ b) : Nat.ble a b = true := Nat.ble_eq.symm ▸ h
theorem nyj' (s : ByteArray) : s.toList = s.data.toList := ByteArray.toList_eq s
theorem n5j' {a b : ByteArray} : eqB a b = true ↔ a = b := by
  constructor
  · intro h
    simp [eqB, nyj'] at h
    exact ByteArray.ext h
  · rintro rfl; simp [eqB]
theorem n38' (a : ByteArray) : eqB a a = true := n5j'.2 rfl
theorem bne_t {α : Type} [BEq α] [LawfulBEq α] {a b : α} (h : ¬a = b) : (a != b) = true := by simpa using h
theorem beq_f {α : Type} [BEq α] [LawfulBEq α] {a b : α} (h : ¬a = b) : (a == b) = false := by simpa using h
section
variable {X Y : Type} {step : X → Option (Sum X Y)}
theorem nb4' {f : Nat} {x x' : X} (h : step x = some (.inl x')) : iter step (f + 1) x = iter step f x' := by simp only [iter, h, nlb']
theorem n6' {f : Nat} {x : X} {y : Y} (h : step x = some (.inr y)) : iter step (f + 1) x = some y := by simp only [iter, h, nlb']
theorem nvl' : ∀ {f : Nat} {x : X} {y : Y}, iter step f x = some y → ∀ {g : Nat}, f ≤ g → iter step g x = some y
  | 0, _, _, h, _, _ => by simp [iter] at h
  | f + 1, x, y, h, 0, hg => by omega
  | f + 1, x, y, h, g + 1, hg => by
    simp only [iter] at h ⊢
    cases hs : step x with
    | none => rw [hs] at h; simp [nlb'] at h
    | some z =>
      rw [hs] at h
      cases z with
      | inl x' => exact nvl' (f := f) (g := g) h (by omega)
      | inr y' => exact h
theorem nf' {f : Nat} {x : X} {y : Y} (h : iter step f x = some y) (hf : f ≤ 18446744073709551616) : iter step fuel x = some y := nvl' h hf
theorem ny8' (Q : X → Y → Prop) (m : X → Nat) (hs : ∀ x y, Q x y → (∃ x', step x = some (.inl x') ∧ Q x' y ∧ m x' < m x) ∨ step x = some (.inr y)) : ∀ (n : Nat) (x : X) (y : Y), Q x y → m x ≤ n → iter step (n + 1) x = some y
  | n, x, y, hq, hm => by
    rcases hs x y hq with ⟨x', h1, h2, h3⟩ | h1
    · cases n with
      | zero => omega
      | succ n => rw [nb4' h1]; exact ny8' Q m hs n x' y h2 (by omega)
    · exact n6' h1
theorem n49' (Q : X → Y → Prop) (m : X → Nat) (hs : ∀ x y, Q x y → (∃ x', step x = some (.inl x') ∧ Q x' y ∧ m x' < m x) ∨ step x = some (.inr y)) {x : X} {y : Y} (hq : Q x y) (hm : m x < 18446744073709551616) : iter step fuel x = some y :=
  nf' (ny8' Q m hs (m x) x y hq (Nat.le_refl _)) hm
theorem nzp' (I : X → Prop) (P : Y → Prop) (m : X → Nat) (hs : ∀ x, I x → (∃ x', step x = some (.inl x') ∧ I x' ∧ m x' < m x) ∨ ∃ y, step x = some (.inr y) ∧ P y) : ∀ (n : Nat) (x : X), I x → m x ≤ n → ∃ y, iter step (n + 1) x = some y ∧ P y
  | n, x, hq, hm => by
    rcases hs x hq with ⟨x', h1, h2, h3⟩ | ⟨y, h1, h2⟩
    · cases n with
      | zero => omega
      | succ n => rw [nb4' h1]; exact nzp' I P m hs n x' h2 (by omega)
    · exact ⟨y, n6' h1, h2⟩
theorem n40' (I : X → Prop) (P : Y → Prop) (m : X → Nat) (hs : ∀ x, I x → (∃ x', step x = some (.inl x') ∧ I x' ∧ m x' < m x) ∨ ∃ y, step x = some (.inr y) ∧ P y) {x : X} (hq : I x) (hm : m x < 18446744073709551616) : ∃ y, iter step fuel x = some y ∧ P y := by
  obtain ⟨y, h1, h2⟩ := nzp' I P m hs (m x) x hq (Nat.le_refl _)
  exact ⟨y, nf' h1 hm, h2⟩
def foldN {S : Type} (h : Nat → S → S) : Nat → Nat → S → S
  | 0, _, s => s
  | m + 1, i, s => foldN h m (i + 1) (h i s)
theorem ndr' {S : Type} (N : Nat) (g : Nat → S → X) (h : Nat → S → S) (inv : Nat → S → Prop) (y : S → Y) (h1 : ∀ i s, i < N → inv i s → step (g i s) = some (.inl (g (i + 1) (h i s))) ∧ inv (i + 1) (h i s))
    (h2 : ∀ s, inv N s → step (g N s) = some (.inr (y s))) : ∀ (m i : Nat) (s : S), i + m = N → inv i s → iter step (m + 1) (g i s) = some (y (foldN h m i s)) ∧ inv N (foldN h m i s)
  | 0, i, s, hi, hs => by
    have : i = N := by omega
    subst this
    exact ⟨n6' (h2 s hs), hs⟩
  | m + 1, i, s, hi, hs => by
    obtain ⟨q1, q2⟩ := h1 i s (by omega) hs
    rw [nb4' q1]
    exact ndr' N g h inv y h1 h2 m (i + 1) (h i s) (by omega) q2
end
def noB : ByteArray := ⟨#[]⟩
theorem n4m' (d : ByteArray) {k : Nat} (h : k ≤ d.size) : (d.extract 0 k).size = k := by simp; omega
end Go.Ovl
