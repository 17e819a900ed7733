/- Layer 2: the sum of 8 bits, the program's and the reference's. -/
import Derived.Test.YthdomhdippmaiaaGreatOvBase
import Derived.Test.YthdomhdippmaiaaGreatDefs2
namespace Go.Ovl
open Go Go.Ab
set_option maxRecDepth 100000
def bl (s : ByteArray) : List UInt8 := s.data.toList
theorem nwe' {a c : ByteArray} (h : bl a = bl c) : a = c := by
  apply ByteArray.ext
  unfold bl at h
  exact Array.toList_inj.1 h
theorem n26' (a c : ByteArray) : bl (a ++ c) = bl a ++ bl c := by simp [bl]
theorem nxh' (a : ByteArray) (i j : Nat) : bl (a.extract i j) = ((bl a).drop i).take (j - i) := by simp [bl]
theorem nhc' (a : ByteArray) : (bl a).length = a.size := by simp [bl]
theorem bl_mk (l : List UInt8) : bl ⟨l.toArray⟩ = l := by simp [bl]
theorem nvb' (s : ByteArray) (i : Nat) : nd1' s i = (((bl s).getD i 0).toNat : Int) := by
  unfold nd1' bl
  simp [Array.getD_eq_getD_getElem?, List.getD_eq_getElem?_getD]
def step8 (r : Nat) : Nat := if 128 ≤ r then (r * 2 % 256) ^^^ 7 else r * 2 % 256
def it8 : Nat → Nat → Nat
  | 0, r => r
  | k + 1, r => it8 k (step8 r)
def byte8 (r x : Nat) : Nat := it8 8 (r ^^^ x)
def sum8L (l : List UInt8) : Nat := l.foldl (fun r x => byte8 r x.toNat) 0
theorem nww' {r : Nat} (_h : r < 256) : step8 r < 256 := by
  unfold step8
  split
  · exact Nat.xor_lt_two_pow (n := 8) (by omega) (by decide)
  · omega
theorem n2j' : ∀ (k : Nat) {r : Nat}, r < 256 → it8 k r < 256
  | 0, _, h => h
  | k + 1, _, h => n2j' k (nww' h)
theorem nwj' {r x : Nat} (h : r < 256) (h' : x < 256) : byte8 r x < 256 := n2j' 8 (Nat.xor_lt_two_pow (n := 8) h h')
theorem n46' (l : List UInt8) : ∀ r : Nat, r < 256 → l.foldl (fun r x => byte8 r x.toNat) r < 256 := by
  induction l with
  | nil => exact fun r h => h
  | cons x t ih =>
    intro r h
    rw [List.foldl_cons]
    have hx : x.toNat < 256 := UInt8.toNat_lt x
    exact ih _ (nwj' h hx)
theorem n47' (l : List UInt8) : sum8L l < 256 := n46' l 0 (by omega)
theorem nmd' {n : Int} (h : 0 ≤ n) (h' : n < 256) : IntKind.u8.wrap n = n := by
  simp only [IntKind.wrap, IntKind.signed, IntKind.bits]
  simp
  omega
theorem xor8 {a c : Nat} (ha : a < 256) (hc : c < 256) : IntKind.u8.wrap (stk (a : Int) (c : Int) (BitVec.toNat ((BitVec.ofInt (IntKind.bits .u8) (a : Int)) ^^^ (BitVec.ofInt (IntKind.bits .u8) (c : Int))))) = ((a ^^^ c : Nat) : Int) := by
  have h := Nat.xor_lt_two_pow (n := 8) ha hc
  rw [nxl', BitVec.toNat_xor, BitVec.toNat_ofInt, BitVec.toNat_ofInt]
  rw [show (((a : Int)) % ((2 ^ IntKind.bits .u8 : Nat) : Int)).toNat = a by simp only [IntKind.bits]; omega, show (((c : Int)) % ((2 ^ IntKind.bits .u8 : Nat) : Int)).toNat = c by simp only [IntKind.bits]; omega]
  exact nmd' (by omega) (by omega)
theorem fold8 : ∀ (k i r : Nat), foldN (fun _ r => step8 r) k i r = it8 k r
  | 0, _, _ => rfl
  | k + 1, i, r => fold8 k (i + 1) (step8 r)
theorem n3i' (s : ByteArray) (s7 s8 : Int) {r k : Nat} (hr : r < 256) (hk : k < 8) : nj9' s (r : Int) s7 s8 (k : Int) = some (Sum.inl ((s, ((step8 r : Nat) : Int), s7, s8, ((k + 1 : Nat) : Int), ()), ())) := by
  unfold nj9'
  have w : IntKind.i64.wrap ((k : Int) + 1) = ((k + 1 : Nat) : Int) := by rw [nb' (by omega) (by omega)]; omega
  have h0 : IntKind.u8.wrap ((r : Int) * ((2 : Int) ^ (Min.min (Int.toNat (1 : Int)) (IntKind.bits IntKind.u8)))) = ((r * 2 % 256 : Nat) : Int) := by
    rw [show ((2 : Int) ^ (Min.min (Int.toNat (1 : Int)) (IntKind.bits IntKind.u8))) = 2 from rfl]
    simp only [IntKind.wrap, IntKind.signed, IntKind.bits]
    simp
  have h1 : IntKind.u8.wrap ((Int.fdiv (r : Int) ((2 : Int) ^ (Min.min (Int.toNat (7 : Int)) (IntKind.bits IntKind.u8)))) * (7 : Int)) = (((if 128 ≤ r then 7 else 0) : Nat) : Int) := by
    rw [show ((2 : Int) ^ (Min.min (Int.toNat (7 : Int)) (IntKind.bits IntKind.u8))) = 128 from rfl, Int.fdiv_eq_ediv_of_nonneg _ (by omega)]
    split
    · rw [show (r : Int) / 128 = 1 by omega]; rfl
    · rw [show (r : Int) / 128 = 0 by omega]; rfl
  simp only [decide_eq_true (show (k : Int) < 8 by omega), cond_true, h0, h1, w]
  rw [xor8 (by omega) (by split <;> omega)]
  unfold step8
  split
  · rfl
  · rw [Nat.xor_zero]
theorem n1c' (s : ByteArray) (s7 s8 : Int) {r : Nat} (hr : r < 256) : nkj' ((s, (r : Int), s7, s8, (0 : Int), ()), ()) = some ((s, ((it8 8 r : Nat) : Int), s7, s8, ()), ()) := by
  have h := ndr' (step := fun x => nj9' x.1.1 x.1.2.1 x.1.2.2.1 x.1.2.2.2.1 x.1.2.2.2.2.1) 8 (fun k r => ((s, ((r : Nat) : Int), s7, s8, (k : Int), ()), ())) (fun _ r => step8 r) (fun _ r => r < 256) (fun r => ((s, ((r : Nat) : Int), s7, s8, ()), ())) (fun k r hk hr => ⟨n3i' s s7 s8 hr hk, nww' hr⟩) (fun r _ => rfl) 8 0 r rfl hr
  have h' := h.1
  rw [fold8] at h'
  exact nf' h' (by omega)
theorem nno' {α β : Type} (f : β → α → β) (d : α) : ∀ (l : List α) (k i : Nat) (s : β), i + k = l.length → foldN (fun i s => f s (l.getD i d)) k i s = (l.drop i).foldl f s
  | l, 0, i, s, h => by
    obtain rfl : i = l.length := by omega
    simp [foldN]
  | l, k + 1, i, s, h => by
    have hi : i < l.length := by omega
    simp only [foldN]
    rw [nno' f d l k (i + 1) _ (by omega), List.drop_eq_getElem_cons hi, List.foldl_cons]
    simp [hi]
theorem nqv' {s : ByteArray} (hs : s.size ≤ 1000000) : njw' s = some ((((sum8L (bl s) : Nat) : Int), ()), ()) := by
  have h := ndr' (step := fun x => ngn' x.1.1 x.1.2.1 x.1.2.2.1 x.1.2.2.2.1) s.size (fun i r => ((s, ((r : Nat) : Int), ((s.size : Nat) : Int), (i : Int), ()), ())) (fun i r => byte8 r ((bl s).getD i 0).toNat) (fun _ r => r < 256) (fun r => ((((r : Nat) : Int), ()), ())) (fun i r hi hr => by
    have hx := UInt8.toNat_lt ((bl s).getD i 0)
    refine ⟨?_, nwj' hr hx⟩
    show ngn' s ((r : Nat) : Int) ((s.size : Nat) : Int) (i : Int) = _
    have w : IntKind.i64.wrap ((i : Int) + 1) = ((i + 1 : Nat) : Int) := by rw [nb' (by omega) (by omega)]; omega
    unfold ngn'
    simp only [decide_eq_true (show (i : Int) < (s.size : Int) by omega), nc' (show (0 : Int) ≤ (i : Int) by omega) (show (i : Int) < (s.size : Int) by omega), cond_true, Int.toNat_natCast, nvb']
    rw [xor8 hr hx, n1c' s _ _ (Nat.xor_lt_two_pow (n := 8) hr hx), Option.bind_some, w]
    rfl) (fun r _ => by
    show ngn' s ((r : Nat) : Int) ((s.size : Nat) : Int) ((s.size : Nat) : Int) = _
    unfold ngn'
    simp only [decide_eq_false (Int.lt_irrefl (s.size : Int)), cond_false]) s.size 0 0 (by omega) (by omega)
  have h' := nf' h.1 (by omega)
  rw [nno' (fun r (x : UInt8) => byte8 r x.toNat) 0 (bl s) s.size 0 0 (by rw [nhc']; omega), List.drop_zero] at h'
  unfold njw'
  rw [show nkk' ((s, (0 : Int), ((s.size : Nat) : Int), (0 : Int), ()), ()) = _ from h']
  rfl
end Go.Ovl
