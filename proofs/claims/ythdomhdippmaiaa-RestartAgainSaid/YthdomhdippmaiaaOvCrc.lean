/- Layer 2: the sum of 8 bits, the program's and the reference's. -/
import Derived.Test.YthdomhdippmaiaaOvBase
import Derived.Test.YthdomhdippmaiaaDefs1
namespace Go.Ovl
open Go Go.Ab
set_option maxRecDepth 100000
def bl (s : ByteArray) : List UInt8 := s.data.toList
theorem nnx' {a c : ByteArray} (h : bl a = bl c) : a = c := by
  apply ByteArray.ext
  unfold bl at h
  exact Array.toList_inj.1 h
theorem nmf' (a c : ByteArray) : bl (a ++ c) = bl a ++ bl c := by simp [bl]
theorem nqy' (a : ByteArray) (i j : Nat) : bl (a.extract i j) = ((bl a).drop i).take (j - i) := by simp [bl]
theorem ndf' (a : ByteArray) : (bl a).length = a.size := by simp [bl]
theorem bl_mk (l : List UInt8) : bl ⟨l.toArray⟩ = l := by simp [bl]
theorem nn7' (s : ByteArray) (i : Nat) : nf8' s i = (((bl s).getD i 0).toNat : Int) := by
  unfold nf8' bl
  simp [Array.getD_eq_getD_getElem?, List.getD_eq_getElem?_getD]
def step8 (r : Nat) : Nat := if 128 ≤ r then (r * 2 % 256) ^^^ 7 else r * 2 % 256
def it8 : Nat → Nat → Nat
  | 0, r => r
  | k + 1, r => it8 k (step8 r)
def byte8 (r x : Nat) : Nat := it8 8 (r ^^^ x)
def sum8L (l : List UInt8) : Nat := l.foldl (fun r x => byte8 r x.toNat) 0
theorem np7' {r : Nat} (_h : r < 256) : step8 r < 256 := by
  unfold step8
  split
  · exact Nat.xor_lt_two_pow (n := 8) (by omega) (by decide)
  · omega
theorem nx9' : ∀ (k : Nat) {r : Nat}, r < 256 → it8 k r < 256
  | 0, _, h => h
  | k + 1, _, h => nx9' k (np7' h)
theorem npr' {r x : Nat} (h : r < 256) (h' : x < 256) : byte8 r x < 256 := nx9' 8 (Nat.xor_lt_two_pow (n := 8) h h')
theorem n0v' (l : List UInt8) : ∀ r : Nat, r < 256 → l.foldl (fun r x => byte8 r x.toNat) r < 256 := by
  induction l with
  | nil => exact fun r h => h
  | cons x t ih =>
    intro r h
    rw [List.foldl_cons]
    have hx : x.toNat < 256 := UInt8.toNat_lt x
    exact ih _ (npr' h hx)
theorem nwx' (l : List UInt8) : sum8L l < 256 := n0v' l 0 (by omega)
theorem njd' {n : Int} (h : 0 ≤ n) (h' : n < 256) : IntKind.u8.wrap n = n := by
  simp only [IntKind.wrap, IntKind.signed, IntKind.bits]
  simp
  omega
theorem xor8 {a c : Nat} (ha : a < 256) (hc : c < 256) : IntKind.u8.wrap (stk (a : Int) (c : Int) (BitVec.toNat ((BitVec.ofInt (IntKind.bits .u8) (a : Int)) ^^^ (BitVec.ofInt (IntKind.bits .u8) (c : Int))))) = ((a ^^^ c : Nat) : Int) := by
  have h := Nat.xor_lt_two_pow (n := 8) ha hc
  rw [nqk', BitVec.toNat_xor, BitVec.toNat_ofInt, BitVec.toNat_ofInt]
  rw [show (((a : Int)) % ((2 ^ IntKind.bits .u8 : Nat) : Int)).toNat = a by simp only [IntKind.bits]; omega, show (((c : Int)) % ((2 ^ IntKind.bits .u8 : Nat) : Int)).toNat = c by simp only [IntKind.bits]; omega]
  exact njd' (by omega) (by omega)
theorem xor64 {a c : Nat} (ha : a < 256) (hc : c < 256) : IntKind.i64.wrap (stk (a : Int) (c : Int) (BitVec.toNat ((BitVec.ofInt (IntKind.bits .i64) (a : Int)) ^^^ (BitVec.ofInt (IntKind.bits .i64) (c : Int))))) = ((a ^^^ c : Nat) : Int) := by
  have h := Nat.xor_lt_two_pow (n := 8) ha hc
  rw [nqk', BitVec.toNat_xor, BitVec.toNat_ofInt, BitVec.toNat_ofInt]
  rw [show (((a : Int)) % ((2 ^ IntKind.bits .i64 : Nat) : Int)).toNat = a by simp only [IntKind.bits]; omega, show (((c : Int)) % ((2 ^ IntKind.bits .i64 : Nat) : Int)).toNat = c by simp only [IntKind.bits]; omega]
  exact nb' (by omega) (by omega)
theorem fold8 : ∀ (k i r : Nat), foldN (fun _ r => step8 r) k i r = it8 k r
  | 0, _, _ => rfl
  | k + 1, i, r => fold8 k (i + 1) (step8 r)
theorem nyk' (s : ByteArray) (s7 s8 : Int) {r k : Nat} (hr : r < 256) (hk : k < 8) : niv' s (r : Int) s7 s8 (k : Int) = some (Sum.inl ((s, ((step8 r : Nat) : Int), s7, s8, ((k + 1 : Nat) : Int), ()), ())) := by
  unfold niv'
  have w : IntKind.i64.wrap ((k : Int) + 1) = ((k + 1 : Nat) : Int) := by rw [nb' (by omega) (by omega)]; omega
  have h0 : IntKind.u8.wrap ((r : Int) * ((2 : Int) ^ (Min.min (Int.toNat (1 : Int)) (IntKind.bits IntKind.u8)))) = ((r * 2 % 256 : Nat) : Int) := by
    rw [show ((2 : Int) ^ (Min.min (Int.toNat (1 : Int)) (IntKind.bits IntKind.u8))) = 2 from rfl]
    simp only [IntKind.wrap, IntKind.signed, IntKind.bits]
    simp
  have h1 : IntKind.u8.wrap ((Int.fdiv (r : Int) ((2 : Int) ^ (Min.min (Int.toNat (7 : Int)) (IntKind.bits IntKind.u8)))) * (7 : Int)) = (((if 128 ≤ r then 7 else 0) : Nat) : Int) := by
    rw [show ((2 : Int) ^ (Min.min (Int.toNat (7 : Int)) (IntKind.bits IntKind.u8))) = 128 from rfl, Int.fdiv_eq_ediv_of_nonneg _ (by omega)]
    split
    · rw [show (r : Int) / 128 = 1 by omega]; rfl
    · rw [show (r : Int) / 128 = 0 by omega]; rfl
  simp only [decide_eq_true (show (k : Int) < 8 by omega), cond_true, h0, h1, w]
  rw [xor8 (by omega) (by split <;> omega)]
  unfold step8
  split
  · rfl
  · rw [Nat.xor_zero]
theorem nyp' (s : ByteArray) (i : Int) {r k : Nat} (hr : r < 256) (hk : k < 8) : nif' s (r : Int) i (k : Int) = some (Sum.inl ((s, ((step8 r : Nat) : Int), i, ((k + 1 : Nat) : Int), ()), ())) := by
  unfold nif'
  have w : IntKind.i64.wrap ((k : Int) + 1) = ((k + 1 : Nat) : Int) := by rw [nb' (by omega) (by omega)]; omega
  have h0 : Int.tmod (IntKind.i64.wrap ((r : Int) * 2)) 256 = ((r * 2 % 256 : Nat) : Int) := by
    rw [nb' (by omega) (by omega), Int.tmod_eq_emod_of_nonneg (by omega)]; omega
  simp only [decide_eq_true (show (k : Int) < 8 by omega), cond_true, h0, w]
  unfold step8
  by_cases h : 128 ≤ r
  · rw [decide_eq_true (show (128 : Int) ≤ (r : Int) by omega), if_pos h, cond_true]
    have hx := xor64 (a := r * 2 % 256) (c := 7) (by omega) (by omega)
    rw [show ((7 : Nat) : Int) = 7 from rfl] at hx
    rw [hx]
  · rw [decide_eq_false (show ¬ (128 : Int) ≤ (r : Int) by omega), if_neg h]; rfl
theorem nys' (s : ByteArray) (s7 s8 : Int) {r : Nat} (hr : r < 256) : nii' ((s, (r : Int), s7, s8, (0 : Int), ()), ()) = some ((s, ((it8 8 r : Nat) : Int), s7, s8, ()), ()) := by
  have h := nch' (step := fun x => niv' x.1.1 x.1.2.1 x.1.2.2.1 x.1.2.2.2.1 x.1.2.2.2.2.1) 8 (fun k r => ((s, ((r : Nat) : Int), s7, s8, (k : Int), ()), ())) (fun _ r => step8 r) (fun _ r => r < 256) (fun r => ((s, ((r : Nat) : Int), s7, s8, ()), ())) (fun k r hk hr => ⟨nyk' s s7 s8 hr hk, np7' hr⟩) (fun r _ => rfl) 8 0 r rfl hr
  have h' := h.1
  rw [fold8] at h'
  exact nf' h' (by omega)
theorem ny6' (s : ByteArray) (i : Int) {r : Nat} (hr : r < 256) : nix' ((s, (r : Int), i, (0 : Int), ()), ()) = some ((s, ((it8 8 r : Nat) : Int), i, ()), ()) := by
  have h := nch' (step := fun x => nif' x.1.1 x.1.2.1 x.1.2.2.1 x.1.2.2.2.1) 8 (fun k r => ((s, ((r : Nat) : Int), i, (k : Int), ()), ())) (fun _ r => step8 r) (fun _ r => r < 256) (fun r => ((s, ((r : Nat) : Int), i, ()), ())) (fun k r hk hr => ⟨nyp' s i hr hk, np7' hr⟩) (fun r _ => rfl) 8 0 r rfl hr
  have h' := h.1
  rw [fold8] at h'
  exact nf' h' (by omega)
theorem njs' {α β : Type} (f : β → α → β) (d : α) : ∀ (l : List α) (k i : Nat) (s : β), i + k = l.length → foldN (fun i s => f s (l.getD i d)) k i s = (l.drop i).foldl f s
  | l, 0, i, s, h => by
    obtain rfl : i = l.length := by omega
    simp [foldN]
  | l, k + 1, i, s, h => by
    have hi : i < l.length := by omega
    simp only [foldN]
    rw [njs' f d l k (i + 1) _ (by omega), List.drop_eq_getElem_cons hi, List.foldl_cons]
    simp [hi]
theorem npn' {s : ByteArray} (hs : s.size ≤ 1000000) : ni7' s = some ((((sum8L (bl s) : Nat) : Int), ()), ()) := by
  have h := nch' (step := fun x => ne8' x.1.1 x.1.2.1 x.1.2.2.1 x.1.2.2.2.1) s.size (fun i r => ((s, ((r : Nat) : Int), ((s.size : Nat) : Int), (i : Int), ()), ())) (fun i r => byte8 r ((bl s).getD i 0).toNat) (fun _ r => r < 256) (fun r => ((((r : Nat) : Int), ()), ())) (fun i r hi hr => by
    have hx := UInt8.toNat_lt ((bl s).getD i 0)
    refine ⟨?_, npr' hr hx⟩
    show ne8' s ((r : Nat) : Int) ((s.size : Nat) : Int) (i : Int) = _
    have w : IntKind.i64.wrap ((i : Int) + 1) = ((i + 1 : Nat) : Int) := by rw [nb' (by omega) (by omega)]; omega
    unfold ne8'
    simp only [decide_eq_true (show (i : Int) < (s.size : Int) by omega), nc' (show (0 : Int) ≤ (i : Int) by omega) (show (i : Int) < (s.size : Int) by omega), cond_true, Int.toNat_natCast, nn7']
    rw [xor8 hr hx, nys' s _ _ (Nat.xor_lt_two_pow (n := 8) hr hx), Option.bind_some, w]
    rfl) (fun r _ => by
    show ne8' s ((r : Nat) : Int) ((s.size : Nat) : Int) ((s.size : Nat) : Int) = _
    unfold ne8'
    simp only [decide_eq_false (Int.lt_irrefl (s.size : Int)), cond_false]) s.size 0 0 (by omega) (by omega)
  have h' := nf' h.1 (by omega)
  rw [njs' (fun r (x : UInt8) => byte8 r x.toNat) 0 (bl s) s.size 0 0 (by rw [ndf']; omega), List.drop_zero] at h'
  unfold ni7'
  rw [show nit' ((s, (0 : Int), ((s.size : Nat) : Int), (0 : Int), ()), ()) = _ from h']
  rfl
theorem nvq' {s : ByteArray} (hs : s.size ≤ 1000000) : nkr' s = some ((((sum8L (bl s) : Nat) : Int), ()), ()) := by
  have h := nch' (step := fun x => nff' x.1.1 x.1.2.1 x.1.2.2.1) s.size (fun i r => ((s, ((r : Nat) : Int), (i : Int), ()), ())) (fun i r => byte8 r ((bl s).getD i 0).toNat) (fun _ r => r < 256) (fun r => ((((r : Nat) : Int), ()), ())) (fun i r hi hr => by
    have hx := UInt8.toNat_lt ((bl s).getD i 0)
    refine ⟨?_, npr' hr hx⟩
    show nff' s ((r : Nat) : Int) (i : Int) = _
    have w : IntKind.i64.wrap ((i : Int) + 1) = ((i + 1 : Nat) : Int) := by rw [nb' (by omega) (by omega)]; omega
    unfold nff'
    simp only [decide_eq_true (show (i : Int) < (s.size : Int) by omega), nc' (show (0 : Int) ≤ (i : Int) by omega) (show (i : Int) < (s.size : Int) by omega), cond_true, Int.toNat_natCast, nn7', nb' (n := (((bl s).getD i 0).toNat : Int)) (by omega) (by omega)]
    rw [xor64 hr hx, ny6' s _ (Nat.xor_lt_two_pow (n := 8) hr hx), Option.bind_some, w]
    rfl) (fun r _ => by
    show nff' s ((r : Nat) : Int) ((s.size : Nat) : Int) = _
    unfold nff'
    simp only [decide_eq_false (Int.lt_irrefl (s.size : Int)), cond_false]) s.size 0 0 (by omega) (by omega)
  have h' := nf' h.1 (by omega)
  rw [njs' (fun r (x : UInt8) => byte8 r x.toNat) 0 (bl s) s.size 0 0 (by rw [ndf']; omega), List.drop_zero] at h'
  have hl := nwx' (bl s)
  unfold nkr'
  rw [show niz' ((s, (0 : Int), (0 : Int), ()), ()) = _ from h']
  simp only [Option.bind_some]
  rw [show ((bl s).foldl (fun r (x : UInt8) => byte8 r x.toNat) 0) = sum8L (bl s) from rfl, njd' (by omega) (by omega)]
end Go.Ovl
