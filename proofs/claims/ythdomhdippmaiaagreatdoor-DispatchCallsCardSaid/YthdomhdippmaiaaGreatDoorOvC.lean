/- Layer 10, the program's side: the binary search, what a record changes, images behind records. -/
import Derived.Test.YthdomhdippmaiaaGreatDoorOvB
import Derived.Test.YthdomhdippmaiaaGreatDoorOvA
import Derived.Test.YthdomhdippmaiaaGreatDoorDefs2
namespace Go.Ovl
open Go Go.Ab
set_option maxRecDepth 100000
def keyE (F D : Int) : Entry := ⟨F, D, 0, 0, false⟩
theorem n0z' {i j : Nat} (h : i + j < 9223372036854775808) : IntKind.i64.wrap (Int.fdiv (IntKind.u64.wrap (IntKind.i64.wrap ((i : Int) + (j : Int)))) ((2 : Int) ^ (Min.min (Int.toNat (1 : Int)) (IntKind.bits IntKind.u64)))) = (((i + j) / 2 : Nat) : Int) := by
  rw [nb' (n := (i : Int) + (j : Int)) (by omega) (by omega), nnf' (by omega) (by omega)]
  rw [show ((2 : Int) ^ (Min.min (Int.toNat (1 : Int)) (IntKind.bits IntKind.u64))) = 2 from rfl]
  rw [Int.fdiv_eq_ediv_of_nonneg _ (by omega)]
  rw [nb' (by omega) (by omega)]
  omega
theorem nxq' {l : List Entry} (hs : nba' l) (hl : l.length ≤ 100000) (F D : Int) :
    no' ((l, (), (), (l.length : Int), (0 : Int), (l.length : Int), ()), ((F, D, 0, 0, false, ()), ())) = some ((l, (), (), (l.length : Int), ((posF (keyE F D) l : Nat) : Int), ()), ((F, D, 0, 0, false, ()), ())) := by
  refine n4n' (fun x y => ∃ i j : Nat, i ≤ posF (keyE F D) l ∧ posF (keyE F D) l ≤ j ∧ j ≤ l.length ∧ x = ((l, (), (), (l.length : Int), (i : Int), (j : Int), ()), ((F, D, (0 : Int), (0 : Int), false, ()), ())) ∧ y = ((l, (), (), (l.length : Int), ((posF (keyE F D) l : Nat) : Int), ()), ((F, D, (0 : Int), (0 : Int), false, ()), ()))) (fun x => x.1.2.2.2.2.2.1.toNat - x.1.2.2.2.2.1.toNat) ?_ (x := ((l, (), (), (l.length : Int), (0 : Int), (l.length : Int), ()), ((F, D, 0, 0, false, ()), ()))) (y := ((l, (), (), (l.length : Int), ((posF (keyE F D) l : Nat) : Int), ()), ((F, D, 0, 0, false, ()), ()))) ⟨0, l.length, Nat.zero_le _, nlb' _ _, Nat.le_refl _, rfl, rfl⟩ (by show ((l.length : Int).toNat - Int.toNat 0) < _; omega)
  rintro _ _ ⟨i, j, h1, h2, h3, rfl, rfl⟩
  show (∃ x', np' l (l.length : Int) (i : Int) (j : Int) F D 0 0 false = _ ∧ _) ∨ np' l (l.length : Int) (i : Int) (j : Int) F D 0 0 false = _
  unfold np'
  rw [n0z' (by omega)]
  by_cases hij : i < j
  · left
    have hh : (i + j) / 2 < l.length := by omega
    obtain ⟨n, c1, c2, _⟩ := njj' (l.getD ((i + j) / 2) noE) (keyE F D)
    unfold keyE at c1
    unfold noE at c1
    simp only [decide_eq_true (show (i : Int) < (j : Int) by omega), nc' (show (0 : Int) ≤ (((i + j) / 2 : Nat) : Int) by omega) (show (((i + j) / 2 : Nat) : Int) < (l.length : Int) by omega), Int.toNat_natCast, cond_true, c1, Option.bind_some]
    have c2' : decide (n < 0) = lessE (l.getD ((i + j) / 2) noE) (keyE F D) := by rw [nrr', c2, Bool.not_not]
    rw [c2']
    cases hq : lessE (l.getD ((i + j) / 2) noE) (keyE F D) with
    | true =>
      have : (i + j) / 2 < posF (keyE F D) l := by
        rcases Nat.lt_or_ge ((i + j) / 2) (posF (keyE F D) l) with h | h
        · exact h
        · have := nsu' hs _ h hh
          rw [hq] at this; cases this
      rw [cond_true, show IntKind.i64.wrap ((((i + j) / 2 : Nat) : Int) + 1) = (((i + j) / 2 + 1 : Nat) : Int) by rw [nb' (by omega) (by omega)]; omega]
      exact ⟨_, rfl, ⟨(i + j) / 2 + 1, j, by omega, h2, h3, rfl, trivial⟩, by show Int.toNat (j : Int) - Int.toNat (((i + j) / 2 + 1 : Nat) : Int) < Int.toNat (j : Int) - Int.toNat (i : Int); omega⟩
    | false =>
      have : posF (keyE F D) l ≤ (i + j) / 2 := by
        rcases Nat.lt_or_ge ((i + j) / 2) (posF (keyE F D) l) with h | h
        · have := ns4' (keyE F D) l _ h
          rw [hq] at this; cases this
        · exact h
      rw [cond_false]
      exact ⟨_, rfl, ⟨i, (i + j) / 2, h1, this, by omega, rfl, trivial⟩, by show Int.toNat (((i + j) / 2 : Nat) : Int) - Int.toNat (i : Int) < Int.toNat (j : Int) - Int.toNat (i : Int); omega⟩
  · right
    rw [decide_eq_false (show ¬ (i : Int) < (j : Int) by omega), show i = posF (keyE F D) l by omega]
    rfl
theorem nx0' (m : Img) (hs : nba' m.Entries) (hl : m.Entries.length ≤ 100000) (F D : Int) : nkz' m.Phases m.Flags m.Leaving m.Entries F D = some ((((posF (keyE F D) m.Entries : Nat) : Int), hasF (keyE F D) m.Entries, ()), ()) := by
  unfold nkz' nz'
  simp only
  rw [nxq' hs hl F D]
  simp only [Option.bind_some]
  have hp := nlb' (keyE F D) m.Entries
  unfold hasF
  by_cases h : posF (keyE F D) m.Entries < m.Entries.length
  · obtain ⟨n, c1, _, c3⟩ := njj' (m.Entries.getD (posF (keyE F D) m.Entries) noE) (keyE F D)
    rw [decide_eq_true (show ((posF (keyE F D) m.Entries : Nat) : Int) < (m.Entries.length : Int) by omega), nc' (show (0 : Int) ≤ ((posF (keyE F D) m.Entries : Nat) : Int) by omega) (show ((posF (keyE F D) m.Entries : Nat) : Int) < (m.Entries.length : Int) by omega), Int.toNat_natCast, show Nat.blt (posF (keyE F D) m.Entries) m.Entries.length = true by rw [Nat.blt_eq]; exact h]
    have e : (n == 0) = isC (keyE F D).Floor (keyE F D).Dir (m.Entries.getD (posF (keyE F D) m.Entries) noE) := by
      rw [Bool.eq_iff_iff, beq_iff_eq, c3]
      unfold isC
      rw [Bool.and_eq_true, beq_iff_eq, beq_iff_eq]
    rw [← e]
    generalize posF (keyE F D) m.Entries = p at *
    unfold noE at c1
    unfold keyE at c1
    simp only [cond_true, c1, Option.bind_some, Bool.true_and]
  · rw [decide_eq_false (show ¬ ((posF (keyE F D) m.Entries : Nat) : Int) < (m.Entries.length : Int) by omega), show Nat.blt (posF (keyE F D) m.Entries) m.Entries.length = false by rw [← Bool.not_eq_true, Nat.blt_eq]; exact h]
    rfl
theorem n03' (x : Entry) (e : Entry) : lessE x (keyE e.Floor e.Dir) = lessE x e := rfl
theorem nll' (e : Entry) : ∀ l : List Entry, posF (keyE e.Floor e.Dir) l = posF e l
  | [] => rfl
  | x :: t => by simp only [posF, n03', nll' e t]
theorem nup' {m : Img} (hs : nba' m.Entries) (hl : m.Entries.length ≤ 100000) (r : Record) (hc : (r.Kind = 4 ∨ r.Kind = 5 ∨ r.Kind = 6) → 0 ≤ r.Car ∧ r.Car < (m.Phases.length : Int) ∧ r.Car < (m.Flags.length : Int) ∧ r.Car < (m.Leaving.length : Int)) :
    nix' r.Kind r.Floor r.Dir r.Car r.Value m.Phases m.Flags m.Leaving m.Entries = some ((), ((nbl' m r).tup, ())) := by
  unfold nix' nbl'
  rw [nx0' m hs hl]
  simp only [Option.bind_some]
  by_cases k4 : r.Kind = 4
  · obtain ⟨c0, c1, c2, c3⟩ := hc (.inl k4)
    rw [k4]
    simp only [beq_self_eq_true, cond_true, nc' c0 c1]
    rfl
  rw [beq_f k4]
  by_cases k5 : r.Kind = 5
  · obtain ⟨c0, c1, c2, c3⟩ := hc (.inr (.inl k5))
    rw [k5]
    simp only [beq_self_eq_true, cond_true, cond_false, nc' c0 c2]
    rfl
  rw [beq_f k5]
  by_cases k6 : r.Kind = 6
  · obtain ⟨c0, c1, c2, c3⟩ := hc (.inr (.inr k6))
    rw [k6]
    simp only [beq_self_eq_true, cond_true, cond_false, nc' c0 c3]
    rfl
  rw [beq_f k6]
  simp only [cond_false]
  have hf := nmn' (c := keyE r.Floor r.Dir) 0 hs
  simp only [Nat.zero_add] at hf
  rw [show findF r.Floor r.Dir m.Entries 0 = _ from hf]
  have hp := nlb' (keyE r.Floor r.Dir) m.Entries
  cases hq : hasF (keyE r.Floor r.Dir) m.Entries with
  | false =>
    have hn := nta' hs hq
    simp only [cond_false, cond_true, Bool.not_false, beq_self_eq_true]
    by_cases k1 : r.Kind = 1
    · rw [k1]
      simp only [beq_self_eq_true, cond_true]
      unfold nce' insF
      rw [decide_eq_true (show (0 : Int) ≤ ((posF (keyE r.Floor r.Dir) m.Entries : Nat) : Int) by omega), decide_eq_true (show ((posF (keyE r.Floor r.Dir) m.Entries : Nat) : Int) ≤ (m.Entries.length : Int) by omega)]
      rw [show Nat.blt 0 [Entry.mk r.Floor r.Dir (-1) 0 false].length = true from rfl, nbp' (show m.Entries.length + [Entry.mk r.Floor r.Dir (-1) 0 false].length ≤ 2147483648 by rw [List.length_singleton]; omega)]
      have hi := nno' (c := ⟨r.Floor, r.Dir, -1, 0, false⟩) (l := m.Entries) hn
      rw [hi, show posF ⟨r.Floor, r.Dir, -1, 0, false⟩ m.Entries = posF (keyE r.Floor r.Dir) m.Entries from (nll' ⟨r.Floor, r.Dir, -1, 0, false⟩ m.Entries).symm]
      rfl
    · rw [beq_f k1]
      cases r.Kind == 2 <;> cases r.Kind == 3 <;> cases r.Kind == 7 <;> rfl
  | true =>
    have hlt : posF (keyE r.Floor r.Dir) m.Entries < m.Entries.length := by
      unfold hasF at hq
      rw [Bool.and_eq_true, Nat.blt_eq] at hq
      exact hq.1
    simp only [cond_true, Bool.not_true, cond_false, beq_f (show ¬ ((posF (keyE r.Floor r.Dir) m.Entries : Nat) : Int) = -1 by omega), Int.toNat_natCast]
    generalize posF (keyE r.Floor r.Dir) m.Entries = p at hp hlt ⊢
    have w : IntKind.i64.wrap ((p : Int) + 1) = ((p + 1 : Nat) : Int) := by rw [nb' (by omega) (by omega)]; omega
    have ib : inB (p : Int) m.Entries.length = true := nc' (by omega) (by omega)
    by_cases k1 : r.Kind = 1
    · simp only [k1, beq_self_eq_true, cond_true, cond_false, show ((1 : Int) == 2) = false from rfl, show ((1 : Int) == 3) = false from rfl, show ((1 : Int) == 7) = false from rfl]
      rfl
    rw [beq_f k1, cond_false]
    cases r.Kind == 2 with
    | true =>
      unfold ncd' delF
      simp only [cond_true, w, decide_eq_true (show (0 : Int) ≤ (p : Int) by omega), decide_eq_true (show (p : Int) < ((p + 1 : Nat) : Int) by omega), decide_eq_true (show ((p + 1 : Nat) : Int) ≤ (m.Entries.length : Int) by omega), Bool.and_self, Option.bind_some, Int.toNat_natCast]
      rfl
    | false =>
      simp only [cond_false]
      cases r.Kind == 3 with
      | true => simp only [cond_true, ib]; rfl
      | false =>
        simp only [cond_false]
        cases r.Kind == 7 with
        | true =>
          have ib2 : ∀ y : Entry, inB (p : Int) (m.Entries.set p y).length = true := fun y => nc' (by omega) (by rw [List.length_set]; omega)
          have hg : ∀ y : Entry, (m.Entries.set p y).getD p (Entry.mk 0 0 0 0 false) = y := fun y => by
            simp [List.getD_eq_getElem?_getD, hlt]
          simp only [cond_true, ib, ib2, hg, List.set_set]
          rfl
        | false => rfl
theorem nw5' {b : Bldg} (hb : b.small) (hcl : b.Cars.length ≤ 100) (m : Img) (hp : m.Phases.length ≤ 100000) (hl : m.Entries.length ≤ 10000) (r : Record) :
    nhr' b.Floors b.Debounce b.Room b.Park b.Empty b.Full b.Over b.Cars m.Phases m.Flags m.Leaving m.Entries r.Kind r.Floor r.Dir r.Car r.Value = some (nj2' b m r) := by
  have hmx : 100000 ≤ maxLen := by decide
  unfold nhr' nj2'
  rw [nfw' hb m (by omega) (by omega)]
  simp only [Option.bind_some]
  cases hok : m.ok b with
  | false => rfl
  | true =>
    rw [nr9' hb hcl r]
    simp only [Bool.not_true, cond_false, Option.bind_some, Bool.true_and]
    cases hv : n3' b r with
    | false => rfl
    | true =>
      have hm := Img.ok_iff.1 hok
      have h1 := hm.lp
      have h2 := hm.lf
      have h3 := hm.ll
      simp only [Bool.not_true, cond_false, cond_true]
      rw [nv4' m hp (by omega) (by omega) (by omega)]
      simp only [Option.bind_some, Img.tup]
      rw [nup' hm.so (by omega) r fun hk => by
        have := nkr' hv hk
        omega]
      rfl
theorem roomW {a b : Nat} (h : a ≤ 100000) (h' : b ≤ 100000) : IntKind.i64.wrap (IntKind.i64.wrap (18 * IntKind.i64.wrap (IntKind.i64.wrap ((a : Int) + (b : Int)) + 1)) + 6) = 18 * ((a : Int) + (b : Int) + 1) + 6 := by
  rw [nb' (n := (a : Int) + (b : Int)) (by omega) (by omega), nb' (n := (a : Int) + (b : Int) + 1) (by omega) (by omega), nb' (n := 18 * ((a : Int) + (b : Int) + 1)) (by omega) (by omega), nb' (by omega) (by omega)]
def roomV (b : Bldg) (m : Img) : Bool := m.ok b && decide (18 * ((b.Cars.length : Int) + (m.Entries.length : Int) + 1) + 6 ≤ b.Room)
theorem nx1' {b : Bldg} (hb : b.small) (m : Img) (hc : b.Cars.length ≤ 100000) (hp : m.Phases.length ≤ 100000) (hl : m.Entries.length ≤ 100000) :
    nky' b.Floors b.Debounce b.Room b.Park b.Empty b.Full b.Over b.Cars m.Phases m.Flags m.Leaving m.Entries = some ((roomV b m, ()), ()) := by
  have hmx : 100000 ≤ maxLen := by decide
  unfold nky' roomV
  rw [nfw' hb m (by omega) (by omega)]
  simp only [Option.bind_some, roomW hc hl]
  cases m.ok b <;> rfl
end Go.Ovl
namespace Go.Ovl
open Go Go.Ab
set_option maxRecDepth 100000
def ncj' : Nat := 10000000
theorem wrap1 {i n : Nat} (h : i < n) (hn : n ≤ ncj') : IntKind.i64.wrap ((i : Int) + 1) = ((i + 1 : Nat) : Int) := by
  unfold ncj' at hn
  rw [nb' (by omega) (by omega)]; omega
section
variable {α : Type}
end
structure Img.fit (m : Img) : Prop where
  p : m.Phases.length ≤ 100000
  f : m.Flags.length ≤ 100000
  l : m.Leaving.length ≤ 100000
  e : m.Entries.length ≤ 100000
section
variable {a c : Img} (ha : a.fit)
include ha
end
end Go.Ovl
namespace Go.Ovl
open Go Go.Ab
set_option maxRecDepth 100000
theorem nt5' {α : Type} (f : Nat → List α) : ∀ (k i : Nat) (s : List α), foldN (fun i s => s ++ f i) k i s = s ++ (List.range' i k).flatMap f
  | 0, i, s => by simp [foldN]
  | k + 1, i, s => by
    simp only [foldN]
    rw [nt5' f k (i + 1), List.range'_succ, List.flatMap_cons, List.append_assoc]
theorem nre' {α β : Type} (f : α → List β) (d : α) : ∀ (l : List α) (i k : Nat), i + k = l.length → (List.range' i k).flatMap (fun i => f (l.getD i d)) = (l.drop i).flatMap f
  | l, i, 0, h => by
    obtain rfl : i = l.length := by omega
    simp
  | l, i, k + 1, h => by
    rw [List.range'_succ, List.flatMap_cons, nre' f d l (i + 1) k (by omega), nbi' d (show i < l.length by omega), List.flatMap_cons]
section
variable {m : Img} (hf : m.fit)
include hf
end
section
variable {b : Bldg} (hb : b.small) {m : Img} (hf : m.fit)
include hb hf
end
theorem nkj' (m : Img) : ∀ (a c : List Record), nbv' m (a ++ c) = nbv' (nbv' m a) c
  | [], _ => rfl
  | r :: t, c => by
    show nbv' (nbl' m r) (t ++ c) = nbv' (nbv' (nbl' m r) t) c
    exact nkj' (nbl' m r) t c
end Go.Ovl
namespace Go.Ovl
open Go Go.Ab
set_option maxRecDepth 100000
def powC (floor : Int) : Int := IntKind.u32.wrap (1 * 2 ^ min (Int.toNat floor) (IntKind.bits .u32))
def oneC (floor dir : Int) : Int × Int :=
  bif inR 0 31 floor then (bif dir == 1 then (powC floor, 0) else bif dir == 2 then (0, powC floor) else (0, 0)) else (0, 0)
theorem nry' (floor dir : Int) : nif' floor dir = some (((), ()), (((oneC floor dir).1, (oneC floor dir).2, ()), ())) := by
  unfold nif' oneC inR
  by_cases g : floor < 0
  · rw [decide_eq_true g, decide_eq_false (show ¬ 0 ≤ floor by omega)]; rfl
  · rw [decide_eq_false g, decide_eq_true (show 0 ≤ floor by omega)]
    by_cases g' : 31 < floor
    · rw [decide_eq_true g', decide_eq_false (show ¬ floor ≤ 31 by omega)]; rfl
    · rw [decide_eq_false g', decide_eq_true (show floor ≤ 31 by omega)]
      have w : IntKind.u64.wrap floor = floor := nnf' (by omega) (by omega)
      simp only [cond_false, w, decide_eq_true (show 0 ≤ floor by omega), cond_true, Bool.and_self]
      cases dir == 1 <;> cases dir == 2 <;> rfl
def orC (a c : Int) : Int := vb (bv a ||| bv c)
def minC (a c : Int) : Int := vb (bv a &&& ~~~ bv c)
def nb0' (a c : Int × Int) : Int × Int := (orC a.1 c.1, orC a.2 c.2)
def n5' (a c : Int × Int) : Int × Int := (minC a.1 c.1, minC a.2 c.2)
theorem npa' (a c : Int × Int) : nfb' a.1 a.2 c.1 c.2 = some (((), ()), (((nb0' a c).1, (nb0' a c).2, ()), ())) := by
  unfold nfb'
  rw [w_or, w_or]; rfl
theorem ng3' (a c : Int × Int) : nby' a.1 a.2 c.1 c.2 = some (((), ()), (((n5' a c).1, (n5' a c).2, ()), ())) := by
  unfold nby'
  rw [nnq', nnq']; rfl
def bitC (c : Int × Int) (f : Nat) (d : Int) : Bool := bif d == 1 then bitF c.1 f else bif d == 2 then bitF c.2 f else false
def u32C (c : Int × Int) : Prop := (0 ≤ c.1 ∧ c.1 < 4294967296) ∧ (0 ≤ c.2 ∧ c.2 < 4294967296)
theorem nmh' (a c : Int × Int) : u32C (nb0' a c) := ⟨nhd' _, nhd' _⟩
theorem noj' (a c : Int × Int) : u32C (n5' a c) := ⟨nhd' _, nhd' _⟩
theorem nji' : u32C (0, 0) := ⟨⟨by decide, by decide⟩, ⟨by decide, by decide⟩⟩
theorem no0' (i : Nat) : bitF 0 i = false := by
  unfold bitF bv
  simp
theorem nee' (f : Nat) (d : Int) : bitC (0, 0) f d = false := by
  unfold bitC
  simp only [no0']
  cases d == 1 <;> cases d == 2 <;> rfl
theorem ne8' (a c : Int × Int) (f : Nat) (d : Int) : bitC (nb0' a c) f d = (bitC a f d || bitC c f d) := by
  unfold bitC nb0' orC
  simp only [nor', BitVec.getLsbD_or]
  cases d == 1 <;> cases d == 2 <;> rfl
theorem nea' (a c : Int × Int) {f : Nat} (hf : f < 32) (d : Int) : bitC (n5' a c) f d = (bitC a f d && !bitC c f d) := by
  unfold bitC n5' minC
  simp only [nor', BitVec.getLsbD_and, BitVec.getLsbD_not, hf, decide_true, Bool.true_and]
  cases d == 1 <;> cases d == 2 <;> rfl
theorem nh9' {F D : Int} (hF : 0 ≤ F ∧ F < 32) (hD : D = 1 ∨ D = 2) (f : Nat) {d : Int} (hd : d = 1 ∨ d = 2) : bitC (oneC F D) f d = decide (((f : Int), d) = (F, D)) := by
  have hp : bitF (powC F) f = decide (f = F.toNat) := nx8' (k := F.toNat) (by omega) f
  have e : decide (((f : Int), d) = (F, D)) = (decide (f = F.toNat) && decide (d = D)) := by
    rw [Bool.eq_iff_iff, Bool.and_eq_true, decide_eq_true_eq, decide_eq_true_eq, decide_eq_true_eq, Prod.mk.injEq]
    constructor
    · rintro ⟨h1, h2⟩; exact ⟨by omega, h2⟩
    · rintro ⟨h1, h2⟩; exact ⟨by omega, h2⟩
  rw [e]
  unfold oneC bitC
  rw [n1'.2 ⟨hF.1, show F ≤ 31 by omega⟩]
  rcases hD with rfl | rfl <;> rcases hd with rfl | rfl
  · simp [hp]
  · simp [no0']
  · simp [no0']
  · simp [hp]
theorem nmf' {a c : Int × Int} (ha : u32C a) (hc : u32C c) (h : ∀ f : Nat, f < 32 → ∀ d : Int, (d = 1 ∨ d = 2) → bitC a f d = bitC c f d) : a = c := by
  have h1 : a.1 = c.1 := nyt' ha.1 hc.1 fun i hi => h i hi 1 (.inl rfl)
  have h2 : a.2 = c.2 := nyt' ha.2 hc.2 fun i hi => h i hi 2 (.inr rfl)
  exact Prod.ext h1 h2
def callE (e : Entry) : Prop := (0 ≤ e.Floor ∧ e.Floor < 32) ∧ (e.Dir = 1 ∨ e.Dir = 2)
def ofC : List Entry → Int × Int → Int × Int
  | [], c => c
  | e :: t, c => ofC t (nb0' c (oneC e.Floor e.Dir))
theorem npn' : ∀ (l : List Entry) {c : Int × Int}, u32C c → u32C (ofC l c)
  | [], _, h => h
  | _ :: t, _, _ => npn' t (nmh' _ _)
theorem nsk' : ∀ {l : List Entry} {c : Int × Int}, (∀ e ∈ l, callE e) → ∀ (f : Nat) {d : Int}, (d = 1 ∨ d = 2) → (bitC (ofC l c) f d = true ↔ bitC c f d = true ∨ ((f : Int), d) ∈ l.map nbm')
  | [], _, _, f, d, _ => by simp [ofC]
  | e :: t, c, h, f, d, hd => by
    have he := h e (List.mem_cons_self ..)
    simp only [ofC]
    rw [nsk' (fun x hx => h x (List.mem_cons_of_mem _ hx)) f hd, ne8', nh9' he.1 he.2 f hd, Bool.or_eq_true, decide_eq_true_eq, List.map_cons, List.mem_cons]
    show (_ ∨ _ = (e.Floor, e.Dir)) ∨ _ ↔ _ ∨ _ = (e.Floor, e.Dir) ∨ _
    exact or_assoc
theorem nog' {l : List Entry} (hl : l.length ≤ 100000) : nh8' l = some (((), ()), (((ofC l (0, 0)).1, (ofC l (0, 0)).2, ()), ())) := by
  have h := nhn' (step := fun x => nhi' x.1.1 x.1.2.2.2.1 x.2.1.1 x.2.1.2.1 x.2.2.1.1 x.2.2.1.2.1) l.length (fun i (c : Int × Int) => ((l, (), (), (i : Int), ()), (((0 : Int), (0 : Int), ()), (c.1, c.2, ()), ()))) (fun i c => nb0' c (oneC (l.getD i noE).Floor (l.getD i noE).Dir)) (fun _ _ => True) (fun c => (((), (), ()), (((0 : Int), (0 : Int), ()), (c.1, c.2, ()), ()))) (fun i c hi _ => by
    refine ⟨?_, trivial⟩
    show nhi' l (i : Int) 0 0 c.1 c.2 = _
    unfold nhi'
    rw [show Entry.mk 0 0 0 0 false = noE from rfl]
    have hu := npa' c (oneC (l.getD i noE).Floor (l.getD i noE).Dir)
    simp only [decide_eq_true (show (i : Int) < (l.length : Int) by omega), nc' (show (0 : Int) ≤ (i : Int) by omega) (show (i : Int) < (l.length : Int) by omega), cond_true, Int.toNat_natCast, nry', Option.bind_some, hu, wrap1 hi (show l.length ≤ ncj' by unfold ncj'; omega)]) (fun c _ => by
    show nhi' l (l.length : Int) 0 0 c.1 c.2 = _
    unfold nhi'
    simp only [decide_eq_false (Int.lt_irrefl (l.length : Int)), cond_false]) l.length 0 (0, 0) (by omega) trivial
  have h' := nv' h.1 (by omega)
  have e : ∀ (l : List Entry) (c : Int × Int), l.foldl (fun c e => nb0' c (oneC e.Floor e.Dir)) c = ofC l c := fun l => by
    induction l with
    | nil => exact fun c => rfl
    | cons a t ih => exact fun c => ih _
  have e2 : ∀ (k i : Nat) (c : Int × Int), i + k = l.length → foldN (fun i c => nb0' c (oneC (l.getD i noE).Floor (l.getD i noE).Dir)) k i c = ofC (l.drop i) c := by
    intro k
    induction k with
    | zero =>
      intro i c hi
      obtain rfl : i = l.length := by omega
      rw [List.drop_length]; rfl
    | succ k ih =>
      intro i c hi
      rw [nbi' noE (show i < l.length by omega)]
      exact ih (i + 1) _ (by omega)
  rw [e2 l.length 0 (0, 0) (by omega), List.drop_zero] at h'
  unfold nh8'
  rw [show nk1' ((l, (), (), (0 : Int), ()), (((0 : Int), (0 : Int), ()), ((0 : Int), (0 : Int), ()), ())) = _ from h']
  rfl
def nhc' (c : Int × Int) (f : Nat) : List Entry := (bif bitC c f 1 then [⟨(f : Int), 1, -1, 0, false⟩] else []) ++ (bif bitC c f 2 then [⟨(f : Int), 2, -1, 0, false⟩] else [])
theorem nz3' (c : Int × Int) (f : Nat) : (nhc' c f).length ≤ 2 := by
  unfold nhc'
  cases bitC c f 1 <;> cases bitC c f 2 <;> simp
def listC (c : Int × Int) : List Entry := (List.range' 0 32).flatMap (nhc' c)
theorem nn2' {c : Int × Int} {f : Nat} {p : Int × Int} : p ∈ (nhc' c f).map nbm' ↔ p.1 = (f : Int) ∧ (p.2 = 1 ∨ p.2 = 2) ∧ bitC c f p.2 = true := by
  obtain ⟨a, d⟩ := p
  unfold nhc'
  rw [List.map_append, List.mem_append]
  have h : ∀ D : Int, (a, d) ∈ (bif bitC c f D then [Entry.mk (f : Int) D (-1) 0 false] else []).map nbm' ↔ a = (f : Int) ∧ d = D ∧ bitC c f D = true := fun D => by
    cases bitC c f D <;> simp [nbm']
  rw [h, h]
  constructor
  · rintro (⟨h1, rfl, h3⟩ | ⟨h1, rfl, h3⟩)
    · exact ⟨h1, .inl rfl, h3⟩
    · exact ⟨h1, .inr rfl, h3⟩
  · rintro ⟨h1, h2, h3⟩
    simp only at h1 h2 h3
    rcases h2 with rfl | rfl
    · exact .inl ⟨h1, rfl, h3⟩
    · exact .inr ⟨h1, rfl, h3⟩
theorem mem_range {c : Int × Int} {p : Int × Int} {i k : Nat} : p ∈ ((List.range' i k).flatMap (nhc' c)).map nbm' ↔ ∃ f : Nat, (i ≤ f ∧ f < i + k) ∧ p.1 = (f : Int) ∧ (p.2 = 1 ∨ p.2 = 2) ∧ bitC c f p.2 = true := by
  constructor
  · intro h
    obtain ⟨e, he, rfl⟩ := List.mem_map.1 h
    obtain ⟨f, hf, he⟩ := List.mem_flatMap.1 he
    exact ⟨f, List.mem_range'_1.1 hf, nn2'.1 (List.mem_map.2 ⟨e, he, rfl⟩)⟩
  · rintro ⟨f, hf, h⟩
    obtain ⟨e, he, h2⟩ := List.mem_map.1 (nn2'.2 h)
    exact List.mem_map.2 ⟨e, List.mem_flatMap.2 ⟨f, List.mem_range'_1.2 hf, he⟩, h2⟩
theorem nom' (c : Int × Int) : ∀ k i : Nat, nba' ((List.range' i k).flatMap (nhc' c))
  | 0, i => by simp [nba']
  | k + 1, i => by
    unfold nba'
    rw [List.range'_succ, List.flatMap_cons, List.map_append, List.pairwise_append]
    refine ⟨?_, nom' c k (i + 1), fun p hp q hq => ?_⟩
    · unfold nhc'
      cases bitC c i 1 <;> cases bitC c i 2 <;> simp [nbm', ltC]
    · have h1 := nn2'.1 hp
      obtain ⟨f, hf, h2, _⟩ := mem_range.1 hq
      left
      rw [h1.1, h2]
      omega
end Go.Ovl
namespace Go.Ovl
open Go Go.Ab
set_option maxRecDepth 100000
theorem nlf' (floor dir : Int) : ngl' floor dir = some (((), ()), (((oneC floor dir).1, (oneC floor dir).2, ()), ())) := by
  unfold ngl' oneC inR
  by_cases g : 0 ≤ floor
  · by_cases g' : floor < 32
    · rw [decide_eq_true g, decide_eq_true g', decide_eq_true (show floor ≤ 31 by omega)]
      simp only [cond_true, Option.bind_some, Bool.and_self, decide_eq_true g]
      cases dir == 1 <;> cases dir == 2 <;> rfl
    · rw [decide_eq_true g, decide_eq_false g', decide_eq_false (show ¬ floor ≤ 31 by omega)]; rfl
  · rw [decide_eq_false g]; rfl
theorem nhj' (a c : Int × Int) : nd4' a.1 a.2 c.1 c.2 = some (((), ()), (((nb0' a c).1, (nb0' a c).2, ()), ())) := by
  unfold nd4'
  rw [w_or, w_or]; rfl
theorem njk' (a c : Int × Int) : nes' a.1 a.2 c.1 c.2 = some (((), ()), (((n5' a c).1, (n5' a c).2, ()), ())) := by
  unfold nes'
  rw [nnq', nnq']; rfl
def bothC (a c : Int × Int) : Int × Int := (vb (bv a.1 &&& bv c.1), vb (bv a.2 &&& bv c.2))
theorem nvs' (a c : Int × Int) : u32C (bothC a c) := ⟨nhd' _, nhd' _⟩
theorem nkg' (a c : Int × Int) : ndu' a.1 a.2 c.1 c.2 = some (((), ()), (((bothC a c).1, (bothC a c).2, ()), ())) := by
  unfold ndu'
  rw [w_and, w_and]; rfl
theorem nxi' (a c : Int × Int) : nhe' a.1 a.2 c.1 c.2 = some (((), ()), (((bothC a c).1, (bothC a c).2, ()), ())) := by
  unfold nhe'
  rw [w_and, w_and]; rfl
theorem nok' (a c : Int × Int) (f : Nat) (d : Int) : bitC (bothC a c) f d = (bitC a f d && bitC c f d) := by
  unfold bitC bothC
  simp only [nor', BitVec.getLsbD_and]
  cases d == 1 <;> cases d == 2 <;> rfl
def isZ (c : Int × Int) : Bool := (c.1 == 0) && ((c.2 == 0) && true)
theorem npk' {c : Int × Int} (hc : u32C c) : isZ c = true ↔ ∀ f : Nat, f < 32 → ∀ d : Int, (d = 1 ∨ d = 2) → bitC c f d = false := by
  constructor
  · intro h f _ d _
    unfold isZ at h
    simp only [Bool.and_eq_true, beq_iff_eq] at h
    obtain ⟨h1, h2, _⟩ := h
    rw [show c = (0, 0) from Prod.ext h1 h2, nee']
  · intro h
    have : c = (0, 0) := nmf' hc nji' fun f hf d hd => by rw [h f hf d hd, nee']
    rw [this]; rfl
theorem nop' (c : Int × Int) {F D : Int} (hF : 0 ≤ F ∧ F < 32) (hD : D = 1 ∨ D = 2) : ncz' c.1 c.2 F D = some ((bitC c F.toNat D, ()), ()) := by
  unfold ncz'
  rw [nlf']
  simp only [Option.bind_some]
  rw [nkg' c (oneC F D)]
  simp only [Option.bind_some]
  show some ((!(isZ (bothC c (oneC F D))), ()), ()) = _
  have e : isZ (bothC c (oneC F D)) = !bitC c F.toNat D := by
    cases h : bitC c F.toNat D with
    | false =>
      refine (npk' (nvs' _ _)).2 fun f hf d hd => ?_
      rw [nok', nh9' hF hD f hd]
      by_cases g : ((f : Int), d) = (F, D)
      · obtain ⟨h1, h2⟩ := Prod.mk.inj g
        rw [show f = F.toNat by omega, h2, h]; rfl
      · rw [decide_eq_false g, Bool.and_false]
    | true =>
      cases hz : isZ (bothC c (oneC F D)) with
      | false => rfl
      | true =>
        have := (npk' (nvs' _ _)).1 hz F.toNat (by omega) D hD
        rw [nok', nh9' hF hD F.toNat hD, h, decide_eq_true (show (((F.toNat : Nat) : Int), D) = (F, D) by rw [Int.toNat_of_nonneg hF.1])] at this
        cases this
  rw [e, Bool.not_not]
def hallC (b : Bldg) : Int × Int := (IntKind.u32.wrap (IntKind.u32.wrap (1 * 2 ^ min (Int.toNat (b.Floors - 1)) (IntKind.bits .u32)) - 1), IntKind.u32.wrap (IntKind.u32.wrap (IntKind.u32.wrap (1 * 2 ^ min (Int.toNat (b.Floors - 1)) (IntKind.bits .u32)) - 1) * 2 ^ min (Int.toNat (1 : Int)) (IntKind.bits .u32)))
theorem nl4' {b : Bldg} (hb : b.small) (hcode : b.code = 0) : ne3' b.Floors b.Debounce b.Room b.Park b.Empty b.Full b.Over b.Cars = some (((), ()), (((hallC b).1, (hallC b).2, ()), ())) := by
  have lo := hb.lo
  have hi := hb.hi
  unfold ne3' hallC
  rw [ncc', hcode]
  simp only [Option.bind_some, bne_self_eq_false, cond_false, nb' (n := b.Floors - 1) (by omega) (by omega), decide_eq_true (show 0 ≤ b.Floors - 1 by omega), cond_true]
def hallU (n : Nat) : Int := IntKind.u32.wrap (IntKind.u32.wrap (1 * 2 ^ min n (IntKind.bits .u32)) - 1)
theorem n3f' : ((List.range 9).all fun n => (List.range 32).all fun i => (bitF (hallU n) i == decide (i < n)) && (bitF (IntKind.u32.wrap (hallU n * 2 ^ min (Int.toNat 1) (IntKind.bits .u32))) i == (decide (1 ≤ i) && decide (i ≤ n)))) = true := by kernel_rfl
theorem n36' (b : Bldg) : u32C (hallC b) := by
  have k : ∀ n : Int, 0 ≤ IntKind.u32.wrap n ∧ IntKind.u32.wrap n < 4294967296 := fun n => by
    simp only [IntKind.wrap, IntKind.signed, IntKind.bits]
    simp
    omega
  exact ⟨k _, k _⟩
theorem nvk' {b : Bldg} (hb : b.small) (hcode : b.code = 0) {f : Nat} (hf : f < 32) {d : Int} (hd : d = 1 ∨ d = 2) : bitC (hallC b) f d = nh' b (f : Int) d := by
  have lo := hb.lo
  have hi := hb.hi
  have t := List.all_eq_true.1 (List.all_eq_true.1 n3f' (b.Floors - 1).toNat (List.mem_range.2 (by omega))) f (List.mem_range.2 hf)
  rw [Bool.and_eq_true, beq_iff_eq, beq_iff_eq] at t
  unfold nh' callB
  rw [hcode]
  rcases hd with rfl | rfl
  · have e : bitC (hallC b) f 1 = bitF (hallU (b.Floors - 1).toNat) f := rfl
    rw [e, t.1]
    unfold inR
    rw [decide_eq_true (show (0 : Int) ≤ (f : Int) by omega)]
    by_cases g : f < (b.Floors - 1).toNat
    · rw [decide_eq_true g, decide_eq_true (show (f : Int) ≤ b.Floors - 2 by omega)]; rfl
    · rw [decide_eq_false g, decide_eq_false (show ¬ (f : Int) ≤ b.Floors - 2 by omega)]; rfl
  · have e : bitC (hallC b) f 2 = bitF (IntKind.u32.wrap (hallU (b.Floors - 1).toNat * 2 ^ min (Int.toNat 1) (IntKind.bits .u32))) f := rfl
    rw [e, t.2]
    unfold inR
    by_cases g : 1 ≤ f
    · rw [decide_eq_true g, decide_eq_true (show (1 : Int) ≤ (f : Int) by omega)]
      by_cases g' : f ≤ (b.Floors - 1).toNat
      · rw [decide_eq_true g', decide_eq_true (show (f : Int) ≤ b.Floors - 1 by omega)]; rfl
      · rw [decide_eq_false g', decide_eq_false (show ¬ (f : Int) ≤ b.Floors - 1 by omega)]; rfl
    · rw [decide_eq_false g, decide_eq_false (show ¬ (1 : Int) ≤ (f : Int) by omega)]; rfl
def hallS (b : Bldg) (i : Nat) (s : Int × Int) : Int × Int := (bif nh' b (i : Int) 1 then orC s.1 (powC (i : Int)) else s.1, bif nh' b (i : Int) 2 then orC s.2 (powC (i : Int)) else s.2)
theorem nxd' {b : Bldg} (hb : b.small) (hcode : b.code = 0) : nhm' b.Floors b.Debounce b.Room b.Park b.Empty b.Full b.Over b.Cars = some (((), ()), (((hallC b).1, (hallC b).2, ()), ())) := by
  have h := nhn' (step := fun x => nfu' x.1.2.2.2.1 x.2.1.1 x.2.1.2.1 x.2.1.2.2.1 x.2.1.2.2.2.1 x.2.1.2.2.2.2.1 x.2.1.2.2.2.2.2.1 x.2.1.2.2.2.2.2.2.1 x.2.1.2.2.2.2.2.2.2.1 x.2.2.1.1 x.2.2.1.2.1 x.2.2.2.1.1 x.2.2.2.1.2.1) 32 (fun i (s : Int × Int) => (((), (), (), (i : Int), ()), (b.tup, ((0 : Int), (0 : Int), ()), (s.1, s.2, ()), ()))) (hallS b)
    (fun i s => u32C s ∧ ∀ f : Nat, f < 32 → ∀ d : Int, (d = 1 ∨ d = 2) → bitC s f d = (decide (f < i) && nh' b (f : Int) d)) (fun s => (((), (), ()), (((0 : Int), (0 : Int), ()), (s.1, s.2, ()), ()))) (fun i s hi hs => by
    have w : IntKind.u64.wrap (i : Int) = (i : Int) := nnf' (by omega) (by omega)
    have hp : ∀ j, bitF (powC (i : Int)) j = decide (j = i) := fun j => nx8' (k := i) hi j
    refine ⟨?_, ⟨?_, ?_⟩, fun f hf d hd => ?_⟩
    · show nfu' (i : Int) b.Floors b.Debounce b.Room b.Park b.Empty b.Full b.Over b.Cars 0 0 s.1 s.2 = _
      unfold nfu' hallS
      rw [ngb' hb, decide_eq_true (show (i : Int) < 32 by omega)]
      simp only [Option.bind_some, cond_true, w, decide_eq_true (show (0 : Int) ≤ (i : Int) by omega), w_or]
      cases nh' b (i : Int) 1 with
      | true =>
        simp only [cond_true, Option.bind_some, ngb' hb, w, decide_eq_true (show (0 : Int) ≤ (i : Int) by omega), nb' (n := (i : Int) + 1) (by omega) (by omega)]
        cases nh' b (i : Int) 2 <;> rfl
      | false =>
        simp only [cond_false, Option.bind_some, ngb' hb, w, decide_eq_true (show (0 : Int) ≤ (i : Int) by omega), cond_true, nb' (n := (i : Int) + 1) (by omega) (by omega)]
        cases nh' b (i : Int) 2 <;> rfl
    · unfold hallS
      cases nh' b (i : Int) 1
      · exact hs.1.1
      · exact nhd' _
    · unfold hallS
      cases nh' b (i : Int) 2
      · exact hs.1.2
      · exact nhd' _
    · have hk := hs.2 f hf d hd
      have dk : decide (f < i + 1) = (decide (f < i) || decide (f = i)) := by
        rw [Bool.eq_iff_iff, Bool.or_eq_true, decide_eq_true_eq, decide_eq_true_eq, decide_eq_true_eq]; omega
      rw [dk]
      rcases hd with rfl | rfl
      · have e : bitC (hallS b i s) f 1 = bitF (bif nh' b (i : Int) 1 then orC s.1 (powC (i : Int)) else s.1) f := rfl
        have hk' : bitF s.1 f = _ := hk
        rw [e]
        cases hc : nh' b (i : Int) 1 with
        | true =>
          rw [cond_true]
          unfold orC
          rw [nor', BitVec.getLsbD_or]
          show (bitF s.1 f || bitF (powC (i : Int)) f) = _
          rw [hk', hp]
          by_cases g : f = i
          · subst g; rw [hc]; simp
          · rw [decide_eq_false g]; simp
        | false =>
          rw [cond_false, hk']
          by_cases g : f = i
          · subst g; rw [hc]; simp
          · rw [decide_eq_false g]; simp
      · have e : bitC (hallS b i s) f 2 = bitF (bif nh' b (i : Int) 2 then orC s.2 (powC (i : Int)) else s.2) f := rfl
        have hk' : bitF s.2 f = _ := hk
        rw [e]
        cases hc : nh' b (i : Int) 2 with
        | true =>
          rw [cond_true]
          unfold orC
          rw [nor', BitVec.getLsbD_or]
          show (bitF s.2 f || bitF (powC (i : Int)) f) = _
          rw [hk', hp]
          by_cases g : f = i
          · subst g; rw [hc]; simp
          · rw [decide_eq_false g]; simp
        | false =>
          rw [cond_false, hk']
          by_cases g : f = i
          · subst g; rw [hc]; simp
          · rw [decide_eq_false g]; simp) (fun s _ => by
    show nfu' 32 b.Floors b.Debounce b.Room b.Park b.Empty b.Full b.Over b.Cars 0 0 s.1 s.2 = _
    unfold nfu'
    rw [show decide ((32 : Int) < 32) = false from rfl]; rfl) 32 0 (0, 0) (by omega) ⟨nji', fun f _ d _ => by rw [nee']; simp⟩
  have h' := nv' h.1 (by omega)
  have hall : foldN (hallS b) 32 0 (0, 0) = hallC b := nmf' h.2.1 (n36' b) fun f hf d hd => by
    rw [h.2.2 f hf d hd, nvk' hb hcode hf hd, decide_eq_true hf, Bool.true_and]
  rw [hall] at h'
  unfold nhm'
  simp only [Bldg.tup] at h'
  rw [show ni0' (((), (), (), (0 : Int), ()), ((b.Floors, b.Debounce, b.Room, b.Park, b.Empty, b.Full, b.Over, b.Cars, ()), ((0 : Int), (0 : Int), ()), ((0 : Int), (0 : Int), ()), ())) = _ from h']
  rfl
def nb7' (b : Bldg) (v : View) : Int × Int := bif v.Serving then bothC (v.Shows_Up, v.Shows_Down) (hallC b) else (0, 0)
theorem nko' {b : Bldg} (hb : b.small) (hcode : b.code = 0) (v : View) : nel' b.Floors b.Debounce b.Room b.Park b.Empty b.Full b.Over b.Cars v.Ready v.Serving v.Legacy v.Lost v.Floor v.Dir v.Load v.Shows_Up v.Shows_Down v.Stops_Car v.Stops_Hall_Up v.Stops_Hall_Down = some (((), ()), (((nb7' b v).1, (nb7' b v).2, ()), ())) := by
  unfold nel' nb7'
  cases v.Serving with
  | false => rfl
  | true =>
    rw [nl4' hb hcode]
    simp only [Bool.not_true, cond_false, Option.bind_some, cond_true]
    rw [nkg' (v.Shows_Up, v.Shows_Down) (hallC b)]
    rfl
theorem nrt' {c : Int × Int} (h : Int → Int → Option ((Bool × Unit) × Unit)) (hh : ∀ f : Nat, f < 32 → ∀ d : Int, (d = 1 ∨ d = 2) → h (f : Int) d = some ((bitC c f d, ()), ())) : ∀ k i : Nat, i + k ≤ 32 → collO h (fun f d => Entry.mk f d (-1) 0 false) ((List.range' i k).flatMap fun f : Nat => [((f : Int), 1), ((f : Int), 2)]) = some ((List.range' i k).flatMap (nhc' c))
  | 0, _, _ => rfl
  | k + 1, i, hk => by
    rw [List.range'_succ, List.flatMap_cons, List.flatMap_cons]
    show collO h _ (((i : Int), 1) :: ((i : Int), 2) :: ((List.range' (i + 1) k).flatMap fun f : Nat => [((f : Int), 1), ((f : Int), 2)])) = _
    simp only [collO]
    rw [hh i (by omega) 1 (.inl rfl), hh i (by omega) 2 (.inr rfl), nrt' h hh k (i + 1) (by omega)]
    unfold nhc'
    cases bitC c i 1 <;> cases bitC c i 2 <;> rfl
theorem nuy' (c : Int × Int) : nin' c.1 c.2 = some ((listC c, ()), ()) := by
  unfold nin' lstF
  have e : pairs64 = (List.range' 0 32).flatMap fun f : Nat => [((f : Int), 1), ((f : Int), 2)] := by
    unfold pairs64
    rw [List.range_eq_range']
  have h := nrt' (c := c) (fun f d => ncz' c.1 c.2 f d) (fun f hf d hd => by
    have h := nop' c (F := (f : Int)) (D := d) ⟨by omega, by omega⟩ hd
    rw [Int.toNat_natCast] at h
    exact h) 32 0 (by omega)
  rw [e, h]
  rfl
end Go.Ovl
namespace Go.Ovl
open Go Go.Ab
set_option maxRecDepth 100000
def chkTz (s : Nat) : Option ((Int × Unit) × Unit) → Bool
  | some ((k, _), _) => Nat.beq s 0 || (decide (0 ≤ k) && (decide (k < 8) && (s.testBit k.toNat && (List.range 8).all fun i => Nat.ble k.toNat i || !s.testBit i)))
  | none => false
def n2a' (s : Nat) : Option ((Int × Unit) × Unit) → Bool
  | some ((k, _), _) => Nat.beq s 0 || (decide (1 ≤ k) && (decide (k ≤ 8) && (s.testBit (k.toNat - 1) && (List.range 8).all fun i => Nat.blt i k.toNat || !s.testBit i)))
  | none => false
def ones8 (s : Nat) : Nat := (List.range 8).foldl (fun n i => n + (s.testBit i).toNat) 0
def nyr' (s : Nat) : Option ((Int × Unit) × Unit) → Bool
  | some ((k, _), _) => k == (ones8 s : Int)
  | none => false
theorem n6j' : ((List.range 256).all fun s => chkTz s (nco' (s : Int))) = true := by kernel_rfl
theorem n4d' : ((List.range 256).all fun s => n2a' s (ng2' (s : Int))) = true := by kernel_rfl
theorem n3e' : ((List.range 256).all fun s => nyr' s (ncf' (s : Int))) = true := by kernel_rfl
theorem tz_eq {s : Nat} (h : s < 256) (h0 : s ≠ 0) : ∃ k : Nat, nco' (s : Int) = some (((k : Int), ()), ()) ∧ k < 8 ∧ s.testBit k = true ∧ ∀ i, i < k → s.testBit i = false := by
  have := List.all_eq_true.1 n6j' s (List.mem_range.2 h)
  cases hf : nco' (s : Int) with
  | none => rw [hf] at this; cases this
  | some r =>
    obtain ⟨⟨k, _⟩, _⟩ := r
    rw [hf] at this
    have hb : Nat.beq s 0 = false := by cases hb : Nat.beq s 0 with
      | false => rfl
      | true => exact absurd (Nat.eq_of_beq_eq_true hb) h0
    simp only [chkTz, hb, Bool.false_or, Bool.and_eq_true, decide_eq_true_eq, List.all_eq_true] at this
    obtain ⟨a1, a2, a3, a4⟩ := this
    refine ⟨k.toNat, by rw [Int.toNat_of_nonneg a1], by omega, a3, fun i hi => ?_⟩
    have := a4 i (List.mem_range.2 (by omega))
    have hn : Nat.ble k.toNat i = false := by
      cases hb : Nat.ble k.toNat i with
      | false => rfl
      | true => exact absurd (Nat.le_of_ble_eq_true hb) (by omega)
    rw [hn] at this
    simpa using this
theorem n5y' {s : Nat} (h : s < 256) (h0 : s ≠ 0) : ∃ k : Nat, ng2' (s : Int) = some ((((k + 1 : Nat) : Int), ()), ()) ∧ k < 8 ∧ s.testBit k = true ∧ ∀ i, k < i → s.testBit i = false := by
  have := List.all_eq_true.1 n4d' s (List.mem_range.2 h)
  cases hf : ng2' (s : Int) with
  | none => rw [hf] at this; cases this
  | some r =>
    obtain ⟨⟨k, _⟩, _⟩ := r
    rw [hf] at this
    have hb : Nat.beq s 0 = false := by cases hb : Nat.beq s 0 with
      | false => rfl
      | true => exact absurd (Nat.eq_of_beq_eq_true hb) h0
    simp only [n2a', hb, Bool.false_or, Bool.and_eq_true, decide_eq_true_eq, List.all_eq_true] at this
    obtain ⟨a1, a2, a3, a4⟩ := this
    refine ⟨k.toNat - 1, by congr 3; omega, by omega, a3, fun i hi => ?_⟩
    by_cases hi8 : i < 8
    · have := a4 i (List.mem_range.2 hi8)
      have hn : Nat.blt i k.toNat = false := by
        cases hb : Nat.blt i k.toNat with
        | false => rfl
        | true => exact absurd (Nat.le_of_ble_eq_true hb) (by omega)
      rw [hn] at this
      simpa using this
    · exact Nat.testBit_lt_two_pow (Nat.lt_of_lt_of_le h (by rw [show 256 = 2 ^ 8 from rfl]; exact Nat.pow_le_pow_right (by omega) (by omega)))
theorem ns8' {s : Nat} (h : s < 256) : ncf' (s : Int) = some ((((ones8 s : Nat) : Int), ()), ()) := by
  have := List.all_eq_true.1 n3e' s (List.mem_range.2 h)
  cases hf : ncf' (s : Int) with
  | none => rw [hf] at this; cases this
  | some r =>
    obtain ⟨⟨k, _⟩, _⟩ := r
    rw [hf] at this
    simp only [nyr', beq_iff_eq] at this
    rw [this]
end Go.Ovl
namespace Go.Ovl
open Go Go.Ab
set_option maxRecDepth 100000
def allM (fl : Nat) : Int := IntKind.u32.wrap (IntKind.u32.wrap (1 * 2 ^ min fl (IntKind.bits .u32)) - 1)
theorem n3p' : ((List.range 9).all fun fl => (List.range 32).all fun i => (bitF (allM fl) i == decide (i < fl)) && ((bitF (Int.fdiv (allM fl) (2 ^ min (Int.toNat 1) (IntKind.bits .u32))) i == decide (i + 1 < fl)) && (bitF (IntKind.u32.wrap (stk (allM fl) 1 (BitVec.toNat (BitVec.ofInt (IntKind.bits .u32) (allM fl) &&& ~~~ BitVec.ofInt (IntKind.bits .u32) 1)))) i == (decide (0 < i) && decide (i < fl))))) = true := by kernel_rfl
theorem ng7' {fl : Nat} (h : fl ≤ 8) {i : Nat} (hi : i < 32) : bitF (allM fl) i = decide (i < fl) ∧ bitF (Int.fdiv (allM fl) (2 ^ min (Int.toNat 1) (IntKind.bits .u32))) i = decide (i + 1 < fl) ∧
    bitF (IntKind.u32.wrap (stk (allM fl) 1 (BitVec.toNat (BitVec.ofInt (IntKind.bits .u32) (allM fl) &&& ~~~ BitVec.ofInt (IntKind.bits .u32) 1)))) i = (decide (0 < i) && decide (i < fl)) := by
  have := List.all_eq_true.1 (List.all_eq_true.1 n3p' fl (List.mem_range.2 (by omega))) i (List.mem_range.2 hi)
  simpa only [Bool.and_eq_true, beq_iff_eq] using this
def u32r (n : Int) : Prop := 0 ≤ n ∧ n < 4294967296
theorem nv7' {b : BitVec 32} {fl : Nat} (hfl : fl ≤ 8) (h : ∀ i, i < 32 → b.getLsbD i = true → i < fl) : b.toNat < 256 := by
  have : b.toNat < 2 ^ 8 := by
    refine Nat.lt_pow_two_of_testBit _ fun i hi => ?_
    by_cases h32 : i < 32
    · cases hb : b.toNat.testBit i with
      | false => rfl
      | true => have := h i h32 (by rw [BitVec.getLsbD]; exact hb); omega
    · rw [← BitVec.getLsbD]; exact BitVec.getLsbD_of_ge _ _ (by omega)
  simpa using this
structure Cnt (fl : Nat) (car up down : Int) (a u d : Nat) : Prop where
  la : a < 256
  lu : u < 256
  ld : d < 256
  ab : ∀ i, i < fl → a.testBit i = bitF car i
  ub : ∀ i, i < fl → u.testBit i = (decide (i + 1 < fl) && bitF up i)
  db : ∀ i, i < fl → d.testBit i = (decide (0 < i) && bitF down i)
  hi : ∀ i, fl ≤ i → a.testBit i = false ∧ u.testBit i = false ∧ d.testBit i = false
theorem nkp' {fl : Nat} (hfl : fl ≤ 8) (car up down : Int) : ∃ a u d : Nat, nfm' fl car up down = some (((), ()), (((a : Int), (u : Int), (d : Int), ()), ())) ∧ Cnt fl car up down a u d := by
  have e0 : decide ((0 : Int) ≤ (fl : Int)) = true := by simp
  have tn : Int.toNat (fl : Int) = fl := by omega
  refine ⟨(bv car &&& bv (allM fl)).toNat, (bv up &&& bv (Int.fdiv (allM fl) (2 ^ min (Int.toNat 1) (IntKind.bits .u32)))).toNat, (bv down &&& bv (IntKind.u32.wrap (stk (allM fl) 1 (BitVec.toNat (BitVec.ofInt (IntKind.bits .u32) (allM fl) &&& ~~~ BitVec.ofInt (IntKind.bits .u32) 1))))).toNat, ?_, ?_⟩
  · unfold nfm'
    rw [e0, cond_true, tn]
    unfold ndu'
    simp only [Option.bind_some]
    rw [show IntKind.u32.wrap (IntKind.u32.wrap (1 * 2 ^ min fl (IntKind.bits .u32)) - 1) = allM fl from rfl]
    rw [w_and, w_and, w_and]
    rfl
  · have hb : ∀ (x y : Int) (i : Nat), (bv x &&& bv y).toNat.testBit i = (bitF x i && bitF y i) := fun x y i => by
      rw [← BitVec.getLsbD, BitVec.getLsbD_and]; rfl
    have hlo : ∀ (x y : Int), (∀ i, i < 32 → bitF y i = true → i < fl) → (bv x &&& bv y).toNat < 256 := fun x y h => nv7' hfl fun i hi hg => h i hi (by
      rw [BitVec.getLsbD_and, Bool.and_eq_true] at hg; exact hg.2)
    refine ⟨hlo _ _ fun i hi h => ?_, hlo _ _ fun i hi h => ?_, hlo _ _ fun i hi h => ?_, fun i hi => ?_, fun i hi => ?_, fun i hi => ?_, fun i hi => ?_⟩
    · rw [(ng7' hfl hi).1] at h; simpa using h
    · rw [(ng7' hfl hi).2.1] at h; have := of_decide_eq_true h; omega
    · rw [(ng7' hfl hi).2.2, Bool.and_eq_true] at h; exact of_decide_eq_true h.2
    · rw [hb, (ng7' hfl (by omega)).1]; simp [hi]
    · rw [hb, (ng7' hfl (by omega)).2.1, Bool.and_comm]
    · rw [hb, (ng7' hfl (by omega)).2.2, Bool.and_comm]; simp [hi]
    · rw [hb, hb, hb]
      by_cases h32 : i < 32
      · obtain ⟨h1, h2, h3⟩ := ng7' hfl h32
        rw [h1, h2, h3, show decide (i < fl) = false from decide_eq_false (by omega), show decide (i + 1 < fl) = false from decide_eq_false (by omega)]
        simp
      · rw [ns3' _ (by omega), ns3' up (by omega), ns3' down (by omega)]
        simp
theorem npf' {f : Int} (h : u32r f) {i : Nat} (hi : i < 32) :
    (IntKind.u32.wrap (stk (Int.fdiv f (2 ^ min i (IntKind.bits .u32))) 1 (BitVec.toNat (BitVec.ofInt (IntKind.bits .u32) (Int.fdiv f (2 ^ min i (IntKind.bits .u32))) &&& BitVec.ofInt (IntKind.bits .u32) 1))) == 1) = bitF f i := by
  rw [nnc']; exact n3k' h hi
theorem np2' {fl : Nat} (h2 : 2 ≤ fl) (hfl : fl ≤ 8) {car up down : Int} (hc : u32r car) (hu : u32r up) (hd : u32r down) {a u d : Nat} (c : Cnt fl car up down a u d) {f : Nat} (hf : f < fl) :
    nd5' fl car up down f 0 = some ((a.testBit f, ()), ()) ∧ nd5' fl car up down f 1 = some ((u.testBit f, ()), ()) ∧ nd5' fl car up down f 2 = some ((d.testBit f, ()), ()) := by
  have w : IntKind.u64.wrap (f : Int) = (f : Int) := nnf' (by omega) (by omega)
  have e0 : decide ((0 : Int) ≤ (f : Int)) = true := by simp
  have tn : Int.toNat (f : Int) = f := by omega
  have w1 : IntKind.i64.wrap ((fl : Int) - 1) = (fl : Int) - 1 := nb' (by omega) (by omega)
  refine ⟨?_, ?_, ?_⟩
  · unfold nd5'
    rw [show ((0 : Int) == 1) = false from rfl, show ((0 : Int) == 2) = false from rfl]
    simp only [cond_false, w, e0, tn, cond_true, npf' hc (show f < 32 by omega), c.ab f hf]
  · unfold nd5'
    rw [show ((1 : Int) == 1) = true from rfl]
    simp only [cond_true, w, w1, e0, tn, npf' hu (show f < 32 by omega), c.ub f hf]
    by_cases h : f + 1 < fl
    · rw [show decide ((f : Int) < (fl : Int) - 1) = true from decide_eq_true (by omega), show decide (f + 1 < fl) = true from decide_eq_true h]
      simp
    · rw [show decide ((f : Int) < (fl : Int) - 1) = false from decide_eq_false (by omega), show decide (f + 1 < fl) = false from decide_eq_false h]
      simp
  · unfold nd5'
    rw [show ((2 : Int) == 1) = false from rfl, show ((2 : Int) == 2) = true from rfl]
    simp only [cond_true, cond_false, w, e0, tn, npf' hd (show f < 32 by omega), c.db f hf]
    by_cases h : 0 < f
    · rw [show decide ((0 : Int) < (f : Int)) = true from decide_eq_true (by omega), show decide (0 < f) = true from decide_eq_true h]
      simp
    · rw [show decide ((0 : Int) < (f : Int)) = false from decide_eq_false (by omega), show decide (0 < f) = false from decide_eq_false h]
      simp
end Go.Ovl
namespace Go.Ovl
open Go Go.Ab
set_option maxRecDepth 100000
def ne5' (p : Bool) (i : Int) (x : Int × Int) : Int × Int := bif p then (bif decide (x.1 < i) then i else x.1, bif decide (i < x.2) then i else x.2) else x
def hlF (p : Nat → Bool) : Nat → Nat → Int × Int → Int × Int
  | 0, _, x => x
  | m + 1, i, x => hlF p m (i + 1) (ne5' (p i) i x)
theorem nxh' (p : Bool) (i : Int) (x : Int × Int) : ((ne5' p i x).1 = x.1 ∨ (p = true ∧ (ne5' p i x).1 = i)) ∧ ((ne5' p i x).2 = x.2 ∨ (p = true ∧ (ne5' p i x).2 = i)) ∧ x.1 ≤ (ne5' p i x).1 ∧ (ne5' p i x).2 ≤ x.2 ∧ (p = true → i ≤ (ne5' p i x).1 ∧ (ne5' p i x).2 ≤ i) := by
  unfold ne5'
  cases p with
  | false => simp
  | true =>
    simp only [cond_true]
    by_cases h1 : x.1 < i <;> by_cases h2 : i < x.2 <;> simp [h1, h2] <;> omega
theorem nvw' (p : Nat → Bool) : ∀ (m i : Nat) (x : Int × Int),
    ((hlF p m i x).1 = x.1 ∨ ∃ j, i ≤ j ∧ j < i + m ∧ p j = true ∧ (hlF p m i x).1 = (j : Int)) ∧ ((hlF p m i x).2 = x.2 ∨ ∃ j, i ≤ j ∧ j < i + m ∧ p j = true ∧ (hlF p m i x).2 = (j : Int)) ∧
    x.1 ≤ (hlF p m i x).1 ∧ (hlF p m i x).2 ≤ x.2 ∧ ∀ j, i ≤ j → j < i + m → p j = true → (j : Int) ≤ (hlF p m i x).1 ∧ (hlF p m i x).2 ≤ (j : Int)
  | 0, i, x => ⟨.inl rfl, .inl rfl, Int.le_refl _, Int.le_refl _, fun j h1 h2 => by omega⟩
  | m + 1, i, x => by
    obtain ⟨s1, s2, s3, s4, s5⟩ := nxh' (p i) i x
    obtain ⟨t1, t2, t3, t4, t5⟩ := nvw' p m (i + 1) (ne5' (p i) i x)
    show ((hlF p m (i + 1) (ne5' (p i) i x)).1 = x.1 ∨ _) ∧ _
    refine ⟨?_, ?_, Int.le_trans s3 t3, Int.le_trans t4 s4, fun j h1 h2 h3 => ?_⟩
    · rcases t1 with t1 | ⟨j, j1, j2, j3, j4⟩
      · rcases s1 with s1 | ⟨s1, s1'⟩
        · exact .inl (t1.trans s1)
        · exact .inr ⟨i, Nat.le_refl _, by omega, s1, t1.trans s1'⟩
      · exact .inr ⟨j, by omega, by omega, j3, j4⟩
    · rcases t2 with t1 | ⟨j, j1, j2, j3, j4⟩
      · rcases s2 with s1 | ⟨s1, s1'⟩
        · exact .inl (t1.trans s1)
        · exact .inr ⟨i, Nat.le_refl _, by omega, s1, t1.trans s1'⟩
      · exact .inr ⟨j, by omega, by omega, j3, j4⟩
    · by_cases e : j = i
      · subst e
        have := s5 h3
        exact ⟨Int.le_trans this.1 t3, Int.le_trans t4 this.2⟩
      · exact t5 j (by omega) (by omega) h3
theorem nuu' {fl : Nat} (h2 : 2 ≤ fl) (hfl : fl ≤ 8) {car up down : Int} (hc : u32r car) (hu : u32r up) (hd : u32r down) {a u d : Nat} (c : Cnt fl car up down a u d) (from_ sweep floor dir : Int) (x : Int × Int) :
    ni4' (((fl : Int), from_, sweep, floor, dir, (), x.1, x.2, (0 : Int), ()), ((car, up, down, ()), ())) = some ((from_, sweep, floor, dir, (hlF (fun i => a.testBit i || (u.testBit i || d.testBit i)) fl 0 x).1, (hlF (fun i => a.testBit i || (u.testBit i || d.testBit i)) fl 0 x).2, ()), ()) := by
  have key : ∀ (m i : Nat) (x : Int × Int), i + m = fl → iter (fun x => nfl' x.1.1 x.1.2.1 x.1.2.2.1 x.1.2.2.2.1 x.1.2.2.2.2.1 x.1.2.2.2.2.2.2.1 x.1.2.2.2.2.2.2.2.1 x.1.2.2.2.2.2.2.2.2.1 x.2.1.1 x.2.1.2.1 x.2.1.2.2.1) (m + 1) (((fl : Int), from_, sweep, floor, dir, (), x.1, x.2, (i : Int), ()), ((car, up, down, ()), ())) = some ((from_, sweep, floor, dir, (hlF (fun i => a.testBit i || (u.testBit i || d.testBit i)) m i x).1, (hlF (fun i => a.testBit i || (u.testBit i || d.testBit i)) m i x).2, ()), ()) := by
    intro m
    induction m with
    | zero =>
      intro i x hi'
      refine nr' ?_
      show nfl' (fl : Int) from_ sweep floor dir x.1 x.2 (i : Int) car up down = _
      unfold nfl'
      have e : decide ((i : Int) < (fl : Int)) = false := by simp; omega
      rw [e]; rfl
    | succ m ih =>
      intro i x hi'
      obtain ⟨k0, k1, k2⟩ := np2' h2 hfl hc hu hd c (show i < fl by omega)
      have e : decide ((i : Int) < (fl : Int)) = true := by simp; omega
      have w : IntKind.i64.wrap ((i : Int) + 1) = ((i + 1 : Nat) : Int) := by rw [nb' (by omega) (by omega)]; omega
      refine (ny' (x' := (((fl : Int), from_, sweep, floor, dir, (), (ne5' (a.testBit i || (u.testBit i || d.testBit i)) i x).1, (ne5' (a.testBit i || (u.testBit i || d.testBit i)) i x).2, ((i + 1 : Nat) : Int), ()), ((car, up, down, ()), ()))) ?_).trans (ih (i + 1) _ (by omega))
      show nfl' (fl : Int) from_ sweep floor dir x.1 x.2 (i : Int) car up down = _
      unfold nfl'
      simp only [e, cond_true, k0, k1, k2, Option.bind_some]
      cases a.testBit i with
      | true => simp only [cond_true, Option.bind_some, w, Bool.true_or]; rfl
      | false =>
        cases u.testBit i with
        | true => simp only [cond_true, cond_false, Option.bind_some, w, Bool.true_or, Bool.false_or]; rfl
        | false =>
          cases d.testBit i with
          | true => simp only [cond_true, cond_false, Option.bind_some, w, Bool.false_or]; rfl
          | false => simp only [cond_false, Option.bind_some, w, Bool.false_or]; rfl
  exact nv' (key fl 0 x (by omega)) (by omega)
theorem n6b' {fl : Nat} {p : Nat → Bool} {S : Nat} {from_ floor : Nat} (_hfr : from_ < fl) (_hfo : floor < fl) (hS : ∀ i, S.testBit i = (decide (i < fl) && p i || (decide (i = from_) || decide (i = floor))))
    {hi lo : Nat} (h1 : S.testBit hi = true) (h2 : ∀ i, hi < i → S.testBit i = false) (l1 : S.testBit lo = true) (l2 : ∀ i, i < lo → S.testBit i = false) :
    hlF p fl 0 (bif decide ((from_ : Int) < floor) then (floor : Int) else from_, bif decide ((floor : Int) < from_) then (floor : Int) else from_) = ((hi : Int), (lo : Int)) := by
  obtain ⟨s1, s2, s3, s4, s5⟩ := nvw' p fl 0 (bif decide ((from_ : Int) < floor) then (floor : Int) else from_, bif decide ((floor : Int) < from_) then (floor : Int) else from_)
  generalize hlF p fl 0 (bif decide ((from_ : Int) < floor) then (floor : Int) else from_, bif decide ((floor : Int) < from_) then (floor : Int) else from_) = r at *
  have bmax : (bif decide ((from_ : Int) < floor) then (floor : Int) else from_) = ((max from_ floor : Nat) : Int) := by
    by_cases h : (from_ : Int) < floor
    · rw [decide_eq_true h]; simp only [cond_true]; omega
    · rw [decide_eq_false h]; simp only [cond_false]; omega
  have bmin : (bif decide ((floor : Int) < from_) then (floor : Int) else from_) = ((min from_ floor : Nat) : Int) := by
    by_cases h : (floor : Int) < from_
    · rw [decide_eq_true h]; simp only [cond_true]; omega
    · rw [decide_eq_false h]; simp only [cond_false]; omega
  simp only [bmax, bmin] at s1 s2 s3 s4
  have mem : ∀ i, i < fl → p i = true → S.testBit i = true := fun i h hp => by rw [hS, decide_eq_true h, hp]; rfl
  have mfr : S.testBit from_ = true := by rw [hS]; simp
  have mfo : S.testBit floor = true := by rw [hS]; simp
  have up : ∀ i, S.testBit i = true → i ≤ hi := fun i h => by
    rcases Nat.lt_or_ge hi i with h' | h'
    · rw [h2 i h'] at h; cases h
    · exact h'
  have dn : ∀ i, S.testBit i = true → lo ≤ i := fun i h => by
    rcases Nat.lt_or_ge i lo with h' | h'
    · rw [l2 i h'] at h; cases h
    · exact h'
  have inS : ∀ i, S.testBit i = true → (i < fl ∧ p i = true) ∨ i = from_ ∨ i = floor := fun i h => by
    rw [hS] at h
    simp only [Bool.or_eq_true, Bool.and_eq_true, decide_eq_true_eq] at h
    exact h
  have u1 := up _ mfr
  have u2 := up _ mfo
  have d1 := dn _ mfr
  have d2 := dn _ mfo
  have r1 : r.1 ≤ (hi : Int) := by
    rcases s1 with s1 | ⟨j, _, j2, j3, j4⟩
    · omega
    · have := up j (mem j (by omega) j3); omega
  have r2 : (lo : Int) ≤ r.2 := by
    rcases s2 with s1 | ⟨j, _, j2, j3, j4⟩
    · omega
    · have := dn j (mem j (by omega) j3); omega
  clear s1 s2
  have q1 : (hi : Int) ≤ r.1 := by
    rcases inS hi h1 with ⟨g1, g2⟩ | g | g
    · exact (s5 hi (Nat.zero_le _) (by omega) g2).1
    · omega
    · omega
  have q2 : r.2 ≤ (lo : Int) := by
    rcases inS lo l1 with ⟨g1, g2⟩ | g | g
    · exact (s5 lo (Nat.zero_le _) (by omega) g2).2
    · omega
    · omega
  exact Prod.ext (Int.le_antisymm r1 q1) (Int.le_antisymm q2 r2)
end Go.Ovl
namespace Go.Ovl
open Go Go.Ab
set_option maxRecDepth 100000
def distF (f at_ : Int) : Int := bif decide (f - at_ < at_ - f) then at_ - f else f - at_
def wayF : List Int → Int → Int → Int
  | [], n, _ => n
  | f :: t, n, at_ => wayF t (n + distF f at_) f
theorem nvi' {s : List Int} (hs : ∀ e ∈ s, 0 ≤ e ∧ e < 100) (hsl : s.length ≤ 100) (b0 b1 : Int) : ∀ (m i : Nat) (n at_ : Int), i + m = s.length → m ≤ 100 → 0 ≤ at_ ∧ at_ < 100 → 0 ≤ n ∧ n + 100 * (m : Int) < 100000 →
    iter (fun x => ncb' x.1.1 x.1.2.1 x.1.2.2.1 x.1.2.2.2.1 x.1.2.2.2.2.1 x.2.1.1 x.2.2.1.1) (m + 1) ((n, at_, s, (s.length : Int), (i : Int), ()), ((b0, ()), (b1, ()), ())) = some ((wayF (s.drop i) n at_, ()), ((b0, ()), (b1, ()), ()))
  | 0, i, n, at_, hi, _, _, _ => by
    refine nr' ?_
    show ncb' n at_ s (s.length : Int) (i : Int) b0 b1 = _
    unfold ncb'
    have e : decide ((i : Int) < (s.length : Int)) = false := by simp; omega
    rw [e, show i = s.length by omega, List.drop_length]; rfl
  | m + 1, i, n, at_, hi, hm, ha, hn => by
    have hg : 0 ≤ s.getD i 0 ∧ s.getD i 0 < 100 := by
      have h : i < s.length := by omega
      simp only [List.getD_eq_getElem?_getD, List.getElem?_eq_getElem h, Option.getD_some]
      exact hs _ (List.getElem_mem h)
    have hd : 0 ≤ distF (s.getD i 0) at_ ∧ distF (s.getD i 0) at_ < 100 := by
      unfold distF
      by_cases h : s.getD i 0 - at_ < at_ - s.getD i 0
      · rw [decide_eq_true h]; simp only [cond_true]; omega
      · rw [decide_eq_false h]; simp only [cond_false]; omega
    have e : decide ((i : Int) < (s.length : Int)) = true := by simp; omega
    have ib : inB (i : Int) s.length = true := nc' (by omega) (by omega)
    have tn : Int.toNat (i : Int) = i := by omega
    have w : IntKind.i64.wrap ((i : Int) + 1) = ((i + 1 : Nat) : Int) := by rw [nb' (by omega) (by omega)]; omega
    have w1 : IntKind.i64.wrap (s.getD i 0 - at_) = s.getD i 0 - at_ := nb' (by omega) (by omega)
    have w2 : IntKind.i64.wrap (at_ - s.getD i 0) = at_ - s.getD i 0 := nb' (by omega) (by omega)
    have w3 : IntKind.i64.wrap (n + distF (s.getD i 0) at_) = n + distF (s.getD i 0) at_ := nb' (by omega) (by omega)
    refine (ny' (x' := ((n + distF (s.getD i 0) at_, s.getD i 0, s, (s.length : Int), ((i + 1 : Nat) : Int), ()), ((b0, ()), (b1, ()), ()))) ?_).trans ?_
    · show ncb' n at_ s (s.length : Int) (i : Int) b0 b1 = _
      unfold ncb'
      simp only [e, ib, tn, w, w1, w2, cond_true]
      rw [show (bif decide (s.getD i 0 - at_ < at_ - s.getD i 0) then at_ - s.getD i 0 else s.getD i 0 - at_) = distF (s.getD i 0) at_ from rfl, w3]
    · rw [nvi' hs hsl b0 b1 m (i + 1) _ _ (by omega) (by omega) hg (by omega), nbi' (0 : Int) (show i < s.length by omega)]
      rfl
theorem nki' {l : List Int} (hl : ∀ e ∈ l, 0 ≤ e ∧ e < 100) (hlen : l.length ≤ 10) {from_ floor : Int} (hf : 0 ≤ from_ ∧ from_ < 100) (ho : 0 ≤ floor ∧ floor < 100) :
    ns' l from_ floor = some ((wayF (l ++ [floor]) 0 from_, ()), ((from_, ()), (floor, ()), ())) := by
  unfold ns'
  have hb : Nat.ble (l.length + [floor].length) 2147483648 = true := nbp' (by simp; omega)
  have hs : ∀ e ∈ l ++ [floor], 0 ≤ e ∧ e < 100 := fun e he => by
    rcases List.mem_append.1 he with h | h
    · exact hl e h
    · rw [List.mem_singleton.1 h]; exact ho
  have hl2 : (l ++ [floor]).length ≤ 11 := by simp; omega
  have h0 : ndr' (((0 : Int), from_, l ++ [floor], ((l ++ [floor]).length : Int), (0 : Int), ()), ((from_, ()), (floor, ()), ())) = _ := nv' (nvi' hs (by omega) from_ floor (l ++ [floor]).length 0 0 from_ (by omega) (by omega) hf (by omega)) (by omega)
  rw [List.drop_zero] at h0
  simp only [hb, cond_true, h0, Option.bind_some]
end Go.Ovl
namespace Go.Ovl
open Go Go.Ab
set_option maxRecDepth 100000
def nfv' (fl floor dir : Int) : Bool := (dir == 1 && (decide (0 ≤ floor) && decide (floor < fl - 1))) || (dir == 2 && (decide (0 < floor) && decide (floor < fl)))
theorem nl2' {fl : Int} (h : 0 ≤ fl ∧ fl < 100) (floor dir : Int) : nh2' fl floor dir = some ((nfv' fl floor dir, ()), ()) := by
  have w : IntKind.i64.wrap (fl - 1) = fl - 1 := nb' (by omega) (by omega)
  unfold nh2' nfv'
  rw [w]
  cases dir == 1 <;> cases decide (0 ≤ floor) <;> cases decide (floor < fl - 1) <;> cases dir == 2 <;> cases decide (0 < floor) <;> cases decide (floor < fl) <;> rfl
theorem nha' {fl : Int} (h : 2 ≤ fl ∧ fl ≤ 32) : ne9' fl = some ((true, ()), ()) := by
  unfold ne9'
  rw [decide_eq_true h.1, decide_eq_true h.2]; rfl
theorem refG {fl : Int} (h : 0 ≤ fl ∧ fl < 100) (from_ sweep floor dir car up down : Int) : (bif (dir == (1 : Int)) then bif (decide ((0 : Int) ≤ floor)) then bif (decide (floor < (Go.IntKind.wrap Go.IntKind.i64 (fl - (1 : Int))))) then some ((fl, from_, sweep, floor, dir, (), false, ()), ((car, up, down, ()), ())) else bif (dir == (2 : Int)) then bif (decide ((0 : Int) < floor)) then some ((fl, from_, sweep, floor, dir, (), (!(decide (floor < fl))), ()), ((car, up, down, ()), ())) else some ((fl, from_, sweep, floor, dir, (), true, ()), ((car, up, down, ()), ())) else some ((fl, from_, sweep, floor, dir, (), true, ()), ((car, up, down, ()), ())) else bif (dir == (2 : Int)) then bif (decide ((0 : Int) < floor)) then some ((fl, from_, sweep, floor, dir, (), (!(decide (floor < fl))), ()), ((car, up, down, ()), ())) else some ((fl, from_, sweep, floor, dir, (), true, ()), ((car, up, down, ()), ())) else some ((fl, from_, sweep, floor, dir, (), true, ()), ((car, up, down, ()), ())) else bif (dir == (2 : Int)) then bif (decide ((0 : Int) < floor)) then some ((fl, from_, sweep, floor, dir, (), (!(decide (floor < fl))), ()), ((car, up, down, ()), ())) else some ((fl, from_, sweep, floor, dir, (), true, ()), ((car, up, down, ()), ())) else some ((fl, from_, sweep, floor, dir, (), true, ()), ((car, up, down, ()), ()))) = some ((fl, from_, sweep, floor, dir, (), !nfv' fl floor dir, ()), ((car, up, down, ()), ())) := by
  have w : IntKind.i64.wrap (fl - 1) = fl - 1 := nb' (by omega) (by omega)
  unfold nfv'
  rw [w]
  cases dir == 1 <;> cases decide (0 ≤ floor) <;> cases decide (floor < fl - 1) <;> cases dir == 2 <;> cases decide (0 < floor) <;> cases decide (floor < fl) <;> rfl
def pathV (sw di fr fo lo hi : Int) : Int :=
  bif sw == 0 then (bif decide (fr - fo < fo - fr) then fo - fr else fr - fo)
  else bif sw == 1 then (bif di == 1 then (bif decide (fr ≤ fo) then fo - fr else hi - fr + hi - lo + fo - lo) else hi - fr + hi - fo)
  else (bif di == 2 then (bif decide (fo ≤ fr) then fr - fo else fr - lo + hi - lo + hi - fo) else fr - lo + fo - lo)
theorem n52' {fl : Nat} (hfl : fl ≤ 8) {car up down : Int} {a u d : Nat} (c : Cnt fl car up down a u d) {fr fo : Nat} (hr : fr < fl) (ho : fo < fl) :
    ∃ S : Nat, S < 256 ∧ S ≠ 0 ∧ (∀ i, S.testBit i = (decide (i < fl) && (a.testBit i || (u.testBit i || d.testBit i)) || (decide (i = fr) || decide (i = fo)))) ∧
      vb ((((bv a ||| bv u) ||| bv d) ||| BitVec.twoPow 32 fr) ||| BitVec.twoPow 32 fo) = (S : Int) := by
  have hb : ∀ (x : Nat), x < 256 → ∀ i, (bv (x : Int)).getLsbD i = x.testBit i := fun x hx i => by
    show bitF (x : Int) i = _
    rw [n2x' ⟨by omega, by omega⟩]; simp
  have hS : ∀ i, ((((bv a ||| bv u) ||| bv d) ||| BitVec.twoPow 32 fr) ||| BitVec.twoPow 32 fo).getLsbD i = (decide (i < fl) && (a.testBit i || (u.testBit i || d.testBit i)) || (decide (i = fr) || decide (i = fo))) := by
    intro i
    simp only [BitVec.getLsbD_or, hb a c.la, hb u c.lu, hb d c.ld, BitVec.getLsbD_twoPow]
    have e1 : (decide (fr < 32) && decide (fr = i)) = decide (i = fr) := by rw [decide_eq_true (show fr < 32 by omega), Bool.true_and]; exact decide_eq_decide.2 eq_comm
    have e2 : (decide (fo < 32) && decide (fo = i)) = decide (i = fo) := by rw [decide_eq_true (show fo < 32 by omega), Bool.true_and]; exact decide_eq_decide.2 eq_comm
    rw [e1, e2]
    by_cases hi : i < fl
    · rw [decide_eq_true hi, Bool.true_and]
      cases a.testBit i <;> cases u.testBit i <;> cases d.testBit i <;> cases decide (i = fr) <;> cases decide (i = fo) <;> rfl
    · obtain ⟨q1, q2, q3⟩ := c.hi i (by omega)
      rw [q1, q2, q3, decide_eq_false hi]; rfl
  refine ⟨((((bv a ||| bv u) ||| bv d) ||| BitVec.twoPow 32 fr) ||| BitVec.twoPow 32 fo).toNat, nv7' hfl fun i _ h => ?_, fun h0 => ?_, hS, rfl⟩
  · rw [hS] at h
    simp only [Bool.or_eq_true, Bool.and_eq_true, decide_eq_true_eq] at h
    rcases h with ⟨h, _⟩ | rfl | rfl
    · exact h
    · exact hr
    · exact ho
  · have := hS fr
    rw [BitVec.getLsbD, h0] at this
    simp at this
theorem nz6' {fl : Nat} (h2 : 2 ≤ fl) (hfl : fl ≤ 8) (car up down from_ sweep floor dir : Int) (h : ¬ (0 ≤ from_ ∧ from_ < fl ∧ 0 ≤ sweep ∧ sweep ≤ 2 ∧ nfv' fl floor dir = true)) :
    ndq' (fl : Int) from_ sweep car up down floor dir = some ((-1, ()), ()) ∧ nec' (fl : Int) from_ sweep car up down floor dir = some ((-1, ()), ()) := by
  unfold ndq' nec'
  rw [nha' ⟨by omega, by omega⟩, nl2' ⟨by omega, by omega⟩]
  simp only [Option.bind_some, Bool.not_true, cond_false]
  rw [decide_eq_false (show ¬ ((fl : Int) < 2) by omega), decide_eq_false (show ¬ ((32 : Int) < fl) by omega)]
  simp only [cond_false]
  by_cases g1 : from_ < 0
  · rw [decide_eq_true g1]; exact ⟨rfl, rfl⟩
  rw [decide_eq_false g1]
  simp only [cond_false]
  by_cases g2 : (fl : Int) ≤ from_
  · rw [decide_eq_true g2]; exact ⟨rfl, rfl⟩
  rw [decide_eq_false g2]
  simp only [cond_false]
  by_cases g3 : sweep < 0
  · rw [decide_eq_true g3]; exact ⟨rfl, rfl⟩
  rw [decide_eq_false g3]
  simp only [cond_false]
  by_cases g4 : 2 < sweep
  · rw [decide_eq_true g4]; exact ⟨rfl, rfl⟩
  rw [decide_eq_false g4]
  simp only [cond_false]
  have hc : nfv' fl floor dir = false := by
    cases hq : nfv' fl floor dir with
    | false => rfl
    | true => exact absurd ⟨by omega, by omega, by omega, by omega, hq⟩ h
  rw [refG ⟨by omega, by omega⟩, hc]
  exact ⟨rfl, rfl⟩
end Go.Ovl
