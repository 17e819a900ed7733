/- Layer 10, the program's side: the binary search, what a record changes, images behind records. -/
import Derived.Test.YthdomhdippmaiaaGreatOvLog1
namespace Go.Ovl
open Go Go.Ab
set_option maxRecDepth 100000
def keyE (F D : Int) : Entry := ⟨F, D, 0, 0, false⟩
theorem n2q' {i j : Nat} (h : i + j < 9223372036854775808) : IntKind.i64.wrap (Int.fdiv (IntKind.u64.wrap (IntKind.i64.wrap ((i : Int) + (j : Int)))) ((2 : Int) ^ (Min.min (Int.toNat (1 : Int)) (IntKind.bits IntKind.u64)))) = (((i + j) / 2 : Nat) : Int) := by
  rw [nb' (n := (i : Int) + (j : Int)) (by omega) (by omega), nrx' (by omega) (by omega)]
  rw [show ((2 : Int) ^ (Min.min (Int.toNat (1 : Int)) (IntKind.bits IntKind.u64))) = 2 from rfl]
  rw [Int.fdiv_eq_ediv_of_nonneg _ (by omega)]
  rw [nb' (by omega) (by omega)]
  omega
theorem nyf' {l : List Entry} (hs : ncb' l) (hl : l.length ≤ 100000) (F D : Int) :
    nw' ((l, (), (), (l.length : Int), (0 : Int), (l.length : Int), ()), ((F, D, 0, 0, false, ()), ())) = some ((l, (), (), (l.length : Int), ((posF (keyE F D) l : Nat) : Int), ()), ((F, D, 0, 0, false, ()), ())) := by
  refine n49' (fun x y => ∃ i j : Nat, i ≤ posF (keyE F D) l ∧ posF (keyE F D) l ≤ j ∧ j ≤ l.length ∧ x = ((l, (), (), (l.length : Int), (i : Int), (j : Int), ()), ((F, D, (0 : Int), (0 : Int), false, ()), ())) ∧ y = ((l, (), (), (l.length : Int), ((posF (keyE F D) l : Nat) : Int), ()), ((F, D, (0 : Int), (0 : Int), false, ()), ()))) (fun x => x.1.2.2.2.2.2.1.toNat - x.1.2.2.2.2.1.toNat) ?_ (x := ((l, (), (), (l.length : Int), (0 : Int), (l.length : Int), ()), ((F, D, 0, 0, false, ()), ()))) (y := ((l, (), (), (l.length : Int), ((posF (keyE F D) l : Nat) : Int), ()), ((F, D, 0, 0, false, ()), ()))) ⟨0, l.length, Nat.zero_le _, nqf' _ _, Nat.le_refl _, rfl, rfl⟩ (by show ((l.length : Int).toNat - Int.toNat 0) < _; omega)
  rintro _ _ ⟨i, j, h1, h2, h3, rfl, rfl⟩
  show (∃ x', nx' l (l.length : Int) (i : Int) (j : Int) F D 0 0 false = _ ∧ _) ∨ nx' l (l.length : Int) (i : Int) (j : Int) F D 0 0 false = _
  unfold nx'
  rw [n2q' (by omega)]
  by_cases hij : i < j
  · left
    have hh : (i + j) / 2 < l.length := by omega
    obtain ⟨n, c1, c2, _⟩ := nku' (l.getD ((i + j) / 2) noE) (keyE F D)
    unfold keyE at c1
    unfold noE at c1
    simp only [decide_eq_true (show (i : Int) < (j : Int) by omega), nc' (show (0 : Int) ≤ (((i + j) / 2 : Nat) : Int) by omega) (show (((i + j) / 2 : Nat) : Int) < (l.length : Int) by omega), Int.toNat_natCast, cond_true, c1, Option.bind_some]
    have c2' : decide (n < 0) = lessE (l.getD ((i + j) / 2) noE) (keyE F D) := by rw [ns9', c2, Bool.not_not]
    rw [c2']
    cases hq : lessE (l.getD ((i + j) / 2) noE) (keyE F D) with
    | true =>
      have : (i + j) / 2 < posF (keyE F D) l := by
        rcases Nat.lt_or_ge ((i + j) / 2) (posF (keyE F D) l) with h | h
        · exact h
        · have := nza' hs _ h hh
          rw [hq] at this; cases this
      rw [cond_true, show IntKind.i64.wrap ((((i + j) / 2 : Nat) : Int) + 1) = (((i + j) / 2 + 1 : Nat) : Int) by rw [nb' (by omega) (by omega)]; omega]
      exact ⟨_, rfl, ⟨(i + j) / 2 + 1, j, by omega, h2, h3, rfl, trivial⟩, by show Int.toNat (j : Int) - Int.toNat (((i + j) / 2 + 1 : Nat) : Int) < Int.toNat (j : Int) - Int.toNat (i : Int); omega⟩
    | false =>
      have : posF (keyE F D) l ≤ (i + j) / 2 := by
        rcases Nat.lt_or_ge ((i + j) / 2) (posF (keyE F D) l) with h | h
        · have := ny9' (keyE F D) l _ h
          rw [hq] at this; cases this
        · exact h
      rw [cond_false]
      exact ⟨_, rfl, ⟨i, (i + j) / 2, h1, this, by omega, rfl, trivial⟩, by show Int.toNat (((i + j) / 2 : Nat) : Int) - Int.toNat (i : Int) < Int.toNat (j : Int) - Int.toNat (i : Int); omega⟩
  · right
    rw [decide_eq_false (show ¬ (i : Int) < (j : Int) by omega), show i = posF (keyE F D) l by omega]
    rfl
theorem nx4' (m : Img) (hs : ncb' m.Entries) (hl : m.Entries.length ≤ 100000) (F D : Int) : nly' m.Phases m.Flags m.Leaving m.Entries F D = some ((((posF (keyE F D) m.Entries : Nat) : Int), hasF (keyE F D) m.Entries, ()), ()) := by
  unfold nly' nba'
  simp only
  rw [nyf' hs hl F D]
  simp only [Option.bind_some]
  have hp := nqf' (keyE F D) m.Entries
  unfold hasF
  by_cases h : posF (keyE F D) m.Entries < m.Entries.length
  · obtain ⟨n, c1, _, c3⟩ := nku' (m.Entries.getD (posF (keyE F D) m.Entries) noE) (keyE F D)
    rw [decide_eq_true (show ((posF (keyE F D) m.Entries : Nat) : Int) < (m.Entries.length : Int) by omega), nc' (show (0 : Int) ≤ ((posF (keyE F D) m.Entries : Nat) : Int) by omega) (show ((posF (keyE F D) m.Entries : Nat) : Int) < (m.Entries.length : Int) by omega), Int.toNat_natCast, show Nat.blt (posF (keyE F D) m.Entries) m.Entries.length = true by rw [Nat.blt_eq]; exact h]
    have e : (n == 0) = isC (keyE F D).Floor (keyE F D).Dir (m.Entries.getD (posF (keyE F D) m.Entries) noE) := by
      rw [Bool.eq_iff_iff, beq_iff_eq, c3]
      unfold isC
      rw [Bool.and_eq_true, beq_iff_eq, beq_iff_eq]
    rw [← e]
    generalize posF (keyE F D) m.Entries = p at *
    unfold noE at c1
    unfold keyE at c1
    simp only [cond_true, c1, Option.bind_some, Bool.true_and]
  · rw [decide_eq_false (show ¬ ((posF (keyE F D) m.Entries : Nat) : Int) < (m.Entries.length : Int) by omega), show Nat.blt (posF (keyE F D) m.Entries) m.Entries.length = false by rw [← Bool.not_eq_true, Nat.blt_eq]; exact h]
    rfl
theorem n2o' (x : Entry) (e : Entry) : lessE x (keyE e.Floor e.Dir) = lessE x e := rfl
theorem nxd' (e : Entry) : ∀ l : List Entry, posF (keyE e.Floor e.Dir) l = posF e l
  | [] => rfl
  | x :: t => by simp only [posF, n2o', nxd' e t]
theorem nv6' {m : Img} (hs : ncb' m.Entries) (hl : m.Entries.length ≤ 100000) (r : Record) (hc : (r.Kind = 4 ∨ r.Kind = 5 ∨ r.Kind = 6) → 0 ≤ r.Car ∧ r.Car < (m.Phases.length : Int) ∧ r.Car < (m.Flags.length : Int) ∧ r.Car < (m.Leaving.length : Int)) :
    njz' r.Kind r.Floor r.Dir r.Car r.Value m.Phases m.Flags m.Leaving m.Entries = some ((), ((ncl' m r).tup, ())) := by
  unfold njz' ncl'
  rw [nx4' m hs hl]
  simp only [Option.bind_some]
  by_cases k4 : r.Kind = 4
  · obtain ⟨c0, c1, c2, c3⟩ := hc (.inl k4)
    rw [k4]
    simp only [beq_self_eq_true, cond_true, nc' c0 c1]
    rfl
  rw [beq_f k4]
  by_cases k5 : r.Kind = 5
  · obtain ⟨c0, c1, c2, c3⟩ := hc (.inr (.inl k5))
    rw [k5]
    simp only [beq_self_eq_true, cond_true, cond_false, nc' c0 c2]
    rfl
  rw [beq_f k5]
  by_cases k6 : r.Kind = 6
  · obtain ⟨c0, c1, c2, c3⟩ := hc (.inr (.inr k6))
    rw [k6]
    simp only [beq_self_eq_true, cond_true, cond_false, nc' c0 c3]
    rfl
  rw [beq_f k6]
  simp only [cond_false]
  have hf := npo' (c := keyE r.Floor r.Dir) 0 hs
  simp only [Nat.zero_add] at hf
  rw [show findF r.Floor r.Dir m.Entries 0 = _ from hf]
  have hp := nqf' (keyE r.Floor r.Dir) m.Entries
  cases hq : hasF (keyE r.Floor r.Dir) m.Entries with
  | false =>
    have hn := n1q' hs hq
    simp only [cond_false, cond_true, Bool.not_false, beq_self_eq_true]
    by_cases k1 : r.Kind = 1
    · rw [k1]
      simp only [beq_self_eq_true, cond_true]
      unfold ncr' insF
      rw [decide_eq_true (show (0 : Int) ≤ ((posF (keyE r.Floor r.Dir) m.Entries : Nat) : Int) by omega), decide_eq_true (show ((posF (keyE r.Floor r.Dir) m.Entries : Nat) : Int) ≤ (m.Entries.length : Int) by omega)]
      rw [show Nat.blt 0 [Entry.mk r.Floor r.Dir (-1) 0 false].length = true from rfl, nbn' (show m.Entries.length + [Entry.mk r.Floor r.Dir (-1) 0 false].length ≤ 2147483648 by rw [List.length_singleton]; omega)]
      have hi := nwm' (c := ⟨r.Floor, r.Dir, -1, 0, false⟩) (l := m.Entries) hn
      rw [hi, show posF ⟨r.Floor, r.Dir, -1, 0, false⟩ m.Entries = posF (keyE r.Floor r.Dir) m.Entries from (nxd' ⟨r.Floor, r.Dir, -1, 0, false⟩ m.Entries).symm]
      rfl
    · rw [beq_f k1]
      cases r.Kind == 2 <;> cases r.Kind == 3 <;> cases r.Kind == 7 <;> rfl
  | true =>
    have hlt : posF (keyE r.Floor r.Dir) m.Entries < m.Entries.length := by
      unfold hasF at hq
      rw [Bool.and_eq_true, Nat.blt_eq] at hq
      exact hq.1
    simp only [cond_true, Bool.not_true, cond_false, beq_f (show ¬ ((posF (keyE r.Floor r.Dir) m.Entries : Nat) : Int) = -1 by omega), Int.toNat_natCast]
    generalize posF (keyE r.Floor r.Dir) m.Entries = p at hp hlt ⊢
    have w : IntKind.i64.wrap ((p : Int) + 1) = ((p + 1 : Nat) : Int) := by rw [nb' (by omega) (by omega)]; omega
    have ib : inB (p : Int) m.Entries.length = true := nc' (by omega) (by omega)
    by_cases k1 : r.Kind = 1
    · simp only [k1, beq_self_eq_true, cond_true, cond_false, show ((1 : Int) == 2) = false from rfl, show ((1 : Int) == 3) = false from rfl, show ((1 : Int) == 7) = false from rfl]
      rfl
    rw [beq_f k1, cond_false]
    cases r.Kind == 2 with
    | true =>
      unfold ncs' delF
      simp only [cond_true, w, decide_eq_true (show (0 : Int) ≤ (p : Int) by omega), decide_eq_true (show (p : Int) < ((p + 1 : Nat) : Int) by omega), decide_eq_true (show ((p + 1 : Nat) : Int) ≤ (m.Entries.length : Int) by omega), Bool.and_self, Option.bind_some, Int.toNat_natCast]
      rfl
    | false =>
      simp only [cond_false]
      cases r.Kind == 3 with
      | true => simp only [cond_true, ib]; rfl
      | false =>
        simp only [cond_false]
        cases r.Kind == 7 with
        | true =>
          have ib2 : ∀ y : Entry, inB (p : Int) (m.Entries.set p y).length = true := fun y => nc' (by omega) (by rw [List.length_set]; omega)
          have hg : ∀ y : Entry, (m.Entries.set p y).getD p (Entry.mk 0 0 0 0 false) = y := fun y => by
            simp [List.getD_eq_getElem?_getD, hlt]
          simp only [cond_true, ib, ib2, hg, List.set_set]
          rfl
        | false => rfl
theorem ntq' (b : Bldg) : njl' b.Floors b.Debounce b.Room b.Park b.Empty b.Full b.Over b.Cars = some (((), ()), ((bif b.code == 0 then (initV b).tup else Img.none.tup), ())) := by
  unfold njl'
  rw [ncm']
  simp only [Option.bind_some, bne]
  cases hc : b.code == 0 with
  | false => rfl
  | true =>
    have hlen : b.Cars.length ≤ 8 := by
      have hc' : b.code = 0 := by simpa using hc
      unfold Bldg.code at hc'
      cases h1 : inR 1 8 (b.Cars.length : Int) with
      | true => have := (nv'.1 h1).2; omega
      | false =>
        rw [h1] at hc'
        cases h2 : inR 2 32 b.Floors <;> rw [h2] at hc' <;> simp at hc'
    simp only [Bool.not_true, cond_false, cond_true, decide_eq_true (show (0 : Int) ≤ (b.Cars.length : Int) by omega), decide_eq_true (Int.le_refl (b.Cars.length : Int)), decide_eq_true (show (b.Cars.length : Int) ≤ 2147483648 by omega), Bool.and_self, Int.toNat_natCast]
    rfl
end Go.Ovl
