/- What a record does to an image (layer 10), by the reference. -/
import Derived.Test.YthdomhdippmaiaaGreatOvApply
namespace Go.Ovl
open Go Go.Ab
set_option maxRecDepth 100000
def isC (F D : Int) (e : Entry) : Bool := e.Floor == F && e.Dir == D
def findF (F D : Int) : List Entry → Nat → Int
  | [], _ => -1
  | e :: t, i => bif isC F D e then (i : Int) else findF F D t (i + 1)
theorem nlx' (F D : Int) : ∀ (l : List Entry) (i : Nat), (findF F D l i = -1 ∧ ∀ e ∈ l, isC F D e = false) ∨ ∃ k : Nat, k < l.length ∧ findF F D l i = ((i + k : Nat) : Int) ∧ isC F D (l.getD k noE) = true
  | [], _ => .inl ⟨rfl, fun _ h => by cases h⟩
  | e :: t, i => by
    simp only [findF]
    cases h : isC F D e with
    | true => exact .inr ⟨0, by simp, rfl, h⟩
    | false =>
      rcases nlx' F D t (i + 1) with ⟨h1, h2⟩ | ⟨k, h1, h2, h3⟩
      · refine .inl ⟨h1, fun x hx => ?_⟩
        rcases List.mem_cons.1 hx with rfl | hx
        · exact h
        · exact h2 x hx
      · refine .inr ⟨k + 1, by simp; omega, ?_, h3⟩
        rw [cond_false, h2]
        congr 1; omega
theorem nyr' (m : Img) (hm : m.Entries.length ≤ 2000) (F D : Int) : nl4' m.Phases m.Flags m.Leaving m.Entries F D = some ((findF F D m.Entries 0, ()), ()) := by
  have key : ∀ (k i : Nat), i + k = m.Entries.length → iter (fun x => ngh' x.1.1 x.1.2.1 x.1.2.2.2.1 x.2.1.1 x.2.1.2.1 x.2.1.2.2.1 x.2.1.2.2.2.1) (k + 1) ((F, D, (), (i : Int), ()), (m.tup, ())) = some (bif findF F D (m.Entries.drop i) i == -1 then .inl ((), ()) else .inr ((findF F D (m.Entries.drop i) i, ()), ())) := by
    intro k
    induction k with
    | zero =>
      intro i hi
      refine n6' ?_
      show ngh' F D (i : Int) m.Phases m.Flags m.Leaving m.Entries = _
      unfold ngh'
      rw [show decide ((i : Int) < (m.Entries.length : Int)) = false by simp; omega, show i = m.Entries.length by omega, List.drop_length]; rfl
    | succ k ih =>
      intro i hi
      have hi' : i < m.Entries.length := by omega
      have w : IntKind.i64.wrap ((i : Int) + 1) = ((i + 1 : Nat) : Int) := by rw [nb' (by omega) (by omega)]; omega
      have hs : ngh' F D (i : Int) m.Phases m.Flags m.Leaving m.Entries = some (bif isC F D (m.Entries.getD i noE) then .inr (.inr (((i : Int), ()), ())) else .inl ((F, D, (), ((i + 1 : Nat) : Int), ()), (m.tup, ()))) := by
        unfold ngh' isC
        rw [show decide ((i : Int) < (m.Entries.length : Int)) = true by simp; omega, nc' (show (0 : Int) ≤ (i : Int) by omega) (show (i : Int) < (m.Entries.length : Int) by omega), show Entry.mk 0 0 0 0 false = noE from rfl]
        simp only [cond_true, Int.toNat_natCast]
        cases (m.Entries.getD i noE).Floor == F with
        | false => simp only [cond_false, Option.bind_some, w, Bool.false_and]; rfl
        | true =>
          simp only [cond_true, Option.bind_some, Bool.true_and]
          cases (m.Entries.getD i noE).Dir == D with
          | false => simp only [cond_false, w]; rfl
          | true => rfl
      rw [nc1' noE hi']
      simp only [findF]
      cases hq : isC F D (m.Entries.getD i noE) with
      | true =>
        rw [hq] at hs
        rw [cond_true, beq_f (show ¬ (i : Int) = -1 by omega)]
        exact n6' hs
      | false =>
        rw [hq] at hs
        exact (nb4' hs).trans (ih (i + 1) (by omega))
  have h : nj5' ((F, D, (), (0 : Int), ()), (m.tup, ())) = _ := nf' (key m.Entries.length 0 (by omega)) (by omega)
  rw [List.drop_zero] at h
  unfold Img.tup at h
  unfold nl4'
  rw [h]
  cases hq : findF F D m.Entries 0 == -1 with
  | true =>
    have : findF F D m.Entries 0 = -1 := by simpa using hq
    rw [this]; rfl
  | false => rfl
def insL (e : Entry) : Bool → List Entry → List Entry
  | d, [] => bif d then [] else [e]
  | true, x :: t => x :: insL e true t
  | false, x :: t => bif lessE e x then e :: x :: insL e true t else x :: insL e false t
theorem nrv' (e : Entry) : ∀ (l : List Entry) (d : Bool), (insL e d l).length ≤ l.length + 1
  | [], true => by simp [insL]
  | [], false => by simp [insL]
  | x :: t, true => by simp only [insL, List.length_cons]; have := nrv' e t true; omega
  | x :: t, false => by
    simp only [insL]
    cases lessE e x with
    | true =>
      simp only [cond_true, List.length_cons]
      have : ∀ t : List Entry, insL e true t = t := fun t => by
        induction t with
        | nil => rfl
        | cons a t ih => simp only [insL, ih]
      rw [this]; omega
    | false => simp only [cond_false, List.length_cons]; have := nrv' e t false; omega
theorem nm5' (e : Entry) : ∀ t : List Entry, insL e true t = t
  | [] => rfl
  | a :: t => by simp only [insL, nm5' e t]
def Entry.tup5 (e : Entry) : Int × Int × Int × Int × Bool × Unit := (e.Floor, e.Dir, e.Car, e.Moves, e.Moved, ())
theorem nts' (e : Entry) {l : List Entry} (hl : l.length ≤ 2000) : nji' l e.Floor e.Dir e.Car e.Moves e.Moved = some ((insL e false l, ()), ()) := by
  have key : ∀ (k i : Nat) (out : List Entry) (d : Bool), i + k = l.length → out.length ≤ i + d.toNat → ∃ (o : List Entry) (d' : Bool), iter (fun x => nek' x.1.1 x.1.2.2.1 x.1.2.2.2.1 x.1.2.2.2.2.1 x.2.1.1 x.2.1.2.1 x.2.1.2.2.1 x.2.1.2.2.2.1 x.2.1.2.2.2.2.1) (k + 1) ((l, (), out, d, (i : Int), ()), (e.tup5, ())) = some (((), o, d', ()), (e.tup5, ())) ∧ o.length ≤ 2001 ∧ o ++ (bif d' then [] else [e]) = out ++ insL e d (l.drop i) := by
    intro k
    induction k with
    | zero =>
      intro i out d hi ho
      refine ⟨out, d, n6' ?_, by have := Bool.toNat_le d; omega, ?_⟩
      · show nek' l out d (i : Int) e.Floor e.Dir e.Car e.Moves e.Moved = _
        unfold nek'
        rw [show decide ((i : Int) < (l.length : Int)) = false by simp; omega]; rfl
      · rw [show i = l.length by omega, List.drop_length]; cases d <;> rfl
    | succ k ih =>
      intro i out d hi ho
      have hi' : i < l.length := by omega
      have hd1 := Bool.toNat_le d
      have w : IntKind.i64.wrap ((i : Int) + 1) = ((i + 1 : Nat) : Int) := by rw [nb' (by omega) (by omega)]; omega
      have b1 : ∀ y : Entry, Nat.ble (out.length + [y].length) 2147483648 = true := fun _ => nbn' (by simp; omega)
      have b2 : ∀ y z : Entry, Nat.ble ((out ++ [z]).length + [y].length) 2147483648 = true := fun _ _ => nbn' (by simp; omega)
      have ib : inB (i : Int) l.length = true := nc' (by omega) (by omega)
      have hle := nq5' e (l.getD i noE)
      have hs : nek' l out d (i : Int) e.Floor e.Dir e.Car e.Moves e.Moved = some (.inl ((l, (), (bif !d && lessE e (l.getD i noE) then out ++ [e] else out) ++ [l.getD i noE], d || lessE e (l.getD i noE), ((i + 1 : Nat) : Int), ()), (e.tup5, ()))) := by
        unfold nek'
        rw [show decide ((i : Int) < (l.length : Int)) = true by simp; omega, ib, show Entry.mk 0 0 0 0 false = noE from rfl]
        cases d with
        | true => simp only [cond_true, cond_false, Bool.not_true, Option.bind_some, ib, Int.toNat_natCast, b1, w, Bool.false_and, Bool.true_or]; rfl
        | false =>
          simp only [cond_true, Bool.not_false, Int.toNat_natCast, hle, Option.bind_some, Bool.true_and, Bool.false_or]
          cases lessE e (l.getD i noE) with
          | true => simp only [cond_true, b1, Option.bind_some, ib, Int.toNat_natCast, b2, w]; rfl
          | false => simp only [cond_false, Option.bind_some, ib, cond_true, Int.toNat_natCast, b1, w]; rfl
      rw [nc1' noE hi']
      cases d with
      | true =>
        obtain ⟨o, d', h1, h2, h3⟩ := ih (i + 1) (out ++ [l.getD i noE]) true (by omega) (by rw [List.length_append]; simp only [Bool.toNat_true, List.length_singleton] at ho ⊢; omega)
        refine ⟨o, d', (nb4' hs).trans h1, h2, ?_⟩
        rw [h3]; simp only [insL, List.append_assoc, List.singleton_append]
      | false =>
        simp only [Bool.toNat_false] at ho
        cases hq : lessE e (l.getD i noE) with
        | true =>
          rw [hq] at hs
          obtain ⟨o, d', h1, h2, h3⟩ := ih (i + 1) ((out ++ [e]) ++ [l.getD i noE]) true (by omega) (by simp only [List.length_append, List.length_singleton, Bool.toNat_true]; omega)
          refine ⟨o, d', (nb4' hs).trans h1, h2, ?_⟩
          rw [h3]; simp only [insL, hq, cond_true, List.append_assoc, List.cons_append, List.nil_append]
        | false =>
          rw [hq] at hs
          obtain ⟨o, d', h1, h2, h3⟩ := ih (i + 1) (out ++ [l.getD i noE]) false (by omega) (by simp only [List.length_append, List.length_singleton, Bool.toNat_false]; omega)
          refine ⟨o, d', (nb4' hs).trans h1, h2, ?_⟩
          rw [h3]; simp only [insL, hq, cond_false, List.append_assoc, List.singleton_append]
  obtain ⟨o, d', h1, h2, h3⟩ := key l.length 0 [] false (by omega) (by simp)
  have h : nhx' ((l, (), ([] : List Entry), false, (0 : Int), ()), (e.tup5, ())) = _ := nf' h1 (by omega)
  rw [List.drop_zero, List.nil_append] at h3
  unfold Entry.tup5 at h
  unfold nji'
  rw [h, ← h3]
  have b1 : Nat.ble (o.length + [e].length) 2147483648 = true := nbn' (by simp; omega)
  cases d' with
  | true => simp only [Option.bind_some, Bool.not_true, cond_false, cond_true, List.append_nil]
  | false => simp only [Option.bind_some, Bool.not_false, cond_true, cond_false, b1]
def Img.put (m : Img) (l : List Entry) : Img := ⟨m.Phases, m.Flags, m.Leaving, l⟩
def n05' (e : Entry) (c : Int) : Entry := ⟨e.Floor, e.Dir, c, e.Moves, e.Moved⟩
def nwh' (e : Entry) (n c : Int) : Entry := ⟨e.Floor, e.Dir, e.Car, n, c == 1⟩
def ncl' (m : Img) (r : Record) : Img :=
  bif r.Kind == 4 then ⟨m.Phases.set r.Car.toNat r.Value, m.Flags, m.Leaving, m.Entries⟩
  else bif r.Kind == 5 then ⟨m.Phases, m.Flags.set r.Car.toNat (r.Value == 1), m.Leaving, m.Entries⟩
  else bif r.Kind == 6 then ⟨m.Phases, m.Flags, m.Leaving.set r.Car.toNat (r.Value == 1), m.Entries⟩
  else bif findF r.Floor r.Dir m.Entries 0 == -1 then (bif r.Kind == 1 then m.put (insL ⟨r.Floor, r.Dir, -1, 0, false⟩ false m.Entries) else m)
  else bif r.Kind == 2 then m.put (m.Entries.take (findF r.Floor r.Dir m.Entries 0).toNat ++ m.Entries.drop ((findF r.Floor r.Dir m.Entries 0).toNat + 1))
  else bif r.Kind == 3 then m.put (m.Entries.set (findF r.Floor r.Dir m.Entries 0).toNat (n05' (m.Entries.getD (findF r.Floor r.Dir m.Entries 0).toNat noE) r.Car))
  else bif r.Kind == 7 then m.put (m.Entries.set (findF r.Floor r.Dir m.Entries 0).toNat (nwh' (m.Entries.getD (findF r.Floor r.Dir m.Entries 0).toNat noE) r.Value r.Car))
  else m
def nta' (b : Bldg) (m : Img) (r : Record) : (Unit × Int × Unit) × ((List Int × List Bool × List Bool × List Entry × Unit) × Unit) :=
  bif m.ok b && n4' b r then (((), 0, ()), ((ncl' m r).tup, ())) else (((), 1, ()), (Img.none.tup, ()))
theorem nl1' {b : Bldg} {r : Record} (h : n4' b r = true) (hk : r.Kind = 4 ∨ r.Kind = 5 ∨ r.Kind = 6) : 0 ≤ r.Car ∧ r.Car < (b.Cars.length : Int) := by
  unfold n4' carR at h
  have k : ∀ q : Bool, (r.Car ≥ 0 ∧ r.Car ≤ (b.Cars.length : Int) - 1) → 0 ≤ r.Car ∧ r.Car < (b.Cars.length : Int) := fun _ h => by omega
  rcases hk with hk | hk | hk <;> rw [hk] at h <;>
    (simp only [Bool.and_eq_true] at h
     have h' := h.2
     simp only [show ((4 : Int) == 1) = false from rfl, show ((4 : Int) == 2) = false from rfl, show ((4 : Int) == 3) = false from rfl, show ((5 : Int) == 1) = false from rfl, show ((5 : Int) == 2) = false from rfl, show ((5 : Int) == 3) = false from rfl, show ((5 : Int) == 4) = false from rfl, show ((6 : Int) == 1) = false from rfl, show ((6 : Int) == 2) = false from rfl, show ((6 : Int) == 3) = false from rfl, show ((6 : Int) == 4) = false from rfl, show ((6 : Int) == 5) = false from rfl, beq_self_eq_true, cond_false, cond_true, Bool.and_eq_true] at h'
     have := nv'.1 h'.1.1
     exact k true ⟨this.1, this.2⟩)
section
variable {b : Bldg} (hb : b.small) (m : Img) (hm : m.Entries.length ≤ 1000) (r : Record)
include hb hm
theorem nxx' (hp : m.Phases.length ≤ maxLen) (hcl : b.Cars.length ≤ 100) : niv' b.Floors b.Debounce b.Room b.Park b.Empty b.Full b.Over b.Cars m.Phases m.Flags m.Leaving m.Entries r.Kind r.Floor r.Dir r.Car r.Value = some (nta' b m r) := by
  have hmx : 1000 ≤ maxLen := by decide
  unfold niv' nta'
  rw [nn7' hb m hp (by omega)]
  simp only [Option.bind_some]
  cases hok : m.ok b with
  | false => rfl
  | true =>
    rw [nwu' hb hcl r]
    simp only [Bool.not_true, cond_false, Option.bind_some, Bool.true_and]
    cases hv : n4' b r with
    | false => rfl
    | true =>
      obtain ⟨_, l1, l2, l3, _⟩ : b.code = 0 ∧ m.Phases.length = b.Cars.length ∧ m.Flags.length = b.Cars.length ∧ m.Leaving.length = b.Cars.length ∧ True := by
        unfold Img.ok at hok
        simp only [Bool.and_eq_true, beq_iff_eq] at hok
        obtain ⟨h0, h1, h2, h3, h4, h5⟩ := hok
        exact ⟨h0, by omega, by omega, by omega, trivial⟩
      have b1 : Nat.ble (([] : List Int).length + m.Phases.length) 2147483648 = true := nbn' (by simp; omega)
      have b2 : Nat.ble (([] : List Bool).length + m.Flags.length) 2147483648 = true := nbn' (by simp; omega)
      have b3 : Nat.ble (([] : List Bool).length + m.Leaving.length) 2147483648 = true := nbn' (by simp; omega)
      have b4 : Nat.ble (([] : List Entry).length + m.Entries.length) 2147483648 = true := nbn' (by simp; omega)
      simp only [Bool.not_true, cond_false, cond_true, b1, b2, b3, b4, List.nil_append]
      rw [nyr' m (by omega)]
      simp only [Option.bind_some]
      unfold ncl'
      by_cases k4 : r.Kind = 4
      · have hc := nl1' hv (.inl k4)
        rw [k4]
        simp only [beq_self_eq_true, cond_true, nc' hc.1 (show r.Car < ((m.Phases.length : Nat) : Int) by omega)]
        rfl
      rw [beq_f k4]
      by_cases k5 : r.Kind = 5
      · have hc := nl1' hv (.inr (.inl k5))
        rw [k5]
        simp only [beq_self_eq_true, cond_true, cond_false, nc' hc.1 (show r.Car < ((m.Flags.length : Nat) : Int) by omega)]
        rfl
      rw [beq_f k5]
      by_cases k6 : r.Kind = 6
      · have hc := nl1' hv (.inr (.inr k6))
        rw [k6]
        simp only [beq_self_eq_true, cond_true, cond_false, nc' hc.1 (show r.Car < ((m.Leaving.length : Nat) : Int) by omega)]
        rfl
      rw [beq_f k6]
      simp only [cond_false]
      have hent := nts' ⟨r.Floor, r.Dir, -1, 0, false⟩ (l := m.Entries) (by omega)
      simp only at hent
      rcases nlx' r.Floor r.Dir m.Entries 0 with ⟨h1, _⟩ | ⟨k, h1, h2, _⟩
      · rw [h1, show decide ((-1 : Int) < 0) = true from rfl, show ((-1 : Int) == -1) = true from rfl]
        simp only [cond_true]
        cases r.Kind == 1 with
        | true => simp only [cond_true, Option.bind_some, hent]; rfl
        | false => simp only [cond_false, Option.bind_some]; rfl
      · rw [Nat.zero_add] at h2
        have hk : Int.toNat (k : Int) = k := by omega
        rw [h2, beq_f (show ¬ (k : Int) = -1 by omega), decide_eq_false (show ¬ (k : Int) < 0 by omega), show Entry.mk 0 0 0 0 false = noE from rfl]
        simp only [cond_false, hk]
        have e1 : (bif r.Kind == 1 then some (((), (), (), (k : Int), false, ()), ((m.Phases, m.Flags, m.Leaving, m.Entries, ()), (r.Kind, r.Floor, r.Dir, r.Car, r.Value, ()), (([] : List (Int)), ([] : List (Bool)), ([] : List (Bool)), ([] : List (Entry)), ()), ())) else some (((), (), (), (k : Int), false, ()), ((m.Phases, m.Flags, m.Leaving, m.Entries, ()), (r.Kind, r.Floor, r.Dir, r.Car, r.Value, ()), (([] : List (Int)), ([] : List (Bool)), ([] : List (Bool)), ([] : List (Entry)), ()), ()))) = some (((), (), (), (k : Int), false, ()), ((m.Phases, m.Flags, m.Leaving, m.Entries, ()), (r.Kind, r.Floor, r.Dir, r.Car, r.Value, ()), (([] : List (Int)), ([] : List (Bool)), ([] : List (Bool)), ([] : List (Entry)), ()), ())) := by cases r.Kind == 1 <;> rfl
        rw [e1]
        simp only [Option.bind_some, cond_false, decide_eq_false (show ¬ (k : Int) < 0 by omega), hk]
        have ib : inB (k : Int) m.Entries.length = true := nc' (by omega) (by omega)
        cases r.Kind == 2 with
        | true =>
          have w : IntKind.i64.wrap ((k : Int) + 1) = ((k + 1 : Nat) : Int) := by rw [nb' (by omega) (by omega)]; omega
          have b5 : Nat.ble (([] : List Entry).length + (m.Entries.take k).length) 2147483648 = true := nbn' (by simp; omega)
          have b6 : Nat.ble ((m.Entries.take k).length + (m.Entries.drop (k + 1)).length) 2147483648 = true := nbn' (by simp; omega)
          simp only [cond_true, decide_eq_true (show (0 : Int) ≤ (k : Int) by omega), decide_eq_true (show (k : Int) ≤ (m.Entries.length : Int) by omega), Bool.and_self, b5, w, decide_eq_true (show (0 : Int) ≤ ((k + 1 : Nat) : Int) by omega), decide_eq_true (show ((k + 1 : Nat) : Int) ≤ (m.Entries.length : Int) by omega), Int.toNat_natCast, List.take_length, b6, List.drop_zero]
          rfl
        | false =>
          simp only [cond_false]
          cases r.Kind == 3 with
          | true => simp only [cond_true, ib]; rfl
          | false =>
            simp only [cond_false]
            cases r.Kind == 7 with
            | true =>
              have ib2 : ∀ y : Entry, inB (k : Int) (m.Entries.set k y).length = true := fun y => nc' (by omega) (by rw [List.length_set]; omega)
              have hg : ∀ y : Entry, (m.Entries.set k y).getD k noE = y := fun y => by
                simp [List.getD_eq_getElem?_getD, h1]
              simp only [cond_true, ib, ib2, hg, List.set_set]
              rfl
            | false => rfl
end
end Go.Ovl
