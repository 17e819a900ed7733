/- What a record does to an image (layer 10), by the reference. -/
import Derived.Test.YthdomhdippmaiaaOvA
namespace Go.Ovl
open Go Go.Ab
set_option maxRecDepth 100000
def isC (F D : Int) (e : Entry) : Bool := e.Floor == F && e.Dir == D
def findF (F D : Int) : List Entry → Nat → Int
  | [], _ => -1
  | e :: t, i => bif isC F D e then (i : Int) else findF F D t (i + 1)
theorem nko' (F D : Int) : ∀ (l : List Entry) (i : Nat), (findF F D l i = -1 ∧ ∀ e ∈ l, isC F D e = false) ∨ ∃ k : Nat, k < l.length ∧ findF F D l i = ((i + k : Nat) : Int) ∧ isC F D (l.getD k noE) = true
  | [], _ => .inl ⟨rfl, fun _ h => by cases h⟩
  | e :: t, i => by
    simp only [findF]
    cases h : isC F D e with
    | true => exact .inr ⟨0, by simp, rfl, h⟩
    | false =>
      rcases nko' F D t (i + 1) with ⟨h1, h2⟩ | ⟨k, h1, h2, h3⟩
      · refine .inl ⟨h1, fun x hx => ?_⟩
        rcases List.mem_cons.1 hx with rfl | hx
        · exact h
        · exact h2 x hx
      · refine .inr ⟨k + 1, by simp; omega, ?_, h3⟩
        rw [cond_false, h2]
        congr 1; omega
theorem nxf' (m : Img) (hm : m.Entries.length ≤ 2000) (F D : Int) : niu' m.Phases m.Flags m.Leaving m.Entries F D = some ((findF F D m.Entries 0, ()), ()) := by
  have key : ∀ (k i : Nat), i + k = m.Entries.length → iter (fun x => nez' x.1.1 x.1.2.1 x.1.2.2.2.1 x.2.1.1 x.2.1.2.1 x.2.1.2.2.1 x.2.1.2.2.2.1) (k + 1) ((F, D, (), (i : Int), ()), (m.tup, ())) = some (bif findF F D (m.Entries.drop i) i == -1 then .inl ((), ()) else .inr ((findF F D (m.Entries.drop i) i, ()), ())) := by
    intro k
    induction k with
    | zero =>
      intro i hi
      refine ns' ?_
      show nez' F D (i : Int) m.Phases m.Flags m.Leaving m.Entries = _
      unfold nez'
      rw [show decide ((i : Int) < (m.Entries.length : Int)) = false by simp; omega, show i = m.Entries.length by omega, List.drop_length]; rfl
    | succ k ih =>
      intro i hi
      have hi' : i < m.Entries.length := by omega
      have w : IntKind.i64.wrap ((i : Int) + 1) = ((i + 1 : Nat) : Int) := by rw [nb' (by omega) (by omega)]; omega
      have hs : nez' F D (i : Int) m.Phases m.Flags m.Leaving m.Entries = some (bif isC F D (m.Entries.getD i noE) then .inr (.inr (((i : Int), ()), ())) else .inl ((F, D, (), ((i + 1 : Nat) : Int), ()), (m.tup, ()))) := by
        unfold nez' isC
        rw [show decide ((i : Int) < (m.Entries.length : Int)) = true by simp; omega, nd' (show (0 : Int) ≤ (i : Int) by omega) (show (i : Int) < (m.Entries.length : Int) by omega), show Entry.mk 0 0 0 0 false = noE from rfl]
        simp only [cond_true, Int.toNat_natCast]
        cases (m.Entries.getD i noE).Floor == F with
        | false => simp only [cond_false, Option.bind_some, w, Bool.false_and]; rfl
        | true =>
          simp only [cond_true, Option.bind_some, Bool.true_and]
          cases (m.Entries.getD i noE).Dir == D with
          | false => simp only [cond_false, w]; rfl
          | true => rfl
      rw [ncs' noE hi']
      simp only [findF]
      cases hq : isC F D (m.Entries.getD i noE) with
      | true =>
        rw [hq] at hs
        rw [cond_true, beq_f (show ¬ (i : Int) = -1 by omega)]
        exact ns' hs
      | false =>
        rw [hq] at hs
        exact (nbd' hs).trans (ih (i + 1) (by omega))
  have h : nif' ((F, D, (), (0 : Int), ()), (m.tup, ())) = _ := no' (key m.Entries.length 0 (by omega)) (by omega)
  rw [List.drop_zero] at h
  unfold Img.tup at h
  unfold niu'
  rw [h]
  cases hq : findF F D m.Entries 0 == -1 with
  | true =>
    have : findF F D m.Entries 0 = -1 := by simpa using hq
    rw [this]; rfl
  | false => rfl
def insL (e : Entry) : Bool → List Entry → List Entry
  | d, [] => bif d then [] else [e]
  | true, x :: t => x :: insL e true t
  | false, x :: t => bif lessE e x then e :: x :: insL e true t else x :: insL e false t
theorem nqg' (e : Entry) : ∀ (l : List Entry) (d : Bool), (insL e d l).length ≤ l.length + 1
  | [], true => by simp [insL]
  | [], false => by simp [insL]
  | x :: t, true => by simp only [insL, List.length_cons]; have := nqg' e t true; omega
  | x :: t, false => by
    simp only [insL]
    cases lessE e x with
    | true =>
      simp only [cond_true, List.length_cons]
      have : ∀ t : List Entry, insL e true t = t := fun t => by
        induction t with
        | nil => rfl
        | cons a t ih => simp only [insL, ih]
      rw [this]; omega
    | false => simp only [cond_false, List.length_cons]; have := nqg' e t false; omega
theorem nl5' (e : Entry) : ∀ t : List Entry, insL e true t = t
  | [] => rfl
  | a :: t => by simp only [insL, nl5' e t]
def Entry.tup5 (e : Entry) : Int × Int × Int × Int × Bool × Unit := (e.Floor, e.Dir, e.Car, e.Moves, e.Moved, ())
theorem nst' (e : Entry) {l : List Entry} (hl : l.length ≤ 2000) : nhc' l e.Floor e.Dir e.Car e.Moves e.Moved = some ((insL e false l, ()), ()) := by
  have key : ∀ (k i : Nat) (out : List Entry) (d : Bool), i + k = l.length → out.length ≤ i + d.toNat → ∃ (o : List Entry) (d' : Bool), iter (fun x => nc8' x.1.1 x.1.2.2.1 x.1.2.2.2.1 x.1.2.2.2.2.1 x.2.1.1 x.2.1.2.1 x.2.1.2.2.1 x.2.1.2.2.2.1 x.2.1.2.2.2.2.1) (k + 1) ((l, (), out, d, (i : Int), ()), (e.tup5, ())) = some (((), o, d', ()), (e.tup5, ())) ∧ o.length ≤ 2001 ∧ o ++ (bif d' then [] else [e]) = out ++ insL e d (l.drop i) := by
    intro k
    induction k with
    | zero =>
      intro i out d hi ho
      refine ⟨out, d, ns' ?_, by have := Bool.toNat_le d; omega, ?_⟩
      · show nc8' l out d (i : Int) e.Floor e.Dir e.Car e.Moves e.Moved = _
        unfold nc8'
        rw [show decide ((i : Int) < (l.length : Int)) = false by simp; omega]; rfl
      · rw [show i = l.length by omega, List.drop_length]; cases d <;> rfl
    | succ k ih =>
      intro i out d hi ho
      have hi' : i < l.length := by omega
      have hd1 := Bool.toNat_le d
      have w : IntKind.i64.wrap ((i : Int) + 1) = ((i + 1 : Nat) : Int) := by rw [nb' (by omega) (by omega)]; omega
      have b1 : ∀ y : Entry, Nat.ble (out.length + [y].length) 2147483648 = true := fun _ => nbk' (by simp; omega)
      have b2 : ∀ y z : Entry, Nat.ble ((out ++ [z]).length + [y].length) 2147483648 = true := fun _ _ => nbk' (by simp; omega)
      have ib : inB (i : Int) l.length = true := nd' (by omega) (by omega)
      have hle := npw' e (l.getD i noE)
      have hs : nc8' l out d (i : Int) e.Floor e.Dir e.Car e.Moves e.Moved = some (.inl ((l, (), (bif !d && lessE e (l.getD i noE) then out ++ [e] else out) ++ [l.getD i noE], d || lessE e (l.getD i noE), ((i + 1 : Nat) : Int), ()), (e.tup5, ()))) := by
        unfold nc8'
        rw [show decide ((i : Int) < (l.length : Int)) = true by simp; omega, ib, show Entry.mk 0 0 0 0 false = noE from rfl]
        cases d with
        | true => simp only [cond_true, cond_false, Bool.not_true, Option.bind_some, ib, Int.toNat_natCast, b1, w, Bool.false_and, Bool.true_or]; rfl
        | false =>
          simp only [cond_true, Bool.not_false, Int.toNat_natCast, hle, Option.bind_some, Bool.true_and, Bool.false_or]
          cases lessE e (l.getD i noE) with
          | true => simp only [cond_true, b1, Option.bind_some, ib, Int.toNat_natCast, b2, w]; rfl
          | false => simp only [cond_false, Option.bind_some, ib, cond_true, Int.toNat_natCast, b1, w]; rfl
      rw [ncs' noE hi']
      cases d with
      | true =>
        obtain ⟨o, d', h1, h2, h3⟩ := ih (i + 1) (out ++ [l.getD i noE]) true (by omega) (by rw [List.length_append]; simp only [Bool.toNat_true, List.length_singleton] at ho ⊢; omega)
        refine ⟨o, d', (nbd' hs).trans h1, h2, ?_⟩
        rw [h3]; simp only [insL, List.append_assoc, List.singleton_append]
      | false =>
        simp only [Bool.toNat_false] at ho
        cases hq : lessE e (l.getD i noE) with
        | true =>
          rw [hq] at hs
          obtain ⟨o, d', h1, h2, h3⟩ := ih (i + 1) ((out ++ [e]) ++ [l.getD i noE]) true (by omega) (by simp only [List.length_append, List.length_singleton, Bool.toNat_true]; omega)
          refine ⟨o, d', (nbd' hs).trans h1, h2, ?_⟩
          rw [h3]; simp only [insL, hq, cond_true, List.append_assoc, List.cons_append, List.nil_append]
        | false =>
          rw [hq] at hs
          obtain ⟨o, d', h1, h2, h3⟩ := ih (i + 1) (out ++ [l.getD i noE]) false (by omega) (by simp only [List.length_append, List.length_singleton, Bool.toNat_false]; omega)
          refine ⟨o, d', (nbd' hs).trans h1, h2, ?_⟩
          rw [h3]; simp only [insL, hq, cond_false, List.append_assoc, List.singleton_append]
  obtain ⟨o, d', h1, h2, h3⟩ := key l.length 0 [] false (by omega) (by simp)
  have h : nf4' ((l, (), ([] : List Entry), false, (0 : Int), ()), (e.tup5, ())) = _ := no' h1 (by omega)
  rw [List.drop_zero, List.nil_append] at h3
  unfold Entry.tup5 at h
  unfold nhc'
  rw [h, ← h3]
  have b1 : Nat.ble (o.length + [e].length) 2147483648 = true := nbk' (by simp; omega)
  cases d' with
  | true => simp only [Option.bind_some, Bool.not_true, cond_false, cond_true, List.append_nil]
  | false => simp only [Option.bind_some, Bool.not_false, cond_true, cond_false, b1]
def Img.put (m : Img) (l : List Entry) : Img := ⟨m.Phases, m.Flags, m.Leaving, l⟩
def nz6' (e : Entry) (c : Int) : Entry := ⟨e.Floor, e.Dir, c, e.Moves, e.Moved⟩
def nvm' (e : Entry) (n c : Int) : Entry := ⟨e.Floor, e.Dir, e.Car, n, c == 1⟩
def n9' (m : Img) (r : Record) : Img :=
  bif r.Kind == 4 then ⟨m.Phases.set r.Car.toNat r.Value, m.Flags, m.Leaving, m.Entries⟩
  else bif r.Kind == 5 then ⟨m.Phases, m.Flags.set r.Car.toNat (r.Value == 1), m.Leaving, m.Entries⟩
  else bif r.Kind == 6 then ⟨m.Phases, m.Flags, m.Leaving.set r.Car.toNat (r.Value == 1), m.Entries⟩
  else bif findF r.Floor r.Dir m.Entries 0 == -1 then (bif r.Kind == 1 then m.put (insL ⟨r.Floor, r.Dir, -1, 0, false⟩ false m.Entries) else m)
  else bif r.Kind == 2 then m.put (m.Entries.take (findF r.Floor r.Dir m.Entries 0).toNat ++ m.Entries.drop ((findF r.Floor r.Dir m.Entries 0).toNat + 1))
  else bif r.Kind == 3 then m.put (m.Entries.set (findF r.Floor r.Dir m.Entries 0).toNat (nz6' (m.Entries.getD (findF r.Floor r.Dir m.Entries 0).toNat noE) r.Car))
  else bif r.Kind == 7 then m.put (m.Entries.set (findF r.Floor r.Dir m.Entries 0).toNat (nvm' (m.Entries.getD (findF r.Floor r.Dir m.Entries 0).toNat noE) r.Value r.Car))
  else m
def nrt' (b : Bldg) (m : Img) (r : Record) : (Unit × Int × Unit) × ((List Int × List Bool × List Bool × List Entry × Unit) × Unit) :=
  bif m.ok b && nr' b r then (((), 0, ()), ((n9' m r).tup, ())) else (((), 1, ()), (Img.none.tup, ()))
theorem nke' {b : Bldg} {r : Record} (h : nr' b r = true) (hk : r.Kind = 4 ∨ r.Kind = 5 ∨ r.Kind = 6) : 0 ≤ r.Car ∧ r.Car < (b.Cars.length : Int) := by
  unfold nr' carR at h
  have k : ∀ q : Bool, (r.Car ≥ 0 ∧ r.Car ≤ (b.Cars.length : Int) - 1) → 0 ≤ r.Car ∧ r.Car < (b.Cars.length : Int) := fun _ h => by omega
  rcases hk with hk | hk | hk <;> rw [hk] at h <;>
    (simp only [Bool.and_eq_true] at h
     have h' := h.2
     simp only [show ((4 : Int) == 1) = false from rfl, show ((4 : Int) == 2) = false from rfl, show ((4 : Int) == 3) = false from rfl, show ((5 : Int) == 1) = false from rfl, show ((5 : Int) == 2) = false from rfl, show ((5 : Int) == 3) = false from rfl, show ((5 : Int) == 4) = false from rfl, show ((6 : Int) == 1) = false from rfl, show ((6 : Int) == 2) = false from rfl, show ((6 : Int) == 3) = false from rfl, show ((6 : Int) == 4) = false from rfl, show ((6 : Int) == 5) = false from rfl, beq_self_eq_true, cond_false, cond_true, Bool.and_eq_true] at h'
     have := nw'.1 h'.1.1
     exact k true ⟨this.1, this.2⟩)
section
variable {b : Bldg} (hb : b.small) (m : Img) (hm : m.Entries.length ≤ 1000) (r : Record)
include hb hm
theorem no6' (hp : m.Phases.length ≤ maxLen) (hcl : b.Cars.length ≤ 100) : nfw' b.Floors b.Debounce b.Room b.Park b.Empty b.Full b.Over b.Cars m.Phases m.Flags m.Leaving m.Entries r.Kind r.Floor r.Dir r.Car r.Value = some (nrt' b m r) := by
  have hmx : 1000 ≤ maxLen := by decide
  unfold nfw' nrt'
  rw [ngt' hb m hp (by omega)]
  simp only [Option.bind_some]
  cases hok : m.ok b with
  | false => rfl
  | true =>
    rw [nlg' hb hcl r]
    simp only [Bool.not_true, cond_false, Option.bind_some, Bool.true_and]
    cases hv : nr' b r with
    | false => rfl
    | true =>
      obtain ⟨_, l1, l2, l3, _⟩ : b.code = 0 ∧ m.Phases.length = b.Cars.length ∧ m.Flags.length = b.Cars.length ∧ m.Leaving.length = b.Cars.length ∧ True := by
        unfold Img.ok at hok
        simp only [Bool.and_eq_true, beq_iff_eq] at hok
        obtain ⟨h0, h1, h2, h3, h4, h5⟩ := hok
        exact ⟨h0, by omega, by omega, by omega, trivial⟩
      have b1 : Nat.ble (([] : List Int).length + m.Phases.length) 2147483648 = true := nbk' (by simp; omega)
      have b2 : Nat.ble (([] : List Bool).length + m.Flags.length) 2147483648 = true := nbk' (by simp; omega)
      have b3 : Nat.ble (([] : List Bool).length + m.Leaving.length) 2147483648 = true := nbk' (by simp; omega)
      have b4 : Nat.ble (([] : List Entry).length + m.Entries.length) 2147483648 = true := nbk' (by simp; omega)
      simp only [Bool.not_true, cond_false, cond_true, b1, b2, b3, b4, List.nil_append]
      rw [nxf' m (by omega)]
      simp only [Option.bind_some]
      unfold n9'
      by_cases k4 : r.Kind = 4
      · have hc := nke' hv (.inl k4)
        rw [k4]
        simp only [beq_self_eq_true, cond_true, nd' hc.1 (show r.Car < ((m.Phases.length : Nat) : Int) by omega)]
        rfl
      rw [beq_f k4]
      by_cases k5 : r.Kind = 5
      · have hc := nke' hv (.inr (.inl k5))
        rw [k5]
        simp only [beq_self_eq_true, cond_true, cond_false, nd' hc.1 (show r.Car < ((m.Flags.length : Nat) : Int) by omega)]
        rfl
      rw [beq_f k5]
      by_cases k6 : r.Kind = 6
      · have hc := nke' hv (.inr (.inr k6))
        rw [k6]
        simp only [beq_self_eq_true, cond_true, cond_false, nd' hc.1 (show r.Car < ((m.Leaving.length : Nat) : Int) by omega)]
        rfl
      rw [beq_f k6]
      simp only [cond_false]
      have hent := nst' ⟨r.Floor, r.Dir, -1, 0, false⟩ (l := m.Entries) (by omega)
      simp only at hent
      rcases nko' r.Floor r.Dir m.Entries 0 with ⟨h1, _⟩ | ⟨k, h1, h2, _⟩
      · rw [h1, show decide ((-1 : Int) < 0) = true from rfl, show ((-1 : Int) == -1) = true from rfl]
        simp only [cond_true]
        cases r.Kind == 1 with
        | true => simp only [cond_true, Option.bind_some, hent]; rfl
        | false => simp only [cond_false, Option.bind_some]; rfl
      · rw [Nat.zero_add] at h2
        have hk : Int.toNat (k : Int) = k := by omega
        rw [h2, beq_f (show ¬ (k : Int) = -1 by omega), decide_eq_false (show ¬ (k : Int) < 0 by omega), show Entry.mk 0 0 0 0 false = noE from rfl]
        simp only [cond_false, hk]
        have e1 : (bif r.Kind == 1 then some (((), (), (), (k : Int), false, ()), ((m.Phases, m.Flags, m.Leaving, m.Entries, ()), (r.Kind, r.Floor, r.Dir, r.Car, r.Value, ()), (([] : List (Int)), ([] : List (Bool)), ([] : List (Bool)), ([] : List (Entry)), ()), ())) else some (((), (), (), (k : Int), false, ()), ((m.Phases, m.Flags, m.Leaving, m.Entries, ()), (r.Kind, r.Floor, r.Dir, r.Car, r.Value, ()), (([] : List (Int)), ([] : List (Bool)), ([] : List (Bool)), ([] : List (Entry)), ()), ()))) = some (((), (), (), (k : Int), false, ()), ((m.Phases, m.Flags, m.Leaving, m.Entries, ()), (r.Kind, r.Floor, r.Dir, r.Car, r.Value, ()), (([] : List (Int)), ([] : List (Bool)), ([] : List (Bool)), ([] : List (Entry)), ()), ())) := by cases r.Kind == 1 <;> rfl
        rw [e1]
        simp only [Option.bind_some, cond_false, decide_eq_false (show ¬ (k : Int) < 0 by omega), hk]
        have ib : inB (k : Int) m.Entries.length = true := nd' (by omega) (by omega)
        cases r.Kind == 2 with
        | true =>
          have w : IntKind.i64.wrap ((k : Int) + 1) = ((k + 1 : Nat) : Int) := by rw [nb' (by omega) (by omega)]; omega
          have b5 : Nat.ble (([] : List Entry).length + (m.Entries.take k).length) 2147483648 = true := nbk' (by simp; omega)
          have b6 : Nat.ble ((m.Entries.take k).length + (m.Entries.drop (k + 1)).length) 2147483648 = true := nbk' (by simp; omega)
          simp only [cond_true, decide_eq_true (show (0 : Int) ≤ (k : Int) by omega), decide_eq_true (show (k : Int) ≤ (m.Entries.length : Int) by omega), Bool.and_self, b5, w, decide_eq_true (show (0 : Int) ≤ ((k + 1 : Nat) : Int) by omega), decide_eq_true (show ((k + 1 : Nat) : Int) ≤ (m.Entries.length : Int) by omega), Int.toNat_natCast, List.take_length, b6, List.drop_zero]
          rfl
        | false =>
          simp only [cond_false]
          cases r.Kind == 3 with
          | true => simp only [cond_true, ib]; rfl
          | false =>
            simp only [cond_false]
            cases r.Kind == 7 with
            | true =>
              have ib2 : ∀ y : Entry, inB (k : Int) (m.Entries.set k y).length = true := fun y => nd' (by omega) (by rw [List.length_set]; omega)
              have hg : ∀ y : Entry, (m.Entries.set k y).getD k noE = y := fun y => by
                simp [List.getD_eq_getElem?_getD, h1]
              simp only [cond_true, ib, ib2, hg, List.set_set]
              rfl
            | false => rfl
end
end Go.Ovl
namespace Go.Ovl
open Go Go.Ab
set_option maxRecDepth 100000
theorem nef' {a c : Entry} : lessE a c = true ↔ a.Floor < c.Floor ∨ (a.Floor = c.Floor ∧ a.Dir < c.Dir) := by
  unfold lessE
  simp only [Bool.or_eq_true, Bool.and_eq_true, decide_eq_true_eq, beq_iff_eq]
theorem njo' {a c d : Entry} (h : lessE a c = true) (h' : lessE c d = true) : lessE a d = true := by
  rw [nef'] at *
  omega
def nlk' (e : Entry) : Int × Int := (e.Floor, e.Dir)
def ltC (a c : Int × Int) : Prop := a.1 < c.1 ∨ (a.1 = c.1 ∧ a.2 < c.2)
def nbf' (l : List Entry) : Prop := (l.map nlk').Pairwise ltC
theorem ncj' {l : List Entry} : nbf' l ↔ l.Pairwise fun x y => lessE x y = true := by
  unfold nbf'
  rw [List.pairwise_map]
  exact ⟨fun h => h.imp fun hh => nef'.2 hh, fun h => h.imp fun hh => nef'.1 hh⟩
theorem ntj' {b : Bldg} : ∀ {l : List Entry} {p : Option Entry}, entsF b p l = true ↔ (∀ e ∈ l, entOK b e = true) ∧ nbf' l ∧ (∀ q, p = some q → ∀ e ∈ l, lessE q e = true)
  | [], p => by simp [entsF, nbf']
  | a :: t, p => by
    simp only [entsF, Bool.and_eq_true]
    rw [ntj' (l := t), ncj', ncj', List.pairwise_cons]
    constructor
    · rintro ⟨h1, h2, h3, h4, h5⟩
      refine ⟨fun e he => ?_, ⟨fun e he => h5 a rfl e he, h4⟩, fun q hq e he => ?_⟩
      · rcases List.mem_cons.1 he with rfl | he
        · exact h1
        · exact h3 e he
      · subst hq
        simp only at h2
        rcases List.mem_cons.1 he with rfl | he
        · exact h2
        · exact njo' h2 (h5 a rfl e he)
    · rintro ⟨h1, ⟨h2, h3⟩, h4⟩
      refine ⟨h1 a (List.mem_cons_self ..), ?_, fun e he => h1 e (List.mem_cons_of_mem _ he), h3, fun q hq e he => ?_⟩
      · cases p with
        | none => rfl
        | some q => exact h4 q rfl a (List.mem_cons_self ..)
      · obtain rfl := Option.some.inj hq
        exact h2 e he
theorem nr7' {b : Bldg} {l : List Entry} : entsF b none l = true ↔ (∀ e ∈ l, entOK b e = true) ∧ nbf' l := by
  rw [ntj']
  exact ⟨fun h => ⟨h.1, h.2.1⟩, fun h => ⟨h.1, h.2, fun _ hq => by cases hq⟩⟩
theorem ny2' {l : List Entry} (h : nbf' l) (k : Nat) : nbf' (l.take k ++ l.drop (k + 1)) := by
  rw [ncj'] at *
  exact h.sublist (by rw [← List.eraseIdx_eq_take_drop_succ]; exact List.eraseIdx_sublist ..)
theorem nv6' {l : List Entry} {k : Nat} {e : Entry} (hk : k < l.length) (he : nlk' e = nlk' (l.getD k noE)) : (l.set k e).map nlk' = l.map nlk' := by
  rw [List.map_set, he]
  apply List.ext_getElem?
  intro i
  rw [List.getElem?_set]
  by_cases h : k = i
  · subst h
    rw [if_pos rfl]
    simp [hk, List.getD_eq_getElem?_getD]
  · rw [if_neg h]
theorem nrv' {l : List Entry} (h : nbf' l) {k : Nat} {e : Entry} (hk : k < l.length) (he : nlk' e = nlk' (l.getD k noE)) : nbf' (l.set k e) := by
  unfold nbf' at *
  rw [nv6' hk he]; exact h
theorem nqc' {e x : Entry} : ∀ {l : List Entry}, x ∈ insL e false l → x = e ∨ x ∈ l
  | [], h => by simp [insL] at h; exact .inl h
  | a :: t, h => by
    simp only [insL] at h
    cases hq : lessE e a with
    | true =>
      rw [hq, cond_true, nl5'] at h
      rcases List.mem_cons.1 h with h | h
      · exact .inl h
      · exact .inr h
    | false =>
      rw [hq, cond_false] at h
      rcases List.mem_cons.1 h with h | h
      · exact .inr (by rw [h]; exact List.mem_cons_self ..)
      · rcases nqc' h with h | h
        · exact .inl h
        · exact .inr (List.mem_cons_of_mem _ h)
theorem nrg' {e : Entry} : ∀ {l : List Entry}, nbf' l → (∀ x ∈ l, isC e.Floor e.Dir x = false) → nbf' (insL e false l)
  | [], _, _ => by simp [insL, nbf']
  | a :: t, h, hn => by
    rw [ncj'] at *
    obtain ⟨h1, h2⟩ := List.pairwise_cons.1 h
    simp only [insL]
    cases hq : lessE e a with
    | true =>
      rw [cond_true, nl5']
      refine List.pairwise_cons.2 ⟨fun x hx => ?_, h⟩
      rcases List.mem_cons.1 hx with rfl | hx
      · exact hq
      · exact njo' hq (h1 x hx)
    | false =>
      rw [cond_false]
      refine List.pairwise_cons.2 ⟨fun x hx => ?_, ncj'.1 (nrg' (ncj'.2 h2) fun x hx => hn x (List.mem_cons_of_mem _ hx))⟩
      rcases nqc' hx with rfl | hx
      · rw [nef']
        have h3 : ¬ (x.Floor < a.Floor ∨ (x.Floor = a.Floor ∧ x.Dir < a.Dir)) := fun hh => by rw [nef'.2 hh] at hq; cases hq
        have h4 := hn a (List.mem_cons_self ..)
        unfold isC at h4
        simp only [Bool.and_eq_false_iff, beq_eq_false_iff_ne] at h4
        omega
      · exact h1 x hx
structure ImgOK (b : Bldg) (m : Img) : Prop where
  code : b.code = 0
  lp : m.Phases.length = b.Cars.length
  lf : m.Flags.length = b.Cars.length
  ll : m.Leaving.length = b.Cars.length
  ph : ∀ p ∈ m.Phases, 0 ≤ p ∧ p ≤ 4
  en : ∀ e ∈ m.Entries, entOK b e = true
  so : nbf' m.Entries
theorem Img.ok_iff {b : Bldg} {m : Img} : m.ok b = true ↔ ImgOK b m := by
  unfold Img.ok
  simp only [Bool.and_eq_true, beq_iff_eq]
  constructor
  · rintro ⟨h0, h1, h2, h3, h4, h5⟩
    have h6 := nr7'.1 h5
    exact ⟨h0, by omega, by omega, by omega, fun p hp => nw'.1 (List.all_eq_true.1 h4 p hp), h6.1, h6.2⟩
  · rintro ⟨h0, h1, h2, h3, h4, h5, h6⟩
    exact ⟨h0, by omega, by omega, by omega, List.all_eq_true.2 fun p hp => nw'.2 (h4 p hp), nr7'.2 ⟨h5, h6⟩⟩
theorem nht' {b : Bldg} {e : Entry} : entOK b e = true ↔ n1' b e.Floor e.Dir = true ∧ (-2 ≤ e.Car ∧ e.Car < (b.Cars.length : Int)) ∧ 0 ≤ e.Moves ∧ e.Moves ≤ 255 := by
  unfold entOK
  simp only [Bool.and_eq_true, decide_eq_true_eq]
  constructor
  · rintro ⟨h1, h2, h3, h4, h5⟩; exact ⟨h1, ⟨h2, h3⟩, h4, h5⟩
  · rintro ⟨h1, ⟨h2, h3⟩, h4, h5⟩; exact ⟨h1, h2, h3, h4, h5⟩
theorem ns4' {α : Type} {l : List α} {k : Nat} {a x : α} (h : x ∈ l.set k a) : x = a ∨ x ∈ l := by
  rcases List.mem_or_eq_of_mem_set h with h | h
  · exact .inr h
  · exact .inl h
theorem nps' {b : Bldg} {r : Record} (h : nr' b r = true) : b.code = 0 ∧
    ((r.Kind = 1 ∧ n1' b r.Floor r.Dir = true ∧ r.Car = 0 ∧ r.Value = 0) ∨ (r.Kind = 2 ∧ n1' b r.Floor r.Dir = true ∧ r.Car = 0 ∧ r.Value = 0) ∨
     (r.Kind = 3 ∧ n1' b r.Floor r.Dir = true ∧ (-2 ≤ r.Car ∧ r.Car < (b.Cars.length : Int)) ∧ r.Value = 0) ∨
     (r.Kind = 4 ∧ (0 ≤ r.Car ∧ r.Car < (b.Cars.length : Int)) ∧ (0 ≤ r.Value ∧ r.Value ≤ 4)) ∨
     (r.Kind = 5 ∧ (0 ≤ r.Car ∧ r.Car < (b.Cars.length : Int)) ∧ (0 ≤ r.Value ∧ r.Value ≤ 1)) ∨
     (r.Kind = 6 ∧ (0 ≤ r.Car ∧ r.Car < (b.Cars.length : Int)) ∧ (0 ≤ r.Value ∧ r.Value ≤ 1)) ∨
     (r.Kind = 7 ∧ n1' b r.Floor r.Dir = true ∧ (0 ≤ r.Car ∧ r.Car ≤ 1) ∧ (0 ≤ r.Value ∧ r.Value ≤ 255))) := by
  unfold nr' carR at h
  simp only [Bool.and_eq_true, beq_iff_eq] at h
  obtain ⟨h0, h⟩ := h
  refine ⟨h0, ?_⟩
  by_cases k1 : r.Kind = 1
  · rw [k1] at h; simp only [beq_self_eq_true, cond_true, Bool.and_eq_true, beq_iff_eq] at h; exact .inl ⟨k1, h.1, h.2⟩
  rw [beq_f k1, cond_false] at h
  by_cases k2 : r.Kind = 2
  · rw [k2] at h; simp only [beq_self_eq_true, cond_true, Bool.and_eq_true, beq_iff_eq] at h; exact .inr (.inl ⟨k2, h.1, h.2⟩)
  rw [beq_f k2, cond_false] at h
  by_cases k3 : r.Kind = 3
  · rw [k3] at h; simp only [beq_self_eq_true, cond_true, Bool.and_eq_true, beq_iff_eq, nw'] at h; exact .inr (.inr (.inl ⟨k3, h.1, by omega, h.2.2⟩))
  rw [beq_f k3, cond_false] at h
  by_cases k4 : r.Kind = 4
  · rw [k4] at h; simp only [beq_self_eq_true, cond_true, Bool.and_eq_true, beq_iff_eq, nw'] at h; exact .inr (.inr (.inr (.inl ⟨k4, by omega, h.2⟩)))
  rw [beq_f k4, cond_false] at h
  by_cases k5 : r.Kind = 5
  · rw [k5] at h; simp only [beq_self_eq_true, cond_true, Bool.and_eq_true, beq_iff_eq, nw'] at h; exact .inr (.inr (.inr (.inr (.inl ⟨k5, by omega, h.2⟩))))
  rw [beq_f k5, cond_false] at h
  by_cases k6 : r.Kind = 6
  · rw [k6] at h; simp only [beq_self_eq_true, cond_true, Bool.and_eq_true, beq_iff_eq, nw'] at h; exact .inr (.inr (.inr (.inr (.inr (.inl ⟨k6, by omega, h.2⟩)))))
  rw [beq_f k6, cond_false] at h
  by_cases k7 : r.Kind = 7
  · rw [k7] at h; simp only [beq_self_eq_true, cond_true, Bool.and_eq_true, nw'] at h; exact .inr (.inr (.inr (.inr (.inr (.inr ⟨k7, h.1, h.2.1, h.2.2⟩)))))
  rw [beq_f k7] at h; cases h
theorem nre' {b : Bldg} {m : Img} (h : ImgOK b m) {l : List Entry} (h1 : ∀ e ∈ l, entOK b e = true) (h2 : nbf' l) : ImgOK b (m.put l) := ⟨h.code, h.lp, h.lf, h.ll, h.ph, h1, h2⟩
theorem nlv' {b : Bldg} {m : Img} (h : ImgOK b m) {r : Record} (hv : nr' b r = true) : ImgOK b (n9' m r) ∧ (n9' m r).Entries.length ≤ m.Entries.length + 1 := by
  obtain ⟨_, hk⟩ := nps' hv
  unfold n9'
  by_cases k4 : r.Kind = 4
  · rw [show (r.Kind == 4) = true by rw [k4]; rfl]
    refine ⟨⟨h.code, by show (m.Phases.set _ _).length = _; rw [List.length_set]; exact h.lp, h.lf, h.ll, fun p hp => ?_, h.en, h.so⟩, Nat.le_succ _⟩
    rcases ns4' hp with rfl | hp
    · omega
    · exact h.ph p hp
  rw [beq_f k4, cond_false]
  by_cases k5 : r.Kind = 5
  · rw [show (r.Kind == 5) = true by rw [k5]; rfl]
    exact ⟨⟨h.code, h.lp, by show (m.Flags.set _ _).length = _; rw [List.length_set]; exact h.lf, h.ll, h.ph, h.en, h.so⟩, Nat.le_succ _⟩
  rw [beq_f k5, cond_false]
  by_cases k6 : r.Kind = 6
  · rw [show (r.Kind == 6) = true by rw [k6]; rfl]
    exact ⟨⟨h.code, h.lp, h.lf, by show (m.Leaving.set _ _).length = _; rw [List.length_set]; exact h.ll, h.ph, h.en, h.so⟩, Nat.le_succ _⟩
  rw [beq_f k6, cond_false]
  rcases nko' r.Floor r.Dir m.Entries 0 with ⟨h1, h2⟩ | ⟨k, h1, h2, h3⟩
  · rw [h1, show ((-1 : Int) == -1) = true from rfl, cond_true]
    by_cases k1 : r.Kind = 1
    · rw [show (r.Kind == 1) = true by rw [k1]; rfl, cond_true]
      refine ⟨nre' h (fun e he => ?_) (nrg' h.so h2), nqg' _ _ _⟩
      rcases nqc' he with rfl | he
      · rw [nht']
        have hc : n1' b r.Floor r.Dir = true := by
          rcases hk with hk | hk | hk | hk | hk | hk | hk
          · exact hk.2.1
          all_goals omega
        exact ⟨hc, ⟨by show (-2 : Int) ≤ -1; omega, by show (-1 : Int) < _; omega⟩, by show (0 : Int) ≤ 0; omega, by show (0 : Int) ≤ 255; omega⟩
      · exact h.en e he
    · rw [beq_f k1, cond_false]; exact ⟨h, Nat.le_succ _⟩
  · rw [Nat.zero_add] at h2
    rw [h2, beq_f (show ¬ (k : Int) = -1 by omega), cond_false, Int.toNat_natCast]
    have hmem := nfg' noE h1
    have hent := nht'.1 (h.en _ hmem)
    cases r.Kind == 2 with
    | true =>
      refine ⟨nre' h (fun e he => ?_) (ny2' h.so k), ?_⟩
      · rcases List.mem_append.1 he with he | he
        · exact h.en e (List.mem_of_mem_take he)
        · exact h.en e (List.mem_of_mem_drop he)
      · show (m.Entries.take k ++ m.Entries.drop (k + 1)).length ≤ _
        rw [List.length_append, List.length_take, List.length_drop]; omega
    | false =>
      rw [cond_false]
      by_cases k3 : r.Kind = 3
      · rw [show (r.Kind == 3) = true by rw [k3]; rfl, cond_true]
        refine ⟨nre' h (fun e he => ?_) (nrv' h.so h1 rfl), by show (m.Entries.set _ _).length ≤ _; rw [List.length_set]; omega⟩
        rcases ns4' he with rfl | he
        · rw [nht']
          refine ⟨hent.1, ?_, hent.2.2⟩
          show -2 ≤ r.Car ∧ r.Car < _
          rcases hk with hk | hk | hk | hk | hk | hk | hk
          all_goals first
            | exact hk.2.2.1
            | omega
        · exact h.en e he
      · rw [beq_f k3, cond_false]
        by_cases k7 : r.Kind = 7
        · rw [show (r.Kind == 7) = true by rw [k7]; rfl, cond_true]
          refine ⟨nre' h (fun e he => ?_) (nrv' h.so h1 rfl), by show (m.Entries.set _ _).length ≤ _; rw [List.length_set]; omega⟩
          rcases ns4' he with rfl | he
          · rw [nht']
            refine ⟨hent.1, hent.2.1, ?_⟩
            show 0 ≤ r.Value ∧ r.Value ≤ 255
            rcases hk with hk | hk | hk | hk | hk | hk | hk
            all_goals first
              | exact hk.2.2.2
              | omega
          · exact h.en e he
        · rw [beq_f k7, cond_false]; exact ⟨h, Nat.le_succ _⟩
end Go.Ovl
namespace Go.Ovl
open Go Go.Ab
set_option maxRecDepth 100000
theorem nv1' {b : Bldg} (hb : b.small) (hcode : b.code = 0) (hc : 1 ≤ b.Cars.length ∧ b.Cars.length ≤ 100) {l : List Int} (hl : ∀ e ∈ l, u8r e) {out : List Record} {most : Int} (ho : out.length ≤ 100) (hm : (out.length : Int) < most) (hi : 2 * out.length + 1 < l.length) :
    ∃ r, nr' b r = true ∧ ncn' l most out b.Floors (b.Cars.length : Int) ((2 * out.length : Nat) : Int) = some (.inl ((l, most, out ++ [r], b.Floors, (b.Cars.length : Int), ((2 * (out ++ [r]).length : Nat) : Int), ()), ())) := by
  have lo := hb.lo
  have hi8 := hb.hi
  have w1 : IntKind.i64.wrap (((2 * out.length : Nat) : Int) + 1) = ((2 * out.length + 1 : Nat) : Int) := by rw [nb' (by omega) (by omega)]; omega
  have w2 : IntKind.i64.wrap (((2 * out.length : Nat) : Int) + 2) = ((2 * out.length + 2 : Nat) : Int) := by rw [nb' (by omega) (by omega)]; omega
  have hn := nvv' (P := u8r) hl (d := (0 : Int)) (show 2 * out.length < l.length by omega)
  have hv := nvv' (P := u8r) hl (d := (0 : Int)) hi
  generalize hnn : l.getD (2 * out.length) 0 = n at hn
  generalize hvv : l.getD (2 * out.length + 1) 0 = v at hv
  obtain ⟨n0, n1⟩ := hn
  obtain ⟨v0, v1⟩ := hv
  have wn : IntKind.i64.wrap n = n := nb' (by omega) (by omega)
  have wv : IntKind.i64.wrap v = v := nb' (by omega) (by omega)
  have tm : ∀ (x y : Int), 0 ≤ x → Int.tmod x y = x % y := fun x y h => Int.tmod_eq_emod_of_nonneg h
  have td : ∀ (x y : Int), 0 ≤ x → Int.tdiv x y = x / y := fun x y h => Int.tdiv_eq_ediv_of_nonneg h
  have wd7 : IntKind.i64.wrap (n / 7) = n / 7 := nb' (by omega) (by omega)
  have wd14 : IntKind.i64.wrap (n / 14) = n / 14 := nb' (by omega) (by omega)
  have wd2 : IntKind.i64.wrap (v / 2) = v / 2 := nb' (by omega) (by omega)
  have wf : IntKind.i64.wrap (b.Floors - 1) = b.Floors - 1 := nb' (by omega) (by omega)
  have wc : IntKind.i64.wrap ((b.Cars.length : Int) + 2) = (b.Cars.length : Int) + 2 := nb' (by omega) (by omega)
  have wz4 : IntKind.i64.wrap (1 + v % 2) = 1 + v % 2 := nb' (by omega) (by omega)
  have mc : 0 ≤ n / 7 % (b.Cars.length : Int) ∧ n / 7 % (b.Cars.length : Int) < (b.Cars.length : Int) := ⟨Int.emod_nonneg _ (by omega), Int.emod_lt_of_pos _ (by omega)⟩
  have mc2 : 0 ≤ n / 7 % ((b.Cars.length : Int) + 2) ∧ n / 7 % ((b.Cars.length : Int) + 2) < (b.Cars.length : Int) + 2 := ⟨Int.emod_nonneg _ (by omega), Int.emod_lt_of_pos _ (by omega)⟩
  have mf : 0 ≤ v / 2 % (b.Floors - 1) ∧ v / 2 % (b.Floors - 1) < b.Floors - 1 := ⟨Int.emod_nonneg _ (by omega), Int.emod_lt_of_pos _ (by omega)⟩
  have wz6 : IntKind.i64.wrap (v / 2 % (b.Floors - 1) + 1) = v / 2 % (b.Floors - 1) + 1 := nb' (by omega) (by omega)
  have wca : IntKind.i64.wrap (n / 7 % ((b.Cars.length : Int) + 2) - 2) = n / 7 % ((b.Cars.length : Int) + 2) - 2 := nb' (by omega) (by omega)
  have ble : ∀ r : Record, Nat.ble (out.length + [r].length) 2147483648 = true := fun _ => nbk' (by simp; omega)
  have len : ∀ r : Record, ((2 * (out ++ [r]).length : Nat) : Int) = ((2 * out.length + 2 : Nat) : Int) := fun _ => by rw [List.length_append, List.length_singleton]; omega
  unfold ncn'
  have i1 : inB ((2 * out.length : Nat) : Int) l.length = true := nd' (by omega) (by omega)
  have i2 : inB ((2 * out.length + 1 : Nat) : Int) l.length = true := nd' (by omega) (by omega)
  have d1 : decide (((2 * out.length + 1 : Nat) : Int) < (l.length : Int)) = true := decide_eq_true (by omega)
  simp only [w1, d1, decide_eq_true hm, i1, i2, Int.toNat_natCast, hnn, hvv, wn, wv, cond_true, tm _ _ n0, tm _ _ v0, td _ _ n0, td _ _ v0, wd7, wd2, wf, wz4, bne_t (show ¬ (b.Cars.length : Int) = 0 by omega), bne_t (show ¬ b.Floors - 1 = 0 by omega), tm _ _ (show 0 ≤ n / 7 by omega), tm _ _ (show 0 ≤ v / 2 by omega), wz6]
  have h7 : n % 7 = 0 ∨ n % 7 = 1 ∨ n % 7 = 2 ∨ n % 7 = 3 ∨ n % 7 = 4 ∨ n % 7 = 5 ∨ n % 7 = 6 := by omega
  have hcall : ∀ (F D : Int), (D = 1 ∧ 0 ≤ F ∧ F ≤ b.Floors - 2) ∨ (D = 2 ∧ 1 ≤ F ∧ F ≤ b.Floors - 1) → n1' b F D = true := fun F D h => by
    unfold n1' callB
    rw [hcode]
    rcases h with ⟨rfl, h1, h2⟩ | ⟨rfl, h1, h2⟩
    · rw [nw'.2 ⟨h1, h2⟩]; rfl
    · rw [nw'.2 ⟨h1, h2⟩, Bool.or_comm]; rfl
  have val : ∀ r : Record, (r.Kind = 1 ∧ n1' b r.Floor r.Dir = true ∧ r.Car = 0 ∧ r.Value = 0) ∨ (r.Kind = 2 ∧ n1' b r.Floor r.Dir = true ∧ r.Car = 0 ∧ r.Value = 0) ∨
     (r.Kind = 3 ∧ n1' b r.Floor r.Dir = true ∧ (-2 ≤ r.Car ∧ r.Car < (b.Cars.length : Int)) ∧ r.Value = 0) ∨
     (r.Kind = 4 ∧ (0 ≤ r.Car ∧ r.Car < (b.Cars.length : Int)) ∧ (0 ≤ r.Value ∧ r.Value ≤ 4) ∧ r.Floor = 0 ∧ r.Dir = 0) ∨
     (r.Kind = 5 ∧ (0 ≤ r.Car ∧ r.Car < (b.Cars.length : Int)) ∧ (0 ≤ r.Value ∧ r.Value ≤ 1) ∧ r.Floor = 0 ∧ r.Dir = 0) ∨
     (r.Kind = 6 ∧ (0 ≤ r.Car ∧ r.Car < (b.Cars.length : Int)) ∧ (0 ≤ r.Value ∧ r.Value ≤ 1) ∧ r.Floor = 0 ∧ r.Dir = 0) ∨
     (r.Kind = 7 ∧ n1' b r.Floor r.Dir = true ∧ (0 ≤ r.Car ∧ r.Car ≤ 1) ∧ (0 ≤ r.Value ∧ r.Value ≤ 255)) → nr' b r = true := fun r h => by
    unfold nr' carR
    rw [hcode]
    rcases h with ⟨k, h1, h2, h3⟩ | ⟨k, h1, h2, h3⟩ | ⟨k, h1, h2, h3⟩ | ⟨k, h1, h2, h3, h4⟩ | ⟨k, h1, h2, h3, h4⟩ | ⟨k, h1, h2, h3, h4⟩ | ⟨k, h1, h2, h3⟩
    · rw [k, h1, h2, h3]; rfl
    · rw [k, h1, h2, h3]; rfl
    · rw [k, h1, h3, nw'.2 ⟨h2.1, show r.Car ≤ (b.Cars.length : Int) - 1 by omega⟩]; rfl
    · rw [k, h3, h4, nw'.2 ⟨h1.1, show r.Car ≤ (b.Cars.length : Int) - 1 by omega⟩, nw'.2 h2]; rfl
    · rw [k, h3, h4, nw'.2 ⟨h1.1, show r.Car ≤ (b.Cars.length : Int) - 1 by omega⟩, nw'.2 h2]; rfl
    · rw [k, h3, h4, nw'.2 ⟨h1.1, show r.Car ≤ (b.Cars.length : Int) - 1 by omega⟩, nw'.2 h2]; rfl
    · rw [k, h1, nw'.2 h2, nw'.2 h3]; rfl
  have fin : ∀ r, nr' b r = true → ∃ r', nr' b r' = true ∧ (some (.inl ((l, most, out ++ [r], b.Floors, (b.Cars.length : Int), ((2 * out.length + 2 : Nat) : Int), ()), ())) : Option (Sum ((List Int × Int × List Record × Int × Int × Int × Unit) × Unit) ((List Record × Unit) × Unit))) = some (.inl ((l, most, out ++ [r'], b.Floors, (b.Cars.length : Int), ((2 * (out ++ [r']).length : Nat) : Int), ()), ())) := fun r h => ⟨r, h, by rw [len]⟩
  rcases h7 with q | q | q | q | q | q | q
  all_goals rw [q]
  · rw [show IntKind.i64.wrap (1 + 0) = 1 from rfl]
    simp only [show ((1 : Int) == 4) = false from rfl, show ((1 : Int) == 5) = false from rfl, show ((1 : Int) == 6) = false from rfl, cond_false]
    cases hd : 1 + v % 2 == 2 with
    | true =>
      have hd' : v % 2 = 1 := by have : 1 + v % 2 = 2 := by simpa using hd
                                 omega
      simp only [cond_true, cond_false, Option.bind_some, show ((1 : Int) == 3) = false from rfl, show ((1 : Int) == 7) = false from rfl, ble, w2]
      exact fin _ (val _ (.inl ⟨rfl, hcall _ _ (.inr ⟨by show 1 + v % 2 = 2; omega, by show (1 : Int) ≤ v / 2 % (b.Floors - 1) + 1; omega, by show v / 2 % (b.Floors - 1) + 1 ≤ b.Floors - 1; omega⟩), rfl, rfl⟩))
    | false =>
      have hd' : v % 2 = 0 := by have : ¬ 1 + v % 2 = 2 := by simpa using hd
                                 omega
      simp only [cond_true, cond_false, Option.bind_some, show ((1 : Int) == 3) = false from rfl, show ((1 : Int) == 7) = false from rfl, ble, w2]
      exact fin _ (val _ (.inl ⟨rfl, hcall _ _ (.inl ⟨by show 1 + v % 2 = 1; omega, mf.1, by show v / 2 % (b.Floors - 1) ≤ b.Floors - 2; omega⟩), rfl, rfl⟩))
  · rw [show IntKind.i64.wrap (1 + 1) = 2 from rfl]
    simp only [show ((2 : Int) == 4) = false from rfl, show ((2 : Int) == 5) = false from rfl, show ((2 : Int) == 6) = false from rfl, cond_false]
    cases hd : 1 + v % 2 == 2 with
    | true =>
      have hd' : v % 2 = 1 := by have : 1 + v % 2 = 2 := by simpa using hd
                                 omega
      simp only [cond_true, cond_false, Option.bind_some, show ((2 : Int) == 3) = false from rfl, show ((2 : Int) == 7) = false from rfl, ble, w2]
      exact fin _ (val _ (.inr (.inl ⟨rfl, hcall _ _ (.inr ⟨by show 1 + v % 2 = 2; omega, by show (1 : Int) ≤ v / 2 % (b.Floors - 1) + 1; omega, by show v / 2 % (b.Floors - 1) + 1 ≤ b.Floors - 1; omega⟩), rfl, rfl⟩)))
    | false =>
      have hd' : v % 2 = 0 := by have : ¬ 1 + v % 2 = 2 := by simpa using hd
                                 omega
      simp only [cond_true, cond_false, Option.bind_some, show ((2 : Int) == 3) = false from rfl, show ((2 : Int) == 7) = false from rfl, ble, w2]
      exact fin _ (val _ (.inr (.inl ⟨rfl, hcall _ _ (.inl ⟨by show 1 + v % 2 = 1; omega, mf.1, by show v / 2 % (b.Floors - 1) ≤ b.Floors - 2; omega⟩), rfl, rfl⟩)))
  · rw [show IntKind.i64.wrap (1 + 2) = 3 from rfl]
    simp only [show ((3 : Int) == 4) = false from rfl, show ((3 : Int) == 5) = false from rfl, show ((3 : Int) == 6) = false from rfl, cond_false]
    cases hd : 1 + v % 2 == 2 with
    | true =>
      have hd' : v % 2 = 1 := by have : 1 + v % 2 = 2 := by simpa using hd
                                 omega
      simp only [cond_true, cond_false, Option.bind_some, beq_self_eq_true, wc, td _ _ n0, wd7, tm _ _ (show 0 ≤ n / 7 by omega), bne_t (show ¬ (b.Cars.length : Int) + 2 = 0 by omega), wca, show ((3 : Int) == 7) = false from rfl, ble, w2]
      exact fin _ (val _ (.inr (.inr (.inl ⟨rfl, hcall _ _ (.inr ⟨by show 1 + v % 2 = 2; omega, by show (1 : Int) ≤ v / 2 % (b.Floors - 1) + 1; omega, by show v / 2 % (b.Floors - 1) + 1 ≤ b.Floors - 1; omega⟩), ⟨by show -2 ≤ n / 7 % ((b.Cars.length : Int) + 2) - 2; omega, by show n / 7 % ((b.Cars.length : Int) + 2) - 2 < (b.Cars.length : Int); omega⟩, rfl⟩))))
    | false =>
      have hd' : v % 2 = 0 := by have : ¬ 1 + v % 2 = 2 := by simpa using hd
                                 omega
      simp only [cond_true, cond_false, Option.bind_some, beq_self_eq_true, wc, td _ _ n0, wd7, tm _ _ (show 0 ≤ n / 7 by omega), bne_t (show ¬ (b.Cars.length : Int) + 2 = 0 by omega), wca, show ((3 : Int) == 7) = false from rfl, ble, w2]
      exact fin _ (val _ (.inr (.inr (.inl ⟨rfl, hcall _ _ (.inl ⟨by show 1 + v % 2 = 1; omega, mf.1, by show v / 2 % (b.Floors - 1) ≤ b.Floors - 2; omega⟩), ⟨by show -2 ≤ n / 7 % ((b.Cars.length : Int) + 2) - 2; omega, by show n / 7 % ((b.Cars.length : Int) + 2) - 2 < (b.Cars.length : Int); omega⟩, rfl⟩))))
  · rw [show IntKind.i64.wrap (1 + 3) = 4 from rfl]
    simp only [beq_self_eq_true, cond_true, cond_false, Option.bind_some, show ((4 : Int) == 3) = false from rfl, show ((4 : Int) == 7) = false from rfl, ble, w2]
    exact fin _ (val _ (.inr (.inr (.inr (.inl ⟨rfl, mc, ⟨by show 0 ≤ v % 5; omega, by show v % 5 ≤ 4; omega⟩, rfl, rfl⟩)))))
  · rw [show IntKind.i64.wrap (1 + 4) = 5 from rfl]
    simp only [beq_self_eq_true, cond_true, cond_false, Option.bind_some, show ((5 : Int) == 4) = false from rfl, show ((5 : Int) == 3) = false from rfl, show ((5 : Int) == 7) = false from rfl, ble, w2]
    exact fin _ (val _ (.inr (.inr (.inr (.inr (.inl ⟨rfl, mc, ⟨by show 0 ≤ v % 2; omega, by show v % 2 ≤ 1; omega⟩, rfl, rfl⟩))))))
  · rw [show IntKind.i64.wrap (1 + 5) = 6 from rfl]
    simp only [beq_self_eq_true, cond_true, cond_false, Option.bind_some, show ((6 : Int) == 4) = false from rfl, show ((6 : Int) == 5) = false from rfl, show ((6 : Int) == 3) = false from rfl, show ((6 : Int) == 7) = false from rfl, ble, w2]
    exact fin _ (val _ (.inr (.inr (.inr (.inr (.inr (.inl ⟨rfl, mc, ⟨by show 0 ≤ v % 2; omega, by show v % 2 ≤ 1; omega⟩, rfl, rfl⟩)))))))
  · rw [show IntKind.i64.wrap (1 + 6) = 7 from rfl]
    simp only [show ((7 : Int) == 4) = false from rfl, show ((7 : Int) == 5) = false from rfl, show ((7 : Int) == 6) = false from rfl, cond_false]
    cases hd : 1 + v % 2 == 2 with
    | true =>
      have hd' : v % 2 = 1 := by have : 1 + v % 2 = 2 := by simpa using hd
                                 omega
      simp only [cond_true, cond_false, Option.bind_some, beq_self_eq_true, td _ _ n0, wd7, wd14, tm _ _ (show 0 ≤ n / 7 by omega), show ((7 : Int) == 3) = false from rfl, ble, w2]
      exact fin _ (val _ (.inr (.inr (.inr (.inr (.inr (.inr ⟨rfl, hcall _ _ (.inr ⟨by show 1 + v % 2 = 2; omega, by show (1 : Int) ≤ v / 2 % (b.Floors - 1) + 1; omega, by show v / 2 % (b.Floors - 1) + 1 ≤ b.Floors - 1; omega⟩), ⟨by show 0 ≤ n / 7 % 2; omega, by show n / 7 % 2 ≤ 1; omega⟩, ⟨by show 0 ≤ n / 14; omega, by show n / 14 ≤ 255; omega⟩⟩)))))))
    | false =>
      have hd' : v % 2 = 0 := by have : ¬ 1 + v % 2 = 2 := by simpa using hd
                                 omega
      simp only [cond_true, cond_false, Option.bind_some, beq_self_eq_true, td _ _ n0, wd7, wd14, tm _ _ (show 0 ≤ n / 7 by omega), show ((7 : Int) == 3) = false from rfl, ble, w2]
      exact fin _ (val _ (.inr (.inr (.inr (.inr (.inr (.inr ⟨rfl, hcall _ _ (.inl ⟨by show 1 + v % 2 = 1; omega, mf.1, by show v / 2 % (b.Floors - 1) ≤ b.Floors - 2; omega⟩), ⟨by show 0 ≤ n / 7 % 2; omega, by show n / 7 % 2 ≤ 1; omega⟩, ⟨by show 0 ≤ n / 14; omega, by show n / 14 ≤ 255; omega⟩⟩)))))))
theorem ny9' {b : Bldg} (hb : b.small) (hcode : b.code = 0) (hc : 1 ≤ b.Cars.length ∧ b.Cars.length ≤ 100) {l : List Int} (hl : ∀ e ∈ l, u8r e) {most : Int} (hm : 0 ≤ most ∧ most ≤ 100) :
    ∃ rs : List Record, ng7' b.Floors b.Debounce b.Room b.Park b.Empty b.Full b.Over b.Cars l most = some ((rs, ()), ()) ∧ (rs.length : Int) ≤ most ∧ ∀ r ∈ rs, nr' b r = true := by
  have key : ∃ y : (List Record × Unit) × Unit, nf9' ((l, most, ([] : List Record), b.Floors, (b.Cars.length : Int), (0 : Int), ()), ()) = some y ∧ ∃ rs : List Record, (rs.length : Int) ≤ most ∧ (∀ r ∈ rs, nr' b r = true) ∧ y = ((rs, ()), ()) := by
    refine n3e' (fun x => ∃ out : List Record, (out.length : Int) ≤ most ∧ (∀ r ∈ out, nr' b r = true) ∧ x = ((l, most, out, b.Floors, (b.Cars.length : Int), ((2 * out.length : Nat) : Int), ()), ())) (fun y => ∃ rs : List Record, (rs.length : Int) ≤ most ∧ (∀ r ∈ rs, nr' b r = true) ∧ y = ((rs, ()), ())) (fun x => 1000 - x.1.2.2.2.2.2.1.toNat) ?_ ⟨[], hm.1, (fun _ h => by cases h), rfl⟩ (by show 1000 - 0 < _; omega)
    rintro _ ⟨out, h1, h2, rfl⟩
    have w1 : IntKind.i64.wrap (((2 * out.length : Nat) : Int) + 1) = ((2 * out.length + 1 : Nat) : Int) := by rw [nb' (by omega) (by omega)]; omega
    show (∃ x', ncn' l most out b.Floors (b.Cars.length : Int) ((2 * out.length : Nat) : Int) = _ ∧ _) ∨ ∃ y, ncn' l most out b.Floors (b.Cars.length : Int) ((2 * out.length : Nat) : Int) = _ ∧ _
    by_cases g1 : 2 * out.length + 1 < l.length
    · by_cases g2 : (out.length : Int) < most
      · obtain ⟨r, h3, h4⟩ := nv1' hb hcode hc hl (by omega) g2 g1
        refine .inl ⟨_, h4, ⟨out ++ [r], by rw [List.length_append, List.length_singleton]; omega, fun x hx => ?_, rfl⟩, ?_⟩
        · rcases List.mem_append.1 hx with h | h
          · exact h2 x h
          · rw [List.mem_singleton.1 h]; exact h3
        · show 1000 - Int.toNat ((2 * (out ++ [r]).length : Nat) : Int) < 1000 - Int.toNat ((2 * out.length : Nat) : Int)
          rw [List.length_append, List.length_singleton]; omega
      · refine .inr ⟨((out, ()), ()), ?_, out, h1, h2, rfl⟩
        unfold ncn'
        rw [w1, decide_eq_true (show ((2 * out.length + 1 : Nat) : Int) < (l.length : Int) by omega), decide_eq_false g2]; rfl
    · refine .inr ⟨((out, ()), ()), ?_, out, h1, h2, rfl⟩
      unfold ncn'
      rw [w1, decide_eq_false (show ¬ ((2 * out.length + 1 : Nat) : Int) < (l.length : Int) by omega)]; rfl
  obtain ⟨_, h1, rs, h2, h3, rfl⟩ := key
  refine ⟨rs, ?_, h2, h3⟩
  unfold ng7'
  rw [h1]; rfl
def initV (b : Bldg) : Img := ⟨List.replicate b.Cars.length 0, List.replicate b.Cars.length false, List.replicate b.Cars.length false, []⟩
theorem nmt' {b : Bldg} (hcode : b.code = 0) (hc : b.Cars.length ≤ 100) : nfp' b.Floors b.Debounce b.Room b.Park b.Empty b.Full b.Over b.Cars = some (((), ()), ((initV b).tup, ())) := by
  unfold nfp'
  rw [ndt', hcode]
  simp only [Option.bind_some, bne_self_eq_false, cond_false, decide_eq_true (show (0 : Int) ≤ (b.Cars.length : Int) by omega), decide_eq_true (Int.le_refl (b.Cars.length : Int)), decide_eq_true (show (b.Cars.length : Int) ≤ 2147483648 by omega), Bool.and_self, cond_true, Int.toNat_natCast]
  rfl
theorem nho' {b : Bldg} (hcode : b.code = 0) : ImgOK b (initV b) :=
  ⟨hcode, List.length_replicate, List.length_replicate, List.length_replicate, (fun p hp => by rw [List.eq_of_mem_replicate hp]; omega), (fun _ h => by cases h), by simp [initV, nbf']⟩
def nba' (m : Img) : List Record → Img
  | [] => m
  | r :: t => nba' (n9' m r) t
theorem nl6' {b : Bldg} : ∀ {rs : List Record} {m : Img}, ImgOK b m → (∀ r ∈ rs, nr' b r = true) → ImgOK b (nba' m rs) ∧ (nba' m rs).Entries.length ≤ m.Entries.length + rs.length
  | [], _, h, _ => ⟨h, Nat.le_refl _⟩
  | r :: t, m, h, hv => by
    obtain ⟨h1, h2⟩ := nlv' h (hv r (List.mem_cons_self ..))
    obtain ⟨h3, h4⟩ := nl6' (rs := t) h1 fun x hx => hv x (List.mem_cons_of_mem _ hx)
    exact ⟨h3, by show (nba' (n9' m r) t).Entries.length ≤ _; rw [List.length_cons]; omega⟩
theorem nue' {b : Bldg} {m : Img} {r : Record} (h : ImgOK b m) (hv : nr' b r = true) : nrt' b m r = (((), 0, ()), ((n9' m r).tup, ())) := by
  unfold nrt'
  rw [Img.ok_iff.2 h, hv]; rfl
theorem nq6' {b : Bldg} (hb : b.small) (hc : b.Cars.length ≤ 100) (m0 : Img) {rs : List Record} (hr : ∀ r ∈ rs, nr' b r = true) (hl : rs.length ≤ 100) :
    ∀ (k i : Nat) (m : Img), i + k = rs.length → ImgOK b m → m.Entries.length ≤ 100 + i →
      iter (fun x => nd7' x.1.2.2.2.1 x.1.2.2.2.2.1 x.2.1.1 x.2.1.2.1 x.2.1.2.2.1 x.2.1.2.2.2.1 x.2.1.2.2.2.2.1 x.2.1.2.2.2.2.2.1 x.2.1.2.2.2.2.2.2.1 x.2.1.2.2.2.2.2.2.2.1 x.2.2.1.1 x.2.2.1.2.1 x.2.2.1.2.2.1 x.2.2.1.2.2.2.1 x.2.2.2.1.1 x.2.2.2.1.2.1 x.2.2.2.1.2.2.1 x.2.2.2.1.2.2.2.1) (k + 1) (((), (), (), rs, (i : Int), ()), (b.tup, m0.tup, m.tup, ())) = some (((), (), ()), (m0.tup, (nba' m (rs.drop i)).tup, ()))
  | 0, i, m, hi, _, _ => by
    refine ns' ?_
    show nd7' rs (i : Int) b.Floors b.Debounce b.Room b.Park b.Empty b.Full b.Over b.Cars m0.Phases m0.Flags m0.Leaving m0.Entries m.Phases m.Flags m.Leaving m.Entries = _
    unfold nd7'
    rw [show decide ((i : Int) < (rs.length : Int)) = false by simp; omega, show i = rs.length by omega, List.drop_length]; rfl
  | k + 1, i, m, hi, hm, hml => by
    have hi' : i < rs.length := by omega
    have hv := hr _ (nfg' (Record.mk 0 0 0 0 0) hi')
    have w : IntKind.i64.wrap ((i : Int) + 1) = ((i + 1 : Nat) : Int) := by rw [nb' (by omega) (by omega)]; omega
    obtain ⟨g1, g2⟩ := nlv' hm hv
    have hmx : 100 ≤ maxLen := by decide
    have ha := no6' hb m (by omega) (rs.getD i (Record.mk 0 0 0 0 0)) (by rw [hm.lp]; omega) hc
    rw [nue' hm hv] at ha
    rw [ncs' (Record.mk 0 0 0 0 0) hi']
    refine (nbd' (x' := (((), (), (), rs, ((i + 1 : Nat) : Int), ()), (b.tup, m0.tup, (n9' m (rs.getD i (Record.mk 0 0 0 0 0))).tup, ()))) ?_).trans (nq6' hb hc m0 hr hl k (i + 1) _ (by omega) g1 (by omega))
    show nd7' rs (i : Int) b.Floors b.Debounce b.Room b.Park b.Empty b.Full b.Over b.Cars m0.Phases m0.Flags m0.Leaving m0.Entries m.Phases m.Flags m.Leaving m.Entries = _
    unfold nd7'
    rw [show decide ((i : Int) < (rs.length : Int)) = true by simp; omega, nd' (show (0 : Int) ≤ (i : Int) by omega) (show (i : Int) < (rs.length : Int) by omega), Int.toNat_natCast, w]
    simp only [cond_true, ha, Option.bind_some]
    rfl
theorem nsq' {b : Bldg} (hb : b.small) (hcode : b.code = 0) (hc : 1 ≤ b.Cars.length ∧ b.Cars.length ≤ 100) {l : List Int} (hl : ∀ e ∈ l, u8r e) :
    ∃ m : Img, ng2' b.Floors b.Debounce b.Room b.Park b.Empty b.Full b.Over b.Cars l = some (((), ()), (m.tup, ())) ∧ ImgOK b m ∧ m.Entries.length ≤ 60 := by
  obtain ⟨rs, h1, h2, h3⟩ := ny9' hb hcode hc hl (most := 60) (by omega)
  have hlp := no' (nq6' hb hc.2 Img.none h3 (by omega) rs.length 0 (initV b) (by omega) (nho' hcode) (by simp [initV])) (by omega)
  rw [List.drop_zero] at hlp
  obtain ⟨g1, g2⟩ := nl6' (nho' hcode) h3
  refine ⟨nba' (initV b) rs, ?_, g1, by have : (initV b).Entries.length = 0 := rfl; omega⟩
  unfold ng2'
  rw [nmt' hcode hc.2, h1]
  have hlp' : nhg' (((), (), (), rs, (0 : Int), ()), (b.tup, Img.none.tup, (initV b).tup, ())) = _ := hlp
  unfold Bldg.tup Img.tup Img.none at hlp'
  simp only [Option.bind_some, Img.tup, hlp']
end Go.Ovl
namespace Go.Ovl
open Go Go.Ab
set_option maxRecDepth 100000
theorem nqk' (n lo hi : Int) : nbl' n lo hi = some ((inR lo hi n, ()), ()) := by
  unfold nbl' inR
  cases decide (lo ≤ n) <;> rfl
theorem nq8' {b : Bldg} (hb : b.small) (hc : b.Cars.length ≤ 100) (r : Record) : ndo' b.Floors b.Debounce b.Room b.Park b.Empty b.Full b.Over b.Cars r.Kind r.Floor r.Dir r.Car r.Value = some ((nr' b r, ()), ()) := by
  have w : IntKind.i64.wrap ((b.Cars.length : Int) - 1) = (b.Cars.length : Int) - 1 := nb' (by omega) (by omega)
  unfold ndo' nr' carR
  rw [ndx', nod' hb]
  simp only [Option.bind_some, bne, nqk', w]
  cases b.code == 0 with
  | false => rfl
  | true =>
    simp only [Bool.not_true, cond_false, Bool.true_and]
    cases inR 0 ((b.Cars.length : Int) - 1) r.Car <;> cases r.Floor == 0 <;> cases r.Dir == 0 <;>
      (simp only [Option.bind_some, cond_true, cond_false, Bool.and_self, Bool.and_true, Bool.and_false, Bool.false_and, Bool.true_and, w]
       by_cases k1 : r.Kind = 1
       · simp only [k1, beq_self_eq_true, cond_true]
         cases n1' b r.Floor r.Dir <;> cases r.Car == 0 <;> rfl
       by_cases k2 : r.Kind = 2
       · simp only [k2, beq_self_eq_true, cond_true, cond_false, show ((2 : Int) == 1) = false from rfl]
         cases n1' b r.Floor r.Dir <;> cases r.Car == 0 <;> rfl
       by_cases k3 : r.Kind = 3
       · simp only [k3, beq_self_eq_true, cond_true, cond_false, show ((3 : Int) == 1) = false from rfl, show ((3 : Int) == 2) = false from rfl]
         cases n1' b r.Floor r.Dir <;> cases inR (-2) ((b.Cars.length : Int) - 1) r.Car <;> rfl
       by_cases k4 : r.Kind = 4
       · simp only [k4, beq_self_eq_true, cond_true, cond_false, show ((4 : Int) == 1) = false from rfl, show ((4 : Int) == 2) = false from rfl, show ((4 : Int) == 3) = false from rfl, show ((4 : Int) == 7) = false from rfl]
       by_cases k5 : r.Kind = 5
       · simp only [k5, beq_self_eq_true, cond_true, cond_false, show ((5 : Int) == 1) = false from rfl, show ((5 : Int) == 2) = false from rfl, show ((5 : Int) == 3) = false from rfl, show ((5 : Int) == 7) = false from rfl, show ((5 : Int) == 4) = false from rfl]
       by_cases k6 : r.Kind = 6
       · simp only [k6, beq_self_eq_true, cond_true, cond_false, show ((6 : Int) == 1) = false from rfl, show ((6 : Int) == 2) = false from rfl, show ((6 : Int) == 3) = false from rfl, show ((6 : Int) == 7) = false from rfl, show ((6 : Int) == 4) = false from rfl, show ((6 : Int) == 5) = false from rfl]
       by_cases k7 : r.Kind = 7
       · simp only [k7, beq_self_eq_true, cond_true, cond_false, show ((7 : Int) == 1) = false from rfl, show ((7 : Int) == 2) = false from rfl, show ((7 : Int) == 3) = false from rfl, show ((7 : Int) == 4) = false from rfl, show ((7 : Int) == 5) = false from rfl, show ((7 : Int) == 6) = false from rfl]
         cases n1' b r.Floor r.Dir <;> cases inR 0 1 r.Car <;> rfl
       simp only [beq_f k1, beq_f k2, beq_f k3, beq_f k4, beq_f k5, beq_f k6, beq_f k7, cond_false])
def posF (c : Entry) : List Entry → Nat
  | [] => 0
  | e :: t => bif lessE e c then posF c t + 1 else 0
theorem npa' (c : Entry) : ∀ l : List Entry, posF c l ≤ l.length
  | [] => Nat.le_refl _
  | e :: t => by
    have := npa' c t
    simp only [posF, List.length_cons]
    cases lessE e c <;> simp <;> omega
theorem nxz' (c : Entry) : ∀ (l : List Entry) (k : Nat), k < posF c l → lessE (l.getD k noE) c = true
  | [], k, h => by simp [posF] at h
  | e :: t, k, h => by
    simp only [posF] at h
    cases he : lessE e c with
    | false => rw [he] at h; simp at h
    | true =>
      rw [he] at h
      cases k with
      | zero => exact he
      | succ k => exact nxz' c t k (by simp at h; omega)
theorem nx2' {c : Entry} : ∀ {l : List Entry}, nbf' l → ∀ k, posF c l ≤ k → k < l.length → lessE (l.getD k noE) c = false
  | [], _, k, _, h => by simp at h
  | e :: t, hs, k, h1, h2 => by
    obtain ⟨a1, a2⟩ := List.pairwise_cons.1 (ncj'.1 hs)
    simp only [posF] at h1
    cases he : lessE e c with
    | true =>
      rw [he, cond_true] at h1
      cases k with
      | zero => omega
      | succ k => exact nx2' (ncj'.2 a2) k (by omega) (by simp at h2; omega)
    | false =>
      cases k with
      | zero => exact he
      | succ k =>
        cases hq : lessE ((e :: t).getD (k + 1) noE) c with
        | false => rfl
        | true =>
          have hm : t.getD k noE ∈ t := nfg' noE (by simp at h2; omega)
          have := njo' (a1 _ hm) hq
          rw [he] at this; cases this
theorem nqo' {a c : Entry} (h : isC c.Floor c.Dir a = true) : lessE a c = false ∧ lessE c a = false := by
  unfold isC at h
  simp only [Bool.and_eq_true, beq_iff_eq] at h
  constructor
  all_goals
    apply Bool.eq_false_iff.2
    intro hh
    rw [nef'] at hh
    omega
theorem nuv' {a c : Entry} (h : isC c.Floor c.Dir a = false) (h' : lessE a c = false) : lessE c a = true := by
  rw [nef']
  have h1 : ¬ (a.Floor < c.Floor ∨ (a.Floor = c.Floor ∧ a.Dir < c.Dir)) := fun hh => by rw [nef'.2 hh] at h'; cases h'
  unfold isC at h
  simp only [Bool.and_eq_false_iff, beq_eq_false_iff_ne] at h
  omega
theorem nub' {a c : Entry} (h : lessE a c = true) : lessE c a = false := by
  apply Bool.eq_false_iff.2
  intro hh
  rw [nef'] at *
  omega
theorem nni' {F D : Int} : ∀ {l : List Entry} {i : Nat}, (∀ x ∈ l, isC F D x = false) → findF F D l i = -1
  | [], _, _ => rfl
  | e :: t, i, h => by
    simp only [findF]
    rw [h e (List.mem_cons_self ..), cond_false]
    exact nni' fun x hx => h x (List.mem_cons_of_mem _ hx)
def hasF (c : Entry) (l : List Entry) : Bool := Nat.blt (posF c l) l.length && isC c.Floor c.Dir (l.getD (posF c l) noE)
theorem noy' {c : Entry} : ∀ {l : List Entry} (i : Nat), nbf' l → findF c.Floor c.Dir l i = bif hasF c l then ((i + posF c l : Nat) : Int) else -1
  | [], _, _ => rfl
  | e :: t, i, hs => by
    obtain ⟨a1, a2⟩ := List.pairwise_cons.1 (ncj'.1 hs)
    have hpos : posF c (e :: t) = bif lessE e c then posF c t + 1 else 0 := rfl
    unfold hasF
    simp only [findF]
    rw [hpos]
    cases he : isC c.Floor c.Dir e with
    | true =>
      rw [(nqo' he).1]
      simp [he, show Nat.blt 0 (t.length + 1) = true from rfl]
    | false =>
      cases hl : lessE e c with
      | true =>
        rw [cond_false, cond_true, noy' (i + 1) (ncj'.2 a2)]
        unfold hasF
        rw [show ((e :: t).getD (posF c t + 1) noE) = t.getD (posF c t) noE from rfl, List.length_cons, show Nat.blt (posF c t + 1) (t.length + 1) = Nat.blt (posF c t) t.length from rfl]
        rw [show i + 1 + posF c t = i + (posF c t + 1) by omega]
      | false =>
        rw [cond_false, cond_false, show ((e :: t).getD 0 noE) = e from rfl, he, Bool.and_false, cond_false]
        refine nni' fun x hx => ?_
        cases hq : isC c.Floor c.Dir x with
        | false => rfl
        | true =>
          have h1 := njo' (nuv' he hl) (a1 x hx)
          rw [(nqo' hq).2] at h1; cases h1
theorem nuz' {c : Entry} : ∀ {l : List Entry}, (∀ x ∈ l, isC c.Floor c.Dir x = false) → insL c false l = l.take (posF c l) ++ [c] ++ l.drop (posF c l)
  | [], _ => rfl
  | e :: t, h => by
    simp only [insL, posF]
    cases hl : lessE e c with
    | true =>
      rw [nub' hl, cond_false, nuz' fun x hx => h x (List.mem_cons_of_mem _ hx)]
      simp
    | false =>
      rw [nuv' (h e (List.mem_cons_self ..)) hl, cond_true, nl5']
      simp
theorem n0h' {c : Entry} {l : List Entry} (hs : nbf' l) (h : hasF c l = false) : ∀ x ∈ l, isC c.Floor c.Dir x = false := by
  have h1 := noy' (c := c) 0 hs
  rw [h, cond_false] at h1
  rcases nko' c.Floor c.Dir l 0 with ⟨_, h2⟩ | ⟨k, _, h2, _⟩
  · exact h2
  · rw [h1] at h2; omega
end Go.Ovl
