/- Which images belong to a building (layer 10): the program and the reference say the same. -/
import Derived.Test.YthdomhdippmaiaaGreatOvSmall
namespace Go.Ovl
open Go Go.Ab
set_option maxRecDepth 100000
theorem nqm' (x y : Int) : decide (x < y) = !decide (y ≤ x) := by by_cases h : y ≤ x <;> simp [h] <;> omega
theorem n5z' (x y : Int) : decide (x ≤ y) = !decide (y < x) := by by_cases h : y < x <;> simp [h] <;> omega
def noE : Entry := Entry.mk 0 0 0 0 false
structure Img where
  Phases : List Int
  Flags : List Bool
  Leaving : List Bool
  Entries : List Entry
def Img.tup (m : Img) : List Int × List Bool × List Bool × List Entry × Unit := (m.Phases, m.Flags, m.Leaving, m.Entries, ())
def Img.none : Img := ⟨[], [], [], []⟩
def callB (fl floor dir : Int) : Bool := (dir == 1 && inR 0 (fl - 2) floor) || (dir == 2 && inR 1 (fl - 1) floor)
theorem np7' {fl : Int} (h : 0 ≤ fl ∧ fl < 100) (floor dir : Int) : ngc' fl floor dir = some ((callB fl floor dir, ()), ()) := by
  have w1 : IntKind.i64.wrap (fl - 1) = fl - 1 := nb' (by omega) (by omega)
  have w2 : IntKind.i64.wrap (fl - 2) = fl - 2 := nb' (by omega) (by omega)
  have k : ∀ lo hi : Int, nbc' lo hi [floor] = some ((inR lo hi floor, ()), ()) := fun lo hi => by
    rw [nb4' lo hi (show [floor].length ≤ maxLen from (show 1 ≤ maxLen by decide))]; simp
  unfold ngc' callB
  rw [w1, w2, k, k]
  cases dir == 1 <;> cases dir == 2 <;> cases inR 0 (fl - 2) floor <;> rfl
def nbj' (b : Bldg) (floor dir : Int) : Bool := b.code == 0 && callB b.Floors floor dir
theorem nib' {b : Bldg} (hb : b.small) (floor dir : Int) : nd1' b.Floors b.Debounce b.Room b.Park b.Empty b.Full b.Over b.Cars floor dir = some ((nbj' b floor dir, ()), ()) := by
  unfold nd1' nbj'
  rw [ncc', np7' ⟨by have := hb.lo; omega, by have := hb.hi; omega⟩]
  simp only [Option.bind_some]
  cases b.code == 0 <;> rfl
theorem npe' {b : Bldg} (hb : b.small) (floor dir : Int) : nid' b.Floors b.Debounce b.Room b.Park b.Empty b.Full b.Over b.Cars floor dir = some ((nbj' b floor dir, ()), ()) := by
  have lo := hb.lo
  have hi := hb.hi
  have w1 : IntKind.i64.wrap (b.Floors - 1) = b.Floors - 1 := nb' (by omega) (by omega)
  have w2 : IntKind.i64.wrap (b.Floors - 2) = b.Floors - 2 := nb' (by omega) (by omega)
  unfold nid' nbj' callB
  rw [ne4', w1, w2, nhp', nhp']
  simp only [Option.bind_some, bne]
  cases b.code == 0 <;> cases dir == 1 <;> cases dir == 2 <;> cases inR 0 (b.Floors - 2) floor <;> rfl
def entOK (b : Bldg) (e : Entry) : Bool := nbj' b e.Floor e.Dir && (decide (-2 ≤ e.Car) && (decide (e.Car < (b.Cars.length : Int)) && (decide (0 ≤ e.Moves) && decide (e.Moves ≤ 255))))
theorem nt7' {b : Bldg} (hb : b.small) (e : Entry) : njb' b.Floors b.Debounce b.Room b.Park b.Empty b.Full b.Over b.Cars e.Floor e.Dir e.Car e.Moves e.Moved = some ((entOK b e, ()), ()) := by
  unfold njb' entOK
  rw [nib' hb]
  simp only [Option.bind_some]
  cases nbj' b e.Floor e.Dir <;> cases decide (-2 ≤ e.Car) <;> cases decide (e.Car < (b.Cars.length : Int)) <;> cases decide (0 ≤ e.Moves) <;> rfl
def lessE (a b : Entry) : Bool := decide (a.Floor < b.Floor) || (a.Floor == b.Floor && decide (a.Dir < b.Dir))
theorem nra' (a b : Entry) : nka' a.Floor a.Dir a.Car a.Moves a.Moved b.Floor b.Dir b.Car b.Moves b.Moved = some ((lessE a b, ()), ()) := by
  unfold nka' lessE
  cases decide (a.Floor < b.Floor) <;> cases a.Floor == b.Floor <;> rfl
def cmpI (x y : Int) : Int := bif decide (x < y) then -1 else bif decide (y < x) then 1 else 0
theorem nis' (x y : Int) : nda' x y = some ((cmpI x y, ()), ()) := by
  unfold nda' nh1' cmpI
  simp only [Option.bind_some, bne_self_eq_false, cond_false]
  cases decide (x < y) <;> cases decide (y < x) <;> rfl
theorem nv2' (x y : Int) : nia' [x, y] = some (((bif x != 0 then x else y), ()), ()) := by
  have r : ∀ (l : List Int) (i : Nat), i < l.length → l.length < 100 → ngx' 0 l (l.length : Int) (i : Int) = some (bif l.getD i 0 != 0 then Sum.inr (Sum.inr ((l.getD i 0, ()), ())) else Sum.inl (((0 : Int), l, (l.length : Int), ((i + 1 : Nat) : Int), ()), ())) := fun l i hi hl => by
    have w : IntKind.i64.wrap ((i : Int) + 1) = ((i + 1 : Nat) : Int) := by rw [nb' (by omega) (by omega)]; omega
    unfold ngx'
    rw [decide_eq_true (show (i : Int) < (l.length : Int) by omega), nc' (show (0 : Int) ≤ (i : Int) by omega) (show (i : Int) < (l.length : Int) by omega), Int.toNat_natCast, w]
    simp only [cond_true]
    cases l.getD i 0 != 0 <;> rfl
  have r0 : ngx' 0 [x, y] 2 0 = some (bif x != 0 then Sum.inr (Sum.inr ((x, ()), ())) else Sum.inl (((0 : Int), [x, y], (2 : Int), (1 : Int), ()), ())) := r [x, y] 0 (by simp) (by simp)
  have r1 : ngx' 0 [x, y] 2 1 = some (bif y != 0 then Sum.inr (Sum.inr ((y, ()), ())) else Sum.inl (((0 : Int), [x, y], (2 : Int), (2 : Int), ()), ())) := r [x, y] 1 (by simp) (by simp)
  have h : nin' (((0 : Int), [x, y], (2 : Int), (0 : Int), ()), ()) = some (bif x != 0 then .inr ((x, ()), ()) else bif y != 0 then .inr ((y, ()), ()) else .inl (((0 : Int), ()), ())) := by
    refine nd' (f := 3) ?_ (by omega)
    cases hx : x != 0 with
    | true => rw [hx] at r0; exact n1' r0
    | false =>
      rw [hx] at r0
      refine (nbx' r0).trans ?_
      cases hy : y != 0 with
      | true => rw [hy] at r1; exact n1' r1
      | false => rw [hy] at r1; exact (nbx' r1).trans (n1' rfl)
  unfold nia'
  rw [show ((([x, y] : List Int).length : Nat) : Int) = 2 from rfl, h]
  cases hx : x != 0 with
  | true => rfl
  | false =>
    cases hy : y != 0 with
    | true => rfl
    | false =>
      have : y = 0 := by simpa using hy
      subst this; rfl
theorem nk0' (a b : Entry) : ∃ n : Int, nfm' a.Floor a.Dir a.Car a.Moves a.Moved b.Floor b.Dir b.Car b.Moves b.Moved = some ((n, ()), ()) ∧ decide (0 ≤ n) = !lessE a b ∧ (n = 0 ↔ a.Floor = b.Floor ∧ a.Dir = b.Dir) := by
  unfold nfm'
  rw [nis', nis']
  simp only [Option.bind_some]
  rw [nv2']
  refine ⟨_, rfl, ?_, ?_⟩
  · unfold lessE cmpI
    by_cases h1 : a.Floor < b.Floor
    · rw [decide_eq_true h1]; rfl
    · rw [decide_eq_false h1]
      by_cases h2 : b.Floor < a.Floor
      · rw [decide_eq_true h2, beq_f (show ¬ a.Floor = b.Floor by omega)]; rfl
      · rw [decide_eq_false h2, show (a.Floor == b.Floor) = true by simp; omega]
        by_cases h3 : a.Dir < b.Dir
        · rw [decide_eq_true h3]; rfl
        · rw [decide_eq_false h3]
          cases decide (b.Dir < a.Dir) <;> rfl
  · unfold cmpI
    by_cases h1 : a.Floor < b.Floor
    · rw [decide_eq_true h1]
      exact ⟨(fun h => by cases h), (fun h => by omega)⟩
    · rw [decide_eq_false h1]
      by_cases h2 : b.Floor < a.Floor
      · rw [decide_eq_true h2]
        exact ⟨(fun h => by cases h), (fun h => by omega)⟩
      · rw [decide_eq_false h2]
        by_cases h3 : a.Dir < b.Dir
        · rw [decide_eq_true h3]; exact ⟨(fun h => by cases h), (fun h => by omega)⟩
        · rw [decide_eq_false h3]
          by_cases h4 : b.Dir < a.Dir
          · rw [decide_eq_true h4]; exact ⟨(fun h => by cases h), (fun h => by omega)⟩
          · rw [decide_eq_false h4]; exact ⟨fun _ => ⟨by omega, by omega⟩, fun _ => rfl⟩
def entsF (b : Bldg) : Option Entry → List Entry → Bool
  | _, [] => true
  | p, e :: t => entOK b e && ((match p with | some q => lessE q e | none => true) && entsF b (some e) t)
def Img.ok (b : Bldg) (m : Img) : Bool :=
  b.code == 0 && ((m.Phases.length : Int) == (b.Cars.length : Int) && ((m.Flags.length : Int) == (b.Cars.length : Int) && ((m.Leaving.length : Int) == (b.Cars.length : Int) && (m.Phases.all (inR 0 4) && entsF b Option.none m.Entries))))
def prevE (l : List Entry) (i : Nat) : Option Entry := if i = 0 then none else some (l.getD (i - 1) noE)
theorem nsy' {b : Bldg} {l : List Entry} {i : Nat} (h : i < l.length) : entsF b (prevE l i) (l.drop i) = (entOK b (l.getD i noE) && ((match prevE l i with | some q => lessE q (l.getD i noE) | none => true) && entsF b (prevE l (i + 1)) (l.drop (i + 1)))) := by
  rw [ndd' noE h]
  simp only [entsF, prevE, Nat.succ_ne_zero, if_false, Nat.add_sub_cancel]
section
variable {b : Bldg} (hb : b.small) (m : Img)
include hb
theorem nwd' (hm : m.Entries.length ≤ maxLen) : nh7' (((), (), m.Entries, (m.Entries.length : Int), (0 : Int), ()), (b.tup, m.tup, ())) = some (if entsF b none m.Entries then .inl ((), ()) else .inr ((false, ()), ())) := by
  have hmx : maxLen ≤ 9223372036854775807 := by decide
  have key : ∀ (k i : Nat), i + k = m.Entries.length → iter (fun x => ndq' x.1.2.2.1 x.1.2.2.2.1 x.1.2.2.2.2.1 x.2.1.1 x.2.1.2.1 x.2.1.2.2.1 x.2.1.2.2.2.1 x.2.1.2.2.2.2.1 x.2.1.2.2.2.2.2.1 x.2.1.2.2.2.2.2.2.1 x.2.1.2.2.2.2.2.2.2.1 x.2.2.1.1 x.2.2.1.2.1 x.2.2.1.2.2.1 x.2.2.1.2.2.2.1) (k + 1) (((), (), m.Entries, (m.Entries.length : Int), (i : Int), ()), (b.tup, m.tup, ())) = some (if entsF b (prevE m.Entries i) (m.Entries.drop i) then .inl ((), ()) else .inr ((false, ()), ())) := by
    intro k
    induction k with
    | zero =>
      intro i hi
      refine n1' ?_
      show ndq' m.Entries (m.Entries.length : Int) (i : Int) b.Floors b.Debounce b.Room b.Park b.Empty b.Full b.Over b.Cars m.Phases m.Flags m.Leaving m.Entries = _
      unfold ndq'
      have e : decide ((i : Int) < (m.Entries.length : Int)) = false := by simp; omega
      rw [e, show i = m.Entries.length by omega, List.drop_length]; rfl
    | succ k ih =>
      intro i hi
      have hi' : i < m.Entries.length := by omega
      have e : decide ((i : Int) < (m.Entries.length : Int)) = true := by simp; omega
      have ib : inB (i : Int) m.Entries.length = true := nc' (by omega) (by omega)
      have w : IntKind.i64.wrap ((i : Int) + 1) = ((i + 1 : Nat) : Int) := by rw [nb' (by omega) (by omega)]; omega
      have go : ∀ p : Bool, (ndq' m.Entries (m.Entries.length : Int) (i : Int) b.Floors b.Debounce b.Room b.Park b.Empty b.Full b.Over b.Cars m.Phases m.Flags m.Leaving m.Entries = some (bif p then .inr (.inr ((false, ()), ())) else .inl (((), (), m.Entries, (m.Entries.length : Int), ((i + 1 : Nat) : Int), ()), (b.tup, m.tup, ())))) → (entsF b (prevE m.Entries i) (m.Entries.drop i) = (!p && entsF b (prevE m.Entries (i + 1)) (m.Entries.drop (i + 1)))) → iter (fun x => ndq' x.1.2.2.1 x.1.2.2.2.1 x.1.2.2.2.2.1 x.2.1.1 x.2.1.2.1 x.2.1.2.2.1 x.2.1.2.2.2.1 x.2.1.2.2.2.2.1 x.2.1.2.2.2.2.2.1 x.2.1.2.2.2.2.2.2.1 x.2.1.2.2.2.2.2.2.2.1 x.2.2.1.1 x.2.2.1.2.1 x.2.2.1.2.2.1 x.2.2.1.2.2.2.1) (k + 1 + 1) (((), (), m.Entries, (m.Entries.length : Int), (i : Int), ()), (b.tup, m.tup, ())) = some (if entsF b (prevE m.Entries i) (m.Entries.drop i) then .inl ((), ()) else .inr ((false, ()), ())) := fun p h1 h2 => by
        rw [h2]
        cases p with
        | true => exact n1' h1
        | false => rw [Bool.not_false, Bool.true_and]; exact (nbx' h1).trans (ih (i + 1) (by omega))
      have hstep := nsy' (b := b) hi'
      have he := nt7' hb (m.Entries.getD i noE)
      unfold noE at he
      refine go (!(entOK b (m.Entries.getD i noE) && (match prevE m.Entries i with | some q => lessE q (m.Entries.getD i noE) | none => true))) ?_ (by rw [hstep, Bool.not_not, Bool.and_assoc])
      unfold ndq'
      rw [e, ib]
      simp only [cond_true, Int.toNat_natCast, he, Option.bind_some]
      cases hk : entOK b (m.Entries.getD i noE) with
      | false =>
        unfold noE at hk
        rw [hk]; rfl
      | true =>
        unfold noE at hk
        rw [hk]
        simp only [Bool.not_true, cond_false, Bool.true_and]
        by_cases g : (0 : Int) < (i : Int)
        · have w1 : IntKind.i64.wrap ((i : Int) - 1) = ((i - 1 : Nat) : Int) := by rw [nb' (by omega) (by omega)]; omega
          have ib1 : inB ((i - 1 : Nat) : Int) m.Entries.length = true := nc' (by omega) (by omega)
          rw [decide_eq_true g, w1, ib1]
          obtain ⟨n, c1, c2, _⟩ := nk0' (m.Entries.getD (i - 1) noE) (m.Entries.getD i noE)
          unfold noE at c1
          simp only [cond_true, Int.toNat_natCast, c1, Option.bind_some, w, c2]
          rw [show prevE m.Entries i = some (m.Entries.getD (i - 1) noE) from if_neg (by omega)]
          simp only
          cases lessE (m.Entries.getD (i - 1) noE) (m.Entries.getD i noE) <;> rfl
        · have : i = 0 := by omega
          subst this
          rw [decide_eq_false g]
          simp only [cond_false, Option.bind_some, w]
          rfl
  have h := nd' (key m.Entries.length 0 (by omega)) (by omega)
  exact h
theorem nv9' (n : Int) (hn : n = (b.Cars.length : Int)) (hm : m.Entries.length ≤ maxLen) : nhy' (((), (), n, (0 : Int), ()), (b.tup, m.tup, ())) = some (if entsF b none m.Entries then .inl ((), ()) else .inr ((false, ()), ())) := by
  have hmx : maxLen ≤ 9223372036854775807 := by decide
  have key : ∀ (k i : Nat), i + k = m.Entries.length → iter (fun x => ndt' x.1.2.2.1 x.1.2.2.2.1 x.2.1.1 x.2.1.2.1 x.2.1.2.2.1 x.2.1.2.2.2.1 x.2.1.2.2.2.2.1 x.2.1.2.2.2.2.2.1 x.2.1.2.2.2.2.2.2.1 x.2.1.2.2.2.2.2.2.2.1 x.2.2.1.1 x.2.2.1.2.1 x.2.2.1.2.2.1 x.2.2.1.2.2.2.1) (k + 1) (((), (), n, (i : Int), ()), (b.tup, m.tup, ())) = some (if entsF b (prevE m.Entries i) (m.Entries.drop i) then .inl ((), ()) else .inr ((false, ()), ())) := by
    intro k
    induction k with
    | zero =>
      intro i hi
      refine n1' ?_
      show ndt' n (i : Int) b.Floors b.Debounce b.Room b.Park b.Empty b.Full b.Over b.Cars m.Phases m.Flags m.Leaving m.Entries = _
      unfold ndt'
      have e : decide ((i : Int) < (m.Entries.length : Int)) = false := by simp; omega
      rw [e, show i = m.Entries.length by omega, List.drop_length]; rfl
    | succ k ih =>
      intro i hi
      have hi' : i < m.Entries.length := by omega
      have e : decide ((i : Int) < (m.Entries.length : Int)) = true := by simp; omega
      have ib : inB (i : Int) m.Entries.length = true := nc' (by omega) (by omega)
      have w : IntKind.i64.wrap ((i : Int) + 1) = ((i + 1 : Nat) : Int) := by rw [nb' (by omega) (by omega)]; omega
      have go : ∀ p : Bool, (ndt' n (i : Int) b.Floors b.Debounce b.Room b.Park b.Empty b.Full b.Over b.Cars m.Phases m.Flags m.Leaving m.Entries = some (bif p then .inr (.inr ((false, ()), ())) else .inl (((), (), n, ((i + 1 : Nat) : Int), ()), (b.tup, m.tup, ())))) → (entsF b (prevE m.Entries i) (m.Entries.drop i) = (!p && entsF b (prevE m.Entries (i + 1)) (m.Entries.drop (i + 1)))) → iter (fun x => ndt' x.1.2.2.1 x.1.2.2.2.1 x.2.1.1 x.2.1.2.1 x.2.1.2.2.1 x.2.1.2.2.2.1 x.2.1.2.2.2.2.1 x.2.1.2.2.2.2.2.1 x.2.1.2.2.2.2.2.2.1 x.2.1.2.2.2.2.2.2.2.1 x.2.2.1.1 x.2.2.1.2.1 x.2.2.1.2.2.1 x.2.2.1.2.2.2.1) (k + 1 + 1) (((), (), n, (i : Int), ()), (b.tup, m.tup, ())) = some (if entsF b (prevE m.Entries i) (m.Entries.drop i) then .inl ((), ()) else .inr ((false, ()), ())) := fun p h1 h2 => by
        rw [h2]
        cases p with
        | true => exact n1' h1
        | false => rw [Bool.not_false, Bool.true_and]; exact (nbx' h1).trans (ih (i + 1) (by omega))
      have hstep := nsy' (b := b) hi'
      have hc := npe' hb (m.Entries.getD i noE).Floor (m.Entries.getD i noE).Dir
      refine go (!(entOK b (m.Entries.getD i noE) && (match prevE m.Entries i with | some q => lessE q (m.Entries.getD i noE) | none => true))) ?_ (by rw [hstep, Bool.not_not, Bool.and_assoc])
      unfold ndt'
      rw [e, ib, show (Entry.mk 0 0 0 0 false) = noE from rfl]
      simp only [cond_true, Int.toNat_natCast, hc, Option.bind_some]
      unfold entOK
      have q1 : decide ((m.Entries.getD i noE).Car < -2) = !decide (-2 ≤ (m.Entries.getD i noE).Car) := nqm' _ _
      have q2 : decide (n ≤ (m.Entries.getD i noE).Car) = !decide ((m.Entries.getD i noE).Car < (b.Cars.length : Int)) := by rw [hn]; exact n5z' _ _
      have q3 : decide ((m.Entries.getD i noE).Moves < 0) = !decide (0 ≤ (m.Entries.getD i noE).Moves) := nqm' _ _
      have q4 : decide (255 < (m.Entries.getD i noE).Moves) = !decide ((m.Entries.getD i noE).Moves ≤ 255) := nqm' _ _
      rw [q1, q2, q3, q4]
      cases nbj' b (m.Entries.getD i noE).Floor (m.Entries.getD i noE).Dir with
      | false => rfl
      | true =>
        cases decide (-2 ≤ (m.Entries.getD i noE).Car) with
        | false => rfl
        | true =>
          cases decide ((m.Entries.getD i noE).Car < (b.Cars.length : Int)) with
          | false => rfl
          | true =>
            cases decide (0 ≤ (m.Entries.getD i noE).Moves) with
            | false => rfl
            | true =>
              cases decide ((m.Entries.getD i noE).Moves ≤ 255) with
              | false => rfl
              | true =>
                simp only [Bool.not_true, cond_false, Bool.and_self, Bool.true_and]
                by_cases g : (0 : Int) < (i : Int)
                · have w1 : IntKind.i64.wrap ((i : Int) - 1) = ((i - 1 : Nat) : Int) := by rw [nb' (by omega) (by omega)]; omega
                  have ib1 : inB ((i - 1 : Nat) : Int) m.Entries.length = true := nc' (by omega) (by omega)
                  have hl := nra' (m.Entries.getD (i - 1) noE) (m.Entries.getD i noE)
                  rw [decide_eq_true g, w1, ib1]
                  simp only [cond_true, Int.toNat_natCast, hl, Option.bind_some, w]
                  rw [show prevE m.Entries i = some (m.Entries.getD (i - 1) noE) from if_neg (by omega)]
                  simp only
                  cases lessE (m.Entries.getD (i - 1) noE) (m.Entries.getD i noE) <;> rfl
                · have : i = 0 := by omega
                  subst this
                  rw [decide_eq_false g]
                  simp only [cond_false, Option.bind_some, w]
                  rfl
  have h := nd' (key m.Entries.length 0 (by omega)) (by omega)
  exact h
omit hb in
theorem nwj' (hm : m.Phases.length ≤ maxLen) : nh5' (((), (), m.Phases, (m.Phases.length : Int), (0 : Int), ()), (b.tup, m.tup, ())) = some (if m.Phases.all (inR 0 4) then .inl (((), (), ()), (b.tup, m.tup, ())) else .inr ((false, ()), ())) := by
  have hmx : maxLen ≤ 9223372036854775807 := by decide
  have key : ∀ (k i : Nat), i + k = m.Phases.length → iter (fun x => nes' x.1.2.2.1 x.1.2.2.2.1 x.1.2.2.2.2.1 x.2.1.1 x.2.1.2.1 x.2.1.2.2.1 x.2.1.2.2.2.1 x.2.1.2.2.2.2.1 x.2.1.2.2.2.2.2.1 x.2.1.2.2.2.2.2.2.1 x.2.1.2.2.2.2.2.2.2.1 x.2.2.1.1 x.2.2.1.2.1 x.2.2.1.2.2.1 x.2.2.1.2.2.2.1) (k + 1) (((), (), m.Phases, (m.Phases.length : Int), (i : Int), ()), (b.tup, m.tup, ())) = some (if (m.Phases.drop i).all (inR 0 4) then .inl (((), (), ()), (b.tup, m.tup, ())) else .inr ((false, ()), ())) := by
    intro k
    induction k with
    | zero =>
      intro i hi
      refine n1' ?_
      show nes' m.Phases (m.Phases.length : Int) (i : Int) b.Floors b.Debounce b.Room b.Park b.Empty b.Full b.Over b.Cars m.Phases m.Flags m.Leaving m.Entries = _
      unfold nes'
      have e : decide ((i : Int) < (m.Phases.length : Int)) = false := by simp; omega
      rw [e, show i = m.Phases.length by omega, List.drop_length]; rfl
    | succ k ih =>
      intro i hi
      have hi' : i < m.Phases.length := by omega
      have e : decide ((i : Int) < (m.Phases.length : Int)) = true := by simp; omega
      have ib : inB (i : Int) m.Phases.length = true := nc' (by omega) (by omega)
      have w : IntKind.i64.wrap ((i : Int) + 1) = ((i + 1 : Nat) : Int) := by rw [nb' (by omega) (by omega)]; omega
      rw [ndd' (0 : Int) hi', List.all_cons]
      have hs : nes' m.Phases (m.Phases.length : Int) (i : Int) b.Floors b.Debounce b.Room b.Park b.Empty b.Full b.Over b.Cars m.Phases m.Flags m.Leaving m.Entries = some (bif inR 0 4 (m.Phases.getD i 0) then .inl (((), (), m.Phases, (m.Phases.length : Int), ((i + 1 : Nat) : Int), ()), (b.tup, m.tup, ())) else .inr (.inr ((false, ()), ()))) := by
        unfold nes'
        rw [e, ib, w]
        simp only [cond_true, Int.toNat_natCast]
        unfold inR
        by_cases g1 : m.Phases.getD i 0 < 0
        · rw [decide_eq_true g1, decide_eq_false (show ¬ 0 ≤ m.Phases.getD i 0 by omega)]; rfl
        · rw [decide_eq_false g1, decide_eq_true (show 0 ≤ m.Phases.getD i 0 by omega)]
          by_cases g2 : 4 < m.Phases.getD i 0
          · rw [decide_eq_true g2, decide_eq_false (show ¬ m.Phases.getD i 0 ≤ 4 by omega)]; rfl
          · rw [decide_eq_false g2, decide_eq_true (show m.Phases.getD i 0 ≤ 4 by omega)]; rfl
      cases hq : inR 0 4 (m.Phases.getD i 0) with
      | true => rw [hq] at hs; exact (nbx' hs).trans (ih (i + 1) (by omega))
      | false => rw [hq] at hs; exact n1' hs
  have h := nd' (key m.Phases.length 0 (by omega)) (by omega)
  exact h
omit hb in
theorem nwf' (n : Int) (hn : n = (m.Phases.length : Int)) (hm : m.Phases.length ≤ maxLen) : nh4' (((), (), n, (0 : Int), ()), (b.tup, m.tup, ())) = some (if m.Phases.all (inR 0 4) then .inl (((), (), n, ()), (b.tup, m.tup, ())) else .inr ((false, ()), ())) := by
  have hmx : maxLen ≤ 9223372036854775807 := by decide
  subst hn
  have key : ∀ (k i : Nat), i + k = m.Phases.length → iter (fun x => neq' x.1.2.2.1 x.1.2.2.2.1 x.2.1.1 x.2.1.2.1 x.2.1.2.2.1 x.2.1.2.2.2.1 x.2.1.2.2.2.2.1 x.2.1.2.2.2.2.2.1 x.2.1.2.2.2.2.2.2.1 x.2.1.2.2.2.2.2.2.2.1 x.2.2.1.1 x.2.2.1.2.1 x.2.2.1.2.2.1 x.2.2.1.2.2.2.1) (k + 1) (((), (), (m.Phases.length : Int), (i : Int), ()), (b.tup, m.tup, ())) = some (if (m.Phases.drop i).all (inR 0 4) then .inl (((), (), (m.Phases.length : Int), ()), (b.tup, m.tup, ())) else .inr ((false, ()), ())) := by
    intro k
    induction k with
    | zero =>
      intro i hi
      refine n1' ?_
      show neq' (m.Phases.length : Int) (i : Int) b.Floors b.Debounce b.Room b.Park b.Empty b.Full b.Over b.Cars m.Phases m.Flags m.Leaving m.Entries = _
      unfold neq'
      have e : decide ((i : Int) < (m.Phases.length : Int)) = false := by simp; omega
      rw [e, show i = m.Phases.length by omega, List.drop_length]; rfl
    | succ k ih =>
      intro i hi
      have hi' : i < m.Phases.length := by omega
      have e : decide ((i : Int) < (m.Phases.length : Int)) = true := by simp; omega
      have ib : inB (i : Int) m.Phases.length = true := nc' (by omega) (by omega)
      have w : IntKind.i64.wrap ((i : Int) + 1) = ((i + 1 : Nat) : Int) := by rw [nb' (by omega) (by omega)]; omega
      rw [ndd' (0 : Int) hi', List.all_cons]
      have hs : neq' (m.Phases.length : Int) (i : Int) b.Floors b.Debounce b.Room b.Park b.Empty b.Full b.Over b.Cars m.Phases m.Flags m.Leaving m.Entries = some (bif inR 0 4 (m.Phases.getD i 0) then .inl (((), (), (m.Phases.length : Int), ((i + 1 : Nat) : Int), ()), (b.tup, m.tup, ())) else .inr (.inr ((false, ()), ()))) := by
        unfold neq'
        rw [e, ib, w]
        simp only [cond_true, Int.toNat_natCast]
        unfold inR
        by_cases g1 : m.Phases.getD i 0 < 0
        · rw [decide_eq_true g1, decide_eq_false (show ¬ 0 ≤ m.Phases.getD i 0 by omega)]; rfl
        · rw [decide_eq_false g1, decide_eq_true (show 0 ≤ m.Phases.getD i 0 by omega)]
          by_cases g2 : 4 < m.Phases.getD i 0
          · rw [decide_eq_true g2, decide_eq_false (show ¬ m.Phases.getD i 0 ≤ 4 by omega)]; rfl
          · rw [decide_eq_false g2, decide_eq_true (show m.Phases.getD i 0 ≤ 4 by omega)]; rfl
      cases hq : inR 0 4 (m.Phases.getD i 0) with
      | true => rw [hq] at hs; exact (nbx' hs).trans (ih (i + 1) (by omega))
      | false => rw [hq] at hs; exact n1' hs
  have h := nd' (key m.Phases.length 0 (by omega)) (by omega)
  exact h
theorem nla' (hp : m.Phases.length ≤ maxLen) (he : m.Entries.length ≤ maxLen) : nfs' b.Floors b.Debounce b.Room b.Park b.Empty b.Full b.Over b.Cars m.Phases m.Flags m.Leaving m.Entries = some ((m.ok b, ()), ()) := by
  unfold nfs' Img.ok
  rw [ncc']
  simp only [Option.bind_some, bne]
  cases b.code == 0 with
  | false => rfl
  | true =>
    cases (m.Phases.length : Int) == (b.Cars.length : Int) with
    | false => rfl
    | true =>
      cases (m.Flags.length : Int) == (b.Cars.length : Int) with
      | false => rfl
      | true =>
        cases (m.Leaving.length : Int) == (b.Cars.length : Int) with
        | false => rfl
        | true =>
          have h0 := nwj' (b := b) m hp
          have h1 := nwd' hb m he
          unfold Bldg.tup Img.tup at h0 h1
          simp only [Bool.not_true, cond_false, h0, Option.bind_some, Bool.true_and]
          cases m.Phases.all (inR 0 4) with
          | false => rfl
          | true =>
            simp only [if_true, h1, Option.bind_some, Bool.true_and]
            cases entsF b none m.Entries <;> rfl
theorem nii' (hp : m.Phases.length ≤ maxLen) (he : m.Entries.length ≤ maxLen) : neu' b.Floors b.Debounce b.Room b.Park b.Empty b.Full b.Over b.Cars m.Phases m.Flags m.Leaving m.Entries = some ((m.ok b, ()), ()) := by
  unfold neu' Img.ok
  rw [ne4']
  simp only [Option.bind_some, bne]
  cases b.code == 0 with
  | false => rfl
  | true =>
    cases hq : (m.Phases.length : Int) == (b.Cars.length : Int) with
    | false => rfl
    | true =>
      cases (m.Flags.length : Int) == (b.Cars.length : Int) with
      | false => rfl
      | true =>
        cases (m.Leaving.length : Int) == (b.Cars.length : Int) with
        | false => rfl
        | true =>
          have hq' : (m.Phases.length : Int) = (b.Cars.length : Int) := by simpa using hq
          have h0 := nwf' (b := b) m (b.Cars.length : Int) hq'.symm hp
          have h1 := nv9' hb m (b.Cars.length : Int) rfl he
          unfold Bldg.tup Img.tup at h0 h1
          simp only [Bool.not_true, cond_false, h0, Option.bind_some, Bool.true_and]
          cases m.Phases.all (inR 0 4) with
          | false => rfl
          | true =>
            simp only [if_true, h1, Option.bind_some, Bool.true_and]
            cases entsF b none m.Entries <;> rfl
end
end Go.Ovl
