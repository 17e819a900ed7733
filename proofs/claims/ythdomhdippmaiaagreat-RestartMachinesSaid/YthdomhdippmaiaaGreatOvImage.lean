/- Which images belong to a building (layer 10): the program and the reference say the same. -/
import Derived.Test.YthdomhdippmaiaaGreatOvSmall
namespace Go.Ovl
open Go Go.Ab
set_option maxRecDepth 100000
theorem ns9' (x y : Int) : decide (x < y) = !decide (y ≤ x) := by by_cases h : y ≤ x <;> simp [h] <;> omega
theorem n5z' (x y : Int) : decide (x ≤ y) = !decide (y < x) := by by_cases h : y < x <;> simp [h] <;> omega
def noE : Entry := Entry.mk 0 0 0 0 false
structure Img where
  Phases : List Int
  Flags : List Bool
  Leaving : List Bool
  Entries : List Entry
def Img.tup (m : Img) : List Int × List Bool × List Bool × List Entry × Unit := (m.Phases, m.Flags, m.Leaving, m.Entries, ())
def Img.none : Img := ⟨[], [], [], []⟩
def callB (fl floor dir : Int) : Bool := (dir == 1 && inR 0 (fl - 2) floor) || (dir == 2 && inR 1 (fl - 1) floor)
theorem np2' {fl : Int} (h : 0 ≤ fl ∧ fl < 100) (floor dir : Int) : nf7' fl floor dir = some ((callB fl floor dir, ()), ()) := by
  have w1 : IntKind.i64.wrap (fl - 1) = fl - 1 := nb' (by omega) (by omega)
  have w2 : IntKind.i64.wrap (fl - 2) = fl - 2 := nb' (by omega) (by omega)
  have k : ∀ lo hi : Int, nbg' lo hi [floor] = some ((inR lo hi floor, ()), ()) := fun lo hi => by
    rw [nb3' lo hi (show [floor].length ≤ maxLen from (show 1 ≤ maxLen by decide))]; simp
  unfold nf7' callB
  rw [w1, w2, k, k]
  cases dir == 1 <;> cases dir == 2 <;> cases inR 0 (fl - 2) floor <;> rfl
def nbf' (b : Bldg) (floor dir : Int) : Bool := b.code == 0 && callB b.Floors floor dir
theorem nh9' {b : Bldg} (hb : b.small) (floor dir : Int) : ndz' b.Floors b.Debounce b.Room b.Park b.Empty b.Full b.Over b.Cars floor dir = some ((nbf' b floor dir, ()), ()) := by
  unfold ndz' nbf'
  rw [ncm', np2' ⟨by have := hb.lo; omega, by have := hb.hi; omega⟩]
  simp only [Option.bind_some]
  cases b.code == 0 <;> rfl
theorem nlp' {b : Bldg} (hb : b.small) (floor dir : Int) : nge' b.Floors b.Debounce b.Room b.Park b.Empty b.Full b.Over b.Cars floor dir = some ((nbf' b floor dir, ()), ()) := by
  have lo := hb.lo
  have hi := hb.hi
  have w1 : IntKind.i64.wrap (b.Floors - 1) = b.Floors - 1 := nb' (by omega) (by omega)
  have w2 : IntKind.i64.wrap (b.Floors - 2) = b.Floors - 2 := nb' (by omega) (by omega)
  unfold nge' nbf' callB
  rw [nd3', w1, w2, nhn', nhn']
  simp only [Option.bind_some, bne]
  cases b.code == 0 <;> cases dir == 1 <;> cases dir == 2 <;> cases inR 0 (b.Floors - 2) floor <;> rfl
def entOK (b : Bldg) (e : Entry) : Bool := nbf' b e.Floor e.Dir && (decide (-2 ≤ e.Car) && (decide (e.Car < (b.Cars.length : Int)) && (decide (0 ≤ e.Moves) && decide (e.Moves ≤ 255))))
theorem nth' {b : Bldg} (hb : b.small) (e : Entry) : njg' b.Floors b.Debounce b.Room b.Park b.Empty b.Full b.Over b.Cars e.Floor e.Dir e.Car e.Moves e.Moved = some ((entOK b e, ()), ()) := by
  unfold njg' entOK
  rw [nh9' hb]
  simp only [Option.bind_some]
  cases nbf' b e.Floor e.Dir <;> cases decide (-2 ≤ e.Car) <;> cases decide (e.Car < (b.Cars.length : Int)) <;> cases decide (0 ≤ e.Moves) <;> rfl
def lessE (a b : Entry) : Bool := decide (a.Floor < b.Floor) || (a.Floor == b.Floor && decide (a.Dir < b.Dir))
theorem nq5' (a b : Entry) : nj8' a.Floor a.Dir a.Car a.Moves a.Moved b.Floor b.Dir b.Car b.Moves b.Moved = some ((lessE a b, ()), ()) := by
  unfold nj8' lessE
  cases decide (a.Floor < b.Floor) <;> cases a.Floor == b.Floor <;> rfl
def cmpI (x y : Int) : Int := bif decide (x < y) then -1 else bif decide (y < x) then 1 else 0
theorem niq' (x y : Int) : nc5' x y = some ((cmpI x y, ()), ()) := by
  unfold nc5' nhv' cmpI
  simp only [Option.bind_some, bne_self_eq_false, cond_false]
  cases decide (x < y) <;> cases decide (y < x) <;> rfl
theorem nvs' (x y : Int) : nie' [x, y] = some (((bif x != 0 then x else y), ()), ()) := by
  have r : ∀ (l : List Int) (i : Nat), i < l.length → l.length < 100 → ngc' 0 l (l.length : Int) (i : Int) = some (bif l.getD i 0 != 0 then Sum.inr (Sum.inr ((l.getD i 0, ()), ())) else Sum.inl (((0 : Int), l, (l.length : Int), ((i + 1 : Nat) : Int), ()), ())) := fun l i hi hl => by
    have w : IntKind.i64.wrap ((i : Int) + 1) = ((i + 1 : Nat) : Int) := by rw [nb' (by omega) (by omega)]; omega
    unfold ngc'
    rw [decide_eq_true (show (i : Int) < (l.length : Int) by omega), nc' (show (0 : Int) ≤ (i : Int) by omega) (show (i : Int) < (l.length : Int) by omega), Int.toNat_natCast, w]
    simp only [cond_true]
    cases l.getD i 0 != 0 <;> rfl
  have r0 : ngc' 0 [x, y] 2 0 = some (bif x != 0 then Sum.inr (Sum.inr ((x, ()), ())) else Sum.inl (((0 : Int), [x, y], (2 : Int), (1 : Int), ()), ())) := r [x, y] 0 (by simp) (by simp)
  have r1 : ngc' 0 [x, y] 2 1 = some (bif y != 0 then Sum.inr (Sum.inr ((y, ()), ())) else Sum.inl (((0 : Int), [x, y], (2 : Int), (2 : Int), ()), ())) := r [x, y] 1 (by simp) (by simp)
  have h : nih' (((0 : Int), [x, y], (2 : Int), (0 : Int), ()), ()) = some (bif x != 0 then .inr ((x, ()), ()) else bif y != 0 then .inr ((y, ()), ()) else .inl (((0 : Int), ()), ())) := by
    refine nf' (f := 3) ?_ (by omega)
    cases hx : x != 0 with
    | true => rw [hx] at r0; exact n6' r0
    | false =>
      rw [hx] at r0
      refine (nb4' r0).trans ?_
      cases hy : y != 0 with
      | true => rw [hy] at r1; exact n6' r1
      | false => rw [hy] at r1; exact (nb4' r1).trans (n6' rfl)
  unfold nie'
  rw [show ((([x, y] : List Int).length : Nat) : Int) = 2 from rfl, h]
  cases hx : x != 0 with
  | true => rfl
  | false =>
    cases hy : y != 0 with
    | true => rfl
    | false =>
      have : y = 0 := by simpa using hy
      subst this; rfl
theorem nku' (a b : Entry) : ∃ n : Int, nfk' a.Floor a.Dir a.Car a.Moves a.Moved b.Floor b.Dir b.Car b.Moves b.Moved = some ((n, ()), ()) ∧ decide (0 ≤ n) = !lessE a b ∧ (n = 0 ↔ a.Floor = b.Floor ∧ a.Dir = b.Dir) := by
  unfold nfk'
  rw [niq', niq']
  simp only [Option.bind_some]
  rw [nvs']
  refine ⟨_, rfl, ?_, ?_⟩
  · unfold lessE cmpI
    by_cases h1 : a.Floor < b.Floor
    · rw [decide_eq_true h1]; rfl
    · rw [decide_eq_false h1]
      by_cases h2 : b.Floor < a.Floor
      · rw [decide_eq_true h2, beq_f (show ¬ a.Floor = b.Floor by omega)]; rfl
      · rw [decide_eq_false h2, show (a.Floor == b.Floor) = true by simp; omega]
        by_cases h3 : a.Dir < b.Dir
        · rw [decide_eq_true h3]; rfl
        · rw [decide_eq_false h3]
          cases decide (b.Dir < a.Dir) <;> rfl
  · unfold cmpI
    by_cases h1 : a.Floor < b.Floor
    · rw [decide_eq_true h1]
      exact ⟨(fun h => by cases h), (fun h => by omega)⟩
    · rw [decide_eq_false h1]
      by_cases h2 : b.Floor < a.Floor
      · rw [decide_eq_true h2]
        exact ⟨(fun h => by cases h), (fun h => by omega)⟩
      · rw [decide_eq_false h2]
        by_cases h3 : a.Dir < b.Dir
        · rw [decide_eq_true h3]; exact ⟨(fun h => by cases h), (fun h => by omega)⟩
        · rw [decide_eq_false h3]
          by_cases h4 : b.Dir < a.Dir
          · rw [decide_eq_true h4]; exact ⟨(fun h => by cases h), (fun h => by omega)⟩
          · rw [decide_eq_false h4]; exact ⟨fun _ => ⟨by omega, by omega⟩, fun _ => rfl⟩
def entsF (b : Bldg) : Option Entry → List Entry → Bool
  | _, [] => true
  | p, e :: t => entOK b e && ((match p with | some q => lessE q e | none => true) && entsF b (some e) t)
def Img.ok (b : Bldg) (m : Img) : Bool :=
  b.code == 0 && ((m.Phases.length : Int) == (b.Cars.length : Int) && ((m.Flags.length : Int) == (b.Cars.length : Int) && ((m.Leaving.length : Int) == (b.Cars.length : Int) && (m.Phases.all (inR 0 4) && entsF b Option.none m.Entries))))
def prevE (l : List Entry) (i : Nat) : Option Entry := if i = 0 then none else some (l.getD (i - 1) noE)
theorem nsh' {b : Bldg} {l : List Entry} {i : Nat} (h : i < l.length) : entsF b (prevE l i) (l.drop i) = (entOK b (l.getD i noE) && ((match prevE l i with | some q => lessE q (l.getD i noE) | none => true) && entsF b (prevE l (i + 1)) (l.drop (i + 1)))) := by
  rw [nc1' noE h]
  simp only [entsF, prevE, Nat.succ_ne_zero, if_false, Nat.add_sub_cancel]
section
variable {b : Bldg} (hb : b.small) (m : Img)
include hb
theorem nv2' (hm : m.Entries.length ≤ maxLen) : nh5' (((), (), m.Entries, (m.Entries.length : Int), (0 : Int), ()), (b.tup, m.tup, ())) = some (if entsF b none m.Entries then .inl ((), ()) else .inr ((false, ()), ())) := by
  have hmx : maxLen ≤ 9223372036854775807 := by decide
  have key : ∀ (k i : Nat), i + k = m.Entries.length → iter (fun x => ndt' x.1.2.2.1 x.1.2.2.2.1 x.1.2.2.2.2.1 x.2.1.1 x.2.1.2.1 x.2.1.2.2.1 x.2.1.2.2.2.1 x.2.1.2.2.2.2.1 x.2.1.2.2.2.2.2.1 x.2.1.2.2.2.2.2.2.1 x.2.1.2.2.2.2.2.2.2.1 x.2.2.1.1 x.2.2.1.2.1 x.2.2.1.2.2.1 x.2.2.1.2.2.2.1) (k + 1) (((), (), m.Entries, (m.Entries.length : Int), (i : Int), ()), (b.tup, m.tup, ())) = some (if entsF b (prevE m.Entries i) (m.Entries.drop i) then .inl ((), ()) else .inr ((false, ()), ())) := by
    intro k
    induction k with
    | zero =>
      intro i hi
      refine n6' ?_
      show ndt' m.Entries (m.Entries.length : Int) (i : Int) b.Floors b.Debounce b.Room b.Park b.Empty b.Full b.Over b.Cars m.Phases m.Flags m.Leaving m.Entries = _
      unfold ndt'
      have e : decide ((i : Int) < (m.Entries.length : Int)) = false := by simp; omega
      rw [e, show i = m.Entries.length by omega, List.drop_length]; rfl
    | succ k ih =>
      intro i hi
      have hi' : i < m.Entries.length := by omega
      have e : decide ((i : Int) < (m.Entries.length : Int)) = true := by simp; omega
      have ib : inB (i : Int) m.Entries.length = true := nc' (by omega) (by omega)
      have w : IntKind.i64.wrap ((i : Int) + 1) = ((i + 1 : Nat) : Int) := by rw [nb' (by omega) (by omega)]; omega
      have go : ∀ p : Bool, (ndt' m.Entries (m.Entries.length : Int) (i : Int) b.Floors b.Debounce b.Room b.Park b.Empty b.Full b.Over b.Cars m.Phases m.Flags m.Leaving m.Entries = some (bif p then .inr (.inr ((false, ()), ())) else .inl (((), (), m.Entries, (m.Entries.length : Int), ((i + 1 : Nat) : Int), ()), (b.tup, m.tup, ())))) → (entsF b (prevE m.Entries i) (m.Entries.drop i) = (!p && entsF b (prevE m.Entries (i + 1)) (m.Entries.drop (i + 1)))) → iter (fun x => ndt' x.1.2.2.1 x.1.2.2.2.1 x.1.2.2.2.2.1 x.2.1.1 x.2.1.2.1 x.2.1.2.2.1 x.2.1.2.2.2.1 x.2.1.2.2.2.2.1 x.2.1.2.2.2.2.2.1 x.2.1.2.2.2.2.2.2.1 x.2.1.2.2.2.2.2.2.2.1 x.2.2.1.1 x.2.2.1.2.1 x.2.2.1.2.2.1 x.2.2.1.2.2.2.1) (k + 1 + 1) (((), (), m.Entries, (m.Entries.length : Int), (i : Int), ()), (b.tup, m.tup, ())) = some (if entsF b (prevE m.Entries i) (m.Entries.drop i) then .inl ((), ()) else .inr ((false, ()), ())) := fun p h1 h2 => by
        rw [h2]
        cases p with
        | true => exact n6' h1
        | false => rw [Bool.not_false, Bool.true_and]; exact (nb4' h1).trans (ih (i + 1) (by omega))
      have hstep := nsh' (b := b) hi'
      have he := nth' hb (m.Entries.getD i noE)
      unfold noE at he
      refine go (!(entOK b (m.Entries.getD i noE) && (match prevE m.Entries i with | some q => lessE q (m.Entries.getD i noE) | none => true))) ?_ (by rw [hstep, Bool.not_not, Bool.and_assoc])
      unfold ndt'
      rw [e, ib]
      simp only [cond_true, Int.toNat_natCast, he, Option.bind_some]
      cases hk : entOK b (m.Entries.getD i noE) with
      | false =>
        unfold noE at hk
        rw [hk]; rfl
      | true =>
        unfold noE at hk
        rw [hk]
        simp only [Bool.not_true, cond_false, Bool.true_and]
        by_cases g : (0 : Int) < (i : Int)
        · have w1 : IntKind.i64.wrap ((i : Int) - 1) = ((i - 1 : Nat) : Int) := by rw [nb' (by omega) (by omega)]; omega
          have ib1 : inB ((i - 1 : Nat) : Int) m.Entries.length = true := nc' (by omega) (by omega)
          rw [decide_eq_true g, w1, ib1]
          obtain ⟨n, c1, c2, _⟩ := nku' (m.Entries.getD (i - 1) noE) (m.Entries.getD i noE)
          unfold noE at c1
          simp only [cond_true, Int.toNat_natCast, c1, Option.bind_some, w, c2]
          rw [show prevE m.Entries i = some (m.Entries.getD (i - 1) noE) from if_neg (by omega)]
          simp only
          cases lessE (m.Entries.getD (i - 1) noE) (m.Entries.getD i noE) <;> rfl
        · have : i = 0 := by omega
          subst this
          rw [decide_eq_false g]
          simp only [cond_false, Option.bind_some, w]
          rfl
  have h := nf' (key m.Entries.length 0 (by omega)) (by omega)
  exact h
theorem nv7' (n : Int) (hn : n = (b.Cars.length : Int)) (hm : m.Entries.length ≤ maxLen) : nh7' (((), (), n, (0 : Int), ()), (b.tup, m.tup, ())) = some (if entsF b none m.Entries then .inl ((), ()) else .inr ((false, ()), ())) := by
  have hmx : maxLen ≤ 9223372036854775807 := by decide
  have key : ∀ (k i : Nat), i + k = m.Entries.length → iter (fun x => ndo' x.1.2.2.1 x.1.2.2.2.1 x.2.1.1 x.2.1.2.1 x.2.1.2.2.1 x.2.1.2.2.2.1 x.2.1.2.2.2.2.1 x.2.1.2.2.2.2.2.1 x.2.1.2.2.2.2.2.2.1 x.2.1.2.2.2.2.2.2.2.1 x.2.2.1.1 x.2.2.1.2.1 x.2.2.1.2.2.1 x.2.2.1.2.2.2.1) (k + 1) (((), (), n, (i : Int), ()), (b.tup, m.tup, ())) = some (if entsF b (prevE m.Entries i) (m.Entries.drop i) then .inl ((), ()) else .inr ((false, ()), ())) := by
    intro k
    induction k with
    | zero =>
      intro i hi
      refine n6' ?_
      show ndo' n (i : Int) b.Floors b.Debounce b.Room b.Park b.Empty b.Full b.Over b.Cars m.Phases m.Flags m.Leaving m.Entries = _
      unfold ndo'
      have e : decide ((i : Int) < (m.Entries.length : Int)) = false := by simp; omega
      rw [e, show i = m.Entries.length by omega, List.drop_length]; rfl
    | succ k ih =>
      intro i hi
      have hi' : i < m.Entries.length := by omega
      have e : decide ((i : Int) < (m.Entries.length : Int)) = true := by simp; omega
      have ib : inB (i : Int) m.Entries.length = true := nc' (by omega) (by omega)
      have w : IntKind.i64.wrap ((i : Int) + 1) = ((i + 1 : Nat) : Int) := by rw [nb' (by omega) (by omega)]; omega
      have go : ∀ p : Bool, (ndo' n (i : Int) b.Floors b.Debounce b.Room b.Park b.Empty b.Full b.Over b.Cars m.Phases m.Flags m.Leaving m.Entries = some (bif p then .inr (.inr ((false, ()), ())) else .inl (((), (), n, ((i + 1 : Nat) : Int), ()), (b.tup, m.tup, ())))) → (entsF b (prevE m.Entries i) (m.Entries.drop i) = (!p && entsF b (prevE m.Entries (i + 1)) (m.Entries.drop (i + 1)))) → iter (fun x => ndo' x.1.2.2.1 x.1.2.2.2.1 x.2.1.1 x.2.1.2.1 x.2.1.2.2.1 x.2.1.2.2.2.1 x.2.1.2.2.2.2.1 x.2.1.2.2.2.2.2.1 x.2.1.2.2.2.2.2.2.1 x.2.1.2.2.2.2.2.2.2.1 x.2.2.1.1 x.2.2.1.2.1 x.2.2.1.2.2.1 x.2.2.1.2.2.2.1) (k + 1 + 1) (((), (), n, (i : Int), ()), (b.tup, m.tup, ())) = some (if entsF b (prevE m.Entries i) (m.Entries.drop i) then .inl ((), ()) else .inr ((false, ()), ())) := fun p h1 h2 => by
        rw [h2]
        cases p with
        | true => exact n6' h1
        | false => rw [Bool.not_false, Bool.true_and]; exact (nb4' h1).trans (ih (i + 1) (by omega))
      have hstep := nsh' (b := b) hi'
      have hc := nlp' hb (m.Entries.getD i noE).Floor (m.Entries.getD i noE).Dir
      refine go (!(entOK b (m.Entries.getD i noE) && (match prevE m.Entries i with | some q => lessE q (m.Entries.getD i noE) | none => true))) ?_ (by rw [hstep, Bool.not_not, Bool.and_assoc])
      unfold ndo'
      rw [e, ib, show (Entry.mk 0 0 0 0 false) = noE from rfl]
      simp only [cond_true, Int.toNat_natCast, hc, Option.bind_some]
      unfold entOK
      have q1 : decide ((m.Entries.getD i noE).Car < -2) = !decide (-2 ≤ (m.Entries.getD i noE).Car) := ns9' _ _
      have q2 : decide (n ≤ (m.Entries.getD i noE).Car) = !decide ((m.Entries.getD i noE).Car < (b.Cars.length : Int)) := by rw [hn]; exact n5z' _ _
      have q3 : decide ((m.Entries.getD i noE).Moves < 0) = !decide (0 ≤ (m.Entries.getD i noE).Moves) := ns9' _ _
      have q4 : decide (255 < (m.Entries.getD i noE).Moves) = !decide ((m.Entries.getD i noE).Moves ≤ 255) := ns9' _ _
      rw [q1, q2, q3, q4]
      cases nbf' b (m.Entries.getD i noE).Floor (m.Entries.getD i noE).Dir with
      | false => rfl
      | true =>
        cases decide (-2 ≤ (m.Entries.getD i noE).Car) with
        | false => rfl
        | true =>
          cases decide ((m.Entries.getD i noE).Car < (b.Cars.length : Int)) with
          | false => rfl
          | true =>
            cases decide (0 ≤ (m.Entries.getD i noE).Moves) with
            | false => rfl
            | true =>
              cases decide ((m.Entries.getD i noE).Moves ≤ 255) with
              | false => rfl
              | true =>
                simp only [Bool.not_true, cond_false, Bool.and_self, Bool.true_and]
                by_cases g : (0 : Int) < (i : Int)
                · have w1 : IntKind.i64.wrap ((i : Int) - 1) = ((i - 1 : Nat) : Int) := by rw [nb' (by omega) (by omega)]; omega
                  have ib1 : inB ((i - 1 : Nat) : Int) m.Entries.length = true := nc' (by omega) (by omega)
                  have hl := nq5' (m.Entries.getD (i - 1) noE) (m.Entries.getD i noE)
                  rw [decide_eq_true g, w1, ib1]
                  simp only [cond_true, Int.toNat_natCast, hl, Option.bind_some, w]
                  rw [show prevE m.Entries i = some (m.Entries.getD (i - 1) noE) from if_neg (by omega)]
                  simp only
                  cases lessE (m.Entries.getD (i - 1) noE) (m.Entries.getD i noE) <;> rfl
                · have : i = 0 := by omega
                  subst this
                  rw [decide_eq_false g]
                  simp only [cond_false, Option.bind_some, w]
                  rfl
  have h := nf' (key m.Entries.length 0 (by omega)) (by omega)
  exact h
omit hb in
theorem nvv' (hm : m.Phases.length ≤ maxLen) : nh4' (((), (), m.Phases, (m.Phases.length : Int), (0 : Int), ()), (b.tup, m.tup, ())) = some (if m.Phases.all (inR 0 4) then .inl (((), (), ()), (b.tup, m.tup, ())) else .inr ((false, ()), ())) := by
  have hmx : maxLen ≤ 9223372036854775807 := by decide
  have key : ∀ (k i : Nat), i + k = m.Phases.length → iter (fun x => nel' x.1.2.2.1 x.1.2.2.2.1 x.1.2.2.2.2.1 x.2.1.1 x.2.1.2.1 x.2.1.2.2.1 x.2.1.2.2.2.1 x.2.1.2.2.2.2.1 x.2.1.2.2.2.2.2.1 x.2.1.2.2.2.2.2.2.1 x.2.1.2.2.2.2.2.2.2.1 x.2.2.1.1 x.2.2.1.2.1 x.2.2.1.2.2.1 x.2.2.1.2.2.2.1) (k + 1) (((), (), m.Phases, (m.Phases.length : Int), (i : Int), ()), (b.tup, m.tup, ())) = some (if (m.Phases.drop i).all (inR 0 4) then .inl (((), (), ()), (b.tup, m.tup, ())) else .inr ((false, ()), ())) := by
    intro k
    induction k with
    | zero =>
      intro i hi
      refine n6' ?_
      show nel' m.Phases (m.Phases.length : Int) (i : Int) b.Floors b.Debounce b.Room b.Park b.Empty b.Full b.Over b.Cars m.Phases m.Flags m.Leaving m.Entries = _
      unfold nel'
      have e : decide ((i : Int) < (m.Phases.length : Int)) = false := by simp; omega
      rw [e, show i = m.Phases.length by omega, List.drop_length]; rfl
    | succ k ih =>
      intro i hi
      have hi' : i < m.Phases.length := by omega
      have e : decide ((i : Int) < (m.Phases.length : Int)) = true := by simp; omega
      have ib : inB (i : Int) m.Phases.length = true := nc' (by omega) (by omega)
      have w : IntKind.i64.wrap ((i : Int) + 1) = ((i + 1 : Nat) : Int) := by rw [nb' (by omega) (by omega)]; omega
      rw [nc1' (0 : Int) hi', List.all_cons]
      have hs : nel' m.Phases (m.Phases.length : Int) (i : Int) b.Floors b.Debounce b.Room b.Park b.Empty b.Full b.Over b.Cars m.Phases m.Flags m.Leaving m.Entries = some (bif inR 0 4 (m.Phases.getD i 0) then .inl (((), (), m.Phases, (m.Phases.length : Int), ((i + 1 : Nat) : Int), ()), (b.tup, m.tup, ())) else .inr (.inr ((false, ()), ()))) := by
        unfold nel'
        rw [e, ib, w]
        simp only [cond_true, Int.toNat_natCast]
        unfold inR
        by_cases g1 : m.Phases.getD i 0 < 0
        · rw [decide_eq_true g1, decide_eq_false (show ¬ 0 ≤ m.Phases.getD i 0 by omega)]; rfl
        · rw [decide_eq_false g1, decide_eq_true (show 0 ≤ m.Phases.getD i 0 by omega)]
          by_cases g2 : 4 < m.Phases.getD i 0
          · rw [decide_eq_true g2, decide_eq_false (show ¬ m.Phases.getD i 0 ≤ 4 by omega)]; rfl
          · rw [decide_eq_false g2, decide_eq_true (show m.Phases.getD i 0 ≤ 4 by omega)]; rfl
      cases hq : inR 0 4 (m.Phases.getD i 0) with
      | true => rw [hq] at hs; exact (nb4' hs).trans (ih (i + 1) (by omega))
      | false => rw [hq] at hs; exact n6' hs
  have h := nf' (key m.Phases.length 0 (by omega)) (by omega)
  exact h
omit hb in
theorem nvy' (n : Int) (hn : n = (m.Phases.length : Int)) (hm : m.Phases.length ≤ maxLen) : nhu' (((), (), n, (0 : Int), ()), (b.tup, m.tup, ())) = some (if m.Phases.all (inR 0 4) then .inl (((), (), n, ()), (b.tup, m.tup, ())) else .inr ((false, ()), ())) := by
  have hmx : maxLen ≤ 9223372036854775807 := by decide
  subst hn
  have key : ∀ (k i : Nat), i + k = m.Phases.length → iter (fun x => nej' x.1.2.2.1 x.1.2.2.2.1 x.2.1.1 x.2.1.2.1 x.2.1.2.2.1 x.2.1.2.2.2.1 x.2.1.2.2.2.2.1 x.2.1.2.2.2.2.2.1 x.2.1.2.2.2.2.2.2.1 x.2.1.2.2.2.2.2.2.2.1 x.2.2.1.1 x.2.2.1.2.1 x.2.2.1.2.2.1 x.2.2.1.2.2.2.1) (k + 1) (((), (), (m.Phases.length : Int), (i : Int), ()), (b.tup, m.tup, ())) = some (if (m.Phases.drop i).all (inR 0 4) then .inl (((), (), (m.Phases.length : Int), ()), (b.tup, m.tup, ())) else .inr ((false, ()), ())) := by
    intro k
    induction k with
    | zero =>
      intro i hi
      refine n6' ?_
      show nej' (m.Phases.length : Int) (i : Int) b.Floors b.Debounce b.Room b.Park b.Empty b.Full b.Over b.Cars m.Phases m.Flags m.Leaving m.Entries = _
      unfold nej'
      have e : decide ((i : Int) < (m.Phases.length : Int)) = false := by simp; omega
      rw [e, show i = m.Phases.length by omega, List.drop_length]; rfl
    | succ k ih =>
      intro i hi
      have hi' : i < m.Phases.length := by omega
      have e : decide ((i : Int) < (m.Phases.length : Int)) = true := by simp; omega
      have ib : inB (i : Int) m.Phases.length = true := nc' (by omega) (by omega)
      have w : IntKind.i64.wrap ((i : Int) + 1) = ((i + 1 : Nat) : Int) := by rw [nb' (by omega) (by omega)]; omega
      rw [nc1' (0 : Int) hi', List.all_cons]
      have hs : nej' (m.Phases.length : Int) (i : Int) b.Floors b.Debounce b.Room b.Park b.Empty b.Full b.Over b.Cars m.Phases m.Flags m.Leaving m.Entries = some (bif inR 0 4 (m.Phases.getD i 0) then .inl (((), (), (m.Phases.length : Int), ((i + 1 : Nat) : Int), ()), (b.tup, m.tup, ())) else .inr (.inr ((false, ()), ()))) := by
        unfold nej'
        rw [e, ib, w]
        simp only [cond_true, Int.toNat_natCast]
        unfold inR
        by_cases g1 : m.Phases.getD i 0 < 0
        · rw [decide_eq_true g1, decide_eq_false (show ¬ 0 ≤ m.Phases.getD i 0 by omega)]; rfl
        · rw [decide_eq_false g1, decide_eq_true (show 0 ≤ m.Phases.getD i 0 by omega)]
          by_cases g2 : 4 < m.Phases.getD i 0
          · rw [decide_eq_true g2, decide_eq_false (show ¬ m.Phases.getD i 0 ≤ 4 by omega)]; rfl
          · rw [decide_eq_false g2, decide_eq_true (show m.Phases.getD i 0 ≤ 4 by omega)]; rfl
      cases hq : inR 0 4 (m.Phases.getD i 0) with
      | true => rw [hq] at hs; exact (nb4' hs).trans (ih (i + 1) (by omega))
      | false => rw [hq] at hs; exact n6' hs
  have h := nf' (key m.Phases.length 0 (by omega)) (by omega)
  exact h
theorem nkz' (hp : m.Phases.length ≤ maxLen) (he : m.Entries.length ≤ maxLen) : nfl' b.Floors b.Debounce b.Room b.Park b.Empty b.Full b.Over b.Cars m.Phases m.Flags m.Leaving m.Entries = some ((m.ok b, ()), ()) := by
  unfold nfl' Img.ok
  rw [ncm']
  simp only [Option.bind_some, bne]
  cases b.code == 0 with
  | false => rfl
  | true =>
    cases (m.Phases.length : Int) == (b.Cars.length : Int) with
    | false => rfl
    | true =>
      cases (m.Flags.length : Int) == (b.Cars.length : Int) with
      | false => rfl
      | true =>
        cases (m.Leaving.length : Int) == (b.Cars.length : Int) with
        | false => rfl
        | true =>
          have h0 := nvv' (b := b) m hp
          have h1 := nv2' hb m he
          unfold Bldg.tup Img.tup at h0 h1
          simp only [Bool.not_true, cond_false, h0, Option.bind_some, Bool.true_and]
          cases m.Phases.all (inR 0 4) with
          | false => rfl
          | true =>
            simp only [if_true, h1, Option.bind_some, Bool.true_and]
            cases entsF b none m.Entries <;> rfl
theorem nn7' (hp : m.Phases.length ≤ maxLen) (he : m.Entries.length ≤ maxLen) : neq' b.Floors b.Debounce b.Room b.Park b.Empty b.Full b.Over b.Cars m.Phases m.Flags m.Leaving m.Entries = some ((m.ok b, ()), ()) := by
  unfold neq' Img.ok
  rw [nd3']
  simp only [Option.bind_some, bne]
  cases b.code == 0 with
  | false => rfl
  | true =>
    cases hq : (m.Phases.length : Int) == (b.Cars.length : Int) with
    | false => rfl
    | true =>
      cases (m.Flags.length : Int) == (b.Cars.length : Int) with
      | false => rfl
      | true =>
        cases (m.Leaving.length : Int) == (b.Cars.length : Int) with
        | false => rfl
        | true =>
          have hq' : (m.Phases.length : Int) = (b.Cars.length : Int) := by simpa using hq
          have h0 := nvy' (b := b) m (b.Cars.length : Int) hq'.symm hp
          have h1 := nv7' hb m (b.Cars.length : Int) rfl he
          unfold Bldg.tup Img.tup at h0 h1
          simp only [Bool.not_true, cond_false, h0, Option.bind_some, Bool.true_and]
          cases m.Phases.all (inR 0 4) with
          | false => rfl
          | true =>
            simp only [if_true, h1, Option.bind_some, Bool.true_and]
            cases entsF b none m.Entries <;> rfl
end
end Go.Ovl
