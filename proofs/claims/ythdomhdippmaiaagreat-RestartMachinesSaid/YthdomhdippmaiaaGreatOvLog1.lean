/- Layers 9 and 10, the program's side: valid records, the search for a call, what a record changes. -/
import Derived.Test.YthdomhdippmaiaaGreatOvMadeImg
namespace Go.Ovl
open Go Go.Ab
set_option maxRecDepth 100000
theorem nrt' (n lo hi : Int) : nco' n lo hi = some ((inR lo hi n, ()), ()) := by
  unfold nco' inR
  cases decide (lo ≤ n) <;> rfl
theorem nnf' {b : Bldg} (hb : b.small) (hc : b.Cars.length ≤ 100) (r : Record) : ngj' b.Floors b.Debounce b.Room b.Park b.Empty b.Full b.Over b.Cars r.Kind r.Floor r.Dir r.Car r.Value = some ((n4' b r, ()), ()) := by
  have w : IntKind.i64.wrap ((b.Cars.length : Int) - 1) = (b.Cars.length : Int) - 1 := nb' (by omega) (by omega)
  unfold ngj' n4' carR
  rw [ncm', nh9' hb]
  simp only [Option.bind_some, bne, nrt', w]
  cases b.code == 0 with
  | false => rfl
  | true =>
    simp only [Bool.not_true, cond_false, Bool.true_and]
    cases inR 0 ((b.Cars.length : Int) - 1) r.Car <;> cases r.Floor == 0 <;> cases r.Dir == 0 <;>
      (simp only [Option.bind_some, cond_true, cond_false, Bool.and_self, Bool.and_true, Bool.and_false, Bool.false_and, Bool.true_and, w]
       by_cases k1 : r.Kind = 1
       · simp only [k1, beq_self_eq_true, cond_true]
         cases nbf' b r.Floor r.Dir <;> cases r.Car == 0 <;> rfl
       by_cases k2 : r.Kind = 2
       · simp only [k2, beq_self_eq_true, cond_true, cond_false, show ((2 : Int) == 1) = false from rfl]
         cases nbf' b r.Floor r.Dir <;> cases r.Car == 0 <;> rfl
       by_cases k3 : r.Kind = 3
       · simp only [k3, beq_self_eq_true, cond_true, cond_false, show ((3 : Int) == 1) = false from rfl, show ((3 : Int) == 2) = false from rfl]
         cases nbf' b r.Floor r.Dir <;> cases inR (-2) ((b.Cars.length : Int) - 1) r.Car <;> rfl
       by_cases k4 : r.Kind = 4
       · simp only [k4, beq_self_eq_true, cond_true, cond_false, show ((4 : Int) == 1) = false from rfl, show ((4 : Int) == 2) = false from rfl, show ((4 : Int) == 3) = false from rfl, show ((4 : Int) == 7) = false from rfl]
       by_cases k5 : r.Kind = 5
       · simp only [k5, beq_self_eq_true, cond_true, cond_false, show ((5 : Int) == 1) = false from rfl, show ((5 : Int) == 2) = false from rfl, show ((5 : Int) == 3) = false from rfl, show ((5 : Int) == 7) = false from rfl, show ((5 : Int) == 4) = false from rfl]
       by_cases k6 : r.Kind = 6
       · simp only [k6, beq_self_eq_true, cond_true, cond_false, show ((6 : Int) == 1) = false from rfl, show ((6 : Int) == 2) = false from rfl, show ((6 : Int) == 3) = false from rfl, show ((6 : Int) == 7) = false from rfl, show ((6 : Int) == 4) = false from rfl, show ((6 : Int) == 5) = false from rfl]
       by_cases k7 : r.Kind = 7
       · simp only [k7, beq_self_eq_true, cond_true, cond_false, show ((7 : Int) == 1) = false from rfl, show ((7 : Int) == 2) = false from rfl, show ((7 : Int) == 3) = false from rfl, show ((7 : Int) == 4) = false from rfl, show ((7 : Int) == 5) = false from rfl, show ((7 : Int) == 6) = false from rfl]
         cases nbf' b r.Floor r.Dir <;> cases inR 0 1 r.Car <;> rfl
       simp only [beq_f k1, beq_f k2, beq_f k3, beq_f k4, beq_f k5, beq_f k6, beq_f k7, cond_false])
def posF (c : Entry) : List Entry → Nat
  | [] => 0
  | e :: t => bif lessE e c then posF c t + 1 else 0
theorem nqf' (c : Entry) : ∀ l : List Entry, posF c l ≤ l.length
  | [] => Nat.le_refl _
  | e :: t => by
    have := nqf' c t
    simp only [posF, List.length_cons]
    cases lessE e c <;> simp <;> omega
theorem ny9' (c : Entry) : ∀ (l : List Entry) (k : Nat), k < posF c l → lessE (l.getD k noE) c = true
  | [], k, h => by simp [posF] at h
  | e :: t, k, h => by
    simp only [posF] at h
    cases he : lessE e c with
    | false => rw [he] at h; simp at h
    | true =>
      rw [he] at h
      cases k with
      | zero => exact he
      | succ k => exact ny9' c t k (by simp at h; omega)
theorem nza' {c : Entry} : ∀ {l : List Entry}, ncb' l → ∀ k, posF c l ≤ k → k < l.length → lessE (l.getD k noE) c = false
  | [], _, k, _, h => by simp at h
  | e :: t, hs, k, h1, h2 => by
    obtain ⟨a1, a2⟩ := List.pairwise_cons.1 (ndn'.1 hs)
    simp only [posF] at h1
    cases he : lessE e c with
    | true =>
      rw [he, cond_true] at h1
      cases k with
      | zero => omega
      | succ k => exact nza' (ndn'.2 a2) k (by omega) (by simp at h2; omega)
    | false =>
      cases k with
      | zero => exact he
      | succ k =>
        cases hq : lessE ((e :: t).getD (k + 1) noE) c with
        | false => rfl
        | true =>
          have hm : t.getD k noE ∈ t := nes' noE (by simp at h2; omega)
          have := nk7' (a1 _ hm) hq
          rw [he] at this; cases this
theorem nre' {a c : Entry} (h : isC c.Floor c.Dir a = true) : lessE a c = false ∧ lessE c a = false := by
  unfold isC at h
  simp only [Bool.and_eq_true, beq_iff_eq] at h
  constructor
  all_goals
    apply Bool.eq_false_iff.2
    intro hh
    rw [nfv'] at hh
    omega
theorem nwp' {a c : Entry} (h : isC c.Floor c.Dir a = false) (h' : lessE a c = false) : lessE c a = true := by
  rw [nfv']
  have h1 : ¬ (a.Floor < c.Floor ∨ (a.Floor = c.Floor ∧ a.Dir < c.Dir)) := fun hh => by rw [nfv'.2 hh] at h'; cases h'
  unfold isC at h
  simp only [Bool.and_eq_false_iff, beq_eq_false_iff_ne] at h
  omega
theorem nuq' {a c : Entry} (h : lessE a c = true) : lessE c a = false := by
  apply Bool.eq_false_iff.2
  intro hh
  rw [nfv'] at *
  omega
theorem noc' {F D : Int} : ∀ {l : List Entry} {i : Nat}, (∀ x ∈ l, isC F D x = false) → findF F D l i = -1
  | [], _, _ => rfl
  | e :: t, i, h => by
    simp only [findF]
    rw [h e (List.mem_cons_self ..), cond_false]
    exact noc' fun x hx => h x (List.mem_cons_of_mem _ hx)
def hasF (c : Entry) (l : List Entry) : Bool := Nat.blt (posF c l) l.length && isC c.Floor c.Dir (l.getD (posF c l) noE)
theorem npo' {c : Entry} : ∀ {l : List Entry} (i : Nat), ncb' l → findF c.Floor c.Dir l i = bif hasF c l then ((i + posF c l : Nat) : Int) else -1
  | [], _, _ => rfl
  | e :: t, i, hs => by
    obtain ⟨a1, a2⟩ := List.pairwise_cons.1 (ndn'.1 hs)
    have hpos : posF c (e :: t) = bif lessE e c then posF c t + 1 else 0 := rfl
    unfold hasF
    simp only [findF]
    rw [hpos]
    cases he : isC c.Floor c.Dir e with
    | true =>
      rw [(nre' he).1]
      simp [he, show Nat.blt 0 (t.length + 1) = true from rfl]
    | false =>
      cases hl : lessE e c with
      | true =>
        rw [cond_false, cond_true, npo' (i + 1) (ndn'.2 a2)]
        unfold hasF
        rw [show ((e :: t).getD (posF c t + 1) noE) = t.getD (posF c t) noE from rfl, List.length_cons, show Nat.blt (posF c t + 1) (t.length + 1) = Nat.blt (posF c t) t.length from rfl]
        rw [show i + 1 + posF c t = i + (posF c t + 1) by omega]
      | false =>
        rw [cond_false, cond_false, show ((e :: t).getD 0 noE) = e from rfl, he, Bool.and_false, cond_false]
        refine noc' fun x hx => ?_
        cases hq : isC c.Floor c.Dir x with
        | false => rfl
        | true =>
          have h1 := nk7' (nwp' he hl) (a1 x hx)
          rw [(nre' hq).2] at h1; cases h1
theorem nwm' {c : Entry} : ∀ {l : List Entry}, (∀ x ∈ l, isC c.Floor c.Dir x = false) → insL c false l = l.take (posF c l) ++ [c] ++ l.drop (posF c l)
  | [], _ => rfl
  | e :: t, h => by
    simp only [insL, posF]
    cases hl : lessE e c with
    | true =>
      rw [nuq' hl, cond_false, nwm' fun x hx => h x (List.mem_cons_of_mem _ hx)]
      simp
    | false =>
      rw [nwp' (h e (List.mem_cons_self ..)) hl, cond_true, nm5']
      simp
theorem n1q' {c : Entry} {l : List Entry} (hs : ncb' l) (h : hasF c l = false) : ∀ x ∈ l, isC c.Floor c.Dir x = false := by
  have h1 := npo' (c := c) 0 hs
  rw [h, cond_false] at h1
  rcases nlx' c.Floor c.Dir l 0 with ⟨_, h2⟩ | ⟨k, _, h2, _⟩
  · exact h2
  · rw [h1] at h2; omega
end Go.Ovl
