/- How far a car goes (layer 21): the highest and the lowest of some floors. -/
import Derived.Test.YticbfghinhhgiaaDoorOvCounted
namespace Go.Ovl
open Go Go.Ab
set_option maxRecDepth 100000
def hlStep (p : Bool) (i : Int) (x : Int × Int) : Int × Int := bif p then (bif decide (x.1 < i) then i else x.1, bif decide (i < x.2) then i else x.2) else x
def hlF (p : Nat → Bool) : Nat → Nat → Int × Int → Int × Int
  | 0, _, x => x
  | m + 1, i, x => hlF p m (i + 1) (hlStep (p i) i x)
theorem hlStep_spec (p : Bool) (i : Int) (x : Int × Int) : ((hlStep p i x).1 = x.1 ∨ (p = true ∧ (hlStep p i x).1 = i)) ∧ ((hlStep p i x).2 = x.2 ∨ (p = true ∧ (hlStep p i x).2 = i)) ∧ x.1 ≤ (hlStep p i x).1 ∧ (hlStep p i x).2 ≤ x.2 ∧ (p = true → i ≤ (hlStep p i x).1 ∧ (hlStep p i x).2 ≤ i) := by
  unfold hlStep
  cases p with
  | false => simp
  | true =>
    simp only [cond_true]
    by_cases h1 : x.1 < i <;> by_cases h2 : i < x.2 <;> simp [h1, h2] <;> omega
theorem hlF_spec (p : Nat → Bool) : ∀ (m i : Nat) (x : Int × Int),
    ((hlF p m i x).1 = x.1 ∨ ∃ j, i ≤ j ∧ j < i + m ∧ p j = true ∧ (hlF p m i x).1 = (j : Int)) ∧ ((hlF p m i x).2 = x.2 ∨ ∃ j, i ≤ j ∧ j < i + m ∧ p j = true ∧ (hlF p m i x).2 = (j : Int)) ∧
    x.1 ≤ (hlF p m i x).1 ∧ (hlF p m i x).2 ≤ x.2 ∧ ∀ j, i ≤ j → j < i + m → p j = true → (j : Int) ≤ (hlF p m i x).1 ∧ (hlF p m i x).2 ≤ (j : Int)
  | 0, i, x => ⟨.inl rfl, .inl rfl, Int.le_refl _, Int.le_refl _, fun j h1 h2 => by omega⟩
  | m + 1, i, x => by
    obtain ⟨s1, s2, s3, s4, s5⟩ := hlStep_spec (p i) i x
    obtain ⟨t1, t2, t3, t4, t5⟩ := hlF_spec p m (i + 1) (hlStep (p i) i x)
    show ((hlF p m (i + 1) (hlStep (p i) i x)).1 = x.1 ∨ _) ∧ _
    refine ⟨?_, ?_, Int.le_trans s3 t3, Int.le_trans t4 s4, fun j h1 h2 h3 => ?_⟩
    · rcases t1 with t1 | ⟨j, j1, j2, j3, j4⟩
      · rcases s1 with s1 | ⟨s1, s1'⟩
        · exact .inl (t1.trans s1)
        · exact .inr ⟨i, Nat.le_refl _, by omega, s1, t1.trans s1'⟩
      · exact .inr ⟨j, by omega, by omega, j3, j4⟩
    · rcases t2 with t1 | ⟨j, j1, j2, j3, j4⟩
      · rcases s2 with s1 | ⟨s1, s1'⟩
        · exact .inl (t1.trans s1)
        · exact .inr ⟨i, Nat.le_refl _, by omega, s1, t1.trans s1'⟩
      · exact .inr ⟨j, by omega, by omega, j3, j4⟩
    · by_cases e : j = i
      · subst e
        have := s5 h3
        exact ⟨Int.le_trans this.1 t3, Int.le_trans t4 this.2⟩
      · exact t5 j (by omega) (by omega) h3
theorem r21_Path_loop {fl : Nat} (h2 : 2 ≤ fl) (hfl : fl ≤ 8) {car up down : Int} (hc : u32r car) (hu : u32r up) (hd : u32r down) {a u d : Nat} (c : Cnt fl car up down a u d) (from_ sweep floor dir : Int) (x : Int × Int) :
    L_r21_Path_0 (((fl : Int), from_, sweep, floor, dir, (), x.1, x.2, (0 : Int), ()), ((car, up, down, ()), ())) = some ((from_, sweep, floor, dir, (hlF (fun i => a.testBit i || (u.testBit i || d.testBit i)) fl 0 x).1, (hlF (fun i => a.testBit i || (u.testBit i || d.testBit i)) fl 0 x).2, ()), ()) := by
  have key : ∀ (m i : Nat) (x : Int × Int), i + m = fl → iter (fun x => R_r21_Path_0 x.1.1 x.1.2.1 x.1.2.2.1 x.1.2.2.2.1 x.1.2.2.2.2.1 x.1.2.2.2.2.2.2.1 x.1.2.2.2.2.2.2.2.1 x.1.2.2.2.2.2.2.2.2.1 x.2.1.1 x.2.1.2.1 x.2.1.2.2.1) (m + 1) (((fl : Int), from_, sweep, floor, dir, (), x.1, x.2, (i : Int), ()), ((car, up, down, ()), ())) = some ((from_, sweep, floor, dir, (hlF (fun i => a.testBit i || (u.testBit i || d.testBit i)) m i x).1, (hlF (fun i => a.testBit i || (u.testBit i || d.testBit i)) m i x).2, ()), ()) := by
    intro m
    induction m with
    | zero =>
      intro i x hi'
      refine iter_inr ?_
      show R_r21_Path_0 (fl : Int) from_ sweep floor dir x.1 x.2 (i : Int) car up down = _
      unfold R_r21_Path_0
      have e : decide ((i : Int) < (fl : Int)) = false := by simp; omega
      rw [e]; rfl
    | succ m ih =>
      intro i x hi'
      obtain ⟨k0, k1, k2⟩ := F_r21_is_eq h2 hfl hc hu hd c (show i < fl by omega)
      have e : decide ((i : Int) < (fl : Int)) = true := by simp; omega
      have w : IntKind.i64.wrap ((i : Int) + 1) = ((i + 1 : Nat) : Int) := by rw [wrap_small (by omega) (by omega)]; omega
      refine (iter_inl (x' := (((fl : Int), from_, sweep, floor, dir, (), (hlStep (a.testBit i || (u.testBit i || d.testBit i)) i x).1, (hlStep (a.testBit i || (u.testBit i || d.testBit i)) i x).2, ((i + 1 : Nat) : Int), ()), ((car, up, down, ()), ()))) ?_).trans (ih (i + 1) _ (by omega))
      show R_r21_Path_0 (fl : Int) from_ sweep floor dir x.1 x.2 (i : Int) car up down = _
      unfold R_r21_Path_0
      simp only [e, cond_true, k0, k1, k2, Option.bind_some]
      cases a.testBit i with
      | true => simp only [cond_true, Option.bind_some, w, Bool.true_or]; rfl
      | false =>
        cases u.testBit i with
        | true => simp only [cond_true, cond_false, Option.bind_some, w, Bool.true_or, Bool.false_or]; rfl
        | false =>
          cases d.testBit i with
          | true => simp only [cond_true, cond_false, Option.bind_some, w, Bool.false_or]; rfl
          | false => simp only [cond_false, Option.bind_some, w, Bool.false_or]; rfl
  exact iter_fuel (key fl 0 x (by omega)) (by omega)
/-- The highest and the lowest of a set, by the reference's loop. -/
theorem hl_set {fl : Nat} {p : Nat → Bool} {S : Nat} {from_ floor : Nat} (_hfr : from_ < fl) (_hfo : floor < fl) (hS : ∀ i, S.testBit i = (decide (i < fl) && p i || (decide (i = from_) || decide (i = floor))))
    {hi lo : Nat} (h1 : S.testBit hi = true) (h2 : ∀ i, hi < i → S.testBit i = false) (l1 : S.testBit lo = true) (l2 : ∀ i, i < lo → S.testBit i = false) :
    hlF p fl 0 (bif decide ((from_ : Int) < floor) then (floor : Int) else from_, bif decide ((floor : Int) < from_) then (floor : Int) else from_) = ((hi : Int), (lo : Int)) := by
  obtain ⟨s1, s2, s3, s4, s5⟩ := hlF_spec p fl 0 (bif decide ((from_ : Int) < floor) then (floor : Int) else from_, bif decide ((floor : Int) < from_) then (floor : Int) else from_)
  generalize hlF p fl 0 (bif decide ((from_ : Int) < floor) then (floor : Int) else from_, bif decide ((floor : Int) < from_) then (floor : Int) else from_) = r at *
  have bmax : (bif decide ((from_ : Int) < floor) then (floor : Int) else from_) = ((max from_ floor : Nat) : Int) := by
    by_cases h : (from_ : Int) < floor
    · rw [decide_eq_true h]; simp only [cond_true]; omega
    · rw [decide_eq_false h]; simp only [cond_false]; omega
  have bmin : (bif decide ((floor : Int) < from_) then (floor : Int) else from_) = ((min from_ floor : Nat) : Int) := by
    by_cases h : (floor : Int) < from_
    · rw [decide_eq_true h]; simp only [cond_true]; omega
    · rw [decide_eq_false h]; simp only [cond_false]; omega
  simp only [bmax, bmin] at s1 s2 s3 s4
  have mem : ∀ i, i < fl → p i = true → S.testBit i = true := fun i h hp => by rw [hS, decide_eq_true h, hp]; rfl
  have mfr : S.testBit from_ = true := by rw [hS]; simp
  have mfo : S.testBit floor = true := by rw [hS]; simp
  have up : ∀ i, S.testBit i = true → i ≤ hi := fun i h => by
    rcases Nat.lt_or_ge hi i with h' | h'
    · rw [h2 i h'] at h; cases h
    · exact h'
  have dn : ∀ i, S.testBit i = true → lo ≤ i := fun i h => by
    rcases Nat.lt_or_ge i lo with h' | h'
    · rw [l2 i h'] at h; cases h
    · exact h'
  have inS : ∀ i, S.testBit i = true → (i < fl ∧ p i = true) ∨ i = from_ ∨ i = floor := fun i h => by
    rw [hS] at h
    simp only [Bool.or_eq_true, Bool.and_eq_true, decide_eq_true_eq] at h
    exact h
  have u1 := up _ mfr
  have u2 := up _ mfo
  have d1 := dn _ mfr
  have d2 := dn _ mfo
  have r1 : r.1 ≤ (hi : Int) := by
    rcases s1 with s1 | ⟨j, _, j2, j3, j4⟩
    · omega
    · have := up j (mem j (by omega) j3); omega
  have r2 : (lo : Int) ≤ r.2 := by
    rcases s2 with s1 | ⟨j, _, j2, j3, j4⟩
    · omega
    · have := dn j (mem j (by omega) j3); omega
  clear s1 s2
  have q1 : (hi : Int) ≤ r.1 := by
    rcases inS hi h1 with ⟨g1, g2⟩ | g | g
    · exact (s5 hi (Nat.zero_le _) (by omega) g2).1
    · omega
    · omega
  have q2 : r.2 ≤ (lo : Int) := by
    rcases inS lo l1 with ⟨g1, g2⟩ | g | g
    · exact (s5 lo (Nat.zero_le _) (by omega) g2).2
    · omega
    · omega
  exact Prod.ext (Int.le_antisymm r1 q1) (Int.le_antisymm q2 r2)
end Go.Ovl
