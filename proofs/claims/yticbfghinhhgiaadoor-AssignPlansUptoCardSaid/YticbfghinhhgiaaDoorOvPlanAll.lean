/- Plan as a whole (layer 22), and sameness of records and numbers: the program and the reference say the same. -/
import Derived.Test.YticbfghinhhgiaaDoorOvPlan
namespace Go.Ovl
open Go Go.Ab
set_option maxRecDepth 100000
def expOK (xs : List Int) : Bool := xs.all (inR 0 1000000)
theorem plan_1_eq (n : Int) : F_assign_Plan_1 n = some ((!inR 0 1000000 n, ()), ()) := by
  unfold F_assign_Plan_1 inR
  by_cases g : n < 0
  · rw [decide_eq_true g, decide_eq_false (show ¬ 0 ≤ n by omega)]; rfl
  · rw [decide_eq_false g, decide_eq_true (show 0 ≤ n by omega)]
    by_cases g' : 1000000 < n
    · rw [decide_eq_true g', decide_eq_false (show ¬ n ≤ 1000000 by omega)]; rfl
    · rw [decide_eq_false g', decide_eq_true (show n ≤ 1000000 by omega)]; rfl
theorem contains_eq {xs : List Int} (hl : xs.length ≤ maxLen) : F_slices_ContainsFunc_sl_int_int_assign_Plan_1 xs = some ((!expOK xs, ()), ()) := by
  have hm : maxLen ≤ 9223372036854775807 := by decide
  have key : ∀ (k i : Nat), i + k = xs.length → ∃ y, iter (fun x => R_slices_IndexFunc_sl_int_int_assign_Plan_1_0 x.1.1 x.1.2.2.1 x.1.2.2.2.1) (k + 1) ((xs, (), (xs.length : Int), (i : Int), ()), ()) = some y ∧ (match y with | .inl _ => (xs.drop i).all (inR 0 1000000) = true | .inr z => 0 ≤ z.1.1 ∧ (xs.drop i).all (inR 0 1000000) = false) := by
    intro k
    induction k with
    | zero =>
      intro i hi
      refine ⟨.inl ((), ()), iter_inr ?_, ?_⟩
      · show R_slices_IndexFunc_sl_int_int_assign_Plan_1_0 xs (xs.length : Int) (i : Int) = _
        unfold R_slices_IndexFunc_sl_int_int_assign_Plan_1_0
        rw [show decide ((i : Int) < (xs.length : Int)) = false by simp; omega]; rfl
      · rw [show i = xs.length by omega, List.drop_length]; rfl
    | succ k ih =>
      intro i hi
      have hi' : i < xs.length := by omega
      have hs : R_slices_IndexFunc_sl_int_int_assign_Plan_1_0 xs (xs.length : Int) (i : Int) = some (bif inR 0 1000000 (xs.getD i 0) then .inl ((xs, (), (xs.length : Int), ((i + 1 : Nat) : Int), ()), ()) else .inr (.inr (((i : Int), ()), ()))) := by
        unfold R_slices_IndexFunc_sl_int_int_assign_Plan_1_0
        have w : IntKind.i64.wrap ((i : Int) + 1) = ((i + 1 : Nat) : Int) := by rw [wrap_small (by omega) (by omega)]; omega
        rw [show decide ((i : Int) < (xs.length : Int)) = true by simp; omega, inB_true (by omega) (by omega), plan_1_eq, w]
        simp only [cond_true, Int.toNat_natCast, Option.bind_some]
        cases inR 0 1000000 (xs.getD i 0) <;> rfl
      rw [drop_getD (0 : Int) hi', List.all_cons]
      cases hq : inR 0 1000000 (xs.getD i 0) with
      | true =>
        rw [hq] at hs
        obtain ⟨y, h1, h2⟩ := ih (i + 1) (by omega)
        exact ⟨y, (iter_inl hs).trans h1, by rw [Bool.true_and]; exact h2⟩
      | false =>
        rw [hq] at hs
        exact ⟨_, iter_inr hs, by show (0 : Int) ≤ (i : Int) ∧ _; exact ⟨by omega, rfl⟩⟩
  obtain ⟨y, h1, h2⟩ := key xs.length 0 (by omega)
  have h1' : L_slices_IndexFunc_sl_int_int_assign_Plan_1_0 ((xs, (), (xs.length : Int), (0 : Int), ()), ()) = some y := iter_fuel h1 (by omega)
  rw [List.drop_zero] at h2
  unfold F_slices_ContainsFunc_sl_int_int_assign_Plan_1 F_slices_IndexFunc_sl_int_int_assign_Plan_1 expOK
  rw [h1']
  cases y with
  | inl z => simp only at h2; rw [h2]; rfl
  | inr z =>
    simp only at h2
    rw [h2.2]
    simp only [Option.bind_some]
    rw [decide_eq_true h2.1]; rfl
theorem isExpect_eq (m : Img) {xs : List Int} (hl : xs.length ≤ maxLen) : F_r22_IsExpect m.Phases m.Flags m.Leaving m.Entries xs = some ((expOK xs && (xs.length : Int) == (m.Entries.length : Int), ()), ()) := by
  have hm : maxLen ≤ 9223372036854775807 := by decide
  have key : ∀ (k i : Nat), i + k = xs.length → iter (fun x => R_r22_IsExpect_0 x.1.1 x.1.2.2.1 x.2.1.1 x.2.1.2.1 x.2.1.2.2.1 x.2.1.2.2.2.1) (k + 1) ((xs, (), (i : Int), ()), (m.tup, ())) = some (if (xs.drop i).all (inR 0 1000000) then .inl ((xs, (), ()), (m.tup, ())) else .inr ((false, ()), ())) := by
    intro k
    induction k with
    | zero =>
      intro i hi
      refine iter_inr ?_
      show R_r22_IsExpect_0 xs (i : Int) m.Phases m.Flags m.Leaving m.Entries = _
      unfold R_r22_IsExpect_0
      rw [show decide ((i : Int) < (xs.length : Int)) = false by simp; omega, show i = xs.length by omega, List.drop_length]; rfl
    | succ k ih =>
      intro i hi
      have hi' : i < xs.length := by omega
      have hs : R_r22_IsExpect_0 xs (i : Int) m.Phases m.Flags m.Leaving m.Entries = some (bif inR 0 1000000 (xs.getD i 0) then .inl ((xs, (), ((i + 1 : Nat) : Int), ()), (m.tup, ())) else .inr (.inr ((false, ()), ()))) := by
        unfold R_r22_IsExpect_0
        have w : IntKind.i64.wrap ((i : Int) + 1) = ((i + 1 : Nat) : Int) := by rw [wrap_small (by omega) (by omega)]; omega
        rw [show decide ((i : Int) < (xs.length : Int)) = true by simp; omega, inB_true (by omega) (by omega), w]
        simp only [cond_true, Int.toNat_natCast]
        unfold inR
        by_cases g : xs.getD i 0 < 0
        · rw [decide_eq_true g, decide_eq_false (show ¬ 0 ≤ xs.getD i 0 by omega)]; rfl
        · rw [decide_eq_false g, decide_eq_true (show 0 ≤ xs.getD i 0 by omega)]
          by_cases g' : 1000000 < xs.getD i 0
          · rw [decide_eq_true g', decide_eq_false (show ¬ xs.getD i 0 ≤ 1000000 by omega)]; rfl
          · rw [decide_eq_false g', decide_eq_true (show xs.getD i 0 ≤ 1000000 by omega)]; rfl
      rw [drop_getD (0 : Int) hi', List.all_cons]
      cases hq : inR 0 1000000 (xs.getD i 0) with
      | true => rw [hq] at hs; exact (iter_inl hs).trans (ih (i + 1) (by omega))
      | false => rw [hq] at hs; exact iter_inr hs
  have h1 : L_r22_IsExpect_0 ((xs, (), (0 : Int), ()), (m.tup, ())) = _ := iter_fuel (key xs.length 0 (by omega)) (by omega)
  rw [List.drop_zero] at h1
  unfold Img.tup at h1
  unfold F_r22_IsExpect
  rw [h1]
  unfold expOK
  cases xs.all (inR 0 1000000) <;> rfl
noncomputable def planV (b : Bldg) (m : Img) (xs : List Int) (vs : List View) : List Record × List Int × Int × Unit :=
  bif m.ok b && ((xs.length : Int) == (m.Entries.length : Int) && ((vs.length : Int) == (b.Cars.length : Int) && expOK xs)) then (planR b vs m.Entries xs, planN b vs m.Entries xs, 0, ()) else ([], [], 1, ())
theorem Img.ok_all {b : Bldg} {m : Img} (h : m.ok b = true) : b.code = 0 ∧ m.Phases.length = b.Cars.length ∧ m.Flags.length = b.Cars.length ∧ m.Leaving.length = b.Cars.length ∧ (∀ p ∈ m.Phases, 0 ≤ p ∧ p ≤ 4) ∧ (∀ e ∈ m.Entries, entOK b e = true) ∧ entsF b Option.none m.Entries = true := by
  unfold Img.ok at h
  simp only [Bool.and_eq_true, beq_iff_eq] at h
  obtain ⟨h0, h1, h2, h3, h4, h5⟩ := h
  exact ⟨h0, by omega, by omega, by omega, fun p hp => inR_iff.1 (List.all_eq_true.1 h4 p hp), entsF_all h5, h5⟩
section
variable {b : Bldg} (hb : b.small) {vs : List View} (hv : okViews vs) (hl : vs.length ≤ 100) (m : Img) (hm : m.Entries.length ≤ 1000) (hp : m.Phases.length ≤ maxLen) (xs : List Int) (hx : xs.length ≤ maxLen)
include hb hv hl hm hp hx
theorem assign_Plan_eq : F_assign_Plan b.Floors b.Debounce b.Room b.Park b.Empty b.Full b.Over b.Cars m.Phases m.Flags m.Leaving m.Entries xs vs = some (planV b m xs vs, ()) := by
  have hmx : 1000 ≤ maxLen := by decide
  unfold F_assign_Plan planV
  rw [log_IsImage_eq hb m hp (by omega), contains_eq hx]
  simp only [Option.bind_some, bne]
  cases hok : m.ok b with
  | false => rfl
  | true =>
    cases hq : (xs.length : Int) == (m.Entries.length : Int) with
    | false => rfl
    | true =>
      cases hr : (vs.length : Int) == (b.Cars.length : Int) with
      | false => rfl
      | true =>
        cases expOK xs with
        | false => rfl
        | true =>
          have hq' : (xs.length : Int) = (m.Entries.length : Int) := by simpa using hq
          have hr' : (vs.length : Int) = (b.Cars.length : Int) := by simpa using hr
          obtain ⟨_, _, _, _, _, hall, _⟩ := Img.ok_all hok
          have hlp := iter_fuel (assign_Plan_loop hb hv hl hr' hall hm (xs := xs) (by omega) m.Entries.length 0 [] [] (by omega) rfl (by simp)) (by omega)
          have hlp' : L_assign_Plan_0 ((xs, vs, (), (), ([] : List Record), List.replicate m.Entries.length (0 : Int), m.Entries, (m.Entries.length : Int), (0 : Int), ()), (b.tup, (b.Floors, b.Debounce, b.Room, b.Park, b.Empty, b.Full, b.Over, b.Cars, vs, ()), ())) = _ := hlp
          unfold Bldg.tup at hlp'
          simp only [Bool.not_true, cond_false, hq', decide_eq_true (show (0 : Int) ≤ (m.Entries.length : Int) by omega), decide_eq_true (Int.le_refl (m.Entries.length : Int)), decide_eq_true (show (m.Entries.length : Int) ≤ 2147483648 by omega), Bool.and_self, cond_true, Int.toNat_natCast, hlp', Option.bind_some, List.drop_zero, List.nil_append]
theorem r22_Plan_eq : F_r22_Plan b.Floors b.Debounce b.Room b.Park b.Empty b.Full b.Over b.Cars m.Phases m.Flags m.Leaving m.Entries xs vs = some (planV b m xs vs, ()) := by
  have hmx : 1000 ≤ maxLen := by decide
  unfold F_r22_Plan planV
  rw [r10_IsImage_eq hb m hp (by omega), isExpect_eq m hx]
  simp only [Option.bind_some, bne]
  cases hok : m.ok b with
  | false => rfl
  | true =>
    cases hq : (xs.length : Int) == (m.Entries.length : Int) with
    | false => cases expOK xs <;> rfl
    | true =>
      cases he : expOK xs with
      | false => cases (vs.length : Int) == (b.Cars.length : Int) <;> rfl
      | true =>
        cases hr : (vs.length : Int) == (b.Cars.length : Int) with
        | false => rfl
        | true =>
          have hq' : (xs.length : Int) = (m.Entries.length : Int) := by simpa using hq
          have hr' : (vs.length : Int) = (b.Cars.length : Int) := by simpa using hr
          obtain ⟨_, _, _, _, _, hall, _⟩ := Img.ok_all hok
          have hlp := iter_fuel (r22_Plan_loop hb hv hl hr' hall hm (xs := xs) (by omega) m.Entries.length 0 [] [] (by omega) rfl (by simp)) (by omega)
          have hlp' : L_r22_Plan_0 ((xs, vs, (), (), ([] : List Record), ([] : List Int), (0 : Int), ()), (b.tup, m.tup, ())) = _ := hlp
          unfold Bldg.tup Img.tup at hlp'
          simp only [Bool.and_self, Bool.not_true, cond_false, cond_true, hlp', Option.bind_some, List.drop_zero, List.nil_append]
end
theorem r22_SameInts_refl {l : List Int} (h : l.length ≤ maxLen) : F_r22_SameInts l l = some ((true, ()), ()) := by
  have hm : maxLen ≤ 9223372036854775807 := by decide
  have h1 : L_r22_SameInts_0 ((l, l, (0 : Int), ()), ()) = some (.inl ((), ())) := by
    refine loop_of (fun x y => ∃ i : Nat, i ≤ l.length ∧ x = ((l, l, (i : Int), ()), ()) ∧ y = .inl ((), ())) (fun x => l.length - x.1.2.2.1.toNat) ?_ ⟨0, by omega, rfl, rfl⟩ (by show l.length - 0 < _; omega)
    rintro _ _ ⟨i, hi, rfl, rfl⟩
    show (∃ x', R_r22_SameInts_0 l l (i : Int) = _ ∧ _) ∨ R_r22_SameInts_0 l l (i : Int) = _
    unfold R_r22_SameInts_0
    by_cases g : (i : Int) < (l.length : Int)
    · rw [decide_eq_true g, inB_true (by omega) (by omega), wrap_small (by omega) (by omega)]
      simp only [cond_true, bne_self_eq_false, cond_false]
      exact .inl ⟨_, rfl, ⟨i + 1, by omega, rfl, by trivial⟩, by show l.length - ((i : Int) + 1).toNat < l.length - (i : Int).toNat; omega⟩
    · rw [decide_eq_false g]; exact .inr rfl
  unfold F_r22_SameInts
  rw [bne_self_eq_false, h1]; rfl
theorem r09_Same_refl {l : List Record} (h : l.length ≤ maxLen) : F_r09_Same l l = some ((true, ()), ()) := by
  have hm : maxLen ≤ 9223372036854775807 := by decide
  have h1 : L_r09_Same_0 ((l, l, (0 : Int), ()), ()) = some (.inl ((), ())) := by
    refine loop_of (fun x y => ∃ i : Nat, i ≤ l.length ∧ x = ((l, l, (i : Int), ()), ()) ∧ y = .inl ((), ())) (fun x => l.length - x.1.2.2.1.toNat) ?_ ⟨0, by omega, rfl, rfl⟩ (by show l.length - 0 < _; omega)
    rintro _ _ ⟨i, hi, rfl, rfl⟩
    show (∃ x', R_r09_Same_0 l l (i : Int) = _ ∧ _) ∨ R_r09_Same_0 l l (i : Int) = _
    unfold R_r09_Same_0
    by_cases g : (i : Int) < (l.length : Int)
    · rw [decide_eq_true g, inB_true (by omega) (by omega), wrap_small (by omega) (by omega)]
      simp only [cond_true, beq_self_eq_true, Bool.and_self, Bool.not_true, cond_false]
      exact .inl ⟨_, rfl, ⟨i + 1, by omega, rfl, by trivial⟩, by show l.length - ((i : Int) + 1).toNat < l.length - (i : Int).toNat; omega⟩
    · rw [decide_eq_false g]; exact .inr rfl
  unfold F_r09_Same
  rw [bne_self_eq_false, h1]; rfl
theorem planR_len (b : Bldg) (vs : List View) : ∀ (l : List Entry) (xs : List Int), (planR b vs l xs).length ≤ 2 * l.length
  | [], _ => by simp [planR]
  | _ :: _, [] => by simp [planR]
  | e :: t, x :: xs => by
    have h1 := planR_len b vs t xs
    have h2 := recsV_len e (decV b vs e x)
    simp only [planR, List.length_append, List.length_cons]
    omega
theorem planN_len (b : Bldg) (vs : List View) : ∀ (l : List Entry) (xs : List Int), xs.length = l.length → (planN b vs l xs).length = l.length
  | [], _, _ => by simp [planN]
  | _ :: _, [], h => by simp at h
  | e :: t, x :: xs, h => by
    simp only [planN, List.length_cons, planN_len b vs t xs (by simpa using h)]
theorem planV_len (b : Bldg) (m : Img) (xs : List Int) (vs : List View) : (planV b m xs vs).1.length ≤ 2 * m.Entries.length ∧ (planV b m xs vs).2.1.length ≤ m.Entries.length := by
  unfold planV
  cases hq : (m.ok b && ((xs.length : Int) == (m.Entries.length : Int) && ((vs.length : Int) == (b.Cars.length : Int) && expOK xs))) with
  | false => exact ⟨by simp, by simp⟩
  | true =>
    simp only [Bool.and_eq_true, beq_iff_eq] at hq
    refine ⟨planR_len b vs m.Entries xs, ?_⟩
    show (planN b vs m.Entries xs).length ≤ _
    rw [planN_len b vs m.Entries xs (by omega)]
    exact Nat.le_refl _
end Go.Ovl
