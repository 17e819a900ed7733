/- LogApplies: the image behind a record, the snapshot of an image, and whether it has room: the program says what the reference says. -/
import Derived.Test.YticbfghinhhgiaaOvSane10
namespace Go.Ovl
open Go Go.Ab
set_option maxRecDepth 100000
def imgR (b : Bldg) (m : Img) (r : Record) : Img := bif m.ok b && validR b r then applyV m r else Img.none
theorem applyR_img (b : Bldg) (m : Img) (r : Record) : applyR b m r = (((), (bif m.ok b && validR b r then 0 else 1), ()), ((imgR b m r).tup, ())) := by
  unfold applyR imgR
  cases m.ok b && validR b r <;> rfl
theorem imgR_fit {b : Bldg} {m : Img} {r : Record} (hl : m.Entries.length ≤ 10000) : (imgR b m r).fit := by
  unfold imgR
  cases hq : m.ok b && validR b r with
  | false => exact ⟨Nat.zero_le _, Nat.zero_le _, Nat.zero_le _, Nat.zero_le _⟩
  | true =>
    rw [Bool.and_eq_true] at hq
    obtain ⟨h1, h2⟩ := applyV_ok (Img.ok_iff.1 hq.1) hq.2
    have hc := code_cars h1.code
    have g1 := h1.lp
    have g2 := h1.lf
    have g3 := h1.ll
    rw [cond_true]
    exact ⟨by omega, by omega, by omega, by omega⟩
section
variable {b : Bldg} (hb : b.small) (hc : b.Cars.length ≤ 100) (n : Int) {xs : List Record} (hx : xs.length ≤ 9000) (raw : Img) (il : List Image) (k : Int)
include hb hc hx
theorem apply_loop {i : Int} {m : Img} (hf : m.fit) (hl : m.Entries.length ≤ 1000) : L_l10_LogApplies_1 ((n, (), (), xs, (), (0 : Int), il, k, i, ()), (raw.tup, b.tup, m.tup, ())) = some (.inl ((n, (), (), xs, il, k, i, ()), (raw.tup, b.tup, ()))) := by
  have h := iter_range (step := fun x => R_l10_LogApplies_1 x.1.1 x.1.2.2.2.1 x.1.2.2.2.2.2.1 x.1.2.2.2.2.2.2.1 x.1.2.2.2.2.2.2.2.1 x.1.2.2.2.2.2.2.2.2.1 x.2.1.1 x.2.1.2.1 x.2.1.2.2.1 x.2.1.2.2.2.1 x.2.2.1.1 x.2.2.1.2.1 x.2.2.1.2.2.1 x.2.2.1.2.2.2.1 x.2.2.1.2.2.2.2.1 x.2.2.1.2.2.2.2.2.1 x.2.2.1.2.2.2.2.2.2.1 x.2.2.1.2.2.2.2.2.2.2.1 x.2.2.2.1.1 x.2.2.2.1.2.1 x.2.2.2.1.2.2.1 x.2.2.2.1.2.2.2.1) xs.length
    (fun j (_ : Unit) => ((n, (), (), xs, (), (j : Int), il, k, i, ()), (raw.tup, b.tup, m.tup, ()))) (fun _ u => u) (fun _ _ => True) (fun _ => Sum.inl ((n, (), (), xs, il, k, i, ()), (raw.tup, b.tup, ()))) (fun j u hj _ => by
      refine ⟨?_, trivial⟩
      have ha := log_Apply_eq hb hc m hf.p (by omega) (xs.getD j (Record.mk 0 0 0 0 0))
      have hmx : 100000 ≤ maxLen := by decide
      have hfp := hf.p
      have hr : F_r10_Apply b.Floors b.Debounce b.Room b.Park b.Empty b.Full b.Over b.Cars m.Phases m.Flags m.Leaving m.Entries (xs.getD j (Record.mk 0 0 0 0 0)).Kind (xs.getD j (Record.mk 0 0 0 0 0)).Floor (xs.getD j (Record.mk 0 0 0 0 0)).Dir (xs.getD j (Record.mk 0 0 0 0 0)).Car (xs.getD j (Record.mk 0 0 0 0 0)).Value = _ := r10_Apply_eq hb m hl (xs.getD j (Record.mk 0 0 0 0 0)) (by omega) hc
      rw [applyR_img] at ha hr
      have hs := r10_Same_eq (imgR_fit (b := b) (m := m) (r := xs.getD j (Record.mk 0 0 0 0 0)) (by omega)) (c := imgR b m (xs.getD j (Record.mk 0 0 0 0 0)))
      rw [sameI_self] at hs
      show R_l10_LogApplies_1 n xs (j : Int) il k i raw.Phases raw.Flags raw.Leaving raw.Entries b.Floors b.Debounce b.Room b.Park b.Empty b.Full b.Over b.Cars m.Phases m.Flags m.Leaving m.Entries = _
      unfold R_l10_LogApplies_1
      simp only [decide_eq_true (show (j : Int) < (xs.length : Int) by omega), inB_true (show (0 : Int) ≤ (j : Int) by omega) (show (j : Int) < (xs.length : Int) by omega), cond_true, Int.toNat_natCast, ha, hr, Option.bind_some, bne_self_eq_false, cond_false, Img.tup, hs, Bool.not_true, wrap1 hj (show xs.length ≤ small5 by unfold small5; omega)]
      rfl) (fun u _ => by
      show R_l10_LogApplies_1 n xs (xs.length : Int) il k i raw.Phases raw.Flags raw.Leaving raw.Entries b.Floors b.Debounce b.Room b.Park b.Empty b.Full b.Over b.Cars m.Phases m.Flags m.Leaving m.Entries = _
      unfold R_l10_LogApplies_1
      simp only [decide_eq_false (Int.lt_irrefl (xs.length : Int)), cond_false]
      rfl) xs.length 0 () (by omega) trivial
  exact iter_fuel h.1 (by omega)
theorem apply_round {i : Nat} {m : Img} (hi : i < 2) (hk : k = 2) (hil : il.length = 2) (hget : il.getD i (Image.mk [] [] [] []) = Image.mk m.Phases m.Flags m.Leaving m.Entries) (hf : m.fit) (hl : m.Entries.length ≤ 1000) :
    R_l10_LogApplies_0 n xs il k (i : Int) raw.Phases raw.Flags raw.Leaving raw.Entries b.Floors b.Debounce b.Room b.Park b.Empty b.Full b.Over b.Cars = some (.inl ((n, (), (), xs, il, k, ((i + 1 : Nat) : Int), ()), (raw.tup, b.tup, ()))) := by
  have hmx : 100000 ≤ maxLen := by decide
  have hfp := hf.p
  have hlp := apply_loop hb hc n hx raw il k (i := (i : Int)) hf hl
  have s1 := r09_Same_eq (a := snapR b m) (b := snapR b m) (by
    unfold snapR small5
    cases m.ok b with
    | false => simp
    | true => rw [cond_true, snapV_len]; omega)
  rw [eqL_self] at s1
  have s2 := log_Same_eq hf (c := raw)
  have s3 := r10_Same_eq hf (c := raw)
  have s4 := log_Same_eq hf (c := m)
  rw [sameI_self] at s4
  simp only [Img.tup, Bldg.tup] at hlp
  unfold R_l10_LogApplies_0
  rw [hk, decide_eq_true (show (i : Int) < 2 by omega), inB_true (show (0 : Int) ≤ (i : Int) by omega) (show (i : Int) < (il.length : Int) by omega), Int.toNat_natCast, hget]
  rw [hk] at hlp
  simp only [cond_true, log_IsImage_eq hb m (show m.Phases.length ≤ maxLen by omega) (show m.Entries.length ≤ maxLen by omega), r10_IsImage_eq hb m (show m.Phases.length ≤ maxLen by omega) (show m.Entries.length ≤ maxLen by omega), Option.bind_some, beq_self_eq_true, Bool.not_true, cond_false, log_Snapshot_eq hb hf, r10_Snapshot_eq hb hf, s1, log_Room_eq hb m (show b.Cars.length ≤ 100000 by omega) hfp hf.e, r10_Room_eq hb m (show b.Cars.length ≤ 100000 by omega) hfp hf.e, s2, s3, s4, hlp, wrap_small (n := (i : Int) + 1) (by omega) (by omega)]
  rfl
end
theorem law_LogApplies (n : Int) (l : List (Int)) (raw_Phases : List (Int)) (raw_Flags : List (Bool)) (raw_Leaving : List (Bool)) (raw_Entries : List (Entry)) (h_n : 0 ≤ n ∧ n < 256) (h_l : l.length ≤ maxLen ∧ ∀ e ∈ l, (0 ≤ e ∧ e < 256)) (_h_raw_Phases : raw_Phases.length ≤ maxLen ∧ ∀ e ∈ raw_Phases, (-9223372036854775808 ≤ e ∧ e < 9223372036854775808)) (_h_raw_Flags : raw_Flags.length ≤ maxLen ∧ ∀ e ∈ raw_Flags, True) (_h_raw_Leaving : raw_Leaving.length ≤ maxLen ∧ ∀ e ∈ raw_Leaving, True) (_h_raw_Entries : raw_Entries.length ≤ maxLen ∧ ∀ e ∈ raw_Entries, (-9223372036854775808 ≤ e.Floor ∧ e.Floor < 9223372036854775808) ∧ (-9223372036854775808 ≤ e.Dir ∧ e.Dir < 9223372036854775808) ∧ (-9223372036854775808 ≤ e.Car ∧ e.Car < 9223372036854775808) ∧ (-9223372036854775808 ≤ e.Moves ∧ e.Moves < 9223372036854775808)) : F_l10_LogApplies n l raw_Phases raw_Flags raw_Leaving raw_Entries = some ((true, ()), ()) := by
  unfold F_l10_LogApplies
  have hsmall : F_l10_small raw_Phases raw_Flags raw_Leaving raw_Entries = some ((decide (raw_Phases.length ≤ 20) && (decide (raw_Flags.length ≤ 20) && (decide (raw_Leaving.length ≤ 20) && decide (raw_Entries.length ≤ 80))), ()), ()) := by
    have d : ∀ {α : Type} (l : List α) (k : Nat), decide (((l.length : Nat) : Int) ≤ ((k : Nat) : Int)) = decide (l.length ≤ k) := fun l k => decide_eq_decide.2 (by omega)
    have d20 : ∀ {α : Type} (l : List α), decide (((l.length : Nat) : Int) ≤ (20 : Int)) = decide (l.length ≤ 20) := fun l => d l 20
    have d80 : ∀ {α : Type} (l : List α), decide (((l.length : Nat) : Int) ≤ (80 : Int)) = decide (l.length ≤ 80) := fun l => d l 80
    unfold F_l10_small
    rw [d20, d20, d20, d80]
    cases decide (raw_Phases.length ≤ 20) <;> cases decide (raw_Flags.length ≤ 20) <;> cases decide (raw_Leaving.length ≤ 20) <;> rfl
  rw [hsmall]
  simp only [Option.bind_some]
  cases hq : decide (raw_Phases.length ≤ 20) && (decide (raw_Flags.length ≤ 20) && (decide (raw_Leaving.length ≤ 20) && decide (raw_Entries.length ≤ 80))) with
  | false => simp only [Bool.not_false, cond_true, l10_sane, Option.bind_some]
  | true =>
    simp only [Bool.and_eq_true, decide_eq_true_eq] at hq
    obtain ⟨q1, q2, q3, q4⟩ := hq
    obtain ⟨fl, ca, f1, f2, c1, c2, hbd⟩ := F_l10_Building_eq (n := n) (room := 200) h_n (by omega)
    have hcode := bld10_code f1 f2 c1 c2 (room := 200) (by omega)
    have hb : (bld10 fl ca 200).small := ⟨by show (2 : Int) ≤ (fl : Int); omega, by show (fl : Int) ≤ 8; omega⟩
    generalize bld10 fl ca 200 = b at *
    have hcars := code_cars hcode
    obtain ⟨xs, hxs, hxl, _⟩ := Records_eq hb hcode (by omega) (l := l) h_l.2 (most := 30) (by omega)
    obtain ⟨m, hi, hm, hme⟩ := F_l10_Image_eq hb hcode (by omega) (l := l) h_l.2
    have hlp := hm.lp
    have hlf := hm.lf
    have hll := hm.ll
    have hf : m.fit := ⟨by omega, by omega, by omega, by omega⟩
    let raw : Img := ⟨raw_Phases, raw_Flags, raw_Leaving, raw_Entries⟩
    have hfr : raw.fit := ⟨by show raw_Phases.length ≤ _; omega, by show raw_Flags.length ≤ _; omega, by show raw_Leaving.length ≤ _; omega, by show raw_Entries.length ≤ _; omega⟩
    have hx9 : xs.length ≤ 9000 := by omega
    have hc9 : b.Cars.length ≤ 100 := by omega
    have hm9 : m.Entries.length ≤ 1000 := by omega
    have hloop : L_l10_LogApplies_0 ((n, (), (), xs, [Image.mk m.Phases m.Flags m.Leaving m.Entries, Image.mk raw.Phases raw.Flags raw.Leaving raw.Entries], (2 : Int), (0 : Int), ()), (raw.tup, b.tup, ())) = some (.inl ((n, (), ()), (b.tup, ()))) := by
      have h := iter_range (step := fun x => R_l10_LogApplies_0 x.1.1 x.1.2.2.2.1 x.1.2.2.2.2.1 x.1.2.2.2.2.2.1 x.1.2.2.2.2.2.2.1 x.2.1.1 x.2.1.2.1 x.2.1.2.2.1 x.2.1.2.2.2.1 x.2.2.1.1 x.2.2.1.2.1 x.2.2.1.2.2.1 x.2.2.1.2.2.2.1 x.2.2.1.2.2.2.2.1 x.2.2.1.2.2.2.2.2.1 x.2.2.1.2.2.2.2.2.2.1 x.2.2.1.2.2.2.2.2.2.2.1) 2
        (fun i (_ : Unit) => ((n, (), (), xs, [Image.mk m.Phases m.Flags m.Leaving m.Entries, Image.mk raw.Phases raw.Flags raw.Leaving raw.Entries], (2 : Int), (i : Int), ()), (raw.tup, b.tup, ()))) (fun _ u => u) (fun _ _ => True) (fun _ => Sum.inl ((n, (), ()), (b.tup, ()))) (fun i u hi _ => by
          refine ⟨?_, trivial⟩
          rcases (show i = 0 ∨ i = 1 by omega) with rfl | rfl
          · exact apply_round hb hc9 n hx9 raw _ 2 (i := 0) (m := m) (by omega) rfl rfl rfl hf hm9
          · exact apply_round hb hc9 n hx9 raw _ 2 (i := 1) (m := raw) (by omega) rfl rfl rfl hfr (by show raw_Entries.length ≤ _; omega)) (fun u _ => rfl) 2 0 () (by omega) trivial
      exact iter_fuel h.1 (by omega)
    have hini := log_Initial_eq b
    rw [hcode] at hini
    have hri := r10_Initial_eq hcode (by omega)
    have hi0 : (initV b).Entries.length = 0 := rfl
    have hip : (initV b).Phases.length = b.Cars.length := List.length_replicate
    have ha := log_Apply_eq hb (by omega) (initV b) (by omega) (by omega) ⟨IntKind.i64.wrap n, 0, 0, 0, 0⟩
    have hmx : 100000 ≤ maxLen := by decide
    have hra := r10_Apply_eq hb (initV b) (by omega) ⟨IntKind.i64.wrap n, 0, 0, 0, 0⟩ (by omega) (by omega)
    have hfi : (initV b).fit := ⟨by omega, by show (List.replicate b.Cars.length false).length ≤ _; rw [List.length_replicate]; omega, by show (List.replicate b.Cars.length false).length ≤ _; rw [List.length_replicate]; omega, by omega⟩
    have hsi := r10_Same_eq hfi (c := initV b)
    rw [sameI_self] at hsi
    have hno := log_Initial_eq Bldg.none
    rw [show (Bldg.none.code == 0) = false from rfl, cond_false] at hno
    simp only [Bool.not_true, cond_false, hbd, Option.bind_some, Bldg.tup]
    rw [hxs]
    simp only [Option.bind_some]
    rw [hi]
    simp only [Option.bind_some, Img.tup, List.length_cons, List.length_nil]
    simp only [Bldg.tup, Img.tup] at hloop
    rw [show ((((0 : Nat) + 1 + 1 : Nat)) : Int) = 2 from rfl]
    rw [show L_l10_LogApplies_0 ((n, (), (), xs, [Image.mk m.Phases m.Flags m.Leaving m.Entries, Image.mk raw_Phases raw_Flags raw_Leaving raw_Entries], (2 : Int), (0 : Int), ()), ((raw_Phases, raw_Flags, raw_Leaving, raw_Entries, ()), (b.Floors, b.Debounce, b.Room, b.Park, b.Empty, b.Full, b.Over, b.Cars, ()), ())) = _ from hloop]
    simp only [Option.bind_some, hini, hri, beq_self_eq_true, cond_true, Img.tup]
    simp only at ha hra
    rw [ha, hra]
    simp only [Option.bind_some, beq_self_eq_true, cond_true, hsi]
    rw [show F_log_Initial 0 0 0 0 0 0 0 [] = _ from hno]
    simp only [Option.bind_some, Img.tup, Img.none, List.length_nil]
    rw [l10_sane]
    rfl
end Go.Ovl
