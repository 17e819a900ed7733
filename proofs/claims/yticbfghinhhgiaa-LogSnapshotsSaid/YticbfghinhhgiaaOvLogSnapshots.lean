/- LogSnapshots: the records of a snapshot make the image again. -/
import Derived.Test.YticbfghinhhgiaaOvSane10
namespace Go.Ovl
open Go Go.Ab
set_option maxRecDepth 100000
theorem u8s {l : List Int} (h : ∀ e ∈ l, (0 ≤ e ∧ e < 256)) : ∀ e ∈ l, u8r e := h
theorem snap_loop {b : Bldg} (hb : b.small) (m : Img) {rs : List Record} (hv : ∀ r ∈ rs, validR b r = true) (hl : rs.length ≤ 9000) {o : Img} (ho : ImgOK b o) (hol : o.Entries.length = 0) :
    L_l10_LogSnapshots_0 (((), (), rs, (), (0 : Int), ()), (b.tup, m.tup, o.tup, ())) = some (.inl (((), (), rs, (), ()), (b.tup, m.tup, (applyL o rs).tup, ()))) := by
  have hcars := code_cars ho.code
  have h := iter_range (step := fun x => R_l10_LogSnapshots_0 x.1.2.2.1 x.1.2.2.2.2.1 x.2.1.1 x.2.1.2.1 x.2.1.2.2.1 x.2.1.2.2.2.1 x.2.1.2.2.2.2.1 x.2.1.2.2.2.2.2.1 x.2.1.2.2.2.2.2.2.1 x.2.1.2.2.2.2.2.2.2.1 x.2.2.1.1 x.2.2.1.2.1 x.2.2.1.2.2.1 x.2.2.1.2.2.2.1 x.2.2.2.1.1 x.2.2.2.1.2.1 x.2.2.2.1.2.2.1 x.2.2.2.1.2.2.2.1) rs.length
    (fun i (o : Img) => (((), (), rs, (), (i : Int), ()), (b.tup, m.tup, o.tup, ()))) (fun i o => applyV o (rs.getD i (Record.mk 0 0 0 0 0))) (fun i o => ImgOK b o ∧ o.Entries.length ≤ i) (fun o => Sum.inl (((), (), rs, (), ()), (b.tup, m.tup, o.tup, ()))) (fun i o hi hs => by
      obtain ⟨hm, hle⟩ := hs
      have hr := hv _ (getD_mem (Record.mk 0 0 0 0 0) hi)
      have hlp := hm.lp
      obtain ⟨a1, a2⟩ := applyV_ok hm hr
      refine ⟨?_, a1, by omega⟩
      have ha := log_Apply_eq hb (by omega) o (by omega) (by omega) (rs.getD i (Record.mk 0 0 0 0 0))
      rw [applyR_ok hm hr] at ha
      show R_l10_LogSnapshots_0 rs (i : Int) b.Floors b.Debounce b.Room b.Park b.Empty b.Full b.Over b.Cars m.Phases m.Flags m.Leaving m.Entries o.Phases o.Flags o.Leaving o.Entries = _
      unfold R_l10_LogSnapshots_0
      simp only [decide_eq_true (show (i : Int) < (rs.length : Int) by omega), inB_true (show (0 : Int) ≤ (i : Int) by omega) (show (i : Int) < (rs.length : Int) by omega), cond_true, Int.toNat_natCast, ha, Option.bind_some, bne_self_eq_false, cond_false, wrap1 hi (show rs.length ≤ small5 by unfold small5; omega)]
      rfl) (fun o _ => by
      show R_l10_LogSnapshots_0 rs (rs.length : Int) b.Floors b.Debounce b.Room b.Park b.Empty b.Full b.Over b.Cars m.Phases m.Flags m.Leaving m.Entries o.Phases o.Flags o.Leaving o.Entries = _
      unfold R_l10_LogSnapshots_0
      simp only [decide_eq_false (Int.lt_irrefl (rs.length : Int)), cond_false]
      rfl) rs.length 0 o (by omega) ⟨ho, by omega⟩
  have h' := iter_fuel h.1 (by omega)
  have e : ∀ (l : List Record) (m : Img), l.foldl applyV m = applyL m l := fun l => by
    induction l with
    | nil => exact fun m => rfl
    | cons r t ih => exact fun m => ih (applyV m r)
  rw [foldN_foldl applyV (Record.mk 0 0 0 0 0) rs rs.length 0 o (by omega), List.drop_zero, e] at h'
  exact h'
theorem law_LogSnapshots (n : Int) (l : List (Int)) (h_n : 0 ≤ n ∧ n < 256) (h_l : l.length ≤ maxLen ∧ ∀ e ∈ l, (0 ≤ e ∧ e < 256)) : F_l10_LogSnapshots n l = some ((true, ()), ()) := by
  obtain ⟨fl, ca, f1, f2, c1, c2, hbd⟩ := F_l10_Building_eq (n := n) (room := 200) h_n (by omega)
  have hcode := bld10_code f1 f2 c1 c2 (room := 200) (by omega)
  have hb : (bld10 fl ca 200).small := ⟨by show (2 : Int) ≤ (fl : Int); omega, by show (fl : Int) ≤ 8; omega⟩
  generalize bld10 fl ca 200 = b at *
  have hcars := code_cars hcode
  obtain ⟨m, hi, hm, hme⟩ := F_l10_Image_eq hb hcode (by omega) (u8s h_l.2)
  have hlp := hm.lp
  have hlf := hm.lf
  have hll := hm.ll
  have hf : m.fit := ⟨by omega, by omega, by omega, by omega⟩
  have hsn := log_Snapshot_eq hb hf
  rw [show snapR b m = snapV m by unfold snapR; rw [Img.ok_iff.2 hm]; rfl] at hsn
  have hini := log_Initial_eq b
  rw [hcode] at hini
  have hsl := snapV_len m
  have hlo := snap_loop hb m (snap_valid hm) (by omega) (initV_ok hcode) rfl
  rw [snap_again hm] at hlo
  have hsame := r10_Same_eq hf (c := m)
  rw [sameI_self] at hsame
  unfold F_l10_LogSnapshots
  rw [hbd]
  simp only [Option.bind_some, Bldg.tup]
  rw [hi]
  simp only [Option.bind_some, Img.tup, hsn, hini, beq_self_eq_true, cond_true]
  simp only [Bldg.tup, Img.tup] at hlo
  rw [hlo]
  have hw : IntKind.i64.wrap (3 * IntKind.i64.wrap ((b.Cars.length : Int) + (m.Entries.length : Int))) = ((snapV m).length : Int) := by
    rw [wrap_small (n := (b.Cars.length : Int) + (m.Entries.length : Int)) (by omega) (by omega), wrap_small (by omega) (by omega)]
    omega
  simp only [Option.bind_some, hw, beq_self_eq_true, cond_true, hsame, l10_sane]
end Go.Ovl
