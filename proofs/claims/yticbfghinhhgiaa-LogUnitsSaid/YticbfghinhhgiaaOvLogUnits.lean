/- LogUnits: for every unit at which an append is cut, the record counts exactly if all units were left. -/
import Derived.Test.YticbfghinhhgiaaOvLogKeeps
namespace Go.Ovl
open Go Go.Ab
set_option maxRecDepth 100000
theorem r08_cur_eq (h0 h1 : ByteArray) (sel : Int) : F_r08_Current h0 h1 sel = some ((Sto.cur ⟨h0, h1, sel⟩, ()), ()) := by
  unfold F_r08_Current Sto.cur
  by_cases h : sel = 1 <;> simp [h, beq_f]
section
variable {b : Bldg} (hb : b.small) (hroom : b.Room ≤ 1000) {rs : List Record} (hv : ∀ r ∈ rs, validR b r = true) (hl : rs.length ≤ 1000)
include hb hroom hv hl
theorem units_round {s : Sto} {m : Img} (hj : Jst b s m) {i : Nat} (hi : i < rs.length) :
    ∃ s' m', R_l10_LogUnits_0 rs (i : Int) b.Floors b.Debounce b.Room b.Park b.Empty b.Full b.Over b.Cars s.h0 s.h1 s.sel m.Phases m.Flags m.Leaving m.Entries = some (.inl (((), (), (), rs, ((i + 1 : Nat) : Int), ()), (b.tup, s'.tup, m'.tup, ()))) ∧ Jst b s' m' := by
  have hcars := code_cars hj.img.code
  have hfit := hj.fits
  have hr := hv _ (getD_mem (Record.mk 0 0 0 0 0) hi)
  have hp := hj.ents.2.p
  have ha := log_Append_eq hb (by omega) s (m := m) hp (by omega) (rs.getD i (Record.mk 0 0 0 0 0)) (bud := 100000) (by omega)
  have ib : inB (i : Int) rs.length = true := inB_true (by omega) (by omega)
  have w := wrap1 hi (show rs.length ≤ small5 by unfold small5; omega)
  generalize hrec : rs.getD i (Record.mk 0 0 0 0 0) = r at *
  cases hfull : fullV b m r with
  | true =>
    rw [append_full hj hr hfull (by omega)] at ha
    simp only [appOut, Img.tup] at ha
    refine ⟨s, m, ?_, hj⟩
    unfold R_l10_LogUnits_0
    simp only [decide_eq_true (show (i : Int) < (rs.length : Int) by omega), ib, Int.toNat_natCast, hrec, ha, w, cond_true, Option.bind_some, show ((7 : Int) == 0) = false from rfl, cond_false]
    rfl
  | false =>
    obtain ⟨n1, n2⟩ := need_le hj hr hfull hroom
    rcases append_at hb hj hr hfull (bud := 100000) (by omega) with ⟨_, s', q2, q3⟩ | ⟨q1, _⟩
    · rw [q2] at ha
      simp only [appOut, Img.tup] at ha
      refine ⟨s', applyV m r, ?_, q3⟩
      unfold R_l10_LogUnits_0
      simp only [decide_eq_true (show (i : Int) < (rs.length : Int) by omega), ib, Int.toNat_natCast, hrec, ha, w, cond_true, Option.bind_some, beq_self_eq_true]
      rfl
    · omega
theorem units_loop {s : Sto} {m : Img} (hj : Jst b s m) : ∃ s' m', L_l10_LogUnits_0 (((), (), (), rs, (0 : Int), ()), (b.tup, s.tup, m.tup, ())) = some (((), (), (), ()), (b.tup, s'.tup, m'.tup, ())) ∧ Jst b s' m' := by
  obtain ⟨y, h1, s', m', h2, h3⟩ := loop_ex (step := fun x => R_l10_LogUnits_0 x.1.2.2.2.1 x.1.2.2.2.2.1 x.2.1.1 x.2.1.2.1 x.2.1.2.2.1 x.2.1.2.2.2.1 x.2.1.2.2.2.2.1 x.2.1.2.2.2.2.2.1 x.2.1.2.2.2.2.2.2.1 x.2.1.2.2.2.2.2.2.2.1 x.2.2.1.1 x.2.2.1.2.1 x.2.2.1.2.2.1 x.2.2.2.1.1 x.2.2.2.1.2.1 x.2.2.2.1.2.2.1 x.2.2.2.1.2.2.2.1)
    (fun x => ∃ (i : Nat) (s : Sto) (m : Img), i ≤ rs.length ∧ Jst b s m ∧ x = (((), (), (), rs, (i : Int), ()), (b.tup, s.tup, m.tup, ()))) (fun y => ∃ (s : Sto) (m : Img), y = (((), (), (), ()), (b.tup, s.tup, m.tup, ())) ∧ Jst b s m) (fun x => rs.length - x.1.2.2.2.2.1.toNat) (by
    rintro _ ⟨i, s, m, hi, hj, rfl⟩
    by_cases g : i < rs.length
    · obtain ⟨s', m', e, hj'⟩ := units_round hb hroom hv hl hj g
      exact .inl ⟨_, e, ⟨i + 1, s', m', by omega, hj', rfl⟩, by show rs.length - Int.toNat ((i + 1 : Nat) : Int) < rs.length - Int.toNat (i : Int); omega⟩
    · refine .inr ⟨_, ?_, s, m, rfl, hj⟩
      show R_l10_LogUnits_0 rs (i : Int) b.Floors b.Debounce b.Room b.Park b.Empty b.Full b.Over b.Cars s.h0 s.h1 s.sel m.Phases m.Flags m.Leaving m.Entries = _
      unfold R_l10_LogUnits_0
      rw [decide_eq_false (show ¬ (i : Int) < (rs.length : Int) by omega)]
      rfl) (x := (((), (), (), rs, (0 : Int), ()), (b.tup, s.tup, m.tup, ()))) ⟨0, s, m, Nat.zero_le _, hj, rfl⟩ (by show rs.length - _ < _; omega)
  subst h2
  exact ⟨s', m', h1, h3⟩
end
def qR : Record := ⟨4, 0, 0, 0, 1⟩
theorem qR_valid {b : Bldg} (hcode : b.code = 0) : validR b qR = true := by
  have := code_cars hcode
  unfold validR carR qR
  rw [hcode, inR_iff.2 ⟨Int.le_refl 0, show (0 : Int) ≤ (b.Cars.length : Int) - 1 by omega⟩]
  rfl
theorem qR_full (b : Bldg) (m : Img) : fullV b m qR = false := rfl
theorem cut_round {b : Bldg} (hb : b.small) (hroom : b.Room ≤ 1000) {s : Sto} {m : Img} (hj : Jst b s m) {k : Nat} {need : Int} (hneed : need = needV b s m qR) (hk : (k : Int) ≤ need + 1) :
    R_l10_LogUnits_1 need (k : Int) b.Floors b.Debounce b.Room b.Park b.Empty b.Full b.Over b.Cars s.h0 s.h1 s.sel m.Phases m.Flags m.Leaving m.Entries 4 0 0 0 1 = some (.inl (((), (), (), (), need, ((k + 1 : Nat) : Int), ()), (b.tup, s.tup, m.tup, (4, 0, 0, 0, 1, ()), ()))) := by
  have hcars := code_cars hj.img.code
  have hfit := hj.fits
  have hr := qR_valid hj.img.code
  have hp := hj.ents.2.p
  have hlp := hj.img.lp
  obtain ⟨n1, n2⟩ := need_le hj hr (qR_full b m) hroom
  rw [← hneed] at n1 n2
  have ha : F_log_Append b.Floors b.Debounce b.Room b.Park b.Empty b.Full b.Over b.Cars s.h0 s.h1 s.sel m.Phases m.Flags m.Leaving m.Entries 4 0 0 0 1 (k : Int) = _ := log_Append_eq hb (by omega) s (m := m) hp (by omega) qR (bud := (k : Int)) (by omega)
  have w : IntKind.i64.wrap (need + 1) = need + 1 := wrap_small (by omega) (by omega)
  have w2 : IntKind.i64.wrap ((k : Int) + 1) = ((k + 1 : Nat) : Int) := by rw [wrap_small (by omega) (by omega)]; omega
  rcases append_at hb hj hr (qR_full b m) (bud := (k : Int)) (by omega) with ⟨q1, s', q2, q3⟩ | ⟨q1, s', q2, q3, q4⟩
  · rw [q2, ← hneed] at ha
    rw [← hneed] at q1
    simp only [appOut, Img.tup] at ha
    have hc1 := ok_cur q3.ok
    have hrep := log_Replay_eq hb hj.img.code s' (by omega)
    rw [q3.replay hb] at hrep
    have hs1 := r10_Same_eq q3.ents.2 (c := applyV m qR)
    rw [sameI_self] at hs1
    have hph : (applyV m qR).Phases = m.Phases.set 0 1 := rfl
    have hl0 : (applyV m qR).Phases.length = b.Cars.length := by rw [hph, List.length_set]; omega
    have hg0 : (applyV m qR).Phases.getD (Int.toNat 0) 0 = 1 := by
      rw [hph]
      cases hm : m.Phases with
      | nil => rw [hm] at hlp; simp at hlp; omega
      | cons a t => rfl
    have w3 : IntKind.i64.wrap ((k : Int) - need) = (k : Int) - need := wrap_small (by omega) (by omega)
    unfold R_l10_LogUnits_1
    simp only [w, decide_eq_true hk, cond_true, ha, Option.bind_some, hrep, decide_eq_false (show ¬ (k : Int) < need by omega), cond_false, decide_eq_true (show need ≤ (k : Int) by omega), bne_self_eq_false, w3, Img.tup, hs1, Bool.not_true]
    rw [beq_f (show ¬ ((((applyV m qR).Phases.length : Nat) : Int)) = 0 by omega), inB_true (show (0 : Int) ≤ 0 by omega) (show (0 : Int) < (((applyV m qR).Phases.length : Nat) : Int) by omega), hg0]
    simp only [cond_false, cond_true, Option.bind_some, bne_self_eq_false, w2]
    rfl
  · rw [q2] at ha
    rw [← hneed] at q1
    simp only [appOut, Img.tup] at ha
    have hc1 := ok_cur q3
    have hrep := log_Replay_eq hb hj.img.code s' (by omega)
    rw [q4] at hrep
    have hs1 := r10_Same_eq hj.ents.2 (c := m)
    rw [sameI_self] at hs1
    unfold R_l10_LogUnits_1
    simp only [w, decide_eq_true hk, cond_true, ha, Option.bind_some, hrep, decide_eq_true q1, bne_self_eq_false, cond_false, Img.tup, hs1, Bool.not_true, decide_eq_false (show ¬ need ≤ (k : Int) by omega), w2]
    rfl
theorem cut_loop {b : Bldg} (hb : b.small) (hroom : b.Room ≤ 1000) {s : Sto} {m : Img} (hj : Jst b s m) : L_l10_LogUnits_1 (((), (), (), (), needV b s m qR, (0 : Int), ()), (b.tup, s.tup, m.tup, (4, 0, 0, 0, 1, ()), ())) = some (.inl ((), ())) := by
  obtain ⟨n1, n2⟩ := need_le hj (qR_valid hj.img.code) (qR_full b m) hroom
  have h := iter_range (step := fun x => R_l10_LogUnits_1 x.1.2.2.2.2.1 x.1.2.2.2.2.2.1 x.2.1.1 x.2.1.2.1 x.2.1.2.2.1 x.2.1.2.2.2.1 x.2.1.2.2.2.2.1 x.2.1.2.2.2.2.2.1 x.2.1.2.2.2.2.2.2.1 x.2.1.2.2.2.2.2.2.2.1 x.2.2.1.1 x.2.2.1.2.1 x.2.2.1.2.2.1 x.2.2.2.1.1 x.2.2.2.1.2.1 x.2.2.2.1.2.2.1 x.2.2.2.1.2.2.2.1 x.2.2.2.2.1.1 x.2.2.2.2.1.2.1 x.2.2.2.2.1.2.2.1 x.2.2.2.2.1.2.2.2.1 x.2.2.2.2.1.2.2.2.2.1) ((needV b s m qR).toNat + 2)
    (fun k (_ : Unit) => (((), (), (), (), needV b s m qR, (k : Int), ()), (b.tup, s.tup, m.tup, ((4 : Int), (0 : Int), (0 : Int), (0 : Int), (1 : Int), ()), ()))) (fun _ u => u) (fun _ _ => True) (fun _ => Sum.inl ((), ())) (fun k u hk _ => ⟨cut_round hb hroom hj (need := needV b s m qR) rfl (show (k : Int) ≤ needV b s m qR + 1 by omega), trivial⟩) (fun u _ => by
      show R_l10_LogUnits_1 (needV b s m qR) (((needV b s m qR).toNat + 2 : Nat) : Int) b.Floors b.Debounce b.Room b.Park b.Empty b.Full b.Over b.Cars s.h0 s.h1 s.sel m.Phases m.Flags m.Leaving m.Entries 4 0 0 0 1 = _
      unfold R_l10_LogUnits_1
      rw [wrap_small (n := needV b s m qR + 1) (by omega) (by omega), decide_eq_false (show ¬ (((needV b s m qR).toNat + 2 : Nat) : Int) ≤ needV b s m qR + 1 by omega)]
      rfl) ((needV b s m qR).toNat + 2) 0 () (by omega) trivial
  exact iter_fuel h.1 (by omega)
theorem law_LogUnits (n : Int) (l : List (Int)) (h_n : 0 ≤ n ∧ n < 256) (h_l : l.length ≤ maxLen ∧ ∀ e ∈ l, (0 ≤ e ∧ e < 256)) : F_l10_LogUnits n l = some ((true, ()), ()) := by
  obtain ⟨fl, ca, f1, f2, c1, c2, hbd⟩ := F_l10_Building_eq (n := n) (room := 40) h_n (by omega)
  have hcode := bld10_code f1 f2 c1 c2 (room := 40) (by omega)
  have hb : (bld10 fl ca 40).small := ⟨by show (2 : Int) ≤ (fl : Int); omega, by show (fl : Int) ≤ 8; omega⟩
  have hroom : (bld10 fl ca 40).Room ≤ 1000 := by show 18 * (ca : Int) + 24 + 40 ≤ 1000; omega
  generalize bld10 fl ca 40 = b at *
  have hcars := code_cars hcode
  obtain ⟨rs, hrs, hrl, hv⟩ := Records_eq hb hcode (by omega) (l := l) h_l.2 (most := 30) (by omega)
  have hini := log_Initial_eq b
  rw [hcode] at hini
  obtain ⟨s, m, hlo, hj⟩ := units_loop hb hroom hv (by omega) (Jst.first hcode)
  have hcut := cut_loop hb hroom hj
  have hcur := ok_cur hj.ok
  have hrm := code_room hcode
  have hfit := hj.fits
  have hlp := hj.img.lp
  have hmx : 1000 ≤ maxLen := by decide
  have hq := qR_valid hcode
  obtain ⟨a1, a2⟩ := applyV_ok hj.img hq
  have hfit2 := fits_next hj hq (qR_full b m)
  have hra := r10_Apply_eq hb m (by omega) qR (by omega) (by omega)
  rw [applyR_ok hj.img hq] at hra
  have hlp2 := a1.lp
  have hlf2 := a1.lf
  have hll2 := a1.ll
  have hsn := r10_Snapshot_eq hb (m := applyV m qR) ⟨by omega, by omega, by omega, by omega⟩
  rw [show snapR b (applyV m qR) = snapV (applyV m qR) by unfold snapR; rw [Img.ok_iff.2 a1]; rfl] at hsn
  have hsl := snapV_len (applyV m qR)
  unfold F_l10_LogUnits
  rw [hbd]
  simp only [Option.bind_some, Bldg.tup, hini, beq_self_eq_true, cond_true]
  rw [hrs]
  simp only [Option.bind_some, Img.tup]
  simp only [Bldg.tup, Img.tup, Sto.tup, Sto.no, noB] at hlo
  rw [hlo]
  simp only [Option.bind_some, r08_cur_eq]
  rw [show Sto.cur ⟨s.h0, s.h1, s.sel⟩ = s.cur from rfl, wrap_small (n := (s.cur.size : Int) + 6) (by omega) (by omega)]
  have hchoose : (bif decide (b.Room < (s.cur.size : Int) + 6) then
        (F_r10_Apply b.Floors b.Debounce b.Room b.Park b.Empty b.Full b.Over b.Cars m.Phases m.Flags m.Leaving m.Entries (4 : Int) (0 : Int) (0 : Int) (0 : Int) (1 : Int)).bind fun y6 =>
        (F_r10_Snapshot b.Floors b.Debounce b.Room b.Park b.Empty b.Full b.Over b.Cars y6.2.1.1 y6.2.1.2.1 y6.2.1.2.2.1 y6.2.1.2.2.2.1).bind fun y7 =>
        some (((), (), (), (), (IntKind.i64.wrap ((2 : Int) + (IntKind.i64.wrap ((6 : Int) * ((List.length y7.1.1 : Nat) : Int))))), ()), ((b.Floors, b.Debounce, b.Room, b.Park, b.Empty, b.Full, b.Over, b.Cars, ()), (s.h0, s.h1, s.sel, ()), (m.Phases, m.Flags, m.Leaving, m.Entries, ()), ((4 : Int), (0 : Int), (0 : Int), (0 : Int), (1 : Int), ()), ()))
      else
        some (((), (), (), (), (6 : Int), ()), ((b.Floors, b.Debounce, b.Room, b.Park, b.Empty, b.Full, b.Over, b.Cars, ()), (s.h0, s.h1, s.sel, ()), (m.Phases, m.Flags, m.Leaving, m.Entries, ()), ((4 : Int), (0 : Int), (0 : Int), (0 : Int), (1 : Int), ()), ()))) =
      some (((), (), (), (), needV b s m qR, ()), ((b.Floors, b.Debounce, b.Room, b.Park, b.Empty, b.Full, b.Over, b.Cars, ()), (s.h0, s.h1, s.sel, ()), (m.Phases, m.Flags, m.Leaving, m.Entries, ()), ((4 : Int), (0 : Int), (0 : Int), (0 : Int), (1 : Int), ()), ())) := by
    unfold needV
    by_cases g : (s.cur.size : Int) + 6 ≤ b.Room
    · rw [if_pos g, decide_eq_false (show ¬ b.Room < (s.cur.size : Int) + 6 by omega)]; rfl
    · rw [if_neg g, decide_eq_true (show b.Room < (s.cur.size : Int) + 6 by omega)]
      rw [show F_r10_Apply b.Floors b.Debounce b.Room b.Park b.Empty b.Full b.Over b.Cars m.Phases m.Flags m.Leaving m.Entries (4 : Int) (0 : Int) (0 : Int) (0 : Int) (1 : Int) = _ from hra]
      simp only [cond_true, Option.bind_some, Img.tup, hsn]
      rw [wrap_small (n := (6 : Int) * ((snapV (applyV m qR)).length : Int)) (by omega) (by omega), wrap_small (by omega) (by omega), show (2 : Int) + 6 * ((snapV (applyV m qR)).length : Int) = 2 + 18 * ((b.Cars.length : Int) + ((applyV m qR).Entries.length : Int)) by omega]
  rw [hchoose]
  simp only [Option.bind_some]
  simp only [Bldg.tup, Img.tup, Sto.tup] at hcut
  rw [hcut]
  simp only [Option.bind_some, l10_sane]
end Go.Ovl
