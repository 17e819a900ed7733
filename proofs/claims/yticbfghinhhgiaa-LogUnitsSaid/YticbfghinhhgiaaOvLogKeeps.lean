/- LogKeeps: a journal that is only written by Append is replayed to its image; only registrations are refused, and these only without room. -/
import Derived.Test.YticbfghinhhgiaaOvJst
namespace Go.Ovl
open Go Go.Ab
set_option maxRecDepth 100000
theorem need_le {b : Bldg} {s : Sto} {m : Img} (hj : Jst b s m) {r : Record} (hv : validR b r = true) (hfull : fullV b m r = false) (hroom : b.Room ≤ 1000) : needV b s m r ≤ 100000 ∧ 0 ≤ needV b s m r := by
  have h := fits_next hj hv hfull
  unfold needV
  split <;> omega
section
variable {b : Bldg} (hb : b.small) (hroom : b.Room ≤ 1000) {rs : List Record} (hv : ∀ r ∈ rs, validR b r = true) (hl : rs.length ≤ 1000)
include hb hroom hv hl
theorem keeps_round {s : Sto} {m : Img} (hj : Jst b s m) {i : Nat} (hi : i < rs.length) :
    ∃ s' m', R_l10_LogKeeps_0 rs (i : Int) b.Floors b.Debounce b.Room b.Park b.Empty b.Full b.Over b.Cars s.h0 s.h1 s.sel m.Phases m.Flags m.Leaving m.Entries = some (.inl (((), (), (), rs, ((i + 1 : Nat) : Int), ()), (b.tup, s'.tup, m'.tup, ()))) ∧ Jst b s' m' := by
  have hcars := code_cars hj.img.code
  have hfit := hj.fits
  have hr := hv _ (getD_mem (Record.mk 0 0 0 0 0) hi)
  have hf := hj.ents.2
  have hp := hf.p
  have ha := log_Append_eq hb (by omega) s (m := m) hp (by omega) (rs.getD i (Record.mk 0 0 0 0 0)) (bud := 100000) (by omega)
  have ib : inB (i : Int) rs.length = true := inB_true (by omega) (by omega)
  have w := wrap1 hi (show rs.length ≤ small5 by unfold small5; omega)
  generalize hrec : rs.getD i (Record.mk 0 0 0 0 0) = r at *
  cases hfull : fullV b m r with
  | true =>
    rw [append_full hj hr hfull (by omega)] at ha
    simp only [appOut, Img.tup] at ha
    have hfull' := hfull
    unfold fullV roomV at hfull'
    rw [Img.ok_iff.2 hj.img, Bool.true_and, Bool.and_eq_true, Bool.and_eq_true, Bool.not_eq_true', Bool.not_eq_true', beq_iff_eq] at hfull'
    obtain ⟨k1, k2, k3⟩ := hfull'
    have hfind := r10_Find_eq m (by omega) r.Floor r.Dir
    have hf1 : findF r.Floor r.Dir m.Entries 0 = -1 := findF_none (has_false (c := keyE r.Floor r.Dir) hj.img.so k2)
    rw [hf1] at hfind
    rw [k1] at ha
    refine ⟨s, m, ?_, hj⟩
    unfold R_l10_LogKeeps_0
    simp only [decide_eq_true (show (i : Int) < (rs.length : Int) by omega), ib, Int.toNat_natCast, hrec, ha, w, beq_self_eq_true, cond_true, k1, bne_self_eq_false, cond_false, hfind, Option.bind_some, roomW (a := b.Cars.length) (b := m.Entries.length) (by omega) (by omega), k3]
    rfl
  | false =>
    obtain ⟨n1, n2⟩ := need_le hj hr hfull hroom
    rcases append_at hb hj hr hfull (bud := 100000) (by omega) with ⟨_, s', q2, q3⟩ | ⟨q1, _⟩
    · obtain ⟨a1, a2⟩ := applyV_ok hj.img hr
      have hmx : 1000 ≤ maxLen := by decide
      have hlp := hj.img.lp
      have hra := r10_Apply_eq hb m (by omega) r (by omega) (by omega)
      rw [applyR_ok hj.img hr] at hra
      have hs1 := r10_Same_eq q3.ents.2 (c := applyV m r)
      rw [sameI_self] at hs1
      have hc1 := ok_cur q3.ok
      have hrep := log_Replay_eq hb hj.img.code s' (by omega)
      rw [q3.replay hb] at hrep
      have o1 := q3.ok.2.2.1
      have o2 := q3.ok.2.2.2.1
      refine ⟨s', applyV m r, ?_, q3⟩
      rw [q2] at ha
      simp only [appOut, Img.tup] at ha
      unfold R_l10_LogKeeps_0
      simp only [decide_eq_true (show (i : Int) < (rs.length : Int) by omega), ib, cond_true, Int.toNat_natCast, hrec, ha, w, Img.tup, show ((0 : Int) == 7) = false from rfl, cond_false, hra, Option.bind_some, bne_self_eq_false, hs1, Bool.not_true, hrep]
      rw [decide_eq_false (show ¬ b.Room < (s'.h0.size : Int) by omega), decide_eq_false (show ¬ b.Room < (s'.h1.size : Int) by omega)]
      rfl
    · omega
theorem keeps_loop {s : Sto} {m : Img} (hj : Jst b s m) : L_l10_LogKeeps_0 (((), (), (), rs, (0 : Int), ()), (b.tup, s.tup, m.tup, ())) = some (.inl ((), ())) := by
  obtain ⟨y, h1, h2⟩ := loop_ex (step := fun x => R_l10_LogKeeps_0 x.1.2.2.2.1 x.1.2.2.2.2.1 x.2.1.1 x.2.1.2.1 x.2.1.2.2.1 x.2.1.2.2.2.1 x.2.1.2.2.2.2.1 x.2.1.2.2.2.2.2.1 x.2.1.2.2.2.2.2.2.1 x.2.1.2.2.2.2.2.2.2.1 x.2.2.1.1 x.2.2.1.2.1 x.2.2.1.2.2.1 x.2.2.2.1.1 x.2.2.2.1.2.1 x.2.2.2.1.2.2.1 x.2.2.2.1.2.2.2.1)
    (fun x => ∃ (i : Nat) (s : Sto) (m : Img), i ≤ rs.length ∧ Jst b s m ∧ x = (((), (), (), rs, (i : Int), ()), (b.tup, s.tup, m.tup, ()))) (fun y => y = .inl ((), ())) (fun x => rs.length - x.1.2.2.2.2.1.toNat) (by
    rintro _ ⟨i, s, m, hi, hj, rfl⟩
    by_cases g : i < rs.length
    · obtain ⟨s', m', e, hj'⟩ := keeps_round hb hroom hv hl hj g
      exact .inl ⟨_, e, ⟨i + 1, s', m', by omega, hj', rfl⟩, by show rs.length - Int.toNat ((i + 1 : Nat) : Int) < rs.length - Int.toNat (i : Int); omega⟩
    · refine .inr ⟨.inl ((), ()), ?_, rfl⟩
      show R_l10_LogKeeps_0 rs (i : Int) b.Floors b.Debounce b.Room b.Park b.Empty b.Full b.Over b.Cars s.h0 s.h1 s.sel m.Phases m.Flags m.Leaving m.Entries = _
      unfold R_l10_LogKeeps_0
      rw [decide_eq_false (show ¬ (i : Int) < (rs.length : Int) by omega)]
      rfl) (x := (((), (), (), rs, (0 : Int), ()), (b.tup, s.tup, m.tup, ()))) ⟨0, s, m, Nat.zero_le _, hj, rfl⟩ (by show rs.length - _ < _; omega)
  subst h2
  exact h1
end
theorem law_LogKeeps (n : Int) (room : Int) (l : List (Int)) (h_n : 0 ≤ n ∧ n < 256) (h_room : 0 ≤ room ∧ room < 256) (h_l : l.length ≤ maxLen ∧ ∀ e ∈ l, (0 ≤ e ∧ e < 256)) : F_l10_LogKeeps n room l = some ((true, ()), ()) := by
  obtain ⟨fl, ca, f1, f2, c1, c2, hbd⟩ := F_l10_Building_eq (n := n) (room := room) h_n h_room
  have hcode := bld10_code f1 f2 c1 c2 h_room
  have hb : (bld10 fl ca room).small := ⟨by show (2 : Int) ≤ (fl : Int); omega, by show (fl : Int) ≤ 8; omega⟩
  have hroom : (bld10 fl ca room).Room ≤ 1000 := by show 18 * (ca : Int) + 24 + room ≤ 1000; omega
  generalize bld10 fl ca room = b at *
  have hcars := code_cars hcode
  obtain ⟨rs, hrs, hrl, hv⟩ := Records_eq hb hcode (by omega) (l := l) h_l.2 (most := 100) (by omega)
  have hini := log_Initial_eq b
  rw [hcode] at hini
  have hlo := keeps_loop hb hroom hv (by omega) (Jst.first hcode)
  unfold F_l10_LogKeeps
  rw [hbd]
  simp only [Option.bind_some, Bldg.tup, hini, beq_self_eq_true, cond_true]
  rw [hrs]
  simp only [Option.bind_some, Img.tup]
  simp only [Bldg.tup, Img.tup, Sto.tup, Sto.no, noB] at hlo
  rw [hlo]
  simp only [Option.bind_some, l10_sane]
end Go.Ovl
