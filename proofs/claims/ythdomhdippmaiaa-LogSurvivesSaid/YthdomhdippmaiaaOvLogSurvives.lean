/- LogSurvives: behind an append that is cut at any unit, recovery finds the image, wherever it is cut itself, and the journal goes on from there. -/
import Derived.Test.YthdomhdippmaiaaOvRecov
import Derived.Test.YthdomhdippmaiaaOvNeed
namespace Go.Ovl
open Go Go.Ab
set_option maxRecDepth 100000
def fR : Record := ⟨5, 0, 0, 0, 1⟩
theorem fR_valid {b : Bldg} (hcode : b.code = 0) : validR b fR = true := by
  have := code_cars hcode
  unfold validR carR fR
  rw [hcode, inR_iff.2 ⟨Int.le_refl 0, show (0 : Int) ≤ (b.Cars.length : Int) - 1 by omega⟩]
  rfl
theorem fR_full (b : Bldg) (m : Img) : fullV b m fR = false := rfl
section
variable {b : Bldg} (hb : b.small) (hroom : b.Room ≤ 1000) {rs : List Record} (hv : ∀ r ∈ rs, validR b r = true) (hl : rs.length ≤ 1000) {x0 x1 x2 : Int} (hx : 0 ≤ x2 ∧ x2 < 256)
include hb hroom hv hl hx
theorem surv_round {s : Sto} {m : Img} (hj : Jst b s m) {left : Int} (hleft : 0 ≤ left ∧ left ≤ 1000) {i : Nat} (hi : i < rs.length) :
    (∃ s' m' left', R_l10_LogSurvives_0 rs left (i : Int) x0 x1 x2 b.Floors b.Debounce b.Room b.Park b.Empty b.Full b.Over b.Cars s.h0 s.h1 s.sel m.Phases m.Flags m.Leaving m.Entries = some (.inl (((), (), (), (), rs, left', ((i + 1 : Nat) : Int), ()), ((x0, x1, x2, ()), b.tup, s'.tup, m'.tup, ()))) ∧ Jst b s' m' ∧ 0 ≤ left' ∧ left' ≤ 1000) ∨
    R_l10_LogSurvives_0 rs left (i : Int) x0 x1 x2 b.Floors b.Debounce b.Room b.Park b.Empty b.Full b.Over b.Cars s.h0 s.h1 s.sel m.Phases m.Flags m.Leaving m.Entries = some (.inr (.inr ((true, ()), ()))) := by
  have hcode := hj.img.code
  have hcars := code_cars hcode
  have hfit := hj.fits
  have hr := hv _ (getD_mem (Record.mk 0 0 0 0 0) hi)
  have hp := hj.ents.2.p
  have hlp := hj.img.lp
  have hlf := hj.img.lf
  have ha := log_Append_eq hb (by omega) s (m := m) hp (by omega) (rs.getD i (Record.mk 0 0 0 0 0)) (bud := left) (by omega)
  have ib : inB (i : Int) rs.length = true := inB_true (by omega) (by omega)
  have w := wrap1 hi (show rs.length ≤ small5 by unfold small5; omega)
  generalize hrec : rs.getD i (Record.mk 0 0 0 0 0) = r at *
  cases hfull : fullV b m r with
  | true =>
    rw [append_full hj hr hfull (by omega)] at ha
    simp only [appOut, Img.tup] at ha
    refine .inl ⟨s, m, left, ?_, hj, hleft⟩
    unfold R_l10_LogSurvives_0
    simp only [decide_eq_true (show (i : Int) < (rs.length : Int) by omega), ib, Int.toNat_natCast, hrec, ha, w, cond_true, Option.bind_some, beq_self_eq_true]
    rfl
  | false =>
    obtain ⟨n1, n2⟩ := need_le hj hr hfull hroom
    rcases append_at hb hj hr hfull (bud := left) (by omega) with ⟨q1, s', q2, q3⟩ | ⟨q1, t, q2, q3, q4⟩
    · rw [q2] at ha
      simp only [appOut, Img.tup] at ha
      refine .inl ⟨s', applyV m r, left - needV b s m r, ?_, q3, by omega, by omega⟩
      unfold R_l10_LogSurvives_0
      simp only [decide_eq_true (show (i : Int) < (rs.length : Int) by omega), ib, Int.toNat_natCast, hrec, ha, w, cond_true, Option.bind_some, beq_self_eq_true, show ((0 : Int) == 7) = false from rfl, cond_false]
      rfl
    · right
      rw [q2] at ha
      simp only [appOut, Img.tup] at ha
      have hmx : 1000 ≤ maxLen := by decide
      have hra := r10_Apply_eq hb m (by omega) r (by omega) (by omega)
      rw [applyR_ok hj.img hr] at hra
      have hc1 := ok_cur q3
      have hrep1 := log_Replay_eq hb hcode t (by omega)
      rw [q4] at hrep1
      have hsm := r10_Same_eq hj.ents.2 (c := m)
      rw [sameI_self] at hsm
      -- the recovery that may be cut
      have hrc1 := log_Recover_eq hb hcode t (by omega) (bud := x2) (by omega)
      have hu : ∃ (u : Sto) (m1 : Img) (k e : Int), F_log_Recover b.Floors b.Debounce b.Room b.Park b.Empty b.Full b.Over b.Cars t.h0 t.h1 t.sel x2 = some (recOut u m1 k e) ∧ (e = 0 ∨ e = 8) ∧ u.ok b.Room ∧ replayV b u = m := by
        rcases recover_at hb q3 hj.img q4 hfit (bud := x2) (by omega) with ⟨_, u, p2, p3⟩ | ⟨_, u, p2, p3, p4⟩
        · rw [p2] at hrc1
          exact ⟨u, _, _, _, hrc1, .inl rfl, p3.ok, p3.replay hb⟩
        · rw [p2] at hrc1
          exact ⟨u, _, _, _, hrc1, .inr rfl, p3, p4⟩
      obtain ⟨u, m1, k1, e1, hu1, hu2, hu3, hu4⟩ := hu
      have hc2 := ok_cur hu3
      have hrep2 := log_Replay_eq hb hcode u (by omega)
      rw [hu4] at hrep2
      have hrc2 := log_Recover_eq hb hcode u (by omega) (bud := 100000) (by omega)
      rcases recover_at hb hu3 hj.img hu4 hfit (bud := 100000) (by omega) with ⟨_, v, p2, p3⟩ | ⟨p1, _⟩
      · rw [p2] at hrc2
        simp only [recOut, Img.tup] at hrc2 hu1
        have hc3 := ok_cur p3.ok
        have hrep3 := log_Replay_eq hb hcode v (by omega)
        rw [p3.replay hb] at hrep3
        have hfv := fR_valid hcode
        have hap : F_log_Append b.Floors b.Debounce b.Room b.Park b.Empty b.Full b.Over b.Cars v.h0 v.h1 v.sel m.Phases m.Flags m.Leaving m.Entries 5 0 0 0 1 100000 = _ := log_Append_eq hb (by omega) v (m := m) hp (by omega) fR (bud := 100000) (by omega)
        obtain ⟨k2, k3⟩ := need_le p3 hfv (fR_full b m) hroom
        rcases append_at hb p3 hfv (fR_full b m) (bud := 100000) (by omega) with ⟨_, z, z2, z3⟩ | ⟨z1, _⟩
        · rw [z2] at hap
          simp only [appOut, Img.tup] at hap
          have hc4 := ok_cur z3.ok
          have hrep4 := log_Replay_eq hb hcode z (by omega)
          rw [z3.replay hb] at hrep4
          have hse := r10_Same_eq z3.ents.2 (c := applyV m fR)
          rw [sameI_self] at hse
          have hfl : (applyV m fR).Flags = m.Flags.set 0 true := rfl
          have hl0 : (applyV m fR).Flags.length = b.Cars.length := by rw [hfl, List.length_set]; omega
          have hg0 : (applyV m fR).Flags.getD (Int.toNat 0) false = true := by
            rw [hfl]
            cases hm : m.Flags with
            | nil => rw [hm] at hlf; simp at hlf; omega
            | cons a t => rfl
          have ib0 : inB 0 (applyV m fR).Flags.length = true := inB_true (by omega) (by omega)
          have wx : IntKind.i64.wrap x2 = x2 := wrap_small (by omega) (by omega)
          unfold R_l10_LogSurvives_0
          simp only [decide_eq_true (show (i : Int) < (rs.length : Int) by omega), ib, Int.toNat_natCast, hrec, ha, cond_true, Option.bind_some, show ((8 : Int) == 7) = false from rfl, show ((8 : Int) == 0) = false from rfl, cond_false, hra, hrep1, bne_self_eq_false, Img.tup, hsm, Bool.not_true, wx, hu1]
          have tail : ((F_log_Recover b.Floors b.Debounce b.Room b.Park b.Empty b.Full b.Over b.Cars u.h0 u.h1 u.sel 100000).bind fun y14 =>
                bif (y14.1.2.2.2.1 != (0 : Int)) then
                  some (Sum.inr (Sum.inr ((false, ()), ())))
                else
                  (F_r10_Same y14.2.2.1.1 y14.2.2.1.2.1 y14.2.2.1.2.2.1 y14.2.2.1.2.2.2.1 m.Phases m.Flags m.Leaving m.Entries).bind fun y15 =>
                  bif (!y15.1.1) then
                    some (Sum.inr (Sum.inr ((false, ()), ())))
                  else
                    (F_log_Replay b.Floors b.Debounce b.Room b.Park b.Empty b.Full b.Over b.Cars y14.2.1.1 y14.2.1.2.1 y14.2.1.2.2.1).bind fun y16 =>
                    (F_r10_Same y16.2.1.1 y16.2.1.2.1 y16.2.1.2.2.1 y16.2.1.2.2.2.1 m.Phases m.Flags m.Leaving m.Entries).bind fun y17 =>
                    bif (!y17.1.1) then
                      some (Sum.inr (Sum.inr ((false, ()), ())))
                    else
                      (F_log_Append b.Floors b.Debounce b.Room b.Park b.Empty b.Full b.Over b.Cars y14.2.1.1 y14.2.1.2.1 y14.2.1.2.2.1 y14.2.2.1.1 y14.2.2.1.2.1 y14.2.2.1.2.2.1 y14.2.2.1.2.2.2.1 (5 : Int) (0 : Int) (0 : Int) (0 : Int) (1 : Int) (100000 : Int)).bind fun y18 =>
                      Option.bind (bif (y18.1.2.2.2.1 == (0 : Int)) then
                            bif (decide ((0 : Int) < ((List.length y18.2.2.1.2.1 : Nat) : Int))) then
                              bif (inB (0 : Int) (List.length y18.2.2.1.2.1)) then
                                bif (List.getD y18.2.2.1.2.1 (Int.toNat (0 : Int)) false) then
                                  (F_log_Replay b.Floors b.Debounce b.Room b.Park b.Empty b.Full b.Over b.Cars y18.2.1.1 y18.2.1.2.1 y18.2.1.2.2.1).bind fun y19 =>
                                  (F_r10_Same y19.2.1.1 y19.2.1.2.1 y19.2.1.2.2.1 y19.2.1.2.2.2.1 y18.2.2.1.1 y18.2.2.1.2.1 y18.2.2.1.2.2.1 y18.2.2.1.2.2.2.1).bind fun y20 =>
                                  bif y20.1.1 then
                                    (F_l10_sane).bind fun y21 =>
                                    some ((y21.1.1, ()), ())
                                  else
                                    some ((false, ()), ())
                                else
                                  some ((false, ()), ())
                              else
                                none
                            else
                              some ((false, ()), ())
                          else
                            some ((false, ()), ())) fun y22 =>
                      some (Sum.inr (Sum.inr ((y22.1.1, ()), ())))) = (some (.inr (.inr ((true, ()), ()))) : Option (Sum ((Unit × Unit × Unit × Unit × List (Record) × Int × Int × Unit) × ((Int × Int × Int × Unit) × (Int × Int × Int × Int × Nat × Nat × Nat × List (Car) × Unit) × (ByteArray × ByteArray × Int × Unit) × (List (Int) × List (Bool) × List (Bool) × List (Entry) × Unit) × Unit)) ((Unit × Unit) ⊕ ((Bool × Unit) × Unit)))) := by
            rw [hrc2]
            simp only [Option.bind_some, bne_self_eq_false, cond_false, hsm, Bool.not_true, hrep3, Img.tup, hap, beq_self_eq_true, cond_true, hrep4, hse, l10_sane]
            rw [decide_eq_true (show (0 : Int) < (((applyV m fR).Flags.length : Nat) : Int) by omega), ib0, hg0]
            rfl
          rcases hu2 with rfl | rfl
          · simp only [bne_self_eq_false, cond_false, hrep2, Option.bind_some, Img.tup, hsm, Bool.not_true]
            exact tail
          · simp only [show ((8 : Int) != 0) = true from rfl, cond_true, bne_self_eq_false, cond_false, hrep2, Option.bind_some, Img.tup, hsm, Bool.not_true]
            exact tail
        · omega
      · omega
end
theorem law_LogSurvives (n : Int) (l : List (Int)) (x_f0 : Int) (x_f1 : Int) (x_f2 : Int) (h_n : 0 ≤ n ∧ n < 256) (h_l : l.length ≤ maxLen ∧ ∀ e ∈ l, (0 ≤ e ∧ e < 256)) (h_x_f0 : 0 ≤ x_f0 ∧ x_f0 < 256) (h_x_f1 : 0 ≤ x_f1 ∧ x_f1 < 256) (h_x_f2 : 0 ≤ x_f2 ∧ x_f2 < 256) : F_l10_LogSurvives n l x_f0 x_f1 x_f2 = some ((true, ()), ()) := by
  obtain ⟨fl, ca, f1, f2, c1, c2, hbd⟩ := F_l10_Building_eq (n := n) (room := x_f0) h_n h_x_f0
  have hcode := bld10_code f1 f2 c1 c2 h_x_f0
  have hb : (bld10 fl ca x_f0).small := ⟨by show (2 : Int) ≤ (fl : Int); omega, by show (fl : Int) ≤ 8; omega⟩
  have hroom : (bld10 fl ca x_f0).Room ≤ 1000 := by show 18 * (ca : Int) + 24 + x_f0 ≤ 1000; omega
  generalize bld10 fl ca x_f0 = b at *
  have hcars := code_cars hcode
  obtain ⟨rs, hrs, hrl, hv⟩ := Records_eq hb hcode (by omega) (l := l) h_l.2 (most := 60) (by omega)
  have hini := log_Initial_eq b
  rw [hcode] at hini
  have hlo : ∃ y, L_l10_LogSurvives_0 (((), (), (), (), rs, x_f1 * 3, (0 : Int), ()), ((x_f0, x_f1, x_f2, ()), b.tup, Sto.no.tup, (initV b).tup, ())) = some y ∧ (y = .inl ((), ()) ∨ y = .inr ((true, ()), ())) := by
    refine loop_ex (step := fun x => R_l10_LogSurvives_0 x.1.2.2.2.2.1 x.1.2.2.2.2.2.1 x.1.2.2.2.2.2.2.1 x.2.1.1 x.2.1.2.1 x.2.1.2.2.1 x.2.2.1.1 x.2.2.1.2.1 x.2.2.1.2.2.1 x.2.2.1.2.2.2.1 x.2.2.1.2.2.2.2.1 x.2.2.1.2.2.2.2.2.1 x.2.2.1.2.2.2.2.2.2.1 x.2.2.1.2.2.2.2.2.2.2.1 x.2.2.2.1.1 x.2.2.2.1.2.1 x.2.2.2.1.2.2.1 x.2.2.2.2.1.1 x.2.2.2.2.1.2.1 x.2.2.2.2.1.2.2.1 x.2.2.2.2.1.2.2.2.1)
      (fun x => ∃ (i : Nat) (s : Sto) (m : Img) (left : Int), i ≤ rs.length ∧ Jst b s m ∧ (0 ≤ left ∧ left ≤ 1000) ∧ x = (((), (), (), (), rs, left, (i : Int), ()), ((x_f0, x_f1, x_f2, ()), b.tup, s.tup, m.tup, ()))) (fun y => y = .inl ((), ()) ∨ y = .inr ((true, ()), ())) (fun x => rs.length - x.1.2.2.2.2.2.2.1.toNat) ?_ (x := (((), (), (), (), rs, x_f1 * 3, (0 : Int), ()), ((x_f0, x_f1, x_f2, ()), b.tup, Sto.no.tup, (initV b).tup, ()))) ⟨0, Sto.no, initV b, x_f1 * 3, Nat.zero_le _, Jst.first hcode, by omega, rfl⟩ (by show rs.length - _ < _; omega)
    rintro _ ⟨i, s, m, left, hi, hj, hle, rfl⟩
    by_cases g : i < rs.length
    · rcases surv_round hb hroom hv (by omega) h_x_f2 (x0 := x_f0) (x1 := x_f1) hj hle g with ⟨s', m', left', e, hj', hl'⟩ | e
      · exact .inl ⟨_, e, ⟨i + 1, s', m', left', by omega, hj', hl', rfl⟩, by show rs.length - Int.toNat ((i + 1 : Nat) : Int) < rs.length - Int.toNat (i : Int); omega⟩
      · exact .inr ⟨_, e, .inr rfl⟩
    · refine .inr ⟨.inl ((), ()), ?_, .inl rfl⟩
      show R_l10_LogSurvives_0 rs left (i : Int) x_f0 x_f1 x_f2 b.Floors b.Debounce b.Room b.Park b.Empty b.Full b.Over b.Cars s.h0 s.h1 s.sel m.Phases m.Flags m.Leaving m.Entries = _
      unfold R_l10_LogSurvives_0
      rw [decide_eq_false (show ¬ (i : Int) < (rs.length : Int) by omega)]
      rfl
  obtain ⟨y, hlo1, hlo2⟩ := hlo
  unfold F_l10_LogSurvives
  rw [hbd]
  simp only [Option.bind_some, Bldg.tup, hini, beq_self_eq_true, cond_true]
  rw [hrs]
  simp only [Option.bind_some, Img.tup]
  rw [wrap_small (n := x_f1) (by omega) (by omega), wrap_small (n := x_f1 * 3) (by omega) (by omega)]
  simp only [Bldg.tup, Img.tup, Sto.tup, Sto.no, noB] at hlo1
  rw [hlo1]
  rcases hlo2 with rfl | rfl
  · simp only [Option.bind_some, l10_sane]
  · rfl
end Go.Ovl
