/- LogActs: what Append, Compact, Recover and Replay do to any store with any image, under any budget: the program does what the reference does. -/
import Derived.Test.YthdomhdippmaiaaOvRefJ
namespace Go.Ovl
open Go Go.Ab
set_option maxRecDepth 100000
theorem recover_fit {b : Bldg} (hcode : b.code = 0) (s : Sto) (hs : s.cur.size ≤ 5000) (bud : Int) : (recoverV b s bud).2.1.fit := by
  obtain ⟨_, _, hf⟩ := replay_ok hcode s (by omega)
  unfold recoverV
  cases (compactV b s (replayV b s) bud).2.2 != 0 with
  | true => exact ⟨Nat.zero_le _, Nat.zero_le _, Nat.zero_le _, Nat.zero_le _⟩
  | false => exact hf
theorem append_fit {b : Bldg} (s : Sto) {m : Img} (hf : m.fit) (hl : m.Entries.length ≤ 900) (r : Record) (bud : Int) : (appendV b s m r bud).2.1.fit := by
  have hn : Img.none.fit := ⟨Nat.zero_le _, Nat.zero_le _, Nat.zero_le _, Nat.zero_le _⟩
  unfold appendV
  cases hq : m.ok b && validR b r with
  | false => exact hn
  | true =>
    rw [Bool.and_eq_true] at hq
    have hm := Img.ok_iff.1 hq.1
    obtain ⟨hm2, hl2⟩ := applyV_ok hm hq.2
    have hcars := code_cars hm.code
    have g1 := hm2.lp
    have g2 := hm2.lf
    have g3 := hm2.ll
    have hf2 : (applyV m r).fit := ⟨by omega, by omega, by omega, by omega⟩
    cases decide (s.ok b.Room)
    · exact hn
    cases decide (bud < 0)
    · cases fullV b m r
      · cases (putV b s m r bud).2.2 == 0
        · cases (putV b s m r bud).2.2 == 8
          · exact hn
          · exact hf
        · exact hf2
      · exact hn
    · exact hn
theorem acts_tail {b : Bldg} (hb : b.small) (hcode : b.code = 0) (s : Sto) (hs : s.cur.size ≤ 5000) {m : Img} (hf : m.fit) (hl : m.Entries.length ≤ 900) (q : Record) {bud : Int} (hbud : bud < 9223372036854775808) (rs : List Record) {k : Int} (hk : 0 ≤ k ∧ k < 4)
    (X0 X1 : ByteArray) (X2 X3 X4 X5 X6 X7 X8 : Int) :
    (((F_log_Append b.Floors b.Debounce b.Room b.Park b.Empty b.Full b.Over b.Cars s.h0 s.h1 s.sel m.Phases m.Flags m.Leaving m.Entries q.Kind q.Floor q.Dir q.Car q.Value bud).bind fun y5 =>
    (F_r10_Append b.Floors b.Debounce b.Room b.Park b.Empty b.Full b.Over b.Cars s.h0 s.h1 s.sel m.Phases m.Flags m.Leaving m.Entries q.Kind q.Floor q.Dir q.Car q.Value bud).bind fun y6 =>
    bif (!((eqB y5.2.1.1 y6.2.1.1) && ((eqB y5.2.1.2.1 y6.2.1.2.1) && ((y5.2.1.2.2.1 == y6.2.1.2.2.1) && true)))) then
      some (Sum.inr (Sum.inr ((false, ()), ())))
    else
      (F_r10_Same y5.2.2.1.1 y5.2.2.1.2.1 y5.2.2.1.2.2.1 y5.2.2.1.2.2.2.1 y6.2.2.1.1 y6.2.2.1.2.1 y6.2.2.1.2.2.1 y6.2.2.1.2.2.2.1).bind fun y7 =>
      bif (!y7.1.1) then
        some (Sum.inr (Sum.inr ((false, ()), ())))
      else
        bif (y5.1.2.2.1 != y6.1.2.2.1) then
          some (Sum.inr (Sum.inr ((false, ()), ())))
        else
          bif (y5.1.2.2.2.1 != y6.1.2.2.2.1) then
            some (Sum.inr (Sum.inr ((false, ()), ())))
          else
            (F_log_Compact b.Floors b.Debounce b.Room b.Park b.Empty b.Full b.Over b.Cars s.h0 s.h1 s.sel m.Phases m.Flags m.Leaving m.Entries bud).bind fun y8 =>
            (F_r10_Compact b.Floors b.Debounce b.Room b.Park b.Empty b.Full b.Over b.Cars s.h0 s.h1 s.sel m.Phases m.Flags m.Leaving m.Entries bud).bind fun y9 =>
            bif (!((eqB y8.2.1.1 y9.2.1.1) && ((eqB y8.2.1.2.1 y9.2.1.2.1) && ((y8.2.1.2.2.1 == y9.2.1.2.2.1) && true)))) then
              some (Sum.inr (Sum.inr ((false, ()), ())))
            else
              bif (y8.1.2.1 != y9.1.2.1) then
                some (Sum.inr (Sum.inr ((false, ()), ())))
              else
                bif (y8.1.2.2.1 != y9.1.2.2.1) then
                  some (Sum.inr (Sum.inr ((false, ()), ())))
                else
                  (F_log_Recover b.Floors b.Debounce b.Room b.Park b.Empty b.Full b.Over b.Cars s.h0 s.h1 s.sel bud).bind fun y10 =>
                  (F_r10_Recover b.Floors b.Debounce b.Room b.Park b.Empty b.Full b.Over b.Cars s.h0 s.h1 s.sel bud).bind fun y11 =>
                  bif (!((eqB y10.2.1.1 y11.2.1.1) && ((eqB y10.2.1.2.1 y11.2.1.2.1) && ((y10.2.1.2.2.1 == y11.2.1.2.2.1) && true)))) then
                    some (Sum.inr (Sum.inr ((false, ()), ())))
                  else
                    (F_r10_Same y10.2.2.1.1 y10.2.2.1.2.1 y10.2.2.1.2.2.1 y10.2.2.1.2.2.2.1 y11.2.2.1.1 y11.2.2.1.2.1 y11.2.2.1.2.2.1 y11.2.2.1.2.2.2.1).bind fun y12 =>
                    bif (!y12.1.1) then
                      some (Sum.inr (Sum.inr ((false, ()), ())))
                    else
                      bif (y10.1.2.2.1 != y11.1.2.2.1) then
                        some (Sum.inr (Sum.inr ((false, ()), ())))
                      else
                        bif (y10.1.2.2.2.1 != y11.1.2.2.2.1) then
                          some (Sum.inr (Sum.inr ((false, ()), ())))
                        else
                          (F_log_Replay b.Floors b.Debounce b.Room b.Park b.Empty b.Full b.Over b.Cars s.h0 s.h1 s.sel).bind fun y13 =>
                          (F_r10_Replay b.Floors b.Debounce b.Room b.Park b.Empty b.Full b.Over b.Cars s.h0 s.h1 s.sel).bind fun y14 =>
                          (F_r10_Same y13.2.1.1 y13.2.1.2.1 y13.2.1.2.2.1 y13.2.1.2.2.2.1 y14.2.1.1 y14.2.1.2.1 y14.2.1.2.2.1 y14.2.1.2.2.2.1).bind fun y15 =>
                          bif (!y15.1.1) then
                            some (Sum.inr (Sum.inr ((false, ()), ())))
                          else
                            some (Sum.inl (((), (), (), rs, (IntKind.wrap IntKind.i64 (k + (1 : Int))), ()), ((X0, X1, X2, X3, X4, X5, X6, X7, X8, ()), (b.Floors, b.Debounce, b.Room, b.Park, b.Empty, b.Full, b.Over, b.Cars, ()), (m.Phases, m.Flags, m.Leaving, m.Entries, ()), ())))) : Option (Sum ((Unit × Unit × Unit × List (Record) × Int × Unit) × ((ByteArray × ByteArray × Int × Int × Int × Int × Int × Int × Int × Unit) × (Int × Int × Int × Int × Nat × Nat × Nat × List (Car) × Unit) × (List (Int) × List (Bool) × List (Bool) × List (Entry) × Unit) × Unit)) ((Unit × Unit) ⊕ ((Bool × Unit) × Unit)))) = some (Sum.inl (((), (), (), rs, k + 1, ()), ((X0, X1, X2, X3, X4, X5, X6, X7, X8, ()), b.tup, m.tup, ()))) := by
  have hcars := code_cars hcode
  have a1 := log_Append_eq hb (by omega) s (m := m) hf.p (by omega) q hbud
  have a2 := r10_Append_eq hb hcode s (m := m) hf.p hl q hbud
  have a3 := r10_Same_eq (append_fit (b := b) s hf hl q bud) (c := (appendV b s m q bud).2.1)
  rw [sameI_self] at a3
  have c1 := log_Compact_eq hb (by omega) s hf hbud
  have c2 := r10_Compact_eq hb hcode s hf (by omega) hbud
  have r1 := log_Recover_eq hb hcode s (by omega) hbud
  have r2 := r10_Recover_eq hb hcode s hs hbud
  have r3 := r10_Same_eq (recover_fit hcode s hs bud) (c := (recoverV b s bud).2.1)
  rw [sameI_self] at r3
  have p1 := log_Replay_eq hb hcode s (by omega)
  have p2 := r10_Replay_eq hb hcode s hs
  have p3 := r10_Same_eq (replay_ok hcode s (by omega)).2.2 (c := replayV b s)
  rw [sameI_self] at p3
  have w : IntKind.i64.wrap (k + 1) = k + 1 := wrap_small (by omega) (by omega)
  simp only [a1, a2, Option.bind_some, appOut, Img.tup, eqB_refl, beq_self_eq_true, Bool.and_self, Bool.not_true, cond_false, a3, bne_self_eq_false, c1, c2, Sto.out, r1, r2, recOut, r3, p1, p2, p3, w]
  rfl
theorem tmod_range {a n : Int} (ha : 0 ≤ a) (hn : 0 < n) : 0 ≤ Int.tmod a n ∧ Int.tmod a n < n := ⟨Int.tmod_nonneg _ ha, Int.tmod_lt_of_pos _ hn⟩
theorem acts_round {b : Bldg} (hb : b.small) (hcode : b.code = 0) {m : Img} (hf : m.fit) (hl : m.Entries.length ≤ 900) {rs : List Record} (hrl : rs.length ≤ 100) {k : Nat} (hk : k < 4)
    {X0 X1 : ByteArray} (h0 : X0.size ≤ 500) (h1 : X1.size ≤ 500) (X2 : Int) {X3 : Int} (h3 : X3 < 9223372036854775808) (X4 X5 X6 X7 X8 : Int) :
    R_l10_LogActs_0 rs (k : Int) X0 X1 X2 X3 X4 X5 X6 X7 X8 b.Floors b.Debounce b.Room b.Park b.Empty b.Full b.Over b.Cars m.Phases m.Flags m.Leaving m.Entries = some (Sum.inl (((), (), (), rs, (k : Int) + 1, ()), ((X0, X1, X2, X3, X4, X5, X6, X7, X8, ()), b.tup, m.tup, ()))) := by
  have hcars := code_cars hcode
  have hroom := code_room hcode
  unfold R_l10_LogActs_0
  rw [decide_eq_true (show (k : Int) < 4 by omega)]
  simp only [cond_true]
  by_cases hz : k = 0
  · subst hz
    rw [decide_eq_false (show ¬ (0 : Int) < ((0 : Nat) : Int) by omega)]
    simp only [cond_false, Option.bind_some]
    rw [decide_eq_false (show ¬ (1 : Int) < ((0 : Nat) : Int) by omega)]
    simp only [cond_false, Option.bind_some]
    exact acts_tail hb hcode ⟨X0, X1, X2⟩ (by unfold Sto.cur; split <;> (simp only; omega)) hf hl ⟨X4, X5, X6, X7, X8⟩ h3 rs (by omega) X0 X1 X2 X3 X4 X5 X6 X7 X8
  · rw [decide_eq_true (show (0 : Int) < (k : Int) by omega)]
    simp only [cond_true]
    have hkl : (k : Int) * (rs.length : Int) = ((k * rs.length : Nat) : Int) := by push_cast; rfl
    have hkl2 : k * rs.length ≤ 3 * rs.length := Nat.mul_le_mul_right _ (by omega)
    have e0 : IntKind.i64.wrap (Int.tdiv (IntKind.i64.wrap ((k : Int) * (rs.length : Int))) 4) = ((k * rs.length / 4 : Nat) : Int) := by
      rw [hkl, wrap_small (n := ((k * rs.length : Nat) : Int)) (by omega) (by omega), Int.tdiv_eq_ediv_of_nonneg (by omega), wrap_small (by omega) (by omega)]
      omega
    have e1 : IntKind.i64.wrap (Int.tdiv b.Room 6) = b.Room / 6 := by
      rw [Int.tdiv_eq_ediv_of_nonneg (by omega), wrap_small (by omega) (by omega)]
    rw [e0, e1]
    have hz2 : ∃ j : Nat, (bif decide (b.Room / 6 < ((k * rs.length / 4 : Nat) : Int)) then b.Room / 6 else ((k * rs.length / 4 : Nat) : Int)) = (j : Int) ∧ j ≤ rs.length := by
      by_cases g : b.Room / 6 < ((k * rs.length / 4 : Nat) : Int)
      · rw [decide_eq_true g]
        exact ⟨(b.Room / 6).toNat, by rw [cond_true]; omega, by omega⟩
      · rw [decide_eq_false g]
        exact ⟨k * rs.length / 4, rfl, by omega⟩
    obtain ⟨j, hj, hjl⟩ := hz2
    rw [hj]
    have hz4 : ∃ i : Nat, (bif decide (b.Room < ((X1.size : Nat) : Int)) then b.Room else ((X1.size : Nat) : Int)) = (i : Int) ∧ i ≤ X1.size := by
      by_cases g : b.Room < ((X1.size : Nat) : Int)
      · rw [decide_eq_true g]
        exact ⟨b.Room.toNat, by rw [cond_true]; omega, by omega⟩
      · rw [decide_eq_false g]
        exact ⟨X1.size, rfl, Nat.le_refl _⟩
    obtain ⟨i, hi, hil⟩ := hz4
    rw [hi]
    simp only [decide_eq_true (show (0 : Int) ≤ (j : Int) by omega), decide_eq_true (show (j : Int) ≤ (rs.length : Int) by omega), Bool.and_self, cond_true, Int.toNat_natCast, List.drop_zero, decide_eq_true (show (0 : Int) ≤ (i : Int) by omega), decide_eq_true (show (i : Int) ≤ (X1.size : Int) by omega)]
    have hby := r10_Bytes_eq hb (by omega) (rs := rs.take j) (by rw [List.length_take]; omega)
    rw [hby]
    simp only [Option.bind_some]
    have hsz : ((rs.take j).flatMap fun r => bl (encR b r)).length ≤ 600 := by
      have hgen : ∀ l : List Record, (l.flatMap fun r => bl (encR b r)).length ≤ 6 * l.length := fun l => by
        induction l with
        | nil => exact Nat.zero_le _
        | cons a t ih =>
          have := encR_size b a
          rw [List.flatMap_cons, List.length_append, List.length_cons]; omega
      have := hgen (rs.take j)
      rw [List.length_take] at this
      omega
    generalize ((rs.take j).flatMap fun r => bl (encR b r)) = T at hsz
    have hE : (X1.extract 0 i).size ≤ 500 := by rw [← bl_len, bl_ext, List.length_take, List.length_drop, bl_len]; omega
    have hbd : IntKind.i64.wrap (Int.tmod (IntKind.u64.wrap X3) 200) < 9223372036854775808 := by rw [IntKind.wrap_i64]; omega
    generalize X1.extract 0 i = E1 at hE
    generalize IntKind.i64.wrap (Int.tmod (IntKind.u64.wrap X3) 200) = bud at hbd
    have hcur : (Sto.cur ⟨txt T, E1, 0⟩).size ≤ 5000 := by
      show (txt T).size ≤ 5000
      rw [txt_size]; omega
    by_cases g : 1 < k ∧ 0 < rs.length
    · have hp := tmod_range (a := (k : Int) * 7) (n := (rs.length : Int)) (by omega) (by omega)
      rw [decide_eq_true (show (1 : Int) < (k : Int) by omega)]
      simp only [cond_true, Option.bind_some]
      rw [decide_eq_true (show (0 : Int) < (rs.length : Int) by omega)]
      simp only [cond_true]
      rw [bne_t (show ¬ (rs.length : Int) = 0 by omega), wrap_small (n := (k : Int) * 7) (by omega) (by omega)]
      simp only [cond_true]
      rw [inB_true hp.1 hp.2]
      simp only [cond_true, Option.bind_some]
      exact acts_tail hb hcode ⟨txt T, E1, 0⟩ hcur hf hl (rs.getD (Int.toNat (Int.tmod ((k : Int) * 7) (rs.length : Int))) (Record.mk 0 0 0 0 0)) hbd rs (by omega) X0 X1 X2 X3 X4 X5 X6 X7 X8
    · by_cases g1 : 1 < k
      · rw [decide_eq_true (show (1 : Int) < (k : Int) by omega)]
        simp only [cond_true, Option.bind_some]
        rw [decide_eq_false (show ¬ (0 : Int) < (rs.length : Int) by omega)]
        simp only [cond_false, Option.bind_some]
        exact acts_tail hb hcode ⟨txt T, E1, 0⟩ hcur hf hl ⟨X4, X5, X6, X7, X8⟩ hbd rs (by omega) X0 X1 X2 X3 X4 X5 X6 X7 X8
      · rw [decide_eq_false (show ¬ (1 : Int) < (k : Int) by omega)]
        simp only [cond_false, Option.bind_some]
        exact acts_tail hb hcode ⟨txt T, E1, 0⟩ hcur hf hl ⟨X4, X5, X6, X7, X8⟩ hbd rs (by omega) X0 X1 X2 X3 X4 X5 X6 X7 X8
theorem law_LogActs (n : Int) (l : List (Int)) (x_Store_Halves_0 : ByteArray) (x_Store_Halves_1 : ByteArray) (x_Store_Select : Int) (x_Budget : Int) (x_Record_Kind : Int) (x_Record_Floor : Int) (x_Record_Dir : Int) (x_Record_Car : Int) (x_Record_Value : Int) (h_n : 0 ≤ n ∧ n < 256) (h_l : l.length ≤ maxLen ∧ ∀ e ∈ l, (0 ≤ e ∧ e < 256)) (_h_x_Store_Halves_0 : x_Store_Halves_0.size ≤ maxLen) (_h_x_Store_Halves_1 : x_Store_Halves_1.size ≤ maxLen) (_h_x_Store_Select : -9223372036854775808 ≤ x_Store_Select ∧ x_Store_Select < 9223372036854775808) (h_x_Budget : -9223372036854775808 ≤ x_Budget ∧ x_Budget < 9223372036854775808) (_h_x_Record_Kind : -9223372036854775808 ≤ x_Record_Kind ∧ x_Record_Kind < 9223372036854775808) (_h_x_Record_Floor : -9223372036854775808 ≤ x_Record_Floor ∧ x_Record_Floor < 9223372036854775808) (_h_x_Record_Dir : -9223372036854775808 ≤ x_Record_Dir ∧ x_Record_Dir < 9223372036854775808) (_h_x_Record_Car : -9223372036854775808 ≤ x_Record_Car ∧ x_Record_Car < 9223372036854775808) (_h_x_Record_Value : -9223372036854775808 ≤ x_Record_Value ∧ x_Record_Value < 9223372036854775808) : F_l10_LogActs n l x_Store_Halves_0 x_Store_Halves_1 x_Store_Select x_Budget x_Record_Kind x_Record_Floor x_Record_Dir x_Record_Car x_Record_Value = some ((true, ()), ()) := by
  unfold F_l10_LogActs
  by_cases g0 : (500 : Int) < (x_Store_Halves_0.size : Int)
  · rw [decide_eq_true g0]
    simp only [cond_true, l10_sane, Option.bind_some]
  by_cases g1 : (500 : Int) < (x_Store_Halves_1.size : Int)
  · rw [decide_eq_false g0, decide_eq_true g1]
    simp only [cond_true, cond_false, l10_sane, Option.bind_some]
  rw [decide_eq_false g0, decide_eq_false g1]
  simp only [cond_false]
  have hu : 0 ≤ IntKind.u8.wrap x_Budget ∧ IntKind.u8.wrap x_Budget < 256 := by
    simp only [IntKind.wrap, IntKind.signed, IntKind.bits]
    simp
    omega
  generalize IntKind.u8.wrap x_Budget = room at hu ⊢
  obtain ⟨fl, ca, f1, f2, c1, c2, hbd⟩ := F_l10_Building_eq (n := n) (room := room) h_n hu
  have hcode := bld10_code f1 f2 c1 c2 hu
  have hb : (bld10 fl ca room).small := ⟨by show (2 : Int) ≤ (fl : Int); omega, by show (fl : Int) ≤ 8; omega⟩
  generalize bld10 fl ca room = b at *
  have hcars := code_cars hcode
  obtain ⟨rs, hrs, hrl, hv⟩ := Records_eq hb hcode (by omega) (l := l) h_l.2 (most := 60) (by omega)
  obtain ⟨m, hi, hm, hme⟩ := F_l10_Image_eq hb hcode (by omega) (l := l) h_l.2
  have hlp := hm.lp
  have hlf := hm.lf
  have hll := hm.ll
  have hf : m.fit := ⟨by omega, by omega, by omega, by omega⟩
  have hrl2 : rs.length ≤ 100 := by omega
  have hme2 : m.Entries.length ≤ 900 := by omega
  have h0 : x_Store_Halves_0.size ≤ 500 := by omega
  have h1 : x_Store_Halves_1.size ≤ 500 := by omega
  have h := iter_range (step := fun x => R_l10_LogActs_0 x.1.2.2.2.1 x.1.2.2.2.2.1 x.2.1.1 x.2.1.2.1 x.2.1.2.2.1 x.2.1.2.2.2.1 x.2.1.2.2.2.2.1 x.2.1.2.2.2.2.2.1 x.2.1.2.2.2.2.2.2.1 x.2.1.2.2.2.2.2.2.2.1 x.2.1.2.2.2.2.2.2.2.2.1 x.2.2.1.1 x.2.2.1.2.1 x.2.2.1.2.2.1 x.2.2.1.2.2.2.1 x.2.2.1.2.2.2.2.1 x.2.2.1.2.2.2.2.2.1 x.2.2.1.2.2.2.2.2.2.1 x.2.2.1.2.2.2.2.2.2.2.1 x.2.2.2.1.1 x.2.2.2.1.2.1 x.2.2.2.1.2.2.1 x.2.2.2.1.2.2.2.1) 4
    (fun k (_ : Unit) => (((), (), (), rs, (k : Int), ()), ((x_Store_Halves_0, x_Store_Halves_1, x_Store_Select, x_Budget, x_Record_Kind, x_Record_Floor, x_Record_Dir, x_Record_Car, x_Record_Value, ()), b.tup, m.tup, ()))) (fun _ u => u) (fun _ _ => True) (fun _ => Sum.inl ((), ())) (fun k u hk _ => ⟨acts_round hb hcode hf hme2 hrl2 hk h0 h1 x_Store_Select h_x_Budget.2 x_Record_Kind x_Record_Floor x_Record_Dir x_Record_Car x_Record_Value, trivial⟩) (fun u _ => rfl) 4 0 () (by omega) trivial
  have hlo := iter_fuel h.1 (by omega)
  simp only [hbd, Option.bind_some, Bldg.tup]
  rw [hi]
  simp only [Option.bind_some, Img.tup]
  rw [hrs]
  simp only [Option.bind_some]
  simp only [Bldg.tup, Img.tup] at hlo
  rw [show L_l10_LogActs_0 (((), (), (), rs, (0 : Int), ()), ((x_Store_Halves_0, x_Store_Halves_1, x_Store_Select, x_Budget, x_Record_Kind, x_Record_Floor, x_Record_Dir, x_Record_Car, x_Record_Value, ()), (b.Floors, b.Debounce, b.Room, b.Park, b.Empty, b.Full, b.Over, b.Cars, ()), (m.Phases, m.Flags, m.Leaving, m.Entries, ()), ())) = _ from hlo]
  simp only [Option.bind_some, l10_sane]
end Go.Ovl
