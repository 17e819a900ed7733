/- Layer 10: compacting, appending, replaying and recovering, by the reference. -/
import Derived.Test.YthdomhdippmaiaaOvRecov
import Derived.Test.YthdomhdippmaiaaOvStoreR
import Derived.Test.YthdomhdippmaiaaOvBytes
import Derived.Test.YthdomhdippmaiaaOvRoom
namespace Go.Ovl
open Go Go.Ab
set_option maxRecDepth 100000
theorem r09_Decode_eq {b : Bldg} (hb : b.small) (hc : b.Cars.length ≤ 100) (hcode : b.code = 0) (s : ByteArray) (_hs : s.size ≤ 1000000) :
    ∃ (e : Int) (r0 : Record), F_r09_Decode b.Floors b.Debounce b.Room b.Park b.Empty b.Full b.Over b.Cars s = some (((), e, ()), ((r0.Kind, r0.Floor, r0.Dir, r0.Car, r0.Value, ()), ())) ∧ (e != 0) = (decL b (bl s)).isNone ∧ ∀ r, decL b (bl s) = some r → r0 = r := by
  unfold F_r09_Decode
  rw [F_r01_Valid_eq, hcode]
  simp only [Option.bind_some, bne_self_eq_false, cond_false]
  unfold decL
  by_cases h6 : s.size = 6
  · have l6 : (bl s).length = 6 := by rw [bl_len]; exact h6
    have ib : ∀ i : Int, 0 ≤ i → i < 6 → inB i s.size = true := fun i h h' => inB_true h (by omega)
    have x5 : bl (s.extract 0 5) = (bl s).take 5 := by rw [bl_ext]; rfl
    rw [show (((s.size : Nat) : Int) != 6) = false by rw [h6]; rfl, decide_eq_true (show (5 : Int) ≤ ((s.size : Nat) : Int) by omega), r02_Sum8_eq (by rw [← bl_len, x5, List.length_take]; omega), x5]
    simp only [cond_false, cond_true, Option.bind_some, ib 5 (by omega) (by omega), ib 0 (by omega) (by omega), ib 1 (by omega) (by omega), ib 2 (by omega) (by omega), ib 3 (by omega) (by omega), ib 4 (by omega) (by omega), byteAt_bl]
    rw [l6, show Int.toNat 5 = 5 from rfl, show Int.toNat 0 = 0 from rfl, show Int.toNat 1 = 1 from rfl, show Int.toNat 2 = 2 from rfl, show Int.toNat 3 = 3 from rfl, show Int.toNat 4 = 4 from rfl]
    simp only [show ∀ i : Nat, (((bl s).getD i 0).toNat : Int) = fld (bl s) i from fun _ => rfl]
    have f0 := fld_lt (bl s) 0
    have f1 := fld_lt (bl s) 1
    have f2 := fld_lt (bl s) 2
    have f3 := fld_lt (bl s) 3
    have f4 := fld_lt (bl s) 4
    rw [wrap_small (n := fld (bl s) 0) (by omega) (by omega), wrap_small (n := fld (bl s) 1) (by omega) (by omega), wrap_small (n := fld (bl s) 2) (by omega) (by omega), wrap_small (n := fld (bl s) 3) (by omega) (by omega), wrap_small (n := fld (bl s) 3 - 2) (by omega) (by omega), wrap_small (n := fld (bl s) 4) (by omega) (by omega)]
    simp only [bne]
    cases hq : (((sum8L ((bl s).take 5) : Nat) : Int)) == fld (bl s) 5 with
    | false => exact ⟨5, ⟨0, 0, 0, 0, 0⟩, rfl, rfl, fun r h => by cases h⟩
    | true =>
      have hv := r09_Valid_eq hb hc (recL (bl s))
      unfold recL at hv
      simp only at hv
      simp only [Bool.not_true, cond_false, hv, Option.bind_some]
      show ∃ e r0, (bif !(validR b (recL (bl s))) then _ else _) = _ ∧ _
      cases validR b (recL (bl s)) with
      | false => exact ⟨9, ⟨0, 0, 0, 0, 0⟩, rfl, rfl, fun r h => by cases h⟩
      | true => exact ⟨0, recL (bl s), rfl, rfl, fun r h => Option.some.inj h⟩
  · rw [show (((s.size : Nat) : Int) != 6) = true from bne_t (by omega), show ((bl s).length == 6) = false from beq_f (by rw [bl_len]; exact h6)]
    exact ⟨4, ⟨0, 0, 0, 0, 0⟩, rfl, rfl, fun r h => by cases h⟩
theorem r09_Read_eq {b : Bldg} (hb : b.small) (hc : b.Cars.length ≤ 100) (hcode : b.code = 0) (s : ByteArray) (hs : s.size ≤ 1000000) :
    ∃ n : Int, F_r09_Read b.Floors b.Debounce b.Room b.Park b.Empty b.Full b.Over b.Cars s = some ((readV b s, n, ()), ()) := by
  have key : ∀ (k n : Nat) (l : List Record), s.size ≤ n + 6 * k → n ≤ s.size → l.length ≤ n → ∃ y : Int, iter (fun x => R_r09_Read_0 x.1.1 x.1.2.2.1 x.1.2.2.2.1 x.2.1.1 x.2.1.2.1 x.2.1.2.2.1 x.2.1.2.2.2.1 x.2.1.2.2.2.2.1 x.2.1.2.2.2.2.2.1 x.2.1.2.2.2.2.2.2.1 x.2.1.2.2.2.2.2.2.2.1) (k + 1) ((s, (), l, (n : Int), ()), (b.tup, ())) = some ((l ++ readL b k ((bl s).drop n), y, ()), ()) := by
    intro k
    induction k with
    | zero =>
      intro n l h1 h2 _
      refine ⟨(n : Int), iter_inr ?_⟩
      show R_r09_Read_0 s l (n : Int) b.Floors b.Debounce b.Room b.Park b.Empty b.Full b.Over b.Cars = _
      unfold R_r09_Read_0
      rw [wrap_small (n := (n : Int) + 6) (by omega) (by omega), decide_eq_false (show ¬ (n : Int) + 6 ≤ (s.size : Int) by omega)]
      simp only [cond_false, readL, List.append_nil]
    | succ k ih =>
      intro n l h1 h2 h3
      have w : IntKind.i64.wrap ((n : Int) + 6) = ((n + 6 : Nat) : Int) := by rw [wrap_small (by omega) (by omega)]; omega
      by_cases g : n + 6 ≤ s.size
      · have hbl : ((bl s).drop n).length = s.size - n := by rw [List.length_drop, bl_len]
        have hx : bl (s.extract n (n + 6)) = ((bl s).drop n).take 6 := by rw [bl_ext, show n + 6 - n = 6 by omega]
        obtain ⟨e, r0, d1, d2, d3⟩ := r09_Decode_eq hb hc hcode (s.extract n (n + 6)) (by rw [← bl_len, hx, List.length_take]; omega)
        rw [hx] at d2 d3
        have hstep : ∀ X, (bif (e != 0) then some (Sum.inr ((l, (n : Int), ()), ())) else some (Sum.inl ((s, (), (l ++ [r0]), ((n + 6 : Nat) : Int), ()), (b.tup, ())))) = X → R_r09_Read_0 s l (n : Int) b.Floors b.Debounce b.Room b.Park b.Empty b.Full b.Over b.Cars = X := by
          rintro X rfl
          unfold R_r09_Read_0
          simp only [w, decide_eq_true (show ((n + 6 : Nat) : Int) ≤ (s.size : Int) by omega), decide_eq_true (show (0 : Int) ≤ ((n + 6 : Nat) : Int) by omega), decide_eq_true (show (0 : Int) ≤ (n : Int) by omega), Int.toNat_natCast, decide_eq_true (show (n : Int) ≤ ((n + 6 : Nat) : Int) by omega), Bool.and_self, cond_true, d1, Option.bind_some]
          rw [ble_true (show l.length + [Record.mk r0.Kind r0.Floor r0.Dir r0.Car r0.Value].length ≤ 2147483648 by rw [List.length_singleton]; omega)]
          rfl
        cases hd : decL b (((bl s).drop n).take 6) with
        | none =>
          rw [hd] at d2
          rw [d2] at hstep
          refine ⟨(n : Int), (iter_inr (hstep _ rfl)).trans ?_⟩
          simp only [readL, hbl, hd]
          rw [if_pos (by omega), List.append_nil]
        | some r =>
          rw [hd] at d2
          rw [d2] at hstep
          obtain rfl := d3 r hd
          obtain ⟨y, hy⟩ := ih (n + 6) (l ++ [r0]) (by omega) g (by rw [List.length_append, List.length_singleton]; omega)
          refine ⟨y, (iter_inl (hstep _ rfl)).trans (hy.trans ?_)⟩
          simp only [readL, hbl, hd]
          rw [if_pos (by omega), List.append_assoc, List.drop_drop]
          rfl
      · refine ⟨(n : Int), iter_inr ?_⟩
        show R_r09_Read_0 s l (n : Int) b.Floors b.Debounce b.Room b.Park b.Empty b.Full b.Over b.Cars = _
        unfold R_r09_Read_0
        rw [w, decide_eq_false (show ¬ ((n + 6 : Nat) : Int) ≤ (s.size : Int) by omega)]
        simp only [cond_false, readL]
        rw [if_neg (by rw [List.length_drop, bl_len]; omega), List.append_nil]
  obtain ⟨y, hy⟩ := key s.size 0 [] (by omega) (by omega) (by simp)
  have hy' := iter_fuel hy (by omega)
  refine ⟨y, ?_⟩
  unfold F_r09_Read
  rw [show L_r09_Read_0 ((s, (), [], (0 : Int), ()), ((b.Floors, b.Debounce, b.Room, b.Park, b.Empty, b.Full, b.Over, b.Cars, ()), ())) = _ from hy']
  rw [List.drop_zero, List.nil_append]
  rfl
theorem r10_Replay_loop {b : Bldg} (hb : b.small) {rs : List Record} (hv : ∀ r ∈ rs, validR b r = true) (hl : rs.length ≤ 900) (m0 m : Img) (hm : ImgOK b m) (hml : m.Entries.length = 0) :
    L_r10_Replay_0 (((), (), (), rs, (0 : Int), ()), (b.tup, m0.tup, m.tup, ())) = some (((), (), ()), (m0.tup, (applyL m rs).tup, ())) := by
  have hcars := code_cars hm.code
  have h := iter_range (step := fun x => R_r10_Replay_0 x.1.2.2.2.1 x.1.2.2.2.2.1 x.2.1.1 x.2.1.2.1 x.2.1.2.2.1 x.2.1.2.2.2.1 x.2.1.2.2.2.2.1 x.2.1.2.2.2.2.2.1 x.2.1.2.2.2.2.2.2.1 x.2.1.2.2.2.2.2.2.2.1 x.2.2.1.1 x.2.2.1.2.1 x.2.2.1.2.2.1 x.2.2.1.2.2.2.1 x.2.2.2.1.1 x.2.2.2.1.2.1 x.2.2.2.1.2.2.1 x.2.2.2.1.2.2.2.1) rs.length
    (fun i (m : Img) => (((), (), (), rs, (i : Int), ()), (b.tup, m0.tup, m.tup, ()))) (fun i m => applyV m (rs.getD i (Record.mk 0 0 0 0 0))) (fun i m => ImgOK b m ∧ m.Entries.length ≤ i) (fun m => (((), (), ()), (m0.tup, m.tup, ()))) (fun i m hi hs => by
      obtain ⟨hm, hle⟩ := hs
      have hr := hv _ (getD_mem (Record.mk 0 0 0 0 0) hi)
      have hlp := hm.lp
      have hmx : 1000 ≤ maxLen := by decide
      obtain ⟨a1, a2⟩ := applyV_ok hm hr
      refine ⟨?_, a1, by omega⟩
      have ha := r10_Apply_eq hb m (by omega) (rs.getD i (Record.mk 0 0 0 0 0)) (by omega) (by omega)
      rw [applyR_ok hm hr] at ha
      show R_r10_Replay_0 rs (i : Int) b.Floors b.Debounce b.Room b.Park b.Empty b.Full b.Over b.Cars m0.Phases m0.Flags m0.Leaving m0.Entries m.Phases m.Flags m.Leaving m.Entries = _
      unfold R_r10_Replay_0
      simp only [decide_eq_true (show (i : Int) < (rs.length : Int) by omega), inB_true (show (0 : Int) ≤ (i : Int) by omega) (show (i : Int) < (rs.length : Int) by omega), cond_true, Int.toNat_natCast, ha, Option.bind_some, wrap1 hi (show rs.length ≤ small5 by unfold small5; omega)]
      rfl) (fun m _ => by
      show R_r10_Replay_0 rs (rs.length : Int) b.Floors b.Debounce b.Room b.Park b.Empty b.Full b.Over b.Cars m0.Phases m0.Flags m0.Leaving m0.Entries m.Phases m.Flags m.Leaving m.Entries = _
      unfold R_r10_Replay_0
      simp only [decide_eq_false (Int.lt_irrefl (rs.length : Int)), cond_false]
      rfl) rs.length 0 m (by omega) ⟨hm, by omega⟩
  have h' := iter_fuel h.1 (by omega)
  have e : ∀ (l : List Record) (m : Img), l.foldl applyV m = applyL m l := fun l => by
    induction l with
    | nil => exact fun m => rfl
    | cons r t ih => exact fun m => ih (applyV m r)
  rw [foldN_foldl applyV (Record.mk 0 0 0 0 0) rs rs.length 0 m (by omega), List.drop_zero, e] at h'
  exact h'
theorem r10_Replay_eq {b : Bldg} (hb : b.small) (hcode : b.code = 0) (s : Sto) (hs : s.cur.size ≤ 5000) :
    F_r10_Replay b.Floors b.Debounce b.Room b.Park b.Empty b.Full b.Over b.Cars s.h0 s.h1 s.sel = some (((), ()), ((replayV b s).tup, ())) := by
  have hcars := code_cars hcode
  obtain ⟨n, hr⟩ := r09_Read_eq hb (by omega) hcode s.cur (by omega)
  have hlen : (readV b s.cur).length ≤ 900 := by
    have := readL_len b s.cur.size (bl s.cur)
    rw [bl_len] at this
    unfold readV; omega
  have hl := r10_Replay_loop (b := b) hb (rs := readV b s.cur) (fun r hr => readL_valid b _ _ r hr) hlen Img.none (initV b) (initV_ok hcode) rfl
  unfold F_r10_Replay
  rw [r10_Initial_eq hcode (by omega), F_r08_Current_eq]
  simp only [Option.bind_some]
  rw [show Sto.cur ⟨s.h0, s.h1, s.sel⟩ = s.cur from rfl, hr]
  simp only [Option.bind_some]
  simp only [Img.tup, Img.none, Bldg.tup] at hl ⊢
  rw [hl]
  rfl
theorem r10_ok_eq {b : Bldg} (hcode : b.code = 0) (s : Sto) (bud : Int) : F_r10_ok b.Floors b.Debounce b.Room b.Park b.Empty b.Full b.Over b.Cars s.h0 s.h1 s.sel bud = some ((decide (s.ok b.Room) && decide (0 ≤ bud), ()), ()) := by
  unfold F_r10_ok
  rw [F_r01_Valid_eq, hcode, F_r08_IsStore_eq]
  simp only [Option.bind_some, beq_self_eq_true, cond_true]
  rw [show Sto.mk s.h0 s.h1 s.sel = s from rfl]
  cases decide (s.ok b.Room) <;> rfl
theorem act_err {room : Int} {s : Sto} {half bud : Int} {t : Sto} (h : (s.act room half bud t).2.2 ≠ 0) : (s.act room half bud t).2.1 = 0 := by
  unfold Sto.act at *
  split
  · rfl
  · split
    · rfl
    · rename_i h1 h2
      rw [if_neg h1, if_neg h2] at h
      exact absurd rfl h
theorem write_err {room : Int} {s : Sto} {half bud : Int} {d : ByteArray} (h : (s.write room half d bud).2.2 ≠ 0) : (s.write room half d bud).2.1 = 0 := by
  unfold Sto.write at *
  split
  · rfl
  · split
    · rfl
    · split
      · rfl
      · rename_i h1 h2 h3
        rw [if_neg h1, if_neg h2, if_neg h3] at h
        exact absurd rfl h
theorem lt_dec (bud : Int) : decide (bud < 0) = !decide (0 ≤ bud) := dec_lt bud 0
theorem r10_Compact_eq {b : Bldg} (hb : b.small) (hcode : b.code = 0) (s : Sto) {m : Img} (hf : m.fit) (hl : m.Entries.length ≤ 5000) {bud : Int} (hbud : bud < 9223372036854775808) :
    F_r10_Compact b.Floors b.Debounce b.Room b.Park b.Empty b.Full b.Over b.Cars s.h0 s.h1 s.sel m.Phases m.Flags m.Leaving m.Entries bud = some (Sto.out (compactV b s m bud)) := by
  have hmx : 100000 ≤ maxLen := by decide
  have hp := hf.p
  have he := hf.e
  have hcars := code_cars hcode
  unfold F_r10_Compact compactV
  rw [r10_ok_eq hcode, r10_IsImage_eq hb m (by omega) (by omega), r10_Snapshot_eq hb hf, lt_dec]
  simp only [Option.bind_some]
  by_cases hs : s.ok b.Room
  · rw [decide_eq_true hs]
    by_cases hb0 : 0 ≤ bud
    · rw [decide_eq_true hb0]
      cases hok : m.ok b with
      | false => rfl
      | true =>
        have hm := Img.ok_iff.1 hok
        have hlp := hm.lp
        have hsn : snapR b m = snapV m := by unfold snapR; rw [hok]; rfl
        have hsl := snapV_len m
        have hby := r10_Bytes_eq hb (by omega) (rs := snapV m) (by rw [hsl]; omega)
        rw [flat_enc (snap_valid hm)] at hby
        have hsel : IntKind.i64.wrap (1 - s.sel) = 1 - s.sel := by
          obtain ⟨_, _, _, _, h5⟩ := hs
          exact wrap_small (by omega) (by omega)
        simp only [Bool.and_self, Bool.not_true, cond_false, hsn, hby, Option.bind_some, hsel, r08_erase _ _ _ _ _ _ hbud, Sto.out]
        have hb1 := act_bud b.Room s (1 - s.sel) bud (s.set (1 - s.sel) noB) hbud
        have he1 : (s.erase b.Room (1 - s.sel) bud).2.2 ≠ 0 → (s.erase b.Room (1 - s.sel) bud).2.1 = 0 := act_err
        rw [show s.act b.Room (1 - s.sel) bud (s.set (1 - s.sel) noB) = s.erase b.Room (1 - s.sel) bud from rfl] at hb1
        rw [show Sto.mk s.h0 s.h1 s.sel = s from rfl]
        generalize s.erase b.Room (1 - s.sel) bud = r1 at hb1 he1 ⊢
        by_cases hq : r1.2.2 = 0
        · have hdl : (txt ((snapV m).flatMap encL)).size < 1000000 := by rw [txt_size, enc_len, hsl]; omega
          simp only [hq, bne_self_eq_false, cond_false, beq_self_eq_true, cond_true, F_r08_Write_eq _ _ _ _ _ _ _ hb1 hdl, Option.bind_some, Sto.out]
          have hb2 := write_bud b.Room r1.1 (1 - s.sel) (txt ((snapV m).flatMap encL)) r1.2.1 hb1
          have he2 : (r1.1.write b.Room (1 - s.sel) (txt ((snapV m).flatMap encL)) r1.2.1).2.2 ≠ 0 → (r1.1.write b.Room (1 - s.sel) (txt ((snapV m).flatMap encL)) r1.2.1).2.1 = 0 := write_err
          rw [show Sto.mk r1.1.h0 r1.1.h1 r1.1.sel = r1.1 from rfl]
          generalize r1.1.write b.Room (1 - s.sel) (txt ((snapV m).flatMap encL)) r1.2.1 = r2 at hb2 he2 ⊢
          by_cases hq2 : r2.2.2 = 0
          · simp only [hq2, bne_self_eq_false, cond_false, beq_self_eq_true, cond_true, r08_choose _ _ _ _ _ _ hb2, Option.bind_some, Sto.out]
          · rw [bne_t hq2, beq_f hq2, cond_true, cond_false, he2 hq2]
        · rw [bne_t hq, beq_f hq, cond_true, cond_false, he1 hq]
    · rw [decide_eq_false hb0]; rfl
  · rw [decide_eq_false hs]; rfl
theorem r10_Recover_eq {b : Bldg} (hb : b.small) (hcode : b.code = 0) (s : Sto) (hs : s.cur.size ≤ 5000) {bud : Int} (hbud : bud < 9223372036854775808) :
    F_r10_Recover b.Floors b.Debounce b.Room b.Park b.Empty b.Full b.Over b.Cars s.h0 s.h1 s.sel bud = some (recOut (recoverV b s bud).1 (recoverV b s bud).2.1 (recoverV b s bud).2.2.1 (recoverV b s bud).2.2.2) := by
  have hc := code_cars hcode
  obtain ⟨hok, hle, hf⟩ := replay_ok hcode s (by omega)
  have hle2 : (replayV b s).Entries.length ≤ 900 := by
    have h2 := (applyL_ok (initV_ok hcode) (rs := readV b s.cur) fun r hr => readL_valid b _ _ r hr).2
    have h3 := readL_len b s.cur.size (bl s.cur)
    rw [bl_len] at h3
    have h4 : (initV b).Entries.length = 0 := rfl
    have h5 : (readV b s.cur).length = (readL b s.cur.size (bl s.cur)).length := rfl
    show (applyL (initV b) (readV b s.cur)).Entries.length ≤ _
    omega
  unfold F_r10_Recover
  rw [r10_ok_eq hcode, r10_Replay_eq hb hcode s hs]
  simp only [Option.bind_some, Img.tup]
  rw [r10_Compact_eq hb hcode s hf (by omega) hbud]
  simp only [Option.bind_some, Sto.out]
  unfold recoverV
  cases hq : decide (s.ok b.Room) && decide (0 ≤ bud) with
  | false =>
    have e : compactV b s (replayV b s) bud = (Sto.no, 0, 1) := by
      unfold compactV
      rw [lt_dec]
      rw [Bool.and_eq_false_iff] at hq
      rcases hq with hq | hq
      · rw [hq]; rfl
      · rw [hq]
        cases decide (s.ok b.Room) <;> rfl
    rw [e]; rfl
  | true =>
    generalize compactV b s (replayV b s) bud = w
    cases w.2.2 != 0 <;> rfl
theorem r10_Append_eq {b : Bldg} (hb : b.small) (hcode : b.code = 0) (s : Sto) {m : Img} (hp : m.Phases.length ≤ 100000) (hl : m.Entries.length ≤ 900) (r : Record) {bud : Int} (hbud : bud < 9223372036854775808) :
    F_r10_Append b.Floors b.Debounce b.Room b.Park b.Empty b.Full b.Over b.Cars s.h0 s.h1 s.sel m.Phases m.Flags m.Leaving m.Entries r.Kind r.Floor r.Dir r.Car r.Value bud = some (appOut (appendV b s m r bud)) := by
  have hmx : 100000 ≤ maxLen := by decide
  have hcars := code_cars hcode
  unfold F_r10_Append appendV
  rw [r10_ok_eq hcode, r10_IsImage_eq hb m (by omega) (by omega), r09_Valid_eq hb (by omega) r, lt_dec]
  simp only [Option.bind_some]
  cases hq1 : m.ok b with
  | false => cases decide (s.ok b.Room) <;> cases decide (0 ≤ bud) <;> rfl
  | true =>
  cases hq2 : validR b r with
  | false => cases decide (s.ok b.Room) <;> cases decide (0 ≤ bud) <;> rfl
  | true =>
  by_cases hs : s.ok b.Room
  · rw [decide_eq_true hs]
    by_cases hb0 : 0 ≤ bud
    · rw [decide_eq_true hb0]
      have hm := Img.ok_iff.1 hq1
      obtain ⟨hm2, hl2⟩ := applyV_ok hm hq2
      have h1 := hm.lp
      have h2 := hm.lf
      have h3 := hm.ll
      have g1 := hm2.lp
      have g2 := hm2.lf
      have g3 := hm2.ll
      have hf2 : (applyV m r).fit := ⟨by omega, by omega, by omega, by omega⟩
      have hcur : (s.cur.size : Int) ≤ b.Room := ok_cur hs
      have hroom := code_room hcode
      have wr : IntKind.i64.wrap ((s.cur.size : Int) + 6) = (s.cur.size : Int) + 6 := wrap_small (by omega) (by omega)
      have hfind := r10_Find_eq m (by omega) r.Floor r.Dir
      have hpos := findF_pos (c := keyE r.Floor r.Dir) 0 hm.so
      have hneg : decide (findF r.Floor r.Dir m.Entries 0 < 0) = !(hasF (keyE r.Floor r.Dir) m.Entries) := by
        rw [show findF r.Floor r.Dir m.Entries 0 = _ from hpos]
        cases hasF (keyE r.Floor r.Dir) m.Entries with
        | true => rw [cond_true]; exact decide_eq_false (by omega)
        | false => rfl
      have e5 : (bif (r.Kind == (1 : Int)) then
              (F_r10_Find m.Phases m.Flags m.Leaving m.Entries r.Floor r.Dir).bind fun y4 =>
              bif (decide (y4.1.1 < (0 : Int))) then
                (F_r10_Room b.Floors b.Debounce b.Room b.Park b.Empty b.Full b.Over b.Cars m.Phases m.Flags m.Leaving m.Entries).bind fun y5 =>
                some ((bud, (), (), (), (), (), (), (!y5.1.1), ()), ((b.Floors, b.Debounce, b.Room, b.Park, b.Empty, b.Full, b.Over, b.Cars, ()), (s.h0, s.h1, s.sel, ()), (m.Phases, m.Flags, m.Leaving, m.Entries, ()), (r.Kind, r.Floor, r.Dir, r.Car, r.Value, ()), ((ByteArray.mk (Array.mk [])), (ByteArray.mk (Array.mk [])), (0 : Int), ()), (([] : List (Int)), ([] : List (Bool)), ([] : List (Bool)), ([] : List (Entry)), ()), ()))
              else
                some ((bud, (), (), (), (), (), (), false, ()), ((b.Floors, b.Debounce, b.Room, b.Park, b.Empty, b.Full, b.Over, b.Cars, ()), (s.h0, s.h1, s.sel, ()), (m.Phases, m.Flags, m.Leaving, m.Entries, ()), (r.Kind, r.Floor, r.Dir, r.Car, r.Value, ()), ((ByteArray.mk (Array.mk [])), (ByteArray.mk (Array.mk [])), (0 : Int), ()), (([] : List (Int)), ([] : List (Bool)), ([] : List (Bool)), ([] : List (Entry)), ()), ()))
            else
              some ((bud, (), (), (), (), (), (), false, ()), ((b.Floors, b.Debounce, b.Room, b.Park, b.Empty, b.Full, b.Over, b.Cars, ()), (s.h0, s.h1, s.sel, ()), (m.Phases, m.Flags, m.Leaving, m.Entries, ()), (r.Kind, r.Floor, r.Dir, r.Car, r.Value, ()), ((ByteArray.mk (Array.mk [])), (ByteArray.mk (Array.mk [])), (0 : Int), ()), (([] : List (Int)), ([] : List (Bool)), ([] : List (Bool)), ([] : List (Entry)), ()), ()))) =
          some ((bud, (), (), (), (), (), (), fullV b m r, ()), ((b.Floors, b.Debounce, b.Room, b.Park, b.Empty, b.Full, b.Over, b.Cars, ()), (s.h0, s.h1, s.sel, ()), (m.Phases, m.Flags, m.Leaving, m.Entries, ()), (r.Kind, r.Floor, r.Dir, r.Car, r.Value, ()), ((ByteArray.mk (Array.mk [])), (ByteArray.mk (Array.mk [])), (0 : Int), ()), (([] : List (Int)), ([] : List (Bool)), ([] : List (Bool)), ([] : List (Entry)), ()), ())) := by
        rw [hfind]
        simp only [Option.bind_some, hneg]
        rw [r10_Room_eq hb m (by omega) hp (by omega)]
        unfold fullV
        cases r.Kind == 1 <;> cases hasF (keyE r.Floor r.Dir) m.Entries <;> rfl
      simp only [Bool.and_self, Bool.not_true, cond_false]
      rw [e5]
      simp only [Option.bind_some]
      cases fullV b m r with
      | true => rfl
      | false =>
        simp only [cond_false]
        have hra := r10_Apply_eq hb m (by omega) r (by omega) (by omega)
        rw [applyR_ok hm hq2] at hra
        rw [hra]
        simp only [Option.bind_some, F_r08_Current_eq, Img.tup]
        rw [show Sto.cur ⟨s.h0, s.h1, s.sel⟩ = s.cur from rfl, wr]
        have hby := r10_Bytes_eq hb (by omega) (rs := [Record.mk r.Kind r.Floor r.Dir r.Car r.Value]) (by rw [List.length_singleton]; omega)
        rw [show (([Record.mk r.Kind r.Floor r.Dir r.Car r.Value]).flatMap fun x => bl (encR b x)) = encL r by
          rw [List.flatMap_cons, List.flatMap_nil, List.append_nil, show Record.mk r.Kind r.Floor r.Dir r.Car r.Value = r from rfl, encR_valid hq2, bl_txt]] at hby
        rw [hby]
        simp only [Option.bind_some]
        rw [F_r08_Write_eq b.Room s.h0 s.h1 s.sel s.sel (txt (encL r)) bud hbud (by rw [txt_size, encL_len]; omega), r10_Compact_eq hb hcode s hf2 (by omega) hbud]
        simp only [Option.bind_some, Sto.out]
        rw [show Sto.mk s.h0 s.h1 s.sel = s from rfl, show decide ((s.cur.size : Int) + 6 ≤ b.Room) = decide ((6 : Int) ≤ b.Room - (s.cur.size : Int)) from decide_eq_decide.2 (by omega)]
        have e10 : ∀ {A : Type} (f : Sto × Int × Int → A), (bif decide ((6 : Int) ≤ b.Room - (s.cur.size : Int)) then some (f (s.write b.Room s.sel (txt (encL r)) bud)) else some (f (compactV b s (applyV m r) bud))) = some (f (putV b s m r bud)) := fun f => by
          unfold putV
          cases decide ((6 : Int) ≤ b.Room - (s.cur.size : Int)) <;> rfl
        have e10' := e10 fun w => ((w.2.1, (), (), (), (), (), w.2.2, ()), ((w.1.h0, w.1.h1, w.1.sel, ()), (m.Phases, m.Flags, m.Leaving, m.Entries, ()), ((ByteArray.mk (Array.mk [])), (ByteArray.mk (Array.mk [])), (0 : Int), ()), (([] : List (Int)), ([] : List (Bool)), ([] : List (Bool)), ([] : List (Entry)), ()), (applyV m r).tup, ()))
        simp only [Img.tup] at e10'
        rw [e10']
        simp only [Option.bind_some]
        generalize putV b s m r bud = w
        by_cases hw : w.2.2 = 0
        · rw [hw]; rfl
        · rw [beq_f hw]
          simp only [cond_false]
          cases w.2.2 == 8 <;> rfl
    · rw [decide_eq_false hb0]; rfl
  · rw [decide_eq_false hs]; cases decide (0 ≤ bud) <;> rfl
end Go.Ovl
