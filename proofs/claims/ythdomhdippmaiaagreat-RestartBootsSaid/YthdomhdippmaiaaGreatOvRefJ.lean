/- Layer 10: compacting, appending, replaying and recovering, by the reference. -/
import Derived.Test.YthdomhdippmaiaaGreatOvRecov
import Derived.Test.YthdomhdippmaiaaGreatOvStoreR
import Derived.Test.YthdomhdippmaiaaGreatOvBytes
import Derived.Test.YthdomhdippmaiaaGreatOvRoom
namespace Go.Ovl
open Go Go.Ab
set_option maxRecDepth 100000
theorem nwi' {b : Bldg} (hb : b.small) (hc : b.Cars.length ≤ 100) (hcode : b.code = 0) (s : ByteArray) (_hs : s.size ≤ 1000000) :
    ∃ (e : Int) (r0 : Record), nke' b.Floors b.Debounce b.Room b.Park b.Empty b.Full b.Over b.Cars s = some (((), e, ()), ((r0.Kind, r0.Floor, r0.Dir, r0.Car, r0.Value, ()), ())) ∧ (e != 0) = (decL b (bl s)).isNone ∧ ∀ r, decL b (bl s) = some r → r0 = r := by
  unfold nke'
  rw [ne4', hcode]
  simp only [Option.bind_some, bne_self_eq_false, cond_false]
  unfold decL
  by_cases h6 : s.size = 6
  · have l6 : (bl s).length = 6 := by rw [nc9']; exact h6
    have ib : ∀ i : Int, 0 ≤ i → i < 6 → inB i s.size = true := fun i h h' => nc' h (by omega)
    have x5 : bl (s.extract 0 5) = (bl s).take 5 := by rw [nqc']; rfl
    rw [show (((s.size : Nat) : Int) != 6) = false by rw [h6]; rfl, decide_eq_true (show (5 : Int) ≤ ((s.size : Nat) : Int) by omega), nrb' (by rw [← nc9', x5, List.length_take]; omega), x5]
    simp only [cond_false, cond_true, Option.bind_some, ib 5 (by omega) (by omega), ib 0 (by omega) (by omega), ib 1 (by omega) (by omega), ib 2 (by omega) (by omega), ib 3 (by omega) (by omega), ib 4 (by omega) (by omega), nns']
    rw [l6, show Int.toNat 5 = 5 from rfl, show Int.toNat 0 = 0 from rfl, show Int.toNat 1 = 1 from rfl, show Int.toNat 2 = 2 from rfl, show Int.toNat 3 = 3 from rfl, show Int.toNat 4 = 4 from rfl]
    simp only [show ∀ i : Nat, (((bl s).getD i 0).toNat : Int) = fld (bl s) i from fun _ => rfl]
    have f0 := niw' (bl s) 0
    have f1 := niw' (bl s) 1
    have f2 := niw' (bl s) 2
    have f3 := niw' (bl s) 3
    have f4 := niw' (bl s) 4
    rw [nb' (n := fld (bl s) 0) (by omega) (by omega), nb' (n := fld (bl s) 1) (by omega) (by omega), nb' (n := fld (bl s) 2) (by omega) (by omega), nb' (n := fld (bl s) 3) (by omega) (by omega), nb' (n := fld (bl s) 3 - 2) (by omega) (by omega), nb' (n := fld (bl s) 4) (by omega) (by omega)]
    simp only [bne]
    cases hq : (((sum8L ((bl s).take 5) : Nat) : Int)) == fld (bl s) 5 with
    | false => exact ⟨5, ⟨0, 0, 0, 0, 0⟩, rfl, rfl, fun r h => by cases h⟩
    | true =>
      have hv := nmz' hb hc (recL (bl s))
      unfold recL at hv
      simp only at hv
      simp only [Bool.not_true, cond_false, hv, Option.bind_some]
      show ∃ e r0, (bif !(ny' b (recL (bl s))) then _ else _) = _ ∧ _
      cases ny' b (recL (bl s)) with
      | false => exact ⟨9, ⟨0, 0, 0, 0, 0⟩, rfl, rfl, fun r h => by cases h⟩
      | true => exact ⟨0, recL (bl s), rfl, rfl, fun r h => Option.some.inj h⟩
  · rw [show (((s.size : Nat) : Int) != 6) = true from bne_t (by omega), show ((bl s).length == 6) = false from beq_f (by rw [nc9']; exact h6)]
    exact ⟨4, ⟨0, 0, 0, 0, 0⟩, rfl, rfl, fun r h => by cases h⟩
theorem nyw' {b : Bldg} (hb : b.small) (hc : b.Cars.length ≤ 100) (hcode : b.code = 0) (s : ByteArray) (hs : s.size ≤ 1000000) :
    ∃ n : Int, nme' b.Floors b.Debounce b.Room b.Park b.Empty b.Full b.Over b.Cars s = some ((readV b s, n, ()), ()) := by
  have key : ∀ (k n : Nat) (l : List Record), s.size ≤ n + 6 * k → n ≤ s.size → l.length ≤ n → ∃ y : Int, iter (fun x => nen' x.1.1 x.1.2.2.1 x.1.2.2.2.1 x.2.1.1 x.2.1.2.1 x.2.1.2.2.1 x.2.1.2.2.2.1 x.2.1.2.2.2.2.1 x.2.1.2.2.2.2.2.1 x.2.1.2.2.2.2.2.2.1 x.2.1.2.2.2.2.2.2.2.1) (k + 1) ((s, (), l, (n : Int), ()), (b.tup, ())) = some ((l ++ readL b k ((bl s).drop n), y, ()), ()) := by
    intro k
    induction k with
    | zero =>
      intro n l h1 h2 _
      refine ⟨(n : Int), n1' ?_⟩
      show nen' s l (n : Int) b.Floors b.Debounce b.Room b.Park b.Empty b.Full b.Over b.Cars = _
      unfold nen'
      rw [nb' (n := (n : Int) + 6) (by omega) (by omega), decide_eq_false (show ¬ (n : Int) + 6 ≤ (s.size : Int) by omega)]
      simp only [cond_false, readL, List.append_nil]
    | succ k ih =>
      intro n l h1 h2 h3
      have w : IntKind.i64.wrap ((n : Int) + 6) = ((n + 6 : Nat) : Int) := by rw [nb' (by omega) (by omega)]; omega
      by_cases g : n + 6 ≤ s.size
      · have hbl : ((bl s).drop n).length = s.size - n := by rw [List.length_drop, nc9']
        have hx : bl (s.extract n (n + 6)) = ((bl s).drop n).take 6 := by rw [nqc', show n + 6 - n = 6 by omega]
        obtain ⟨e, r0, d1, d2, d3⟩ := nwi' hb hc hcode (s.extract n (n + 6)) (by rw [← nc9', hx, List.length_take]; omega)
        rw [hx] at d2 d3
        have hstep : ∀ X, (bif (e != 0) then some (Sum.inr ((l, (n : Int), ()), ())) else some (Sum.inl ((s, (), (l ++ [r0]), ((n + 6 : Nat) : Int), ()), (b.tup, ())))) = X → nen' s l (n : Int) b.Floors b.Debounce b.Room b.Park b.Empty b.Full b.Over b.Cars = X := by
          rintro X rfl
          unfold nen'
          simp only [w, decide_eq_true (show ((n + 6 : Nat) : Int) ≤ (s.size : Int) by omega), decide_eq_true (show (0 : Int) ≤ ((n + 6 : Nat) : Int) by omega), decide_eq_true (show (0 : Int) ≤ (n : Int) by omega), Int.toNat_natCast, decide_eq_true (show (n : Int) ≤ ((n + 6 : Nat) : Int) by omega), Bool.and_self, cond_true, d1, Option.bind_some]
          rw [n8' (show l.length + [Record.mk r0.Kind r0.Floor r0.Dir r0.Car r0.Value].length ≤ 2147483648 by rw [List.length_singleton]; omega)]
          rfl
        cases hd : decL b (((bl s).drop n).take 6) with
        | none =>
          rw [hd] at d2
          rw [d2] at hstep
          refine ⟨(n : Int), (n1' (hstep _ rfl)).trans ?_⟩
          simp only [readL, hbl, hd]
          rw [if_pos (by omega), List.append_nil]
        | some r =>
          rw [hd] at d2
          rw [d2] at hstep
          obtain rfl := d3 r hd
          obtain ⟨y, hy⟩ := ih (n + 6) (l ++ [r0]) (by omega) g (by rw [List.length_append, List.length_singleton]; omega)
          refine ⟨y, (nbx' (hstep _ rfl)).trans (hy.trans ?_)⟩
          simp only [readL, hbl, hd]
          rw [if_pos (by omega), List.append_assoc, List.drop_drop]
          rfl
      · refine ⟨(n : Int), n1' ?_⟩
        show nen' s l (n : Int) b.Floors b.Debounce b.Room b.Park b.Empty b.Full b.Over b.Cars = _
        unfold nen'
        rw [w, decide_eq_false (show ¬ ((n + 6 : Nat) : Int) ≤ (s.size : Int) by omega)]
        simp only [cond_false, readL]
        rw [if_neg (by rw [List.length_drop, nc9']; omega), List.append_nil]
  obtain ⟨y, hy⟩ := key s.size 0 [] (by omega) (by omega) (by simp)
  have hy' := nd' hy (by omega)
  refine ⟨y, ?_⟩
  unfold nme'
  rw [show nkv' ((s, (), [], (0 : Int), ()), ((b.Floors, b.Debounce, b.Room, b.Park, b.Empty, b.Full, b.Over, b.Cars, ()), ())) = _ from hy']
  rw [List.drop_zero, List.nil_append]
  rfl
theorem nsg' {b : Bldg} (hb : b.small) {rs : List Record} (hv : ∀ r ∈ rs, ny' b r = true) (hl : rs.length ≤ 900) (m0 m : Img) (hm : ImgOK b m) (hml : m.Entries.length = 0) :
    nip' (((), (), (), rs, (0 : Int), ()), (b.tup, m0.tup, m.tup, ())) = some (((), (), ()), (m0.tup, (nb5' m rs).tup, ())) := by
  have hcars := nbt' hm.code
  have h := ncl' (step := fun x => ne8' x.1.2.2.2.1 x.1.2.2.2.2.1 x.2.1.1 x.2.1.2.1 x.2.1.2.2.1 x.2.1.2.2.2.1 x.2.1.2.2.2.2.1 x.2.1.2.2.2.2.2.1 x.2.1.2.2.2.2.2.2.1 x.2.1.2.2.2.2.2.2.2.1 x.2.2.1.1 x.2.2.1.2.1 x.2.2.1.2.2.1 x.2.2.1.2.2.2.1 x.2.2.2.1.1 x.2.2.2.1.2.1 x.2.2.2.1.2.2.1 x.2.2.2.1.2.2.2.1) rs.length
    (fun i (m : Img) => (((), (), (), rs, (i : Int), ()), (b.tup, m0.tup, m.tup, ()))) (fun i m => nb6' m (rs.getD i (Record.mk 0 0 0 0 0))) (fun i m => ImgOK b m ∧ m.Entries.length ≤ i) (fun m => (((), (), ()), (m0.tup, m.tup, ()))) (fun i m hi hs => by
      obtain ⟨hm, hle⟩ := hs
      have hr := hv _ (nd9' (Record.mk 0 0 0 0 0) hi)
      have hlp := hm.lp
      have hmx : 1000 ≤ maxLen := by decide
      obtain ⟨a1, a2⟩ := nnh' hm hr
      refine ⟨?_, a1, by omega⟩
      have ha := nqa' hb m (by omega) (rs.getD i (Record.mk 0 0 0 0 0)) (by omega) (by omega)
      rw [nvy' hm hr] at ha
      show ne8' rs (i : Int) b.Floors b.Debounce b.Room b.Park b.Empty b.Full b.Over b.Cars m0.Phases m0.Flags m0.Leaving m0.Entries m.Phases m.Flags m.Leaving m.Entries = _
      unfold ne8'
      simp only [decide_eq_true (show (i : Int) < (rs.length : Int) by omega), nc' (show (0 : Int) ≤ (i : Int) by omega) (show (i : Int) < (rs.length : Int) by omega), cond_true, Int.toNat_natCast, ha, Option.bind_some, wrap1 hi (show rs.length ≤ nf' by unfold nf'; omega)]
      rfl) (fun m _ => by
      show ne8' rs (rs.length : Int) b.Floors b.Debounce b.Room b.Park b.Empty b.Full b.Over b.Cars m0.Phases m0.Flags m0.Leaving m0.Entries m.Phases m.Flags m.Leaving m.Entries = _
      unfold ne8'
      simp only [decide_eq_false (Int.lt_irrefl (rs.length : Int)), cond_false]
      rfl) rs.length 0 m (by omega) ⟨hm, by omega⟩
  have h' := nd' h.1 (by omega)
  have e : ∀ (l : List Record) (m : Img), l.foldl nb6' m = nb5' m l := fun l => by
    induction l with
    | nil => exact fun m => rfl
    | cons r t ih => exact fun m => ih (nb6' m r)
  rw [ni5' nb6' (Record.mk 0 0 0 0 0) rs rs.length 0 m (by omega), List.drop_zero, e] at h'
  exact h'
theorem nwc' {b : Bldg} (hb : b.small) (hcode : b.code = 0) (s : Sto) (hs : s.cur.size ≤ 5000) :
    nkn' b.Floors b.Debounce b.Room b.Park b.Empty b.Full b.Over b.Cars s.h0 s.h1 s.sel = some (((), ()), ((ncr' b s).tup, ())) := by
  have hcars := nbt' hcode
  obtain ⟨n, hr⟩ := nyw' hb (by omega) hcode s.cur (by omega)
  have hlen : (readV b s.cur).length ≤ 900 := by
    have := nlx' b s.cur.size (bl s.cur)
    rw [nc9'] at this
    unfold readV; omega
  have hl := nsg' (b := b) hb (rs := readV b s.cur) (fun r hr => ni4' b _ _ r hr) hlen Img.none (initV b) (njs' hcode) rfl
  unfold nkn'
  rw [noi' hcode (by omega), nsb']
  simp only [Option.bind_some]
  rw [show Sto.cur ⟨s.h0, s.h1, s.sel⟩ = s.cur from rfl, hr]
  simp only [Option.bind_some]
  simp only [Img.tup, Img.none, Bldg.tup] at hl ⊢
  rw [hl]
  rfl
theorem nvo' {b : Bldg} (hcode : b.code = 0) (s : Sto) (bud : Int) : nm2' b.Floors b.Debounce b.Room b.Park b.Empty b.Full b.Over b.Cars s.h0 s.h1 s.sel bud = some ((decide (s.ok b.Room) && decide (0 ≤ bud), ()), ()) := by
  unfold nm2'
  rw [ne4', hcode, njo']
  simp only [Option.bind_some, beq_self_eq_true, cond_true]
  rw [show Sto.mk s.h0 s.h1 s.sel = s from rfl]
  cases decide (s.ok b.Room) <;> rfl
theorem n37' {room : Int} {s : Sto} {half bud : Int} {t : Sto} (h : (s.act room half bud t).2.2 ≠ 0) : (s.act room half bud t).2.1 = 0 := by
  unfold Sto.act at *
  split
  · rfl
  · split
    · rfl
    · rename_i h1 h2
      rw [if_neg h1, if_neg h2] at h
      exact absurd rfl h
theorem n2k' {room : Int} {s : Sto} {half bud : Int} {d : ByteArray} (h : (s.write room half d bud).2.2 ≠ 0) : (s.write room half d bud).2.1 = 0 := by
  unfold Sto.write at *
  split
  · rfl
  · split
    · rfl
    · split
      · rfl
      · rename_i h1 h2 h3
        rw [if_neg h1, if_neg h2, if_neg h3] at h
        exact absurd rfl h
theorem n22' (bud : Int) : decide (bud < 0) = !decide (0 ≤ bud) := nqm' bud 0
theorem nur' {b : Bldg} (hb : b.small) (hcode : b.code = 0) (s : Sto) {m : Img} (hf : m.fit) (hl : m.Entries.length ≤ 5000) {bud : Int} (hbud : bud < 9223372036854775808) :
    njh' b.Floors b.Debounce b.Room b.Park b.Empty b.Full b.Over b.Cars s.h0 s.h1 s.sel m.Phases m.Flags m.Leaving m.Entries bud = some (Sto.out (nc4' b s m bud)) := by
  have hmx : 100000 ≤ maxLen := by decide
  have hp := hf.p
  have he := hf.e
  have hcars := nbt' hcode
  unfold njh' nc4'
  rw [nvo' hcode, nii' hb m (by omega) (by omega), nng' hb hf, n22']
  simp only [Option.bind_some]
  by_cases hs : s.ok b.Room
  · rw [decide_eq_true hs]
    by_cases hb0 : 0 ≤ bud
    · rw [decide_eq_true hb0]
      cases hok : m.ok b with
      | false => rfl
      | true =>
        have hm := Img.ok_iff.1 hok
        have hlp := hm.lp
        have hsn : snapR b m = snapV m := by unfold snapR; rw [hok]; rfl
        have hsl := nnu' m
        have hby := npq' hb (by omega) (rs := snapV m) (by rw [hsl]; omega)
        rw [now' (nmb' hm)] at hby
        have hsel : IntKind.i64.wrap (1 - s.sel) = 1 - s.sel := by
          obtain ⟨_, _, _, _, h5⟩ := hs
          exact nb' (by omega) (by omega)
        simp only [Bool.and_self, Bool.not_true, cond_false, hsn, hby, Option.bind_some, hsel, n1q' _ _ _ _ _ _ hbud, Sto.out]
        have hb1 := nzo' b.Room s (1 - s.sel) bud (s.set (1 - s.sel) noB) hbud
        have he1 : (s.erase b.Room (1 - s.sel) bud).2.2 ≠ 0 → (s.erase b.Room (1 - s.sel) bud).2.1 = 0 := n37'
        rw [show s.act b.Room (1 - s.sel) bud (s.set (1 - s.sel) noB) = s.erase b.Room (1 - s.sel) bud from rfl] at hb1
        rw [show Sto.mk s.h0 s.h1 s.sel = s from rfl]
        generalize s.erase b.Room (1 - s.sel) bud = r1 at hb1 he1 ⊢
        by_cases hq : r1.2.2 = 0
        · have hdl : (txt ((snapV m).flatMap encL)).size < 1000000 := by rw [nev', nqw', hsl]; omega
          simp only [hq, bne_self_eq_false, cond_false, beq_self_eq_true, cond_true, nts' _ _ _ _ _ _ _ hb1 hdl, Option.bind_some, Sto.out]
          have hb2 := nuz' b.Room r1.1 (1 - s.sel) (txt ((snapV m).flatMap encL)) r1.2.1 hb1
          have he2 : (r1.1.write b.Room (1 - s.sel) (txt ((snapV m).flatMap encL)) r1.2.1).2.2 ≠ 0 → (r1.1.write b.Room (1 - s.sel) (txt ((snapV m).flatMap encL)) r1.2.1).2.1 = 0 := n2k'
          rw [show Sto.mk r1.1.h0 r1.1.h1 r1.1.sel = r1.1 from rfl]
          generalize r1.1.write b.Room (1 - s.sel) (txt ((snapV m).flatMap encL)) r1.2.1 = r2 at hb2 he2 ⊢
          by_cases hq2 : r2.2.2 = 0
          · simp only [hq2, bne_self_eq_false, cond_false, beq_self_eq_true, cond_true, n0u' _ _ _ _ _ _ hb2, Option.bind_some, Sto.out]
          · rw [bne_t hq2, beq_f hq2, cond_true, cond_false, he2 hq2]
        · rw [bne_t hq, beq_f hq, cond_true, cond_false, he1 hq]
    · rw [decide_eq_false hb0]; rfl
  · rw [decide_eq_false hs]; rfl
theorem nt9' {b : Bldg} (hb : b.small) (hcode : b.code = 0) (s : Sto) (hs : s.cur.size ≤ 5000) {bud : Int} (hbud : bud < 9223372036854775808) :
    njj' b.Floors b.Debounce b.Room b.Park b.Empty b.Full b.Over b.Cars s.h0 s.h1 s.sel bud = some (nsm' (nbs' b s bud).1 (nbs' b s bud).2.1 (nbs' b s bud).2.2.1 (nbs' b s bud).2.2.2) := by
  have hc := nbt' hcode
  obtain ⟨hok, hle, hf⟩ := nqk' hcode s (by omega)
  have hle2 : (ncr' b s).Entries.length ≤ 900 := by
    have h2 := (nnd' (njs' hcode) (rs := readV b s.cur) fun r hr => ni4' b _ _ r hr).2
    have h3 := nlx' b s.cur.size (bl s.cur)
    rw [nc9'] at h3
    have h4 : (initV b).Entries.length = 0 := rfl
    have h5 : (readV b s.cur).length = (readL b s.cur.size (bl s.cur)).length := rfl
    show (nb5' (initV b) (readV b s.cur)).Entries.length ≤ _
    omega
  unfold njj'
  rw [nvo' hcode, nwc' hb hcode s hs]
  simp only [Option.bind_some, Img.tup]
  rw [nur' hb hcode s hf (by omega) hbud]
  simp only [Option.bind_some, Sto.out]
  unfold nbs'
  cases hq : decide (s.ok b.Room) && decide (0 ≤ bud) with
  | false =>
    have e : nc4' b s (ncr' b s) bud = (Sto.no, 0, 1) := by
      unfold nc4'
      rw [n22']
      rw [Bool.and_eq_false_iff] at hq
      rcases hq with hq | hq
      · rw [hq]; rfl
      · rw [hq]
        cases decide (s.ok b.Room) <;> rfl
    rw [e]; rfl
  | true =>
    generalize nc4' b s (ncr' b s) bud = w
    cases w.2.2 != 0 <;> rfl
end Go.Ovl
