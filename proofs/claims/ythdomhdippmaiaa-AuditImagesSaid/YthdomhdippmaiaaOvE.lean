/- Layer 10: compacting, appending, replaying and recovering, by the reference. -/
import Derived.Test.YthdomhdippmaiaaOvD
namespace Go.Ovl
open Go Go.Ab
set_option maxRecDepth 100000
theorem num' {b : Bldg} (hb : b.small) (hc : b.Cars.length ≤ 100) (hcode : b.code = 0) (s : ByteArray) (_hs : s.size ≤ 1000000) :
    ∃ (e : Int) (r0 : Record), nh1' b.Floors b.Debounce b.Room b.Park b.Empty b.Full b.Over b.Cars s = some (((), e, ()), ((r0.Kind, r0.Floor, r0.Dir, r0.Car, r0.Value, ()), ())) ∧ (e != 0) = (decL b (bl s)).isNone ∧ ∀ r, decL b (bl s) = some r → r0 = r := by
  unfold nh1'
  rw [ndt', hcode]
  simp only [Option.bind_some, bne_self_eq_false, cond_false]
  unfold decL
  by_cases h6 : s.size = 6
  · have l6 : (bl s).length = 6 := by rw [ncb']; exact h6
    have ib : ∀ i : Int, 0 ≤ i → i < 6 → inB i s.size = true := fun i h h' => nd' h (by omega)
    have x5 : bl (s.extract 0 5) = (bl s).take 5 := by rw [noa']; rfl
    rw [show (((s.size : Nat) : Int) != 6) = false by rw [h6]; rfl, decide_eq_true (show (5 : Int) ≤ ((s.size : Nat) : Int) by omega), np1' (by rw [← ncb', x5, List.length_take]; omega), x5]
    simp only [cond_false, cond_true, Option.bind_some, ib 5 (by omega) (by omega), ib 0 (by omega) (by omega), ib 1 (by omega) (by omega), ib 2 (by omega) (by omega), ib 3 (by omega) (by omega), ib 4 (by omega) (by omega), nlt']
    rw [l6, show Int.toNat 5 = 5 from rfl, show Int.toNat 0 = 0 from rfl, show Int.toNat 1 = 1 from rfl, show Int.toNat 2 = 2 from rfl, show Int.toNat 3 = 3 from rfl, show Int.toNat 4 = 4 from rfl]
    simp only [show ∀ i : Nat, (((bl s).getD i 0).toNat : Int) = fld (bl s) i from fun _ => rfl]
    have f0 := ng0' (bl s) 0
    have f1 := ng0' (bl s) 1
    have f2 := ng0' (bl s) 2
    have f3 := ng0' (bl s) 3
    have f4 := ng0' (bl s) 4
    rw [nb' (n := fld (bl s) 0) (by omega) (by omega), nb' (n := fld (bl s) 1) (by omega) (by omega), nb' (n := fld (bl s) 2) (by omega) (by omega), nb' (n := fld (bl s) 3) (by omega) (by omega), nb' (n := fld (bl s) 3 - 2) (by omega) (by omega), nb' (n := fld (bl s) 4) (by omega) (by omega)]
    simp only [bne]
    cases hq : (((sum8L ((bl s).take 5) : Nat) : Int)) == fld (bl s) 5 with
    | false => exact ⟨5, ⟨0, 0, 0, 0, 0⟩, rfl, rfl, fun r h => by cases h⟩
    | true =>
      have hv := nlg' hb hc (recL (bl s))
      unfold recL at hv
      simp only at hv
      simp only [Bool.not_true, cond_false, hv, Option.bind_some]
      show ∃ e r0, (bif !(nr' b (recL (bl s))) then _ else _) = _ ∧ _
      cases nr' b (recL (bl s)) with
      | false => exact ⟨9, ⟨0, 0, 0, 0, 0⟩, rfl, rfl, fun r h => by cases h⟩
      | true => exact ⟨0, recL (bl s), rfl, rfl, fun r h => Option.some.inj h⟩
  · rw [show (((s.size : Nat) : Int) != 6) = true from bne_t (by omega), show ((bl s).length == 6) = false from beq_f (by rw [ncb']; exact h6)]
    exact ⟨4, ⟨0, 0, 0, 0, 0⟩, rfl, rfl, fun r h => by cases h⟩
theorem nxc' {b : Bldg} (hb : b.small) (hc : b.Cars.length ≤ 100) (hcode : b.code = 0) (s : ByteArray) (hs : s.size ≤ 1000000) :
    ∃ n : Int, nkj' b.Floors b.Debounce b.Room b.Park b.Empty b.Full b.Over b.Cars s = some ((readV b s, n, ()), ()) := by
  have key : ∀ (k n : Nat) (l : List Record), s.size ≤ n + 6 * k → n ≤ s.size → l.length ≤ n → ∃ y : Int, iter (fun x => nc7' x.1.1 x.1.2.2.1 x.1.2.2.2.1 x.2.1.1 x.2.1.2.1 x.2.1.2.2.1 x.2.1.2.2.2.1 x.2.1.2.2.2.2.1 x.2.1.2.2.2.2.2.1 x.2.1.2.2.2.2.2.2.1 x.2.1.2.2.2.2.2.2.2.1) (k + 1) ((s, (), l, (n : Int), ()), (b.tup, ())) = some ((l ++ readL b k ((bl s).drop n), y, ()), ()) := by
    intro k
    induction k with
    | zero =>
      intro n l h1 h2 _
      refine ⟨(n : Int), ns' ?_⟩
      show nc7' s l (n : Int) b.Floors b.Debounce b.Room b.Park b.Empty b.Full b.Over b.Cars = _
      unfold nc7'
      rw [nb' (n := (n : Int) + 6) (by omega) (by omega), decide_eq_false (show ¬ (n : Int) + 6 ≤ (s.size : Int) by omega)]
      simp only [cond_false, readL, List.append_nil]
    | succ k ih =>
      intro n l h1 h2 h3
      have w : IntKind.i64.wrap ((n : Int) + 6) = ((n + 6 : Nat) : Int) := by rw [nb' (by omega) (by omega)]; omega
      by_cases g : n + 6 ≤ s.size
      · have hbl : ((bl s).drop n).length = s.size - n := by rw [List.length_drop, ncb']
        have hx : bl (s.extract n (n + 6)) = ((bl s).drop n).take 6 := by rw [noa', show n + 6 - n = 6 by omega]
        obtain ⟨e, r0, d1, d2, d3⟩ := num' hb hc hcode (s.extract n (n + 6)) (by rw [← ncb', hx, List.length_take]; omega)
        rw [hx] at d2 d3
        have hstep : ∀ X, (bif (e != 0) then some (Sum.inr ((l, (n : Int), ()), ())) else some (Sum.inl ((s, (), (l ++ [r0]), ((n + 6 : Nat) : Int), ()), (b.tup, ())))) = X → nc7' s l (n : Int) b.Floors b.Debounce b.Room b.Park b.Empty b.Full b.Over b.Cars = X := by
          rintro X rfl
          unfold nc7'
          simp only [w, decide_eq_true (show ((n + 6 : Nat) : Int) ≤ (s.size : Int) by omega), decide_eq_true (show (0 : Int) ≤ ((n + 6 : Nat) : Int) by omega), decide_eq_true (show (0 : Int) ≤ (n : Int) by omega), Int.toNat_natCast, decide_eq_true (show (n : Int) ≤ ((n + 6 : Nat) : Int) by omega), Bool.and_self, cond_true, d1, Option.bind_some]
          rw [nbk' (show l.length + [Record.mk r0.Kind r0.Floor r0.Dir r0.Car r0.Value].length ≤ 2147483648 by rw [List.length_singleton]; omega)]
          rfl
        cases hd : decL b (((bl s).drop n).take 6) with
        | none =>
          rw [hd] at d2
          rw [d2] at hstep
          refine ⟨(n : Int), (ns' (hstep _ rfl)).trans ?_⟩
          simp only [readL, hbl, hd]
          rw [if_pos (by omega), List.append_nil]
        | some r =>
          rw [hd] at d2
          rw [d2] at hstep
          obtain rfl := d3 r hd
          obtain ⟨y, hy⟩ := ih (n + 6) (l ++ [r0]) (by omega) g (by rw [List.length_append, List.length_singleton]; omega)
          refine ⟨y, (nbd' (hstep _ rfl)).trans (hy.trans ?_)⟩
          simp only [readL, hbl, hd]
          rw [if_pos (by omega), List.append_assoc, List.drop_drop]
          rfl
      · refine ⟨(n : Int), ns' ?_⟩
        show nc7' s l (n : Int) b.Floors b.Debounce b.Room b.Park b.Empty b.Full b.Over b.Cars = _
        unfold nc7'
        rw [w, decide_eq_false (show ¬ ((n + 6 : Nat) : Int) ≤ (s.size : Int) by omega)]
        simp only [cond_false, readL]
        rw [if_neg (by rw [List.length_drop, ncb']; omega), List.append_nil]
  obtain ⟨y, hy⟩ := key s.size 0 [] (by omega) (by omega) (by simp)
  have hy' := no' hy (by omega)
  refine ⟨y, ?_⟩
  unfold nkj'
  rw [show nig' ((s, (), [], (0 : Int), ()), ((b.Floors, b.Debounce, b.Room, b.Park, b.Empty, b.Full, b.Over, b.Cars, ()), ())) = _ from hy']
  rw [List.drop_zero, List.nil_append]
  rfl
theorem nr3' {b : Bldg} (hb : b.small) {rs : List Record} (hv : ∀ r ∈ rs, nr' b r = true) (hl : rs.length ≤ 900) (m0 m : Img) (hm : ImgOK b m) (hml : m.Entries.length = 0) :
    ngo' (((), (), (), rs, (0 : Int), ()), (b.tup, m0.tup, m.tup, ())) = some (((), (), ()), (m0.tup, (nba' m rs).tup, ())) := by
  have hcars := ncq' hm.code
  have h := ncd' (step := fun x => ndp' x.1.2.2.2.1 x.1.2.2.2.2.1 x.2.1.1 x.2.1.2.1 x.2.1.2.2.1 x.2.1.2.2.2.1 x.2.1.2.2.2.2.1 x.2.1.2.2.2.2.2.1 x.2.1.2.2.2.2.2.2.1 x.2.1.2.2.2.2.2.2.2.1 x.2.2.1.1 x.2.2.1.2.1 x.2.2.1.2.2.1 x.2.2.1.2.2.2.1 x.2.2.2.1.1 x.2.2.2.1.2.1 x.2.2.2.1.2.2.1 x.2.2.2.1.2.2.2.1) rs.length
    (fun i (m : Img) => (((), (), (), rs, (i : Int), ()), (b.tup, m0.tup, m.tup, ()))) (fun i m => n9' m (rs.getD i (Record.mk 0 0 0 0 0))) (fun i m => ImgOK b m ∧ m.Entries.length ≤ i) (fun m => (((), (), ()), (m0.tup, m.tup, ()))) (fun i m hi hs => by
      obtain ⟨hm, hle⟩ := hs
      have hr := hv _ (nfg' (Record.mk 0 0 0 0 0) hi)
      have hlp := hm.lp
      have hmx : 1000 ≤ maxLen := by decide
      obtain ⟨a1, a2⟩ := nlv' hm hr
      refine ⟨?_, a1, by omega⟩
      have ha := no6' hb m (by omega) (rs.getD i (Record.mk 0 0 0 0 0)) (by omega) (by omega)
      rw [nue' hm hr] at ha
      show ndp' rs (i : Int) b.Floors b.Debounce b.Room b.Park b.Empty b.Full b.Over b.Cars m0.Phases m0.Flags m0.Leaving m0.Entries m.Phases m.Flags m.Leaving m.Entries = _
      unfold ndp'
      simp only [decide_eq_true (show (i : Int) < (rs.length : Int) by omega), nd' (show (0 : Int) ≤ (i : Int) by omega) (show (i : Int) < (rs.length : Int) by omega), cond_true, Int.toNat_natCast, ha, Option.bind_some, wrap1 hi (show rs.length ≤ n4' by unfold n4'; omega)]
      rfl) (fun m _ => by
      show ndp' rs (rs.length : Int) b.Floors b.Debounce b.Room b.Park b.Empty b.Full b.Over b.Cars m0.Phases m0.Flags m0.Leaving m0.Entries m.Phases m.Flags m.Leaving m.Entries = _
      unfold ndp'
      simp only [decide_eq_false (Int.lt_irrefl (rs.length : Int)), cond_false]
      rfl) rs.length 0 m (by omega) ⟨hm, by omega⟩
  have h' := no' h.1 (by omega)
  have e : ∀ (l : List Record) (m : Img), l.foldl n9' m = nba' m l := fun l => by
    induction l with
    | nil => exact fun m => rfl
    | cons r t ih => exact fun m => ih (n9' m r)
  rw [ng3' n9' (Record.mk 0 0 0 0 0) rs rs.length 0 m (by omega), List.drop_zero, e] at h'
  exact h'
theorem nny' {b : Bldg} (hb : b.small) (hcode : b.code = 0) (s : Sto) (hs : s.cur.size ≤ 5000) :
    ngj' b.Floors b.Debounce b.Room b.Park b.Empty b.Full b.Over b.Cars s.h0 s.h1 s.sel = some (((), ()), ((n3' b s).tup, ())) := by
  have hcars := ncq' hcode
  obtain ⟨n, hr⟩ := nxc' hb (by omega) hcode s.cur (by omega)
  have hlen : (readV b s.cur).length ≤ 900 := by
    have := nj5' b s.cur.size (bl s.cur)
    rw [ncb'] at this
    unfold readV; omega
  have hl := nr3' (b := b) hb (rs := readV b s.cur) (fun r hr => ngz' b _ _ r hr) hlen Img.none (initV b) (nho' hcode) rfl
  unfold ngj'
  rw [nmt' hcode (by omega), nqs']
  simp only [Option.bind_some]
  rw [show Sto.cur ⟨s.h0, s.h1, s.sel⟩ = s.cur from rfl, hr]
  simp only [Option.bind_some]
  simp only [Img.tup, Img.none, Bldg.tup] at hl ⊢
  rw [hl]
  rfl
theorem ntp' {b : Bldg} (hcode : b.code = 0) (s : Sto) (bud : Int) : njf' b.Floors b.Debounce b.Room b.Park b.Empty b.Full b.Over b.Cars s.h0 s.h1 s.sel bud = some ((decide (s.ok b.Room) && decide (0 ≤ bud), ()), ()) := by
  unfold njf'
  rw [ndt', hcode, nhm']
  simp only [Option.bind_some, beq_self_eq_true, cond_true]
  rw [show Sto.mk s.h0 s.h1 s.sel = s from rfl]
  cases decide (s.ok b.Room) <;> rfl
theorem n22' {room : Int} {s : Sto} {half bud : Int} {t : Sto} (h : (s.act room half bud t).2.2 ≠ 0) : (s.act room half bud t).2.1 = 0 := by
  unfold Sto.act at *
  split
  · rfl
  · split
    · rfl
    · rename_i h1 h2
      rw [if_neg h1, if_neg h2] at h
      exact absurd rfl h
theorem n1d' {room : Int} {s : Sto} {half bud : Int} {d : ByteArray} (h : (s.write room half d bud).2.2 ≠ 0) : (s.write room half d bud).2.1 = 0 := by
  unfold Sto.write at *
  split
  · rfl
  · split
    · rfl
    · split
      · rfl
      · rename_i h1 h2 h3
        rw [if_neg h1, if_neg h2, if_neg h3] at h
        exact absurd rfl h
theorem nzw' (bud : Int) : decide (bud < 0) = !decide (0 ≤ bud) := no0' bud 0
theorem nsb' {b : Bldg} (hb : b.small) (hcode : b.code = 0) (s : Sto) {m : Img} (hf : m.fit) (hl : m.Entries.length ≤ 5000) {bud : Int} (hbud : bud < 9223372036854775808) :
    nfs' b.Floors b.Debounce b.Room b.Park b.Empty b.Full b.Over b.Cars s.h0 s.h1 s.sel m.Phases m.Flags m.Leaving m.Entries bud = some (Sto.out (nck' b s m bud)) := by
  have hmx : 100000 ≤ maxLen := by decide
  have hp := hf.p
  have he := hf.e
  have hcars := ncq' hcode
  unfold nfs' nck'
  rw [ntp' hcode, ngt' hb m (by omega) (by omega), nrq' hb hf, nzw']
  simp only [Option.bind_some]
  by_cases hs : s.ok b.Room
  · rw [decide_eq_true hs]
    by_cases hb0 : 0 ≤ bud
    · rw [decide_eq_true hb0]
      cases hok : m.ok b with
      | false => rfl
      | true =>
        have hm := Img.ok_iff.1 hok
        have hlp := hm.lp
        have hsn : snapR b m = snapV m := by unfold snapR; rw [hok]; rfl
        have hsl := nug' m
        have hby := nuu' hb (by omega) (rs := snapV m) (by rw [hsl]; omega)
        rw [nwn' (nr0' hm)] at hby
        have hsel : IntKind.i64.wrap (1 - s.sel) = 1 - s.sel := by
          obtain ⟨_, _, _, _, h5⟩ := hs
          exact nb' (by omega) (by omega)
        simp only [Bool.and_self, Bool.not_true, cond_false, hsn, hby, Option.bind_some, hsel, n1p' _ _ _ _ _ _ hbud, Sto.out]
        have hb1 := n3x' b.Room s (1 - s.sel) bud (s.set (1 - s.sel) noB) hbud
        have he1 : (s.erase b.Room (1 - s.sel) bud).2.2 ≠ 0 → (s.erase b.Room (1 - s.sel) bud).2.1 = 0 := n22'
        rw [show s.act b.Room (1 - s.sel) bud (s.set (1 - s.sel) noB) = s.erase b.Room (1 - s.sel) bud from rfl] at hb1
        rw [show Sto.mk s.h0 s.h1 s.sel = s from rfl]
        generalize s.erase b.Room (1 - s.sel) bud = r1 at hb1 he1 ⊢
        by_cases hq : r1.2.2 = 0
        · have hdl : (txt ((snapV m).flatMap encL)).size < 1000000 := by rw [nff', ns0', hsl]; omega
          simp only [hq, bne_self_eq_false, cond_false, beq_self_eq_true, cond_true, nsw' _ _ _ _ _ _ _ hb1 hdl, Option.bind_some, Sto.out]
          have hb2 := nzv' b.Room r1.1 (1 - s.sel) (txt ((snapV m).flatMap encL)) r1.2.1 hb1
          have he2 : (r1.1.write b.Room (1 - s.sel) (txt ((snapV m).flatMap encL)) r1.2.1).2.2 ≠ 0 → (r1.1.write b.Room (1 - s.sel) (txt ((snapV m).flatMap encL)) r1.2.1).2.1 = 0 := n1d'
          rw [show Sto.mk r1.1.h0 r1.1.h1 r1.1.sel = r1.1 from rfl]
          generalize r1.1.write b.Room (1 - s.sel) (txt ((snapV m).flatMap encL)) r1.2.1 = r2 at hb2 he2 ⊢
          by_cases hq2 : r2.2.2 = 0
          · simp only [hq2, bne_self_eq_false, cond_false, beq_self_eq_true, cond_true, nyw' _ _ _ _ _ _ hb2, Option.bind_some, Sto.out]
          · rw [bne_t hq2, beq_f hq2, cond_true, cond_false, he2 hq2]
        · rw [bne_t hq, beq_f hq, cond_true, cond_false, he1 hq]
    · rw [decide_eq_false hb0]; rfl
  · rw [decide_eq_false hs]; rfl
theorem nsr' {b : Bldg} (hb : b.small) (hcode : b.code = 0) (s : Sto) (hs : s.cur.size ≤ 5000) {bud : Int} (hbud : bud < 9223372036854775808) :
    ng9' b.Floors b.Debounce b.Room b.Park b.Empty b.Full b.Over b.Cars s.h0 s.h1 s.sel bud = some (n1m' (nbr' b s bud).1 (nbr' b s bud).2.1 (nbr' b s bud).2.2.1 (nbr' b s bud).2.2.2) := by
  have hc := ncq' hcode
  obtain ⟨hok, hle, hf⟩ := nlw' hcode s (by omega)
  have hle2 : (n3' b s).Entries.length ≤ 900 := by
    have h2 := (nl6' (nho' hcode) (rs := readV b s.cur) fun r hr => ngz' b _ _ r hr).2
    have h3 := nj5' b s.cur.size (bl s.cur)
    rw [ncb'] at h3
    have h4 : (initV b).Entries.length = 0 := rfl
    have h5 : (readV b s.cur).length = (readL b s.cur.size (bl s.cur)).length := rfl
    show (nba' (initV b) (readV b s.cur)).Entries.length ≤ _
    omega
  unfold ng9'
  rw [ntp' hcode, nny' hb hcode s hs]
  simp only [Option.bind_some, Img.tup]
  rw [nsb' hb hcode s hf (by omega) hbud]
  simp only [Option.bind_some, Sto.out]
  unfold nbr'
  cases hq : decide (s.ok b.Room) && decide (0 ≤ bud) with
  | false =>
    have e : nck' b s (n3' b s) bud = (Sto.no, 0, 1) := by
      unfold nck'
      rw [nzw']
      rw [Bool.and_eq_false_iff] at hq
      rcases hq with hq | hq
      · rw [hq]; rfl
      · rw [hq]
        cases decide (s.ok b.Room) <;> rfl
    rw [e]; rfl
  | true =>
    generalize nck' b s (n3' b s) bud = w
    cases w.2.2 != 0 <;> rfl
end Go.Ovl
namespace Go.Ovl
open Go Go.Ab
set_option maxRecDepth 100000
theorem nwp' {b : Bldg} (hb : b.small) (m : Img) (hc : b.Cars.length ≤ 100000) (hf : m.fit) : nh3' b.Floors b.Debounce b.Room b.Park b.Empty b.Full b.Over b.Cars m.Phases m.Flags m.Leaving m.Entries = some ((fitsV b m, ()), ()) := by
  have hmx : 100000 ≤ maxLen := by decide
  have hp := hf.p
  have he := hf.e
  unfold nh3' fitsV
  rw [ngt' hb m (by omega) (by omega)]
  simp only [Option.bind_some, fitW hc he]
  cases m.ok b <;> rfl
theorem nwj' (b : Bldg) (hc : b.Cars.length ≤ 1000) (m : Img) (z o : Mch) (ho : o.Beliefs = []) : nfn' (((), (), (), (b.Cars.length : Int), (), (0 : Int), ()), (b.tup, m.tup, z.tup, o.tup, ())) = some (((), (), (), (), ()), (b.tup, m.tup, z.tup, (o.withB (List.replicate b.Cars.length noc')).tup, ())) := by
  have h := ncd' (step := fun x => ndz' x.1.2.2.2.1 x.1.2.2.2.2.2.1 x.2.1.1 x.2.1.2.1 x.2.1.2.2.1 x.2.1.2.2.2.1 x.2.1.2.2.2.2.1 x.2.1.2.2.2.2.2.1 x.2.1.2.2.2.2.2.2.1 x.2.1.2.2.2.2.2.2.2.1 x.2.2.1.1 x.2.2.1.2.1 x.2.2.1.2.2.1 x.2.2.1.2.2.2.1 x.2.2.2.1.1 x.2.2.2.1.2.1 x.2.2.2.1.2.2.1 x.2.2.2.1.2.2.2.1 x.2.2.2.1.2.2.2.2.1 x.2.2.2.1.2.2.2.2.2.1 x.2.2.2.1.2.2.2.2.2.2.1 x.2.2.2.1.2.2.2.2.2.2.2.1 x.2.2.2.1.2.2.2.2.2.2.2.2.1 x.2.2.2.1.2.2.2.2.2.2.2.2.2.1 x.2.2.2.1.2.2.2.2.2.2.2.2.2.2.1 x.2.2.2.1.2.2.2.2.2.2.2.2.2.2.2.1 x.2.2.2.1.2.2.2.2.2.2.2.2.2.2.2.2.1 x.2.2.2.1.2.2.2.2.2.2.2.2.2.2.2.2.2.1 x.2.2.2.1.2.2.2.2.2.2.2.2.2.2.2.2.2.2.1 x.2.2.2.1.2.2.2.2.2.2.2.2.2.2.2.2.2.2.2.1 x.2.2.2.2.1.1 x.2.2.2.2.1.2.1 x.2.2.2.2.1.2.2.1 x.2.2.2.2.1.2.2.2.1 x.2.2.2.2.1.2.2.2.2.1 x.2.2.2.2.1.2.2.2.2.2.1 x.2.2.2.2.1.2.2.2.2.2.2.1 x.2.2.2.2.1.2.2.2.2.2.2.2.1 x.2.2.2.2.1.2.2.2.2.2.2.2.2.1 x.2.2.2.2.1.2.2.2.2.2.2.2.2.2.1 x.2.2.2.2.1.2.2.2.2.2.2.2.2.2.2.1 x.2.2.2.2.1.2.2.2.2.2.2.2.2.2.2.2.1 x.2.2.2.2.1.2.2.2.2.2.2.2.2.2.2.2.2.1 x.2.2.2.2.1.2.2.2.2.2.2.2.2.2.2.2.2.2.1 x.2.2.2.2.1.2.2.2.2.2.2.2.2.2.2.2.2.2.2.1 x.2.2.2.2.1.2.2.2.2.2.2.2.2.2.2.2.2.2.2.2.1) b.Cars.length (fun i (l : List Belief) => (((), (), (), (b.Cars.length : Int), (), (i : Int), ()), (b.tup, m.tup, z.tup, (o.withB l).tup, ()))) (fun _ l => l ++ [noc']) (fun i l => l.length ≤ i) (fun l => (((), (), (), (), ()), (b.tup, m.tup, z.tup, (o.withB l).tup, ()))) (fun i l hi hl => by
    refine ⟨?_, by rw [List.length_append, List.length_singleton]; omega⟩
    show ndz' (b.Cars.length : Int) (i : Int) b.Floors b.Debounce b.Room b.Park b.Empty b.Full b.Over b.Cars m.Phases m.Flags m.Leaving m.Entries z.Image.Phases z.Image.Flags z.Image.Leaving z.Image.Entries z.Store.h0 z.Store.h1 z.Store.sel z.Contacts z.Beliefs z.Cars z.Loads z.Expect z.Lit z.Tick z.Faults z.Refused (o.withB l).Image.Phases (o.withB l).Image.Flags (o.withB l).Image.Leaving (o.withB l).Image.Entries (o.withB l).Store.h0 (o.withB l).Store.h1 (o.withB l).Store.sel (o.withB l).Contacts (o.withB l).Beliefs (o.withB l).Cars (o.withB l).Loads (o.withB l).Expect (o.withB l).Lit (o.withB l).Tick (o.withB l).Faults (o.withB l).Refused = _
    unfold ndz' nhs'
    simp only [decide_eq_true (show (i : Int) < (b.Cars.length : Int) by omega), cond_true, Option.bind_some, wrap1 hi (show b.Cars.length ≤ n4' by unfold n4'; omega)]
    rw [nbk' (show (o.withB l).Beliefs.length + [Belief.mk (-1) 0 0 [] 0 false].length ≤ 2147483648 by show l.length + 1 ≤ _; omega)]
    rfl) (fun l _ => by
    show ndz' (b.Cars.length : Int) (b.Cars.length : Int) b.Floors b.Debounce b.Room b.Park b.Empty b.Full b.Over b.Cars m.Phases m.Flags m.Leaving m.Entries z.Image.Phases z.Image.Flags z.Image.Leaving z.Image.Entries z.Store.h0 z.Store.h1 z.Store.sel z.Contacts z.Beliefs z.Cars z.Loads z.Expect z.Lit z.Tick z.Faults z.Refused (o.withB l).Image.Phases (o.withB l).Image.Flags (o.withB l).Image.Leaving (o.withB l).Image.Entries (o.withB l).Store.h0 (o.withB l).Store.h1 (o.withB l).Store.sel (o.withB l).Contacts (o.withB l).Beliefs (o.withB l).Cars (o.withB l).Loads (o.withB l).Expect (o.withB l).Lit (o.withB l).Tick (o.withB l).Faults (o.withB l).Refused = _
    unfold ndz'
    simp only [decide_eq_false (Int.lt_irrefl (b.Cars.length : Int)), cond_false]
    rfl) b.Cars.length 0 [] (by omega) (by simp)
  have h' := no' h.1 (by omega)
  rw [nhw' (fun _ => [noc']), nwd', List.nil_append] at h'
  rw [show o.tup = (o.withB []).tup by unfold Mch.withB Mch.tup; rw [ho]]
  exact h'
theorem nwa' (b : Bldg) (m : Img) (hl : m.Entries.length ≤ 100000) (hcar : ∀ e ∈ m.Entries, e.Car < (b.Cars.length : Int)) (z o : Mch) (ho : o.Expect = []) : nfl' (((), (), (), (), (0 : Int), ()), (b.tup, m.tup, z.tup, o.tup, ())) = some (((), (), ()), (z.tup, (o.withE (m.Entries.map (nku' b))).tup, ())) := by
  have h := ncd' (step := fun x => nd2' x.1.2.2.2.2.1 x.2.1.1 x.2.1.2.1 x.2.1.2.2.1 x.2.1.2.2.2.1 x.2.1.2.2.2.2.1 x.2.1.2.2.2.2.2.1 x.2.1.2.2.2.2.2.2.1 x.2.1.2.2.2.2.2.2.2.1 x.2.2.1.1 x.2.2.1.2.1 x.2.2.1.2.2.1 x.2.2.1.2.2.2.1 x.2.2.2.1.1 x.2.2.2.1.2.1 x.2.2.2.1.2.2.1 x.2.2.2.1.2.2.2.1 x.2.2.2.1.2.2.2.2.1 x.2.2.2.1.2.2.2.2.2.1 x.2.2.2.1.2.2.2.2.2.2.1 x.2.2.2.1.2.2.2.2.2.2.2.1 x.2.2.2.1.2.2.2.2.2.2.2.2.1 x.2.2.2.1.2.2.2.2.2.2.2.2.2.1 x.2.2.2.1.2.2.2.2.2.2.2.2.2.2.1 x.2.2.2.1.2.2.2.2.2.2.2.2.2.2.2.1 x.2.2.2.1.2.2.2.2.2.2.2.2.2.2.2.2.1 x.2.2.2.1.2.2.2.2.2.2.2.2.2.2.2.2.2.1 x.2.2.2.1.2.2.2.2.2.2.2.2.2.2.2.2.2.2.1 x.2.2.2.1.2.2.2.2.2.2.2.2.2.2.2.2.2.2.2.1 x.2.2.2.2.1.1 x.2.2.2.2.1.2.1 x.2.2.2.2.1.2.2.1 x.2.2.2.2.1.2.2.2.1 x.2.2.2.2.1.2.2.2.2.1 x.2.2.2.2.1.2.2.2.2.2.1 x.2.2.2.2.1.2.2.2.2.2.2.1 x.2.2.2.2.1.2.2.2.2.2.2.2.1 x.2.2.2.2.1.2.2.2.2.2.2.2.2.1 x.2.2.2.2.1.2.2.2.2.2.2.2.2.2.1 x.2.2.2.2.1.2.2.2.2.2.2.2.2.2.2.1 x.2.2.2.2.1.2.2.2.2.2.2.2.2.2.2.2.1 x.2.2.2.2.1.2.2.2.2.2.2.2.2.2.2.2.2.1 x.2.2.2.2.1.2.2.2.2.2.2.2.2.2.2.2.2.2.1 x.2.2.2.2.1.2.2.2.2.2.2.2.2.2.2.2.2.2.2.1 x.2.2.2.2.1.2.2.2.2.2.2.2.2.2.2.2.2.2.2.2.1) m.Entries.length (fun i (q : List Int) => (((), (), (), (), (i : Int), ()), (b.tup, m.tup, z.tup, (o.withE q).tup, ()))) (fun i q => q ++ [nku' b (m.Entries.getD i noE)]) (fun i q => q.length ≤ i) (fun q => (((), (), ()), (z.tup, (o.withE q).tup, ()))) (fun i q hi hq => by
    refine ⟨?_, by rw [List.length_append, List.length_singleton]; omega⟩
    have hc := hcar _ (nfg' noE hi)
    have b1 : ∀ v : Int, Nat.ble ((o.withE q).Expect.length + [v].length) 2147483648 = true := fun v => nbk' (by show q.length + 1 ≤ _; omega)
    show nd2' (i : Int) b.Floors b.Debounce b.Room b.Park b.Empty b.Full b.Over b.Cars m.Phases m.Flags m.Leaving m.Entries z.Image.Phases z.Image.Flags z.Image.Leaving z.Image.Entries z.Store.h0 z.Store.h1 z.Store.sel z.Contacts z.Beliefs z.Cars z.Loads z.Expect z.Lit z.Tick z.Faults z.Refused (o.withE q).Image.Phases (o.withE q).Image.Flags (o.withE q).Image.Leaving (o.withE q).Image.Entries (o.withE q).Store.h0 (o.withE q).Store.h1 (o.withE q).Store.sel (o.withE q).Contacts (o.withE q).Beliefs (o.withE q).Cars (o.withE q).Loads (o.withE q).Expect (o.withE q).Lit (o.withE q).Tick (o.withE q).Faults (o.withE q).Refused = _
    unfold nd2'
    rw [show Entry.mk 0 0 0 0 false = noE from rfl]
    simp only [decide_eq_true (show (i : Int) < (m.Entries.length : Int) by omega), nd' (show (0 : Int) ≤ (i : Int) by omega) (show (i : Int) < (m.Entries.length : Int) by omega), cond_true, Int.toNat_natCast]
    have hex : nku' b (m.Entries.getD i noE) = bif decide (0 ≤ (m.Entries.getD i noE).Car) then (carAt b (m.Entries.getD i noE).Car.toNat).Deadline else 0 := rfl
    rw [hex]
    by_cases g : 0 ≤ (m.Entries.getD i noE).Car
    · rw [decide_eq_true g, nd' g hc]
      simp only [cond_true, Option.bind_some, b1, wrap1 hi (show m.Entries.length ≤ n4' by unfold n4'; omega)]
      rfl
    · rw [decide_eq_false g]
      simp only [cond_false, cond_true, Option.bind_some, b1, wrap1 hi (show m.Entries.length ≤ n4' by unfold n4'; omega)]
      rfl) (fun q _ => by
    show nd2' (m.Entries.length : Int) b.Floors b.Debounce b.Room b.Park b.Empty b.Full b.Over b.Cars m.Phases m.Flags m.Leaving m.Entries z.Image.Phases z.Image.Flags z.Image.Leaving z.Image.Entries z.Store.h0 z.Store.h1 z.Store.sel z.Contacts z.Beliefs z.Cars z.Loads z.Expect z.Lit z.Tick z.Faults z.Refused (o.withE q).Image.Phases (o.withE q).Image.Flags (o.withE q).Image.Leaving (o.withE q).Image.Entries (o.withE q).Store.h0 (o.withE q).Store.h1 (o.withE q).Store.sel (o.withE q).Contacts (o.withE q).Beliefs (o.withE q).Cars (o.withE q).Loads (o.withE q).Expect (o.withE q).Lit (o.withE q).Tick (o.withE q).Faults (o.withE q).Refused = _
    unfold nd2'
    simp only [decide_eq_false (Int.lt_irrefl (m.Entries.length : Int)), cond_false]
    rfl) m.Entries.length 0 [] (by omega) (by simp)
  have h' := no' h.1 (by omega)
  rw [nhw' (fun i => [nku' b (m.Entries.getD i noE)]), nkp' (fun e => [nku' b e]) noE m.Entries 0 m.Entries.length (by omega), List.drop_zero, n2g', List.nil_append] at h'
  rw [show o.tup = (o.withE []).tup by unfold Mch.withE Mch.tup; rw [ho]]
  exact h'
theorem nox' {b : Bldg} (hb : b.small) (m : Img) (hf : m.fit) (hc : b.Cars.length ≤ 1000) (s : Sto) : nfz' b.Floors b.Debounce b.Room b.Park b.Empty b.Full b.Over b.Cars m.Phases m.Flags m.Leaving m.Entries s.h0 s.h1 s.sel = some (((), (ndk' b m s).2, ()), ((ndk' b m s).1.tup, ())) := by
  unfold nfz' ndk'
  rw [nwp' hb m (by omega) hf, nhm']
  simp only [Option.bind_some]
  cases hq : fitsV b m with
  | false => rfl
  | true =>
    have hm : ImgOK b m := by
      unfold fitsV at hq
      rw [Bool.and_eq_true] at hq
      exact Img.ok_iff.1 hq.1
    by_cases hs : s.ok b.Room
    · rw [decide_eq_true (show Sto.ok b.Room ⟨s.h0, s.h1, s.sel⟩ from hs)]
      have e := hf.e
      let o : Mch := ⟨m, s, List.replicate b.Cars.length nmg', [], List.replicate b.Cars.length nqb', List.replicate b.Cars.length nqn', [], List.replicate b.Cars.length nsi', 0, 0, 0⟩
      have l0 := nwj' b hc m Mch.none o rfl
      have l1 := nwa' b m e (fun x hx => (nht'.1 (hm.en x hx)).2.1.2) Mch.none (o.withB (List.replicate b.Cars.length noc')) rfl
      simp only [Mch.tup, Img.tup, Bldg.tup, Mch.withB, Mch.withE, Mch.none, Img.none, Sto.no, noB, o] at l0 l1
      have dl : ∀ n : Nat, n ≤ 1000 → (decide ((0 : Int) ≤ (n : Int)) && decide ((n : Int) ≤ (n : Int)) && decide ((n : Int) ≤ (2147483648 : Int))) = true := fun n hn => by
        rw [decide_eq_true (show (0 : Int) ≤ (n : Int) by omega), decide_eq_true (Int.le_refl (n : Int)), decide_eq_true (show (n : Int) ≤ 2147483648 by omega)]; rfl
      simp only [Bool.not_true, cond_false, cond_true, dl _ hc, Int.toNat_natCast]
      rw [show Debounced.mk 0 false false false false 0 0 0 0 0 0 0 0 0 0 0 0 0 0 0 0 0 0 0 0 0 0 0 0 0 0 0 0 0 0 0 0 0 0 0 0 = nmg' from rfl, show NewCar.mk 0 0 0 0 0 false 0 0 0 0 0 0 0 false = nqb' from rfl, show Loaded.mk 0 = nqn' from rfl, show Calls.mk 0 0 = nsi' from rfl]
      rw [l0]
      simp only [Option.bind_some]
      rw [l1]
      rfl
    · rw [decide_eq_false (show ¬ Sto.ok b.Room ⟨s.h0, s.h1, s.sel⟩ from hs)]
      rfl
theorem nwv' {b : Bldg} (hb : b.small) (hcode : b.code = 0) (s : Sto) (hs : s.cur.size ≤ 5000) {bud : Int} (hbud : bud < 9223372036854775808) : niq' b.Floors b.Debounce b.Room b.Park b.Empty b.Full b.Over b.Cars s.h0 s.h1 s.sel bud = some (((), (bootV b s bud).2.1, (bootV b s bud).2.2, ()), ((bootV b s bud).1.tup, ())) := by
  have hc := ncq' hcode
  unfold niq' bootV
  rw [nsr' hb hcode s hs hbud]
  have hf := n21' hcode s (by omega) bud
  simp only [Option.bind_some, n1m', Img.tup]
  generalize nbr' b s bud = w at hf ⊢
  cases w.2.2.2 != 0 with
  | true => rfl
  | false =>
    simp only [cond_false]
    rw [nox' hb w.2.1 hf (by omega) w.1]
    simp only [Option.bind_some, Mch.tup]
    generalize ndk' b w.2.1 w.1 = f
    cases f.2 != 0 <;> rfl
end Go.Ovl
namespace Go.Ovl
open Go Go.Ab
set_option maxRecDepth 100000
def servV (m : Img) (c : Int) : Bool :=
  decide (0 ≤ c) && (decide (c < (m.Phases.length : Int)) && (decide (c < (m.Flags.length : Int)) && (decide (c < (m.Leaving.length : Int)) && (m.Phases.getD c.toNat 0 == 0 || (m.Phases.getD c.toNat 0 == 1 || m.Phases.getD c.toNat 0 == 4)))))
theorem nsu' (m : Img) (c : Int) : nhf' m.Phases m.Flags m.Leaving m.Entries c = some ((servV m c, ()), ()) := by
  unfold nhf' nou' servV
  by_cases h0 : (0 : Int) ≤ c
  · by_cases h1 : c < (m.Phases.length : Int)
    · by_cases h2 : c < (m.Flags.length : Int)
      · by_cases h3 : c < (m.Leaving.length : Int)
        · simp only [decide_eq_true h0, decide_eq_true h1, decide_eq_true h2, decide_eq_true h3, cond_true, Option.bind_some, nd' h0 h1, Bool.true_and]
          cases (m.Phases.getD c.toNat 0 == 0) <;> cases (m.Phases.getD c.toNat 0 == 1) <;> rfl
        · simp only [decide_eq_true h0, decide_eq_true h1, decide_eq_true h2, decide_eq_false h3, cond_true, Option.bind_some, Bool.true_and, cond_false, Bool.false_and]
      · simp only [decide_eq_true h0, decide_eq_true h1, decide_eq_false h2, cond_true, Option.bind_some, Bool.true_and, cond_false, Bool.false_and]
    · simp only [decide_eq_true h0, decide_eq_false h1, cond_true, Option.bind_some, Bool.true_and, cond_false, Bool.false_and]
  · simp only [decide_eq_false h0, Option.bind_some, cond_false, Bool.false_and]
theorem np3' (m : Img) (c : Int) : nf5' m.Phases m.Flags m.Leaving m.Entries c = some ((servV m c, ()), ()) := by
  unfold nf5' nkc' servV
  have hmin : ∀ x y z : Int, decide (c < (bif (decide (z < (bif (decide (y < x)) then y else x))) then z else (bif (decide (y < x)) then y else x))) = (decide (c < x) && (decide (c < y) && decide (c < z))) := fun x y z => by
    by_cases g1 : y < x
    · rw [decide_eq_true g1, cond_true]
      by_cases g2 : z < y
      · rw [decide_eq_true g2, cond_true]
        by_cases g3 : c < z
        · rw [decide_eq_true g3, decide_eq_true (show c < x by omega), decide_eq_true (show c < y by omega)]; rfl
        · rw [decide_eq_false g3, Bool.and_false, Bool.and_false]
      · rw [decide_eq_false g2, cond_false]
        by_cases g3 : c < y
        · rw [decide_eq_true g3, decide_eq_true (show c < x by omega), decide_eq_true (show c < z by omega)]; rfl
        · rw [decide_eq_false g3, Bool.false_and, Bool.and_false]
    · rw [decide_eq_false g1, cond_false]
      by_cases g2 : z < x
      · rw [decide_eq_true g2, cond_true]
        by_cases g3 : c < z
        · rw [decide_eq_true g3, decide_eq_true (show c < x by omega), decide_eq_true (show c < y by omega)]; rfl
        · rw [decide_eq_false g3, Bool.and_false, Bool.and_false]
      · rw [decide_eq_false g2, cond_false]
        by_cases g3 : c < x
        · rw [decide_eq_true g3, decide_eq_true (show c < y by omega), decide_eq_true (show c < z by omega)]; rfl
        · rw [decide_eq_false g3, Bool.false_and]
  by_cases h0 : (0 : Int) ≤ c
  · simp only [decide_eq_true h0, cond_true, hmin, Option.bind_some, Bool.true_and]
    by_cases h1 : c < (m.Phases.length : Int)
    · by_cases h2 : c < (m.Flags.length : Int)
      · by_cases h3 : c < (m.Leaving.length : Int)
        · simp only [decide_eq_true h1, decide_eq_true h2, decide_eq_true h3, Bool.and_self, Bool.not_true, cond_false, cond_true, nd' h0 h1, Bool.true_and]
          cases (m.Phases.getD c.toNat 0 == 0) <;> cases (m.Phases.getD c.toNat 0 == 1) <;> rfl
        · simp only [decide_eq_false h3, Bool.and_false, Bool.not_false, cond_true, Bool.false_and]
      · simp only [decide_eq_false h2, Bool.and_false, Bool.not_false, cond_true, Bool.false_and]
    · simp only [decide_eq_false h1, Bool.not_false, cond_true, Bool.false_and]
  · simp only [decide_eq_false h0, Option.bind_some, cond_false, Bool.false_and, Bool.not_false, cond_true]
def plE (m : Img) (e : Entry) : Bool := e.Car == -1 || (e.Car == -2 || (servV m e.Car && !(m.Flags.getD e.Car.toNat false)))
theorem nx7' {m : Img} {c : Int} (h : servV m c = true) : inB c m.Flags.length = true := by
  unfold servV at h
  simp only [Bool.and_eq_true, decide_eq_true_eq] at h
  exact nd' h.1 h.2.2.1
def plRes (m : Img) (l : List Entry) : Bool := l.all (plE m)
theorem nuj' (m : Img) (hl : m.Entries.length ≤ 100000) : ngd' m.Phases m.Flags m.Leaving m.Entries = some ((plRes m m.Entries, ()), ()) := by
  have h := no' (nom' (step := fun x => ndq' x.1.2.1 x.2.1.1 x.2.1.2.1 x.2.1.2.2.1 x.2.1.2.2.2.1) m.Entries (Entry.mk 0 0 0 0 false) (plE m) (fun i => (((), (i : Int), ()), (m.tup, ()))) (.inl ((), ())) (fun _ => .inr ((false, ()), ())) (fun i hi => by
    show ndq' (i : Int) m.Phases m.Flags m.Leaving m.Entries = _
    unfold ndq'
    simp only [decide_eq_true (show (i : Int) < (m.Entries.length : Int) by omega), cond_true, nd' (show (0 : Int) ≤ (i : Int) by omega) (show (i : Int) < (m.Entries.length : Int) by omega), Int.toNat_natCast, nsu', wrap1 hi (show m.Entries.length ≤ n4' by unfold n4'; omega)]
    generalize m.Entries.getD i (Entry.mk 0 0 0 0 false) = e
    unfold plE
    cases g1 : (e.Car == -1) with
    | true => rfl
    | false =>
      cases g2 : (e.Car == -2) with
      | true => rfl
      | false =>
        cases g3 : servV m e.Car with
        | false => rfl
        | true =>
          simp only [cond_false, Option.bind_some, Bool.not_true, nx7' g3, cond_true, Bool.false_or, Bool.true_and]
          cases m.Flags.getD e.Car.toNat false <;> rfl) (by
    show ndq' (m.Entries.length : Int) m.Phases m.Flags m.Leaving m.Entries = _
    unfold ndq'
    rw [decide_eq_false (Int.lt_irrefl _), cond_false]) m.Entries.length 0 (by omega)) (by omega)
  rw [List.drop_zero, nwg'] at h
  unfold ngd'
  refine bindI h ?_
  unfold plRes
  cases m.Entries.all (plE m) <;> rfl
theorem nq3' (m : Img) (hl : m.Entries.length ≤ 100000) : neq' m.Phases m.Flags m.Leaving m.Entries = some ((plRes m m.Entries, ()), ()) := by
  have h := no' (nom' (step := fun x => nc2' x.1.2.1 x.1.2.2.1 x.1.2.2.2.1 x.2.1.1 x.2.1.2.1 x.2.1.2.2.1 x.2.1.2.2.2.1) m.Entries (Entry.mk 0 0 0 0 false) (plE m) (fun i => (((), m.Entries, (m.Entries.length : Int), (i : Int), ()), (m.tup, ()))) (.inl ((), ())) (fun _ => .inr ((false, ()), ())) (fun i hi => by
    show nc2' m.Entries (m.Entries.length : Int) (i : Int) m.Phases m.Flags m.Leaving m.Entries = _
    unfold nc2'
    simp only [decide_eq_true (show (i : Int) < (m.Entries.length : Int) by omega), cond_true, nd' (show (0 : Int) ≤ (i : Int) by omega) (show (i : Int) < (m.Entries.length : Int) by omega), Int.toNat_natCast, np3', wrap1 hi (show m.Entries.length ≤ n4' by unfold n4'; omega)]
    generalize m.Entries.getD i (Entry.mk 0 0 0 0 false) = e
    unfold plE
    cases g1 : (e.Car == -1) with
    | true => rfl
    | false =>
      cases g2 : (e.Car == -2) with
      | true => rfl
      | false =>
        cases g3 : servV m e.Car with
        | false => rfl
        | true =>
          simp only [cond_false, Option.bind_some, Bool.not_true, nx7' g3, cond_true, Bool.false_or, Bool.true_and]
          cases m.Flags.getD e.Car.toNat false <;> rfl) (by
    show nc2' m.Entries (m.Entries.length : Int) (m.Entries.length : Int) m.Phases m.Flags m.Leaving m.Entries = _
    unfold nc2'
    rw [decide_eq_false (Int.lt_irrefl _), cond_false]) m.Entries.length 0 (by omega)) (by omega)
  rw [List.drop_zero, nwg'] at h
  unfold neq'
  refine bindI h ?_
  unfold plRes
  cases m.Entries.all (plE m) <;> rfl
section
variable {b : Bldg} (hb : b.small) (hcode : b.code = 0)
include hb hcode
theorem nhk' {x : Mch} (hs : x.Store.cur.size ≤ 5000) : nbz' b.Floors b.Debounce b.Room b.Park b.Empty b.Full b.Over b.Cars x.Image.Phases x.Image.Flags x.Image.Leaving x.Image.Entries x.Store.h0 x.Store.h1 x.Store.sel x.Contacts x.Beliefs x.Cars x.Loads x.Expect x.Lit x.Tick x.Faults x.Refused = some ((sameI (n3' b x.Store) x.Image, ()), ()) := by
  have hf : (n3' b x.Store).fit := (nlw' hcode x.Store (by omega)).2.2
  unfold nbz'
  rw [nul' hb hcode x.Store (by omega)]
  refine bindI rfl ?_
  exact bindI (nxa' hf) rfl
theorem nms' {x : Mch} (hs : x.Store.cur.size ≤ 5000) : ndg' b.Floors b.Debounce b.Room b.Park b.Empty b.Full b.Over b.Cars x.Image.Phases x.Image.Flags x.Image.Leaving x.Image.Entries x.Store.h0 x.Store.h1 x.Store.sel x.Contacts x.Beliefs x.Cars x.Loads x.Expect x.Lit x.Tick x.Faults x.Refused = some ((sameI (n3' b x.Store) x.Image, ()), ()) := by
  have hf : (n3' b x.Store).fit := (nlw' hcode x.Store (by omega)).2.2
  unfold ndg'
  rw [nny' hb hcode x.Store hs]
  refine bindI rfl ?_
  exact bindI (nwq' hf) rfl
theorem nww' (hroom : 18 * (b.Cars.length : Int) + 6 ≤ b.Room) (hroom2 : b.Room ≤ 5000) {l : List Image} (hl : l.length ≤ 100) (hfit : ∀ z ∈ l, Img.fit ⟨z.Phases, z.Flags, z.Leaving, z.Entries⟩) :
    ncu' (((), l, (l.length : Int), (0 : Int), ()), (b.tup, ())) = some (.inl ((), ())) := by
  have hcars := ncq' hcode
  have j0 := Jst.first hcode
  have hi0 : (initV b).Entries.length = 0 := rfl
  have hno : Sto.no.cur.size = 0 := rfl
  have hboot : ∃ s1, bootV b Sto.no 10000 = (nj1' b (initV b) s1, 10000 - (2 + 18 * ((b.Cars.length : Int) + ((initV b).Entries.length : Int))), 0) ∧ Jst b s1 (initV b) := by
    rcases n3m' hb j0.ok j0.img (j0.replay hb) (by omega) (bud := 10000) (by omega) with ⟨_, q2, q3⟩ | ⟨q1, _⟩
    · exact ⟨_, q2, q3⟩
    · omega
  obtain ⟨s1, e2, j1⟩ := hboot
  have hc1 : s1.cur.size ≤ 5000 := by
    have := n4c' j1.ok
    omega
  refine no' (nvh' (step := fun x => nb9' x.1.2.1 x.1.2.2.1 x.1.2.2.2.1 x.2.1.1 x.2.1.2.1 x.2.1.2.2.1 x.2.1.2.2.2.1 x.2.1.2.2.2.2.1 x.2.1.2.2.2.2.2.1 x.2.1.2.2.2.2.2.2.1 x.2.1.2.2.2.2.2.2.2.1) l.length (fun i => (((), l, (l.length : Int), (i : Int), ()), (b.tup, ()))) _ (fun i hi => ?_) ?_ l.length 0 (by omega)) (by omega)
  · show nb9' l (l.length : Int) (i : Int) b.Floors b.Debounce b.Room b.Park b.Empty b.Full b.Over b.Cars = _
    unfold nb9'
    simp only [decide_eq_true (show (i : Int) < (l.length : Int) by omega), nd' (show (0 : Int) ≤ (i : Int) by omega) (show (i : Int) < (l.length : Int) by omega), cond_true, Int.toNat_natCast]
    have hf := hfit _ (nfg' (Image.mk [] [] [] []) hi)
    generalize l.getD i (Image.mk [] [] [] []) = z at hf ⊢
    let m : Img := ⟨z.Phases, z.Flags, z.Leaving, z.Entries⟩
    have hf' : m.fit := hf
    have hE : m.Entries.length ≤ 100000 := hf'.e
    have hst : (ndk' b m Sto.no).1.Store = Sto.no := by
      unfold ndk'
      cases fitsV b m && decide (Sto.no.ok b.Room) <;> rfl
    have e1 := nox' hb m hf' (by omega) Sto.no
    have e3 := nwv' hb hcode Sto.no (by omega) (bud := 10000) (by omega)
    rw [e2] at e3
    refine bindI e1 ?_
    refine bindI e3 ?_
    refine bindI (nq3' m hE) ?_
    refine bindI (nuj' m hE) ?_
    show (bif !(plRes m m.Entries == plRes m m.Entries) then _ else _) = _
    rw [beq_self_eq_true, Bool.not_true, cond_false]
    have c1 : (ndk' b m Sto.no).1.Store.cur.size ≤ 5000 := by rw [hst]; omega
    refine bindI (nhk' hb hcode c1) ?_
    refine bindI (nms' hb hcode c1) ?_
    show (bif !(sameI (n3' b (ndk' b m Sto.no).1.Store) (ndk' b m Sto.no).1.Image == sameI (n3' b (ndk' b m Sto.no).1.Store) (ndk' b m Sto.no).1.Image) then _ else _) = _
    rw [beq_self_eq_true, Bool.not_true, cond_false]
    have c2 : ({ nj1' b (initV b) s1 with Image := m } : Mch).Store.cur.size ≤ 5000 := hc1
    refine bindI (nhk' hb hcode c2) ?_
    refine bindI (nms' hb hcode c2) ?_
    show (bif !(sameI (n3' b s1) m == sameI (n3' b s1) m) then _ else _) = _
    rw [beq_self_eq_true, Bool.not_true, cond_false]
    have c3 : (nj1' b (initV b) s1).Store.cur.size ≤ 5000 := hc1
    have e9 := nhk' hb hcode c3
    rw [show n3' b (nj1' b (initV b) s1).Store = (nj1' b (initV b) s1).Image from j1.replay hb, ny7'] at e9
    refine bindI e9 ?_
    show (bif !true then _ else _) = _
    rw [Bool.not_true, cond_false, wrap1 hi (show l.length ≤ n4' by unfold n4'; omega)]
    rfl
  · show nb9' l (l.length : Int) (l.length : Int) b.Floors b.Debounce b.Room b.Park b.Empty b.Full b.Over b.Cars = _
    unfold nb9'
    simp only [decide_eq_false (Int.lt_irrefl (l.length : Int)), cond_false]
end
theorem nln' : nc5' = some ((true, ()), ()) := by
  have hbd : nbb' 9 90 = some (((), ()), (sB26.tup, ())) := by
    unfold nbb'
    rw [show IntKind.i64.wrap (2 + IntKind.i64.wrap (Int.tmod 9 7)) = ((4 : Nat) : Int) from rfl, show IntKind.i64.wrap (1 + IntKind.i64.wrap (Int.tmod (IntKind.u8.wrap (Int.tdiv 9 7)) 3)) = ((2 : Nat) : Int) from rfl, nlq' (by decide) (by decide)]
    rfl
  unfold nc5'
  refine bindI hbd ?_
  kernel_rfl
theorem nrp' (n_f0 : Int) (n_f1 : Int) (l : List (Int)) (raw_Phases : List (Int)) (raw_Flags : List (Bool)) (raw_Leaving : List (Bool)) (raw_Entries : List (Entry)) (h_n_f0 : 0 ≤ n_f0 ∧ n_f0 < 256) (h_n_f1 : 0 ≤ n_f1 ∧ n_f1 < 256) (h_l : l.length ≤ maxLen ∧ ∀ e ∈ l, (0 ≤ e ∧ e < 256)) (_h_raw_Phases : raw_Phases.length ≤ maxLen ∧ ∀ e ∈ raw_Phases, (-9223372036854775808 ≤ e ∧ e < 9223372036854775808)) (_h_raw_Flags : raw_Flags.length ≤ maxLen ∧ ∀ e ∈ raw_Flags, True) (_h_raw_Leaving : raw_Leaving.length ≤ maxLen ∧ ∀ e ∈ raw_Leaving, True) (_h_raw_Entries : raw_Entries.length ≤ maxLen ∧ ∀ e ∈ raw_Entries, (-9223372036854775808 ≤ e.Floor ∧ e.Floor < 9223372036854775808) ∧ (-9223372036854775808 ≤ e.Dir ∧ e.Dir < 9223372036854775808) ∧ (-9223372036854775808 ≤ e.Car ∧ e.Car < 9223372036854775808) ∧ (-9223372036854775808 ≤ e.Moves ∧ e.Moves < 9223372036854775808)) : F_l30_AuditImages n_f0 n_f1 l raw_Phases raw_Flags raw_Leaving raw_Entries = some ((true, ()), ()) := by
  unfold F_l30_AuditImages
  by_cases g0 : (80 : Int) < (raw_Entries.length : Int)
  · rw [decide_eq_true g0, cond_true, nln']; rfl
  by_cases g1 : (20 : Int) < (raw_Phases.length : Int)
  · rw [decide_eq_false g0, cond_false, decide_eq_true g1, cond_true, nln']; rfl
  by_cases g2 : (20 : Int) < (raw_Flags.length : Int)
  · rw [decide_eq_false g0, cond_false, decide_eq_false g1, cond_false, decide_eq_true g2, cond_true, nln']; rfl
  by_cases g3 : (20 : Int) < (raw_Leaving.length : Int)
  · rw [decide_eq_false g0, cond_false, decide_eq_false g1, cond_false, decide_eq_false g2, cond_false, decide_eq_true g3, cond_true, nln']; rfl
  rw [decide_eq_false g0, cond_false, decide_eq_false g1, cond_false, decide_eq_false g2, cond_false, decide_eq_false g3, cond_false]
  obtain ⟨fl, ca, f1, f2, c1, c2, hbd⟩ := npk' (n := n_f0) (room := n_f1) h_n_f0 (by omega)
  have hcode := ny3' f1 f2 c1 c2 (room := n_f1) (by omega)
  have hb : (bld10 fl ca n_f1).small := ⟨by show (2 : Int) ≤ (fl : Int); omega, by show (fl : Int) ≤ 8; omega⟩
  have hroom : (bld10 fl ca n_f1).Room = 18 * (ca : Int) + 24 + n_f1 := rfl
  have hca : (bld10 fl ca n_f1).Cars.length = ca := by simp [bld10, n6']
  generalize bld10 fl ca n_f1 = b at *
  have hcars := ncq' hcode
  obtain ⟨m, hi, hm, hme⟩ := nsq' hb hcode (by omega) (l := l) h_l.2
  have hlp := hm.lp
  have hlf := hm.lf
  have hll := hm.ll
  have hf : m.fit := ⟨by omega, by omega, by omega, by omega⟩
  have hlo := nww' hb hcode (by omega) (by omega) (l := [Image.mk m.Phases m.Flags m.Leaving m.Entries, Image.mk raw_Phases raw_Flags raw_Leaving raw_Entries]) (by show 2 ≤ 100; omega) (fun z hz => by
    simp only [List.mem_cons, List.not_mem_nil, or_false] at hz
    rcases hz with rfl | rfl
    · exact hf
    · exact ⟨show raw_Phases.length ≤ 100000 by omega, show raw_Flags.length ≤ 100000 by omega, show raw_Leaving.length ≤ 100000 by omega, show raw_Entries.length ≤ 100000 by omega⟩)
  refine bindI hbd ?_
  refine bindI hi ?_
  refine bindI hlo ?_
  exact bindI nln' rfl
end Go.Ovl
