/- RestartCuts: a store gives the same image however often its recovery is cut on the way. -/
import Derived.Test.YthdomhdippmaiaaGreatOvIsMach
import Derived.Test.YthdomhdippmaiaaGreatOvBytes
namespace Go.Ovl
open Go Go.Ab
set_option maxRecDepth 100000
theorem nz6' {b : Bldg} (hb : b.small) (hcode : b.code = 0) {m : Img} (hm : ImgOK b m) (hf : m.fit) (hfit : 18 * ((b.Cars.length : Int) + (m.Entries.length : Int)) + 6 ≤ b.Room) (hroom : b.Room ≤ 500000) {cuts : List Int} (hc : ∀ e ∈ cuts, 0 ≤ e ∧ e < 256) {s : Sto} (ok : s.ok b.Room) (rep : nck' b s = m) :
    ∃ y, nc8' ((cuts, (), (), (), (0 : Int), ()), (b.tup, m.tup, (s.h0, s.h1, s.sel, ()), ())) = some y ∧ ∃ s' : Sto, y = Sum.inl (((), (), (), ()), (b.tup, m.tup, (s'.h0, s'.h1, s'.sel, ()), ())) ∧ s'.ok b.Room ∧ nck' b s' = m := by
  refine nxt' (fun x => ∃ (i : Nat) (s : Sto), i ≤ 10 ∧ x = ((cuts, (), (), (), (i : Int), ()), (b.tup, m.tup, (s.h0, s.h1, s.sel, ()), ())) ∧ s.ok b.Room ∧ nck' b s = m) (fun y => ∃ s' : Sto, y = Sum.inl (((), (), (), ()), (b.tup, m.tup, (s'.h0, s'.h1, s'.sel, ()), ())) ∧ s'.ok b.Room ∧ nck' b s' = m) (fun x => (10 - x.1.2.2.2.2.1).toNat) ?_ ⟨0, s, by omega, rfl, ok, rep⟩ (by show (10 - (0 : Int)).toNat < _; omega)
  rintro x ⟨i, s, hi, rfl, ok, rep⟩
  have hcur := nvn' ok
  by_cases g : i < cuts.length ∧ i < 10
  · left
    have hcut := hc _ (nfk' 0 g.1)
    have hw : IntKind.i64.wrap (cuts.getD i 0) = cuts.getD i 0 := nb' (by omega) (by omega)
    have hbt := ne6' hb hcode s (by omega) (bud := cuts.getD i 0) (by omega)
    have hsm := npr' hf (c := m)
    rw [nng'] at hsm
    generalize hv : cuts.getD i 0 = v at hcut hw hbt
    rcases nm0' hb ok hm rep hfit (bud := v) (by omega) with ⟨q1, q2, q3⟩ | ⟨q1, s', q2, q3, q4⟩
    · generalize ({ s.set (1 - s.sel) (txt ((snapV m).flatMap encL)) with sel := 1 - s.sel } : Sto) = s2 at q2 q3
      refine ⟨((cuts, (), (), (), ((i + 1 : Nat) : Int), ()), (b.tup, m.tup, (s2.h0, s2.h1, s2.sel, ()), ())), ?_, ⟨i + 1, s2, by omega, rfl, q3.ok, q3.replay hb⟩, by show (10 - ((i + 1 : Nat) : Int)).toNat < (10 - (i : Int)).toNat; omega⟩
      show ncr' cuts (i : Int) b.Floors b.Debounce b.Room b.Park b.Empty b.Full b.Over b.Cars m.Phases m.Flags m.Leaving m.Entries s.h0 s.h1 s.sel = _
      rw [q2] at hbt
      unfold ncr'
      simp only [decide_eq_true (show (i : Int) < (cuts.length : Int) by omega), decide_eq_true (show (i : Int) < 10 by omega), nc' (show (0 : Int) ≤ (i : Int) by omega) (show (i : Int) < (cuts.length : Int) by omega), cond_true, Int.toNat_natCast, hv, hw, hbt, Option.bind_some, beq_self_eq_true, Mch.tup]
      rw [show (nem' b m s2).Image = m from rfl, hsm, nb' (by omega) (by omega)]
      simp only [Option.bind_some, Bool.not_true, cond_false]
      rw [decide_eq_false (show ¬ v - (2 + 18 * ((b.Cars.length : Int) + (m.Entries.length : Int))) < 0 by omega), show ((i : Int) + 1) = ((i + 1 : Nat) : Int) by omega]
      rfl
    · refine ⟨((cuts, (), (), (), ((i + 1 : Nat) : Int), ()), (b.tup, m.tup, (s'.h0, s'.h1, s'.sel, ()), ())), ?_, ⟨i + 1, s', by omega, rfl, q3, q4⟩, by show (10 - ((i + 1 : Nat) : Int)).toNat < (10 - (i : Int)).toNat; omega⟩
      show ncr' cuts (i : Int) b.Floors b.Debounce b.Room b.Park b.Empty b.Full b.Over b.Cars m.Phases m.Flags m.Leaving m.Entries s.h0 s.h1 s.sel = _
      rw [q2] at hbt
      unfold ncr'
      simp only [decide_eq_true (show (i : Int) < (cuts.length : Int) by omega), decide_eq_true (show (i : Int) < 10 by omega), nc' (show (0 : Int) ≤ (i : Int) by omega) (show (i : Int) < (cuts.length : Int) by omega), cond_true, Int.toNat_natCast, hv, hw, hbt, Option.bind_some, Mch.tup]
      rw [nb' (by omega) (by omega), show ((i : Int) + 1) = ((i + 1 : Nat) : Int) by omega]
      rfl
  · right
    refine ⟨_, ?_, s, rfl, ok, rep⟩
    show ncr' cuts (i : Int) b.Floors b.Debounce b.Room b.Park b.Empty b.Full b.Over b.Cars m.Phases m.Flags m.Leaving m.Entries s.h0 s.h1 s.sel = _
    unfold ncr'
    by_cases g1 : i < cuts.length
    · simp only [decide_eq_true (show (i : Int) < (cuts.length : Int) by omega), decide_eq_false (show ¬ (i : Int) < 10 by omega), cond_true, cond_false]
      rfl
    · simp only [decide_eq_false (show ¬ (i : Int) < (cuts.length : Int) by omega), cond_false]
      rfl
theorem nqv' (n_f0 : Int) (n_f1 : Int) (l : List (Int)) (cuts : List (Int)) (h_n_f0 : 0 ≤ n_f0 ∧ n_f0 < 256) (_h_n_f1 : 0 ≤ n_f1 ∧ n_f1 < 256) (h_l : l.length ≤ maxLen ∧ ∀ e ∈ l, (0 ≤ e ∧ e < 256)) (h_cuts : cuts.length ≤ maxLen ∧ ∀ e ∈ cuts, (0 ≤ e ∧ e < 256)) : F_l26_RestartCuts n_f0 n_f1 l cuts = some ((true, ()), ()) := by
  obtain ⟨fl, ca, f1, f2, c1, c2, hbd⟩ := npo' (n := n_f0) (room := 250) h_n_f0 (by omega)
  have hcode := nnk' f1 f2 c1 c2 (room := 250) (by omega)
  have hb : (bld10 fl ca 250).small := ⟨by show (2 : Int) ≤ (fl : Int); omega, by show (fl : Int) ≤ 8; omega⟩
  have hroom : (bld10 fl ca 250).Room = 18 * (ca : Int) + 24 + 250 := rfl
  have hca : (bld10 fl ca 250).Cars.length = ca := by simp [bld10, nbr']
  generalize bld10 fl ca 250 = b at *
  have hcars := nco' hcode
  have hhi := hb.hi
  obtain ⟨m, hi, hm, hme⟩ := nsc' hb hcode (by omega) (l := l) h_l.2
  have hle := n2d' hb hm
  have hlp := hm.lp
  have hlf := hm.lf
  have hll := hm.ll
  have hf : m.fit := ⟨by omega, by omega, by omega, by omega⟩
  have hsn := nrf' hb hf
  rw [show snapR b m = snapV m by unfold snapR; rw [Img.ok_iff.2 hm]; rfl] at hsn
  have hby := nvt' hb (by omega) (rs := snapV m) (by rw [nok']; omega)
  rw [nqs' (nk0' hm)] at hby
  have hL := nqp' hm
  unfold F_l26_RestartCuts
  rw [hbd]
  simp only [Option.bind_some, Bldg.tup]
  rw [hi]
  simp only [Option.bind_some, Img.tup, hsn, hby]
  rw [ndi', nb' (by omega) (by omega)]
  by_cases g : b.Room < (((snapV m).flatMap encL).length : Int) + 6
  · rw [decide_eq_true g, cond_true, nv1']; rfl
  · rw [decide_eq_false g]
    have two : (ByteArray.mk (Array.mk [(1 : UInt8), (2 : UInt8)])) = txt [1, 2] := rfl
    rw [two, no7', ndi']
    rw [nbi' (show ((snapV m).flatMap encL).length + ([1, 2] : List UInt8).length ≤ 4611686018427387904 by show _ + 2 ≤ _; omega)]
    simp only [cond_false, cond_true]
    let s0 : Sto := ⟨txt ((snapV m).flatMap encL ++ [1, 2]), ByteArray.mk (Array.mk [(111 : UInt8), (108 : UInt8), (100 : UInt8)]), 0⟩
    have ok0 : s0.ok b.Room := by
      refine ⟨by omega, by omega, ?_, ?_, .inl rfl⟩
      · show ((txt _).size : Int) ≤ _
        rw [ndi', List.length_append]
        show ((((snapV m).flatMap encL).length + 2 : Nat) : Int) ≤ _
        omega
      · show (3 : Int) ≤ _; omega
    have rep0 : nck' b s0 = m := by
      have hcur : s0.cur = txt ((snapV m).flatMap encL ++ [1, 2]) := rfl
      rw [ntw' hb (by omega) (rs := snapV m) (t := [1, 2]) (by rw [hcur, ne4']) (by simp) (nk0' hm), nri' hm]
    have hfit : 18 * ((b.Cars.length : Int) + (m.Entries.length : Int)) + 6 ≤ b.Room := by omega
    obtain ⟨y, h1, s', rfl, ok', rep'⟩ := nz6' hb hcode hm hf hfit (by omega) h_cuts.2 ok0 rep0
    simp only [Bldg.tup, Img.tup] at h1
    rw [show nc8' ((cuts, (), (), (), (0 : Int), ()), ((b.Floors, b.Debounce, b.Room, b.Park, b.Empty, b.Full, b.Over, b.Cars, ()), (m.Phases, m.Flags, m.Leaving, m.Entries, ()), (txt ((snapV m).flatMap encL ++ [1, 2]), ByteArray.mk (Array.mk [(111 : UInt8), (108 : UInt8), (100 : UInt8)]), (0 : Int), ()), ())) = _ from h1]
    have hcur' := nvn' ok'
    have hbt := ne6' hb hcode s' (by omega) (bud := 1048576) (by omega)
    rcases nm0' hb ok' hm rep' hfit (bud := 1048576) (by omega) with ⟨_, q2, q3⟩ | ⟨q1, _⟩
    · rw [q2] at hbt
      generalize ({ s'.set (1 - s'.sel) (txt ((snapV m).flatMap encL)) with sel := 1 - s'.sel } : Sto) = s2 at hbt q3
      have hsm := npr' hf (c := m)
      rw [nng'] at hsm
      have him := nno' hb hcode (ntu' (b := b) hf (by omega) s2)
      rw [ny2' hb hm hfit q3.ok] at him
      simp only [Option.bind_some, hbt, Mch.tup, beq_self_eq_true, cond_true]
      rw [him]
      simp only [show (nem' b m s2).Image = m from rfl, hsm, Option.bind_some, cond_true, nv1']
    · omega
end Go.Ovl
