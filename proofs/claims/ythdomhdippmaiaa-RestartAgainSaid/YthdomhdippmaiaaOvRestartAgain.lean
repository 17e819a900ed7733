/- RestartAgain: a restart behind a restart changes nothing but the place of the journal. -/
import Derived.Test.YthdomhdippmaiaaOvSane26
import Derived.Test.YthdomhdippmaiaaOvBytes
namespace Go.Ovl
open Go Go.Ab
set_option maxRecDepth 100000
theorem npw' (n_f0 : Int) (n_f1 : Int) (l : List (Int)) (h_n_f0 : 0 ≤ n_f0 ∧ n_f0 < 256) (_h_n_f1 : 0 ≤ n_f1 ∧ n_f1 < 256) (h_l : l.length ≤ maxLen ∧ ∀ e ∈ l, (0 ≤ e ∧ e < 256)) : F_l26_RestartAgain n_f0 n_f1 l = some ((true, ()), ()) := by
  obtain ⟨fl, ca, f1, f2, c1, c2, hbd⟩ := no7' (n := n_f0) (room := 250) h_n_f0 (by omega)
  have hcode := nnf' f1 f2 c1 c2 (room := 250) (by omega)
  have hb : (bld10 fl ca 250).small := ⟨by show (2 : Int) ≤ (fl : Int); omega, by show (fl : Int) ≤ 8; omega⟩
  have hroom : (bld10 fl ca 250).Room = 18 * (ca : Int) + 24 + 250 := rfl
  have hca : (bld10 fl ca 250).Cars.length = ca := by simp [bld10, nbh']
  generalize bld10 fl ca 250 = b at *
  have hcars := ndp' hcode
  have hhi := hb.hi
  obtain ⟨m, hi, hm, hme⟩ := nrw' hb hcode (by omega) (l := l) h_l.2
  have hle := n0p' hb hm
  have hlp := hm.lp
  have hlf := hm.lf
  have hll := hm.ll
  have hf : m.fit := ⟨by omega, by omega, by omega, by omega⟩
  have hsn := nqu' hb hf
  rw [show snapR b m = snapV m by unfold snapR; rw [Img.ok_iff.2 hm]; rfl] at hsn
  have hby := nt6' hb (by omega) (rs := snapV m) (by rw [not']; omega)
  rw [nps' (ng9' hm)] at hby
  have hL := nlc' hm
  let s0 : Sto := ⟨txt [], txt ((snapV m).flatMap encL), 1⟩
  have ok0 : s0.ok b.Room := ⟨by omega, by omega, by show (0 : Int) ≤ _; omega, by show ((txt _).size : Int) ≤ _; rw [nbf']; omega, .inr rfl⟩
  have hfit : 18 * ((b.Cars.length : Int) + (m.Entries.length : Int)) + 6 ≤ b.Room := by omega
  have rep0 : nb3' b s0 = m := by
    have hcur : s0.cur = txt ((snapV m).flatMap encL) := rfl
    rw [nls' hb (by omega) (rs := snapV m) (t := []) (by rw [hcur, ncl', List.append_nil]) (by simp) (ng9' hm), nkk' hm]
  have hb0 := new' hb hcode s0 (by show (txt _).size ≤ _; rw [nbf']; omega) (bud := 1048576) (by omega)
  rcases nmc' hb ok0 hm rep0 hfit (bud := 1048576) (by omega) with ⟨_, q2, q3⟩ | ⟨q1, _⟩
  · rw [q2] at hb0
    have e1 : ({ s0.set (1 - s0.sel) (txt ((snapV m).flatMap encL)) with sel := 1 - s0.sel } : Sto) = ⟨txt ((snapV m).flatMap encL), txt ((snapV m).flatMap encL), 0⟩ := rfl
    rw [e1] at hb0 q3
    have hcur := nzc' q3.ok
    have hb1 := new' hb hcode ⟨txt ((snapV m).flatMap encL), txt ((snapV m).flatMap encL), 0⟩ (by omega) (bud := 1048576) (by omega)
    rcases nmc' hb q3.ok hm (q3.replay hb) hfit (bud := 1048576) (by omega) with ⟨_, p2, p3⟩ | ⟨p1, _⟩
    · rw [p2] at hb1
      have e2 : ({ Sto.set ⟨txt ((snapV m).flatMap encL), txt ((snapV m).flatMap encL), 0⟩ (1 - (0 : Int)) (txt ((snapV m).flatMap encL)) with sel := 1 - (0 : Int) } : Sto) = ⟨txt ((snapV m).flatMap encL), txt ((snapV m).flatMap encL), 1⟩ := rfl
      simp only at hb1
      rw [e2] at hb1
      have hb0' : nbe' b.Floors b.Debounce b.Room b.Park b.Empty b.Full b.Over b.Cars (ByteArray.mk (Array.mk [])) (txt ((snapV m).flatMap encL)) 1 1048576 = _ := hb0
      clear hb0
      generalize txt ((snapV m).flatMap encL) = T at *
      have hsm := nvx' (ntg' hf (b := b) (by omega) ⟨T, T, 0⟩) (c := n5' b m ⟨T, T, 0⟩)
      rw [nq7'] at hsm
      unfold F_l26_RestartAgain
      rw [hbd]
      simp only [Option.bind_some, Bldg.tup]
      rw [hi]
      simp only [Option.bind_some, Img.tup, hsn, hby]
      rw [show nbe' b.Floors b.Debounce b.Room b.Park b.Empty b.Full b.Over b.Cars (ByteArray.mk (Array.mk [])) T 1 1048576 = _ from hb0']
      simp only [Option.bind_some, Mch.tup]
      rw [show nbe' b.Floors b.Debounce b.Room b.Park b.Empty b.Full b.Over b.Cars (n5' b m ⟨T, T, 0⟩).Store.h0 (n5' b m ⟨T, T, 0⟩).Store.h1 (n5' b m ⟨T, T, 0⟩).Store.sel 1048576 = _ from hb1]
      simp only [Option.bind_some, Mch.tup, bne_self_eq_false, cond_false]
      rw [show (n5' b m ⟨T, T, 0⟩).Store = ⟨T, T, 0⟩ from rfl, show (n5' b m ⟨T, T, 1⟩).Store = ⟨T, T, 1⟩ from rfl]
      simp only [bne_self_eq_false, cond_false, nuo', Bool.not_true]
      rw [show ng6' (n5' b m ⟨T, T, 0⟩).Image.Phases (n5' b m ⟨T, T, 0⟩).Image.Flags (n5' b m ⟨T, T, 0⟩).Image.Leaving (n5' b m ⟨T, T, 0⟩).Image.Entries T T 0 (n5' b m ⟨T, T, 0⟩).Contacts (n5' b m ⟨T, T, 0⟩).Beliefs (n5' b m ⟨T, T, 0⟩).Cars (n5' b m ⟨T, T, 0⟩).Loads (n5' b m ⟨T, T, 0⟩).Expect (n5' b m ⟨T, T, 0⟩).Lit (n5' b m ⟨T, T, 0⟩).Tick (n5' b m ⟨T, T, 0⟩).Faults (n5' b m ⟨T, T, 0⟩).Refused (n5' b m ⟨T, T, 1⟩).Image.Phases (n5' b m ⟨T, T, 1⟩).Image.Flags (n5' b m ⟨T, T, 1⟩).Image.Leaving (n5' b m ⟨T, T, 1⟩).Image.Entries T T 0 (n5' b m ⟨T, T, 1⟩).Contacts (n5' b m ⟨T, T, 1⟩).Beliefs (n5' b m ⟨T, T, 1⟩).Cars (n5' b m ⟨T, T, 1⟩).Loads (n5' b m ⟨T, T, 1⟩).Expect (n5' b m ⟨T, T, 1⟩).Lit (n5' b m ⟨T, T, 1⟩).Tick (n5' b m ⟨T, T, 1⟩).Faults (n5' b m ⟨T, T, 1⟩).Refused = _ from hsm, nz2']
      rfl
    · omega
  · omega
end Go.Ovl
