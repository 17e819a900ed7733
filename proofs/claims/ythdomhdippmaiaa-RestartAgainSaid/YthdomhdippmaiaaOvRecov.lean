/- Layer 10: recovering a journal with any budget. -/
import Derived.Test.YthdomhdippmaiaaOvJst
namespace Go.Ovl
open Go Go.Ab
set_option maxRecDepth 100000
def nyz' (s : Sto) (m : Img) (bud e : Int) : (Unit × Unit × Int × Int × Unit) × ((ByteArray × ByteArray × Int × Unit) × (List Int × List Bool × List Bool × List Entry × Unit) × Unit) := (((), (), bud, e, ()), ((s.h0, s.h1, s.sel, ()), m.tup, ()))
def nb2' (b : Bldg) (s : Sto) (bud : Int) : Sto × Img × Int × Int :=
  bif (nc5' b s (nb3' b s) bud).2.2 != 0 then ((nc5' b s (nb3' b s) bud).1, Img.none, 0, (nc5' b s (nb3' b s) bud).2.2)
  else ((nc5' b s (nb3' b s) bud).1, nb3' b s, (nc5' b s (nb3' b s) bud).2.1, 0)
theorem nsd' {b : Bldg} (hcode : b.code = 0) (s : Sto) (hs : s.cur.size ≤ 500000) : ImgOK b (nb3' b s) ∧ (nb3' b s).Entries.length ≤ 90000 ∧ (nb3' b s).fit := by
  have hc := ndp' hcode
  obtain ⟨h1, h2⟩ := nof' (nky' hcode) (rs := readV b s.cur) fun r hr => nl8' b _ _ r hr
  have h3 := nos' b s.cur.size (bl s.cur)
  rw [ndf'] at h3
  have h4 : (initV b).Entries.length = 0 := rfl
  have h5 : (readV b s.cur).length = (readL b s.cur.size (bl s.cur)).length := rfl
  have g1 := h1.lp
  have g2 := h1.lf
  have g3 := h1.ll
  exact ⟨h1, by show (nb4' (initV b) (readV b s.cur)).Entries.length ≤ _; omega, by show (nb4' (initV b) (readV b s.cur)).Phases.length ≤ _; omega, by show (nb4' (initV b) (readV b s.cur)).Flags.length ≤ _; omega, by show (nb4' (initV b) (readV b s.cur)).Leaving.length ≤ _; omega, by show (nb4' (initV b) (readV b s.cur)).Entries.length ≤ _; omega⟩
theorem nrs' {b : Bldg} (hb : b.small) (hcode : b.code = 0) (s : Sto) (hs : s.cur.size ≤ 500000) {bud : Int} (hbud : bud < 9223372036854775808) :
    nhv' b.Floors b.Debounce b.Room b.Park b.Empty b.Full b.Over b.Cars s.h0 s.h1 s.sel bud = some (nyz' (nb2' b s bud).1 (nb2' b s bud).2.1 (nb2' b s bud).2.2.1 (nb2' b s bud).2.2.2) := by
  have hc := ndp' hcode
  obtain ⟨_, _, hf⟩ := nsd' hcode s hs
  unfold nhv' nb2'
  rw [nnh' hb hcode s hs]
  simp only [Option.bind_some, Img.tup]
  rw [nmm' hb (by omega) s hf hbud]
  simp only [Option.bind_some, Sto.out]
  generalize nc5' b s (nb3' b s) bud = w
  cases w.2.2 != 0 <;> rfl
theorem n1r' {b : Bldg} (_hb : b.small) {s : Sto} {m : Img} (hs : s.ok b.Room) (hm : ImgOK b m) (hrep : nb3' b s = m) (hfit : 18 * ((b.Cars.length : Int) + (m.Entries.length : Int)) + 6 ≤ b.Room) {bud : Int} (hb0 : 0 ≤ bud) :
    (2 + 18 * ((b.Cars.length : Int) + (m.Entries.length : Int)) ≤ bud ∧ ∃ s', nb2' b s bud = (s', m, bud - (2 + 18 * ((b.Cars.length : Int) + (m.Entries.length : Int))), 0) ∧ Jst b s' m) ∨
    (bud < 2 + 18 * ((b.Cars.length : Int) + (m.Entries.length : Int)) ∧ ∃ s', nb2' b s bud = (s', Img.none, 0, 8) ∧ s'.ok b.Room ∧ nb3' b s' = m) := by
  have hsel := nll' hs
  unfold nb2'
  rw [hrep]
  rcases nng' hs hm hb0 (by omega) with ⟨q1, q2⟩ | ⟨q1, s', q2, q3, q4⟩
  · left
    rw [q2]
    refine ⟨q1, _, rfl, nu7' (nj5' hs ?_) (by omega), hm, ⟨snapV m, ?_, ng9' hm, nkk' hm⟩, hfit⟩
    · rw [nbf', nlc' hm]; omega
    · rw [nm4' hsel, ncl']
  · right
    rw [q2]
    refine ⟨q1, s', rfl, q3, ?_⟩
    rw [← hrep]
    unfold nb3'
    rw [q4]
end Go.Ovl
