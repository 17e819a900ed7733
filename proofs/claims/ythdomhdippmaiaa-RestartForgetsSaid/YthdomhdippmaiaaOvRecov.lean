/- Layer 10: recovering a journal with any budget. -/
import Derived.Test.YthdomhdippmaiaaOvJst
namespace Go.Ovl
open Go Go.Ab
set_option maxRecDepth 100000
def nyo' (s : Sto) (m : Img) (bud e : Int) : (Unit × Unit × Int × Int × Unit) × ((ByteArray × ByteArray × Int × Unit) × (List Int × List Bool × List Bool × List Entry × Unit) × Unit) := (((), (), bud, e, ()), ((s.h0, s.h1, s.sel, ()), m.tup, ()))
def nb1' (b : Bldg) (s : Sto) (bud : Int) : Sto × Img × Int × Int :=
  bif (nc6' b s (nb6' b s) bud).2.2 != 0 then ((nc6' b s (nb6' b s) bud).1, Img.none, 0, (nc6' b s (nb6' b s) bud).2.2)
  else ((nc6' b s (nb6' b s) bud).1, nb6' b s, (nc6' b s (nb6' b s) bud).2.1, 0)
theorem ntf' {b : Bldg} (hcode : b.code = 0) (s : Sto) (hs : s.cur.size ≤ 500000) : ImgOK b (nb6' b s) ∧ (nb6' b s).Entries.length ≤ 90000 ∧ (nb6' b s).fit := by
  have hc := ndu' hcode
  obtain ⟨h1, h2⟩ := nor' (nlf' hcode) (rs := readV b s.cur) fun r hr => nl3' b _ _ r hr
  have h3 := nn6' b s.cur.size (bl s.cur)
  rw [nds'] at h3
  have h4 : (initV b).Entries.length = 0 := rfl
  have h5 : (readV b s.cur).length = (readL b s.cur.size (bl s.cur)).length := rfl
  have g1 := h1.lp
  have g2 := h1.lf
  have g3 := h1.ll
  exact ⟨h1, by show (nb2' (initV b) (readV b s.cur)).Entries.length ≤ _; omega, by show (nb2' (initV b) (readV b s.cur)).Phases.length ≤ _; omega, by show (nb2' (initV b) (readV b s.cur)).Flags.length ≤ _; omega, by show (nb2' (initV b) (readV b s.cur)).Leaving.length ≤ _; omega, by show (nb2' (initV b) (readV b s.cur)).Entries.length ≤ _; omega⟩
theorem nrk' {b : Bldg} (hb : b.small) (hcode : b.code = 0) (s : Sto) (hs : s.cur.size ≤ 500000) {bud : Int} (hbud : bud < 9223372036854775808) :
    nhz' b.Floors b.Debounce b.Room b.Park b.Empty b.Full b.Over b.Cars s.h0 s.h1 s.sel bud = some (nyo' (nb1' b s bud).1 (nb1' b s bud).2.1 (nb1' b s bud).2.2.1 (nb1' b s bud).2.2.2) := by
  have hc := ndu' hcode
  obtain ⟨_, _, hf⟩ := ntf' hcode s hs
  unfold nhz' nb1'
  rw [nnl' hb hcode s hs]
  simp only [Option.bind_some, Img.tup]
  rw [nmf' hb (by omega) s hf hbud]
  simp only [Option.bind_some, Sto.out]
  generalize nc6' b s (nb6' b s) bud = w
  cases w.2.2 != 0 <;> rfl
theorem n1v' {b : Bldg} (_hb : b.small) {s : Sto} {m : Img} (hs : s.ok b.Room) (hm : ImgOK b m) (hrep : nb6' b s = m) (hfit : 18 * ((b.Cars.length : Int) + (m.Entries.length : Int)) + 6 ≤ b.Room) {bud : Int} (hb0 : 0 ≤ bud) :
    (2 + 18 * ((b.Cars.length : Int) + (m.Entries.length : Int)) ≤ bud ∧ ∃ s', nb1' b s bud = (s', m, bud - (2 + 18 * ((b.Cars.length : Int) + (m.Entries.length : Int))), 0) ∧ Jst b s' m) ∨
    (bud < 2 + 18 * ((b.Cars.length : Int) + (m.Entries.length : Int)) ∧ ∃ s', nb1' b s bud = (s', Img.none, 0, 8) ∧ s'.ok b.Room ∧ nb6' b s' = m) := by
  have hsel := nlu' hs
  unfold nb1'
  rw [hrep]
  rcases nm6' hs hm hb0 (by omega) with ⟨q1, q2⟩ | ⟨q1, s', q2, q3, q4⟩
  · left
    rw [q2]
    refine ⟨q1, _, rfl, nu0' (nj4' hs ?_) (by omega), hm, ⟨snapV m, ?_, nki' hm, nnd' hm⟩, hfit⟩
    · rw [nbu', nmq' hm]; omega
    · rw [nmu' hsel, ncn']
  · right
    rw [q2]
    refine ⟨q1, s', rfl, q3, ?_⟩
    rw [← hrep]
    unfold nb6'
    rw [q4]
end Go.Ovl
