/- Layer 10: recovering a journal with any budget. -/
import Derived.Test.YthdomhdippmaiaaOvJst
namespace Go.Ovl
open Go Go.Ab
set_option maxRecDepth 100000
def recOut (s : Sto) (m : Img) (bud e : Int) : (Unit × Unit × Int × Int × Unit) × ((ByteArray × ByteArray × Int × Unit) × (List Int × List Bool × List Bool × List Entry × Unit) × Unit) := (((), (), bud, e, ()), ((s.h0, s.h1, s.sel, ()), m.tup, ()))
/-- What recovering comes to. -/
def recoverV (b : Bldg) (s : Sto) (bud : Int) : Sto × Img × Int × Int :=
  bif (compactV b s (replayV b s) bud).2.2 != 0 then ((compactV b s (replayV b s) bud).1, Img.none, 0, (compactV b s (replayV b s) bud).2.2)
  else ((compactV b s (replayV b s) bud).1, replayV b s, (compactV b s (replayV b s) bud).2.1, 0)
theorem replay_ok {b : Bldg} (hcode : b.code = 0) (s : Sto) (hs : s.cur.size ≤ 500000) : ImgOK b (replayV b s) ∧ (replayV b s).Entries.length ≤ 90000 ∧ (replayV b s).fit := by
  have hc := code_cars hcode
  obtain ⟨h1, h2⟩ := applyL_ok (initV_ok hcode) (rs := readV b s.cur) fun r hr => readL_valid b _ _ r hr
  have h3 := readL_len b s.cur.size (bl s.cur)
  rw [bl_len] at h3
  have h4 : (initV b).Entries.length = 0 := rfl
  have h5 : (readV b s.cur).length = (readL b s.cur.size (bl s.cur)).length := rfl
  have g1 := h1.lp
  have g2 := h1.lf
  have g3 := h1.ll
  exact ⟨h1, by show (applyL (initV b) (readV b s.cur)).Entries.length ≤ _; omega, by show (applyL (initV b) (readV b s.cur)).Phases.length ≤ _; omega, by show (applyL (initV b) (readV b s.cur)).Flags.length ≤ _; omega, by show (applyL (initV b) (readV b s.cur)).Leaving.length ≤ _; omega, by show (applyL (initV b) (readV b s.cur)).Entries.length ≤ _; omega⟩
theorem log_Recover_eq {b : Bldg} (hb : b.small) (hcode : b.code = 0) (s : Sto) (hs : s.cur.size ≤ 500000) {bud : Int} (hbud : bud < 9223372036854775808) :
    F_log_Recover b.Floors b.Debounce b.Room b.Park b.Empty b.Full b.Over b.Cars s.h0 s.h1 s.sel bud = some (recOut (recoverV b s bud).1 (recoverV b s bud).2.1 (recoverV b s bud).2.2.1 (recoverV b s bud).2.2.2) := by
  have hc := code_cars hcode
  obtain ⟨_, _, hf⟩ := replay_ok hcode s hs
  unfold F_log_Recover recoverV
  rw [log_Replay_eq hb hcode s hs]
  simp only [Option.bind_some, Img.tup]
  rw [log_Compact_eq hb (by omega) s hf hbud]
  simp only [Option.bind_some, Sto.out]
  generalize compactV b s (replayV b s) bud = w
  cases w.2.2 != 0 <;> rfl
theorem recover_at {b : Bldg} (_hb : b.small) {s : Sto} {m : Img} (hs : s.ok b.Room) (hm : ImgOK b m) (hrep : replayV b s = m) (hfit : 18 * ((b.Cars.length : Int) + (m.Entries.length : Int)) + 6 ≤ b.Room) {bud : Int} (hb0 : 0 ≤ bud) :
    (2 + 18 * ((b.Cars.length : Int) + (m.Entries.length : Int)) ≤ bud ∧ ∃ s', recoverV b s bud = (s', m, bud - (2 + 18 * ((b.Cars.length : Int) + (m.Entries.length : Int))), 0) ∧ Jst b s' m) ∨
    (bud < 2 + 18 * ((b.Cars.length : Int) + (m.Entries.length : Int)) ∧ ∃ s', recoverV b s bud = (s', Img.none, 0, 8) ∧ s'.ok b.Room ∧ replayV b s' = m) := by
  have hsel := sel_cases hs
  unfold recoverV
  rw [hrep]
  rcases compact_at hs hm hb0 (by omega) with ⟨q1, q2⟩ | ⟨q1, s', q2, q3, q4⟩
  · left
    rw [q2]
    refine ⟨q1, _, rfl, sel_ok (set_ok hs ?_) (by omega), hm, ⟨snapV m, ?_, snap_valid hm, snap_again hm⟩, hfit⟩
    · rw [txt_size, text_len hm]; omega
    · rw [cur_chosen hsel, bl_txt]
  · right
    rw [q2]
    refine ⟨q1, s', rfl, q3, ?_⟩
    rw [← hrep]
    unfold replayV
    rw [q4]
end Go.Ovl
