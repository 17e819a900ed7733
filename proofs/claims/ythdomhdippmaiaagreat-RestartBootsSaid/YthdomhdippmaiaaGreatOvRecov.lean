/- Layer 10: recovering a journal with any budget. -/
import Derived.Test.YthdomhdippmaiaaGreatOvJst
namespace Go.Ovl
open Go Go.Ab
set_option maxRecDepth 100000
def nsm' (s : Sto) (m : Img) (bud e : Int) : (Unit × Unit × Int × Int × Unit) × ((ByteArray × ByteArray × Int × Unit) × (List Int × List Bool × List Bool × List Entry × Unit) × Unit) := (((), (), bud, e, ()), ((s.h0, s.h1, s.sel, ()), m.tup, ()))
def nbs' (b : Bldg) (s : Sto) (bud : Int) : Sto × Img × Int × Int :=
  bif (nc4' b s (ncr' b s) bud).2.2 != 0 then ((nc4' b s (ncr' b s) bud).1, Img.none, 0, (nc4' b s (ncr' b s) bud).2.2)
  else ((nc4' b s (ncr' b s) bud).1, ncr' b s, (nc4' b s (ncr' b s) bud).2.1, 0)
theorem nqk' {b : Bldg} (hcode : b.code = 0) (s : Sto) (hs : s.cur.size ≤ 500000) : ImgOK b (ncr' b s) ∧ (ncr' b s).Entries.length ≤ 90000 ∧ (ncr' b s).fit := by
  have hc := nbt' hcode
  obtain ⟨h1, h2⟩ := nnd' (njs' hcode) (rs := readV b s.cur) fun r hr => ni4' b _ _ r hr
  have h3 := nlx' b s.cur.size (bl s.cur)
  rw [nc9'] at h3
  have h4 : (initV b).Entries.length = 0 := rfl
  have h5 : (readV b s.cur).length = (readL b s.cur.size (bl s.cur)).length := rfl
  have g1 := h1.lp
  have g2 := h1.lf
  have g3 := h1.ll
  exact ⟨h1, by show (nb5' (initV b) (readV b s.cur)).Entries.length ≤ _; omega, by show (nb5' (initV b) (readV b s.cur)).Phases.length ≤ _; omega, by show (nb5' (initV b) (readV b s.cur)).Flags.length ≤ _; omega, by show (nb5' (initV b) (readV b s.cur)).Leaving.length ≤ _; omega, by show (nb5' (initV b) (readV b s.cur)).Entries.length ≤ _; omega⟩
theorem nuc' {b : Bldg} (hb : b.small) (hcode : b.code = 0) (s : Sto) (hs : s.cur.size ≤ 500000) {bud : Int} (hbud : bud < 9223372036854775808) :
    njf' b.Floors b.Debounce b.Room b.Park b.Empty b.Full b.Over b.Cars s.h0 s.h1 s.sel bud = some (nsm' (nbs' b s bud).1 (nbs' b s bud).2.1 (nbs' b s bud).2.2.1 (nbs' b s bud).2.2.2) := by
  have hc := nbt' hcode
  obtain ⟨_, _, hf⟩ := nqk' hcode s hs
  unfold njf' nbs'
  rw [nwg' hb hcode s hs]
  simp only [Option.bind_some, Img.tup]
  rw [ntz' hb (by omega) s hf hbud]
  simp only [Option.bind_some, Sto.out]
  generalize nc4' b s (ncr' b s) bud = w
  cases w.2.2 != 0 <;> rfl
end Go.Ovl
