/- Layer 10: recovering a journal with any budget. -/
import Derived.Test.YthdomhdippmaiaaGreatOvJst
namespace Go.Ovl
open Go Go.Ab
set_option maxRecDepth 100000
def n1v' (s : Sto) (m : Img) (bud e : Int) : (Unit × Unit × Int × Int × Unit) × ((ByteArray × ByteArray × Int × Unit) × (List Int × List Bool × List Bool × List Entry × Unit) × Unit) := (((), (), bud, e, ()), ((s.h0, s.h1, s.sel, ()), m.tup, ()))
def ncq' (b : Bldg) (s : Sto) (bud : Int) : Sto × Img × Int × Int :=
  bif (net' b s (ndc' b s) bud).2.2 != 0 then ((net' b s (ndc' b s) bud).1, Img.none, 0, (net' b s (ndc' b s) bud).2.2)
  else ((net' b s (ndc' b s) bud).1, ndc' b s, (net' b s (ndc' b s) bud).2.1, 0)
theorem nvm' {b : Bldg} (hcode : b.code = 0) (s : Sto) (hs : s.cur.size ≤ 500000) : ImgOK b (ndc' b s) ∧ (ndc' b s).Entries.length ≤ 90000 ∧ (ndc' b s).fit := by
  have hc := ncj' hcode
  obtain ⟨h1, h2⟩ := np7' (nmp' hcode) (rs := readV b s.cur) fun r hr => nnr' b _ _ r hr
  have h3 := nps' b s.cur.size (bl s.cur)
  rw [nhc'] at h3
  have h4 : (initV b).Entries.length = 0 := rfl
  have h5 : (readV b s.cur).length = (readL b s.cur.size (bl s.cur)).length := rfl
  have g1 := h1.lp
  have g2 := h1.lf
  have g3 := h1.ll
  exact ⟨h1, by show (nci' (initV b) (readV b s.cur)).Entries.length ≤ _; omega, by show (nci' (initV b) (readV b s.cur)).Phases.length ≤ _; omega, by show (nci' (initV b) (readV b s.cur)).Flags.length ≤ _; omega, by show (nci' (initV b) (readV b s.cur)).Leaving.length ≤ _; omega, by show (nci' (initV b) (readV b s.cur)).Entries.length ≤ _; omega⟩
theorem ntx' {b : Bldg} (hb : b.small) (hcode : b.code = 0) (s : Sto) (hs : s.cur.size ≤ 500000) {bud : Int} (hbud : bud < 9223372036854775808) :
    nja' b.Floors b.Debounce b.Room b.Park b.Empty b.Full b.Over b.Cars s.h0 s.h1 s.sel bud = some (n1v' (ncq' b s bud).1 (ncq' b s bud).2.1 (ncq' b s bud).2.2.1 (ncq' b s bud).2.2.2) := by
  have hc := ncj' hcode
  obtain ⟨_, _, hf⟩ := nvm' hcode s hs
  unfold nja' ncq'
  rw [nv0' hb hcode s hs]
  simp only [Option.bind_some, Img.tup]
  rw [nt3' hb (by omega) s hf hbud]
  simp only [Option.bind_some, Sto.out]
  generalize net' b s (ndc' b s) bud = w
  cases w.2.2 != 0 <;> rfl
end Go.Ovl
