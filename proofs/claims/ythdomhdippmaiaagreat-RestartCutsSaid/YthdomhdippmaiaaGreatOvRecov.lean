/- Layer 10: recovering a journal with any budget. -/
import Derived.Test.YthdomhdippmaiaaGreatOvJst
namespace Go.Ovl
open Go Go.Ab
set_option maxRecDepth 100000
def nzm' (s : Sto) (m : Img) (bud e : Int) : (Unit × Unit × Int × Int × Unit) × ((ByteArray × ByteArray × Int × Unit) × (List Int × List Bool × List Bool × List Entry × Unit) × Unit) := (((), (), bud, e, ()), ((s.h0, s.h1, s.sel, ()), m.tup, ()))
def ncn' (b : Bldg) (s : Sto) (bud : Int) : Sto × Img × Int × Int :=
  bif (nea' b s (nck' b s) bud).2.2 != 0 then ((nea' b s (nck' b s) bud).1, Img.none, 0, (nea' b s (nck' b s) bud).2.2)
  else ((nea' b s (nck' b s) bud).1, nck' b s, (nea' b s (nck' b s) bud).2.1, 0)
theorem nt2' {b : Bldg} (hcode : b.code = 0) (s : Sto) (hs : s.cur.size ≤ 500000) : ImgOK b (nck' b s) ∧ (nck' b s).Entries.length ≤ 90000 ∧ (nck' b s).fit := by
  have hc := nco' hcode
  obtain ⟨h1, h2⟩ := no2' (nlj' hcode) (rs := readV b s.cur) fun r hr => nmj' b _ _ r hr
  have h3 := nop' b s.cur.size (bl s.cur)
  rw [nff'] at h3
  have h4 : (initV b).Entries.length = 0 := rfl
  have h5 : (readV b s.cur).length = (readL b s.cur.size (bl s.cur)).length := rfl
  have g1 := h1.lp
  have g2 := h1.lf
  have g3 := h1.ll
  exact ⟨h1, by show (nce' (initV b) (readV b s.cur)).Entries.length ≤ _; omega, by show (nce' (initV b) (readV b s.cur)).Phases.length ≤ _; omega, by show (nce' (initV b) (readV b s.cur)).Flags.length ≤ _; omega, by show (nce' (initV b) (readV b s.cur)).Leaving.length ≤ _; omega, by show (nce' (initV b) (readV b s.cur)).Entries.length ≤ _; omega⟩
theorem nsb' {b : Bldg} (hb : b.small) (hcode : b.code = 0) (s : Sto) (hs : s.cur.size ≤ 500000) {bud : Int} (hbud : bud < 9223372036854775808) :
    nh9' b.Floors b.Debounce b.Room b.Park b.Empty b.Full b.Over b.Cars s.h0 s.h1 s.sel bud = some (nzm' (ncn' b s bud).1 (ncn' b s bud).2.1 (ncn' b s bud).2.2.1 (ncn' b s bud).2.2.2) := by
  have hc := nco' hcode
  obtain ⟨_, _, hf⟩ := nt2' hcode s hs
  unfold nh9' ncn'
  rw [nua' hb hcode s hs]
  simp only [Option.bind_some, Img.tup]
  rw [nr6' hb (by omega) s hf hbud]
  simp only [Option.bind_some, Sto.out]
  generalize nea' b s (nck' b s) bud = w
  cases w.2.2 != 0 <;> rfl
end Go.Ovl
