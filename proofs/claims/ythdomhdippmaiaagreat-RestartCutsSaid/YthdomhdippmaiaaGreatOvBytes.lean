/- Layer 10: the bytes of records, by the reference. -/
import Derived.Test.YthdomhdippmaiaaGreatOvJour
namespace Go.Ovl
open Go Go.Ab
set_option maxRecDepth 100000
theorem nvt' {b : Bldg} (hb : b.small) (hc : b.Cars.length ≤ 100) {rs : List Record} (hl : rs.length ≤ 100000) : nhz' b.Floors b.Debounce b.Room b.Park b.Empty b.Full b.Over b.Cars rs = some ((txt (rs.flatMap fun r => bl (encR b r)), ()), ()) := by
  have h := ncs' (step := fun x => ne0' x.1.1 x.1.2.2.1 x.1.2.2.2.1 x.2.1.1 x.2.1.2.1 x.2.1.2.2.1 x.2.1.2.2.2.1 x.2.1.2.2.2.2.1 x.2.1.2.2.2.2.2.1 x.2.1.2.2.2.2.2.2.1 x.2.1.2.2.2.2.2.2.2.1) rs.length (fun i (l : List UInt8) => ((rs, (), txt l, (i : Int), ()), (b.tup, ()))) (fun i l => l ++ bl (encR b (rs.getD i (Record.mk 0 0 0 0 0)))) (fun i l => l.length ≤ 6 * i) (fun l => ((txt l, ()), ())) (fun i l hi hs => by
    have he := nt5' b (rs.getD i (Record.mk 0 0 0 0 0))
    refine ⟨?_, by rw [List.length_append]; omega⟩
    show ne0' rs (txt l) (i : Int) b.Floors b.Debounce b.Room b.Park b.Empty b.Full b.Over b.Cars = _
    unfold ne0'
    simp only [decide_eq_true (show (i : Int) < (rs.length : Int) by omega), nc' (show (0 : Int) ≤ (i : Int) by omega) (show (i : Int) < (rs.length : Int) by omega), cond_true, Int.toNat_natCast, nt8' hb hc, Option.bind_some, wrap1 hi (show rs.length ≤ nl' by unfold nl'; omega)]
    rw [nbi' (show (txt l).size + (encR b (rs.getD i (Record.mk 0 0 0 0 0))).size ≤ 4611686018427387904 by rw [ndi', ← nff']; omega)]
    rw [show txt l ++ encR b (rs.getD i (Record.mk 0 0 0 0 0)) = txt (l ++ bl (encR b (rs.getD i (Record.mk 0 0 0 0 0)))) by rw [← no7', n3h']]
    rfl) (fun l _ => by
    show ne0' rs (txt l) (rs.length : Int) b.Floors b.Debounce b.Room b.Park b.Empty b.Full b.Over b.Cars = _
    unfold ne0'
    simp only [decide_eq_false (Int.lt_irrefl (rs.length : Int)), cond_false]) rs.length 0 [] (by omega) (by simp)
  have h' := nf' h.1 (by omega)
  rw [ne9' (fun i => bl (encR b (rs.getD i (Record.mk 0 0 0 0 0)))), List.nil_append, ni8' (fun r => bl (encR b r)) (Record.mk 0 0 0 0 0) rs 0 rs.length (by omega), List.drop_zero] at h'
  unfold nhz'
  rw [show nii' ((rs, (), ByteArray.mk (Array.mk []), (0 : Int), ()), ((b.Floors, b.Debounce, b.Room, b.Park, b.Empty, b.Full, b.Over, b.Cars, ()), ())) = _ from h']
  rfl
end Go.Ovl
