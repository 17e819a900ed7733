/- Layer 10: the bytes of records, by the reference. -/
import Derived.Test.YthdomhdippmaiaaGreatOvJour
namespace Go.Ovl
open Go Go.Ab
set_option maxRecDepth 100000
theorem npq' {b : Bldg} (hb : b.small) (hc : b.Cars.length ≤ 100) {rs : List Record} (hl : rs.length ≤ 100000) : nhr' b.Floors b.Debounce b.Room b.Park b.Empty b.Full b.Over b.Cars rs = some ((txt (rs.flatMap fun r => bl (encR b r)), ()), ()) := by
  have h := ncl' (step := fun x => nfo' x.1.1 x.1.2.2.1 x.1.2.2.2.1 x.2.1.1 x.2.1.2.1 x.2.1.2.2.1 x.2.1.2.2.2.1 x.2.1.2.2.2.2.1 x.2.1.2.2.2.2.2.1 x.2.1.2.2.2.2.2.2.1 x.2.1.2.2.2.2.2.2.2.1) rs.length (fun i (l : List UInt8) => ((rs, (), txt l, (i : Int), ()), (b.tup, ()))) (fun i l => l ++ bl (encR b (rs.getD i (Record.mk 0 0 0 0 0)))) (fun i l => l.length ≤ 6 * i) (fun l => ((txt l, ()), ())) (fun i l hi hs => by
    have he := nu4' b (rs.getD i (Record.mk 0 0 0 0 0))
    refine ⟨?_, by rw [List.length_append]; omega⟩
    show nfo' rs (txt l) (i : Int) b.Floors b.Debounce b.Room b.Park b.Empty b.Full b.Over b.Cars = _
    unfold nfo'
    simp only [decide_eq_true (show (i : Int) < (rs.length : Int) by omega), nc' (show (0 : Int) ≤ (i : Int) by omega) (show (i : Int) < (rs.length : Int) by omega), cond_true, Int.toNat_natCast, nwa' hb hc, Option.bind_some, wrap1 hi (show rs.length ≤ nf' by unfold nf'; omega)]
    rw [n8' (show (txt l).size + (encR b (rs.getD i (Record.mk 0 0 0 0 0))).size ≤ 4611686018427387904 by rw [nev', ← nc9']; omega)]
    rw [show txt l ++ encR b (rs.getD i (Record.mk 0 0 0 0 0)) = txt (l ++ bl (encR b (rs.getD i (Record.mk 0 0 0 0 0)))) by rw [← ntt', n48']]
    rfl) (fun l _ => by
    show nfo' rs (txt l) (rs.length : Int) b.Floors b.Debounce b.Room b.Park b.Empty b.Full b.Over b.Cars = _
    unfold nfo'
    simp only [decide_eq_false (Int.lt_irrefl (rs.length : Int)), cond_false]) rs.length 0 [] (by omega) (by simp)
  have h' := nd' h.1 (by omega)
  rw [nem' (fun i => bl (encR b (rs.getD i (Record.mk 0 0 0 0 0)))), List.nil_append, nil' (fun r => bl (encR b r)) (Record.mk 0 0 0 0 0) rs 0 rs.length (by omega), List.drop_zero] at h'
  unfold nhr'
  rw [show nje' ((rs, (), ByteArray.mk (Array.mk []), (0 : Int), ()), ((b.Floors, b.Debounce, b.Room, b.Park, b.Empty, b.Full, b.Over, b.Cars, ()), ())) = _ from h']
  rfl
end Go.Ovl
