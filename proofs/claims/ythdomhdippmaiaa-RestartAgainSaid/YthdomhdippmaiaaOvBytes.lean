/- Layer 10: the bytes of records, by the reference. -/
import Derived.Test.YthdomhdippmaiaaOvJour
namespace Go.Ovl
open Go Go.Ab
set_option maxRecDepth 100000
theorem nt6' {b : Bldg} (hb : b.small) (hc : b.Cars.length ≤ 100) {rs : List Record} (hl : rs.length ≤ 100000) : nhf' b.Floors b.Debounce b.Room b.Park b.Empty b.Full b.Over b.Cars rs = some ((txt (rs.flatMap fun r => bl (encR b r)), ()), ()) := by
  have h := nch' (step := fun x => neg' x.1.1 x.1.2.2.1 x.1.2.2.2.1 x.2.1.1 x.2.1.2.1 x.2.1.2.2.1 x.2.1.2.2.2.1 x.2.1.2.2.2.2.1 x.2.1.2.2.2.2.2.1 x.2.1.2.2.2.2.2.2.1 x.2.1.2.2.2.2.2.2.2.1) rs.length (fun i (l : List UInt8) => ((rs, (), txt l, (i : Int), ()), (b.tup, ()))) (fun i l => l ++ bl (encR b (rs.getD i (Record.mk 0 0 0 0 0)))) (fun i l => l.length ≤ 6 * i) (fun l => ((txt l, ()), ())) (fun i l hi hs => by
    have he := nsf' b (rs.getD i (Record.mk 0 0 0 0 0))
    refine ⟨?_, by rw [List.length_append]; omega⟩
    show neg' rs (txt l) (i : Int) b.Floors b.Debounce b.Room b.Park b.Empty b.Full b.Over b.Cars = _
    unfold neg'
    simp only [decide_eq_true (show (i : Int) < (rs.length : Int) by omega), nc' (show (0 : Int) ≤ (i : Int) by omega) (show (i : Int) < (rs.length : Int) by omega), cond_true, Int.toNat_natCast, nto' hb hc, Option.bind_some, wrap1 hi (show rs.length ≤ ni' by unfold ni'; omega)]
    rw [n9' (show (txt l).size + (encR b (rs.getD i (Record.mk 0 0 0 0 0))).size ≤ 4611686018427387904 by rw [nbf', ← ndf']; omega)]
    rw [show txt l ++ encR b (rs.getD i (Record.mk 0 0 0 0 0)) = txt (l ++ bl (encR b (rs.getD i (Record.mk 0 0 0 0 0)))) by rw [← nl9', n1g']]
    rfl) (fun l _ => by
    show neg' rs (txt l) (rs.length : Int) b.Floors b.Debounce b.Room b.Park b.Empty b.Full b.Over b.Cars = _
    unfold neg'
    simp only [decide_eq_false (Int.lt_irrefl (rs.length : Int)), cond_false]) rs.length 0 [] (by omega) (by simp)
  have h' := nf' h.1 (by omega)
  rw [nel' (fun i => bl (encR b (rs.getD i (Record.mk 0 0 0 0 0)))), List.nil_append, ni1' (fun r => bl (encR b r)) (Record.mk 0 0 0 0 0) rs 0 rs.length (by omega), List.drop_zero] at h'
  unfold nhf'
  rw [show nhp' ((rs, (), ByteArray.mk (Array.mk []), (0 : Int), ()), ((b.Floors, b.Debounce, b.Room, b.Park, b.Empty, b.Full, b.Over, b.Cars, ()), ())) = _ from h']
  rfl
end Go.Ovl
