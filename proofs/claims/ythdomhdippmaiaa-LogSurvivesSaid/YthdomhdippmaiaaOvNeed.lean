/- Layer 10: an append costs little in a small store. -/
import Derived.Test.YthdomhdippmaiaaOvJst
namespace Go.Ovl
open Go Go.Ab
theorem need_le {b : Bldg} {s : Sto} {m : Img} (hj : Jst b s m) {r : Record} (hv : validR b r = true) (hfull : fullV b m r = false) (hroom : b.Room ≤ 1000) : needV b s m r ≤ 100000 ∧ 0 ≤ needV b s m r := by
  have h := fits_next hj hv hfull
  unfold needV
  split <;> omega
end Go.Ovl
