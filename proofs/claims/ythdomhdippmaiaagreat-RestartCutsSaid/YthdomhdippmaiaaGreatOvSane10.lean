/- Layer 10: the sanity check of the statements about the journal holds. -/
import Derived.Test.YthdomhdippmaiaaGreatOvJour
namespace Go.Ovl
open Go Go.Ab
set_option maxRecDepth 100000
def sB : Bldg := bld10 4 2 30
def sM0 : Img := ⟨[0, 0], [false, false], [false, false], []⟩
theorem n2m' : sB.code = 0 := nnk' (by omega) (by omega) (by omega) (by omega) ⟨by omega, by omega⟩
theorem ok0 : sM0.ok sB = true := by
  unfold Img.ok
  rw [n2m']; rfl
end Go.Ovl
