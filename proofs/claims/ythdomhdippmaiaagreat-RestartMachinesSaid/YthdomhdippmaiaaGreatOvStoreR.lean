/- The store (layer 8): what the reference's functions come to. -/
import Derived.Test.YthdomhdippmaiaaGreatOvStoreP
namespace Go.Ovl
open Go Go.Ab
theorem nm2' (room : Int) (h0 h1 : ByteArray) (sel : Int) : nep' room h0 h1 sel = some ((decide (Sto.ok room ⟨h0, h1, sel⟩), ()), ()) :=
  (nee' room h0 h1 sel ▸ rfl)
theorem set_set {s : Sto} {half : Int} (hh : half = 0 ∨ half = 1) (x y : ByteArray) : (s.set half x).set half y = s.set half y := by rcases hh with rfl | rfl <;> rfl
end Go.Ovl
