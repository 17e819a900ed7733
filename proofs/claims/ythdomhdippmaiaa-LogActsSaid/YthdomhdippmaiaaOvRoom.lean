/- Layer 10: whether another call has room, by the reference. -/
import Derived.Test.YthdomhdippmaiaaOvLog2
namespace Go.Ovl
open Go Go.Ab
set_option maxRecDepth 100000
theorem r10_Room_eq {b : Bldg} (hb : b.small) (m : Img) (hc : b.Cars.length ≤ 100000) (hp : m.Phases.length ≤ 100000) (hl : m.Entries.length ≤ 100000) :
    F_r10_Room b.Floors b.Debounce b.Room b.Park b.Empty b.Full b.Over b.Cars m.Phases m.Flags m.Leaving m.Entries = some ((roomV b m, ()), ()) := by
  have hmx : 100000 ≤ maxLen := by decide
  unfold F_r10_Room roomV
  rw [r10_IsImage_eq hb m (by omega) (by omega)]
  simp only [Option.bind_some, roomW hc hl]
  cases m.ok b <;> rfl
end Go.Ovl
