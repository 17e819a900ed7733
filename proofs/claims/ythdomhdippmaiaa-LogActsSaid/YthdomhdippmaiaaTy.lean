/- The records of the program. -/
import Derived.Test.YthdomhdippmaiaaAbE
import Derived.Test.YthdomhdippmaiaaAbH
namespace Go.Ovl
open Go Go.Ab
/-- The text whose bytes have these numbers. -/
def textU (l : List Int) : ByteArray := ⟨(l.map fun n => UInt8.ofNat n.toNat).toArray⟩
structure Entry where
  Floor : Int
  Dir : Int
  Car : Int
  Moves : Int
  Moved : Bool
structure Car where
  Deadline : Int
  Pulse : Int
  Quiet : Int
  Slack : Int
  Step : Int
  Travel : Int
  Dwell : Int
  Hold : Int
  Home : Int
structure Record where
  Kind : Int
  Floor : Int
  Dir : Int
  Car : Int
  Value : Int
end Go.Ovl
