/- The records of the program. -/
import Derived.Test.YticbfghinhhgiaaDoorAbE
namespace Go.Ovl
open Go Go.Ab
structure View where
  Ready : Bool
  Serving : Bool
  Legacy : Bool
  Lost : Bool
  Floor : Int
  Dir : Int
  Load : Int
  Shows_Up : Int
  Shows_Down : Int
  Stops_Car : Int
  Stops_Hall_Up : Int
  Stops_Hall_Down : Int
structure Car where
  Deadline : Int
  Pulse : Int
  Quiet : Int
  Slack : Int
  Step : Int
  Travel : Int
  Dwell : Int
  Hold : Int
  Home : Int
structure Entry where
  Floor : Int
  Dir : Int
  Car : Int
  Moves : Int
  Moved : Bool
structure Record where
  Kind : Int
  Floor : Int
  Dir : Int
  Car : Int
  Value : Int
end Go.Ovl
