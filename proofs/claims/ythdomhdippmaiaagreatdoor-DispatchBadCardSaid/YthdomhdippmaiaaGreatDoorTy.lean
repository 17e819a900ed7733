/- The records of the program. -/
import Derived.Test.YthdomhdippmaiaaGreatDoorAbE
import Derived.Test.YthdomhdippmaiaaGreatDoorAbH
namespace Go.Ovl
open Go Go.Ab
structure Car where
 Deadline:Int
 Pulse:Int
 Quiet:Int
 Slack:Int
 Step:Int
 Travel:Int
 Dwell:Int
 Hold:Int
 Home:Int
structure Entry where
 Floor:Int
 Dir:Int
 Car:Int
 Moves:Int
 Moved:Bool
structure View where
 Ready:Bool
 Serving:Bool
 Legacy:Bool
 Lost:Bool
 Floor:Int
 Dir:Int
 Load:Int
 Shows_Up:Int
 Shows_Down:Int
 Stops_Car:Int
 Stops_Hall_Up:Int
 Stops_Hall_Down:Int
structure Calls where
 Up:Int
 Down:Int
structure Record where
 Kind:Int
 Floor:Int
 Dir:Int
 Car:Int
 Value:Int
end Go.Ovl
