/- Layer 10: whether another call has room, by the reference. -/
import Derived.Test.YthdomhdippmaiaaGreatOvLog2
namespace Go.Ovl
open Go Go.Ab
set_option maxRecDepth 100000
end Go.Ovl
