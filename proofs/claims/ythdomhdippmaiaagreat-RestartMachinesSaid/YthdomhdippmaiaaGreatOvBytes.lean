/- Layer 10: the bytes of records, by the reference. -/
import Derived.Test.YthdomhdippmaiaaGreatOvJour
namespace Go.Ovl
open Go Go.Ab
set_option maxRecDepth 100000
end Go.Ovl
