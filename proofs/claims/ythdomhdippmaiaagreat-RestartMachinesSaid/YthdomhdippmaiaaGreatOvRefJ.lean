/- Layer 10: compacting, appending, replaying and recovering, by the reference. -/
import Derived.Test.YthdomhdippmaiaaGreatOvRecov
import Derived.Test.YthdomhdippmaiaaGreatOvStoreR
import Derived.Test.YthdomhdippmaiaaGreatOvBytes
import Derived.Test.YthdomhdippmaiaaGreatOvRoom
namespace Go.Ovl
open Go Go.Ab
set_option maxRecDepth 100000
end Go.Ovl
