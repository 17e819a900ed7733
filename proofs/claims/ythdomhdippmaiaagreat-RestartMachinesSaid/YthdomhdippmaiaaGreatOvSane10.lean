/- Layer 10: the sanity check of the statements about the journal holds. -/
import Derived.Test.YthdomhdippmaiaaGreatOvJour
namespace Go.Ovl
open Go Go.Ab
set_option maxRecDepth 100000
end Go.Ovl
