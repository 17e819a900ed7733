/- The records of the program. -/
import Derived.Test.YtfooilbkiclplaaAbE
namespace Go.Ovl
open Go Go.Ab
end Go.Ovl
