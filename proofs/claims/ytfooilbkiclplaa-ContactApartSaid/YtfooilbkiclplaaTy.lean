/- The records of the program. -/
import Derived.Test.YtfooilbkiclplaaAbE
namespace Go.Ovl
open Go Go.Ab
structure Contacts where
  Floors : Int
  Up : Bool
  Down : Bool
  Open : Bool
  Closed : Bool
end Go.Ovl
