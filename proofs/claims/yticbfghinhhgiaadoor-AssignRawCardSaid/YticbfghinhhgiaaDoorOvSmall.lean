/- Buildings of two to eight floors. -/
import Derived.Test.YticbfghinhhgiaaDoorOvSample
namespace Go.Ovl
open Go Go.Ab
/-- A building of two to eight floors. -/
structure Bldg.small (b : Bldg) : Prop where
  lo : 2 ≤ b.Floors
  hi : b.Floors ≤ 8
end Go.Ovl
