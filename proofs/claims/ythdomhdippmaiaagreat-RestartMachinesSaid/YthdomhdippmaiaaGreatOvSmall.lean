/- Buildings of two to eight floors. -/
import Derived.Test.YthdomhdippmaiaaGreatOvSample
namespace Go.Ovl
open Go Go.Ab
structure Bldg.small (b : Bldg) : Prop where
  lo : 2 ≤ b.Floors
  hi : b.Floors ≤ 8
def u8r (n : Int) : Prop := 0 ≤ n ∧ n < 256
theorem nes' {α : Type} {l : List α} (d : α) {i : Nat} (hi : i < l.length) : l.getD i d ∈ l := by
  simp only [List.getD_eq_getElem?_getD, List.getElem?_eq_getElem hi, Option.getD_some]
  exact List.getElem_mem hi
theorem nwz' {α : Type} {P : α → Prop} {l : List α} (h : ∀ e ∈ l, P e) {d : α} {i : Nat} (hi : i < l.length) : P (l.getD i d) := h _ (nes' d hi)
end Go.Ovl
