/-
  NARROWER THAN 'FOR EVERY INPUT', by the rows' own cells (each row's printed sentence says how): AssignChooses: laid · AssignLeaves: laid · AssignMoves: laid · AssignExpects: laid · AssignPlans: laid · AssignRaw: laid · AssignEmpty: laid.
  DERIVED. THE GIVEN ROWS OF THIS SEAT. 7 by the template 'for every input the law returns true; each argument reads behind the call as it read before'; 0 by the template 'total and deterministic' (their statements: YticbfghinhhgiaaDoorTotals.lean).
  GIVEN WITH THE SEED: the statements are not yours to turn. If you find one false, say at which input.
  Laid BY PROGRAM, IN A SANDBOX (cutbox-rows.mjs): the forced cells as the released guide's own fill.sh prints them over the translation 014e5f5d0d093903… (all of the seat's roots in one cut). By AI agents, Wed Nov 11 2026. No macro, syntax, notation, axiom, sorry.
-/
import Derived.Test.YticbfghinhhgiaaDoorChecked
import GoSem.Claim
import GoSem.ClaimJoined
import GoSem.ClaimMapViews
import Derived.JoinedTies
import Derived.KernelRfl
namespace Go.Proofs.YticbfghinhhgiaaDoor
/- THE CELL 'sum', in the pinned program and in every row, IS THE sha256 OF THE DUMP (.gsa) THAT YticbfghinhhgiaaDoorProg.lean LOADS. Nothing in Lean hashes anything: it is a label: what it is worth is what the hold of that sum in a sandbox is worth. -/
noncomputable def Tryd.pinned : Pinned := { name := "yticbfghinhhgiaadoor", sum := "014e5f5d0d09390390ab3ac4fbf0fa4cc8a92d8aff482a7b34142a793b97f659", checked := Tryd.checked }
namespace Rows
def none {H : Type} : Left H := { results := [], args := [] }

/- WHAT THE LISTED PACKAGE-LEVEL VARIABLES READ AS WHEN THE CALL BEGINS. Each datum BY PROGRAM (the guide's laid-datum.mjs) off the statement by which the dump's own 'gosem.cut.vars' lays the variable. In a bare row this is a premise. The card (YticbfghinhhgiaaDoorCards.lean) ties it to the program's text. -/
def laid_math_bits_deBruijn32tab {H : Type} : DataW H := .agg [.lit (.int .u8 0), .lit (.int .u8 1), .lit (.int .u8 28), .lit (.int .u8 2), .lit (.int .u8 29), .lit (.int .u8 14), .lit (.int .u8 24), .lit (.int .u8 3), .lit (.int .u8 30), .lit (.int .u8 22), .lit (.int .u8 20), .lit (.int .u8 15), .lit (.int .u8 25), .lit (.int .u8 17), .lit (.int .u8 4), .lit (.int .u8 8), .lit (.int .u8 31), .lit (.int .u8 27), .lit (.int .u8 13), .lit (.int .u8 23), .lit (.int .u8 21), .lit (.int .u8 19), .lit (.int .u8 16), .lit (.int .u8 7), .lit (.int .u8 26), .lit (.int .u8 12), .lit (.int .u8 18), .lit (.int .u8 6), .lit (.int .u8 11), .lit (.int .u8 5), .lit (.int .u8 10), .lit (.int .u8 9)]

/-- 'overlaylaw22.AssignChooses': WHATEVER THE INPUT: true; the input reads as it did. -/
def assignChoosesSpec : ChangeSpec := { name := "assignChooses", fn := fun _ => fun
  | [d1, d2, d3] => { results := [.lit (.bool true)], args := [d1, d2, d3] }
  | _ => none }
def assignChoosesRow : OpenClaim := { program := "yticbfghinhhgiaadoor", sum := "014e5f5d0d09390390ab3ac4fbf0fa4cc8a92d8aff482a7b34142a793b97f659", func := "overlay/overlaylaw22.AssignChooses", spec := "assignChooses", unfollowed := true, recurses := true, named := ["math/bits.deBruijn32tab"], apart := false, laid := [("math/bits.deBruijn32tab", laid_math_bits_deBruijn32tab)] }
def AssignChoosesSaid : Prop := assignChoosesRow.holds Tryd.pinned (OpenSpec.ofChange assignChoosesSpec)

/-- ITS FALSE NEIGHBOUR: 'it returns false'. Refute it at one input. -/
def assignChoosesWrong : ChangeSpec := { name := "assignChooses", fn := fun _ => fun
  | [d1, d2, d3] => { results := [.lit (.bool false)], args := [d1, d2, d3] }
  | _ => none }
def AssignChoosesWrongFalsely : Prop := assignChoosesRow.holds Tryd.pinned (OpenSpec.ofChange assignChoosesWrong)

/-- 'overlaylaw22.AssignLeaves': WHATEVER THE INPUT: true; the input reads as it did. -/
def assignLeavesSpec : ChangeSpec := { name := "assignLeaves", fn := fun _ => fun
  | [d1, d2, d3] => { results := [.lit (.bool true)], args := [d1, d2, d3] }
  | _ => none }
def assignLeavesRow : OpenClaim := { program := "yticbfghinhhgiaadoor", sum := "014e5f5d0d09390390ab3ac4fbf0fa4cc8a92d8aff482a7b34142a793b97f659", func := "overlay/overlaylaw22.AssignLeaves", spec := "assignLeaves", unfollowed := true, recurses := true, named := ["math/bits.deBruijn32tab"], apart := false, laid := [("math/bits.deBruijn32tab", laid_math_bits_deBruijn32tab)] }
def AssignLeavesSaid : Prop := assignLeavesRow.holds Tryd.pinned (OpenSpec.ofChange assignLeavesSpec)

/-- ITS FALSE NEIGHBOUR: 'it returns false'. Refute it at one input. -/
def assignLeavesWrong : ChangeSpec := { name := "assignLeaves", fn := fun _ => fun
  | [d1, d2, d3] => { results := [.lit (.bool false)], args := [d1, d2, d3] }
  | _ => none }
def AssignLeavesWrongFalsely : Prop := assignLeavesRow.holds Tryd.pinned (OpenSpec.ofChange assignLeavesWrong)

/-- 'overlaylaw22.AssignMoves': WHATEVER THE INPUT: true; the input reads as it did. -/
def assignMovesSpec : ChangeSpec := { name := "assignMoves", fn := fun _ => fun
  | [d1, d2, d3] => { results := [.lit (.bool true)], args := [d1, d2, d3] }
  | _ => none }
def assignMovesRow : OpenClaim := { program := "yticbfghinhhgiaadoor", sum := "014e5f5d0d09390390ab3ac4fbf0fa4cc8a92d8aff482a7b34142a793b97f659", func := "overlay/overlaylaw22.AssignMoves", spec := "assignMoves", unfollowed := true, recurses := true, named := ["math/bits.deBruijn32tab"], apart := false, laid := [("math/bits.deBruijn32tab", laid_math_bits_deBruijn32tab)] }
def AssignMovesSaid : Prop := assignMovesRow.holds Tryd.pinned (OpenSpec.ofChange assignMovesSpec)

/-- ITS FALSE NEIGHBOUR: 'it returns false'. Refute it at one input. -/
def assignMovesWrong : ChangeSpec := { name := "assignMoves", fn := fun _ => fun
  | [d1, d2, d3] => { results := [.lit (.bool false)], args := [d1, d2, d3] }
  | _ => none }
def AssignMovesWrongFalsely : Prop := assignMovesRow.holds Tryd.pinned (OpenSpec.ofChange assignMovesWrong)

/-- 'overlaylaw22.AssignExpects': WHATEVER THE INPUT: true; the input reads as it did. -/
def assignExpectsSpec : ChangeSpec := { name := "assignExpects", fn := fun _ => fun
  | [d1, d2, d3] => { results := [.lit (.bool true)], args := [d1, d2, d3] }
  | _ => none }
def assignExpectsRow : OpenClaim := { program := "yticbfghinhhgiaadoor", sum := "014e5f5d0d09390390ab3ac4fbf0fa4cc8a92d8aff482a7b34142a793b97f659", func := "overlay/overlaylaw22.AssignExpects", spec := "assignExpects", unfollowed := true, recurses := true, named := ["math/bits.deBruijn32tab"], apart := false, laid := [("math/bits.deBruijn32tab", laid_math_bits_deBruijn32tab)] }
def AssignExpectsSaid : Prop := assignExpectsRow.holds Tryd.pinned (OpenSpec.ofChange assignExpectsSpec)

/-- ITS FALSE NEIGHBOUR: 'it returns false'. Refute it at one input. -/
def assignExpectsWrong : ChangeSpec := { name := "assignExpects", fn := fun _ => fun
  | [d1, d2, d3] => { results := [.lit (.bool false)], args := [d1, d2, d3] }
  | _ => none }
def AssignExpectsWrongFalsely : Prop := assignExpectsRow.holds Tryd.pinned (OpenSpec.ofChange assignExpectsWrong)

/-- 'overlaylaw22.AssignPlans': WHATEVER THE INPUT: true; the input reads as it did. -/
def assignPlansSpec : ChangeSpec := { name := "assignPlans", fn := fun _ => fun
  | [d1, d2, d3] => { results := [.lit (.bool true)], args := [d1, d2, d3] }
  | _ => none }
def assignPlansRow : OpenClaim := { program := "yticbfghinhhgiaadoor", sum := "014e5f5d0d09390390ab3ac4fbf0fa4cc8a92d8aff482a7b34142a793b97f659", func := "overlay/overlaylaw22.AssignPlans", spec := "assignPlans", unfollowed := true, recurses := true, named := ["math/bits.deBruijn32tab"], apart := false, laid := [("math/bits.deBruijn32tab", laid_math_bits_deBruijn32tab)] }
def AssignPlansSaid : Prop := assignPlansRow.holds Tryd.pinned (OpenSpec.ofChange assignPlansSpec)

/-- ITS FALSE NEIGHBOUR: 'it returns false'. Refute it at one input. -/
def assignPlansWrong : ChangeSpec := { name := "assignPlans", fn := fun _ => fun
  | [d1, d2, d3] => { results := [.lit (.bool false)], args := [d1, d2, d3] }
  | _ => none }
def AssignPlansWrongFalsely : Prop := assignPlansRow.holds Tryd.pinned (OpenSpec.ofChange assignPlansWrong)

/-- 'overlaylaw22.AssignRaw': WHATEVER THE INPUT: true; the input reads as it did. -/
def assignRawSpec : ChangeSpec := { name := "assignRaw", fn := fun _ => fun
  | [d1, d2, d3] => { results := [.lit (.bool true)], args := [d1, d2, d3] }
  | _ => none }
def assignRawRow : OpenClaim := { program := "yticbfghinhhgiaadoor", sum := "014e5f5d0d09390390ab3ac4fbf0fa4cc8a92d8aff482a7b34142a793b97f659", func := "overlay/overlaylaw22.AssignRaw", spec := "assignRaw", unfollowed := true, recurses := true, named := ["math/bits.deBruijn32tab"], apart := false, laid := [("math/bits.deBruijn32tab", laid_math_bits_deBruijn32tab)] }
def AssignRawSaid : Prop := assignRawRow.holds Tryd.pinned (OpenSpec.ofChange assignRawSpec)

/-- ITS FALSE NEIGHBOUR: 'it returns false'. Refute it at one input. -/
def assignRawWrong : ChangeSpec := { name := "assignRaw", fn := fun _ => fun
  | [d1, d2, d3] => { results := [.lit (.bool false)], args := [d1, d2, d3] }
  | _ => none }
def AssignRawWrongFalsely : Prop := assignRawRow.holds Tryd.pinned (OpenSpec.ofChange assignRawWrong)

/-- 'overlaylaw22.AssignEmpty': WHATEVER THE INPUT: true; the input reads as it did. -/
def assignEmptySpec : ChangeSpec := { name := "assignEmpty", fn := fun _ => fun
  | [d1, d2, d3] => { results := [.lit (.bool true)], args := [d1, d2, d3] }
  | _ => none }
def assignEmptyRow : OpenClaim := { program := "yticbfghinhhgiaadoor", sum := "014e5f5d0d09390390ab3ac4fbf0fa4cc8a92d8aff482a7b34142a793b97f659", func := "overlay/overlaylaw22.AssignEmpty", spec := "assignEmpty", unfollowed := true, recurses := true, named := ["math/bits.deBruijn32tab"], apart := false, laid := [("math/bits.deBruijn32tab", laid_math_bits_deBruijn32tab)] }
def AssignEmptySaid : Prop := assignEmptyRow.holds Tryd.pinned (OpenSpec.ofChange assignEmptySpec)

/-- ITS FALSE NEIGHBOUR: 'it returns false'. Refute it at one input. -/
def assignEmptyWrong : ChangeSpec := { name := "assignEmpty", fn := fun _ => fun
  | [d1, d2, d3] => { results := [.lit (.bool false)], args := [d1, d2, d3] }
  | _ => none }
def AssignEmptyWrongFalsely : Prop := assignEmptyRow.holds Tryd.pinned (OpenSpec.ofChange assignEmptyWrong)

/- THE SECOND FORM. 'bulk': how many values and letters a reading holds, each counted each time it is reached (what is shared counts as often as it is met; a slice's spare places count too). A statement '..UptoSaid' is the law's where the arguments, and the package variables that the reading takes, are together of bulk at most 1048576: NARROWER than '..Said'. Prove '..Said' where nothing that the law and all that it calls make is longer than what came in: it says more and counts as full. Else prove '..UptoSaid'. A law counts once. -/
mutual
def uptoBulk {H : Type} : DataW H → Nat
  | .lit (.string bytes) => bytes.length + 1
  | .lit _ => 1
  | .nil => 1
  | .ptr d => uptoBulk d + 1
  | .slice elems spare => uptoBulkAll elems + uptoBulkAll spare + 1
  | .agg parts => uptoBulkAll parts + 1
  | .iface _ d => uptoBulk d + 1
  | .map entries => uptoBulkEntries entries + 1
  | .held _ => 1
def uptoBulkAll {H : Type} : List (DataW H) → Nat
  | [] => 0
  | d :: r => uptoBulk d + uptoBulkAll r
def uptoBulkEntries {H : Type} : List (Lit × DataW H) → Nat
  | [] => 0
  | x :: r => uptoBulkEntry x + uptoBulkEntries r
def uptoBulkEntry {H : Type} : Lit × DataW H → Nat
  | (.string bytes, d) => bytes.length + uptoBulk d + 1
  | (_, d) => uptoBulk d + 1
 end
def uptoSmall : (H : Type) → List (DataW H) → Bool := fun _ ds => decide (uptoBulkAll ds ≤ 1048576)
def OpenSpec.upto (s : _root_.Go.ChangeSpec) : _root_.Go.OpenSpec := { _root_.Go.OpenSpec.ofChange s with cond := some uptoSmall }

/-- 'overlaylaw22.AssignChooses', WHERE WHAT IT READS IS OF BULK AT MOST 1048576: true; the input reads as it did. -/
def assignChoosesUptoRow : OpenClaim := { program := "yticbfghinhhgiaadoor", sum := "014e5f5d0d09390390ab3ac4fbf0fa4cc8a92d8aff482a7b34142a793b97f659", func := "overlay/overlaylaw22.AssignChooses", spec := "assignChooses", unfollowed := true, recurses := true, named := ["math/bits.deBruijn32tab"], apart := false, laid := [("math/bits.deBruijn32tab", laid_math_bits_deBruijn32tab)], narrowed := true }
def AssignChoosesUptoSaid : Prop := assignChoosesUptoRow.holds Tryd.pinned (OpenSpec.upto assignChoosesSpec)

/-- 'overlaylaw22.AssignLeaves', WHERE WHAT IT READS IS OF BULK AT MOST 1048576: true; the input reads as it did. -/
def assignLeavesUptoRow : OpenClaim := { program := "yticbfghinhhgiaadoor", sum := "014e5f5d0d09390390ab3ac4fbf0fa4cc8a92d8aff482a7b34142a793b97f659", func := "overlay/overlaylaw22.AssignLeaves", spec := "assignLeaves", unfollowed := true, recurses := true, named := ["math/bits.deBruijn32tab"], apart := false, laid := [("math/bits.deBruijn32tab", laid_math_bits_deBruijn32tab)], narrowed := true }
def AssignLeavesUptoSaid : Prop := assignLeavesUptoRow.holds Tryd.pinned (OpenSpec.upto assignLeavesSpec)

/-- 'overlaylaw22.AssignMoves', WHERE WHAT IT READS IS OF BULK AT MOST 1048576: true; the input reads as it did. -/
def assignMovesUptoRow : OpenClaim := { program := "yticbfghinhhgiaadoor", sum := "014e5f5d0d09390390ab3ac4fbf0fa4cc8a92d8aff482a7b34142a793b97f659", func := "overlay/overlaylaw22.AssignMoves", spec := "assignMoves", unfollowed := true, recurses := true, named := ["math/bits.deBruijn32tab"], apart := false, laid := [("math/bits.deBruijn32tab", laid_math_bits_deBruijn32tab)], narrowed := true }
def AssignMovesUptoSaid : Prop := assignMovesUptoRow.holds Tryd.pinned (OpenSpec.upto assignMovesSpec)

/-- 'overlaylaw22.AssignExpects', WHERE WHAT IT READS IS OF BULK AT MOST 1048576: true; the input reads as it did. -/
def assignExpectsUptoRow : OpenClaim := { program := "yticbfghinhhgiaadoor", sum := "014e5f5d0d09390390ab3ac4fbf0fa4cc8a92d8aff482a7b34142a793b97f659", func := "overlay/overlaylaw22.AssignExpects", spec := "assignExpects", unfollowed := true, recurses := true, named := ["math/bits.deBruijn32tab"], apart := false, laid := [("math/bits.deBruijn32tab", laid_math_bits_deBruijn32tab)], narrowed := true }
def AssignExpectsUptoSaid : Prop := assignExpectsUptoRow.holds Tryd.pinned (OpenSpec.upto assignExpectsSpec)

/-- 'overlaylaw22.AssignPlans', WHERE WHAT IT READS IS OF BULK AT MOST 1048576: true; the input reads as it did. -/
def assignPlansUptoRow : OpenClaim := { program := "yticbfghinhhgiaadoor", sum := "014e5f5d0d09390390ab3ac4fbf0fa4cc8a92d8aff482a7b34142a793b97f659", func := "overlay/overlaylaw22.AssignPlans", spec := "assignPlans", unfollowed := true, recurses := true, named := ["math/bits.deBruijn32tab"], apart := false, laid := [("math/bits.deBruijn32tab", laid_math_bits_deBruijn32tab)], narrowed := true }
def AssignPlansUptoSaid : Prop := assignPlansUptoRow.holds Tryd.pinned (OpenSpec.upto assignPlansSpec)

/-- 'overlaylaw22.AssignRaw', WHERE WHAT IT READS IS OF BULK AT MOST 1048576: true; the input reads as it did. -/
def assignRawUptoRow : OpenClaim := { program := "yticbfghinhhgiaadoor", sum := "014e5f5d0d09390390ab3ac4fbf0fa4cc8a92d8aff482a7b34142a793b97f659", func := "overlay/overlaylaw22.AssignRaw", spec := "assignRaw", unfollowed := true, recurses := true, named := ["math/bits.deBruijn32tab"], apart := false, laid := [("math/bits.deBruijn32tab", laid_math_bits_deBruijn32tab)], narrowed := true }
def AssignRawUptoSaid : Prop := assignRawUptoRow.holds Tryd.pinned (OpenSpec.upto assignRawSpec)

/-- 'overlaylaw22.AssignEmpty', WHERE WHAT IT READS IS OF BULK AT MOST 1048576: true; the input reads as it did. -/
def assignEmptyUptoRow : OpenClaim := { program := "yticbfghinhhgiaadoor", sum := "014e5f5d0d09390390ab3ac4fbf0fa4cc8a92d8aff482a7b34142a793b97f659", func := "overlay/overlaylaw22.AssignEmpty", spec := "assignEmpty", unfollowed := true, recurses := true, named := ["math/bits.deBruijn32tab"], apart := false, laid := [("math/bits.deBruijn32tab", laid_math_bits_deBruijn32tab)], narrowed := true }
def AssignEmptyUptoSaid : Prop := assignEmptyUptoRow.holds Tryd.pinned (OpenSpec.upto assignEmptySpec)

end Rows
end Go.Proofs.YticbfghinhhgiaaDoor
