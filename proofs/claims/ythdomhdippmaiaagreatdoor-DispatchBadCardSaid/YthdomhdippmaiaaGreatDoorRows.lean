/-
  NARROWER THAN 'FOR EVERY INPUT', by the rows' own cells (each row's printed sentence says how): DispatchTicks: laid · DispatchCalls: laid · DispatchKeeps: laid · DispatchBad: laid · DispatchReplays: laid.
  DERIVED. THE GIVEN ROWS OF THIS SEAT. 5 by the template 'for every input the law returns true; each argument reads behind the call as it read before'; 0 by the template 'total and deterministic' (their statements: YthdomhdippmaiaaGreatDoorTotals.lean).
  GIVEN WITH THE SEED: the statements are not yours to turn. If you find one false, say at which input.
  Laid BY PROGRAM, IN A SANDBOX (cutbox-rows.mjs): the forced cells as the released guide's own fill.sh prints them over the translation 3c5e4ce916474dd4… (all of the seat's roots in one cut). By AI agents, Wed Nov 11 2026. No macro, syntax, notation, axiom, sorry.
-/
import Derived.Test.YthdomhdippmaiaaGreatDoorChecked
import GoSem.Claim
import GoSem.ClaimJoined
import GoSem.ClaimMapViews
import Derived.JoinedTies
import Derived.KernelRfl
namespace Go.Proofs.YthdomhdippmaiaaGreatDoor
/- THE CELL 'sum', in the pinned program and in every row, IS THE sha256 OF THE DUMP (.gsa) THAT YthdomhdippmaiaaGreatDoorProg.lean LOADS. Nothing in Lean hashes anything: it is a label: what it is worth is what the hold of that sum in a sandbox is worth. -/
noncomputable def Tryz.pinned : Pinned := { name := "ythdomhdippmaiaagreatdoor", sum := "3c5e4ce916474dd43effcc9442beccbf3463af4b799e80df6b3315823b1565df", checked := Tryz.checked }
namespace Rows
def none {H : Type} : Left H := { results := [], args := [] }

/- WHAT THE LISTED PACKAGE-LEVEL VARIABLES READ AS WHEN THE CALL BEGINS. Each datum BY PROGRAM (the guide's laid-datum.mjs) off the statement by which the dump's own 'gosem.cut.vars' lays the variable. In a bare row this is a premise. The card (YthdomhdippmaiaaGreatDoorCards.lean) ties it to the program's text. -/
def laid_math_bits_deBruijn32tab {H : Type} : DataW H := .agg [.lit (.int .u8 0), .lit (.int .u8 1), .lit (.int .u8 28), .lit (.int .u8 2), .lit (.int .u8 29), .lit (.int .u8 14), .lit (.int .u8 24), .lit (.int .u8 3), .lit (.int .u8 30), .lit (.int .u8 22), .lit (.int .u8 20), .lit (.int .u8 15), .lit (.int .u8 25), .lit (.int .u8 17), .lit (.int .u8 4), .lit (.int .u8 8), .lit (.int .u8 31), .lit (.int .u8 27), .lit (.int .u8 13), .lit (.int .u8 23), .lit (.int .u8 21), .lit (.int .u8 19), .lit (.int .u8 16), .lit (.int .u8 7), .lit (.int .u8 26), .lit (.int .u8 12), .lit (.int .u8 18), .lit (.int .u8 6), .lit (.int .u8 11), .lit (.int .u8 5), .lit (.int .u8 10), .lit (.int .u8 9)]

/-- 'overlaylaw24.DispatchTicks': WHATEVER THE INPUT: true; the input reads as it did. -/
def dispatchTicksSpec : ChangeSpec := { name := "dispatchTicks", fn := fun _ => fun
  | [d] => { results := [.lit (.bool true)], args := [d] }
  | _ => none }
def dispatchTicksRow : OpenClaim := { program := "ythdomhdippmaiaagreatdoor", sum := "3c5e4ce916474dd43effcc9442beccbf3463af4b799e80df6b3315823b1565df", func := "overlay/overlaylaw24.DispatchTicks", spec := "dispatchTicks", inPlace := ["slices.overlaps[int]", "slices.overlaps[overlay/api.Entry]"], unfollowed := true, recurses := true, named := ["math/bits.deBruijn32tab"], apart := false, laid := [("math/bits.deBruijn32tab", laid_math_bits_deBruijn32tab)] }
def DispatchTicksSaid : Prop := dispatchTicksRow.holds Tryz.pinned (OpenSpec.ofChange dispatchTicksSpec)

/-- ITS FALSE NEIGHBOUR: 'it returns false'. Refute it at one input. -/
def dispatchTicksWrong : ChangeSpec := { name := "dispatchTicks", fn := fun _ => fun
  | [d] => { results := [.lit (.bool false)], args := [d] }
  | _ => none }
def DispatchTicksWrongFalsely : Prop := dispatchTicksRow.holds Tryz.pinned (OpenSpec.ofChange dispatchTicksWrong)

/-- 'overlaylaw24.DispatchCalls': WHATEVER THE INPUT: true; the input reads as it did. -/
def dispatchCallsSpec : ChangeSpec := { name := "dispatchCalls", fn := fun _ => fun
  | [d] => { results := [.lit (.bool true)], args := [d] }
  | _ => none }
def dispatchCallsRow : OpenClaim := { program := "ythdomhdippmaiaagreatdoor", sum := "3c5e4ce916474dd43effcc9442beccbf3463af4b799e80df6b3315823b1565df", func := "overlay/overlaylaw24.DispatchCalls", spec := "dispatchCalls", inPlace := ["slices.overlaps[int]", "slices.overlaps[overlay/api.Entry]"], unfollowed := true, recurses := true, named := ["math/bits.deBruijn32tab"], apart := false, laid := [("math/bits.deBruijn32tab", laid_math_bits_deBruijn32tab)] }
def DispatchCallsSaid : Prop := dispatchCallsRow.holds Tryz.pinned (OpenSpec.ofChange dispatchCallsSpec)

/-- ITS FALSE NEIGHBOUR: 'it returns false'. Refute it at one input. -/
def dispatchCallsWrong : ChangeSpec := { name := "dispatchCalls", fn := fun _ => fun
  | [d] => { results := [.lit (.bool false)], args := [d] }
  | _ => none }
def DispatchCallsWrongFalsely : Prop := dispatchCallsRow.holds Tryz.pinned (OpenSpec.ofChange dispatchCallsWrong)

/-- 'overlaylaw24.DispatchKeeps': WHATEVER THE INPUT: true; the input reads as it did. -/
def dispatchKeepsSpec : ChangeSpec := { name := "dispatchKeeps", fn := fun _ => fun
  | [d] => { results := [.lit (.bool true)], args := [d] }
  | _ => none }
def dispatchKeepsRow : OpenClaim := { program := "ythdomhdippmaiaagreatdoor", sum := "3c5e4ce916474dd43effcc9442beccbf3463af4b799e80df6b3315823b1565df", func := "overlay/overlaylaw24.DispatchKeeps", spec := "dispatchKeeps", inPlace := ["slices.overlaps[int]", "slices.overlaps[overlay/api.Entry]"], unfollowed := true, recurses := true, named := ["math/bits.deBruijn32tab"], apart := false, laid := [("math/bits.deBruijn32tab", laid_math_bits_deBruijn32tab)] }
def DispatchKeepsSaid : Prop := dispatchKeepsRow.holds Tryz.pinned (OpenSpec.ofChange dispatchKeepsSpec)

/-- ITS FALSE NEIGHBOUR: 'it returns false'. Refute it at one input. -/
def dispatchKeepsWrong : ChangeSpec := { name := "dispatchKeeps", fn := fun _ => fun
  | [d] => { results := [.lit (.bool false)], args := [d] }
  | _ => none }
def DispatchKeepsWrongFalsely : Prop := dispatchKeepsRow.holds Tryz.pinned (OpenSpec.ofChange dispatchKeepsWrong)

/-- 'overlaylaw24.DispatchBad': WHATEVER THE INPUT: true; the input reads as it did. -/
def dispatchBadSpec : ChangeSpec := { name := "dispatchBad", fn := fun _ => fun
  | [d] => { results := [.lit (.bool true)], args := [d] }
  | _ => none }
def dispatchBadRow : OpenClaim := { program := "ythdomhdippmaiaagreatdoor", sum := "3c5e4ce916474dd43effcc9442beccbf3463af4b799e80df6b3315823b1565df", func := "overlay/overlaylaw24.DispatchBad", spec := "dispatchBad", inPlace := ["slices.overlaps[int]", "slices.overlaps[overlay/api.Entry]"], unfollowed := true, recurses := true, named := ["math/bits.deBruijn32tab"], apart := false, laid := [("math/bits.deBruijn32tab", laid_math_bits_deBruijn32tab)] }
def DispatchBadSaid : Prop := dispatchBadRow.holds Tryz.pinned (OpenSpec.ofChange dispatchBadSpec)

/-- ITS FALSE NEIGHBOUR: 'it returns false'. Refute it at one input. -/
def dispatchBadWrong : ChangeSpec := { name := "dispatchBad", fn := fun _ => fun
  | [d] => { results := [.lit (.bool false)], args := [d] }
  | _ => none }
def DispatchBadWrongFalsely : Prop := dispatchBadRow.holds Tryz.pinned (OpenSpec.ofChange dispatchBadWrong)

/-- 'overlaylaw24.DispatchReplays': WHATEVER THE INPUT: true; the input reads as it did. -/
def dispatchReplaysSpec : ChangeSpec := { name := "dispatchReplays", fn := fun _ => fun
  | [d1, d2] => { results := [.lit (.bool true)], args := [d1, d2] }
  | _ => none }
def dispatchReplaysRow : OpenClaim := { program := "ythdomhdippmaiaagreatdoor", sum := "3c5e4ce916474dd43effcc9442beccbf3463af4b799e80df6b3315823b1565df", func := "overlay/overlaylaw24.DispatchReplays", spec := "dispatchReplays", inPlace := ["slices.overlaps[int]", "slices.overlaps[overlay/api.Entry]"], unfollowed := true, recurses := true, named := ["math/bits.deBruijn32tab"], apart := false, laid := [("math/bits.deBruijn32tab", laid_math_bits_deBruijn32tab)] }
def DispatchReplaysSaid : Prop := dispatchReplaysRow.holds Tryz.pinned (OpenSpec.ofChange dispatchReplaysSpec)

/-- ITS FALSE NEIGHBOUR: 'it returns false'. Refute it at one input. -/
def dispatchReplaysWrong : ChangeSpec := { name := "dispatchReplays", fn := fun _ => fun
  | [d1, d2] => { results := [.lit (.bool false)], args := [d1, d2] }
  | _ => none }
def DispatchReplaysWrongFalsely : Prop := dispatchReplaysRow.holds Tryz.pinned (OpenSpec.ofChange dispatchReplaysWrong)

/- THE SECOND FORM. 'bulk': how many values and letters a reading holds, each counted each time it is reached (what is shared counts as often as it is met; a slice's spare places count too). A statement '..UptoSaid' is the law's where the arguments, and the package variables that the reading takes, are together of bulk at most 1048576: NARROWER than '..Said'. Prove '..Said' where nothing that the law and all that it calls make is longer than what came in: it says more and counts as full. Else prove '..UptoSaid'. A law counts once. -/
mutual
def uptoBulk {H : Type} : DataW H → Nat
  | .lit (.string bytes) => bytes.length + 1
  | .lit _ => 1
  | .nil => 1
  | .ptr d => uptoBulk d + 1
  | .slice elems spare => uptoBulkAll elems + uptoBulkAll spare + 1
  | .agg parts => uptoBulkAll parts + 1
  | .iface _ d => uptoBulk d + 1
  | .map entries => uptoBulkEntries entries + 1
  | .held _ => 1
def uptoBulkAll {H : Type} : List (DataW H) → Nat
  | [] => 0
  | d :: r => uptoBulk d + uptoBulkAll r
def uptoBulkEntries {H : Type} : List (Lit × DataW H) → Nat
  | [] => 0
  | x :: r => uptoBulkEntry x + uptoBulkEntries r
def uptoBulkEntry {H : Type} : Lit × DataW H → Nat
  | (.string bytes, d) => bytes.length + uptoBulk d + 1
  | (_, d) => uptoBulk d + 1
 end
def uptoSmall : (H : Type) → List (DataW H) → Bool := fun _ ds => decide (uptoBulkAll ds ≤ 1048576)
def OpenSpec.upto (s : _root_.Go.ChangeSpec) : _root_.Go.OpenSpec := { _root_.Go.OpenSpec.ofChange s with cond := some uptoSmall }

/-- 'overlaylaw24.DispatchTicks', WHERE WHAT IT READS IS OF BULK AT MOST 1048576: true; the input reads as it did. -/
def dispatchTicksUptoRow : OpenClaim := { program := "ythdomhdippmaiaagreatdoor", sum := "3c5e4ce916474dd43effcc9442beccbf3463af4b799e80df6b3315823b1565df", func := "overlay/overlaylaw24.DispatchTicks", spec := "dispatchTicks", inPlace := ["slices.overlaps[int]", "slices.overlaps[overlay/api.Entry]"], unfollowed := true, recurses := true, named := ["math/bits.deBruijn32tab"], apart := false, laid := [("math/bits.deBruijn32tab", laid_math_bits_deBruijn32tab)], narrowed := true }
def DispatchTicksUptoSaid : Prop := dispatchTicksUptoRow.holds Tryz.pinned (OpenSpec.upto dispatchTicksSpec)

/-- 'overlaylaw24.DispatchCalls', WHERE WHAT IT READS IS OF BULK AT MOST 1048576: true; the input reads as it did. -/
def dispatchCallsUptoRow : OpenClaim := { program := "ythdomhdippmaiaagreatdoor", sum := "3c5e4ce916474dd43effcc9442beccbf3463af4b799e80df6b3315823b1565df", func := "overlay/overlaylaw24.DispatchCalls", spec := "dispatchCalls", inPlace := ["slices.overlaps[int]", "slices.overlaps[overlay/api.Entry]"], unfollowed := true, recurses := true, named := ["math/bits.deBruijn32tab"], apart := false, laid := [("math/bits.deBruijn32tab", laid_math_bits_deBruijn32tab)], narrowed := true }
def DispatchCallsUptoSaid : Prop := dispatchCallsUptoRow.holds Tryz.pinned (OpenSpec.upto dispatchCallsSpec)

/-- 'overlaylaw24.DispatchKeeps', WHERE WHAT IT READS IS OF BULK AT MOST 1048576: true; the input reads as it did. -/
def dispatchKeepsUptoRow : OpenClaim := { program := "ythdomhdippmaiaagreatdoor", sum := "3c5e4ce916474dd43effcc9442beccbf3463af4b799e80df6b3315823b1565df", func := "overlay/overlaylaw24.DispatchKeeps", spec := "dispatchKeeps", inPlace := ["slices.overlaps[int]", "slices.overlaps[overlay/api.Entry]"], unfollowed := true, recurses := true, named := ["math/bits.deBruijn32tab"], apart := false, laid := [("math/bits.deBruijn32tab", laid_math_bits_deBruijn32tab)], narrowed := true }
def DispatchKeepsUptoSaid : Prop := dispatchKeepsUptoRow.holds Tryz.pinned (OpenSpec.upto dispatchKeepsSpec)

/-- 'overlaylaw24.DispatchBad', WHERE WHAT IT READS IS OF BULK AT MOST 1048576: true; the input reads as it did. -/
def dispatchBadUptoRow : OpenClaim := { program := "ythdomhdippmaiaagreatdoor", sum := "3c5e4ce916474dd43effcc9442beccbf3463af4b799e80df6b3315823b1565df", func := "overlay/overlaylaw24.DispatchBad", spec := "dispatchBad", inPlace := ["slices.overlaps[int]", "slices.overlaps[overlay/api.Entry]"], unfollowed := true, recurses := true, named := ["math/bits.deBruijn32tab"], apart := false, laid := [("math/bits.deBruijn32tab", laid_math_bits_deBruijn32tab)], narrowed := true }
def DispatchBadUptoSaid : Prop := dispatchBadUptoRow.holds Tryz.pinned (OpenSpec.upto dispatchBadSpec)

/-- 'overlaylaw24.DispatchReplays', WHERE WHAT IT READS IS OF BULK AT MOST 1048576: true; the input reads as it did. -/
def dispatchReplaysUptoRow : OpenClaim := { program := "ythdomhdippmaiaagreatdoor", sum := "3c5e4ce916474dd43effcc9442beccbf3463af4b799e80df6b3315823b1565df", func := "overlay/overlaylaw24.DispatchReplays", spec := "dispatchReplays", inPlace := ["slices.overlaps[int]", "slices.overlaps[overlay/api.Entry]"], unfollowed := true, recurses := true, named := ["math/bits.deBruijn32tab"], apart := false, laid := [("math/bits.deBruijn32tab", laid_math_bits_deBruijn32tab)], narrowed := true }
def DispatchReplaysUptoSaid : Prop := dispatchReplaysUptoRow.holds Tryz.pinned (OpenSpec.upto dispatchReplaysSpec)

end Rows
end Go.Proofs.YthdomhdippmaiaaGreatDoor
