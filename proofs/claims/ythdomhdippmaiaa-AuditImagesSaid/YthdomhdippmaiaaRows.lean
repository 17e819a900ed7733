/-
  No cell of these rows narrows 'for every input' (looked for: loops, veiled, ifaces, maps, wideKeys, modest, calm, conditions, laid).
  DERIVED. THE GIVEN ROWS OF THIS SEAT. 5 by the template 'for every input the law returns true; each argument reads behind the call as it read before'; 0 by the template 'total and deterministic' (their statements: YthdomhdippmaiaaTotals.lean).
  GIVEN WITH THE SEED: the statements are not yours to turn. If you find one false, say at which input.
  Laid BY PROGRAM, IN A SANDBOX (cutbox-rows.mjs): the forced cells as the released guide's own fill.sh prints them over the translation 992520cb1cca7690… (all of the seat's roots in one cut). By AI agents, Wed Nov 11 2026. No macro, syntax, notation, axiom, sorry.
-/
import Derived.Test.YthdomhdippmaiaaChecked
import GoSem.Claim
import GoSem.ClaimJoined
import GoSem.ClaimMapViews
import Derived.JoinedTies
import Derived.KernelRfl
namespace Go.Proofs.Ythdomhdippmaiaa
/- THE CELL 'sum', in the pinned program and in every row, IS THE sha256 OF THE DUMP (.gsa) THAT YthdomhdippmaiaaProg.lean LOADS. Nothing in Lean hashes anything: it is a label: what it is worth is what the hold of that sum in a sandbox is worth. -/
noncomputable def Try.pinned : Pinned := { name := "ythdomhdippmaiaa", sum := "992520cb1cca76909559389664a7ef521c3fb7ec5d2bdffdb581cdab682f6989", checked := Try.checked }
namespace Rows
def none {H : Type} : Left H := { results := [], args := [] }

/-- 'overlaylaw30.AuditImages': WHATEVER THE INPUT: true; the input reads as it did. -/
def auditImagesSpec : ChangeSpec := { name := "auditImages", fn := fun _ => fun
  | [d1, d2, d3] => { results := [.lit (.bool true)], args := [d1, d2, d3] }
  | _ => none }
def auditImagesRow : OpenClaim := { program := "ythdomhdippmaiaa", sum := "992520cb1cca76909559389664a7ef521c3fb7ec5d2bdffdb581cdab682f6989", func := "overlay/overlaylaw30.AuditImages", spec := "auditImages", inPlace := ["slices.overlaps[overlay/api.Entry]"], unfollowed := true, recurses := true, apart := false }
def AuditImagesSaid : Prop := auditImagesRow.holds Try.pinned (OpenSpec.ofChange auditImagesSpec)

/-- ITS FALSE NEIGHBOUR: 'it returns false'. Refute it at one input. -/
def auditImagesWrong : ChangeSpec := { name := "auditImages", fn := fun _ => fun
  | [d1, d2, d3] => { results := [.lit (.bool false)], args := [d1, d2, d3] }
  | _ => none }
def AuditImagesWrongFalsely : Prop := auditImagesRow.holds Try.pinned (OpenSpec.ofChange auditImagesWrong)

/-- 'overlaylaw10.LogActs': WHATEVER THE INPUT: true; the input reads as it did. -/
def logActsSpec : ChangeSpec := { name := "logActs", fn := fun _ => fun
  | [d1, d2, d3] => { results := [.lit (.bool true)], args := [d1, d2, d3] }
  | _ => none }
def logActsRow : OpenClaim := { program := "ythdomhdippmaiaa", sum := "992520cb1cca76909559389664a7ef521c3fb7ec5d2bdffdb581cdab682f6989", func := "overlay/overlaylaw10.LogActs", spec := "logActs", inPlace := ["slices.overlaps[overlay/api.Entry]", "internal/abi.NoEscape"], unfollowed := true, recurses := true, apart := false }
def LogActsSaid : Prop := logActsRow.holds Try.pinned (OpenSpec.ofChange logActsSpec)

/-- ITS FALSE NEIGHBOUR: 'it returns false'. Refute it at one input. -/
def logActsWrong : ChangeSpec := { name := "logActs", fn := fun _ => fun
  | [d1, d2, d3] => { results := [.lit (.bool false)], args := [d1, d2, d3] }
  | _ => none }
def LogActsWrongFalsely : Prop := logActsRow.holds Try.pinned (OpenSpec.ofChange logActsWrong)

/-- 'overlaylaw10.LogSurvives': WHATEVER THE INPUT: true; the input reads as it did. -/
def logSurvivesSpec : ChangeSpec := { name := "logSurvives", fn := fun _ => fun
  | [d1, d2, d3] => { results := [.lit (.bool true)], args := [d1, d2, d3] }
  | _ => none }
def logSurvivesRow : OpenClaim := { program := "ythdomhdippmaiaa", sum := "992520cb1cca76909559389664a7ef521c3fb7ec5d2bdffdb581cdab682f6989", func := "overlay/overlaylaw10.LogSurvives", spec := "logSurvives", inPlace := ["slices.overlaps[overlay/api.Entry]", "internal/abi.NoEscape"], unfollowed := true, recurses := true, apart := false }
def LogSurvivesSaid : Prop := logSurvivesRow.holds Try.pinned (OpenSpec.ofChange logSurvivesSpec)

/-- ITS FALSE NEIGHBOUR: 'it returns false'. Refute it at one input. -/
def logSurvivesWrong : ChangeSpec := { name := "logSurvives", fn := fun _ => fun
  | [d1, d2, d3] => { results := [.lit (.bool false)], args := [d1, d2, d3] }
  | _ => none }
def LogSurvivesWrongFalsely : Prop := logSurvivesRow.holds Try.pinned (OpenSpec.ofChange logSurvivesWrong)

/-- 'overlaylaw26.RestartForgets': WHATEVER THE INPUT: true; the input reads as it did. -/
def restartForgetsSpec : ChangeSpec := { name := "restartForgets", fn := fun _ => fun
  | [d1, d2] => { results := [.lit (.bool true)], args := [d1, d2] }
  | _ => none }
def restartForgetsRow : OpenClaim := { program := "ythdomhdippmaiaa", sum := "992520cb1cca76909559389664a7ef521c3fb7ec5d2bdffdb581cdab682f6989", func := "overlay/overlaylaw26.RestartForgets", spec := "restartForgets", inPlace := ["slices.overlaps[overlay/api.Entry]", "internal/abi.NoEscape"], unfollowed := true, recurses := true, apart := false }
def RestartForgetsSaid : Prop := restartForgetsRow.holds Try.pinned (OpenSpec.ofChange restartForgetsSpec)

/-- ITS FALSE NEIGHBOUR: 'it returns false'. Refute it at one input. -/
def restartForgetsWrong : ChangeSpec := { name := "restartForgets", fn := fun _ => fun
  | [d1, d2] => { results := [.lit (.bool false)], args := [d1, d2] }
  | _ => none }
def RestartForgetsWrongFalsely : Prop := restartForgetsRow.holds Try.pinned (OpenSpec.ofChange restartForgetsWrong)

/-- 'overlaylaw26.RestartAgain': WHATEVER THE INPUT: true; the input reads as it did. -/
def restartAgainSpec : ChangeSpec := { name := "restartAgain", fn := fun _ => fun
  | [d1, d2] => { results := [.lit (.bool true)], args := [d1, d2] }
  | _ => none }
def restartAgainRow : OpenClaim := { program := "ythdomhdippmaiaa", sum := "992520cb1cca76909559389664a7ef521c3fb7ec5d2bdffdb581cdab682f6989", func := "overlay/overlaylaw26.RestartAgain", spec := "restartAgain", inPlace := ["slices.overlaps[overlay/api.Entry]", "internal/abi.NoEscape"], unfollowed := true, recurses := true, apart := false }
def RestartAgainSaid : Prop := restartAgainRow.holds Try.pinned (OpenSpec.ofChange restartAgainSpec)

/-- ITS FALSE NEIGHBOUR: 'it returns false'. Refute it at one input. -/
def restartAgainWrong : ChangeSpec := { name := "restartAgain", fn := fun _ => fun
  | [d1, d2] => { results := [.lit (.bool false)], args := [d1, d2] }
  | _ => none }
def RestartAgainWrongFalsely : Prop := restartAgainRow.holds Try.pinned (OpenSpec.ofChange restartAgainWrong)

/- THE SECOND FORM. 'bulk': how many values and letters a reading holds, each counted each time it is reached (what is shared counts as often as it is met; a slice's spare places count too). A statement '..UptoSaid' is the law's where the arguments, and the package variables that the reading takes, are together of bulk at most 1048576: NARROWER than '..Said'. Prove '..Said' where nothing that the law and all that it calls make is longer than what came in: it says more and counts as full. Else prove '..UptoSaid'. A law counts once. -/
mutual
def uptoBulk {H : Type} : DataW H → Nat
  | .lit (.string bytes) => bytes.length + 1
  | .lit _ => 1
  | .nil => 1
  | .ptr d => uptoBulk d + 1
  | .slice elems spare => uptoBulkAll elems + uptoBulkAll spare + 1
  | .agg parts => uptoBulkAll parts + 1
  | .iface _ d => uptoBulk d + 1
  | .map entries => uptoBulkEntries entries + 1
  | .held _ => 1
def uptoBulkAll {H : Type} : List (DataW H) → Nat
  | [] => 0
  | d :: r => uptoBulk d + uptoBulkAll r
def uptoBulkEntries {H : Type} : List (Lit × DataW H) → Nat
  | [] => 0
  | x :: r => uptoBulkEntry x + uptoBulkEntries r
def uptoBulkEntry {H : Type} : Lit × DataW H → Nat
  | (.string bytes, d) => bytes.length + uptoBulk d + 1
  | (_, d) => uptoBulk d + 1
 end
def uptoSmall : (H : Type) → List (DataW H) → Bool := fun _ ds => decide (uptoBulkAll ds ≤ 1048576)
def OpenSpec.upto (s : _root_.Go.ChangeSpec) : _root_.Go.OpenSpec := { _root_.Go.OpenSpec.ofChange s with cond := some uptoSmall }

/-- 'overlaylaw30.AuditImages', WHERE WHAT IT READS IS OF BULK AT MOST 1048576: true; the input reads as it did. -/
def auditImagesUptoRow : OpenClaim := { program := "ythdomhdippmaiaa", sum := "992520cb1cca76909559389664a7ef521c3fb7ec5d2bdffdb581cdab682f6989", func := "overlay/overlaylaw30.AuditImages", spec := "auditImages", inPlace := ["slices.overlaps[overlay/api.Entry]"], unfollowed := true, recurses := true, apart := false, narrowed := true }
def AuditImagesUptoSaid : Prop := auditImagesUptoRow.holds Try.pinned (OpenSpec.upto auditImagesSpec)

/-- 'overlaylaw10.LogActs', WHERE WHAT IT READS IS OF BULK AT MOST 1048576: true; the input reads as it did. -/
def logActsUptoRow : OpenClaim := { program := "ythdomhdippmaiaa", sum := "992520cb1cca76909559389664a7ef521c3fb7ec5d2bdffdb581cdab682f6989", func := "overlay/overlaylaw10.LogActs", spec := "logActs", inPlace := ["slices.overlaps[overlay/api.Entry]", "internal/abi.NoEscape"], unfollowed := true, recurses := true, apart := false, narrowed := true }
def LogActsUptoSaid : Prop := logActsUptoRow.holds Try.pinned (OpenSpec.upto logActsSpec)

/-- 'overlaylaw10.LogSurvives', WHERE WHAT IT READS IS OF BULK AT MOST 1048576: true; the input reads as it did. -/
def logSurvivesUptoRow : OpenClaim := { program := "ythdomhdippmaiaa", sum := "992520cb1cca76909559389664a7ef521c3fb7ec5d2bdffdb581cdab682f6989", func := "overlay/overlaylaw10.LogSurvives", spec := "logSurvives", inPlace := ["slices.overlaps[overlay/api.Entry]", "internal/abi.NoEscape"], unfollowed := true, recurses := true, apart := false, narrowed := true }
def LogSurvivesUptoSaid : Prop := logSurvivesUptoRow.holds Try.pinned (OpenSpec.upto logSurvivesSpec)

/-- 'overlaylaw26.RestartForgets', WHERE WHAT IT READS IS OF BULK AT MOST 1048576: true; the input reads as it did. -/
def restartForgetsUptoRow : OpenClaim := { program := "ythdomhdippmaiaa", sum := "992520cb1cca76909559389664a7ef521c3fb7ec5d2bdffdb581cdab682f6989", func := "overlay/overlaylaw26.RestartForgets", spec := "restartForgets", inPlace := ["slices.overlaps[overlay/api.Entry]", "internal/abi.NoEscape"], unfollowed := true, recurses := true, apart := false, narrowed := true }
def RestartForgetsUptoSaid : Prop := restartForgetsUptoRow.holds Try.pinned (OpenSpec.upto restartForgetsSpec)

/-- 'overlaylaw26.RestartAgain', WHERE WHAT IT READS IS OF BULK AT MOST 1048576: true; the input reads as it did. -/
def restartAgainUptoRow : OpenClaim := { program := "ythdomhdippmaiaa", sum := "992520cb1cca76909559389664a7ef521c3fb7ec5d2bdffdb581cdab682f6989", func := "overlay/overlaylaw26.RestartAgain", spec := "restartAgain", inPlace := ["slices.overlaps[overlay/api.Entry]", "internal/abi.NoEscape"], unfollowed := true, recurses := true, apart := false, narrowed := true }
def RestartAgainUptoSaid : Prop := restartAgainUptoRow.holds Try.pinned (OpenSpec.upto restartAgainSpec)

end Rows
end Go.Proofs.Ythdomhdippmaiaa
