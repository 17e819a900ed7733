/-
  No cell of these rows narrows 'for every input' (looked for: loops, veiled, ifaces, maps, wideKeys, modest, calm, conditions, laid).
  DERIVED. THE GIVEN ROWS OF THIS SEAT. 5 by the template 'for every input the law returns true; each argument reads behind the call as it read before'; 0 by the template 'total and deterministic' (their statements: YticbfghinhhgiaaTotals.lean).
  GIVEN WITH THE SEED: the statements are not yours to turn. If you find one false, say at which input.
  Laid BY PROGRAM, IN A SANDBOX (cutbox-rows.mjs): the forced cells as the released guide's own fill.sh prints them over the translation cc0fac101f4f3732… (all of the seat's roots in one cut). By AI agents, Wed Nov 11 2026. No macro, syntax, notation, axiom, sorry.
-/
import Derived.Test.YticbfghinhhgiaaChecked
import GoSem.Claim
import GoSem.ClaimJoined
import GoSem.ClaimMapViews
import Derived.JoinedTies
import Derived.KernelRfl
namespace Go.Proofs.Yticbfghinhhgiaa
/- THE CELL 'sum', in the pinned program and in every row, IS THE sha256 OF THE DUMP (.gsa) THAT YticbfghinhhgiaaProg.lean LOADS. Nothing in Lean hashes anything: it is a label: what it is worth is what the hold of that sum in a sandbox is worth. -/
noncomputable def Try.pinned : Pinned := { name := "yticbfghinhhgiaa", sum := "cc0fac101f4f37325b80dd2686c2217dc0c36f726c7adaba4c0d8e09ad684460", checked := Try.checked }
namespace Rows
def none {H : Type} : Left H := { results := [], args := [] }

/-- 'overlaylaw10.LogApplies': WHATEVER THE INPUT: true; the input reads as it did. -/
def logAppliesSpec : ChangeSpec := { name := "logApplies", fn := fun _ => fun
  | [d1, d2, d3] => { results := [.lit (.bool true)], args := [d1, d2, d3] }
  | _ => none }
def logAppliesRow : OpenClaim := { program := "yticbfghinhhgiaa", sum := "cc0fac101f4f37325b80dd2686c2217dc0c36f726c7adaba4c0d8e09ad684460", func := "overlay/overlaylaw10.LogApplies", spec := "logApplies", inPlace := ["slices.overlaps[overlay/api.Entry]", "internal/abi.NoEscape"], unfollowed := true, recurses := true, apart := false }
def LogAppliesSaid : Prop := logAppliesRow.holds Try.pinned (OpenSpec.ofChange logAppliesSpec)

/-- ITS FALSE NEIGHBOUR: 'it returns false'. Refute it at one input. -/
def logAppliesWrong : ChangeSpec := { name := "logApplies", fn := fun _ => fun
  | [d1, d2, d3] => { results := [.lit (.bool false)], args := [d1, d2, d3] }
  | _ => none }
def LogAppliesWrongFalsely : Prop := logAppliesRow.holds Try.pinned (OpenSpec.ofChange logAppliesWrong)

/-- 'overlaylaw10.LogSnapshots': WHATEVER THE INPUT: true; the input reads as it did. -/
def logSnapshotsSpec : ChangeSpec := { name := "logSnapshots", fn := fun _ => fun
  | [d1, d2] => { results := [.lit (.bool true)], args := [d1, d2] }
  | _ => none }
def logSnapshotsRow : OpenClaim := { program := "yticbfghinhhgiaa", sum := "cc0fac101f4f37325b80dd2686c2217dc0c36f726c7adaba4c0d8e09ad684460", func := "overlay/overlaylaw10.LogSnapshots", spec := "logSnapshots", inPlace := ["slices.overlaps[overlay/api.Entry]", "internal/abi.NoEscape"], unfollowed := true, recurses := true, apart := false }
def LogSnapshotsSaid : Prop := logSnapshotsRow.holds Try.pinned (OpenSpec.ofChange logSnapshotsSpec)

/-- ITS FALSE NEIGHBOUR: 'it returns false'. Refute it at one input. -/
def logSnapshotsWrong : ChangeSpec := { name := "logSnapshots", fn := fun _ => fun
  | [d1, d2] => { results := [.lit (.bool false)], args := [d1, d2] }
  | _ => none }
def LogSnapshotsWrongFalsely : Prop := logSnapshotsRow.holds Try.pinned (OpenSpec.ofChange logSnapshotsWrong)

/-- 'overlaylaw10.LogKeeps': WHATEVER THE INPUT: true; the input reads as it did. -/
def logKeepsSpec : ChangeSpec := { name := "logKeeps", fn := fun _ => fun
  | [d1, d2, d3] => { results := [.lit (.bool true)], args := [d1, d2, d3] }
  | _ => none }
def logKeepsRow : OpenClaim := { program := "yticbfghinhhgiaa", sum := "cc0fac101f4f37325b80dd2686c2217dc0c36f726c7adaba4c0d8e09ad684460", func := "overlay/overlaylaw10.LogKeeps", spec := "logKeeps", inPlace := ["slices.overlaps[overlay/api.Entry]", "internal/abi.NoEscape"], unfollowed := true, recurses := true, apart := false }
def LogKeepsSaid : Prop := logKeepsRow.holds Try.pinned (OpenSpec.ofChange logKeepsSpec)

/-- ITS FALSE NEIGHBOUR: 'it returns false'. Refute it at one input. -/
def logKeepsWrong : ChangeSpec := { name := "logKeeps", fn := fun _ => fun
  | [d1, d2, d3] => { results := [.lit (.bool false)], args := [d1, d2, d3] }
  | _ => none }
def LogKeepsWrongFalsely : Prop := logKeepsRow.holds Try.pinned (OpenSpec.ofChange logKeepsWrong)

/-- 'overlaylaw10.LogUnits': WHATEVER THE INPUT: true; the input reads as it did. -/
def logUnitsSpec : ChangeSpec := { name := "logUnits", fn := fun _ => fun
  | [d1, d2] => { results := [.lit (.bool true)], args := [d1, d2] }
  | _ => none }
def logUnitsRow : OpenClaim := { program := "yticbfghinhhgiaa", sum := "cc0fac101f4f37325b80dd2686c2217dc0c36f726c7adaba4c0d8e09ad684460", func := "overlay/overlaylaw10.LogUnits", spec := "logUnits", inPlace := ["slices.overlaps[overlay/api.Entry]", "internal/abi.NoEscape"], unfollowed := true, recurses := true, apart := false }
def LogUnitsSaid : Prop := logUnitsRow.holds Try.pinned (OpenSpec.ofChange logUnitsSpec)

/-- ITS FALSE NEIGHBOUR: 'it returns false'. Refute it at one input. -/
def logUnitsWrong : ChangeSpec := { name := "logUnits", fn := fun _ => fun
  | [d1, d2] => { results := [.lit (.bool false)], args := [d1, d2] }
  | _ => none }
def LogUnitsWrongFalsely : Prop := logUnitsRow.holds Try.pinned (OpenSpec.ofChange logUnitsWrong)

/-- 'overlaylaw10.LogCalls': WHATEVER THE INPUT: true; the input reads as it did. -/
def logCallsSpec : ChangeSpec := { name := "logCalls", fn := fun _ => fun
  | [d1, d2] => { results := [.lit (.bool true)], args := [d1, d2] }
  | _ => none }
def logCallsRow : OpenClaim := { program := "yticbfghinhhgiaa", sum := "cc0fac101f4f37325b80dd2686c2217dc0c36f726c7adaba4c0d8e09ad684460", func := "overlay/overlaylaw10.LogCalls", spec := "logCalls", inPlace := ["slices.overlaps[overlay/api.Entry]", "internal/abi.NoEscape"], unfollowed := true, recurses := true, apart := false }
def LogCallsSaid : Prop := logCallsRow.holds Try.pinned (OpenSpec.ofChange logCallsSpec)

/-- ITS FALSE NEIGHBOUR: 'it returns false'. Refute it at one input. -/
def logCallsWrong : ChangeSpec := { name := "logCalls", fn := fun _ => fun
  | [d1, d2] => { results := [.lit (.bool false)], args := [d1, d2] }
  | _ => none }
def LogCallsWrongFalsely : Prop := logCallsRow.holds Try.pinned (OpenSpec.ofChange logCallsWrong)

/- THE SECOND FORM. 'bulk': how many values and letters a reading holds, each counted each time it is reached (what is shared counts as often as it is met; a slice's spare places count too). A statement '..UptoSaid' is the law's where the arguments, and the package variables that the reading takes, are together of bulk at most 1048576: NARROWER than '..Said'. Prove '..Said' where nothing that the law and all that it calls make is longer than what came in: it says more and counts as full. Else prove '..UptoSaid'. A law counts once. -/
mutual
def uptoBulk {H : Type} : DataW H → Nat
  | .lit (.string bytes) => bytes.length + 1
  | .lit _ => 1
  | .nil => 1
  | .ptr d => uptoBulk d + 1
  | .slice elems spare => uptoBulkAll elems + uptoBulkAll spare + 1
  | .agg parts => uptoBulkAll parts + 1
  | .iface _ d => uptoBulk d + 1
  | .map entries => uptoBulkEntries entries + 1
  | .held _ => 1
def uptoBulkAll {H : Type} : List (DataW H) → Nat
  | [] => 0
  | d :: r => uptoBulk d + uptoBulkAll r
def uptoBulkEntries {H : Type} : List (Lit × DataW H) → Nat
  | [] => 0
  | x :: r => uptoBulkEntry x + uptoBulkEntries r
def uptoBulkEntry {H : Type} : Lit × DataW H → Nat
  | (.string bytes, d) => bytes.length + uptoBulk d + 1
  | (_, d) => uptoBulk d + 1
 end
def uptoSmall : (H : Type) → List (DataW H) → Bool := fun _ ds => decide (uptoBulkAll ds ≤ 1048576)
def OpenSpec.upto (s : _root_.Go.ChangeSpec) : _root_.Go.OpenSpec := { _root_.Go.OpenSpec.ofChange s with cond := some uptoSmall }

/-- 'overlaylaw10.LogApplies', WHERE WHAT IT READS IS OF BULK AT MOST 1048576: true; the input reads as it did. -/
def logAppliesUptoRow : OpenClaim := { program := "yticbfghinhhgiaa", sum := "cc0fac101f4f37325b80dd2686c2217dc0c36f726c7adaba4c0d8e09ad684460", func := "overlay/overlaylaw10.LogApplies", spec := "logApplies", inPlace := ["slices.overlaps[overlay/api.Entry]", "internal/abi.NoEscape"], unfollowed := true, recurses := true, apart := false, narrowed := true }
def LogAppliesUptoSaid : Prop := logAppliesUptoRow.holds Try.pinned (OpenSpec.upto logAppliesSpec)

/-- 'overlaylaw10.LogSnapshots', WHERE WHAT IT READS IS OF BULK AT MOST 1048576: true; the input reads as it did. -/
def logSnapshotsUptoRow : OpenClaim := { program := "yticbfghinhhgiaa", sum := "cc0fac101f4f37325b80dd2686c2217dc0c36f726c7adaba4c0d8e09ad684460", func := "overlay/overlaylaw10.LogSnapshots", spec := "logSnapshots", inPlace := ["slices.overlaps[overlay/api.Entry]", "internal/abi.NoEscape"], unfollowed := true, recurses := true, apart := false, narrowed := true }
def LogSnapshotsUptoSaid : Prop := logSnapshotsUptoRow.holds Try.pinned (OpenSpec.upto logSnapshotsSpec)

/-- 'overlaylaw10.LogKeeps', WHERE WHAT IT READS IS OF BULK AT MOST 1048576: true; the input reads as it did. -/
def logKeepsUptoRow : OpenClaim := { program := "yticbfghinhhgiaa", sum := "cc0fac101f4f37325b80dd2686c2217dc0c36f726c7adaba4c0d8e09ad684460", func := "overlay/overlaylaw10.LogKeeps", spec := "logKeeps", inPlace := ["slices.overlaps[overlay/api.Entry]", "internal/abi.NoEscape"], unfollowed := true, recurses := true, apart := false, narrowed := true }
def LogKeepsUptoSaid : Prop := logKeepsUptoRow.holds Try.pinned (OpenSpec.upto logKeepsSpec)

/-- 'overlaylaw10.LogUnits', WHERE WHAT IT READS IS OF BULK AT MOST 1048576: true; the input reads as it did. -/
def logUnitsUptoRow : OpenClaim := { program := "yticbfghinhhgiaa", sum := "cc0fac101f4f37325b80dd2686c2217dc0c36f726c7adaba4c0d8e09ad684460", func := "overlay/overlaylaw10.LogUnits", spec := "logUnits", inPlace := ["slices.overlaps[overlay/api.Entry]", "internal/abi.NoEscape"], unfollowed := true, recurses := true, apart := false, narrowed := true }
def LogUnitsUptoSaid : Prop := logUnitsUptoRow.holds Try.pinned (OpenSpec.upto logUnitsSpec)

/-- 'overlaylaw10.LogCalls', WHERE WHAT IT READS IS OF BULK AT MOST 1048576: true; the input reads as it did. -/
def logCallsUptoRow : OpenClaim := { program := "yticbfghinhhgiaa", sum := "cc0fac101f4f37325b80dd2686c2217dc0c36f726c7adaba4c0d8e09ad684460", func := "overlay/overlaylaw10.LogCalls", spec := "logCalls", inPlace := ["slices.overlaps[overlay/api.Entry]", "internal/abi.NoEscape"], unfollowed := true, recurses := true, apart := false, narrowed := true }
def LogCallsUptoSaid : Prop := logCallsUptoRow.holds Try.pinned (OpenSpec.upto logCallsSpec)

end Rows
end Go.Proofs.Yticbfghinhhgiaa
