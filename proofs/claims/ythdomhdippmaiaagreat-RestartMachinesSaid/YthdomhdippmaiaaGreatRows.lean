/-
  No cell of these rows narrows 'for every input' (looked for: loops, veiled, ifaces, maps, wideKeys, modest, calm, conditions, laid).
  DERIVED. THE GIVEN ROWS OF THIS SEAT. 3 by the template 'for every input the law returns true; each argument reads behind the call as it read before'; 0 by the template 'total and deterministic' (their statements: YthdomhdippmaiaaGreatTotals.lean).
  GIVEN WITH THE SEED: the statements are not yours to turn. If you find one false, say at which input.
  Laid BY PROGRAM, IN A SANDBOX (cutbox-rows.mjs): the forced cells as the released guide's own fill.sh prints them over the translation 48b1960fa3692058… (all of the seat's roots in one cut). By AI agents, Wed Nov 11 2026. No macro, syntax, notation, axiom, sorry.
-/
import Derived.Test.YthdomhdippmaiaaGreatChecked
import GoSem.Claim
import GoSem.ClaimJoined
import GoSem.ClaimMapViews
import Derived.JoinedTies
import Derived.KernelRfl
namespace Go.Proofs.YthdomhdippmaiaaGreat
/- THE CELL 'sum', in the pinned program and in every row, IS THE sha256 OF THE DUMP (.gsa) THAT YthdomhdippmaiaaGreatProg.lean LOADS. Nothing in Lean hashes anything: it is a label: what it is worth is what the hold of that sum in a sandbox is worth. -/
noncomputable def Tryz.pinned : Pinned := { name := "ythdomhdippmaiaagreat", sum := "48b1960fa3692058c1d43c6eeb819fa4c477a5e463711d994104396982507395", checked := Tryz.checked }
namespace Rows
def none {H : Type} : Left H := { results := [], args := [] }

/-- 'overlaylaw26.RestartBoots': WHATEVER THE INPUT: true; the input reads as it did. -/
def restartBootsSpec : ChangeSpec := { name := "restartBoots", fn := fun _ => fun
  | [d1, d2, d3] => { results := [.lit (.bool true)], args := [d1, d2, d3] }
  | _ => none }
def restartBootsRow : OpenClaim := { program := "ythdomhdippmaiaagreat", sum := "48b1960fa3692058c1d43c6eeb819fa4c477a5e463711d994104396982507395", func := "overlay/overlaylaw26.RestartBoots", spec := "restartBoots", inPlace := ["slices.overlaps[overlay/api.Entry]", "internal/abi.NoEscape"], unfollowed := true, recurses := true, apart := false }
def RestartBootsSaid : Prop := restartBootsRow.holds Tryz.pinned (OpenSpec.ofChange restartBootsSpec)

/-- ITS FALSE NEIGHBOUR: 'it returns false'. Refute it at one input. -/
def restartBootsWrong : ChangeSpec := { name := "restartBoots", fn := fun _ => fun
  | [d1, d2, d3] => { results := [.lit (.bool false)], args := [d1, d2, d3] }
  | _ => none }
def RestartBootsWrongFalsely : Prop := restartBootsRow.holds Tryz.pinned (OpenSpec.ofChange restartBootsWrong)

/-- 'overlaylaw26.RestartMachines': WHATEVER THE INPUT: true; the input reads as it did. -/
def restartMachinesSpec : ChangeSpec := { name := "restartMachines", fn := fun _ => fun
  | [d1, d2, d3] => { results := [.lit (.bool true)], args := [d1, d2, d3] }
  | _ => none }
def restartMachinesRow : OpenClaim := { program := "ythdomhdippmaiaagreat", sum := "48b1960fa3692058c1d43c6eeb819fa4c477a5e463711d994104396982507395", func := "overlay/overlaylaw26.RestartMachines", spec := "restartMachines", inPlace := ["slices.overlaps[overlay/api.Entry]", "internal/abi.NoEscape"], unfollowed := true, recurses := true, apart := false }
def RestartMachinesSaid : Prop := restartMachinesRow.holds Tryz.pinned (OpenSpec.ofChange restartMachinesSpec)

/-- ITS FALSE NEIGHBOUR: 'it returns false'. Refute it at one input. -/
def restartMachinesWrong : ChangeSpec := { name := "restartMachines", fn := fun _ => fun
  | [d1, d2, d3] => { results := [.lit (.bool false)], args := [d1, d2, d3] }
  | _ => none }
def RestartMachinesWrongFalsely : Prop := restartMachinesRow.holds Tryz.pinned (OpenSpec.ofChange restartMachinesWrong)

/-- 'overlaylaw26.RestartCuts': WHATEVER THE INPUT: true; the input reads as it did. -/
def restartCutsSpec : ChangeSpec := { name := "restartCuts", fn := fun _ => fun
  | [d1, d2, d3] => { results := [.lit (.bool true)], args := [d1, d2, d3] }
  | _ => none }
def restartCutsRow : OpenClaim := { program := "ythdomhdippmaiaagreat", sum := "48b1960fa3692058c1d43c6eeb819fa4c477a5e463711d994104396982507395", func := "overlay/overlaylaw26.RestartCuts", spec := "restartCuts", inPlace := ["slices.overlaps[overlay/api.Entry]", "internal/abi.NoEscape"], unfollowed := true, recurses := true, apart := false }
def RestartCutsSaid : Prop := restartCutsRow.holds Tryz.pinned (OpenSpec.ofChange restartCutsSpec)

/-- ITS FALSE NEIGHBOUR: 'it returns false'. Refute it at one input. -/
def restartCutsWrong : ChangeSpec := { name := "restartCuts", fn := fun _ => fun
  | [d1, d2, d3] => { results := [.lit (.bool false)], args := [d1, d2, d3] }
  | _ => none }
def RestartCutsWrongFalsely : Prop := restartCutsRow.holds Tryz.pinned (OpenSpec.ofChange restartCutsWrong)

/- THE SECOND FORM. 'bulk': how many values and letters a reading holds, each counted each time it is reached (what is shared counts as often as it is met; a slice's spare places count too). A statement '..UptoSaid' is the law's where the arguments, and the package variables that the reading takes, are together of bulk at most 1048576: NARROWER than '..Said'. Prove '..Said' where nothing that the law and all that it calls make is longer than what came in: it says more and counts as full. Else prove '..UptoSaid'. A law counts once. -/
mutual
def uptoBulk {H : Type} : DataW H → Nat
  | .lit (.string bytes) => bytes.length + 1
  | .lit _ => 1
  | .nil => 1
  | .ptr d => uptoBulk d + 1
  | .slice elems spare => uptoBulkAll elems + uptoBulkAll spare + 1
  | .agg parts => uptoBulkAll parts + 1
  | .iface _ d => uptoBulk d + 1
  | .map entries => uptoBulkEntries entries + 1
  | .held _ => 1
def uptoBulkAll {H : Type} : List (DataW H) → Nat
  | [] => 0
  | d :: r => uptoBulk d + uptoBulkAll r
def uptoBulkEntries {H : Type} : List (Lit × DataW H) → Nat
  | [] => 0
  | x :: r => uptoBulkEntry x + uptoBulkEntries r
def uptoBulkEntry {H : Type} : Lit × DataW H → Nat
  | (.string bytes, d) => bytes.length + uptoBulk d + 1
  | (_, d) => uptoBulk d + 1
 end
def uptoSmall : (H : Type) → List (DataW H) → Bool := fun _ ds => decide (uptoBulkAll ds ≤ 1048576)
def OpenSpec.upto (s : _root_.Go.ChangeSpec) : _root_.Go.OpenSpec := { _root_.Go.OpenSpec.ofChange s with cond := some uptoSmall }

/-- 'overlaylaw26.RestartBoots', WHERE WHAT IT READS IS OF BULK AT MOST 1048576: true; the input reads as it did. -/
def restartBootsUptoRow : OpenClaim := { program := "ythdomhdippmaiaagreat", sum := "48b1960fa3692058c1d43c6eeb819fa4c477a5e463711d994104396982507395", func := "overlay/overlaylaw26.RestartBoots", spec := "restartBoots", inPlace := ["slices.overlaps[overlay/api.Entry]", "internal/abi.NoEscape"], unfollowed := true, recurses := true, apart := false, narrowed := true }
def RestartBootsUptoSaid : Prop := restartBootsUptoRow.holds Tryz.pinned (OpenSpec.upto restartBootsSpec)

/-- 'overlaylaw26.RestartMachines', WHERE WHAT IT READS IS OF BULK AT MOST 1048576: true; the input reads as it did. -/
def restartMachinesUptoRow : OpenClaim := { program := "ythdomhdippmaiaagreat", sum := "48b1960fa3692058c1d43c6eeb819fa4c477a5e463711d994104396982507395", func := "overlay/overlaylaw26.RestartMachines", spec := "restartMachines", inPlace := ["slices.overlaps[overlay/api.Entry]", "internal/abi.NoEscape"], unfollowed := true, recurses := true, apart := false, narrowed := true }
def RestartMachinesUptoSaid : Prop := restartMachinesUptoRow.holds Tryz.pinned (OpenSpec.upto restartMachinesSpec)

/-- 'overlaylaw26.RestartCuts', WHERE WHAT IT READS IS OF BULK AT MOST 1048576: true; the input reads as it did. -/
def restartCutsUptoRow : OpenClaim := { program := "ythdomhdippmaiaagreat", sum := "48b1960fa3692058c1d43c6eeb819fa4c477a5e463711d994104396982507395", func := "overlay/overlaylaw26.RestartCuts", spec := "restartCuts", inPlace := ["slices.overlaps[overlay/api.Entry]", "internal/abi.NoEscape"], unfollowed := true, recurses := true, apart := false, narrowed := true }
def RestartCutsUptoSaid : Prop := restartCutsUptoRow.holds Tryz.pinned (OpenSpec.upto restartCutsSpec)

end Rows
end Go.Proofs.YthdomhdippmaiaaGreat
