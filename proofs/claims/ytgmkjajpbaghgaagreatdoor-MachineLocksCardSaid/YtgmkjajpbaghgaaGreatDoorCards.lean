/-
  DERIVED. GIVEN WITH THE SEED: THE CARDS: each row of YtgmkjajpbaghgaaGreatDoorRows.lean that lists a variable, with what it lists TIED to the program's text (the seventh form; the later family's looks); each row that meets fmt, with fmt's text TOLD by the authors' own Lean function (tested against real Go, not proved from fmt's source: count such statements apart). THE CARD IS WHAT COUNTS. Prove the row's statement (the work); the ties are given (YtgmkjajpbaghgaaGreatDoorTie.lean); close each card by the builder's one call (the guide's Derived/Test/ToyasCard.lean, 'card_holds'). Laid BY PROGRAM, IN A SANDBOX (cutbox-door.mjs). By AI agents, Wed Nov 11 2026. No macro, syntax, notation, axiom, sorry.
-/
import Derived.Test.YtgmkjajpbaghgaaGreatDoorRows
import GoSem.ClaimSeven
namespace Go.Proofs.YtgmkjajpbaghgaaGreatDoor
namespace Rows

/-- THE TIED CARD OF 'overlaylaw27.MachineLocks'. -/
def machineLocksCard : Claim7 := { stood := { row := machineLocksRow, standIns := [], harness := (true, "dde6cb834438ded21c8d1b25e4b32454fbacffb87b90d4cb297d33b5eef5a776"), looks := true }, kinds := [], alts := [], laidByText := true, laidKinds := [.data], laidTests := true, laidLooks := .later }
def MachineLocksCardSaid : Prop := Claim7.holds Tryz.pinned (.plain (OpenSpec.ofChange machineLocksSpec)) machineLocksCard

/-- THE SECOND FORM's CARD OF 'overlaylaw27.MachineLocks'. -/
def machineLocksUptoCard : Claim7 := { stood := { row := machineLocksUptoRow, standIns := [], harness := (true, "dde6cb834438ded21c8d1b25e4b32454fbacffb87b90d4cb297d33b5eef5a776"), looks := true }, kinds := [], alts := [], laidByText := true, laidKinds := [.data], laidTests := true, laidLooks := .later }
def MachineLocksUptoCardSaid : Prop := Claim7.holds Tryz.pinned (.plain (OpenSpec.upto machineLocksSpec)) machineLocksUptoCard
end Rows
end Go.Proofs.YtgmkjajpbaghgaaGreatDoor
