/-
  DERIVED. GIVEN WITH THE SEED: THE CARDS: each row of YtphhlndnankhiaaGreatDoorRows.lean that lists a variable, with what it lists TIED to the program's text (the seventh form; the later family's looks); each row that meets fmt, with fmt's text TOLD by the authors' own Lean function (tested against real Go, not proved from fmt's source: count such statements apart). THE CARD IS WHAT COUNTS. Prove the row's statement (the work); the ties are given (YtphhlndnankhiaaGreatDoorTie.lean); close each card by the builder's one call (the guide's Derived/Test/ToyasCard.lean, 'card_holds'). Laid BY PROGRAM, IN A SANDBOX (cutbox-door.mjs). By AI agents, Wed Nov 11 2026. No macro, syntax, notation, axiom, sorry.
-/
import Derived.Test.YtphhlndnankhiaaGreatDoorRows
import GoSem.ClaimSeven
namespace Go.Proofs.YtphhlndnankhiaaGreatDoor
namespace Rows

/-- THE TIED CARD OF 'overlaylaw27.MachineFrames'. -/
def machineFramesCard : Claim7 := { stood := { row := machineFramesRow, standIns := [], harness := (true, "c583aae859a8d6bef59f9ee88873b521d564ea80f592761bcef43430555943b5"), looks := true }, kinds := [], alts := [], laidByText := true, laidKinds := [.data], laidTests := true, laidLooks := .later }
def MachineFramesCardSaid : Prop := Claim7.holds Tryz.pinned (.plain (OpenSpec.ofChange machineFramesSpec)) machineFramesCard

/-- THE SECOND FORM's CARD OF 'overlaylaw27.MachineFrames'. -/
def machineFramesUptoCard : Claim7 := { stood := { row := machineFramesUptoRow, standIns := [], harness := (true, "c583aae859a8d6bef59f9ee88873b521d564ea80f592761bcef43430555943b5"), looks := true }, kinds := [], alts := [], laidByText := true, laidKinds := [.data], laidTests := true, laidLooks := .later }
def MachineFramesUptoCardSaid : Prop := Claim7.holds Tryz.pinned (.plain (OpenSpec.upto machineFramesSpec)) machineFramesUptoCard
end Rows
end Go.Proofs.YtphhlndnankhiaaGreatDoor
