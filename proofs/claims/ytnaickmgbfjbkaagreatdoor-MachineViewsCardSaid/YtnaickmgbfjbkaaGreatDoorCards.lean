/-
  DERIVED. GIVEN WITH THE SEED: THE CARDS: each row of YtnaickmgbfjbkaaGreatDoorRows.lean that lists a variable, with what it lists TIED to the program's text (the seventh form; the later family's looks); each row that meets fmt, with fmt's text TOLD by the authors' own Lean function (tested against real Go, not proved from fmt's source: count such statements apart). THE CARD IS WHAT COUNTS. Prove the row's statement (the work); the ties are given (YtnaickmgbfjbkaaGreatDoorTie.lean); close each card by the builder's one call (the guide's Derived/Test/ToyasCard.lean, 'card_holds'). Laid BY PROGRAM, IN A SANDBOX (cutbox-door.mjs). By AI agents, Wed Nov 11 2026. No macro, syntax, notation, axiom, sorry.
-/
import Derived.Test.YtnaickmgbfjbkaaGreatDoorRows
import GoSem.ClaimSeven
namespace Go.Proofs.YtnaickmgbfjbkaaGreatDoor
namespace Rows

/-- THE TIED CARD OF 'overlaylaw27.MachineViews'. -/
def machineViewsCard : Claim7 := { stood := { row := machineViewsRow, standIns := [], harness := (true, "6ebe53519aa3188a614768157eb424ad22a509b57e84f783196e4b5fc087c98f"), looks := true }, kinds := [], alts := [], laidByText := true, laidKinds := [.data], laidTests := true, laidLooks := .later }
def MachineViewsCardSaid : Prop := Claim7.holds Tryz.pinned (.plain (OpenSpec.ofChange machineViewsSpec)) machineViewsCard

/-- THE SECOND FORM's CARD OF 'overlaylaw27.MachineViews'. -/
def machineViewsUptoCard : Claim7 := { stood := { row := machineViewsUptoRow, standIns := [], harness := (true, "6ebe53519aa3188a614768157eb424ad22a509b57e84f783196e4b5fc087c98f"), looks := true }, kinds := [], alts := [], laidByText := true, laidKinds := [.data], laidTests := true, laidLooks := .later }
def MachineViewsUptoCardSaid : Prop := Claim7.holds Tryz.pinned (.plain (OpenSpec.upto machineViewsSpec)) machineViewsUptoCard
end Rows
end Go.Proofs.YtnaickmgbfjbkaaGreatDoor
