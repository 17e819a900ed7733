/-
  DERIVED. GIVEN WITH THE SEED: THE CARDS: each row of YtoppkmfgeaflcaaGreatDoorRows.lean that lists a variable, with what it lists TIED to the program's text (the seventh form; the later family's looks); each row that meets fmt, with fmt's text TOLD by the authors' own Lean function (tested against real Go, not proved from fmt's source: count such statements apart). THE CARD IS WHAT COUNTS. Prove the row's statement (the work); the ties are given (YtoppkmfgeaflcaaGreatDoorTie.lean); close each card by the builder's one call (the guide's Derived/Test/ToyasCard.lean, 'card_holds'). Laid BY PROGRAM, IN A SANDBOX (cutbox-door.mjs). By AI agents, Wed Nov 11 2026. No macro, syntax, notation, axiom, sorry.
-/
import Derived.Test.YtoppkmfgeaflcaaGreatDoorRows
import GoSem.ClaimSeven
namespace Go.Proofs.YtoppkmfgeaflcaaGreatDoor
namespace Rows

/-- THE TIED CARD OF 'overlaylaw27.MachineFlags'. -/
def machineFlagsCard : Claim7 := { stood := { row := machineFlagsRow, standIns := [], harness := (true, "d60e2abb22c53e9da7d05084e1c11ed396f4eed7b7940d60cb839bbe7bb1ccb0"), looks := true }, kinds := [], alts := [], laidByText := true, laidKinds := [.data], laidTests := true, laidLooks := .later }
def MachineFlagsCardSaid : Prop := Claim7.holds Tryz.pinned (.plain (OpenSpec.ofChange machineFlagsSpec)) machineFlagsCard

/-- THE SECOND FORM's CARD OF 'overlaylaw27.MachineFlags'. -/
def machineFlagsUptoCard : Claim7 := { stood := { row := machineFlagsUptoRow, standIns := [], harness := (true, "d60e2abb22c53e9da7d05084e1c11ed396f4eed7b7940d60cb839bbe7bb1ccb0"), looks := true }, kinds := [], alts := [], laidByText := true, laidKinds := [.data], laidTests := true, laidLooks := .later }
def MachineFlagsUptoCardSaid : Prop := Claim7.holds Tryz.pinned (.plain (OpenSpec.upto machineFlagsSpec)) machineFlagsUptoCard
end Rows
end Go.Proofs.YtoppkmfgeaflcaaGreatDoor
