/-
  DERIVED. GIVEN WITH THE SEED: THE CARDS: each row of YtdapkmfmgpmnoaaGreatDoorRows.lean that lists a variable, with what it lists TIED to the program's text (the seventh form; the later family's looks); each row that meets fmt, with fmt's text TOLD by the authors' own Lean function (tested against real Go, not proved from fmt's source: count such statements apart). THE CARD IS WHAT COUNTS. Prove the row's statement (the work); the ties are given (YtdapkmfmgpmnoaaGreatDoorTie.lean); close each card by the builder's one call (the guide's Derived/Test/ToyasCard.lean, 'card_holds'). Laid BY PROGRAM, IN A SANDBOX (cutbox-door.mjs). By AI agents, Wed Nov 11 2026. No macro, syntax, notation, axiom, sorry.
-/
import Derived.Test.YtdapkmfmgpmnoaaGreatDoorRows
import GoSem.ClaimSeven
namespace Go.Proofs.YtdapkmfmgpmnoaaGreatDoor
namespace Rows

/-- THE TIED CARD OF 'overlaylaw27.MachineLamps'. -/
def machineLampsCard : Claim7 := { stood := { row := machineLampsRow, standIns := [], harness := (true, "b9e234b159d146c3c210ef1cc6b9574096268afd6db9a204550067d7dff02d54"), looks := true }, kinds := [], alts := [], laidByText := true, laidKinds := [.data], laidTests := true, laidLooks := .later }
def MachineLampsCardSaid : Prop := Claim7.holds Tryz.pinned (.plain (OpenSpec.ofChange machineLampsSpec)) machineLampsCard

/-- THE SECOND FORM's CARD OF 'overlaylaw27.MachineLamps'. -/
def machineLampsUptoCard : Claim7 := { stood := { row := machineLampsUptoRow, standIns := [], harness := (true, "b9e234b159d146c3c210ef1cc6b9574096268afd6db9a204550067d7dff02d54"), looks := true }, kinds := [], alts := [], laidByText := true, laidKinds := [.data], laidTests := true, laidLooks := .later }
def MachineLampsUptoCardSaid : Prop := Claim7.holds Tryz.pinned (.plain (OpenSpec.upto machineLampsSpec)) machineLampsUptoCard
end Rows
end Go.Proofs.YtdapkmfmgpmnoaaGreatDoor
