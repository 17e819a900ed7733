/-
  DERIVED. GIVEN WITH THE SEED: THE CARDS: each row of YtfkphlpmkolemaaGreatDoorRows.lean that lists a variable, with what it lists TIED to the program's text (the seventh form; the later family's looks); each row that meets fmt, with fmt's text TOLD by the authors' own Lean function (tested against real Go, not proved from fmt's source: count such statements apart). THE CARD IS WHAT COUNTS. Prove the row's statement (the work); the ties are given (YtfkphlpmkolemaaGreatDoorTie.lean); close each card by the builder's one call (the guide's Derived/Test/ToyasCard.lean, 'card_holds'). Laid BY PROGRAM, IN A SANDBOX (cutbox-door.mjs). By AI agents, Wed Nov 11 2026. No macro, syntax, notation, axiom, sorry.
-/
import Derived.Test.YtfkphlpmkolemaaGreatDoorRows
import GoSem.ClaimSeven
namespace Go.Proofs.YtfkphlpmkolemaaGreatDoor
namespace Rows

/-- THE TIED CARD OF 'overlaylaw27.MachineDivides'. -/
def machineDividesCard : Claim7 := { stood := { row := machineDividesRow, standIns := [], harness := (true, "dfc06a1da91974f8246dfae6d62c39125d48b53e811f49025c8cca3cc2408450"), looks := true }, kinds := [], alts := [], laidByText := true, laidKinds := [.data], laidTests := true, laidLooks := .later }
def MachineDividesCardSaid : Prop := Claim7.holds Tryz.pinned (.plain (OpenSpec.ofChange machineDividesSpec)) machineDividesCard

/-- THE SECOND FORM's CARD OF 'overlaylaw27.MachineDivides'. -/
def machineDividesUptoCard : Claim7 := { stood := { row := machineDividesUptoRow, standIns := [], harness := (true, "dfc06a1da91974f8246dfae6d62c39125d48b53e811f49025c8cca3cc2408450"), looks := true }, kinds := [], alts := [], laidByText := true, laidKinds := [.data], laidTests := true, laidLooks := .later }
def MachineDividesUptoCardSaid : Prop := Claim7.holds Tryz.pinned (.plain (OpenSpec.upto machineDividesSpec)) machineDividesUptoCard
end Rows
end Go.Proofs.YtfkphlpmkolemaaGreatDoor
