/-
  DERIVED. GIVEN WITH THE SEED: THE CARDS: each row of YtefkmkbfjmahhaaGreatDoorRows.lean that lists a variable, with what it lists TIED to the program's text (the seventh form; the later family's looks); each row that meets fmt, with fmt's text TOLD by the authors' own Lean function (tested against real Go, not proved from fmt's source: count such statements apart). THE CARD IS WHAT COUNTS. Prove the row's statement (the work); the ties are given (YtefkmkbfjmahhaaGreatDoorTie.lean); close each card by the builder's one call (the guide's Derived/Test/ToyasCard.lean, 'card_holds'). Laid BY PROGRAM, IN A SANDBOX (cutbox-door.mjs). By AI agents, Wed Nov 11 2026. No macro, syntax, notation, axiom, sorry.
-/
import Derived.Test.YtefkmkbfjmahhaaGreatDoorRows
import GoSem.ClaimSeven
namespace Go.Proofs.YtefkmkbfjmahhaaGreatDoor
namespace Rows

/-- THE TIED CARD OF 'overlaylaw27.MachineJournal'. -/
def machineJournalCard : Claim7 := { stood := { row := machineJournalRow, standIns := [], harness := (true, "e13f7263f549a54b203af232baf3357750568a1b80b75d84b07a7856d9da0ec7"), looks := true }, kinds := [], alts := [], laidByText := true, laidKinds := [.data], laidTests := true, laidLooks := .later }
def MachineJournalCardSaid : Prop := Claim7.holds Tryz.pinned (.plain (OpenSpec.ofChange machineJournalSpec)) machineJournalCard

/-- THE SECOND FORM's CARD OF 'overlaylaw27.MachineJournal'. -/
def machineJournalUptoCard : Claim7 := { stood := { row := machineJournalUptoRow, standIns := [], harness := (true, "e13f7263f549a54b203af232baf3357750568a1b80b75d84b07a7856d9da0ec7"), looks := true }, kinds := [], alts := [], laidByText := true, laidKinds := [.data], laidTests := true, laidLooks := .later }
def MachineJournalUptoCardSaid : Prop := Claim7.holds Tryz.pinned (.plain (OpenSpec.upto machineJournalSpec)) machineJournalUptoCard
end Rows
end Go.Proofs.YtefkmkbfjmahhaaGreatDoor
