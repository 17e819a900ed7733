/-
  DERIVED. GIVEN WITH THE SEED: THE CARDS: each row of YtnfjkodplikhjaaGreatDoorRows.lean that lists a variable, with what it lists TIED to the program's text (the seventh form; the later family's looks); each row that meets fmt, with fmt's text TOLD by the authors' own Lean function (tested against real Go, not proved from fmt's source: count such statements apart). THE CARD IS WHAT COUNTS. Prove the row's statement (the work); the ties are given (YtnfjkodplikhjaaGreatDoorTie.lean); close each card by the builder's one call (the guide's Derived/Test/ToyasCard.lean, 'card_holds'). Laid BY PROGRAM, IN A SANDBOX (cutbox-door.mjs). By AI agents, Wed Nov 11 2026. No macro, syntax, notation, axiom, sorry.
-/
import Derived.Test.YtnfjkodplikhjaaGreatDoorRows
import GoSem.ClaimSeven
namespace Go.Proofs.YtnfjkodplikhjaaGreatDoor
namespace Rows

/-- THE TIED CARD OF 'overlaylaw29.ScriptWaits'. -/
def scriptWaitsCard : Claim7 := { stood := { row := scriptWaitsRow, standIns := [], harness := (true, "6c65ab31cfcd5f99f2f40266d4c861128dff0359db2ac5f76ef794b5c03e932e"), looks := true }, kinds := [], alts := [], laidByText := true, laidKinds := [.data, .data, .data, .data, .listed, .data, .pinned], laidTests := true, laidLooks := .later }
def ScriptWaitsCardSaid : Prop := Claim7.holds Tryz.pinned (.plain (OpenSpec.ofChange scriptWaitsSpec)) scriptWaitsCard

/-- THE SECOND FORM's CARD OF 'overlaylaw29.ScriptWaits'. -/
def scriptWaitsUptoCard : Claim7 := { stood := { row := scriptWaitsUptoRow, standIns := [], harness := (true, "6c65ab31cfcd5f99f2f40266d4c861128dff0359db2ac5f76ef794b5c03e932e"), looks := true }, kinds := [], alts := [], laidByText := true, laidKinds := [.data, .data, .data, .data, .listed, .data, .pinned], laidTests := true, laidLooks := .later }
def ScriptWaitsUptoCardSaid : Prop := Claim7.holds Tryz.pinned (.plain (OpenSpec.upto scriptWaitsSpec)) scriptWaitsUptoCard
end Rows
end Go.Proofs.YtnfjkodplikhjaaGreatDoor
