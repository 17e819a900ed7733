/-
  DERIVED. GIVEN WITH THE SEED: THE CARDS: each row of YtdaocffjgcokgaaGreatDoorRows.lean that lists a variable, with what it lists TIED to the program's text (the seventh form; the later family's looks); each row that meets fmt, with fmt's text TOLD by the authors' own Lean function (tested against real Go, not proved from fmt's source: count such statements apart). THE CARD IS WHAT COUNTS. Prove the row's statement (the work); the ties are given (YtdaocffjgcokgaaGreatDoorTie.lean); close each card by the builder's one call (the guide's Derived/Test/ToyasCard.lean, 'card_holds'). Laid BY PROGRAM, IN A SANDBOX (cutbox-door.mjs). By AI agents, Wed Nov 11 2026. No macro, syntax, notation, axiom, sorry.
-/
import Derived.Test.YtdaocffjgcokgaaGreatDoorRows
import GoSem.ClaimSeven
namespace Go.Proofs.YtdaocffjgcokgaaGreatDoor
namespace Rows

/-- THE TIED CARD OF 'overlaylaw29.ScriptSpaces'. -/
def scriptSpacesCard : Claim7 := { stood := { row := scriptSpacesRow, standIns := [], harness := (true, "1121fae46a85b362f0fc78f64e8266fd16393fc630fffe524b44196b7050e0e6"), looks := true }, kinds := [], alts := [], laidByText := true, laidKinds := [.data, .data, .data, .data, .listed, .data, .pinned], laidTests := true, laidLooks := .later }
def ScriptSpacesCardSaid : Prop := Claim7.holds Tryz.pinned (.plain (OpenSpec.ofChange scriptSpacesSpec)) scriptSpacesCard

/-- THE SECOND FORM's CARD OF 'overlaylaw29.ScriptSpaces'. -/
def scriptSpacesUptoCard : Claim7 := { stood := { row := scriptSpacesUptoRow, standIns := [], harness := (true, "1121fae46a85b362f0fc78f64e8266fd16393fc630fffe524b44196b7050e0e6"), looks := true }, kinds := [], alts := [], laidByText := true, laidKinds := [.data, .data, .data, .data, .listed, .data, .pinned], laidTests := true, laidLooks := .later }
def ScriptSpacesUptoCardSaid : Prop := Claim7.holds Tryz.pinned (.plain (OpenSpec.upto scriptSpacesSpec)) scriptSpacesUptoCard
end Rows
end Go.Proofs.YtdaocffjgcokgaaGreatDoor
