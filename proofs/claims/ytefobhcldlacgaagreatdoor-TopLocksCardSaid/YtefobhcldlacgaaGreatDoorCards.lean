/-
  DERIVED. GIVEN WITH THE SEED: THE CARDS: each row of YtefobhcldlacgaaGreatDoorRows.lean that lists a variable, with what it lists TIED to the program's text (the seventh form; the later family's looks); each row that meets fmt, with fmt's text TOLD by the authors' own Lean function (tested against real Go, not proved from fmt's source: count such statements apart). THE CARD IS WHAT COUNTS. Prove the row's statement (the work); the ties are given (YtefobhcldlacgaaGreatDoorTie.lean); close each card by the builder's one call (the guide's Derived/Test/ToyasCard.lean, 'card_holds'). Laid BY PROGRAM, IN A SANDBOX (cutbox-door.mjs). By AI agents, Wed Nov 11 2026. No macro, syntax, notation, axiom, sorry.
-/
import Derived.Test.YtefobhcldlacgaaGreatDoorRows
import GoSem.ClaimSeven
namespace Go.Proofs.YtefobhcldlacgaaGreatDoor
namespace Rows

/-- THE TIED CARD OF 'overlaytop.TopLocks'. -/
def topLocksCard : Claim7 := { stood := { row := topLocksRow, standIns := [], harness := (true, "9535d01003c32834d1732dce8d1e2b324678761713cf12cc92df9936fe05bcb0"), looks := true }, kinds := [], alts := [], laidByText := true, laidKinds := [.data], laidTests := true, laidLooks := .later }
def TopLocksCardSaid : Prop := Claim7.holds Tryz.pinned (.plain (OpenSpec.ofChange topLocksSpec)) topLocksCard

/-- THE SECOND FORM's CARD OF 'overlaytop.TopLocks'. -/
def topLocksUptoCard : Claim7 := { stood := { row := topLocksUptoRow, standIns := [], harness := (true, "9535d01003c32834d1732dce8d1e2b324678761713cf12cc92df9936fe05bcb0"), looks := true }, kinds := [], alts := [], laidByText := true, laidKinds := [.data], laidTests := true, laidLooks := .later }
def TopLocksUptoCardSaid : Prop := Claim7.holds Tryz.pinned (.plain (OpenSpec.upto topLocksSpec)) topLocksUptoCard
end Rows
end Go.Proofs.YtefobhcldlacgaaGreatDoor
