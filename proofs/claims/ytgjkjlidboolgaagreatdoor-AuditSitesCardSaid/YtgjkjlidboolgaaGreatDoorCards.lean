/-
  DERIVED. GIVEN WITH THE SEED: THE CARDS: each row of YtgjkjlidboolgaaGreatDoorRows.lean that lists a variable, with what it lists TIED to the program's text (the seventh form; the later family's looks); each row that meets fmt, with fmt's text TOLD by the authors' own Lean function (tested against real Go, not proved from fmt's source: count such statements apart). THE CARD IS WHAT COUNTS. Prove the row's statement (the work); the ties are given (YtgjkjlidboolgaaGreatDoorTie.lean); close each card by the builder's one call (the guide's Derived/Test/ToyasCard.lean, 'card_holds'). Laid BY PROGRAM, IN A SANDBOX (cutbox-door.mjs). By AI agents, Wed Nov 11 2026. No macro, syntax, notation, axiom, sorry.
-/
import Derived.Test.YtgjkjlidboolgaaGreatDoorRows
import GoSem.ClaimSeven
namespace Go.Proofs.YtgjkjlidboolgaaGreatDoor
namespace Rows

/-- THE TIED CARD OF 'overlaylaw30.AuditSites'. -/
def auditSitesCard : Claim7 := { stood := { row := auditSitesRow, standIns := [], harness := (true, "1b76c7dfe07310ea5a2e17877761b5571adde80dcc92e22f8ee45c5e091ef768"), looks := true }, kinds := [], alts := [], laidByText := true, laidKinds := [.data], laidTests := true, laidLooks := .later }
def AuditSitesCardSaid : Prop := Claim7.holds Tryz.pinned (.plain (OpenSpec.ofChange auditSitesSpec)) auditSitesCard

/-- THE SECOND FORM's CARD OF 'overlaylaw30.AuditSites'. -/
def auditSitesUptoCard : Claim7 := { stood := { row := auditSitesUptoRow, standIns := [], harness := (true, "1b76c7dfe07310ea5a2e17877761b5571adde80dcc92e22f8ee45c5e091ef768"), looks := true }, kinds := [], alts := [], laidByText := true, laidKinds := [.data], laidTests := true, laidLooks := .later }
def AuditSitesUptoCardSaid : Prop := Claim7.holds Tryz.pinned (.plain (OpenSpec.upto auditSitesSpec)) auditSitesUptoCard
end Rows
end Go.Proofs.YtgjkjlidboolgaaGreatDoor
