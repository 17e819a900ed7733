/-
  DERIVED. GIVEN WITH THE SEED: THE CARDS: each row of YthidicpicnalfaaGreatDoorRows.lean that lists a variable, with what it lists TIED to the program's text (the seventh form; the later family's looks); each row that meets fmt, with fmt's text TOLD by the authors' own Lean function (tested against real Go, not proved from fmt's source: count such statements apart). THE CARD IS WHAT COUNTS. Prove the row's statement (the work); the ties are given (YthidicpicnalfaaGreatDoorTie.lean); close each card by the builder's one call (the guide's Derived/Test/ToyasCard.lean, 'card_holds'). Laid BY PROGRAM, IN A SANDBOX (cutbox-door.mjs). By AI agents, Wed Nov 11 2026. No macro, syntax, notation, axiom, sorry.
-/
import Derived.Test.YthidicpicnalfaaGreatDoorRows
import GoSem.ClaimSeven
namespace Go.Proofs.YthidicpicnalfaaGreatDoor
namespace Rows

/-- THE TIED CARD OF 'overlaylaw28.SiteKeeps'. -/
def siteKeepsCard : Claim7 := { stood := { row := siteKeepsRow, standIns := [], harness := (true, "05628edb4b8e7bf0385b64fd596d5177181f4cf5add820a45233d34d2136d02a"), looks := true }, kinds := [], alts := [], laidByText := true, laidKinds := [.data], laidTests := true, laidLooks := .later }
def SiteKeepsCardSaid : Prop := Claim7.holds Tryz.pinned (.plain (OpenSpec.ofChange siteKeepsSpec)) siteKeepsCard

/-- THE SECOND FORM's CARD OF 'overlaylaw28.SiteKeeps'. -/
def siteKeepsUptoCard : Claim7 := { stood := { row := siteKeepsUptoRow, standIns := [], harness := (true, "05628edb4b8e7bf0385b64fd596d5177181f4cf5add820a45233d34d2136d02a"), looks := true }, kinds := [], alts := [], laidByText := true, laidKinds := [.data], laidTests := true, laidLooks := .later }
def SiteKeepsUptoCardSaid : Prop := Claim7.holds Tryz.pinned (.plain (OpenSpec.upto siteKeepsSpec)) siteKeepsUptoCard
end Rows
end Go.Proofs.YthidicpicnalfaaGreatDoor
