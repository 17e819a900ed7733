/-
  DERIVED. GIVEN WITH THE SEED: THE CARDS: each row of YthdomhdippmaiaaGreatDoorRows.lean that lists a variable, with what it lists TIED to the program's text (the seventh form; the later family's looks); each row that meets fmt, with fmt's text TOLD by the authors' own Lean function (tested against real Go, not proved from fmt's source: count such statements apart). THE CARD IS WHAT COUNTS. Prove the row's statement (the work); the ties are given (YthdomhdippmaiaaGreatDoorTie.lean); close each card by the builder's one call (the guide's Derived/Test/ToyasCard.lean, 'card_holds'). Laid BY PROGRAM, IN A SANDBOX (cutbox-door.mjs). By AI agents, Wed Nov 11 2026. No macro, syntax, notation, axiom, sorry.
-/
import Derived.Test.YthdomhdippmaiaaGreatDoorRows
import GoSem.ClaimSeven
namespace Go.Proofs.YthdomhdippmaiaaGreatDoor
namespace Rows

/-- THE TIED CARD OF 'overlaylaw24.DispatchTicks'. -/
def dispatchTicksCard : Claim7 := { stood := { row := dispatchTicksRow, standIns := [], harness := (true, "1239c7a7b1b4f5bbb05882a5f93f3a81be816a552e068df990b22c91f228d4b9"), looks := false }, kinds := [], alts := [], laidByText := true, laidKinds := [.data], laidTests := true, laidLooks := .later }
def DispatchTicksCardSaid : Prop := Claim7.holds Tryz.pinned (.plain (OpenSpec.ofChange dispatchTicksSpec)) dispatchTicksCard

/-- THE TIED CARD OF 'overlaylaw24.DispatchCalls'. -/
def dispatchCallsCard : Claim7 := { stood := { row := dispatchCallsRow, standIns := [], harness := (true, "1239c7a7b1b4f5bbb05882a5f93f3a81be816a552e068df990b22c91f228d4b9"), looks := false }, kinds := [], alts := [], laidByText := true, laidKinds := [.data], laidTests := true, laidLooks := .later }
def DispatchCallsCardSaid : Prop := Claim7.holds Tryz.pinned (.plain (OpenSpec.ofChange dispatchCallsSpec)) dispatchCallsCard

/-- THE TIED CARD OF 'overlaylaw24.DispatchKeeps'. -/
def dispatchKeepsCard : Claim7 := { stood := { row := dispatchKeepsRow, standIns := [], harness := (true, "1239c7a7b1b4f5bbb05882a5f93f3a81be816a552e068df990b22c91f228d4b9"), looks := false }, kinds := [], alts := [], laidByText := true, laidKinds := [.data], laidTests := true, laidLooks := .later }
def DispatchKeepsCardSaid : Prop := Claim7.holds Tryz.pinned (.plain (OpenSpec.ofChange dispatchKeepsSpec)) dispatchKeepsCard

/-- THE TIED CARD OF 'overlaylaw24.DispatchBad'. -/
def dispatchBadCard : Claim7 := { stood := { row := dispatchBadRow, standIns := [], harness := (true, "1239c7a7b1b4f5bbb05882a5f93f3a81be816a552e068df990b22c91f228d4b9"), looks := false }, kinds := [], alts := [], laidByText := true, laidKinds := [.data], laidTests := true, laidLooks := .later }
def DispatchBadCardSaid : Prop := Claim7.holds Tryz.pinned (.plain (OpenSpec.ofChange dispatchBadSpec)) dispatchBadCard

/-- THE TIED CARD OF 'overlaylaw24.DispatchReplays'. -/
def dispatchReplaysCard : Claim7 := { stood := { row := dispatchReplaysRow, standIns := [], harness := (true, "1239c7a7b1b4f5bbb05882a5f93f3a81be816a552e068df990b22c91f228d4b9"), looks := false }, kinds := [], alts := [], laidByText := true, laidKinds := [.data], laidTests := true, laidLooks := .later }
def DispatchReplaysCardSaid : Prop := Claim7.holds Tryz.pinned (.plain (OpenSpec.ofChange dispatchReplaysSpec)) dispatchReplaysCard

/-- THE SECOND FORM's CARD OF 'overlaylaw24.DispatchTicks'. -/
def dispatchTicksUptoCard : Claim7 := { stood := { row := dispatchTicksUptoRow, standIns := [], harness := (true, "1239c7a7b1b4f5bbb05882a5f93f3a81be816a552e068df990b22c91f228d4b9"), looks := false }, kinds := [], alts := [], laidByText := true, laidKinds := [.data], laidTests := true, laidLooks := .later }
def DispatchTicksUptoCardSaid : Prop := Claim7.holds Tryz.pinned (.plain (OpenSpec.upto dispatchTicksSpec)) dispatchTicksUptoCard

/-- THE SECOND FORM's CARD OF 'overlaylaw24.DispatchCalls'. -/
def dispatchCallsUptoCard : Claim7 := { stood := { row := dispatchCallsUptoRow, standIns := [], harness := (true, "1239c7a7b1b4f5bbb05882a5f93f3a81be816a552e068df990b22c91f228d4b9"), looks := false }, kinds := [], alts := [], laidByText := true, laidKinds := [.data], laidTests := true, laidLooks := .later }
def DispatchCallsUptoCardSaid : Prop := Claim7.holds Tryz.pinned (.plain (OpenSpec.upto dispatchCallsSpec)) dispatchCallsUptoCard

/-- THE SECOND FORM's CARD OF 'overlaylaw24.DispatchKeeps'. -/
def dispatchKeepsUptoCard : Claim7 := { stood := { row := dispatchKeepsUptoRow, standIns := [], harness := (true, "1239c7a7b1b4f5bbb05882a5f93f3a81be816a552e068df990b22c91f228d4b9"), looks := false }, kinds := [], alts := [], laidByText := true, laidKinds := [.data], laidTests := true, laidLooks := .later }
def DispatchKeepsUptoCardSaid : Prop := Claim7.holds Tryz.pinned (.plain (OpenSpec.upto dispatchKeepsSpec)) dispatchKeepsUptoCard

/-- THE SECOND FORM's CARD OF 'overlaylaw24.DispatchBad'. -/
def dispatchBadUptoCard : Claim7 := { stood := { row := dispatchBadUptoRow, standIns := [], harness := (true, "1239c7a7b1b4f5bbb05882a5f93f3a81be816a552e068df990b22c91f228d4b9"), looks := false }, kinds := [], alts := [], laidByText := true, laidKinds := [.data], laidTests := true, laidLooks := .later }
def DispatchBadUptoCardSaid : Prop := Claim7.holds Tryz.pinned (.plain (OpenSpec.upto dispatchBadSpec)) dispatchBadUptoCard

/-- THE SECOND FORM's CARD OF 'overlaylaw24.DispatchReplays'. -/
def dispatchReplaysUptoCard : Claim7 := { stood := { row := dispatchReplaysUptoRow, standIns := [], harness := (true, "1239c7a7b1b4f5bbb05882a5f93f3a81be816a552e068df990b22c91f228d4b9"), looks := false }, kinds := [], alts := [], laidByText := true, laidKinds := [.data], laidTests := true, laidLooks := .later }
def DispatchReplaysUptoCardSaid : Prop := Claim7.holds Tryz.pinned (.plain (OpenSpec.upto dispatchReplaysSpec)) dispatchReplaysUptoCard
end Rows
end Go.Proofs.YthdomhdippmaiaaGreatDoor
