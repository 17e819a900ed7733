/-
  DERIVED. GIVEN WITH THE SEED: THE CARDS: each row of YticbfghinhhgiaaDoorRows.lean that lists a variable, with what it lists TIED to the program's text (the seventh form; the later family's looks); each row that meets fmt, with fmt's text TOLD by the authors' own Lean function (tested against real Go, not proved from fmt's source: count such statements apart). THE CARD IS WHAT COUNTS. Prove the row's statement (the work); the ties are given (YticbfghinhhgiaaDoorTie.lean); close each card by the builder's one call (the guide's Derived/Test/ToyasCard.lean, 'card_holds'). Laid BY PROGRAM, IN A SANDBOX (cutbox-door.mjs). By AI agents, Wed Nov 11 2026. No macro, syntax, notation, axiom, sorry.
-/
import Derived.Test.YticbfghinhhgiaaDoorRows
import GoSem.ClaimSeven
namespace Go.Proofs.YticbfghinhhgiaaDoor
namespace Rows

/-- THE TIED CARD OF 'overlaylaw22.AssignChooses'. -/
def assignChoosesCard : Claim7 := { stood := { row := assignChoosesRow, standIns := [], harness := (true, "1233d92e3aea6bb4dd9d125c28f9f68825dfea48d29172fae9bee8380a9291ee"), looks := false }, kinds := [], alts := [], laidByText := true, laidKinds := [.data], laidTests := true, laidLooks := .later }
def AssignChoosesCardSaid : Prop := Claim7.holds Tryd.pinned (.plain (OpenSpec.ofChange assignChoosesSpec)) assignChoosesCard

/-- THE TIED CARD OF 'overlaylaw22.AssignLeaves'. -/
def assignLeavesCard : Claim7 := { stood := { row := assignLeavesRow, standIns := [], harness := (true, "1233d92e3aea6bb4dd9d125c28f9f68825dfea48d29172fae9bee8380a9291ee"), looks := false }, kinds := [], alts := [], laidByText := true, laidKinds := [.data], laidTests := true, laidLooks := .later }
def AssignLeavesCardSaid : Prop := Claim7.holds Tryd.pinned (.plain (OpenSpec.ofChange assignLeavesSpec)) assignLeavesCard

/-- THE TIED CARD OF 'overlaylaw22.AssignMoves'. -/
def assignMovesCard : Claim7 := { stood := { row := assignMovesRow, standIns := [], harness := (true, "1233d92e3aea6bb4dd9d125c28f9f68825dfea48d29172fae9bee8380a9291ee"), looks := false }, kinds := [], alts := [], laidByText := true, laidKinds := [.data], laidTests := true, laidLooks := .later }
def AssignMovesCardSaid : Prop := Claim7.holds Tryd.pinned (.plain (OpenSpec.ofChange assignMovesSpec)) assignMovesCard

/-- THE TIED CARD OF 'overlaylaw22.AssignExpects'. -/
def assignExpectsCard : Claim7 := { stood := { row := assignExpectsRow, standIns := [], harness := (true, "1233d92e3aea6bb4dd9d125c28f9f68825dfea48d29172fae9bee8380a9291ee"), looks := false }, kinds := [], alts := [], laidByText := true, laidKinds := [.data], laidTests := true, laidLooks := .later }
def AssignExpectsCardSaid : Prop := Claim7.holds Tryd.pinned (.plain (OpenSpec.ofChange assignExpectsSpec)) assignExpectsCard

/-- THE TIED CARD OF 'overlaylaw22.AssignPlans'. -/
def assignPlansCard : Claim7 := { stood := { row := assignPlansRow, standIns := [], harness := (true, "1233d92e3aea6bb4dd9d125c28f9f68825dfea48d29172fae9bee8380a9291ee"), looks := false }, kinds := [], alts := [], laidByText := true, laidKinds := [.data], laidTests := true, laidLooks := .later }
def AssignPlansCardSaid : Prop := Claim7.holds Tryd.pinned (.plain (OpenSpec.ofChange assignPlansSpec)) assignPlansCard

/-- THE TIED CARD OF 'overlaylaw22.AssignRaw'. -/
def assignRawCard : Claim7 := { stood := { row := assignRawRow, standIns := [], harness := (true, "1233d92e3aea6bb4dd9d125c28f9f68825dfea48d29172fae9bee8380a9291ee"), looks := false }, kinds := [], alts := [], laidByText := true, laidKinds := [.data], laidTests := true, laidLooks := .later }
def AssignRawCardSaid : Prop := Claim7.holds Tryd.pinned (.plain (OpenSpec.ofChange assignRawSpec)) assignRawCard

/-- THE TIED CARD OF 'overlaylaw22.AssignEmpty'. -/
def assignEmptyCard : Claim7 := { stood := { row := assignEmptyRow, standIns := [], harness := (true, "1233d92e3aea6bb4dd9d125c28f9f68825dfea48d29172fae9bee8380a9291ee"), looks := false }, kinds := [], alts := [], laidByText := true, laidKinds := [.data], laidTests := true, laidLooks := .later }
def AssignEmptyCardSaid : Prop := Claim7.holds Tryd.pinned (.plain (OpenSpec.ofChange assignEmptySpec)) assignEmptyCard

/-- THE SECOND FORM's CARD OF 'overlaylaw22.AssignChooses'. -/
def assignChoosesUptoCard : Claim7 := { stood := { row := assignChoosesUptoRow, standIns := [], harness := (true, "1233d92e3aea6bb4dd9d125c28f9f68825dfea48d29172fae9bee8380a9291ee"), looks := false }, kinds := [], alts := [], laidByText := true, laidKinds := [.data], laidTests := true, laidLooks := .later }
def AssignChoosesUptoCardSaid : Prop := Claim7.holds Tryd.pinned (.plain (OpenSpec.upto assignChoosesSpec)) assignChoosesUptoCard

/-- THE SECOND FORM's CARD OF 'overlaylaw22.AssignLeaves'. -/
def assignLeavesUptoCard : Claim7 := { stood := { row := assignLeavesUptoRow, standIns := [], harness := (true, "1233d92e3aea6bb4dd9d125c28f9f68825dfea48d29172fae9bee8380a9291ee"), looks := false }, kinds := [], alts := [], laidByText := true, laidKinds := [.data], laidTests := true, laidLooks := .later }
def AssignLeavesUptoCardSaid : Prop := Claim7.holds Tryd.pinned (.plain (OpenSpec.upto assignLeavesSpec)) assignLeavesUptoCard

/-- THE SECOND FORM's CARD OF 'overlaylaw22.AssignMoves'. -/
def assignMovesUptoCard : Claim7 := { stood := { row := assignMovesUptoRow, standIns := [], harness := (true, "1233d92e3aea6bb4dd9d125c28f9f68825dfea48d29172fae9bee8380a9291ee"), looks := false }, kinds := [], alts := [], laidByText := true, laidKinds := [.data], laidTests := true, laidLooks := .later }
def AssignMovesUptoCardSaid : Prop := Claim7.holds Tryd.pinned (.plain (OpenSpec.upto assignMovesSpec)) assignMovesUptoCard

/-- THE SECOND FORM's CARD OF 'overlaylaw22.AssignExpects'. -/
def assignExpectsUptoCard : Claim7 := { stood := { row := assignExpectsUptoRow, standIns := [], harness := (true, "1233d92e3aea6bb4dd9d125c28f9f68825dfea48d29172fae9bee8380a9291ee"), looks := false }, kinds := [], alts := [], laidByText := true, laidKinds := [.data], laidTests := true, laidLooks := .later }
def AssignExpectsUptoCardSaid : Prop := Claim7.holds Tryd.pinned (.plain (OpenSpec.upto assignExpectsSpec)) assignExpectsUptoCard

/-- THE SECOND FORM's CARD OF 'overlaylaw22.AssignPlans'. -/
def assignPlansUptoCard : Claim7 := { stood := { row := assignPlansUptoRow, standIns := [], harness := (true, "1233d92e3aea6bb4dd9d125c28f9f68825dfea48d29172fae9bee8380a9291ee"), looks := false }, kinds := [], alts := [], laidByText := true, laidKinds := [.data], laidTests := true, laidLooks := .later }
def AssignPlansUptoCardSaid : Prop := Claim7.holds Tryd.pinned (.plain (OpenSpec.upto assignPlansSpec)) assignPlansUptoCard

/-- THE SECOND FORM's CARD OF 'overlaylaw22.AssignRaw'. -/
def assignRawUptoCard : Claim7 := { stood := { row := assignRawUptoRow, standIns := [], harness := (true, "1233d92e3aea6bb4dd9d125c28f9f68825dfea48d29172fae9bee8380a9291ee"), looks := false }, kinds := [], alts := [], laidByText := true, laidKinds := [.data], laidTests := true, laidLooks := .later }
def AssignRawUptoCardSaid : Prop := Claim7.holds Tryd.pinned (.plain (OpenSpec.upto assignRawSpec)) assignRawUptoCard

/-- THE SECOND FORM's CARD OF 'overlaylaw22.AssignEmpty'. -/
def assignEmptyUptoCard : Claim7 := { stood := { row := assignEmptyUptoRow, standIns := [], harness := (true, "1233d92e3aea6bb4dd9d125c28f9f68825dfea48d29172fae9bee8380a9291ee"), looks := false }, kinds := [], alts := [], laidByText := true, laidKinds := [.data], laidTests := true, laidLooks := .later }
def AssignEmptyUptoCardSaid : Prop := Claim7.holds Tryd.pinned (.plain (OpenSpec.upto assignEmptySpec)) assignEmptyUptoCard
end Rows
end Go.Proofs.YticbfghinhhgiaaDoor
