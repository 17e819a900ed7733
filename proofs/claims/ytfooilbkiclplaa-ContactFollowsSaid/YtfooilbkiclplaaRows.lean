/-
  No cell of these rows narrows 'for every input' (looked for: loops, veiled, ifaces, maps, wideKeys, modest, calm, conditions, laid).
  DERIVED. THE GIVEN ROWS OF THIS SEAT. 10 by the template 'for every input the law returns true; each argument reads behind the call as it read before'; 0 by the template 'total and deterministic' (their statements: YtfooilbkiclplaaTotals.lean).
  GIVEN WITH THE SEED: the statements are not yours to turn. If you find one false, say at which input.
  Laid BY PROGRAM, IN A SANDBOX (cutbox-rows.mjs): the forced cells as the released guide's own fill.sh prints them over the translation f8388aa68629cacf… (all of the seat's roots in one cut). By AI agents, Wed Nov 11 2026. No macro, syntax, notation, axiom, sorry.
-/
import Derived.Test.YtfooilbkiclplaaChecked
import GoSem.Claim
import GoSem.ClaimJoined
import GoSem.ClaimMapViews
import Derived.JoinedTies
import Derived.KernelRfl
namespace Go.Proofs.Ytfooilbkiclplaa
/- THE CELL 'sum', in the pinned program and in every row, IS THE sha256 OF THE DUMP (.gsa) THAT YtfooilbkiclplaaProg.lean LOADS. Nothing in Lean hashes anything: it is a label: what it is worth is what the hold of that sum in a sandbox is worth. -/
noncomputable def Try.pinned : Pinned := { name := "ytfooilbkiclplaa", sum := "f8388aa68629cacf66dc6ea97dfe3b95f47199a8791de7c0fb8ee90b4ea68c51", checked := Try.checked }
namespace Rows
def none {H : Type} : Left H := { results := [], args := [] }

/-- 'overlaylaw08.StoreSplits': WHATEVER THE INPUT: true; the input reads as it did. -/
def storeSplitsSpec : ChangeSpec := { name := "storeSplits", fn := fun _ => fun
  | [d1, d2, d3] => { results := [.lit (.bool true)], args := [d1, d2, d3] }
  | _ => none }
def storeSplitsRow : OpenClaim := { program := "ytfooilbkiclplaa", sum := "f8388aa68629cacf66dc6ea97dfe3b95f47199a8791de7c0fb8ee90b4ea68c51", func := "overlay/overlaylaw08.StoreSplits", spec := "storeSplits", apart := false }
def StoreSplitsSaid : Prop := storeSplitsRow.holds Try.pinned (OpenSpec.ofChange storeSplitsSpec)

/-- ITS FALSE NEIGHBOUR: 'it returns false'. Refute it at one input. -/
def storeSplitsWrong : ChangeSpec := { name := "storeSplits", fn := fun _ => fun
  | [d1, d2, d3] => { results := [.lit (.bool false)], args := [d1, d2, d3] }
  | _ => none }
def StoreSplitsWrongFalsely : Prop := storeSplitsRow.holds Try.pinned (OpenSpec.ofChange storeSplitsWrong)

/-- 'overlaylaw08.StoreActs': WHATEVER THE INPUT: true; the input reads as it did. -/
def storeActsSpec : ChangeSpec := { name := "storeActs", fn := fun _ => fun
  | [d1, d2, d3] => { results := [.lit (.bool true)], args := [d1, d2, d3] }
  | _ => none }
def storeActsRow : OpenClaim := { program := "ytfooilbkiclplaa", sum := "f8388aa68629cacf66dc6ea97dfe3b95f47199a8791de7c0fb8ee90b4ea68c51", func := "overlay/overlaylaw08.StoreActs", spec := "storeActs", unfollowed := true, recurses := true, apart := false }
def StoreActsSaid : Prop := storeActsRow.holds Try.pinned (OpenSpec.ofChange storeActsSpec)

/-- ITS FALSE NEIGHBOUR: 'it returns false'. Refute it at one input. -/
def storeActsWrong : ChangeSpec := { name := "storeActs", fn := fun _ => fun
  | [d1, d2, d3] => { results := [.lit (.bool false)], args := [d1, d2, d3] }
  | _ => none }
def StoreActsWrongFalsely : Prop := storeActsRow.holds Try.pinned (OpenSpec.ofChange storeActsWrong)

/-- 'overlaylaw08.StoreKeeps': WHATEVER THE INPUT: true; the input reads as it did. -/
def storeKeepsSpec : ChangeSpec := { name := "storeKeeps", fn := fun _ => fun
  | [d1, d2, d3] => { results := [.lit (.bool true)], args := [d1, d2, d3] }
  | _ => none }
def storeKeepsRow : OpenClaim := { program := "ytfooilbkiclplaa", sum := "f8388aa68629cacf66dc6ea97dfe3b95f47199a8791de7c0fb8ee90b4ea68c51", func := "overlay/overlaylaw08.StoreKeeps", spec := "storeKeeps", unfollowed := true, recurses := true, apart := false }
def StoreKeepsSaid : Prop := storeKeepsRow.holds Try.pinned (OpenSpec.ofChange storeKeepsSpec)

/-- ITS FALSE NEIGHBOUR: 'it returns false'. Refute it at one input. -/
def storeKeepsWrong : ChangeSpec := { name := "storeKeeps", fn := fun _ => fun
  | [d1, d2, d3] => { results := [.lit (.bool false)], args := [d1, d2, d3] }
  | _ => none }
def StoreKeepsWrongFalsely : Prop := storeKeepsRow.holds Try.pinned (OpenSpec.ofChange storeKeepsWrong)

/-- 'overlaylaw08.StoreRuns': WHATEVER THE INPUT: true; the input reads as it did. -/
def storeRunsSpec : ChangeSpec := { name := "storeRuns", fn := fun _ => fun
  | [d1, d2, d3] => { results := [.lit (.bool true)], args := [d1, d2, d3] }
  | _ => none }
def storeRunsRow : OpenClaim := { program := "ytfooilbkiclplaa", sum := "f8388aa68629cacf66dc6ea97dfe3b95f47199a8791de7c0fb8ee90b4ea68c51", func := "overlay/overlaylaw08.StoreRuns", spec := "storeRuns", unfollowed := true, recurses := true, apart := false }
def StoreRunsSaid : Prop := storeRunsRow.holds Try.pinned (OpenSpec.ofChange storeRunsSpec)

/-- ITS FALSE NEIGHBOUR: 'it returns false'. Refute it at one input. -/
def storeRunsWrong : ChangeSpec := { name := "storeRuns", fn := fun _ => fun
  | [d1, d2, d3] => { results := [.lit (.bool false)], args := [d1, d2, d3] }
  | _ => none }
def StoreRunsWrongFalsely : Prop := storeRunsRow.holds Try.pinned (OpenSpec.ofChange storeRunsWrong)

/-- 'overlaylaw04.ContactParts': WHATEVER THE INPUT: true; the input reads as it did. -/
def contactPartsSpec : ChangeSpec := { name := "contactParts", fn := fun _ => fun
  | [d1, d2, d3] => { results := [.lit (.bool true)], args := [d1, d2, d3] }
  | _ => none }
def contactPartsRow : OpenClaim := { program := "ytfooilbkiclplaa", sum := "f8388aa68629cacf66dc6ea97dfe3b95f47199a8791de7c0fb8ee90b4ea68c51", func := "overlay/overlaylaw04.ContactParts", spec := "contactParts", apart := false }
def ContactPartsSaid : Prop := contactPartsRow.holds Try.pinned (OpenSpec.ofChange contactPartsSpec)

/-- ITS FALSE NEIGHBOUR: 'it returns false'. Refute it at one input. -/
def contactPartsWrong : ChangeSpec := { name := "contactParts", fn := fun _ => fun
  | [d1, d2, d3] => { results := [.lit (.bool false)], args := [d1, d2, d3] }
  | _ => none }
def ContactPartsWrongFalsely : Prop := contactPartsRow.holds Try.pinned (OpenSpec.ofChange contactPartsWrong)

/-- 'overlaylaw04.ContactRuns': WHATEVER THE INPUT: true; the input reads as it did. -/
def contactRunsSpec : ChangeSpec := { name := "contactRuns", fn := fun _ => fun
  | [d1, d2, d3] => { results := [.lit (.bool true)], args := [d1, d2, d3] }
  | _ => none }
def contactRunsRow : OpenClaim := { program := "ytfooilbkiclplaa", sum := "f8388aa68629cacf66dc6ea97dfe3b95f47199a8791de7c0fb8ee90b4ea68c51", func := "overlay/overlaylaw04.ContactRuns", spec := "contactRuns", apart := false }
def ContactRunsSaid : Prop := contactRunsRow.holds Try.pinned (OpenSpec.ofChange contactRunsSpec)

/-- ITS FALSE NEIGHBOUR: 'it returns false'. Refute it at one input. -/
def contactRunsWrong : ChangeSpec := { name := "contactRuns", fn := fun _ => fun
  | [d1, d2, d3] => { results := [.lit (.bool false)], args := [d1, d2, d3] }
  | _ => none }
def ContactRunsWrongFalsely : Prop := contactRunsRow.holds Try.pinned (OpenSpec.ofChange contactRunsWrong)

/-- 'overlaylaw04.ContactFollows': WHATEVER THE INPUT: true; the input reads as it did. -/
def contactFollowsSpec : ChangeSpec := { name := "contactFollows", fn := fun _ => fun
  | [d1, d2, d3] => { results := [.lit (.bool true)], args := [d1, d2, d3] }
  | _ => none }
def contactFollowsRow : OpenClaim := { program := "ytfooilbkiclplaa", sum := "f8388aa68629cacf66dc6ea97dfe3b95f47199a8791de7c0fb8ee90b4ea68c51", func := "overlay/overlaylaw04.ContactFollows", spec := "contactFollows", apart := false }
def ContactFollowsSaid : Prop := contactFollowsRow.holds Try.pinned (OpenSpec.ofChange contactFollowsSpec)

/-- ITS FALSE NEIGHBOUR: 'it returns false'. Refute it at one input. -/
def contactFollowsWrong : ChangeSpec := { name := "contactFollows", fn := fun _ => fun
  | [d1, d2, d3] => { results := [.lit (.bool false)], args := [d1, d2, d3] }
  | _ => none }
def ContactFollowsWrongFalsely : Prop := contactFollowsRow.holds Try.pinned (OpenSpec.ofChange contactFollowsWrong)

/-- 'overlaylaw04.ContactApart': WHATEVER THE INPUT: true; the input reads as it did. -/
def contactApartSpec : ChangeSpec := { name := "contactApart", fn := fun _ => fun
  | [d1, d2, d3] => { results := [.lit (.bool true)], args := [d1, d2, d3] }
  | _ => none }
def contactApartRow : OpenClaim := { program := "ytfooilbkiclplaa", sum := "f8388aa68629cacf66dc6ea97dfe3b95f47199a8791de7c0fb8ee90b4ea68c51", func := "overlay/overlaylaw04.ContactApart", spec := "contactApart", apart := false }
def ContactApartSaid : Prop := contactApartRow.holds Try.pinned (OpenSpec.ofChange contactApartSpec)

/-- ITS FALSE NEIGHBOUR: 'it returns false'. Refute it at one input. -/
def contactApartWrong : ChangeSpec := { name := "contactApart", fn := fun _ => fun
  | [d1, d2, d3] => { results := [.lit (.bool false)], args := [d1, d2, d3] }
  | _ => none }
def ContactApartWrongFalsely : Prop := contactApartRow.holds Try.pinned (OpenSpec.ofChange contactApartWrong)

/-- 'overlaylaw04.ContactLimits': WHATEVER THE INPUT: true; the input reads as it did. -/
def contactLimitsSpec : ChangeSpec := { name := "contactLimits", fn := fun _ => fun
  | [d] => { results := [.lit (.bool true)], args := [d] }
  | _ => none }
def contactLimitsRow : OpenClaim := { program := "ytfooilbkiclplaa", sum := "f8388aa68629cacf66dc6ea97dfe3b95f47199a8791de7c0fb8ee90b4ea68c51", func := "overlay/overlaylaw04.ContactLimits", spec := "contactLimits", apart := false }
def ContactLimitsSaid : Prop := contactLimitsRow.holds Try.pinned (OpenSpec.ofChange contactLimitsSpec)

/-- ITS FALSE NEIGHBOUR: 'it returns false'. Refute it at one input. -/
def contactLimitsWrong : ChangeSpec := { name := "contactLimits", fn := fun _ => fun
  | [d] => { results := [.lit (.bool false)], args := [d] }
  | _ => none }
def ContactLimitsWrongFalsely : Prop := contactLimitsRow.holds Try.pinned (OpenSpec.ofChange contactLimitsWrong)

/-- 'overlaylaw04.ContactSteps': WHATEVER THE INPUT: true; the input reads as it did. -/
def contactStepsSpec : ChangeSpec := { name := "contactSteps", fn := fun _ => fun
  | [d1, d2, d3] => { results := [.lit (.bool true)], args := [d1, d2, d3] }
  | _ => none }
def contactStepsRow : OpenClaim := { program := "ytfooilbkiclplaa", sum := "f8388aa68629cacf66dc6ea97dfe3b95f47199a8791de7c0fb8ee90b4ea68c51", func := "overlay/overlaylaw04.ContactSteps", spec := "contactSteps", apart := false }
def ContactStepsSaid : Prop := contactStepsRow.holds Try.pinned (OpenSpec.ofChange contactStepsSpec)

/-- ITS FALSE NEIGHBOUR: 'it returns false'. Refute it at one input. -/
def contactStepsWrong : ChangeSpec := { name := "contactSteps", fn := fun _ => fun
  | [d1, d2, d3] => { results := [.lit (.bool false)], args := [d1, d2, d3] }
  | _ => none }
def ContactStepsWrongFalsely : Prop := contactStepsRow.holds Try.pinned (OpenSpec.ofChange contactStepsWrong)

/- THE SECOND FORM. 'bulk': how many values and letters a reading holds, each counted each time it is reached (what is shared counts as often as it is met; a slice's spare places count too). A statement '..UptoSaid' is the law's where the arguments, and the package variables that the reading takes, are together of bulk at most 1048576: NARROWER than '..Said'. Prove '..Said' where nothing that the law and all that it calls make is longer than what came in: it says more and counts as full. Else prove '..UptoSaid'. A law counts once. -/
mutual
def uptoBulk {H : Type} : DataW H → Nat
  | .lit (.string bytes) => bytes.length + 1
  | .lit _ => 1
  | .nil => 1
  | .ptr d => uptoBulk d + 1
  | .slice elems spare => uptoBulkAll elems + uptoBulkAll spare + 1
  | .agg parts => uptoBulkAll parts + 1
  | .iface _ d => uptoBulk d + 1
  | .map entries => uptoBulkEntries entries + 1
  | .held _ => 1
def uptoBulkAll {H : Type} : List (DataW H) → Nat
  | [] => 0
  | d :: r => uptoBulk d + uptoBulkAll r
def uptoBulkEntries {H : Type} : List (Lit × DataW H) → Nat
  | [] => 0
  | x :: r => uptoBulkEntry x + uptoBulkEntries r
def uptoBulkEntry {H : Type} : Lit × DataW H → Nat
  | (.string bytes, d) => bytes.length + uptoBulk d + 1
  | (_, d) => uptoBulk d + 1
 end
def uptoSmall : (H : Type) → List (DataW H) → Bool := fun _ ds => decide (uptoBulkAll ds ≤ 1048576)
def OpenSpec.upto (s : _root_.Go.ChangeSpec) : _root_.Go.OpenSpec := { _root_.Go.OpenSpec.ofChange s with cond := some uptoSmall }

/-- 'overlaylaw08.StoreSplits', WHERE WHAT IT READS IS OF BULK AT MOST 1048576: true; the input reads as it did. -/
def storeSplitsUptoRow : OpenClaim := { program := "ytfooilbkiclplaa", sum := "f8388aa68629cacf66dc6ea97dfe3b95f47199a8791de7c0fb8ee90b4ea68c51", func := "overlay/overlaylaw08.StoreSplits", spec := "storeSplits", apart := false, narrowed := true }
def StoreSplitsUptoSaid : Prop := storeSplitsUptoRow.holds Try.pinned (OpenSpec.upto storeSplitsSpec)

/-- 'overlaylaw08.StoreActs', WHERE WHAT IT READS IS OF BULK AT MOST 1048576: true; the input reads as it did. -/
def storeActsUptoRow : OpenClaim := { program := "ytfooilbkiclplaa", sum := "f8388aa68629cacf66dc6ea97dfe3b95f47199a8791de7c0fb8ee90b4ea68c51", func := "overlay/overlaylaw08.StoreActs", spec := "storeActs", unfollowed := true, recurses := true, apart := false, narrowed := true }
def StoreActsUptoSaid : Prop := storeActsUptoRow.holds Try.pinned (OpenSpec.upto storeActsSpec)

/-- 'overlaylaw08.StoreKeeps', WHERE WHAT IT READS IS OF BULK AT MOST 1048576: true; the input reads as it did. -/
def storeKeepsUptoRow : OpenClaim := { program := "ytfooilbkiclplaa", sum := "f8388aa68629cacf66dc6ea97dfe3b95f47199a8791de7c0fb8ee90b4ea68c51", func := "overlay/overlaylaw08.StoreKeeps", spec := "storeKeeps", unfollowed := true, recurses := true, apart := false, narrowed := true }
def StoreKeepsUptoSaid : Prop := storeKeepsUptoRow.holds Try.pinned (OpenSpec.upto storeKeepsSpec)

/-- 'overlaylaw08.StoreRuns', WHERE WHAT IT READS IS OF BULK AT MOST 1048576: true; the input reads as it did. -/
def storeRunsUptoRow : OpenClaim := { program := "ytfooilbkiclplaa", sum := "f8388aa68629cacf66dc6ea97dfe3b95f47199a8791de7c0fb8ee90b4ea68c51", func := "overlay/overlaylaw08.StoreRuns", spec := "storeRuns", unfollowed := true, recurses := true, apart := false, narrowed := true }
def StoreRunsUptoSaid : Prop := storeRunsUptoRow.holds Try.pinned (OpenSpec.upto storeRunsSpec)

/-- 'overlaylaw04.ContactParts', WHERE WHAT IT READS IS OF BULK AT MOST 1048576: true; the input reads as it did. -/
def contactPartsUptoRow : OpenClaim := { program := "ytfooilbkiclplaa", sum := "f8388aa68629cacf66dc6ea97dfe3b95f47199a8791de7c0fb8ee90b4ea68c51", func := "overlay/overlaylaw04.ContactParts", spec := "contactParts", apart := false, narrowed := true }
def ContactPartsUptoSaid : Prop := contactPartsUptoRow.holds Try.pinned (OpenSpec.upto contactPartsSpec)

/-- 'overlaylaw04.ContactRuns', WHERE WHAT IT READS IS OF BULK AT MOST 1048576: true; the input reads as it did. -/
def contactRunsUptoRow : OpenClaim := { program := "ytfooilbkiclplaa", sum := "f8388aa68629cacf66dc6ea97dfe3b95f47199a8791de7c0fb8ee90b4ea68c51", func := "overlay/overlaylaw04.ContactRuns", spec := "contactRuns", apart := false, narrowed := true }
def ContactRunsUptoSaid : Prop := contactRunsUptoRow.holds Try.pinned (OpenSpec.upto contactRunsSpec)

/-- 'overlaylaw04.ContactFollows', WHERE WHAT IT READS IS OF BULK AT MOST 1048576: true; the input reads as it did. -/
def contactFollowsUptoRow : OpenClaim := { program := "ytfooilbkiclplaa", sum := "f8388aa68629cacf66dc6ea97dfe3b95f47199a8791de7c0fb8ee90b4ea68c51", func := "overlay/overlaylaw04.ContactFollows", spec := "contactFollows", apart := false, narrowed := true }
def ContactFollowsUptoSaid : Prop := contactFollowsUptoRow.holds Try.pinned (OpenSpec.upto contactFollowsSpec)

/-- 'overlaylaw04.ContactApart', WHERE WHAT IT READS IS OF BULK AT MOST 1048576: true; the input reads as it did. -/
def contactApartUptoRow : OpenClaim := { program := "ytfooilbkiclplaa", sum := "f8388aa68629cacf66dc6ea97dfe3b95f47199a8791de7c0fb8ee90b4ea68c51", func := "overlay/overlaylaw04.ContactApart", spec := "contactApart", apart := false, narrowed := true }
def ContactApartUptoSaid : Prop := contactApartUptoRow.holds Try.pinned (OpenSpec.upto contactApartSpec)

/-- 'overlaylaw04.ContactLimits', WHERE WHAT IT READS IS OF BULK AT MOST 1048576: true; the input reads as it did. -/
def contactLimitsUptoRow : OpenClaim := { program := "ytfooilbkiclplaa", sum := "f8388aa68629cacf66dc6ea97dfe3b95f47199a8791de7c0fb8ee90b4ea68c51", func := "overlay/overlaylaw04.ContactLimits", spec := "contactLimits", apart := false, narrowed := true }
def ContactLimitsUptoSaid : Prop := contactLimitsUptoRow.holds Try.pinned (OpenSpec.upto contactLimitsSpec)

/-- 'overlaylaw04.ContactSteps', WHERE WHAT IT READS IS OF BULK AT MOST 1048576: true; the input reads as it did. -/
def contactStepsUptoRow : OpenClaim := { program := "ytfooilbkiclplaa", sum := "f8388aa68629cacf66dc6ea97dfe3b95f47199a8791de7c0fb8ee90b4ea68c51", func := "overlay/overlaylaw04.ContactSteps", spec := "contactSteps", apart := false, narrowed := true }
def ContactStepsUptoSaid : Prop := contactStepsUptoRow.holds Try.pinned (OpenSpec.upto contactStepsSpec)

end Rows
end Go.Proofs.Ytfooilbkiclplaa
