/-
  DERIVED. GIVEN WITH THE SEED: THE CARDS: each row of YtekfceoganklgaaGreatDoorRows.lean that lists a variable, with what it lists TIED to the program's text (the seventh form; the later family's looks); each row that meets fmt, with fmt's text TOLD by the authors' own Lean function (tested against real Go, not proved from fmt's source: count such statements apart). THE CARD IS WHAT COUNTS. Prove the row's statement (the work); the ties are given (YtekfceoganklgaaGreatDoorTie.lean); close each card by the builder's one call (the guide's Derived/Test/ToyasCard.lean, 'card_holds'). Laid BY PROGRAM, IN A SANDBOX (cutbox-door.mjs). By AI agents, Wed Nov 11 2026. No macro, syntax, notation, axiom, sorry.
-/
import Derived.Test.YtekfceoganklgaaGreatDoorRows
import GoSem.ClaimSeven
namespace Go.Proofs.YtekfceoganklgaaGreatDoor
namespace Rows

/-- THE TIED CARD OF 'diaeresislaw15.EvalPrints'. -/
def evalPrintsCard : Claim7 := { stood := { row := evalPrintsRow, standIns := [], harness := (true, "fbfe4df6334c4b5246b8f337415e6f2e949d37f566d81ff75acf5d28b4e25bdd"), looks := true }, kinds := [], alts := [], laidByText := true, laidKinds := [.data, .data, .data, .data, .handle, .sentinel, .sentinel, .sentinel, .sentinel, .sentinel, .sentinel, .sentinel, .sentinel, .sentinel, .sentinel, .pinned], laidTests := true, laidLooks := .later }
def EvalPrintsCardSaid : Prop := Claim7.holds Tryz.pinned (.plain (OpenSpec.ofChange evalPrintsSpec)) evalPrintsCard

/-- THE SECOND FORM's CARD OF 'diaeresislaw15.EvalPrints'. -/
def evalPrintsUptoCard : Claim7 := { stood := { row := evalPrintsUptoRow, standIns := [], harness := (true, "fbfe4df6334c4b5246b8f337415e6f2e949d37f566d81ff75acf5d28b4e25bdd"), looks := true }, kinds := [], alts := [], laidByText := true, laidKinds := [.data, .data, .data, .data, .handle, .sentinel, .sentinel, .sentinel, .sentinel, .sentinel, .sentinel, .sentinel, .sentinel, .sentinel, .sentinel, .pinned], laidTests := true, laidLooks := .later }
def EvalPrintsUptoCardSaid : Prop := Claim7.holds Tryz.pinned (.plain (OpenSpec.upto evalPrintsSpec)) evalPrintsUptoCard
end Rows
end Go.Proofs.YtekfceoganklgaaGreatDoor
