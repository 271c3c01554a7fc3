/-
  DERIVED. GIVEN WITH THE SEED: THE CARDS: each row of YthakoglihciegaaGreatDoorRows.lean that lists a variable, with what it lists TIED to the program's text (the seventh form; the later family's looks); each row that meets fmt, with fmt's text TOLD by the authors' own Lean function (tested against real Go, not proved from fmt's source: count such statements apart). THE CARD IS WHAT COUNTS. Prove the row's statement (the work); the ties are given (YthakoglihciegaaGreatDoorTie.lean); close each card by the builder's one call (the guide's Derived/Test/ToyasCard.lean, 'card_holds'). Laid BY PROGRAM, IN A SANDBOX (cutbox-door.mjs). By AI agents, Wed Nov 11 2026. No macro, syntax, notation, axiom, sorry.
-/
import Derived.Test.YthakoglihciegaaGreatDoorRows
import GoSem.ClaimSeven
namespace Go.Proofs.YthakoglihciegaaGreatDoor
namespace Rows

/-- THE TIED CARD OF 'diaeresislaw13.DeriveOperators'. -/
def deriveOperatorsCard : Claim7 := { stood := { row := deriveOperatorsRow, standIns := [], harness := (true, "25aef5475b21d898c71a3f168c0ac53cbeef0f941642e619d4c9685e481d2ed0"), looks := true }, kinds := [], alts := [], laidByText := true, laidKinds := [.data, .data, .data, .data, .handle, .sentinel, .sentinel, .pinned], laidTests := true, laidLooks := .later }
def DeriveOperatorsCardSaid : Prop := Claim7.holds Tryz.pinned (.plain (OpenSpec.ofChange deriveOperatorsSpec)) deriveOperatorsCard

/-- THE SECOND FORM's CARD OF 'diaeresislaw13.DeriveOperators'. -/
def deriveOperatorsUptoCard : Claim7 := { stood := { row := deriveOperatorsUptoRow, standIns := [], harness := (true, "25aef5475b21d898c71a3f168c0ac53cbeef0f941642e619d4c9685e481d2ed0"), looks := true }, kinds := [], alts := [], laidByText := true, laidKinds := [.data, .data, .data, .data, .handle, .sentinel, .sentinel, .pinned], laidTests := true, laidLooks := .later }
def DeriveOperatorsUptoCardSaid : Prop := Claim7.holds Tryz.pinned (.plain (OpenSpec.upto deriveOperatorsSpec)) deriveOperatorsUptoCard
end Rows
end Go.Proofs.YthakoglihciegaaGreatDoor
