/-
  DERIVED. GIVEN WITH THE SEED: THE CARDS: each row of YtmcmnpjjnebfcaaGreatDoorRows.lean that lists a variable, with what it lists TIED to the program's text (the seventh form; the later family's looks); each row that meets fmt, with fmt's text TOLD by the authors' own Lean function (tested against real Go, not proved from fmt's source: count such statements apart). THE CARD IS WHAT COUNTS. Prove the row's statement (the work); the ties are given (YtmcmnpjjnebfcaaGreatDoorTie.lean); close each card by the builder's one call (the guide's Derived/Test/ToyasCard.lean, 'card_holds'). Laid BY PROGRAM, IN A SANDBOX (cutbox-door.mjs). By AI agents, Wed Nov 11 2026. No macro, syntax, notation, axiom, sorry.
-/
import Derived.Test.YtmcmnpjjnebfcaaGreatDoorRows
import GoSem.ClaimSeven
namespace Go.Proofs.YtmcmnpjjnebfcaaGreatDoor
namespace Rows

/-- THE TIED CARD OF 'diaeresislaw13.DeriveFunctions'. -/
def deriveFunctionsCard : Claim7 := { stood := { row := deriveFunctionsRow, standIns := [], harness := (true, "f8f29b3f0d0c8778bb6bb570e33dc21e65d04672a79d2c53e58f8b6fca510d03"), looks := true }, kinds := [], alts := [], laidByText := true, laidKinds := [.data, .data, .data, .data, .handle, .sentinel, .sentinel, .pinned], laidTests := true, laidLooks := .later }
def DeriveFunctionsCardSaid : Prop := Claim7.holds Tryz.pinned (.plain (OpenSpec.ofChange deriveFunctionsSpec)) deriveFunctionsCard

/-- THE SECOND FORM's CARD OF 'diaeresislaw13.DeriveFunctions'. -/
def deriveFunctionsUptoCard : Claim7 := { stood := { row := deriveFunctionsUptoRow, standIns := [], harness := (true, "f8f29b3f0d0c8778bb6bb570e33dc21e65d04672a79d2c53e58f8b6fca510d03"), looks := true }, kinds := [], alts := [], laidByText := true, laidKinds := [.data, .data, .data, .data, .handle, .sentinel, .sentinel, .pinned], laidTests := true, laidLooks := .later }
def DeriveFunctionsUptoCardSaid : Prop := Claim7.holds Tryz.pinned (.plain (OpenSpec.upto deriveFunctionsSpec)) deriveFunctionsUptoCard
end Rows
end Go.Proofs.YtmcmnpjjnebfcaaGreatDoor
