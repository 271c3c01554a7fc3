/-
  DERIVED. GIVEN WITH THE SEED: THE CARDS: each row of YtpkicjjenbdejaaGreatDoorRows.lean that lists a variable, with what it lists TIED to the program's text (the seventh form; the later family's looks); each row that meets fmt, with fmt's text TOLD by the authors' own Lean function (tested against real Go, not proved from fmt's source: count such statements apart). THE CARD IS WHAT COUNTS. Prove the row's statement (the work); the ties are given (YtpkicjjenbdejaaGreatDoorTie.lean); close each card by the builder's one call (the guide's Derived/Test/ToyasCard.lean, 'card_holds'). Laid BY PROGRAM, IN A SANDBOX (cutbox-door.mjs). By AI agents, Wed Nov 11 2026. No macro, syntax, notation, axiom, sorry.
-/
import Derived.Test.YtpkicjjenbdejaaGreatDoorRows
import GoSem.ClaimSeven
namespace Go.Proofs.YtpkicjjenbdejaaGreatDoor
namespace Rows

/-- THE TIED CARD OF 'diaeresislaw20.ServerNone'. -/
def serverNoneCard : Claim7 := { stood := { row := serverNoneRow, standIns := [], harness := (true, "d173d4e6fee26f23d29c88e18a172a3b95ed07b804eb056ac780e092814bde47"), looks := true }, kinds := [], alts := [], laidByText := true, laidKinds := [.pinned, .data, .sentinel, .sentinel, .sentinel, .data, .data, .data, .handle, .sentinel, .sentinel, .sentinel, .sentinel, .sentinel, .sentinel, .sentinel, .sentinel, .sentinel, .sentinel, .sentinel, .sentinel, .sentinel], laidTests := true, laidLooks := .later }
def ServerNoneCardSaid : Prop := Claim7.holds Tryz.pinned (.plain (OpenSpec.ofChange serverNoneSpec)) serverNoneCard

/-- THE SECOND FORM's CARD OF 'diaeresislaw20.ServerNone'. -/
def serverNoneUptoCard : Claim7 := { stood := { row := serverNoneUptoRow, standIns := [], harness := (true, "d173d4e6fee26f23d29c88e18a172a3b95ed07b804eb056ac780e092814bde47"), looks := true }, kinds := [], alts := [], laidByText := true, laidKinds := [.pinned, .data, .sentinel, .sentinel, .sentinel, .data, .data, .data, .handle, .sentinel, .sentinel, .sentinel, .sentinel, .sentinel, .sentinel, .sentinel, .sentinel, .sentinel, .sentinel, .sentinel, .sentinel, .sentinel], laidTests := true, laidLooks := .later }
def ServerNoneUptoCardSaid : Prop := Claim7.holds Tryz.pinned (.plain (OpenSpec.upto serverNoneSpec)) serverNoneUptoCard
end Rows
end Go.Proofs.YtpkicjjenbdejaaGreatDoor
