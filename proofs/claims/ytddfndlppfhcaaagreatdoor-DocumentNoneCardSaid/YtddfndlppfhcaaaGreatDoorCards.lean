/-
  DERIVED. GIVEN WITH THE SEED: THE CARDS: each row of YtddfndlppfhcaaaGreatDoorRows.lean that lists a variable, with what it lists TIED to the program's text (the seventh form; the later family's looks); each row that meets fmt, with fmt's text TOLD by the authors' own Lean function (tested against real Go, not proved from fmt's source: count such statements apart). THE CARD IS WHAT COUNTS. Prove the row's statement (the work); the ties are given (YtddfndlppfhcaaaGreatDoorTie.lean); close each card by the builder's one call (the guide's Derived/Test/ToyasCard.lean, 'card_holds'). Laid BY PROGRAM, IN A SANDBOX (cutbox-door.mjs). By AI agents, Wed Nov 11 2026. No macro, syntax, notation, axiom, sorry.
-/
import Derived.Test.YtddfndlppfhcaaaGreatDoorRows
import GoSem.ClaimSeven
namespace Go.Proofs.YtddfndlppfhcaaaGreatDoor
namespace Rows

/-- THE TIED CARD OF 'diaeresislaw09.DocumentNone'. -/
def documentNoneCard : Claim7 := { stood := { row := documentNoneRow, standIns := [], harness := (true, "fe390a1edf2aa4c1bd5745f3f0f1bd5308ac644ac7fdaf205608dc83bc75f120"), looks := true }, kinds := [], alts := [], laidByText := true, laidKinds := [.data, .data, .data, .data, .handle, .sentinel, .sentinel, .sentinel, .sentinel, .sentinel, .pinned], laidTests := true, laidLooks := .later }
def DocumentNoneCardSaid : Prop := Claim7.holds Tryz.pinned (.plain (OpenSpec.ofChange documentNoneSpec)) documentNoneCard

/-- THE SECOND FORM's CARD OF 'diaeresislaw09.DocumentNone'. -/
def documentNoneUptoCard : Claim7 := { stood := { row := documentNoneUptoRow, standIns := [], harness := (true, "fe390a1edf2aa4c1bd5745f3f0f1bd5308ac644ac7fdaf205608dc83bc75f120"), looks := true }, kinds := [], alts := [], laidByText := true, laidKinds := [.data, .data, .data, .data, .handle, .sentinel, .sentinel, .sentinel, .sentinel, .sentinel, .pinned], laidTests := true, laidLooks := .later }
def DocumentNoneUptoCardSaid : Prop := Claim7.holds Tryz.pinned (.plain (OpenSpec.upto documentNoneSpec)) documentNoneUptoCard
end Rows
end Go.Proofs.YtddfndlppfhcaaaGreatDoor
