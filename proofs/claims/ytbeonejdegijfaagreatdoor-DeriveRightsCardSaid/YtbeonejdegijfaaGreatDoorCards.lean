/-
  DERIVED. GIVEN WITH THE SEED: THE CARDS: each row of YtbeonejdegijfaaGreatDoorRows.lean that lists a variable, with what it lists TIED to the program's text (the seventh form; the later family's looks); each row that meets fmt, with fmt's text TOLD by the authors' own Lean function (tested against real Go, not proved from fmt's source: count such statements apart). THE CARD IS WHAT COUNTS. Prove the row's statement (the work); the ties are given (YtbeonejdegijfaaGreatDoorTie.lean); close each card by the builder's one call (the guide's Derived/Test/ToyasCard.lean, 'card_holds'). Laid BY PROGRAM, IN A SANDBOX (cutbox-door.mjs). By AI agents, Wed Nov 11 2026. No macro, syntax, notation, axiom, sorry.
-/
import Derived.Test.YtbeonejdegijfaaGreatDoorRows
import GoSem.ClaimSeven
namespace Go.Proofs.YtbeonejdegijfaaGreatDoor
namespace Rows

/-- THE TIED CARD OF 'diaeresislaw13.DeriveFunctions'. -/
def deriveFunctionsCard : Claim7 := { stood := { row := deriveFunctionsRow, standIns := [], harness := (true, "a956305c45f591150464d50169e74aa4066da4b801df29c6506d537ce770211f"), looks := true }, kinds := [], alts := [], laidByText := true, laidKinds := [.data, .data, .data, .data, .handle, .sentinel, .sentinel, .pinned], laidTests := true, laidLooks := .later }
def DeriveFunctionsCardSaid : Prop := Claim7.holds Tryz.pinned (.plain (OpenSpec.ofChange deriveFunctionsSpec)) deriveFunctionsCard

/-- THE TIED CARD OF 'diaeresislaw13.DeriveOperators'. -/
def deriveOperatorsCard : Claim7 := { stood := { row := deriveOperatorsRow, standIns := [], harness := (true, "a956305c45f591150464d50169e74aa4066da4b801df29c6506d537ce770211f"), looks := true }, kinds := [], alts := [], laidByText := true, laidKinds := [.data, .data, .data, .data, .handle, .sentinel, .sentinel, .pinned], laidTests := true, laidLooks := .later }
def DeriveOperatorsCardSaid : Prop := Claim7.holds Tryz.pinned (.plain (OpenSpec.ofChange deriveOperatorsSpec)) deriveOperatorsCard

/-- THE TIED CARD OF 'diaeresislaw13.DeriveSums'. -/
def deriveSumsCard : Claim7 := { stood := { row := deriveSumsRow, standIns := [], harness := (true, "a956305c45f591150464d50169e74aa4066da4b801df29c6506d537ce770211f"), looks := true }, kinds := [], alts := [], laidByText := true, laidKinds := [.data, .data, .data, .data, .handle, .sentinel, .sentinel, .pinned], laidTests := true, laidLooks := .later }
def DeriveSumsCardSaid : Prop := Claim7.holds Tryz.pinned (.plain (OpenSpec.ofChange deriveSumsSpec)) deriveSumsCard

/-- THE TIED CARD OF 'diaeresislaw13.DeriveRights'. -/
def deriveRightsCard : Claim7 := { stood := { row := deriveRightsRow, standIns := [], harness := (true, "a956305c45f591150464d50169e74aa4066da4b801df29c6506d537ce770211f"), looks := true }, kinds := [], alts := [], laidByText := true, laidKinds := [.data, .data, .data, .data, .handle, .sentinel, .sentinel, .pinned], laidTests := true, laidLooks := .later }
def DeriveRightsCardSaid : Prop := Claim7.holds Tryz.pinned (.plain (OpenSpec.ofChange deriveRightsSpec)) deriveRightsCard

/-- THE TIED CARD OF 'diaeresislaw13.DeriveGreatest'. -/
def deriveGreatestCard : Claim7 := { stood := { row := deriveGreatestRow, standIns := [], harness := (true, "a956305c45f591150464d50169e74aa4066da4b801df29c6506d537ce770211f"), looks := true }, kinds := [], alts := [], laidByText := true, laidKinds := [.data, .data, .data, .data, .handle, .sentinel, .sentinel, .pinned], laidTests := true, laidLooks := .later }
def DeriveGreatestCardSaid : Prop := Claim7.holds Tryz.pinned (.plain (OpenSpec.ofChange deriveGreatestSpec)) deriveGreatestCard

/-- THE TIED CARD OF 'diaeresislaw13.DeriveSame'. -/
def deriveSameCard : Claim7 := { stood := { row := deriveSameRow, standIns := [], harness := (true, "a956305c45f591150464d50169e74aa4066da4b801df29c6506d537ce770211f"), looks := true }, kinds := [], alts := [], laidByText := true, laidKinds := [.data, .data, .data, .data, .handle, .sentinel, .sentinel, .pinned], laidTests := true, laidLooks := .later }
def DeriveSameCardSaid : Prop := Claim7.holds Tryz.pinned (.plain (OpenSpec.ofChange deriveSameSpec)) deriveSameCard

/-- THE TIED CARD OF 'diaeresislaw13.DeriveGathers'. -/
def deriveGathersCard : Claim7 := { stood := { row := deriveGathersRow, standIns := [], harness := (true, "a956305c45f591150464d50169e74aa4066da4b801df29c6506d537ce770211f"), looks := true }, kinds := [], alts := [], laidByText := true, laidKinds := [.data, .data, .data, .data, .handle, .sentinel, .sentinel, .pinned], laidTests := true, laidLooks := .later }
def DeriveGathersCardSaid : Prop := Claim7.holds Tryz.pinned (.plain (OpenSpec.ofChange deriveGathersSpec)) deriveGathersCard

/-- THE TIED CARD OF 'diaeresislaw13.DeriveBack'. -/
def deriveBackCard : Claim7 := { stood := { row := deriveBackRow, standIns := [], harness := (true, "a956305c45f591150464d50169e74aa4066da4b801df29c6506d537ce770211f"), looks := true }, kinds := [], alts := [], laidByText := true, laidKinds := [.data, .data, .data, .data, .handle, .sentinel, .sentinel, .pinned], laidTests := true, laidLooks := .later }
def DeriveBackCardSaid : Prop := Claim7.holds Tryz.pinned (.plain (OpenSpec.ofChange deriveBackSpec)) deriveBackCard

/-- THE SECOND FORM's CARD OF 'diaeresislaw13.DeriveFunctions'. -/
def deriveFunctionsUptoCard : Claim7 := { stood := { row := deriveFunctionsUptoRow, standIns := [], harness := (true, "a956305c45f591150464d50169e74aa4066da4b801df29c6506d537ce770211f"), looks := true }, kinds := [], alts := [], laidByText := true, laidKinds := [.data, .data, .data, .data, .handle, .sentinel, .sentinel, .pinned], laidTests := true, laidLooks := .later }
def DeriveFunctionsUptoCardSaid : Prop := Claim7.holds Tryz.pinned (.plain (OpenSpec.upto deriveFunctionsSpec)) deriveFunctionsUptoCard

/-- THE SECOND FORM's CARD OF 'diaeresislaw13.DeriveOperators'. -/
def deriveOperatorsUptoCard : Claim7 := { stood := { row := deriveOperatorsUptoRow, standIns := [], harness := (true, "a956305c45f591150464d50169e74aa4066da4b801df29c6506d537ce770211f"), looks := true }, kinds := [], alts := [], laidByText := true, laidKinds := [.data, .data, .data, .data, .handle, .sentinel, .sentinel, .pinned], laidTests := true, laidLooks := .later }
def DeriveOperatorsUptoCardSaid : Prop := Claim7.holds Tryz.pinned (.plain (OpenSpec.upto deriveOperatorsSpec)) deriveOperatorsUptoCard

/-- THE SECOND FORM's CARD OF 'diaeresislaw13.DeriveSums'. -/
def deriveSumsUptoCard : Claim7 := { stood := { row := deriveSumsUptoRow, standIns := [], harness := (true, "a956305c45f591150464d50169e74aa4066da4b801df29c6506d537ce770211f"), looks := true }, kinds := [], alts := [], laidByText := true, laidKinds := [.data, .data, .data, .data, .handle, .sentinel, .sentinel, .pinned], laidTests := true, laidLooks := .later }
def DeriveSumsUptoCardSaid : Prop := Claim7.holds Tryz.pinned (.plain (OpenSpec.upto deriveSumsSpec)) deriveSumsUptoCard

/-- THE SECOND FORM's CARD OF 'diaeresislaw13.DeriveRights'. -/
def deriveRightsUptoCard : Claim7 := { stood := { row := deriveRightsUptoRow, standIns := [], harness := (true, "a956305c45f591150464d50169e74aa4066da4b801df29c6506d537ce770211f"), looks := true }, kinds := [], alts := [], laidByText := true, laidKinds := [.data, .data, .data, .data, .handle, .sentinel, .sentinel, .pinned], laidTests := true, laidLooks := .later }
def DeriveRightsUptoCardSaid : Prop := Claim7.holds Tryz.pinned (.plain (OpenSpec.upto deriveRightsSpec)) deriveRightsUptoCard

/-- THE SECOND FORM's CARD OF 'diaeresislaw13.DeriveGreatest'. -/
def deriveGreatestUptoCard : Claim7 := { stood := { row := deriveGreatestUptoRow, standIns := [], harness := (true, "a956305c45f591150464d50169e74aa4066da4b801df29c6506d537ce770211f"), looks := true }, kinds := [], alts := [], laidByText := true, laidKinds := [.data, .data, .data, .data, .handle, .sentinel, .sentinel, .pinned], laidTests := true, laidLooks := .later }
def DeriveGreatestUptoCardSaid : Prop := Claim7.holds Tryz.pinned (.plain (OpenSpec.upto deriveGreatestSpec)) deriveGreatestUptoCard

/-- THE SECOND FORM's CARD OF 'diaeresislaw13.DeriveSame'. -/
def deriveSameUptoCard : Claim7 := { stood := { row := deriveSameUptoRow, standIns := [], harness := (true, "a956305c45f591150464d50169e74aa4066da4b801df29c6506d537ce770211f"), looks := true }, kinds := [], alts := [], laidByText := true, laidKinds := [.data, .data, .data, .data, .handle, .sentinel, .sentinel, .pinned], laidTests := true, laidLooks := .later }
def DeriveSameUptoCardSaid : Prop := Claim7.holds Tryz.pinned (.plain (OpenSpec.upto deriveSameSpec)) deriveSameUptoCard

/-- THE SECOND FORM's CARD OF 'diaeresislaw13.DeriveGathers'. -/
def deriveGathersUptoCard : Claim7 := { stood := { row := deriveGathersUptoRow, standIns := [], harness := (true, "a956305c45f591150464d50169e74aa4066da4b801df29c6506d537ce770211f"), looks := true }, kinds := [], alts := [], laidByText := true, laidKinds := [.data, .data, .data, .data, .handle, .sentinel, .sentinel, .pinned], laidTests := true, laidLooks := .later }
def DeriveGathersUptoCardSaid : Prop := Claim7.holds Tryz.pinned (.plain (OpenSpec.upto deriveGathersSpec)) deriveGathersUptoCard

/-- THE SECOND FORM's CARD OF 'diaeresislaw13.DeriveBack'. -/
def deriveBackUptoCard : Claim7 := { stood := { row := deriveBackUptoRow, standIns := [], harness := (true, "a956305c45f591150464d50169e74aa4066da4b801df29c6506d537ce770211f"), looks := true }, kinds := [], alts := [], laidByText := true, laidKinds := [.data, .data, .data, .data, .handle, .sentinel, .sentinel, .pinned], laidTests := true, laidLooks := .later }
def DeriveBackUptoCardSaid : Prop := Claim7.holds Tryz.pinned (.plain (OpenSpec.upto deriveBackSpec)) deriveBackUptoCard
end Rows
end Go.Proofs.YtbeonejdegijfaaGreatDoor
