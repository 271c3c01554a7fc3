/-
  DERIVED. GIVEN WITH THE SEED: THE CARDS: each row of YtglakhjbcnajfaaGreatDoorRows.lean that lists a variable, with what it lists TIED to the program's text (the seventh form; the later family's looks); each row that meets fmt, with fmt's text TOLD by the authors' own Lean function (tested against real Go, not proved from fmt's source: count such statements apart). THE CARD IS WHAT COUNTS. Prove the row's statement (the work); the ties are given (YtglakhjbcnajfaaGreatDoorTie.lean); close each card by the builder's one call (the guide's Derived/Test/ToyasCard.lean, 'card_holds'). Laid BY PROGRAM, IN A SANDBOX (cutbox-door.mjs). By AI agents, Wed Nov 11 2026. No macro, syntax, notation, axiom, sorry.
-/
import Derived.Test.YtglakhjbcnajfaaGreatDoorRows
import GoSem.ClaimSeven
namespace Go.Proofs.YtglakhjbcnajfaaGreatDoor
namespace Rows

/-- THE TIED CARD OF 'diaeresislaw12.ShapeRights'. -/
def shapeRightsCard : Claim7 := { stood := { row := shapeRightsRow, standIns := [], harness := (true, "dc08e5c03ca60aafb4de8c9f88d1ff850ef229d906d45facb5d3cb59e6e036d0"), looks := true }, kinds := [], alts := [], laidByText := true, laidKinds := [.data, .data, .data, .data, .handle, .pinned], laidTests := true, laidLooks := .later }
def ShapeRightsCardSaid : Prop := Claim7.holds Tryz.pinned (.plain (OpenSpec.ofChange shapeRightsSpec)) shapeRightsCard

/-- THE TIED CARD OF 'diaeresislaw12.ShapeTurns'. -/
def shapeTurnsCard : Claim7 := { stood := { row := shapeTurnsRow, standIns := [], harness := (true, "dc08e5c03ca60aafb4de8c9f88d1ff850ef229d906d45facb5d3cb59e6e036d0"), looks := true }, kinds := [], alts := [], laidByText := true, laidKinds := [.data, .data, .data, .data, .handle, .pinned], laidTests := true, laidLooks := .later }
def ShapeTurnsCardSaid : Prop := Claim7.holds Tryz.pinned (.plain (OpenSpec.ofChange shapeTurnsSpec)) shapeTurnsCard

/-- THE TIED CARD OF 'diaeresislaw12.ShapeParts'. -/
def shapePartsCard : Claim7 := { stood := { row := shapePartsRow, standIns := [], harness := (true, "dc08e5c03ca60aafb4de8c9f88d1ff850ef229d906d45facb5d3cb59e6e036d0"), looks := true }, kinds := [], alts := [], laidByText := true, laidKinds := [.data, .data, .data, .data, .handle, .pinned], laidTests := true, laidLooks := .later }
def ShapePartsCardSaid : Prop := Claim7.holds Tryz.pinned (.plain (OpenSpec.ofChange shapePartsSpec)) shapePartsCard

/-- THE TIED CARD OF 'diaeresislaw12.ShapeFinds'. -/
def shapeFindsCard : Claim7 := { stood := { row := shapeFindsRow, standIns := [], harness := (true, "dc08e5c03ca60aafb4de8c9f88d1ff850ef229d906d45facb5d3cb59e6e036d0"), looks := true }, kinds := [], alts := [], laidByText := true, laidKinds := [.data, .data, .data, .data, .handle, .pinned], laidTests := true, laidLooks := .later }
def ShapeFindsCardSaid : Prop := Claim7.holds Tryz.pinned (.plain (OpenSpec.ofChange shapeFindsSpec)) shapeFindsCard

/-- THE TIED CARD OF 'diaeresislaw12.ShapeCounts'. -/
def shapeCountsCard : Claim7 := { stood := { row := shapeCountsRow, standIns := [], harness := (true, "dc08e5c03ca60aafb4de8c9f88d1ff850ef229d906d45facb5d3cb59e6e036d0"), looks := true }, kinds := [], alts := [], laidByText := true, laidKinds := [.data, .data, .data, .data, .handle, .pinned], laidTests := true, laidLooks := .later }
def ShapeCountsCardSaid : Prop := Claim7.holds Tryz.pinned (.plain (OpenSpec.ofChange shapeCountsSpec)) shapeCountsCard

/-- THE TIED CARD OF 'diaeresislaw12.ShapeSizes'. -/
def shapeSizesCard : Claim7 := { stood := { row := shapeSizesRow, standIns := [], harness := (true, "dc08e5c03ca60aafb4de8c9f88d1ff850ef229d906d45facb5d3cb59e6e036d0"), looks := true }, kinds := [], alts := [], laidByText := true, laidKinds := [.data, .data, .data, .data, .handle, .pinned], laidTests := true, laidLooks := .later }
def ShapeSizesCardSaid : Prop := Claim7.holds Tryz.pinned (.plain (OpenSpec.ofChange shapeSizesSpec)) shapeSizesCard

/-- THE TIED CARD OF 'diaeresislaw12.ShapeDiffers'. -/
def shapeDiffersCard : Claim7 := { stood := { row := shapeDiffersRow, standIns := [], harness := (true, "dc08e5c03ca60aafb4de8c9f88d1ff850ef229d906d45facb5d3cb59e6e036d0"), looks := true }, kinds := [], alts := [], laidByText := true, laidKinds := [.data, .data, .data, .data, .handle, .pinned], laidTests := true, laidLooks := .later }
def ShapeDiffersCardSaid : Prop := Claim7.holds Tryz.pinned (.plain (OpenSpec.ofChange shapeDiffersSpec)) shapeDiffersCard

/-- THE TIED CARD OF 'diaeresislaw12.ShapeDoes'. -/
def shapeDoesCard : Claim7 := { stood := { row := shapeDoesRow, standIns := [], harness := (true, "dc08e5c03ca60aafb4de8c9f88d1ff850ef229d906d45facb5d3cb59e6e036d0"), looks := true }, kinds := [], alts := [], laidByText := true, laidKinds := [.data, .data, .data, .data, .handle, .pinned], laidTests := true, laidLooks := .later }
def ShapeDoesCardSaid : Prop := Claim7.holds Tryz.pinned (.plain (OpenSpec.ofChange shapeDoesSpec)) shapeDoesCard

/-- THE SECOND FORM's CARD OF 'diaeresislaw12.ShapeRights'. -/
def shapeRightsUptoCard : Claim7 := { stood := { row := shapeRightsUptoRow, standIns := [], harness := (true, "dc08e5c03ca60aafb4de8c9f88d1ff850ef229d906d45facb5d3cb59e6e036d0"), looks := true }, kinds := [], alts := [], laidByText := true, laidKinds := [.data, .data, .data, .data, .handle, .pinned], laidTests := true, laidLooks := .later }
def ShapeRightsUptoCardSaid : Prop := Claim7.holds Tryz.pinned (.plain (OpenSpec.upto shapeRightsSpec)) shapeRightsUptoCard

/-- THE SECOND FORM's CARD OF 'diaeresislaw12.ShapeTurns'. -/
def shapeTurnsUptoCard : Claim7 := { stood := { row := shapeTurnsUptoRow, standIns := [], harness := (true, "dc08e5c03ca60aafb4de8c9f88d1ff850ef229d906d45facb5d3cb59e6e036d0"), looks := true }, kinds := [], alts := [], laidByText := true, laidKinds := [.data, .data, .data, .data, .handle, .pinned], laidTests := true, laidLooks := .later }
def ShapeTurnsUptoCardSaid : Prop := Claim7.holds Tryz.pinned (.plain (OpenSpec.upto shapeTurnsSpec)) shapeTurnsUptoCard

/-- THE SECOND FORM's CARD OF 'diaeresislaw12.ShapeParts'. -/
def shapePartsUptoCard : Claim7 := { stood := { row := shapePartsUptoRow, standIns := [], harness := (true, "dc08e5c03ca60aafb4de8c9f88d1ff850ef229d906d45facb5d3cb59e6e036d0"), looks := true }, kinds := [], alts := [], laidByText := true, laidKinds := [.data, .data, .data, .data, .handle, .pinned], laidTests := true, laidLooks := .later }
def ShapePartsUptoCardSaid : Prop := Claim7.holds Tryz.pinned (.plain (OpenSpec.upto shapePartsSpec)) shapePartsUptoCard

/-- THE SECOND FORM's CARD OF 'diaeresislaw12.ShapeFinds'. -/
def shapeFindsUptoCard : Claim7 := { stood := { row := shapeFindsUptoRow, standIns := [], harness := (true, "dc08e5c03ca60aafb4de8c9f88d1ff850ef229d906d45facb5d3cb59e6e036d0"), looks := true }, kinds := [], alts := [], laidByText := true, laidKinds := [.data, .data, .data, .data, .handle, .pinned], laidTests := true, laidLooks := .later }
def ShapeFindsUptoCardSaid : Prop := Claim7.holds Tryz.pinned (.plain (OpenSpec.upto shapeFindsSpec)) shapeFindsUptoCard

/-- THE SECOND FORM's CARD OF 'diaeresislaw12.ShapeCounts'. -/
def shapeCountsUptoCard : Claim7 := { stood := { row := shapeCountsUptoRow, standIns := [], harness := (true, "dc08e5c03ca60aafb4de8c9f88d1ff850ef229d906d45facb5d3cb59e6e036d0"), looks := true }, kinds := [], alts := [], laidByText := true, laidKinds := [.data, .data, .data, .data, .handle, .pinned], laidTests := true, laidLooks := .later }
def ShapeCountsUptoCardSaid : Prop := Claim7.holds Tryz.pinned (.plain (OpenSpec.upto shapeCountsSpec)) shapeCountsUptoCard

/-- THE SECOND FORM's CARD OF 'diaeresislaw12.ShapeSizes'. -/
def shapeSizesUptoCard : Claim7 := { stood := { row := shapeSizesUptoRow, standIns := [], harness := (true, "dc08e5c03ca60aafb4de8c9f88d1ff850ef229d906d45facb5d3cb59e6e036d0"), looks := true }, kinds := [], alts := [], laidByText := true, laidKinds := [.data, .data, .data, .data, .handle, .pinned], laidTests := true, laidLooks := .later }
def ShapeSizesUptoCardSaid : Prop := Claim7.holds Tryz.pinned (.plain (OpenSpec.upto shapeSizesSpec)) shapeSizesUptoCard

/-- THE SECOND FORM's CARD OF 'diaeresislaw12.ShapeDiffers'. -/
def shapeDiffersUptoCard : Claim7 := { stood := { row := shapeDiffersUptoRow, standIns := [], harness := (true, "dc08e5c03ca60aafb4de8c9f88d1ff850ef229d906d45facb5d3cb59e6e036d0"), looks := true }, kinds := [], alts := [], laidByText := true, laidKinds := [.data, .data, .data, .data, .handle, .pinned], laidTests := true, laidLooks := .later }
def ShapeDiffersUptoCardSaid : Prop := Claim7.holds Tryz.pinned (.plain (OpenSpec.upto shapeDiffersSpec)) shapeDiffersUptoCard

/-- THE SECOND FORM's CARD OF 'diaeresislaw12.ShapeDoes'. -/
def shapeDoesUptoCard : Claim7 := { stood := { row := shapeDoesUptoRow, standIns := [], harness := (true, "dc08e5c03ca60aafb4de8c9f88d1ff850ef229d906d45facb5d3cb59e6e036d0"), looks := true }, kinds := [], alts := [], laidByText := true, laidKinds := [.data, .data, .data, .data, .handle, .pinned], laidTests := true, laidLooks := .later }
def ShapeDoesUptoCardSaid : Prop := Claim7.holds Tryz.pinned (.plain (OpenSpec.upto shapeDoesSpec)) shapeDoesUptoCard
end Rows
end Go.Proofs.YtglakhjbcnajfaaGreatDoor
