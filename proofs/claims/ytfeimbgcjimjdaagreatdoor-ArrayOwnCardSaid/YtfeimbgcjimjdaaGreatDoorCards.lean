/-
  DERIVED. GIVEN WITH THE SEED: THE CARDS: each row of YtfeimbgcjimjdaaGreatDoorRows.lean that lists a variable, with what it lists TIED to the program's text (the seventh form; the later family's looks); each row that meets fmt, with fmt's text TOLD by the authors' own Lean function (tested against real Go, not proved from fmt's source: count such statements apart). THE CARD IS WHAT COUNTS. Prove the row's statement (the work); the ties are given (YtfeimbgcjimjdaaGreatDoorTie.lean); close each card by the builder's one call (the guide's Derived/Test/ToyasCard.lean, 'card_holds'). Laid BY PROGRAM, IN A SANDBOX (cutbox-door.mjs). By AI agents, Wed Nov 11 2026. No macro, syntax, notation, axiom, sorry.
-/
import Derived.Test.YtfeimbgcjimjdaaGreatDoorRows
import GoSem.ClaimSeven
namespace Go.Proofs.YtfeimbgcjimjdaaGreatDoor
namespace Rows

/-- THE TIED CARD OF 'diaeresislaw11.ArrayItems'. -/
def arrayItemsCard : Claim7 := { stood := { row := arrayItemsRow, standIns := [], harness := (true, "157bd4b918ca92eb60a1c61cc42d094fed85e8ad9536dbb68a8de8aec17f2ef5"), looks := true }, kinds := [], alts := [], laidByText := true, laidKinds := [.data, .data, .data, .data, .handle, .sentinel, .sentinel, .sentinel, .sentinel, .pinned], laidTests := true, laidLooks := .later }
def ArrayItemsCardSaid : Prop := Claim7.holds Tryz.pinned (.plain (OpenSpec.ofChange arrayItemsSpec)) arrayItemsCard

/-- THE TIED CARD OF 'diaeresislaw11.ArraySelf'. -/
def arraySelfCard : Claim7 := { stood := { row := arraySelfRow, standIns := [], harness := (true, "157bd4b918ca92eb60a1c61cc42d094fed85e8ad9536dbb68a8de8aec17f2ef5"), looks := true }, kinds := [], alts := [], laidByText := true, laidKinds := [.data, .data, .data, .data, .handle, .sentinel, .sentinel, .sentinel, .sentinel, .pinned], laidTests := true, laidLooks := .later }
def ArraySelfCardSaid : Prop := Claim7.holds Tryz.pinned (.plain (OpenSpec.ofChange arraySelfSpec)) arraySelfCard

/-- THE TIED CARD OF 'diaeresislaw11.ArrayDoes'. -/
def arrayDoesCard : Claim7 := { stood := { row := arrayDoesRow, standIns := [], harness := (true, "157bd4b918ca92eb60a1c61cc42d094fed85e8ad9536dbb68a8de8aec17f2ef5"), looks := true }, kinds := [], alts := [], laidByText := true, laidKinds := [.data, .data, .data, .data, .handle, .sentinel, .sentinel, .sentinel, .sentinel, .pinned], laidTests := true, laidLooks := .later }
def ArrayDoesCardSaid : Prop := Claim7.holds Tryz.pinned (.plain (OpenSpec.ofChange arrayDoesSpec)) arrayDoesCard

/-- THE TIED CARD OF 'diaeresislaw11.ArrayRights'. -/
def arrayRightsCard : Claim7 := { stood := { row := arrayRightsRow, standIns := [], harness := (true, "157bd4b918ca92eb60a1c61cc42d094fed85e8ad9536dbb68a8de8aec17f2ef5"), looks := true }, kinds := [], alts := [], laidByText := true, laidKinds := [.data, .data, .data, .data, .handle, .sentinel, .sentinel, .sentinel, .sentinel, .pinned], laidTests := true, laidLooks := .later }
def ArrayRightsCardSaid : Prop := Claim7.holds Tryz.pinned (.plain (OpenSpec.ofChange arrayRightsSpec)) arrayRightsCard

/-- THE TIED CARD OF 'diaeresislaw11.ArrayOwn'. -/
def arrayOwnCard : Claim7 := { stood := { row := arrayOwnRow, standIns := [], harness := (true, "157bd4b918ca92eb60a1c61cc42d094fed85e8ad9536dbb68a8de8aec17f2ef5"), looks := true }, kinds := [], alts := [], laidByText := true, laidKinds := [.data, .data, .data, .data, .handle, .sentinel, .sentinel, .sentinel, .sentinel, .pinned], laidTests := true, laidLooks := .later }
def ArrayOwnCardSaid : Prop := Claim7.holds Tryz.pinned (.plain (OpenSpec.ofChange arrayOwnSpec)) arrayOwnCard

/-- THE SECOND FORM's CARD OF 'diaeresislaw11.ArrayItems'. -/
def arrayItemsUptoCard : Claim7 := { stood := { row := arrayItemsUptoRow, standIns := [], harness := (true, "157bd4b918ca92eb60a1c61cc42d094fed85e8ad9536dbb68a8de8aec17f2ef5"), looks := true }, kinds := [], alts := [], laidByText := true, laidKinds := [.data, .data, .data, .data, .handle, .sentinel, .sentinel, .sentinel, .sentinel, .pinned], laidTests := true, laidLooks := .later }
def ArrayItemsUptoCardSaid : Prop := Claim7.holds Tryz.pinned (.plain (OpenSpec.upto arrayItemsSpec)) arrayItemsUptoCard

/-- THE SECOND FORM's CARD OF 'diaeresislaw11.ArraySelf'. -/
def arraySelfUptoCard : Claim7 := { stood := { row := arraySelfUptoRow, standIns := [], harness := (true, "157bd4b918ca92eb60a1c61cc42d094fed85e8ad9536dbb68a8de8aec17f2ef5"), looks := true }, kinds := [], alts := [], laidByText := true, laidKinds := [.data, .data, .data, .data, .handle, .sentinel, .sentinel, .sentinel, .sentinel, .pinned], laidTests := true, laidLooks := .later }
def ArraySelfUptoCardSaid : Prop := Claim7.holds Tryz.pinned (.plain (OpenSpec.upto arraySelfSpec)) arraySelfUptoCard

/-- THE SECOND FORM's CARD OF 'diaeresislaw11.ArrayDoes'. -/
def arrayDoesUptoCard : Claim7 := { stood := { row := arrayDoesUptoRow, standIns := [], harness := (true, "157bd4b918ca92eb60a1c61cc42d094fed85e8ad9536dbb68a8de8aec17f2ef5"), looks := true }, kinds := [], alts := [], laidByText := true, laidKinds := [.data, .data, .data, .data, .handle, .sentinel, .sentinel, .sentinel, .sentinel, .pinned], laidTests := true, laidLooks := .later }
def ArrayDoesUptoCardSaid : Prop := Claim7.holds Tryz.pinned (.plain (OpenSpec.upto arrayDoesSpec)) arrayDoesUptoCard

/-- THE SECOND FORM's CARD OF 'diaeresislaw11.ArrayRights'. -/
def arrayRightsUptoCard : Claim7 := { stood := { row := arrayRightsUptoRow, standIns := [], harness := (true, "157bd4b918ca92eb60a1c61cc42d094fed85e8ad9536dbb68a8de8aec17f2ef5"), looks := true }, kinds := [], alts := [], laidByText := true, laidKinds := [.data, .data, .data, .data, .handle, .sentinel, .sentinel, .sentinel, .sentinel, .pinned], laidTests := true, laidLooks := .later }
def ArrayRightsUptoCardSaid : Prop := Claim7.holds Tryz.pinned (.plain (OpenSpec.upto arrayRightsSpec)) arrayRightsUptoCard

/-- THE SECOND FORM's CARD OF 'diaeresislaw11.ArrayOwn'. -/
def arrayOwnUptoCard : Claim7 := { stood := { row := arrayOwnUptoRow, standIns := [], harness := (true, "157bd4b918ca92eb60a1c61cc42d094fed85e8ad9536dbb68a8de8aec17f2ef5"), looks := true }, kinds := [], alts := [], laidByText := true, laidKinds := [.data, .data, .data, .data, .handle, .sentinel, .sentinel, .sentinel, .sentinel, .pinned], laidTests := true, laidLooks := .later }
def ArrayOwnUptoCardSaid : Prop := Claim7.holds Tryz.pinned (.plain (OpenSpec.upto arrayOwnSpec)) arrayOwnUptoCard
end Rows
end Go.Proofs.YtfeimbgcjimjdaaGreatDoor
