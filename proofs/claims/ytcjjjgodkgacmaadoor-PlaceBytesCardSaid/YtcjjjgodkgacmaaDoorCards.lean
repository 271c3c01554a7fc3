/-
  DERIVED. GIVEN WITH THE SEED: THE CARDS: each row of YtcjjjgodkgacmaaDoorRows.lean that lists a variable, with what it lists TIED to the program's text (the seventh form; the later family's looks); each row that meets fmt, with fmt's text TOLD by the authors' own Lean function (tested against real Go, not proved from fmt's source: count such statements apart). THE CARD IS WHAT COUNTS. Prove the row's statement (the work); the ties are given (YtcjjjgodkgacmaaDoorTie.lean); close each card by the builder's one call (the guide's Derived/Test/ToyasCard.lean, 'card_holds'). Laid BY PROGRAM, IN A SANDBOX (cutbox-door.mjs). By AI agents, Wed Nov 11 2026. No macro, syntax, notation, axiom, sorry.
-/
import Derived.Test.YtcjjjgodkgacmaaDoorRows
import GoSem.ClaimSeven
namespace Go.Proofs.YtcjjjgodkgacmaaDoor
namespace Rows

/-- THE TIED CARD OF 'diaeresislaw02.PlaceAts'. -/
def placeAtsCard : Claim7 := { stood := { row := placeAtsRow, standIns := [], harness := (true, "7e35dcc8974c6b84bbe74bf6cee6e38947e615f13603c6c2a568c1fbe3bc6a70"), looks := true }, kinds := [], alts := [], laidByText := true, laidKinds := [.data, .handle, .pinned], laidTests := true, laidLooks := .later }
def PlaceAtsCardSaid : Prop := Claim7.holds Tryd.pinned (.plain (OpenSpec.ofChange placeAtsSpec)) placeAtsCard

/-- THE TIED CARD OF 'diaeresislaw02.PlaceBack'. -/
def placeBackCard : Claim7 := { stood := { row := placeBackRow, standIns := [], harness := (true, "7e35dcc8974c6b84bbe74bf6cee6e38947e615f13603c6c2a568c1fbe3bc6a70"), looks := true }, kinds := [], alts := [], laidByText := true, laidKinds := [.data, .handle, .pinned], laidTests := true, laidLooks := .later }
def PlaceBackCardSaid : Prop := Claim7.holds Tryd.pinned (.plain (OpenSpec.ofChange placeBackSpec)) placeBackCard

/-- THE TIED CARD OF 'diaeresislaw02.PlaceOrders'. -/
def placeOrdersCard : Claim7 := { stood := { row := placeOrdersRow, standIns := [], harness := (true, "7e35dcc8974c6b84bbe74bf6cee6e38947e615f13603c6c2a568c1fbe3bc6a70"), looks := true }, kinds := [], alts := [], laidByText := true, laidKinds := [.data, .handle, .pinned], laidTests := true, laidLooks := .later }
def PlaceOrdersCardSaid : Prop := Claim7.holds Tryd.pinned (.plain (OpenSpec.ofChange placeOrdersSpec)) placeOrdersCard

/-- THE TIED CARD OF 'diaeresislaw02.PlaceBytes'. -/
def placeBytesCard : Claim7 := { stood := { row := placeBytesRow, standIns := [], harness := (true, "7e35dcc8974c6b84bbe74bf6cee6e38947e615f13603c6c2a568c1fbe3bc6a70"), looks := true }, kinds := [], alts := [], laidByText := true, laidKinds := [.data, .handle, .pinned], laidTests := true, laidLooks := .later }
def PlaceBytesCardSaid : Prop := Claim7.holds Tryd.pinned (.plain (OpenSpec.ofChange placeBytesSpec)) placeBytesCard

/-- THE TIED CARD OF 'diaeresislaw02.PlaceJoins'. -/
def placeJoinsCard : Claim7 := { stood := { row := placeJoinsRow, standIns := [], harness := (true, "7e35dcc8974c6b84bbe74bf6cee6e38947e615f13603c6c2a568c1fbe3bc6a70"), looks := true }, kinds := [], alts := [], laidByText := true, laidKinds := [.data, .handle, .pinned], laidTests := true, laidLooks := .later }
def PlaceJoinsCardSaid : Prop := Claim7.holds Tryd.pinned (.plain (OpenSpec.ofChange placeJoinsSpec)) placeJoinsCard

/-- THE TIED CARD OF 'diaeresislaw02.PlaceLines'. -/
def placeLinesCard : Claim7 := { stood := { row := placeLinesRow, standIns := [], harness := (true, "7e35dcc8974c6b84bbe74bf6cee6e38947e615f13603c6c2a568c1fbe3bc6a70"), looks := true }, kinds := [], alts := [], laidByText := true, laidKinds := [.data, .handle, .pinned], laidTests := true, laidLooks := .later }
def PlaceLinesCardSaid : Prop := Claim7.holds Tryd.pinned (.plain (OpenSpec.ofChange placeLinesSpec)) placeLinesCard

/-- THE TIED CARD OF 'diaeresislaw02.PlaceUnits'. -/
def placeUnitsCard : Claim7 := { stood := { row := placeUnitsRow, standIns := [], harness := (true, "7e35dcc8974c6b84bbe74bf6cee6e38947e615f13603c6c2a568c1fbe3bc6a70"), looks := true }, kinds := [], alts := [], laidByText := true, laidKinds := [.data, .handle, .pinned], laidTests := true, laidLooks := .later }
def PlaceUnitsCardSaid : Prop := Claim7.holds Tryd.pinned (.plain (OpenSpec.ofChange placeUnitsSpec)) placeUnitsCard

/-- THE SECOND FORM's CARD OF 'diaeresislaw02.PlaceAts'. -/
def placeAtsUptoCard : Claim7 := { stood := { row := placeAtsUptoRow, standIns := [], harness := (true, "7e35dcc8974c6b84bbe74bf6cee6e38947e615f13603c6c2a568c1fbe3bc6a70"), looks := true }, kinds := [], alts := [], laidByText := true, laidKinds := [.data, .handle, .pinned], laidTests := true, laidLooks := .later }
def PlaceAtsUptoCardSaid : Prop := Claim7.holds Tryd.pinned (.plain (OpenSpec.upto placeAtsSpec)) placeAtsUptoCard

/-- THE SECOND FORM's CARD OF 'diaeresislaw02.PlaceBack'. -/
def placeBackUptoCard : Claim7 := { stood := { row := placeBackUptoRow, standIns := [], harness := (true, "7e35dcc8974c6b84bbe74bf6cee6e38947e615f13603c6c2a568c1fbe3bc6a70"), looks := true }, kinds := [], alts := [], laidByText := true, laidKinds := [.data, .handle, .pinned], laidTests := true, laidLooks := .later }
def PlaceBackUptoCardSaid : Prop := Claim7.holds Tryd.pinned (.plain (OpenSpec.upto placeBackSpec)) placeBackUptoCard

/-- THE SECOND FORM's CARD OF 'diaeresislaw02.PlaceOrders'. -/
def placeOrdersUptoCard : Claim7 := { stood := { row := placeOrdersUptoRow, standIns := [], harness := (true, "7e35dcc8974c6b84bbe74bf6cee6e38947e615f13603c6c2a568c1fbe3bc6a70"), looks := true }, kinds := [], alts := [], laidByText := true, laidKinds := [.data, .handle, .pinned], laidTests := true, laidLooks := .later }
def PlaceOrdersUptoCardSaid : Prop := Claim7.holds Tryd.pinned (.plain (OpenSpec.upto placeOrdersSpec)) placeOrdersUptoCard

/-- THE SECOND FORM's CARD OF 'diaeresislaw02.PlaceBytes'. -/
def placeBytesUptoCard : Claim7 := { stood := { row := placeBytesUptoRow, standIns := [], harness := (true, "7e35dcc8974c6b84bbe74bf6cee6e38947e615f13603c6c2a568c1fbe3bc6a70"), looks := true }, kinds := [], alts := [], laidByText := true, laidKinds := [.data, .handle, .pinned], laidTests := true, laidLooks := .later }
def PlaceBytesUptoCardSaid : Prop := Claim7.holds Tryd.pinned (.plain (OpenSpec.upto placeBytesSpec)) placeBytesUptoCard

/-- THE SECOND FORM's CARD OF 'diaeresislaw02.PlaceJoins'. -/
def placeJoinsUptoCard : Claim7 := { stood := { row := placeJoinsUptoRow, standIns := [], harness := (true, "7e35dcc8974c6b84bbe74bf6cee6e38947e615f13603c6c2a568c1fbe3bc6a70"), looks := true }, kinds := [], alts := [], laidByText := true, laidKinds := [.data, .handle, .pinned], laidTests := true, laidLooks := .later }
def PlaceJoinsUptoCardSaid : Prop := Claim7.holds Tryd.pinned (.plain (OpenSpec.upto placeJoinsSpec)) placeJoinsUptoCard

/-- THE SECOND FORM's CARD OF 'diaeresislaw02.PlaceLines'. -/
def placeLinesUptoCard : Claim7 := { stood := { row := placeLinesUptoRow, standIns := [], harness := (true, "7e35dcc8974c6b84bbe74bf6cee6e38947e615f13603c6c2a568c1fbe3bc6a70"), looks := true }, kinds := [], alts := [], laidByText := true, laidKinds := [.data, .handle, .pinned], laidTests := true, laidLooks := .later }
def PlaceLinesUptoCardSaid : Prop := Claim7.holds Tryd.pinned (.plain (OpenSpec.upto placeLinesSpec)) placeLinesUptoCard

/-- THE SECOND FORM's CARD OF 'diaeresislaw02.PlaceUnits'. -/
def placeUnitsUptoCard : Claim7 := { stood := { row := placeUnitsUptoRow, standIns := [], harness := (true, "7e35dcc8974c6b84bbe74bf6cee6e38947e615f13603c6c2a568c1fbe3bc6a70"), looks := true }, kinds := [], alts := [], laidByText := true, laidKinds := [.data, .handle, .pinned], laidTests := true, laidLooks := .later }
def PlaceUnitsUptoCardSaid : Prop := Claim7.holds Tryd.pinned (.plain (OpenSpec.upto placeUnitsSpec)) placeUnitsUptoCard
end Rows
end Go.Proofs.YtcjjjgodkgacmaaDoor
