/-
  DERIVED. GIVEN WITH THE SEED: THE CARDS: each row of YtgoedlagdbgcbaaGreatDoorRows.lean that lists a variable, with what it lists TIED to the program's text (the seventh form; the later family's looks); each row that meets fmt, with fmt's text TOLD by the authors' own Lean function (tested against real Go, not proved from fmt's source: count such statements apart). THE CARD IS WHAT COUNTS. Prove the row's statement (the work); the ties are given (YtgoedlagdbgcbaaGreatDoorTie.lean); close each card by the builder's one call (the guide's Derived/Test/ToyasCard.lean, 'card_holds'). Laid BY PROGRAM, IN A SANDBOX (cutbox-door.mjs). By AI agents, Wed Nov 11 2026. No macro, syntax, notation, axiom, sorry.
-/
import Derived.Test.YtgoedlagdbgcbaaGreatDoorRows
import GoSem.ClaimSeven
namespace Go.Proofs.YtgoedlagdbgcbaaGreatDoor
namespace Rows

/-- THE TIED CARD OF 'diaeresislaw14.CoreBare'. -/
def coreBareCard : Claim7 := { stood := { row := coreBareRow, standIns := [], harness := (true, "18995f68f6560fd214c994a02204b59b9428f2edfd34da2264ab90a05641e128"), looks := true }, kinds := [], alts := [], laidByText := true, laidKinds := [.data, .data, .data, .sentinel], laidTests := true, laidLooks := .later }
def CoreBareCardSaid : Prop := Claim7.holds Tryz.pinned (.plain (OpenSpec.ofChange coreBareSpec)) coreBareCard

/-- THE TIED CARD OF 'diaeresislaw14.CoreNew'. -/
def coreNewCard : Claim7 := { stood := { row := coreNewRow, standIns := [], harness := (true, "18995f68f6560fd214c994a02204b59b9428f2edfd34da2264ab90a05641e128"), looks := true }, kinds := [], alts := [], laidByText := true, laidKinds := [.data, .data, .data, .sentinel], laidTests := true, laidLooks := .later }
def CoreNewCardSaid : Prop := Claim7.holds Tryz.pinned (.plain (OpenSpec.ofChange coreNewSpec)) coreNewCard

/-- THE TIED CARD OF 'diaeresislaw14.CoreAhead'. -/
def coreAheadCard : Claim7 := { stood := { row := coreAheadRow, standIns := [], harness := (true, "18995f68f6560fd214c994a02204b59b9428f2edfd34da2264ab90a05641e128"), looks := true }, kinds := [], alts := [], laidByText := true, laidKinds := [.data, .data, .data, .sentinel], laidTests := true, laidLooks := .later }
def CoreAheadCardSaid : Prop := Claim7.holds Tryz.pinned (.plain (OpenSpec.ofChange coreAheadSpec)) coreAheadCard

/-- THE TIED CARD OF 'diaeresislaw14.CoreBound'. -/
def coreBoundCard : Claim7 := { stood := { row := coreBoundRow, standIns := [], harness := (true, "18995f68f6560fd214c994a02204b59b9428f2edfd34da2264ab90a05641e128"), looks := true }, kinds := [], alts := [], laidByText := true, laidKinds := [.data, .data, .data, .sentinel], laidTests := true, laidLooks := .later }
def CoreBoundCardSaid : Prop := Claim7.holds Tryz.pinned (.plain (OpenSpec.ofChange coreBoundSpec)) coreBoundCard

/-- THE TIED CARD OF 'diaeresislaw14.CoreTexts'. -/
def coreTextsCard : Claim7 := { stood := { row := coreTextsRow, standIns := [], harness := (true, "18995f68f6560fd214c994a02204b59b9428f2edfd34da2264ab90a05641e128"), looks := true }, kinds := [], alts := [], laidByText := true, laidKinds := [.data, .data, .data, .data, .handle, .sentinel, .sentinel, .sentinel, .sentinel, .sentinel, .pinned], laidTests := true, laidLooks := .later }
def CoreTextsCardSaid : Prop := Claim7.holds Tryz.pinned (.plain (OpenSpec.ofChange coreTextsSpec)) coreTextsCard

/-- THE SECOND FORM's CARD OF 'diaeresislaw14.CoreBare'. -/
def coreBareUptoCard : Claim7 := { stood := { row := coreBareUptoRow, standIns := [], harness := (true, "18995f68f6560fd214c994a02204b59b9428f2edfd34da2264ab90a05641e128"), looks := true }, kinds := [], alts := [], laidByText := true, laidKinds := [.data, .data, .data, .sentinel], laidTests := true, laidLooks := .later }
def CoreBareUptoCardSaid : Prop := Claim7.holds Tryz.pinned (.plain (OpenSpec.upto coreBareSpec)) coreBareUptoCard

/-- THE SECOND FORM's CARD OF 'diaeresislaw14.CoreNew'. -/
def coreNewUptoCard : Claim7 := { stood := { row := coreNewUptoRow, standIns := [], harness := (true, "18995f68f6560fd214c994a02204b59b9428f2edfd34da2264ab90a05641e128"), looks := true }, kinds := [], alts := [], laidByText := true, laidKinds := [.data, .data, .data, .sentinel], laidTests := true, laidLooks := .later }
def CoreNewUptoCardSaid : Prop := Claim7.holds Tryz.pinned (.plain (OpenSpec.upto coreNewSpec)) coreNewUptoCard

/-- THE SECOND FORM's CARD OF 'diaeresislaw14.CoreAhead'. -/
def coreAheadUptoCard : Claim7 := { stood := { row := coreAheadUptoRow, standIns := [], harness := (true, "18995f68f6560fd214c994a02204b59b9428f2edfd34da2264ab90a05641e128"), looks := true }, kinds := [], alts := [], laidByText := true, laidKinds := [.data, .data, .data, .sentinel], laidTests := true, laidLooks := .later }
def CoreAheadUptoCardSaid : Prop := Claim7.holds Tryz.pinned (.plain (OpenSpec.upto coreAheadSpec)) coreAheadUptoCard

/-- THE SECOND FORM's CARD OF 'diaeresislaw14.CoreBound'. -/
def coreBoundUptoCard : Claim7 := { stood := { row := coreBoundUptoRow, standIns := [], harness := (true, "18995f68f6560fd214c994a02204b59b9428f2edfd34da2264ab90a05641e128"), looks := true }, kinds := [], alts := [], laidByText := true, laidKinds := [.data, .data, .data, .sentinel], laidTests := true, laidLooks := .later }
def CoreBoundUptoCardSaid : Prop := Claim7.holds Tryz.pinned (.plain (OpenSpec.upto coreBoundSpec)) coreBoundUptoCard

/-- THE SECOND FORM's CARD OF 'diaeresislaw14.CoreTexts'. -/
def coreTextsUptoCard : Claim7 := { stood := { row := coreTextsUptoRow, standIns := [], harness := (true, "18995f68f6560fd214c994a02204b59b9428f2edfd34da2264ab90a05641e128"), looks := true }, kinds := [], alts := [], laidByText := true, laidKinds := [.data, .data, .data, .data, .handle, .sentinel, .sentinel, .sentinel, .sentinel, .sentinel, .pinned], laidTests := true, laidLooks := .later }
def CoreTextsUptoCardSaid : Prop := Claim7.holds Tryz.pinned (.plain (OpenSpec.upto coreTextsSpec)) coreTextsUptoCard
end Rows
end Go.Proofs.YtgoedlagdbgcbaaGreatDoor
