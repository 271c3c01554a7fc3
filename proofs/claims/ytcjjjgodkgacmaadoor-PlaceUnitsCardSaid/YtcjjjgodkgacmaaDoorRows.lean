/-
  NARROWER THAN 'FOR EVERY INPUT', by the rows' own cells (each row's printed sentence says how): PlaceAts: laid · PlaceBack: laid · PlaceOrders: laid · PlaceBytes: laid · PlaceJoins: laid · PlaceLines: laid · PlaceUnits: laid.
  DERIVED. THE GIVEN ROWS OF THIS SEAT. 7 by the template 'for every input the law returns true; each argument reads behind the call as it read before'; 0 by the template 'total and deterministic' (their statements: YtcjjjgodkgacmaaDoorTotals.lean).
  GIVEN WITH THE SEED: the statements are not yours to turn. If you find one false, say at which input.
  Laid BY PROGRAM, IN A SANDBOX (cutbox-rows.mjs): the forced cells as the released guide's own fill.sh prints them over the translation f1be9f0c79f05af5… (all of the seat's roots in one cut). By AI agents, Wed Nov 11 2026. No macro, syntax, notation, axiom, sorry.
-/
import Derived.Test.YtcjjjgodkgacmaaDoorChecked
import GoSem.PinnedTables
import GoSem.Claim
import GoSem.ClaimJoined
import GoSem.ClaimMapViews
import Derived.JoinedTies
import Derived.KernelRfl
namespace Go.Proofs.YtcjjjgodkgacmaaDoor
/- THE CELL 'sum', in the pinned program and in every row, IS THE sha256 OF THE DUMP (.gsa) THAT YtcjjjgodkgacmaaDoorProg.lean LOADS. Nothing in Lean hashes anything: it is a label: what it is worth is what the hold of that sum in a sandbox is worth. -/
noncomputable def Tryd.pinned : Pinned := { name := "ytcjjjgodkgacmaadoor", sum := "f1be9f0c79f05af507f9af0a2dc4fee437e90539e9abecf9116f99f9a26f92f8", checked := Tryd.checked }
namespace Rows
def none {H : Type} : Left H := { results := [], args := [] }

/- WHAT THE LISTED PACKAGE-LEVEL VARIABLES READ AS WHEN THE CALL BEGINS. Each datum BY PROGRAM (the guide's laid-datum.mjs) off the statement by which the dump's own 'gosem.cut.vars' lays the variable. In a bare row this is a premise. The card (YtcjjjgodkgacmaaDoorCards.lean) ties it to the program's text. -/
def laid_unicode_utf8_acceptRanges {H : Type} : DataW H := .agg [.agg [.lit (.int .u8 128), .lit (.int .u8 191)], .agg [.lit (.int .u8 160), .lit (.int .u8 191)], .agg [.lit (.int .u8 128), .lit (.int .u8 159)], .agg [.lit (.int .u8 144), .lit (.int .u8 191)], .agg [.lit (.int .u8 128), .lit (.int .u8 143)], .agg [.lit (.int .u8 0), .lit (.int .u8 0)], .agg [.lit (.int .u8 0), .lit (.int .u8 0)], .agg [.lit (.int .u8 0), .lit (.int .u8 0)], .agg [.lit (.int .u8 0), .lit (.int .u8 0)], .agg [.lit (.int .u8 0), .lit (.int .u8 0)], .agg [.lit (.int .u8 0), .lit (.int .u8 0)], .agg [.lit (.int .u8 0), .lit (.int .u8 0)], .agg [.lit (.int .u8 0), .lit (.int .u8 0)], .agg [.lit (.int .u8 0), .lit (.int .u8 0)], .agg [.lit (.int .u8 0), .lit (.int .u8 0)], .agg [.lit (.int .u8 0), .lit (.int .u8 0)]]
def laid_errors_errorType {H : Type} : DataW H := .iface "internal/reflectlite.rtype" (.agg [.ptr (.lit (.string [101, 114, 114, 111, 114]))])
/-- One of Go's own tables, pinned by name: the form's constant. -/
def laid_unicode_utf8_first : DataW Unit := Go.Pinned.utf8First

/-- 'diaeresislaw02.PlaceAts': WHATEVER THE INPUT: true; the input reads as it did. -/
def placeAtsSpec : ChangeSpec := { name := "placeAts", fn := fun _ => fun
  | [d1, d2, d3, d4, d5] => { results := [.lit (.bool true)], args := [d1, d2, d3, d4, d5] }
  | _ => none }
def placeAtsRow : OpenClaim := { program := "ytcjjjgodkgacmaadoor", sum := "f1be9f0c79f05af507f9af0a2dc4fee437e90539e9abecf9116f99f9a26f92f8", func := "diaeresis/diaeresislaw02.PlaceAts", spec := "placeAts", inPlace := ["internal/bytealg.IndexByteString", "internal/bytealg.IndexString", "internal/reflectlite.ValueOf", "(internal/reflectlite.Value).Type", "(internal/reflectlite.Value).IsNil", "internal/reflectlite.TypeOf", "(internal/reflectlite.Value).Elem", "(internal/reflectlite.Value).Set"], unfollowed := true, recurses := true, named := ["unicode/utf8.first", "unicode/utf8.acceptRanges", "internal/bytealg.MaxLen", "errors.errorType"], apart := false, laid := [("unicode/utf8.acceptRanges", laid_unicode_utf8_acceptRanges), ("errors.errorType", laid_errors_errorType), ("unicode/utf8.first", laid_unicode_utf8_first)] }
def PlaceAtsSaid : Prop := placeAtsRow.holds Tryd.pinned (OpenSpec.ofChange placeAtsSpec)

/-- ITS FALSE NEIGHBOUR: 'it returns false'. Refute it at one input. -/
def placeAtsWrong : ChangeSpec := { name := "placeAts", fn := fun _ => fun
  | [d1, d2, d3, d4, d5] => { results := [.lit (.bool false)], args := [d1, d2, d3, d4, d5] }
  | _ => none }
def PlaceAtsWrongFalsely : Prop := placeAtsRow.holds Tryd.pinned (OpenSpec.ofChange placeAtsWrong)

/-- 'diaeresislaw02.PlaceBack': WHATEVER THE INPUT: true; the input reads as it did. -/
def placeBackSpec : ChangeSpec := { name := "placeBack", fn := fun _ => fun
  | [d1, d2, d3, d4, d5] => { results := [.lit (.bool true)], args := [d1, d2, d3, d4, d5] }
  | _ => none }
def placeBackRow : OpenClaim := { program := "ytcjjjgodkgacmaadoor", sum := "f1be9f0c79f05af507f9af0a2dc4fee437e90539e9abecf9116f99f9a26f92f8", func := "diaeresis/diaeresislaw02.PlaceBack", spec := "placeBack", inPlace := ["internal/bytealg.IndexByteString", "internal/bytealg.IndexString", "internal/reflectlite.ValueOf", "(internal/reflectlite.Value).Type", "(internal/reflectlite.Value).IsNil", "internal/reflectlite.TypeOf", "(internal/reflectlite.Value).Elem", "(internal/reflectlite.Value).Set"], unfollowed := true, recurses := true, named := ["unicode/utf8.first", "unicode/utf8.acceptRanges", "internal/bytealg.MaxLen", "errors.errorType"], apart := false, laid := [("unicode/utf8.acceptRanges", laid_unicode_utf8_acceptRanges), ("errors.errorType", laid_errors_errorType), ("unicode/utf8.first", laid_unicode_utf8_first)] }
def PlaceBackSaid : Prop := placeBackRow.holds Tryd.pinned (OpenSpec.ofChange placeBackSpec)

/-- ITS FALSE NEIGHBOUR: 'it returns false'. Refute it at one input. -/
def placeBackWrong : ChangeSpec := { name := "placeBack", fn := fun _ => fun
  | [d1, d2, d3, d4, d5] => { results := [.lit (.bool false)], args := [d1, d2, d3, d4, d5] }
  | _ => none }
def PlaceBackWrongFalsely : Prop := placeBackRow.holds Tryd.pinned (OpenSpec.ofChange placeBackWrong)

/-- 'diaeresislaw02.PlaceOrders': WHATEVER THE INPUT: true; the input reads as it did. -/
def placeOrdersSpec : ChangeSpec := { name := "placeOrders", fn := fun _ => fun
  | [d1, d2, d3, d4] => { results := [.lit (.bool true)], args := [d1, d2, d3, d4] }
  | _ => none }
def placeOrdersRow : OpenClaim := { program := "ytcjjjgodkgacmaadoor", sum := "f1be9f0c79f05af507f9af0a2dc4fee437e90539e9abecf9116f99f9a26f92f8", func := "diaeresis/diaeresislaw02.PlaceOrders", spec := "placeOrders", inPlace := ["internal/bytealg.IndexByteString", "internal/bytealg.IndexString", "internal/reflectlite.ValueOf", "(internal/reflectlite.Value).Type", "(internal/reflectlite.Value).IsNil", "internal/reflectlite.TypeOf", "(internal/reflectlite.Value).Elem", "(internal/reflectlite.Value).Set"], unfollowed := true, recurses := true, named := ["unicode/utf8.first", "unicode/utf8.acceptRanges", "internal/bytealg.MaxLen", "errors.errorType"], apart := false, laid := [("unicode/utf8.acceptRanges", laid_unicode_utf8_acceptRanges), ("errors.errorType", laid_errors_errorType), ("unicode/utf8.first", laid_unicode_utf8_first)] }
def PlaceOrdersSaid : Prop := placeOrdersRow.holds Tryd.pinned (OpenSpec.ofChange placeOrdersSpec)

/-- ITS FALSE NEIGHBOUR: 'it returns false'. Refute it at one input. -/
def placeOrdersWrong : ChangeSpec := { name := "placeOrders", fn := fun _ => fun
  | [d1, d2, d3, d4] => { results := [.lit (.bool false)], args := [d1, d2, d3, d4] }
  | _ => none }
def PlaceOrdersWrongFalsely : Prop := placeOrdersRow.holds Tryd.pinned (OpenSpec.ofChange placeOrdersWrong)

/-- 'diaeresislaw02.PlaceBytes': WHATEVER THE INPUT: true; the input reads as it did. -/
def placeBytesSpec : ChangeSpec := { name := "placeBytes", fn := fun _ => fun
  | [d1, d2] => { results := [.lit (.bool true)], args := [d1, d2] }
  | _ => none }
def placeBytesRow : OpenClaim := { program := "ytcjjjgodkgacmaadoor", sum := "f1be9f0c79f05af507f9af0a2dc4fee437e90539e9abecf9116f99f9a26f92f8", func := "diaeresis/diaeresislaw02.PlaceBytes", spec := "placeBytes", inPlace := ["internal/bytealg.IndexByteString", "internal/bytealg.IndexString", "internal/reflectlite.ValueOf", "(internal/reflectlite.Value).Type", "(internal/reflectlite.Value).IsNil", "internal/reflectlite.TypeOf", "(internal/reflectlite.Value).Elem", "(internal/reflectlite.Value).Set"], unfollowed := true, recurses := true, named := ["unicode/utf8.first", "unicode/utf8.acceptRanges", "internal/bytealg.MaxLen", "errors.errorType"], apart := false, laid := [("unicode/utf8.acceptRanges", laid_unicode_utf8_acceptRanges), ("errors.errorType", laid_errors_errorType), ("unicode/utf8.first", laid_unicode_utf8_first)] }
def PlaceBytesSaid : Prop := placeBytesRow.holds Tryd.pinned (OpenSpec.ofChange placeBytesSpec)

/-- ITS FALSE NEIGHBOUR: 'it returns false'. Refute it at one input. -/
def placeBytesWrong : ChangeSpec := { name := "placeBytes", fn := fun _ => fun
  | [d1, d2] => { results := [.lit (.bool false)], args := [d1, d2] }
  | _ => none }
def PlaceBytesWrongFalsely : Prop := placeBytesRow.holds Tryd.pinned (OpenSpec.ofChange placeBytesWrong)

/-- 'diaeresislaw02.PlaceJoins': WHATEVER THE INPUT: true; the input reads as it did. -/
def placeJoinsSpec : ChangeSpec := { name := "placeJoins", fn := fun _ => fun
  | [d] => { results := [.lit (.bool true)], args := [d] }
  | _ => none }
def placeJoinsRow : OpenClaim := { program := "ytcjjjgodkgacmaadoor", sum := "f1be9f0c79f05af507f9af0a2dc4fee437e90539e9abecf9116f99f9a26f92f8", func := "diaeresis/diaeresislaw02.PlaceJoins", spec := "placeJoins", inPlace := ["internal/bytealg.IndexByteString", "internal/bytealg.IndexString", "internal/reflectlite.ValueOf", "(internal/reflectlite.Value).Type", "(internal/reflectlite.Value).IsNil", "internal/reflectlite.TypeOf", "(internal/reflectlite.Value).Elem", "(internal/reflectlite.Value).Set"], unfollowed := true, recurses := true, named := ["unicode/utf8.first", "unicode/utf8.acceptRanges", "internal/bytealg.MaxLen", "errors.errorType"], apart := false, laid := [("unicode/utf8.acceptRanges", laid_unicode_utf8_acceptRanges), ("errors.errorType", laid_errors_errorType), ("unicode/utf8.first", laid_unicode_utf8_first)] }
def PlaceJoinsSaid : Prop := placeJoinsRow.holds Tryd.pinned (OpenSpec.ofChange placeJoinsSpec)

/-- ITS FALSE NEIGHBOUR: 'it returns false'. Refute it at one input. -/
def placeJoinsWrong : ChangeSpec := { name := "placeJoins", fn := fun _ => fun
  | [d] => { results := [.lit (.bool false)], args := [d] }
  | _ => none }
def PlaceJoinsWrongFalsely : Prop := placeJoinsRow.holds Tryd.pinned (OpenSpec.ofChange placeJoinsWrong)

/-- 'diaeresislaw02.PlaceLines': WHATEVER THE INPUT: true; the input reads as it did. -/
def placeLinesSpec : ChangeSpec := { name := "placeLines", fn := fun _ => fun
  | [d1, d2, d3] => { results := [.lit (.bool true)], args := [d1, d2, d3] }
  | _ => none }
def placeLinesRow : OpenClaim := { program := "ytcjjjgodkgacmaadoor", sum := "f1be9f0c79f05af507f9af0a2dc4fee437e90539e9abecf9116f99f9a26f92f8", func := "diaeresis/diaeresislaw02.PlaceLines", spec := "placeLines", inPlace := ["internal/bytealg.IndexByteString", "internal/bytealg.IndexString", "internal/reflectlite.ValueOf", "(internal/reflectlite.Value).Type", "(internal/reflectlite.Value).IsNil", "internal/reflectlite.TypeOf", "(internal/reflectlite.Value).Elem", "(internal/reflectlite.Value).Set"], unfollowed := true, recurses := true, named := ["unicode/utf8.first", "unicode/utf8.acceptRanges", "internal/bytealg.MaxLen", "errors.errorType"], apart := false, laid := [("unicode/utf8.acceptRanges", laid_unicode_utf8_acceptRanges), ("errors.errorType", laid_errors_errorType), ("unicode/utf8.first", laid_unicode_utf8_first)] }
def PlaceLinesSaid : Prop := placeLinesRow.holds Tryd.pinned (OpenSpec.ofChange placeLinesSpec)

/-- ITS FALSE NEIGHBOUR: 'it returns false'. Refute it at one input. -/
def placeLinesWrong : ChangeSpec := { name := "placeLines", fn := fun _ => fun
  | [d1, d2, d3] => { results := [.lit (.bool false)], args := [d1, d2, d3] }
  | _ => none }
def PlaceLinesWrongFalsely : Prop := placeLinesRow.holds Tryd.pinned (OpenSpec.ofChange placeLinesWrong)

/-- 'diaeresislaw02.PlaceUnits': WHATEVER THE INPUT: true; the input reads as it did. -/
def placeUnitsSpec : ChangeSpec := { name := "placeUnits", fn := fun _ => fun
  | [d1, d2] => { results := [.lit (.bool true)], args := [d1, d2] }
  | _ => none }
def placeUnitsRow : OpenClaim := { program := "ytcjjjgodkgacmaadoor", sum := "f1be9f0c79f05af507f9af0a2dc4fee437e90539e9abecf9116f99f9a26f92f8", func := "diaeresis/diaeresislaw02.PlaceUnits", spec := "placeUnits", inPlace := ["internal/bytealg.IndexByteString", "internal/bytealg.IndexString", "internal/reflectlite.ValueOf", "(internal/reflectlite.Value).Type", "(internal/reflectlite.Value).IsNil", "internal/reflectlite.TypeOf", "(internal/reflectlite.Value).Elem", "(internal/reflectlite.Value).Set"], unfollowed := true, recurses := true, named := ["unicode/utf8.first", "unicode/utf8.acceptRanges", "internal/bytealg.MaxLen", "errors.errorType"], apart := false, laid := [("unicode/utf8.acceptRanges", laid_unicode_utf8_acceptRanges), ("errors.errorType", laid_errors_errorType), ("unicode/utf8.first", laid_unicode_utf8_first)] }
def PlaceUnitsSaid : Prop := placeUnitsRow.holds Tryd.pinned (OpenSpec.ofChange placeUnitsSpec)

/-- ITS FALSE NEIGHBOUR: 'it returns false'. Refute it at one input. -/
def placeUnitsWrong : ChangeSpec := { name := "placeUnits", fn := fun _ => fun
  | [d1, d2] => { results := [.lit (.bool false)], args := [d1, d2] }
  | _ => none }
def PlaceUnitsWrongFalsely : Prop := placeUnitsRow.holds Tryd.pinned (OpenSpec.ofChange placeUnitsWrong)

/- THE SECOND FORM. 'bulk': how many values and letters a reading holds, each counted each time it is reached (what is shared counts as often as it is met; a slice's spare places count too). A statement '..UptoSaid' is the law's where the arguments, and the package variables that the reading takes, are together of bulk at most 1048576: NARROWER than '..Said'. Prove '..Said' where nothing that the law and all that it calls make is longer than what came in: it says more and counts as full. Else prove '..UptoSaid'. A law counts once. -/
mutual
def uptoBulk {H : Type} : DataW H → Nat
  | .lit (.string bytes) => bytes.length + 1
  | .lit _ => 1
  | .nil => 1
  | .ptr d => uptoBulk d + 1
  | .slice elems spare => uptoBulkAll elems + uptoBulkAll spare + 1
  | .agg parts => uptoBulkAll parts + 1
  | .iface _ d => uptoBulk d + 1
  | .map entries => uptoBulkEntries entries + 1
  | .held _ => 1
def uptoBulkAll {H : Type} : List (DataW H) → Nat
  | [] => 0
  | d :: r => uptoBulk d + uptoBulkAll r
def uptoBulkEntries {H : Type} : List (Lit × DataW H) → Nat
  | [] => 0
  | x :: r => uptoBulkEntry x + uptoBulkEntries r
def uptoBulkEntry {H : Type} : Lit × DataW H → Nat
  | (.string bytes, d) => bytes.length + uptoBulk d + 1
  | (_, d) => uptoBulk d + 1
 end
def uptoSmall : (H : Type) → List (DataW H) → Bool := fun _ ds => decide (uptoBulkAll ds ≤ 1048576)
def OpenSpec.upto (s : _root_.Go.ChangeSpec) : _root_.Go.OpenSpec := { _root_.Go.OpenSpec.ofChange s with cond := some uptoSmall }

/-- 'diaeresislaw02.PlaceAts', WHERE WHAT IT READS IS OF BULK AT MOST 1048576: true; the input reads as it did. -/
def placeAtsUptoRow : OpenClaim := { program := "ytcjjjgodkgacmaadoor", sum := "f1be9f0c79f05af507f9af0a2dc4fee437e90539e9abecf9116f99f9a26f92f8", func := "diaeresis/diaeresislaw02.PlaceAts", spec := "placeAts", inPlace := ["internal/bytealg.IndexByteString", "internal/bytealg.IndexString", "internal/reflectlite.ValueOf", "(internal/reflectlite.Value).Type", "(internal/reflectlite.Value).IsNil", "internal/reflectlite.TypeOf", "(internal/reflectlite.Value).Elem", "(internal/reflectlite.Value).Set"], unfollowed := true, recurses := true, named := ["unicode/utf8.first", "unicode/utf8.acceptRanges", "internal/bytealg.MaxLen", "errors.errorType"], apart := false, laid := [("unicode/utf8.acceptRanges", laid_unicode_utf8_acceptRanges), ("errors.errorType", laid_errors_errorType), ("unicode/utf8.first", laid_unicode_utf8_first)], narrowed := true }
def PlaceAtsUptoSaid : Prop := placeAtsUptoRow.holds Tryd.pinned (OpenSpec.upto placeAtsSpec)

/-- 'diaeresislaw02.PlaceBack', WHERE WHAT IT READS IS OF BULK AT MOST 1048576: true; the input reads as it did. -/
def placeBackUptoRow : OpenClaim := { program := "ytcjjjgodkgacmaadoor", sum := "f1be9f0c79f05af507f9af0a2dc4fee437e90539e9abecf9116f99f9a26f92f8", func := "diaeresis/diaeresislaw02.PlaceBack", spec := "placeBack", inPlace := ["internal/bytealg.IndexByteString", "internal/bytealg.IndexString", "internal/reflectlite.ValueOf", "(internal/reflectlite.Value).Type", "(internal/reflectlite.Value).IsNil", "internal/reflectlite.TypeOf", "(internal/reflectlite.Value).Elem", "(internal/reflectlite.Value).Set"], unfollowed := true, recurses := true, named := ["unicode/utf8.first", "unicode/utf8.acceptRanges", "internal/bytealg.MaxLen", "errors.errorType"], apart := false, laid := [("unicode/utf8.acceptRanges", laid_unicode_utf8_acceptRanges), ("errors.errorType", laid_errors_errorType), ("unicode/utf8.first", laid_unicode_utf8_first)], narrowed := true }
def PlaceBackUptoSaid : Prop := placeBackUptoRow.holds Tryd.pinned (OpenSpec.upto placeBackSpec)

/-- 'diaeresislaw02.PlaceOrders', WHERE WHAT IT READS IS OF BULK AT MOST 1048576: true; the input reads as it did. -/
def placeOrdersUptoRow : OpenClaim := { program := "ytcjjjgodkgacmaadoor", sum := "f1be9f0c79f05af507f9af0a2dc4fee437e90539e9abecf9116f99f9a26f92f8", func := "diaeresis/diaeresislaw02.PlaceOrders", spec := "placeOrders", inPlace := ["internal/bytealg.IndexByteString", "internal/bytealg.IndexString", "internal/reflectlite.ValueOf", "(internal/reflectlite.Value).Type", "(internal/reflectlite.Value).IsNil", "internal/reflectlite.TypeOf", "(internal/reflectlite.Value).Elem", "(internal/reflectlite.Value).Set"], unfollowed := true, recurses := true, named := ["unicode/utf8.first", "unicode/utf8.acceptRanges", "internal/bytealg.MaxLen", "errors.errorType"], apart := false, laid := [("unicode/utf8.acceptRanges", laid_unicode_utf8_acceptRanges), ("errors.errorType", laid_errors_errorType), ("unicode/utf8.first", laid_unicode_utf8_first)], narrowed := true }
def PlaceOrdersUptoSaid : Prop := placeOrdersUptoRow.holds Tryd.pinned (OpenSpec.upto placeOrdersSpec)

/-- 'diaeresislaw02.PlaceBytes', WHERE WHAT IT READS IS OF BULK AT MOST 1048576: true; the input reads as it did. -/
def placeBytesUptoRow : OpenClaim := { program := "ytcjjjgodkgacmaadoor", sum := "f1be9f0c79f05af507f9af0a2dc4fee437e90539e9abecf9116f99f9a26f92f8", func := "diaeresis/diaeresislaw02.PlaceBytes", spec := "placeBytes", inPlace := ["internal/bytealg.IndexByteString", "internal/bytealg.IndexString", "internal/reflectlite.ValueOf", "(internal/reflectlite.Value).Type", "(internal/reflectlite.Value).IsNil", "internal/reflectlite.TypeOf", "(internal/reflectlite.Value).Elem", "(internal/reflectlite.Value).Set"], unfollowed := true, recurses := true, named := ["unicode/utf8.first", "unicode/utf8.acceptRanges", "internal/bytealg.MaxLen", "errors.errorType"], apart := false, laid := [("unicode/utf8.acceptRanges", laid_unicode_utf8_acceptRanges), ("errors.errorType", laid_errors_errorType), ("unicode/utf8.first", laid_unicode_utf8_first)], narrowed := true }
def PlaceBytesUptoSaid : Prop := placeBytesUptoRow.holds Tryd.pinned (OpenSpec.upto placeBytesSpec)

/-- 'diaeresislaw02.PlaceJoins', WHERE WHAT IT READS IS OF BULK AT MOST 1048576: true; the input reads as it did. -/
def placeJoinsUptoRow : OpenClaim := { program := "ytcjjjgodkgacmaadoor", sum := "f1be9f0c79f05af507f9af0a2dc4fee437e90539e9abecf9116f99f9a26f92f8", func := "diaeresis/diaeresislaw02.PlaceJoins", spec := "placeJoins", inPlace := ["internal/bytealg.IndexByteString", "internal/bytealg.IndexString", "internal/reflectlite.ValueOf", "(internal/reflectlite.Value).Type", "(internal/reflectlite.Value).IsNil", "internal/reflectlite.TypeOf", "(internal/reflectlite.Value).Elem", "(internal/reflectlite.Value).Set"], unfollowed := true, recurses := true, named := ["unicode/utf8.first", "unicode/utf8.acceptRanges", "internal/bytealg.MaxLen", "errors.errorType"], apart := false, laid := [("unicode/utf8.acceptRanges", laid_unicode_utf8_acceptRanges), ("errors.errorType", laid_errors_errorType), ("unicode/utf8.first", laid_unicode_utf8_first)], narrowed := true }
def PlaceJoinsUptoSaid : Prop := placeJoinsUptoRow.holds Tryd.pinned (OpenSpec.upto placeJoinsSpec)

/-- 'diaeresislaw02.PlaceLines', WHERE WHAT IT READS IS OF BULK AT MOST 1048576: true; the input reads as it did. -/
def placeLinesUptoRow : OpenClaim := { program := "ytcjjjgodkgacmaadoor", sum := "f1be9f0c79f05af507f9af0a2dc4fee437e90539e9abecf9116f99f9a26f92f8", func := "diaeresis/diaeresislaw02.PlaceLines", spec := "placeLines", inPlace := ["internal/bytealg.IndexByteString", "internal/bytealg.IndexString", "internal/reflectlite.ValueOf", "(internal/reflectlite.Value).Type", "(internal/reflectlite.Value).IsNil", "internal/reflectlite.TypeOf", "(internal/reflectlite.Value).Elem", "(internal/reflectlite.Value).Set"], unfollowed := true, recurses := true, named := ["unicode/utf8.first", "unicode/utf8.acceptRanges", "internal/bytealg.MaxLen", "errors.errorType"], apart := false, laid := [("unicode/utf8.acceptRanges", laid_unicode_utf8_acceptRanges), ("errors.errorType", laid_errors_errorType), ("unicode/utf8.first", laid_unicode_utf8_first)], narrowed := true }
def PlaceLinesUptoSaid : Prop := placeLinesUptoRow.holds Tryd.pinned (OpenSpec.upto placeLinesSpec)

/-- 'diaeresislaw02.PlaceUnits', WHERE WHAT IT READS IS OF BULK AT MOST 1048576: true; the input reads as it did. -/
def placeUnitsUptoRow : OpenClaim := { program := "ytcjjjgodkgacmaadoor", sum := "f1be9f0c79f05af507f9af0a2dc4fee437e90539e9abecf9116f99f9a26f92f8", func := "diaeresis/diaeresislaw02.PlaceUnits", spec := "placeUnits", inPlace := ["internal/bytealg.IndexByteString", "internal/bytealg.IndexString", "internal/reflectlite.ValueOf", "(internal/reflectlite.Value).Type", "(internal/reflectlite.Value).IsNil", "internal/reflectlite.TypeOf", "(internal/reflectlite.Value).Elem", "(internal/reflectlite.Value).Set"], unfollowed := true, recurses := true, named := ["unicode/utf8.first", "unicode/utf8.acceptRanges", "internal/bytealg.MaxLen", "errors.errorType"], apart := false, laid := [("unicode/utf8.acceptRanges", laid_unicode_utf8_acceptRanges), ("errors.errorType", laid_errors_errorType), ("unicode/utf8.first", laid_unicode_utf8_first)], narrowed := true }
def PlaceUnitsUptoSaid : Prop := placeUnitsUptoRow.holds Tryd.pinned (OpenSpec.upto placeUnitsSpec)

end Rows
end Go.Proofs.YtcjjjgodkgacmaaDoor
