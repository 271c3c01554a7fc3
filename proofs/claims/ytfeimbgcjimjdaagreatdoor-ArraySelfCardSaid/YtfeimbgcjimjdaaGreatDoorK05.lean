/-
  Part 5 of a proof: a machine of our own for the given program, its laws, and what it says of the program. Nothing here is a claim by itself.
-/
import Derived.Test.YtfeimbgcjimjdaaGreatDoorK04
import Derived.IntWalk
import Derived.Lib.Replace
import Derived.Lib.ItoaNum
import Derived.Test.YtfeimbgcjimjdaaGreatDoorProg
import Derived.WalkKit
import Derived.Test.YtfeimbgcjimjdaaGreatDoorK01
import Derived.Lib.Builder
import Derived.Lib.UnsafeStr
import Derived.Lib.Bytealg
import Derived.Lib.AppendZerosOnto
import Derived.Lib.Walk
import Derived.Lib.SliceRun
import Derived.Laws.Externs
import Derived.Shelf.RegionOpenPlain
import Derived.Shelf.Strings.Replace
import Derived.Shelf.Strconv.Itoa4
import Derived.Lib.Strings
import Derived.LaidEql
import Derived.Stop.Asserts
import Derived.RowKitTokens
import Derived.Test.YtfeimbgcjimjdaaGreatDoorK03
import Derived.Lib.AppendIntMem
import Derived.Lib.CountLaws
set_option linter.all false

/-
  What each function is, as a plain term; printed by a program (wip/gen), held by the kernel.
-/
set_option maxRecDepth 100000
namespace Go.Ab
open Go
def rsh0 : FuncId → RSh × Bool
  | 88 => (.cl, false)
  | _ => (.cl, true)
def sh64 : IoSh := { args := [], ins := [], res := .un, outs := [], news := [], gone := [] }
def iof0 : FuncId → Option IoSh
  | 64 => some sh64
  | _ => none
def cfg0 (b : KB) (dsh : Nat → RSh) : KCfg := { b, rsh := rsh0, spF := fun f => f == 43 || f == 81 || f == 62 || f == 99 || f == 135 || f == 106 || f == 65 || f == 100, asT := fun f p => if f = 43 ∧ p = 66 then some (64, 1) else if f = 43 ∧ p = 117 then some (73, 1) else none, dsh, ioF := iof0 }

theorem run3 (B : KB) {E : Type} (h : Handler E) (dep : Nat) (e : E) (x0 : PV) (x1 : PV) (x2 : PV) (x3 : PV) :
    runK (cfg0 B (fun _ => .cl)) fn3 (.cl) h dep [.cv x0, .cv x1, .cv x2, .cv x3] e =
    chkO (valO x1) (chkO (valO x2) (bindO (callO B .cl (.fn 8 []) []) (fun z1 => bindO (selO x1 0 3 true) (fun z2 => bindO (callO B .cl (.fn 9 []) [z2]) (fun z3 => chkO (okSto z3 x1 0
    3) (bindO (selO x2 0 3 true) (fun z4 => bindO (callO B .cl (.fn 9 []) [z4]) (fun z5 => chkO (okSto z5 x2 0 3) (bindO (callO B .cl (.fn 11 []) [x0]) (fun z6 => bindO (selO (stoP z3
    x1 0) 0 3 true) (fun z7 => bindO (selO (stoP z5 x2 0) 0 3 true) (fun z8 => bindO (callO B .cl (.fn 10 []) [z6, z7, z8]) (fun z9 => bindO (pureO (.extract 0 (.c z9))) (fun z10 =>
    bindO (pureO (.extract 1 (.c z9))) (fun z11 => chkO (okCells z10 3) (bindO (bindO (pureO (.bin .neq .num true (.c z11) (.c (.int .i64 0)))) (fun z12 => iteP z12 (some (.bool true))
    (bindO (pureO (.bin .lss .num true (.c x3) (.c (.int .i64 0)))) (fun z13 => iteP z13 (some (.bool true)) (bindO (pureO (.len .slice (.c (cellP z10 2)))) (fun z14 => bindO (pureO
    (.bin .geq .num false (.c x3) (.c z14))) (fun z15 => some z15))))))) (fun z16 => iteP z16 (some (z1, e)) (bindO (selO (stoP z3 x1 0) 1 1 false) (fun z17 => bindO (selO (stoP z3 x1
    0) 2 1 false) (fun z18 => bindO (pureO (.slice 1 (.c z18) none (some (.c (.int .i64 1))) none)) (fun z19 => bindO (pureO (.build [.bool false, .bool false, .nilS] [(1, (1, .c
    z17)), (2, (1, .c z19))])) (fun z20 => chkO (okCells z20 3) (bindO (selO (stoP z3 x1 0) 0 1 false) (fun z21 => iteP z21 (bindO (selO (stoP z3 x1 0) 2 1 false) (fun z22 => bindO
    (pureO (.bin .add .num true (.c x3) (.c (.int .i64 1)))) (fun z23 => bindO (pureO (.slice 1 (.c z22) (some (.c x3)) (some (.c z23)) none)) (fun z24 => chkO (okCells z24 1) (bindO
    (selO (stoP z5 x2 0) 1 1 false) (fun z25 => bindO (selO (stoP z5 x2 0) 2 1 false) (fun z26 => bindO (pureO (.slice 1 (.c z26) none (some (.c (.int .i64 1))) none)) (fun z27 =>
    bindO (pureO (.build [.bool false, .bool false, .nilS] [(1, (1, .c z25)), (2, (1, .c z27))])) (fun z28 => chkO (okCells z28 3) (bindO (selO (stoP z5 x2 0) 0 1 false) (fun z29 =>
    iteP z29 (bindO (selO (stoP z5 x2 0) 2 1 false) (fun z30 => bindO (pureO (.bin .add .num true (.c x3) (.c (.int .i64 1)))) (fun z31 => bindO (pureO (.slice 1 (.c z30) (some (.c
    x3)) (some (.c z31)) none)) (fun z32 => chkO (okCells z32 1) (bindO (callO B .cl (.fn 11 []) [x0]) (fun z33 => bindO (callO B .cl (.fn 10 []) [z33, .agg [cellP z20 0, cellP z20 1,
    cellP z24 0], .agg [cellP z28 0, cellP z28 1, cellP z32 0]]) (fun z34 => bindO (pureO (.extract 0 (.c z34))) (fun z35 => bindO (pureO (.extract 1 (.c z34))) (fun z36 => chkO
    (okCells z35 3) (iteP z1 (bindO (pureO (.bin .eql .num true (.c z36) (.c (.int .i64 0)))) (fun z37 => iteP z37 (bindO (pureO (.len .slice (.c (cellP z35 2)))) (fun z38 => bindO
    (pureO (.bin .eql .num true (.c z38) (.c (.int .i64 1)))) (fun z39 => iteP z39 (bindO (pureO (.un .not (.c (cellP z35 0)))) (fun z40 => iteP z40 (bindO (pureO (.idxAddr 1 (.c
    (cellP z35 2)) (.c (.int .i64 0)))) (fun z41 => bindO (pureO (.load 1 false (.c z41))) (fun z42 => bindO (pureO (.idxAddr 1 (.c (cellP z10 2)) (.c x3))) (fun z43 => bindO (pureO
    (.load 1 false (.c z43))) (fun z44 => bindO (pureO (.bin .eql .num false (.c z42) (.c z44))) (fun z45 => some (z45, e))))))) (some (.bool false, e)))) (some (.bool false, e)))))
    (some (.bool false, e)))) (some (.bool false, e)))))))))))) (bindO (callO B .cl (.fn 11 []) [x0]) (fun z46 => bindO (callO B .cl (.fn 10 []) [z46, .agg [cellP z20 0, cellP z20 1,
    cellP z24 0], .agg [cellP z28 0, cellP z28 1, cellP z28 2]]) (fun z47 => bindO (pureO (.extract 0 (.c z47))) (fun z48 => bindO (pureO (.extract 1 (.c z47))) (fun z49 => chkO
    (okCells z48 3) (iteP z1 (bindO (pureO (.bin .eql .num true (.c z49) (.c (.int .i64 0)))) (fun z50 => iteP z50 (bindO (pureO (.len .slice (.c (cellP z48 2)))) (fun z51 => bindO
    (pureO (.bin .eql .num true (.c z51) (.c (.int .i64 1)))) (fun z52 => iteP z52 (bindO (pureO (.un .not (.c (cellP z48 0)))) (fun z53 => iteP z53 (bindO (pureO (.idxAddr 1 (.c
    (cellP z48 2)) (.c (.int .i64 0)))) (fun z54 => bindO (pureO (.load 1 false (.c z54))) (fun z55 => bindO (pureO (.idxAddr 1 (.c (cellP z10 2)) (.c x3))) (fun z56 => bindO (pureO
    (.load 1 false (.c z56))) (fun z57 => bindO (pureO (.bin .eql .num false (.c z55) (.c z57))) (fun z58 => some (z58, e))))))) (some (.bool false, e)))) (some (.bool false, e)))))
    (some (.bool false, e)))) (some (.bool false, e))))))))))))))))))) (bindO (selO (stoP z5 x2 0) 1 1 false) (fun z59 => bindO (selO (stoP z5 x2 0) 2 1 false) (fun z60 => bindO (pureO
    (.slice 1 (.c z60) none (some (.c (.int .i64 1))) none)) (fun z61 => bindO (pureO (.build [.bool false, .bool false, .nilS] [(1, (1, .c z59)), (2, (1, .c z61))])) (fun z62 => chkO
    (okCells z62 3) (bindO (selO (stoP z5 x2 0) 0 1 false) (fun z63 => iteP z63 (bindO (selO (stoP z5 x2 0) 2 1 false) (fun z64 => bindO (pureO (.bin .add .num true (.c x3) (.c (.int
    .i64 1)))) (fun z65 => bindO (pureO (.slice 1 (.c z64) (some (.c x3)) (some (.c z65)) none)) (fun z66 => chkO (okCells z66 1) (bindO (callO B .cl (.fn 11 []) [x0]) (fun z67 =>
    bindO (callO B .cl (.fn 10 []) [z67, .agg [cellP z20 0, cellP z20 1, cellP z20 2], .agg [cellP z62 0, cellP z62 1, cellP z66 0]]) (fun z68 => bindO (pureO (.extract 0 (.c z68)))
    (fun z69 => bindO (pureO (.extract 1 (.c z68))) (fun z70 => chkO (okCells z69 3) (iteP z1 (bindO (pureO (.bin .eql .num true (.c z70) (.c (.int .i64 0)))) (fun z71 => iteP z71
    (bindO (pureO (.len .slice (.c (cellP z69 2)))) (fun z72 => bindO (pureO (.bin .eql .num true (.c z72) (.c (.int .i64 1)))) (fun z73 => iteP z73 (bindO (pureO (.un .not (.c (cellP
    z69 0)))) (fun z74 => iteP z74 (bindO (pureO (.idxAddr 1 (.c (cellP z69 2)) (.c (.int .i64 0)))) (fun z75 => bindO (pureO (.load 1 false (.c z75))) (fun z76 => bindO (pureO
    (.idxAddr 1 (.c (cellP z10 2)) (.c x3))) (fun z77 => bindO (pureO (.load 1 false (.c z77))) (fun z78 => bindO (pureO (.bin .eql .num false (.c z76) (.c z78))) (fun z79 => some
    (z79, e))))))) (some (.bool false, e)))) (some (.bool false, e))))) (some (.bool false, e)))) (some (.bool false, e)))))))))))) (bindO (callO B .cl (.fn 11 []) [x0]) (fun z80 =>
    bindO (callO B .cl (.fn 10 []) [z80, .agg [cellP z20 0, cellP z20 1, cellP z20 2], .agg [cellP z62 0, cellP z62 1, cellP z62 2]]) (fun z81 => bindO (pureO (.extract 0 (.c z81)))
    (fun z82 => bindO (pureO (.extract 1 (.c z81))) (fun z83 => chkO (okCells z82 3) (iteP z1 (bindO (pureO (.bin .eql .num true (.c z83) (.c (.int .i64 0)))) (fun z84 => iteP z84
    (bindO (pureO (.len .slice (.c (cellP z82 2)))) (fun z85 => bindO (pureO (.bin .eql .num true (.c z85) (.c (.int .i64 1)))) (fun z86 => iteP z86 (bindO (pureO (.un .not (.c (cellP
    z82 0)))) (fun z87 => iteP z87 (bindO (pureO (.idxAddr 1 (.c (cellP z82 2)) (.c (.int .i64 0)))) (fun z88 => bindO (pureO (.load 1 false (.c z88))) (fun z89 => bindO (pureO
    (.idxAddr 1 (.c (cellP z10 2)) (.c x3))) (fun z90 => bindO (pureO (.load 1 false (.c z90))) (fun z91 => bindO (pureO (.bin .eql .num false (.c z89) (.c z91))) (fun z92 => some
    (z92, e))))))) (some (.bool false, e)))) (some (.bool false, e))))) (some (.bool false, e)))) (some (.bool false, e))))))))))))))))))))))))))))))))))))))) := by kernel_rfl
theorem run4 (B : KB) {E : Type} (h : Handler E) (dep : Nat) (e : E) (x0 : PV) (x1 : PV) :
    runK (cfg0 B (fun _ => .cl)) fn4 (.cl) h dep [.cv x0, .cv x1] e =
    chkO (valO x0) (chkO (valO x1) (bindO (callO B .cl (.fn 8 []) []) (fun z1 => bindO (selO x0 0 3 true) (fun z2 => bindO (callO B .cl (.fn 9 []) [z2]) (fun z3 => chkO (okSto z3 x0 0
    3) (bindO (selO x1 0 3 true) (fun z4 => bindO (callO B .cl (.fn 9 []) [z4]) (fun z5 => chkO (okSto z5 x1 0 3) (bindO (selO (stoP z3 x0 0) 0 3 true) (fun z6 => bindO (selO (stoP z3
    x0 0) 0 3 true) (fun z7 => bindO (callO B .cl (.fn 10 []) [.str [61], z6, z7]) (fun z8 => bindO (pureO (.extract 0 (.c z8))) (fun z9 => bindO (pureO (.extract 1 (.c z8))) (fun z10
    => chkO (okCells z9 3) (bindO (selO (stoP z3 x0 0) 0 3 true) (fun z11 => bindO (selO (stoP z5 x1 0) 0 3 true) (fun z12 => bindO (callO B .cl (.fn 10 []) [.str [43], z11, z12]) (fun
    z13 => bindO (pureO (.extract 0 (.c z13))) (fun z14 => bindO (pureO (.extract 1 (.c z13))) (fun z15 => chkO (okCells z14 3) (bindO (selO (stoP z5 x1 0) 0 3 true) (fun z16 => bindO
    (selO (stoP z3 x0 0) 0 3 true) (fun z17 => bindO (callO B .cl (.fn 10 []) [.str [43], z16, z17]) (fun z18 => bindO (pureO (.extract 0 (.c z18))) (fun z19 => bindO (pureO (.extract
    1 (.c z18))) (fun z20 => chkO (okCells z19 3) (bindO (pureO (.bin .neq .num true (.c z10) (.c (.int .i64 0)))) (fun z21 => iteP z21 (iteP z1 (bindO (pureO (.bin .eql .num true (.c
    z10) (.c (.int .i64 114)))) (fun z22 => iteP z22 (bindO (selO (stoP z3 x0 0) 0 3 true) (fun z23 => bindO (callO B .cl (.fn 12 []) [z23]) (fun z24 => bindO (pureO (.un .not (.c
    z24))) (fun z25 => iteP z25 (bindO (pureO (.bin .eql .num false (.c z15) (.c z10))) (fun z26 => iteP z26 (bindO (pureO (.bin .eql .num false (.c z20) (.c z10))) (fun z27 => some
    (z27, e))) (some (.bool false, e)))) (some (.bool false, e)))))) (some (.bool false, e)))) (some (.bool false, e))) (chkO (noUndef [z1, z15, z20, .int .i64 0]) (loopL (fun z28 =>
    bindO (pureO (.len .slice (.c (nth z28.1 7)))) (fun z29 => bindO (pureO (.bin .lss .num false (.c (nth z28.1 3)) (.c z29))) (fun z30 => iteP z30 (bindO (pureO (.idxAddr 1 (.c (nth
    z28.1 7)) (.c (nth z28.1 3)))) (fun z31 => bindO (pureO (.load 1 false (.c z31))) (fun z32 => bindO (pureO (.bin .neq .num true (.c z32) (.c (.int .i64 1)))) (fun z33 => iteP z33
    (bindO (some (.bool false, z28.2)) (fun z34 => some (.inr z34))) (bindO (pureO (.bin .add .num true (.c (nth z28.1 3)) (.c (.int .i64 1)))) (fun z35 => some (.inl ([nth z28.1 0,
    nth z28.1 1, nth z28.1 2, z35, nth z28.1 4, nth z28.1 5, nth z28.1 6, nth z28.1 7, nth z28.1 8, nth z28.1 9, nth z28.1 10, nth z28.1 11, nth z28.1 12, nth z28.1 13], z28.2))))))))
    (bindO (iteP (nth z28.1 0) (bindO (pureO (.len .slice (.c (nth z28.1 7)))) (fun z36 => bindO (selO (nth z28.1 4) 2 1 false) (fun z37 => bindO (pureO (.len .slice (.c z37))) (fun
    z38 => bindO (pureO (.bin .eql .num false (.c z36) (.c z38))) (fun z39 => iteP z39 (bindO (pureO (.bin .eql .num false (.c (nth z28.1 1)) (.c (nth z28.1 2)))) (fun z40 => iteP z40
    (bindO (callO B .cl (.fn 13 []) [.agg [nth z28.1 8, nth z28.1 9, nth z28.1 10], .agg [nth z28.1 11, nth z28.1 12, nth z28.1 13]]) (fun z41 => some (z41, z28.2))) (some (.bool
    false, z28.2)))) (some (.bool false, z28.2))))))) (some (.bool false, z28.2))) (fun z42 => some (.inr z42)))))) ([z1, z15, z20, .int .i64 0, stoP z3 x0 0, cellP z9 0, cellP z9 1,
    cellP z9 2, cellP z14 0, cellP z14 1, cellP z14 2, cellP z19 0, cellP z19 1, cellP z19 2], e))))))))))))))))))))))))))))))) := by kernel_rfl
theorem run5 (B : KB) {E : Type} (h : Handler E) (dep : Nat) (e : E) (x0 : PV) (x1 : PV) (x2 : PV) :
    runK (cfg0 B (fun _ => .cl)) fn5 (.cl) h dep [.cv x0, .cv x1, .cv x2] e =
    chkO (valO x1) (chkO (valO x2) (bindO (callO B .cl (.fn 8 []) []) (fun z1 => bindO (selO x1 0 3 true) (fun z2 => bindO (callO B .cl (.fn 9 []) [z2]) (fun z3 => chkO (okSto z3 x1 0
    3) (bindO (selO x2 0 3 true) (fun z4 => bindO (callO B .cl (.fn 9 []) [z4]) (fun z5 => chkO (okSto z5 x2 0 3) (bindO (callO B .cl (.fn 11 []) [x0]) (fun z6 => bindO (selO (stoP z5
    x2 0) 0 3 true) (fun z7 => bindO (callO B .cl (.fn 14 []) [z6, z7]) (fun z8 => bindO (pureO (.extract 0 (.c z8))) (fun z9 => bindO (pureO (.extract 1 (.c z8))) (fun z10 => chkO
    (okCells z9 3) (bindO (callO B .cl (.fn 11 []) [x0]) (fun z11 => bindO (selO (stoP z5 x2 0) 0 3 true) (fun z12 => bindO (callO B .cl (.fn 15 []) [z11, z12]) (fun z13 => bindO
    (pureO (.extract 0 (.c z13))) (fun z14 => bindO (pureO (.extract 1 (.c z13))) (fun z15 => chkO (okCells z14 3) (bindO (callO B .cl (.fn 11 []) [x0]) (fun z16 => bindO (selO (stoP
    z3 x1 0) 0 3 true) (fun z17 => bindO (selO (stoP z5 x2 0) 0 3 true) (fun z18 => bindO (callO B .cl (.fn 10 []) [z16, z17, z18]) (fun z19 => bindO (pureO (.extract 0 (.c z19))) (fun
    z20 => bindO (pureO (.extract 1 (.c z19))) (fun z21 => chkO (okCells z20 3) (bindO (callO B .cl (.fn 11 []) [x0]) (fun z22 => bindO (selO (stoP z3 x1 0) 0 3 true) (fun z23 => bindO
    (selO (stoP z5 x2 0) 0 3 true) (fun z24 => bindO (callO B .cl (.fn 16 []) [z22, z23, z24]) (fun z25 => bindO (pureO (.extract 0 (.c z25))) (fun z26 => bindO (pureO (.extract 1 (.c
    z25))) (fun z27 => chkO (okCells z26 3) (iteP z1 (bindO (callO B .cl (.fn 17 []) [.agg [cellP z9 0, cellP z9 1, cellP z9 2], .agg [cellP z14 0, cellP z14 1, cellP z14 2]]) (fun z28
    => iteP z28 (bindO (pureO (.bin .eql .num false (.c z10) (.c z15))) (fun z29 => iteP z29 (bindO (callO B .cl (.fn 17 []) [.agg [cellP z20 0, cellP z20 1, cellP z20 2], .agg [cellP
    z26 0, cellP z26 1, cellP z26 2]]) (fun z30 => iteP z30 (bindO (pureO (.bin .eql .num false (.c z21) (.c z27))) (fun z31 => some (z31, e))) (some (.bool false, e)))) (some (.bool
    false, e)))) (some (.bool false, e)))) (some (.bool false, e))))))))))))))))))))))))))))))))))))) := by kernel_rfl
theorem run6 (B : KB) {E : Type} (h : Handler E) (dep : Nat) (e : E) (x0 : PV) (x1 : PV) (x2 : PV) :
    runK (cfg0 B (fun _ => .cl)) fn6 (.cl) h dep [.cv x0, .cv x1, .cv x2] e =
    chkO (valO x1) (chkO (valO x2) (bindO (callO B .cl (.fn 8 []) []) (fun z1 => bindO (selO x1 0 3 true) (fun z2 => bindO (callO B .cl (.fn 9 []) [z2]) (fun z3 => chkO (okSto z3 x1 0
    3) (bindO (selO x2 0 3 true) (fun z4 => bindO (callO B .cl (.fn 9 []) [z4]) (fun z5 => chkO (okSto z5 x2 0 3) (bindO (callO B .cl (.fn 11 []) [x0]) (fun z6 => bindO (selO (stoP z3
    x1 0) 0 3 true) (fun z7 => bindO (selO (stoP z5 x2 0) 0 3 true) (fun z8 => bindO (callO B .cl (.fn 10 []) [z6, z7, z8]) (fun z9 => bindO (pureO (.extract 0 (.c z9))) (fun z10 =>
    bindO (pureO (.extract 1 (.c z9))) (fun z11 => chkO (okCells z10 3) (bindO (callO B .cl (.fn 11 []) [x0]) (fun z12 => bindO (selO (stoP z5 x2 0) 0 3 true) (fun z13 => bindO (callO
    B .cl (.fn 14 []) [z12, z13]) (fun z14 => bindO (pureO (.extract 0 (.c z14))) (fun z15 => bindO (pureO (.extract 1 (.c z14))) (fun z16 => chkO (okCells z15 3) (bindO (pureO (.bin
    .eql .num true (.c z11) (.c (.int .i64 0)))) (fun z17 => iteP z17 (bindO (selO (stoP z5 x2 0) 2 1 false) (fun z18 => bindO (pureO (.len .slice (.c z18))) (fun z19 => bindO (selO
    (stoP z3 x1 0) 0 1 false) (fun z20 => iteP z20 (bindO (selO (stoP z3 x1 0) 2 1 false) (fun z21 => bindO (pureO (.len .slice (.c z21))) (fun z22 => bindO (callO B .cl (.fn 12 [])
    [.agg [cellP z10 0, cellP z10 1, cellP z10 2]]) (fun z23 => bindO (pureO (.un .not (.c z23))) (fun z24 => iteP z24 (some (.bool false, e)) (iteP (cellP z10 1) (some (.bool false,
    e)) (bindO (pureO (.len .slice (.c (cellP z10 2)))) (fun z25 => bindO (pureO (.bin .neq .num false (.c z25) (.c z22))) (fun z26 => iteP z26 (some (.bool false, e)) (bindO (selO
    (stoP z3 x1 0) 0 1 false) (fun z27 => iteP z27 (bindO (pureO (.bin .neq .bool false (.c (cellP z10 0)) (.c (.bool true)))) (fun z28 => iteP z28 (some (.bool false, e)) (iteP z1
    (bindO (pureO (.bin .neq .num true (.c z16) (.c (.int .i64 0)))) (fun z29 => iteP z29 (bindO (pureO (.bin .eql .num true (.c z11) (.c (.int .i64 0)))) (fun z30 => iteP z30 (bindO
    (pureO (.bin .eql .num true (.c z16) (.c (.int .i64 0)))) (fun z31 => iteP z31 (some (.bool true, e)) (bindO (pureO (.len .slice (.c (cellP z15 2)))) (fun z32 => bindO (pureO (.bin
    .eql .num true (.c z32) (.c (.int .i64 0)))) (fun z33 => some (z33, e)))))) (bindO (pureO (.len .slice (.c (cellP z10 2)))) (fun z34 => bindO (pureO (.bin .eql .num true (.c z34)
    (.c (.int .i64 0)))) (fun z35 => iteP z35 (bindO (pureO (.bin .eql .num true (.c z16) (.c (.int .i64 0)))) (fun z36 => iteP z36 (some (.bool true, e)) (bindO (pureO (.len .slice
    (.c (cellP z15 2)))) (fun z37 => bindO (pureO (.bin .eql .num true (.c z37) (.c (.int .i64 0)))) (fun z38 => some (z38, e)))))) (some (.bool false, e))))))) (bindO (callO B .cl
    (.fn 12 []) [.agg [cellP z15 0, cellP z15 1, cellP z15 2]]) (fun z39 => iteP z39 (bindO (pureO (.un .not (.c (cellP z15 1)))) (fun z40 => iteP z40 (bindO (pureO (.len .slice (.c
    (cellP z15 2)))) (fun z41 => bindO (selO (stoP z5 x2 0) 2 1 false) (fun z42 => bindO (pureO (.len .slice (.c z42))) (fun z43 => bindO (pureO (.bin .eql .num false (.c z41) (.c
    z43))) (fun z44 => iteP z44 (bindO (selO (stoP z5 x2 0) 0 1 false) (fun z45 => bindO (pureO (.bin .eql .bool false (.c (cellP z15 0)) (.c z45))) (fun z46 => iteP z46 (bindO (pureO
    (.bin .eql .num true (.c z11) (.c (.int .i64 0)))) (fun z47 => iteP z47 (bindO (pureO (.bin .eql .num true (.c z16) (.c (.int .i64 0)))) (fun z48 => iteP z48 (some (.bool true, e))
    (bindO (pureO (.len .slice (.c (cellP z15 2)))) (fun z49 => bindO (pureO (.bin .eql .num true (.c z49) (.c (.int .i64 0)))) (fun z50 => some (z50, e)))))) (bindO (pureO (.len
    .slice (.c (cellP z10 2)))) (fun z51 => bindO (pureO (.bin .eql .num true (.c z51) (.c (.int .i64 0)))) (fun z52 => iteP z52 (bindO (pureO (.bin .eql .num true (.c z16) (.c (.int
    .i64 0)))) (fun z53 => iteP z53 (some (.bool true, e)) (bindO (pureO (.len .slice (.c (cellP z15 2)))) (fun z54 => bindO (pureO (.bin .eql .num true (.c z54) (.c (.int .i64 0))))
    (fun z55 => some (z55, e)))))) (some (.bool false, e))))))) (some (.bool false, e))))) (some (.bool false, e))))))) (some (.bool false, e)))) (some (.bool false, e)))))) (some
    (.bool false, e))))) (bindO (selO (stoP z5 x2 0) 0 1 false) (fun z56 => bindO (pureO (.bin .neq .bool false (.c (cellP z10 0)) (.c z56))) (fun z57 => iteP z57 (some (.bool false,
    e)) (iteP z1 (bindO (pureO (.bin .neq .num true (.c z16) (.c (.int .i64 0)))) (fun z58 => iteP z58 (bindO (pureO (.bin .eql .num true (.c z11) (.c (.int .i64 0)))) (fun z59 => iteP
    z59 (bindO (pureO (.bin .eql .num true (.c z16) (.c (.int .i64 0)))) (fun z60 => iteP z60 (some (.bool true, e)) (bindO (pureO (.len .slice (.c (cellP z15 2)))) (fun z61 => bindO
    (pureO (.bin .eql .num true (.c z61) (.c (.int .i64 0)))) (fun z62 => some (z62, e)))))) (bindO (pureO (.len .slice (.c (cellP z10 2)))) (fun z63 => bindO (pureO (.bin .eql .num
    true (.c z63) (.c (.int .i64 0)))) (fun z64 => iteP z64 (bindO (pureO (.bin .eql .num true (.c z16) (.c (.int .i64 0)))) (fun z65 => iteP z65 (some (.bool true, e)) (bindO (pureO
    (.len .slice (.c (cellP z15 2)))) (fun z66 => bindO (pureO (.bin .eql .num true (.c z66) (.c (.int .i64 0)))) (fun z67 => some (z67, e)))))) (some (.bool false, e))))))) (bindO
    (callO B .cl (.fn 12 []) [.agg [cellP z15 0, cellP z15 1, cellP z15 2]]) (fun z68 => iteP z68 (bindO (pureO (.un .not (.c (cellP z15 1)))) (fun z69 => iteP z69 (bindO (pureO (.len
    .slice (.c (cellP z15 2)))) (fun z70 => bindO (selO (stoP z5 x2 0) 2 1 false) (fun z71 => bindO (pureO (.len .slice (.c z71))) (fun z72 => bindO (pureO (.bin .eql .num false (.c
    z70) (.c z72))) (fun z73 => iteP z73 (bindO (selO (stoP z5 x2 0) 0 1 false) (fun z74 => bindO (pureO (.bin .eql .bool false (.c (cellP z15 0)) (.c z74))) (fun z75 => iteP z75
    (bindO (pureO (.bin .eql .num true (.c z11) (.c (.int .i64 0)))) (fun z76 => iteP z76 (bindO (pureO (.bin .eql .num true (.c z16) (.c (.int .i64 0)))) (fun z77 => iteP z77 (some
    (.bool true, e)) (bindO (pureO (.len .slice (.c (cellP z15 2)))) (fun z78 => bindO (pureO (.bin .eql .num true (.c z78) (.c (.int .i64 0)))) (fun z79 => some (z79, e)))))) (bindO
    (pureO (.len .slice (.c (cellP z10 2)))) (fun z80 => bindO (pureO (.bin .eql .num true (.c z80) (.c (.int .i64 0)))) (fun z81 => iteP z81 (bindO (pureO (.bin .eql .num true (.c
    z16) (.c (.int .i64 0)))) (fun z82 => iteP z82 (some (.bool true, e)) (bindO (pureO (.len .slice (.c (cellP z15 2)))) (fun z83 => bindO (pureO (.bin .eql .num true (.c z83) (.c
    (.int .i64 0)))) (fun z84 => some (z84, e)))))) (some (.bool false, e))))))) (some (.bool false, e))))) (some (.bool false, e))))))) (some (.bool false, e)))) (some (.bool false,
    e)))))) (some (.bool false, e))))))))))))))))) (bindO (callO B .cl (.fn 12 []) [.agg [cellP z10 0, cellP z10 1, cellP z10 2]]) (fun z85 => bindO (pureO (.un .not (.c z85))) (fun
    z86 => iteP z86 (some (.bool false, e)) (iteP (cellP z10 1) (some (.bool false, e)) (bindO (pureO (.len .slice (.c (cellP z10 2)))) (fun z87 => bindO (pureO (.bin .neq .num false
    (.c z87) (.c z19))) (fun z88 => iteP z88 (some (.bool false, e)) (bindO (selO (stoP z3 x1 0) 0 1 false) (fun z89 => iteP z89 (bindO (pureO (.bin .neq .bool false (.c (cellP z10 0))
    (.c (.bool true)))) (fun z90 => iteP z90 (some (.bool false, e)) (iteP z1 (bindO (pureO (.bin .neq .num true (.c z16) (.c (.int .i64 0)))) (fun z91 => iteP z91 (bindO (pureO (.bin
    .eql .num true (.c z11) (.c (.int .i64 0)))) (fun z92 => iteP z92 (bindO (pureO (.bin .eql .num true (.c z16) (.c (.int .i64 0)))) (fun z93 => iteP z93 (some (.bool true, e))
    (bindO (pureO (.len .slice (.c (cellP z15 2)))) (fun z94 => bindO (pureO (.bin .eql .num true (.c z94) (.c (.int .i64 0)))) (fun z95 => some (z95, e)))))) (bindO (pureO (.len
    .slice (.c (cellP z10 2)))) (fun z96 => bindO (pureO (.bin .eql .num true (.c z96) (.c (.int .i64 0)))) (fun z97 => iteP z97 (bindO (pureO (.bin .eql .num true (.c z16) (.c (.int
    .i64 0)))) (fun z98 => iteP z98 (some (.bool true, e)) (bindO (pureO (.len .slice (.c (cellP z15 2)))) (fun z99 => bindO (pureO (.bin .eql .num true (.c z99) (.c (.int .i64 0))))
    (fun z100 => some (z100, e)))))) (some (.bool false, e))))))) (bindO (callO B .cl (.fn 12 []) [.agg [cellP z15 0, cellP z15 1, cellP z15 2]]) (fun z101 => iteP z101 (bindO (pureO
    (.un .not (.c (cellP z15 1)))) (fun z102 => iteP z102 (bindO (pureO (.len .slice (.c (cellP z15 2)))) (fun z103 => bindO (selO (stoP z5 x2 0) 2 1 false) (fun z104 => bindO (pureO
    (.len .slice (.c z104))) (fun z105 => bindO (pureO (.bin .eql .num false (.c z103) (.c z105))) (fun z106 => iteP z106 (bindO (selO (stoP z5 x2 0) 0 1 false) (fun z107 => bindO
    (pureO (.bin .eql .bool false (.c (cellP z15 0)) (.c z107))) (fun z108 => iteP z108 (bindO (pureO (.bin .eql .num true (.c z11) (.c (.int .i64 0)))) (fun z109 => iteP z109 (bindO
    (pureO (.bin .eql .num true (.c z16) (.c (.int .i64 0)))) (fun z110 => iteP z110 (some (.bool true, e)) (bindO (pureO (.len .slice (.c (cellP z15 2)))) (fun z111 => bindO (pureO
    (.bin .eql .num true (.c z111) (.c (.int .i64 0)))) (fun z112 => some (z112, e)))))) (bindO (pureO (.len .slice (.c (cellP z10 2)))) (fun z113 => bindO (pureO (.bin .eql .num true
    (.c z113) (.c (.int .i64 0)))) (fun z114 => iteP z114 (bindO (pureO (.bin .eql .num true (.c z16) (.c (.int .i64 0)))) (fun z115 => iteP z115 (some (.bool true, e)) (bindO (pureO
    (.len .slice (.c (cellP z15 2)))) (fun z116 => bindO (pureO (.bin .eql .num true (.c z116) (.c (.int .i64 0)))) (fun z117 => some (z117, e)))))) (some (.bool false, e))))))) (some
    (.bool false, e))))) (some (.bool false, e))))))) (some (.bool false, e)))) (some (.bool false, e)))))) (some (.bool false, e))))) (bindO (selO (stoP z5 x2 0) 0 1 false) (fun z118
    => bindO (pureO (.bin .neq .bool false (.c (cellP z10 0)) (.c z118))) (fun z119 => iteP z119 (some (.bool false, e)) (iteP z1 (bindO (pureO (.bin .neq .num true (.c z16) (.c (.int
    .i64 0)))) (fun z120 => iteP z120 (bindO (pureO (.bin .eql .num true (.c z11) (.c (.int .i64 0)))) (fun z121 => iteP z121 (bindO (pureO (.bin .eql .num true (.c z16) (.c (.int .i64
    0)))) (fun z122 => iteP z122 (some (.bool true, e)) (bindO (pureO (.len .slice (.c (cellP z15 2)))) (fun z123 => bindO (pureO (.bin .eql .num true (.c z123) (.c (.int .i64 0))))
    (fun z124 => some (z124, e)))))) (bindO (pureO (.len .slice (.c (cellP z10 2)))) (fun z125 => bindO (pureO (.bin .eql .num true (.c z125) (.c (.int .i64 0)))) (fun z126 => iteP
    z126 (bindO (pureO (.bin .eql .num true (.c z16) (.c (.int .i64 0)))) (fun z127 => iteP z127 (some (.bool true, e)) (bindO (pureO (.len .slice (.c (cellP z15 2)))) (fun z128 =>
    bindO (pureO (.bin .eql .num true (.c z128) (.c (.int .i64 0)))) (fun z129 => some (z129, e)))))) (some (.bool false, e))))))) (bindO (callO B .cl (.fn 12 []) [.agg [cellP z15 0,
    cellP z15 1, cellP z15 2]]) (fun z130 => iteP z130 (bindO (pureO (.un .not (.c (cellP z15 1)))) (fun z131 => iteP z131 (bindO (pureO (.len .slice (.c (cellP z15 2)))) (fun z132 =>
    bindO (selO (stoP z5 x2 0) 2 1 false) (fun z133 => bindO (pureO (.len .slice (.c z133))) (fun z134 => bindO (pureO (.bin .eql .num false (.c z132) (.c z134))) (fun z135 => iteP
    z135 (bindO (selO (stoP z5 x2 0) 0 1 false) (fun z136 => bindO (pureO (.bin .eql .bool false (.c (cellP z15 0)) (.c z136))) (fun z137 => iteP z137 (bindO (pureO (.bin .eql .num
    true (.c z11) (.c (.int .i64 0)))) (fun z138 => iteP z138 (bindO (pureO (.bin .eql .num true (.c z16) (.c (.int .i64 0)))) (fun z139 => iteP z139 (some (.bool true, e)) (bindO
    (pureO (.len .slice (.c (cellP z15 2)))) (fun z140 => bindO (pureO (.bin .eql .num true (.c z140) (.c (.int .i64 0)))) (fun z141 => some (z141, e)))))) (bindO (pureO (.len .slice
    (.c (cellP z10 2)))) (fun z142 => bindO (pureO (.bin .eql .num true (.c z142) (.c (.int .i64 0)))) (fun z143 => iteP z143 (bindO (pureO (.bin .eql .num true (.c z16) (.c (.int .i64
    0)))) (fun z144 => iteP z144 (some (.bool true, e)) (bindO (pureO (.len .slice (.c (cellP z15 2)))) (fun z145 => bindO (pureO (.bin .eql .num true (.c z145) (.c (.int .i64 0))))
    (fun z146 => some (z146, e)))))) (some (.bool false, e))))))) (some (.bool false, e))))) (some (.bool false, e))))))) (some (.bool false, e)))) (some (.bool false, e)))))) (some
    (.bool false, e))))))))))))))))))) (iteP z1 (bindO (pureO (.bin .neq .num true (.c z16) (.c (.int .i64 0)))) (fun z147 => iteP z147 (bindO (pureO (.bin .eql .num true (.c z11) (.c
    (.int .i64 0)))) (fun z148 => iteP z148 (bindO (pureO (.bin .eql .num true (.c z16) (.c (.int .i64 0)))) (fun z149 => iteP z149 (some (.bool true, e)) (bindO (pureO (.len .slice
    (.c (cellP z15 2)))) (fun z150 => bindO (pureO (.bin .eql .num true (.c z150) (.c (.int .i64 0)))) (fun z151 => some (z151, e)))))) (bindO (pureO (.len .slice (.c (cellP z10 2))))
    (fun z152 => bindO (pureO (.bin .eql .num true (.c z152) (.c (.int .i64 0)))) (fun z153 => iteP z153 (bindO (pureO (.bin .eql .num true (.c z16) (.c (.int .i64 0)))) (fun z154 =>
    iteP z154 (some (.bool true, e)) (bindO (pureO (.len .slice (.c (cellP z15 2)))) (fun z155 => bindO (pureO (.bin .eql .num true (.c z155) (.c (.int .i64 0)))) (fun z156 => some
    (z156, e)))))) (some (.bool false, e))))))) (bindO (callO B .cl (.fn 12 []) [.agg [cellP z15 0, cellP z15 1, cellP z15 2]]) (fun z157 => iteP z157 (bindO (pureO (.un .not (.c
    (cellP z15 1)))) (fun z158 => iteP z158 (bindO (pureO (.len .slice (.c (cellP z15 2)))) (fun z159 => bindO (selO (stoP z5 x2 0) 2 1 false) (fun z160 => bindO (pureO (.len .slice
    (.c z160))) (fun z161 => bindO (pureO (.bin .eql .num false (.c z159) (.c z161))) (fun z162 => iteP z162 (bindO (selO (stoP z5 x2 0) 0 1 false) (fun z163 => bindO (pureO (.bin .eql
    .bool false (.c (cellP z15 0)) (.c z163))) (fun z164 => iteP z164 (bindO (pureO (.bin .eql .num true (.c z11) (.c (.int .i64 0)))) (fun z165 => iteP z165 (bindO (pureO (.bin .eql
    .num true (.c z16) (.c (.int .i64 0)))) (fun z166 => iteP z166 (some (.bool true, e)) (bindO (pureO (.len .slice (.c (cellP z15 2)))) (fun z167 => bindO (pureO (.bin .eql .num true
    (.c z167) (.c (.int .i64 0)))) (fun z168 => some (z168, e)))))) (bindO (pureO (.len .slice (.c (cellP z10 2)))) (fun z169 => bindO (pureO (.bin .eql .num true (.c z169) (.c (.int
    .i64 0)))) (fun z170 => iteP z170 (bindO (pureO (.bin .eql .num true (.c z16) (.c (.int .i64 0)))) (fun z171 => iteP z171 (some (.bool true, e)) (bindO (pureO (.len .slice (.c
    (cellP z15 2)))) (fun z172 => bindO (pureO (.bin .eql .num true (.c z172) (.c (.int .i64 0)))) (fun z173 => some (z173, e)))))) (some (.bool false, e))))))) (some (.bool false,
    e))))) (some (.bool false, e))))))) (some (.bool false, e)))) (some (.bool false, e)))))) (some (.bool false, e)))))))))))))))))))))))))) := by kernel_rfl
theorem run7 (B : KB) {E : Type} (h : Handler E) (dep : Nat) (e : E) (x0 : PV) (x1 : PV) :
    runK (cfg0 B (fun _ => .cl)) fn7 (.cl) h dep [.cv x0, .cv x1] e =
    chkO (valO x0) (chkO (valO x1) (bindO (callO B .cl (.fn 8 []) []) (fun z1 => bindO (selO x0 0 3 true) (fun z2 => bindO (callO B .cl (.fn 9 []) [z2]) (fun z3 => chkO (okSto z3 x0 0
    3) (bindO (selO x1 0 3 true) (fun z4 => bindO (callO B .cl (.fn 9 []) [z4]) (fun z5 => chkO (okSto z5 x1 0 3) (bindO (selO (stoP z3 x0 0) 2 1 false) (fun z6 => bindO (elemsO 1 z6)
    (fun z7 => chkO (leN (lenL z7) 2147483648) (bindO (selO (stoP z5 x1 0) 2 1 false) (fun z8 => bindO (elemsO 1 z8) (fun z9 => chkO (leN (lenL z9) 2147483648) (bindO (selO (stoP z3 x0
    0) 0 3 true) (fun z10 => bindO (callO B .cl (.fn 14 []) [.str [43], z10]) (fun z11 => bindO (pureO (.extract 0 (.c z11))) (fun z12 => bindO (pureO (.extract 1 (.c z11))) (fun z13
    => chkO (okCells z12 3) (bindO (selO (stoP z3 x0 0) 0 3 true) (fun z14 => bindO (selO (stoP z5 x1 0) 0 3 true) (fun z15 => bindO (callO B .cl (.fn 10 []) [.str [226, 140, 136],
    z14, z15]) (fun z16 => bindO (pureO (.extract 0 (.c z16))) (fun z17 => bindO (pureO (.extract 1 (.c z16))) (fun z18 => chkO (okCells z17 3) (chkO (noUndef [z1, nI (lenL z7), nI
    (lenL z9), z13, z18, .int .i64 0]) (loopL (fun z19 => bindO (pureO (.len .slice (.c (nth z19.1 10)))) (fun z20 => bindO (pureO (.bin .lss .num false (.c (nth z19.1 5)) (.c z20)))
    (fun z21 => iteP z21 (bindO (pureO (.idxAddr 1 (.c (nth z19.1 10)) (.c (nth z19.1 5)))) (fun z22 => none)) (bindO (chkO (noUndef [nth z19.1 0, nI (natP (nth z19.1 1)), nI (natP
    (nth z19.1 2)), nth z19.1 3, nth z19.1 4, .int .i64 0]) (loopL (fun z23 => bindO (pureO (.len .slice (.c (nth z23.1 13)))) (fun z24 => bindO (pureO (.bin .lss .num false (.c (nth
    z23.1 5)) (.c z24))) (fun z25 => iteP z25 (bindO (pureO (.idxAddr 1 (.c (nth z23.1 13)) (.c (nth z23.1 5)))) (fun z26 => none)) (bindO (iteP (nth z23.1 0) (bindO (selO (nth z23.1
    6) 2 1 false) (fun z27 => bindO (lendO B .cl true 18 [z27, slO 1 1 (itemsP (nth z23.1 14)) 0 (natP (nth z23.1 1))]) (fun z28 => iteP z28 (bindO (selO (nth z23.1 7) 2 1 false) (fun
    z29 => bindO (lendO B .cl true 18 [z29, slO 1 1 (itemsP (nth z23.1 15)) 0 (natP (nth z23.1 2))]) (fun z30 => iteP z30 (bindO (pureO (.bin .eql .num true (.c (nth z23.1 3)) (.c
    (.int .i64 0)))) (fun z31 => iteP z31 (bindO (pureO (.bin .eql .num true (.c (nth z23.1 4)) (.c (.int .i64 0)))) (fun z32 => iteP z32 (some (.bool true, z23.2)) (bindO (pureO (.len
    .slice (.c (nth z23.1 13)))) (fun z33 => bindO (pureO (.bin .eql .num true (.c z33) (.c (.int .i64 0)))) (fun z34 => some (z34, z23.2)))))) (bindO (pureO (.len .slice (.c (nth
    z23.1 10)))) (fun z35 => bindO (pureO (.bin .eql .num true (.c z35) (.c (.int .i64 0)))) (fun z36 => iteP z36 (bindO (pureO (.bin .eql .num true (.c (nth z23.1 4)) (.c (.int .i64
    0)))) (fun z37 => iteP z37 (some (.bool true, z23.2)) (bindO (pureO (.len .slice (.c (nth z23.1 13)))) (fun z38 => bindO (pureO (.bin .eql .num true (.c z38) (.c (.int .i64 0))))
    (fun z39 => some (z39, z23.2)))))) (some (.bool false, z23.2))))))) (some (.bool false, z23.2))))) (some (.bool false, z23.2))))) (some (.bool false, z23.2))) (fun z40 => some
    (.inr z40)))))) ([nth z19.1 0, nI (natP (nth z19.1 1)), nI (natP (nth z19.1 2)), nth z19.1 3, nth z19.1 4, .int .i64 0, nth z19.1 6, nth z19.1 7, nth z19.1 8, nth z19.1 9, nth
    z19.1 10, nth z19.1 11, nth z19.1 12, nth z19.1 13, .sl 1 (itemsP (nth z19.1 14)) false, .sl 1 (itemsP (nth z19.1 15)) false], z19.2))) (fun z41 => some (.inr z41)))))) ([z1, nI
    (lenL z7), nI (lenL z9), z13, z18, .int .i64 0, stoP z3 x0 0, stoP z5 x1 0, cellP z12 0, cellP z12 1, cellP z12 2, cellP z17 0, cellP z17 1, cellP z17 2, .sl 1 z7 false, .sl 1 z9
    false], e)))))))))))))))))))))))))))) := by kernel_rfl
theorem run9 (B : KB) {E : Type} (h : Handler E) (dep : Nat) (e : E) (x0 : PV) :
    runK (cfg0 B (fun _ => .cl)) fn9 (.cl) h dep [.cv x0] e =
    chkO (valO x0) (bindO (selO x0 0 1 false) (fun z1 => bindO (selO x0 1 1 false) (fun z2 => bindO (selO x0 2 1 false) (fun z3 => bindO (selO x0 2 1 false) (fun z4 => bindO (pureO
    (.len .slice (.c z4))) (fun z5 => bindO (pureO (.minmax false [.c z5, .c (.int .i64 202)])) (fun z6 => bindO (pureO (.slice 1 (.c z3) none (some (.c z6)) none)) (fun z7 => bindO
    (pureO (.build [.bool false, .bool false, .nilS] [(0, (1, .c z1)), (1, (1, .c z2)), (2, (1, .c z7))])) (fun z8 => chkO (okCells z8 3) (some (.agg [cellP z8 0, cellP z8 1, cellP z8
    2], e))))))))))) := by kernel_rfl
theorem run10 (B : KB) {E : Type} (h : Handler E) (dep : Nat) (e : E) (x0 : PV) (x1 : PV) (x2 : PV) :
    runK (cfg0 B (fun _ => .cl)) fn10 (.cl) h dep [.cv x0, .cv x1, .cv x2] e =
    chkO (valO x0) (chkO (valO x1) (chkO (valO x2) (bindO (selO x1 0 3 true) (fun z1 => bindO (selO x2 0 3 true) (fun z2 => bindO (pureO (.build [.bool false, .bool false, .nilS, .bool
    false, .bool false, .nilS] [(0, (3, .c z1)), (3, (3, .c z2))])) (fun z3 => chkO (okCells z3 6) (bindO (selO x1 0 3 true) (fun z4 => bindO (selO x2 0 3 true) (fun z5 => chkO (okSls
    3 [z4, z5]) (bindO (lendO B .cl true 21 [slO 3 3 [z4, z5] 0 (lenL [z4, z5])]) (fun z6 => bindO (pureO (.bin .neq .iface true (.c z6) (.c .nilI))) (fun z7 => iteP z7 (bindO (pureO
    (.build [.bool false, .bool false, .nilS] [])) (fun z8 => bindO (callO B .cl (.fn 22 []) [z6]) (fun z9 => chkO (okCells z8 3) (chkO (okCells z9 1) (some (.tup [.agg [cellP z8 0,
    cellP z8 1, cellP z8 2], cellP z9 0], e)))))) (bindO (selO x0 0 1 false) (fun z10 => bindO (callO B .cl (.fn 23 []) [z10]) (fun z11 => bindO (pureO (.un .not (.c z11))) (fun z12 =>
    iteP z12 (bindO (pureO (.build [.bool false, .bool false, .nilS] [])) (fun z13 => chkO (okCells z13 3) (chkO (okCells (.int .i64 102) 1) (some (.tup [.agg [cellP z13 0, cellP z13
    1, cellP z13 2], cellP (.int .i64 102) 0], e))))) (bindO (callO B .cl (.fn 24 []) [.agg [cellP z3 0, cellP z3 1, cellP z3 2, cellP z3 3, cellP z3 4, cellP z3 5]]) (fun z14 => bindO
    (pureO (.extract 0 (.c z14))) (fun z15 => bindO (pureO (.extract 1 (.c z14))) (fun z16 => bindO (selO x0 0 1 false) (fun z17 => bindO (pureO (.bin .eql .str true (.c z17) (.c (.str
    [61])))) (fun z18 => iteP z18 (bindO (pureO (.bin .neq .iface true (.c z16) (.c .nilI))) (fun z19 => iteP z19 (bindO (pureO (.build [.bool false, .bool false, .nilS] [])) (fun z20
    => bindO (callO B .cl (.fn 22 []) [z16]) (fun z21 => chkO (okCells z20 3) (chkO (okCells z21 1) (some (.tup [.agg [cellP z20 0, cellP z20 1, cellP z20 2], cellP z21 0], e))))))
    (bindO (selO x1 0 1 false) (fun z22 => iteP z22 (bindO (pureO (.build [.bool false, .bool false, .nilS] [(0, (1, .c (.bool true)))])) (fun z23 => chkO (okCells z23 3) (bindO (callO
    B .cl (.fn 26 []) [.agg [cellP z3 0, cellP z3 1, cellP z3 2, cellP z3 3, cellP z3 4, cellP z3 5], z15]) (fun z24 => nilO (cellP z23 2) (bindO (rangeO B (onRound dep h (fun z25 =>
    fun z26 => fun z27 => chkO (okArgs z26 2) (bindO (iteP (nth z25 8) (bindO (selO (nth z25 2) 1 1 false) (fun z28 => bindO (selO (nth z25 3) 1 1 false) (fun z29 => bindO (pureO (.bin
    .neq .bool false (.c z28) (.c z29))) (fun z30 => some z30)))) (some (.bool false))) (fun z31 => iteP z31 (bindO (selO (nth z25 1) 0 1 false) (fun z32 => bindO (callO B .cl (.fn 27
    []) [z32, .int .i64 0, .int .i64 1]) (fun z33 => bindO (pureO (.extract 0 (.c z33))) (fun z34 => bindO (pureO (.extract 1 (.c z33))) (fun z35 => bindO (pureO (.bin .neq .num true
    (.c z35) (.c (.int .i64 0)))) (fun z36 => iteP z36 (bindO (pureO (.build [.bool false, .bool false, .nilS] [])) (fun z37 => chkO (okCells z37 3) (chkO (okCells z35 1) (some (false,
    ([nth z25 0, nth z25 1, nth z25 2, nth z25 3, cellP z37 0, cellP z37 1, cellP z37 2, cellP z35 0, nth z25 8, nth z25 9, nth z25 10, nI (natP (nth z25 11)), .sl 1 (itemsP (nth z25
    12)) false], (some .ret, z27))))))) (chkO (okSls 1 [z34]) (chkO (leN (addN 0 (lenL [z34])) (lenL [z34])) (chkO (andB (leN (natP (nth z25 11)) (lenL (itemsP (nth z25 12)))) (leN
    (addN (natP (nth z25 11)) (lenL (takeL (lenL [z34]) (dropL 0 [z34])))) 2147483648)) (some (true, ([nth z25 0, nth z25 1, nth z25 2, nth z25 3, nth z25 4, nth z25 5, nth z25 6, nth
    z25 7, nth z25 8, nth z25 9, nth z25 10, nI (addN (natP (nth z25 11)) (lenL (takeL (lenL [z34]) (dropL 0 [z34])))), .sl 1 (catL (takeL (natP (nth z25 11)) (itemsP (nth z25 12)))
    (takeL (lenL [z34]) (dropL 0 [z34]))) false], (none, z27))))))))))))) (bindO (selO (nth z25 1) 0 1 false) (fun z38 => bindO (callO B .cl (.fn 27 []) [z38, nth z26 0, nth z26 1])
    (fun z39 => bindO (pureO (.extract 0 (.c z39))) (fun z40 => bindO (pureO (.extract 1 (.c z39))) (fun z41 => bindO (pureO (.bin .neq .num true (.c z41) (.c (.int .i64 0)))) (fun z42
    => iteP z42 (bindO (pureO (.build [.bool false, .bool false, .nilS] [])) (fun z43 => chkO (okCells z43 3) (chkO (okCells z41 1) (some (false, ([nth z25 0, nth z25 1, nth z25 2, nth
    z25 3, cellP z43 0, cellP z43 1, cellP z43 2, cellP z41 0, nth z25 8, nth z25 9, nth z25 10, nI (natP (nth z25 11)), .sl 1 (itemsP (nth z25 12)) false], (some .ret, z27)))))))
    (chkO (okSls 1 [z40]) (chkO (leN (addN 0 (lenL [z40])) (lenL [z40])) (chkO (andB (leN (natP (nth z25 11)) (lenL (itemsP (nth z25 12)))) (leN (addN (natP (nth z25 11)) (lenL (takeL
    (lenL [z40]) (dropL 0 [z40])))) 2147483648)) (some (true, ([nth z25 0, nth z25 1, nth z25 2, nth z25 3, nth z25 4, nth z25 5, nth z25 6, nth z25 7, nth z25 8, nth z25 9, nth z25
    10, nI (addN (natP (nth z25 11)) (lenL (takeL (lenL [z40]) (dropL 0 [z40])))), .sl 1 (catL (takeL (natP (nth z25 11)) (itemsP (nth z25 12))) (takeL (lenL [z40]) (dropL 0 [z40])))
    false], (none, z27))))))))))))))))) dep z24 ([z24, x0, x1, x2, .bool false, .bool false, .nilS, .int .i64 0, .bool true, cellP z23 0, cellP z23 1, nI 0, .sl 1 [] false], (none,
    e))) (fun z44 => iteB (isNoneE z44.2.1) (chkO (okCells (.int .i64 0) 1) (chkO (okU (.tup [.agg [nth z44.1 9, nth z44.1 10, slO 1 1 (itemsP (nth z44.1 12)) 0 (natP (nth z44.1 11))],
    cellP (.int .i64 0) 0])) (some (.tup [.agg [nth z44.1 9, nth z44.1 10, slO 1 1 (itemsP (nth z44.1 12)) 0 (natP (nth z44.1 11))], cellP (.int .i64 0) 0], z44.2.2)))) (iteB (isRetE
    z44.2.1) (some (.tup [.agg [nth z44.1 4, nth z44.1 5, nth z44.1 6], nth z44.1 7], z44.2.2)) none))))))) (bindO (selO x2 0 1 false) (fun z45 => bindO (pureO (.build [.bool false,
    .bool false, .nilS] [(0, (1, .c z45))])) (fun z46 => chkO (okCells z46 3) (bindO (callO B .cl (.fn 26 []) [.agg [cellP z3 0, cellP z3 1, cellP z3 2, cellP z3 3, cellP z3 4, cellP
    z3 5], z15]) (fun z47 => nilO (cellP z46 2) (bindO (rangeO B (onRound dep h (fun z48 => fun z49 => fun z50 => chkO (okArgs z49 2) (bindO (iteP (nth z48 8) (bindO (selO (nth z48 2)
    1 1 false) (fun z51 => bindO (selO (nth z48 3) 1 1 false) (fun z52 => bindO (pureO (.bin .neq .bool false (.c z51) (.c z52))) (fun z53 => some z53)))) (some (.bool false))) (fun
    z54 => iteP z54 (bindO (selO (nth z48 1) 0 1 false) (fun z55 => bindO (callO B .cl (.fn 27 []) [z55, .int .i64 0, .int .i64 1]) (fun z56 => bindO (pureO (.extract 0 (.c z56))) (fun
    z57 => bindO (pureO (.extract 1 (.c z56))) (fun z58 => bindO (pureO (.bin .neq .num true (.c z58) (.c (.int .i64 0)))) (fun z59 => iteP z59 (bindO (pureO (.build [.bool false,
    .bool false, .nilS] [])) (fun z60 => chkO (okCells z60 3) (chkO (okCells z58 1) (some (false, ([nth z48 0, nth z48 1, nth z48 2, nth z48 3, cellP z60 0, cellP z60 1, cellP z60 2,
    cellP z58 0, nth z48 8, nth z48 9, nth z48 10, nI (natP (nth z48 11)), .sl 1 (itemsP (nth z48 12)) false], (some .ret, z50))))))) (chkO (okSls 1 [z57]) (chkO (leN (addN 0 (lenL
    [z57])) (lenL [z57])) (chkO (andB (leN (natP (nth z48 11)) (lenL (itemsP (nth z48 12)))) (leN (addN (natP (nth z48 11)) (lenL (takeL (lenL [z57]) (dropL 0 [z57])))) 2147483648))
    (some (true, ([nth z48 0, nth z48 1, nth z48 2, nth z48 3, nth z48 4, nth z48 5, nth z48 6, nth z48 7, nth z48 8, nth z48 9, nth z48 10, nI (addN (natP (nth z48 11)) (lenL (takeL
    (lenL [z57]) (dropL 0 [z57])))), .sl 1 (catL (takeL (natP (nth z48 11)) (itemsP (nth z48 12))) (takeL (lenL [z57]) (dropL 0 [z57]))) false], (none, z50))))))))))))) (bindO (selO
    (nth z48 1) 0 1 false) (fun z61 => bindO (callO B .cl (.fn 27 []) [z61, nth z49 0, nth z49 1]) (fun z62 => bindO (pureO (.extract 0 (.c z62))) (fun z63 => bindO (pureO (.extract 1
    (.c z62))) (fun z64 => bindO (pureO (.bin .neq .num true (.c z64) (.c (.int .i64 0)))) (fun z65 => iteP z65 (bindO (pureO (.build [.bool false, .bool false, .nilS] [])) (fun z66 =>
    chkO (okCells z66 3) (chkO (okCells z64 1) (some (false, ([nth z48 0, nth z48 1, nth z48 2, nth z48 3, cellP z66 0, cellP z66 1, cellP z66 2, cellP z64 0, nth z48 8, nth z48 9, nth
    z48 10, nI (natP (nth z48 11)), .sl 1 (itemsP (nth z48 12)) false], (some .ret, z50))))))) (chkO (okSls 1 [z63]) (chkO (leN (addN 0 (lenL [z63])) (lenL [z63])) (chkO (andB (leN
    (natP (nth z48 11)) (lenL (itemsP (nth z48 12)))) (leN (addN (natP (nth z48 11)) (lenL (takeL (lenL [z63]) (dropL 0 [z63])))) 2147483648)) (some (true, ([nth z48 0, nth z48 1, nth
    z48 2, nth z48 3, nth z48 4, nth z48 5, nth z48 6, nth z48 7, nth z48 8, nth z48 9, nth z48 10, nI (addN (natP (nth z48 11)) (lenL (takeL (lenL [z63]) (dropL 0 [z63])))), .sl 1
    (catL (takeL (natP (nth z48 11)) (itemsP (nth z48 12))) (takeL (lenL [z63]) (dropL 0 [z63]))) false], (none, z50))))))))))))))))) dep z47 ([z47, x0, x1, x2, .bool false, .bool
    false, .nilS, .int .i64 0, .bool true, cellP z46 0, cellP z46 1, nI 0, .sl 1 [] false], (none, e))) (fun z67 => iteB (isNoneE z67.2.1) (chkO (okCells (.int .i64 0) 1) (chkO (okU
    (.tup [.agg [nth z67.1 9, nth z67.1 10, slO 1 1 (itemsP (nth z67.1 12)) 0 (natP (nth z67.1 11))], cellP (.int .i64 0) 0])) (some (.tup [.agg [nth z67.1 9, nth z67.1 10, slO 1 1
    (itemsP (nth z67.1 12)) 0 (natP (nth z67.1 11))], cellP (.int .i64 0) 0], z67.2.2)))) (iteB (isRetE z67.2.1) (some (.tup [.agg [nth z67.1 4, nth z67.1 5, nth z67.1 6], nth z67.1
    7], z67.2.2)) none)))))))))))) (bindO (selO x0 0 1 false) (fun z68 => bindO (pureO (.bin .eql .str true (.c z68) (.c (.str [226, 137, 160])))) (fun z69 => chkO (okCells z69 1)
    (bindO (pureO (.bin .neq .iface true (.c z16) (.c .nilI))) (fun z70 => iteP z70 (bindO (pureO (.build [.bool false, .bool false, .nilS] [])) (fun z71 => bindO (callO B .cl (.fn 22
    []) [z16]) (fun z72 => chkO (okCells z71 3) (chkO (okCells z72 1) (some (.tup [.agg [cellP z71 0, cellP z71 1, cellP z71 2], cellP z72 0], e)))))) (bindO (pureO (.un .not (.c
    (cellP z69 0)))) (fun z73 => iteP z73 (bindO (selO x1 0 3 true) (fun z74 => bindO (callO B .cl (.fn 25 []) [z74]) (fun z75 => iteP z75 (bindO (pureO (.build [.bool false, .bool
    false, .nilS] [])) (fun z76 => chkO (okCells z76 3) (chkO (okCells (.int .i64 102) 1) (some (.tup [.agg [cellP z76 0, cellP z76 1, cellP z76 2], cellP (.int .i64 102) 0], e)))))
    (bindO (selO x2 0 3 true) (fun z77 => bindO (callO B .cl (.fn 25 []) [z77]) (fun z78 => iteP z78 (bindO (pureO (.build [.bool false, .bool false, .nilS] [])) (fun z79 => chkO
    (okCells z79 3) (chkO (okCells (.int .i64 102) 1) (some (.tup [.agg [cellP z79 0, cellP z79 1, cellP z79 2], cellP (.int .i64 102) 0], e))))) (bindO (selO x1 0 1 false) (fun z80 =>
    iteP z80 (bindO (pureO (.build [.bool false, .bool false, .nilS] [(0, (1, .c (.bool true)))])) (fun z81 => chkO (okCells z81 3) (bindO (callO B .cl (.fn 26 []) [.agg [cellP z3 0,
    cellP z3 1, cellP z3 2, cellP z3 3, cellP z3 4, cellP z3 5], z15]) (fun z82 => nilO (cellP z81 2) (bindO (rangeO B (onRound dep h (fun z83 => fun z84 => fun z85 => chkO (okArgs z84
    2) (bindO (iteP (nth z83 8) (bindO (selO (nth z83 2) 1 1 false) (fun z86 => bindO (selO (nth z83 3) 1 1 false) (fun z87 => bindO (pureO (.bin .neq .bool false (.c z86) (.c z87)))
    (fun z88 => some z88)))) (some (.bool false))) (fun z89 => iteP z89 (bindO (selO (nth z83 1) 0 1 false) (fun z90 => bindO (callO B .cl (.fn 27 []) [z90, .int .i64 0, .int .i64 1])
    (fun z91 => bindO (pureO (.extract 0 (.c z91))) (fun z92 => bindO (pureO (.extract 1 (.c z91))) (fun z93 => bindO (pureO (.bin .neq .num true (.c z93) (.c (.int .i64 0)))) (fun z94
    => iteP z94 (bindO (pureO (.build [.bool false, .bool false, .nilS] [])) (fun z95 => chkO (okCells z95 3) (chkO (okCells z93 1) (some (false, ([nth z83 0, nth z83 1, nth z83 2, nth
    z83 3, cellP z95 0, cellP z95 1, cellP z95 2, cellP z93 0, nth z83 8, nth z83 9, nth z83 10, nI (natP (nth z83 11)), .sl 1 (itemsP (nth z83 12)) false], (some .ret, z85)))))))
    (chkO (okSls 1 [z92]) (chkO (leN (addN 0 (lenL [z92])) (lenL [z92])) (chkO (andB (leN (natP (nth z83 11)) (lenL (itemsP (nth z83 12)))) (leN (addN (natP (nth z83 11)) (lenL (takeL
    (lenL [z92]) (dropL 0 [z92])))) 2147483648)) (some (true, ([nth z83 0, nth z83 1, nth z83 2, nth z83 3, nth z83 4, nth z83 5, nth z83 6, nth z83 7, nth z83 8, nth z83 9, nth z83
    10, nI (addN (natP (nth z83 11)) (lenL (takeL (lenL [z92]) (dropL 0 [z92])))), .sl 1 (catL (takeL (natP (nth z83 11)) (itemsP (nth z83 12))) (takeL (lenL [z92]) (dropL 0 [z92])))
    false], (none, z85))))))))))))) (bindO (selO (nth z83 1) 0 1 false) (fun z96 => bindO (callO B .cl (.fn 27 []) [z96, nth z84 0, nth z84 1]) (fun z97 => bindO (pureO (.extract 0 (.c
    z97))) (fun z98 => bindO (pureO (.extract 1 (.c z97))) (fun z99 => bindO (pureO (.bin .neq .num true (.c z99) (.c (.int .i64 0)))) (fun z100 => iteP z100 (bindO (pureO (.build
    [.bool false, .bool false, .nilS] [])) (fun z101 => chkO (okCells z101 3) (chkO (okCells z99 1) (some (false, ([nth z83 0, nth z83 1, nth z83 2, nth z83 3, cellP z101 0, cellP z101
    1, cellP z101 2, cellP z99 0, nth z83 8, nth z83 9, nth z83 10, nI (natP (nth z83 11)), .sl 1 (itemsP (nth z83 12)) false], (some .ret, z85))))))) (chkO (okSls 1 [z98]) (chkO (leN
    (addN 0 (lenL [z98])) (lenL [z98])) (chkO (andB (leN (natP (nth z83 11)) (lenL (itemsP (nth z83 12)))) (leN (addN (natP (nth z83 11)) (lenL (takeL (lenL [z98]) (dropL 0 [z98]))))
    2147483648)) (some (true, ([nth z83 0, nth z83 1, nth z83 2, nth z83 3, nth z83 4, nth z83 5, nth z83 6, nth z83 7, nth z83 8, nth z83 9, nth z83 10, nI (addN (natP (nth z83 11))
    (lenL (takeL (lenL [z98]) (dropL 0 [z98])))), .sl 1 (catL (takeL (natP (nth z83 11)) (itemsP (nth z83 12))) (takeL (lenL [z98]) (dropL 0 [z98]))) false], (none,
    z85))))))))))))))))) dep z82 ([z82, x0, x1, x2, .bool false, .bool false, .nilS, .int .i64 0, cellP z69 0, cellP z81 0, cellP z81 1, nI 0, .sl 1 [] false], (none, e))) (fun z102 =>
    iteB (isNoneE z102.2.1) (chkO (okCells (.int .i64 0) 1) (chkO (okU (.tup [.agg [nth z102.1 9, nth z102.1 10, slO 1 1 (itemsP (nth z102.1 12)) 0 (natP (nth z102.1 11))], cellP (.int
    .i64 0) 0])) (some (.tup [.agg [nth z102.1 9, nth z102.1 10, slO 1 1 (itemsP (nth z102.1 12)) 0 (natP (nth z102.1 11))], cellP (.int .i64 0) 0], z102.2.2)))) (iteB (isRetE
    z102.2.1) (some (.tup [.agg [nth z102.1 4, nth z102.1 5, nth z102.1 6], nth z102.1 7], z102.2.2)) none))))))) (bindO (selO x2 0 1 false) (fun z103 => bindO (pureO (.build [.bool
    false, .bool false, .nilS] [(0, (1, .c z103))])) (fun z104 => chkO (okCells z104 3) (bindO (callO B .cl (.fn 26 []) [.agg [cellP z3 0, cellP z3 1, cellP z3 2, cellP z3 3, cellP z3
    4, cellP z3 5], z15]) (fun z105 => nilO (cellP z104 2) (bindO (rangeO B (onRound dep h (fun z106 => fun z107 => fun z108 => chkO (okArgs z107 2) (bindO (iteP (nth z106 8) (bindO
    (selO (nth z106 2) 1 1 false) (fun z109 => bindO (selO (nth z106 3) 1 1 false) (fun z110 => bindO (pureO (.bin .neq .bool false (.c z109) (.c z110))) (fun z111 => some z111))))
    (some (.bool false))) (fun z112 => iteP z112 (bindO (selO (nth z106 1) 0 1 false) (fun z113 => bindO (callO B .cl (.fn 27 []) [z113, .int .i64 0, .int .i64 1]) (fun z114 => bindO
    (pureO (.extract 0 (.c z114))) (fun z115 => bindO (pureO (.extract 1 (.c z114))) (fun z116 => bindO (pureO (.bin .neq .num true (.c z116) (.c (.int .i64 0)))) (fun z117 => iteP
    z117 (bindO (pureO (.build [.bool false, .bool false, .nilS] [])) (fun z118 => chkO (okCells z118 3) (chkO (okCells z116 1) (some (false, ([nth z106 0, nth z106 1, nth z106 2, nth
    z106 3, cellP z118 0, cellP z118 1, cellP z118 2, cellP z116 0, nth z106 8, nth z106 9, nth z106 10, nI (natP (nth z106 11)), .sl 1 (itemsP (nth z106 12)) false], (some .ret,
    z108))))))) (chkO (okSls 1 [z115]) (chkO (leN (addN 0 (lenL [z115])) (lenL [z115])) (chkO (andB (leN (natP (nth z106 11)) (lenL (itemsP (nth z106 12)))) (leN (addN (natP (nth z106
    11)) (lenL (takeL (lenL [z115]) (dropL 0 [z115])))) 2147483648)) (some (true, ([nth z106 0, nth z106 1, nth z106 2, nth z106 3, nth z106 4, nth z106 5, nth z106 6, nth z106 7, nth
    z106 8, nth z106 9, nth z106 10, nI (addN (natP (nth z106 11)) (lenL (takeL (lenL [z115]) (dropL 0 [z115])))), .sl 1 (catL (takeL (natP (nth z106 11)) (itemsP (nth z106 12)))
    (takeL (lenL [z115]) (dropL 0 [z115]))) false], (none, z108))))))))))))) (bindO (selO (nth z106 1) 0 1 false) (fun z119 => bindO (callO B .cl (.fn 27 []) [z119, nth z107 0, nth
    z107 1]) (fun z120 => bindO (pureO (.extract 0 (.c z120))) (fun z121 => bindO (pureO (.extract 1 (.c z120))) (fun z122 => bindO (pureO (.bin .neq .num true (.c z122) (.c (.int .i64
    0)))) (fun z123 => iteP z123 (bindO (pureO (.build [.bool false, .bool false, .nilS] [])) (fun z124 => chkO (okCells z124 3) (chkO (okCells z122 1) (some (false, ([nth z106 0, nth
    z106 1, nth z106 2, nth z106 3, cellP z124 0, cellP z124 1, cellP z124 2, cellP z122 0, nth z106 8, nth z106 9, nth z106 10, nI (natP (nth z106 11)), .sl 1 (itemsP (nth z106 12))
    false], (some .ret, z108))))))) (chkO (okSls 1 [z121]) (chkO (leN (addN 0 (lenL [z121])) (lenL [z121])) (chkO (andB (leN (natP (nth z106 11)) (lenL (itemsP (nth z106 12)))) (leN
    (addN (natP (nth z106 11)) (lenL (takeL (lenL [z121]) (dropL 0 [z121])))) 2147483648)) (some (true, ([nth z106 0, nth z106 1, nth z106 2, nth z106 3, nth z106 4, nth z106 5, nth
    z106 6, nth z106 7, nth z106 8, nth z106 9, nth z106 10, nI (addN (natP (nth z106 11)) (lenL (takeL (lenL [z121]) (dropL 0 [z121])))), .sl 1 (catL (takeL (natP (nth z106 11))
    (itemsP (nth z106 12))) (takeL (lenL [z121]) (dropL 0 [z121]))) false], (none, z108))))))))))))))))) dep z105 ([z105, x0, x1, x2, .bool false, .bool false, .nilS, .int .i64 0,
    cellP z69 0, cellP z104 0, cellP z104 1, nI 0, .sl 1 [] false], (none, e))) (fun z125 => iteB (isNoneE z125.2.1) (chkO (okCells (.int .i64 0) 1) (chkO (okU (.tup [.agg [nth z125.1
    9, nth z125.1 10, slO 1 1 (itemsP (nth z125.1 12)) 0 (natP (nth z125.1 11))], cellP (.int .i64 0) 0])) (some (.tup [.agg [nth z125.1 9, nth z125.1 10, slO 1 1 (itemsP (nth z125.1
    12)) 0 (natP (nth z125.1 11))], cellP (.int .i64 0) 0], z125.2.2)))) (iteB (isRetE z125.2.1) (some (.tup [.agg [nth z125.1 4, nth z125.1 5, nth z125.1 6], nth z125.1 7], z125.2.2))
    none)))))))))))))))) (bindO (selO x1 0 1 false) (fun z126 => iteP z126 (bindO (pureO (.build [.bool false, .bool false, .nilS] [(0, (1, .c (.bool true)))])) (fun z127 => chkO
    (okCells z127 3) (bindO (callO B .cl (.fn 26 []) [.agg [cellP z3 0, cellP z3 1, cellP z3 2, cellP z3 3, cellP z3 4, cellP z3 5], z15]) (fun z128 => nilO (cellP z127 2) (bindO
    (rangeO B (onRound dep h (fun z129 => fun z130 => fun z131 => chkO (okArgs z130 2) (bindO (iteP (nth z129 8) (bindO (selO (nth z129 2) 1 1 false) (fun z132 => bindO (selO (nth z129
    3) 1 1 false) (fun z133 => bindO (pureO (.bin .neq .bool false (.c z132) (.c z133))) (fun z134 => some z134)))) (some (.bool false))) (fun z135 => iteP z135 (bindO (selO (nth z129
    1) 0 1 false) (fun z136 => bindO (callO B .cl (.fn 27 []) [z136, .int .i64 0, .int .i64 1]) (fun z137 => bindO (pureO (.extract 0 (.c z137))) (fun z138 => bindO (pureO (.extract 1
    (.c z137))) (fun z139 => bindO (pureO (.bin .neq .num true (.c z139) (.c (.int .i64 0)))) (fun z140 => iteP z140 (bindO (pureO (.build [.bool false, .bool false, .nilS] [])) (fun
    z141 => chkO (okCells z141 3) (chkO (okCells z139 1) (some (false, ([nth z129 0, nth z129 1, nth z129 2, nth z129 3, cellP z141 0, cellP z141 1, cellP z141 2, cellP z139 0, nth
    z129 8, nth z129 9, nth z129 10, nI (natP (nth z129 11)), .sl 1 (itemsP (nth z129 12)) false], (some .ret, z131))))))) (chkO (okSls 1 [z138]) (chkO (leN (addN 0 (lenL [z138]))
    (lenL [z138])) (chkO (andB (leN (natP (nth z129 11)) (lenL (itemsP (nth z129 12)))) (leN (addN (natP (nth z129 11)) (lenL (takeL (lenL [z138]) (dropL 0 [z138])))) 2147483648))
    (some (true, ([nth z129 0, nth z129 1, nth z129 2, nth z129 3, nth z129 4, nth z129 5, nth z129 6, nth z129 7, nth z129 8, nth z129 9, nth z129 10, nI (addN (natP (nth z129 11))
    (lenL (takeL (lenL [z138]) (dropL 0 [z138])))), .sl 1 (catL (takeL (natP (nth z129 11)) (itemsP (nth z129 12))) (takeL (lenL [z138]) (dropL 0 [z138]))) false], (none,
    z131))))))))))))) (bindO (selO (nth z129 1) 0 1 false) (fun z142 => bindO (callO B .cl (.fn 27 []) [z142, nth z130 0, nth z130 1]) (fun z143 => bindO (pureO (.extract 0 (.c z143)))
    (fun z144 => bindO (pureO (.extract 1 (.c z143))) (fun z145 => bindO (pureO (.bin .neq .num true (.c z145) (.c (.int .i64 0)))) (fun z146 => iteP z146 (bindO (pureO (.build [.bool
    false, .bool false, .nilS] [])) (fun z147 => chkO (okCells z147 3) (chkO (okCells z145 1) (some (false, ([nth z129 0, nth z129 1, nth z129 2, nth z129 3, cellP z147 0, cellP z147
    1, cellP z147 2, cellP z145 0, nth z129 8, nth z129 9, nth z129 10, nI (natP (nth z129 11)), .sl 1 (itemsP (nth z129 12)) false], (some .ret, z131))))))) (chkO (okSls 1 [z144])
    (chkO (leN (addN 0 (lenL [z144])) (lenL [z144])) (chkO (andB (leN (natP (nth z129 11)) (lenL (itemsP (nth z129 12)))) (leN (addN (natP (nth z129 11)) (lenL (takeL (lenL [z144])
    (dropL 0 [z144])))) 2147483648)) (some (true, ([nth z129 0, nth z129 1, nth z129 2, nth z129 3, nth z129 4, nth z129 5, nth z129 6, nth z129 7, nth z129 8, nth z129 9, nth z129 10,
    nI (addN (natP (nth z129 11)) (lenL (takeL (lenL [z144]) (dropL 0 [z144])))), .sl 1 (catL (takeL (natP (nth z129 11)) (itemsP (nth z129 12))) (takeL (lenL [z144]) (dropL 0
    [z144]))) false], (none, z131))))))))))))))))) dep z128 ([z128, x0, x1, x2, .bool false, .bool false, .nilS, .int .i64 0, cellP z69 0, cellP z127 0, cellP z127 1, nI 0, .sl 1 []
    false], (none, e))) (fun z148 => iteB (isNoneE z148.2.1) (chkO (okCells (.int .i64 0) 1) (chkO (okU (.tup [.agg [nth z148.1 9, nth z148.1 10, slO 1 1 (itemsP (nth z148.1 12)) 0
    (natP (nth z148.1 11))], cellP (.int .i64 0) 0])) (some (.tup [.agg [nth z148.1 9, nth z148.1 10, slO 1 1 (itemsP (nth z148.1 12)) 0 (natP (nth z148.1 11))], cellP (.int .i64 0)
    0], z148.2.2)))) (iteB (isRetE z148.2.1) (some (.tup [.agg [nth z148.1 4, nth z148.1 5, nth z148.1 6], nth z148.1 7], z148.2.2)) none))))))) (bindO (selO x2 0 1 false) (fun z149 =>
    bindO (pureO (.build [.bool false, .bool false, .nilS] [(0, (1, .c z149))])) (fun z150 => chkO (okCells z150 3) (bindO (callO B .cl (.fn 26 []) [.agg [cellP z3 0, cellP z3 1, cellP
    z3 2, cellP z3 3, cellP z3 4, cellP z3 5], z15]) (fun z151 => nilO (cellP z150 2) (bindO (rangeO B (onRound dep h (fun z152 => fun z153 => fun z154 => chkO (okArgs z153 2) (bindO
    (iteP (nth z152 8) (bindO (selO (nth z152 2) 1 1 false) (fun z155 => bindO (selO (nth z152 3) 1 1 false) (fun z156 => bindO (pureO (.bin .neq .bool false (.c z155) (.c z156))) (fun
    z157 => some z157)))) (some (.bool false))) (fun z158 => iteP z158 (bindO (selO (nth z152 1) 0 1 false) (fun z159 => bindO (callO B .cl (.fn 27 []) [z159, .int .i64 0, .int .i64
    1]) (fun z160 => bindO (pureO (.extract 0 (.c z160))) (fun z161 => bindO (pureO (.extract 1 (.c z160))) (fun z162 => bindO (pureO (.bin .neq .num true (.c z162) (.c (.int .i64
    0)))) (fun z163 => iteP z163 (bindO (pureO (.build [.bool false, .bool false, .nilS] [])) (fun z164 => chkO (okCells z164 3) (chkO (okCells z162 1) (some (false, ([nth z152 0, nth
    z152 1, nth z152 2, nth z152 3, cellP z164 0, cellP z164 1, cellP z164 2, cellP z162 0, nth z152 8, nth z152 9, nth z152 10, nI (natP (nth z152 11)), .sl 1 (itemsP (nth z152 12))
    false], (some .ret, z154))))))) (chkO (okSls 1 [z161]) (chkO (leN (addN 0 (lenL [z161])) (lenL [z161])) (chkO (andB (leN (natP (nth z152 11)) (lenL (itemsP (nth z152 12)))) (leN
    (addN (natP (nth z152 11)) (lenL (takeL (lenL [z161]) (dropL 0 [z161])))) 2147483648)) (some (true, ([nth z152 0, nth z152 1, nth z152 2, nth z152 3, nth z152 4, nth z152 5, nth
    z152 6, nth z152 7, nth z152 8, nth z152 9, nth z152 10, nI (addN (natP (nth z152 11)) (lenL (takeL (lenL [z161]) (dropL 0 [z161])))), .sl 1 (catL (takeL (natP (nth z152 11))
    (itemsP (nth z152 12))) (takeL (lenL [z161]) (dropL 0 [z161]))) false], (none, z154))))))))))))) (bindO (selO (nth z152 1) 0 1 false) (fun z165 => bindO (callO B .cl (.fn 27 [])
    [z165, nth z153 0, nth z153 1]) (fun z166 => bindO (pureO (.extract 0 (.c z166))) (fun z167 => bindO (pureO (.extract 1 (.c z166))) (fun z168 => bindO (pureO (.bin .neq .num true
    (.c z168) (.c (.int .i64 0)))) (fun z169 => iteP z169 (bindO (pureO (.build [.bool false, .bool false, .nilS] [])) (fun z170 => chkO (okCells z170 3) (chkO (okCells z168 1) (some
    (false, ([nth z152 0, nth z152 1, nth z152 2, nth z152 3, cellP z170 0, cellP z170 1, cellP z170 2, cellP z168 0, nth z152 8, nth z152 9, nth z152 10, nI (natP (nth z152 11)), .sl
    1 (itemsP (nth z152 12)) false], (some .ret, z154))))))) (chkO (okSls 1 [z167]) (chkO (leN (addN 0 (lenL [z167])) (lenL [z167])) (chkO (andB (leN (natP (nth z152 11)) (lenL (itemsP
    (nth z152 12)))) (leN (addN (natP (nth z152 11)) (lenL (takeL (lenL [z167]) (dropL 0 [z167])))) 2147483648)) (some (true, ([nth z152 0, nth z152 1, nth z152 2, nth z152 3, nth z152
    4, nth z152 5, nth z152 6, nth z152 7, nth z152 8, nth z152 9, nth z152 10, nI (addN (natP (nth z152 11)) (lenL (takeL (lenL [z167]) (dropL 0 [z167])))), .sl 1 (catL (takeL (natP
    (nth z152 11)) (itemsP (nth z152 12))) (takeL (lenL [z167]) (dropL 0 [z167]))) false], (none, z154))))))))))))))))) dep z151 ([z151, x0, x1, x2, .bool false, .bool false, .nilS,
    .int .i64 0, cellP z69 0, cellP z150 0, cellP z150 1, nI 0, .sl 1 [] false], (none, e))) (fun z171 => iteB (isNoneE z171.2.1) (chkO (okCells (.int .i64 0) 1) (chkO (okU (.tup [.agg
    [nth z171.1 9, nth z171.1 10, slO 1 1 (itemsP (nth z171.1 12)) 0 (natP (nth z171.1 11))], cellP (.int .i64 0) 0])) (some (.tup [.agg [nth z171.1 9, nth z171.1 10, slO 1 1 (itemsP
    (nth z171.1 12)) 0 (natP (nth z171.1 11))], cellP (.int .i64 0) 0], z171.2.2)))) (iteB (isRetE z171.2.1) (some (.tup [.agg [nth z171.1 4, nth z171.1 5, nth z171.1 6], nth z171.1
    7], z171.2.2)) none))))))))))))))))))))))))))))))))))))))) := by kernel_rfl
theorem run11 (B : KB) {E : Type} (h : Handler E) (dep : Nat) (e : E) (x0 : PV) :
    runK (cfg0 B (fun _ => .cl)) fn11 (.cl) h dep [.cv x0] e =
    bindO (pureO (.len .str (.c x0))) (fun z1 => bindO (pureO (.minmax false [.c z1, .c (.int .i64 20)])) (fun z2 => bindO (pureO (.strSlice (.c x0) none (some (.c z2)))) (fun z3 =>
    some (z3, e)))) := by kernel_rfl
theorem run12 (B : KB) {E : Type} (h : Handler E) (dep : Nat) (e : E) (x0 : PV) :
    runK (cfg0 B (fun _ => .cl)) fn12 (.cl) h dep [.cv x0] e =
    chkO (valO x0) (bindO (selO x0 1 1 false) (fun z1 => iteP z1 (bindO (selO x0 2 1 false) (fun z2 => bindO (callO B .cl (.fn 30 []) [z2, .fn 28 []]) (fun z3 => iteP z3 (some (.bool
    false, e)) (bindO (selO x0 0 1 false) (fun z4 => iteP z4 (bindO (selO x0 2 1 false) (fun z5 => bindO (pureO (.len .slice (.c z5))) (fun z6 => bindO (pureO (.bin .leq .num true (.c
    z6) (.c (.int .i64 200)))) (fun z7 => some (z7, e))))) (bindO (selO x0 2 1 false) (fun z8 => bindO (pureO (.len .slice (.c z8))) (fun z9 => bindO (pureO (.bin .eql .num true (.c
    z9) (.c (.int .i64 1)))) (fun z10 => some (z10, e)))))))))) (bindO (selO x0 0 1 false) (fun z11 => iteP z11 (bindO (selO x0 2 1 false) (fun z12 => bindO (pureO (.len .slice (.c
    z12))) (fun z13 => bindO (pureO (.bin .leq .num true (.c z13) (.c (.int .i64 200)))) (fun z14 => some (z14, e))))) (bindO (selO x0 2 1 false) (fun z15 => bindO (pureO (.len .slice
    (.c z15))) (fun z16 => bindO (pureO (.bin .eql .num true (.c z16) (.c (.int .i64 1)))) (fun z17 => some (z17, e))))))))) := by kernel_rfl
theorem run13 (B : KB) {E : Type} (h : Handler E) (dep : Nat) (e : E) (x0 : PV) (x1 : PV) :
    runK (cfg0 B (fun _ => .cl)) fn13 (.cl) h dep [.cv x0, .cv x1] e =
    chkO (valO x0) (chkO (valO x1) (bindO (selO x0 0 1 false) (fun z1 => bindO (selO x1 0 1 false) (fun z2 => bindO (pureO (.bin .eql .bool false (.c z1) (.c z2))) (fun z3 => iteP z3
    (bindO (selO x0 1 1 false) (fun z4 => bindO (selO x1 1 1 false) (fun z5 => bindO (pureO (.bin .eql .bool false (.c z4) (.c z5))) (fun z6 => iteP z6 (bindO (selO x0 2 1 false) (fun
    z7 => bindO (selO x1 2 1 false) (fun z8 => bindO (callO B .cl (.fn 31 []) [z7, z8]) (fun z9 => some (z9, e))))) (some (.bool false, e)))))) (some (.bool false, e))))))) := by kernel_rfl
theorem run14 (B : KB) {E : Type} (h : Handler E) (dep : Nat) (e : E) (x0 : PV) (x1 : PV) :
    runK (cfg0 B (fun _ => .cl)) fn14 (.cl) h dep [.cv x0, .cv x1] e =
    chkO (valO x1) (bindO (selO x1 0 3 true) (fun z1 => chkO (okSls 3 [z1]) (bindO (lendO B .cl true 21 [slO 3 3 [z1] 0 (lenL [z1])]) (fun z2 => bindO (pureO (.bin .neq .iface true (.c
    z2) (.c .nilI))) (fun z3 => iteP z3 (bindO (pureO (.build [.bool false, .bool false, .nilS] [])) (fun z4 => bindO (callO B .cl (.fn 22 []) [z2]) (fun z5 => chkO (okCells z4 3)
    (some (.tup [.agg [cellP z4 0, cellP z4 1, cellP z4 2], z5], e))))) (bindO (callO B .cl (.fn 32 []) [x0]) (fun z6 => bindO (pureO (.un .not (.c z6))) (fun z7 => iteP z7 (bindO
    (pureO (.build [.bool false, .bool false, .nilS] [])) (fun z8 => chkO (okCells z8 3) (some (.tup [.agg [cellP z8 0, cellP z8 1, cellP z8 2], .int .i64 102], e)))) (bindO (selO x1 0
    3 true) (fun z9 => bindO (callO B .cl (.fn 25 []) [z9]) (fun z10 => iteP z10 (bindO (pureO (.build [.bool false, .bool false, .nilS] [])) (fun z11 => chkO (okCells z11 3) (some
    (.tup [.agg [cellP z11 0, cellP z11 1, cellP z11 2], .int .i64 102], e)))) (bindO (selO x1 0 1 false) (fun z12 => bindO (pureO (.build [.bool false, .bool false, .nilS] [(0, (1, .c
    z12))])) (fun z13 => chkO (okCells z13 3) (bindO (selO x1 2 1 false) (fun z14 => bindO (pureO (.len .slice (.c z14))) (fun z15 => nilO (cellP z13 2) (chkO (noUndef [x0, z14, z15,
    .int .i64 0]) (loopL (fun z16 => bindO (pureO (.bin .lss .num false (.c (nth z16.1 3)) (.c (nth z16.1 2)))) (fun z17 => iteP z17 (bindO (pureO (.idxAddr 1 (.c (nth z16.1 1)) (.c
    (nth z16.1 3)))) (fun z18 => bindO (pureO (.load 1 false (.c z18))) (fun z19 => bindO (callO B .cl (.fn 33 []) [nth z16.1 0, z19]) (fun z20 => bindO (pureO (.extract 0 (.c z20)))
    (fun z21 => bindO (pureO (.extract 1 (.c z20))) (fun z22 => bindO (pureO (.bin .neq .num true (.c z22) (.c (.int .i64 0)))) (fun z23 => iteP z23 (bindO (pureO (.build [.bool false,
    .bool false, .nilS] [])) (fun z24 => chkO (okCells z24 3) (bindO (some (.tup [.agg [cellP z24 0, cellP z24 1, cellP z24 2], z22], z16.2)) (fun z25 => some (.inr z25))))) (chkO
    (okSls 1 [z21]) (chkO (leN (addN 0 (lenL [z21])) (lenL [z21])) (chkO (andB (leN (natP (nth z16.1 9)) (lenL (itemsP (nth z16.1 10)))) (leN (addN (natP (nth z16.1 9)) (lenL (takeL
    (lenL [z21]) (dropL 0 [z21])))) 2147483648)) (bindO (pureO (.bin .add .num true (.c (nth z16.1 3)) (.c (.int .i64 1)))) (fun z26 => some (.inl ([nth z16.1 0, nth z16.1 1, nth z16.1
    2, z26, nth z16.1 4, nth z16.1 5, nth z16.1 6, nth z16.1 7, nth z16.1 8, nI (addN (natP (nth z16.1 9)) (lenL (takeL (lenL [z21]) (dropL 0 [z21])))), .sl 1 (catL (takeL (natP (nth
    z16.1 9)) (itemsP (nth z16.1 10))) (takeL (lenL [z21]) (dropL 0 [z21]))) false], z16.2)))))))))))))) (bindO (chkO (okU (.tup [.agg [nth z16.1 7, nth z16.1 8, slO 1 1 (itemsP (nth
    z16.1 10)) 0 (natP (nth z16.1 9))], .int .i64 0])) (some (.tup [.agg [nth z16.1 7, nth z16.1 8, slO 1 1 (itemsP (nth z16.1 10)) 0 (natP (nth z16.1 9))], .int .i64 0], z16.2))) (fun
    z27 => some (.inr z27))))) ([x0, z14, z15, .int .i64 0, .bool false, .bool false, .nilS, cellP z13 0, cellP z13 1, nI 0, .sl 1 [] false], e)))))))))))))))))))) := by kernel_rfl
theorem run15 (B : KB) {E : Type} (h : Handler E) (dep : Nat) (e : E) (x0 : PV) (x1 : PV) :
    runK (cfg0 B (fun _ => .cl)) fn15 (.cl) h dep [.cv x0, .cv x1] e =
    chkO (valO x1) (bindO (selO x1 0 3 true) (fun z1 => bindO (callO B .cl (.fn 34 []) [z1]) (fun z2 => bindO (pureO (.un .not (.c z2))) (fun z3 => iteP z3 (bindO (pureO (.build [.bool
    false, .bool false, .nilS] [])) (fun z4 => chkO (okCells z4 3) (some (.tup [.agg [cellP z4 0, cellP z4 1, cellP z4 2], .int .i64 114], e)))) (bindO (callO B .cl (.fn 35 []) [x0])
    (fun z5 => bindO (pureO (.un .not (.c z5))) (fun z6 => iteP z6 (bindO (pureO (.build [.bool false, .bool false, .nilS] [])) (fun z7 => chkO (okCells z7 3) (some (.tup [.agg [cellP
    z7 0, cellP z7 1, cellP z7 2], .int .i64 102], e)))) (bindO (selO x1 1 1 false) (fun z8 => iteP z8 (bindO (selO x1 2 1 false) (fun z9 => bindO (pureO (.len .slice (.c z9))) (fun
    z10 => bindO (pureO (.bin .gtr .num true (.c z10) (.c (.int .i64 0)))) (fun z11 => iteP z11 (bindO (pureO (.build [.bool false, .bool false, .nilS] [])) (fun z12 => chkO (okCells
    z12 3) (some (.tup [.agg [cellP z12 0, cellP z12 1, cellP z12 2], .int .i64 102], e)))) (bindO (selO x1 0 1 false) (fun z13 => bindO (pureO (.build [.bool false, .bool false,
    .nilS] [(0, (1, .c z13))])) (fun z14 => chkO (okCells z14 3) (nilO (cellP z14 2) (chkO (noUndef [x0, .int .i64 0]) (loopL (fun z15 => bindO (selO (nth z15.1 2) 2 1 false) (fun z16
    => bindO (pureO (.len .slice (.c z16))) (fun z17 => bindO (pureO (.bin .lss .num false (.c (nth z15.1 1)) (.c z17))) (fun z18 => iteP z18 (bindO (selO (nth z15.1 2) 2 1 false) (fun
    z19 => bindO (pureO (.idxAddr 1 (.c z19) (.c (nth z15.1 1)))) (fun z20 => bindO (pureO (.load 1 false (.c z20))) (fun z21 => bindO (callO B .cl (.fn 36 []) [nth z15.1 0, z21]) (fun
    z22 => bindO (pureO (.extract 0 (.c z22))) (fun z23 => bindO (pureO (.extract 1 (.c z22))) (fun z24 => bindO (pureO (.bin .neq .num true (.c z24) (.c (.int .i64 0)))) (fun z25 =>
    iteP z25 (bindO (pureO (.build [.bool false, .bool false, .nilS] [])) (fun z26 => chkO (okCells z26 3) (bindO (some (.tup [.agg [cellP z26 0, cellP z26 1, cellP z26 2], z24],
    z15.2)) (fun z27 => some (.inr z27))))) (chkO (okSls 1 [z23]) (chkO (leN (addN 0 (lenL [z23])) (lenL [z23])) (chkO (andB (leN (natP (nth z15.1 8)) (lenL (itemsP (nth z15.1 9))))
    (leN (addN (natP (nth z15.1 8)) (lenL (takeL (lenL [z23]) (dropL 0 [z23])))) 2147483648)) (bindO (pureO (.bin .add .num true (.c (nth z15.1 1)) (.c (.int .i64 1)))) (fun z28 =>
    some (.inl ([nth z15.1 0, z28, nth z15.1 2, nth z15.1 3, nth z15.1 4, nth z15.1 5, nth z15.1 6, nth z15.1 7, nI (addN (natP (nth z15.1 8)) (lenL (takeL (lenL [z23]) (dropL 0
    [z23])))), .sl 1 (catL (takeL (natP (nth z15.1 8)) (itemsP (nth z15.1 9))) (takeL (lenL [z23]) (dropL 0 [z23]))) false], z15.2))))))))))))))) (bindO (chkO (okU (.tup [.agg [nth
    z15.1 6, nth z15.1 7, slO 1 1 (itemsP (nth z15.1 9)) 0 (natP (nth z15.1 8))], .int .i64 0])) (some (.tup [.agg [nth z15.1 6, nth z15.1 7, slO 1 1 (itemsP (nth z15.1 9)) 0 (natP
    (nth z15.1 8))], .int .i64 0], z15.2))) (fun z29 => some (.inr z29))))))) ([x0, .int .i64 0, x1, .bool false, .bool false, .nilS, cellP z14 0, cellP z14 1, nI 0, .sl 1 [] false],
    e))))))))))) (bindO (selO x1 0 1 false) (fun z30 => bindO (pureO (.build [.bool false, .bool false, .nilS] [(0, (1, .c z30))])) (fun z31 => chkO (okCells z31 3) (nilO (cellP z31 2)
    (chkO (noUndef [x0, .int .i64 0]) (loopL (fun z32 => bindO (selO (nth z32.1 2) 2 1 false) (fun z33 => bindO (pureO (.len .slice (.c z33))) (fun z34 => bindO (pureO (.bin .lss .num
    false (.c (nth z32.1 1)) (.c z34))) (fun z35 => iteP z35 (bindO (selO (nth z32.1 2) 2 1 false) (fun z36 => bindO (pureO (.idxAddr 1 (.c z36) (.c (nth z32.1 1)))) (fun z37 => bindO
    (pureO (.load 1 false (.c z37))) (fun z38 => bindO (callO B .cl (.fn 36 []) [nth z32.1 0, z38]) (fun z39 => bindO (pureO (.extract 0 (.c z39))) (fun z40 => bindO (pureO (.extract 1
    (.c z39))) (fun z41 => bindO (pureO (.bin .neq .num true (.c z41) (.c (.int .i64 0)))) (fun z42 => iteP z42 (bindO (pureO (.build [.bool false, .bool false, .nilS] [])) (fun z43 =>
    chkO (okCells z43 3) (bindO (some (.tup [.agg [cellP z43 0, cellP z43 1, cellP z43 2], z41], z32.2)) (fun z44 => some (.inr z44))))) (chkO (okSls 1 [z40]) (chkO (leN (addN 0 (lenL
    [z40])) (lenL [z40])) (chkO (andB (leN (natP (nth z32.1 8)) (lenL (itemsP (nth z32.1 9)))) (leN (addN (natP (nth z32.1 8)) (lenL (takeL (lenL [z40]) (dropL 0 [z40])))) 2147483648))
    (bindO (pureO (.bin .add .num true (.c (nth z32.1 1)) (.c (.int .i64 1)))) (fun z45 => some (.inl ([nth z32.1 0, z45, nth z32.1 2, nth z32.1 3, nth z32.1 4, nth z32.1 5, nth z32.1
    6, nth z32.1 7, nI (addN (natP (nth z32.1 8)) (lenL (takeL (lenL [z40]) (dropL 0 [z40])))), .sl 1 (catL (takeL (natP (nth z32.1 8)) (itemsP (nth z32.1 9))) (takeL (lenL [z40])
    (dropL 0 [z40]))) false], z32.2))))))))))))))) (bindO (chkO (okU (.tup [.agg [nth z32.1 6, nth z32.1 7, slO 1 1 (itemsP (nth z32.1 9)) 0 (natP (nth z32.1 8))], .int .i64 0])) (some
    (.tup [.agg [nth z32.1 6, nth z32.1 7, slO 1 1 (itemsP (nth z32.1 9)) 0 (natP (nth z32.1 8))], .int .i64 0], z32.2))) (fun z46 => some (.inr z46))))))) ([x0, .int .i64 0, x1, .bool
    false, .bool false, .nilS, cellP z31 0, cellP z31 1, nI 0, .sl 1 [] false], e)))))))))))))))) := by kernel_rfl
theorem run16 (B : KB) {E : Type} (h : Handler E) (dep : Nat) (e : E) (x0 : PV) (x1 : PV) (x2 : PV) :
    runK (cfg0 B (fun _ => .cl)) fn16 (.cl) h dep [.cv x0, .cv x1, .cv x2] e =
    chkO (valO x1) (chkO (valO x2) (bindO (selO x1 0 3 true) (fun z1 => bindO (callO B .cl (.fn 34 []) [z1]) (fun z2 => bindO (pureO (.un .not (.c z2))) (fun z3 => iteP z3 (bindO
    (pureO (.build [.bool false, .bool false, .nilS] [])) (fun z4 => chkO (okCells z4 3) (some (.tup [.agg [cellP z4 0, cellP z4 1, cellP z4 2], .int .i64 114], e)))) (bindO (selO x2 0
    3 true) (fun z5 => bindO (callO B .cl (.fn 34 []) [z5]) (fun z6 => bindO (pureO (.un .not (.c z6))) (fun z7 => iteP z7 (bindO (pureO (.build [.bool false, .bool false, .nilS] []))
    (fun z8 => chkO (okCells z8 3) (some (.tup [.agg [cellP z8 0, cellP z8 1, cellP z8 2], .int .i64 114], e)))) (bindO (callO B .cl (.fn 37 []) [x0]) (fun z9 => bindO (pureO (.un .not
    (.c z9))) (fun z10 => iteP z10 (bindO (pureO (.build [.bool false, .bool false, .nilS] [])) (fun z11 => chkO (okCells z11 3) (some (.tup [.agg [cellP z11 0, cellP z11 1, cellP z11
    2], .int .i64 102], e)))) (bindO (bindO (selO x1 0 1 false) (fun z12 => iteP z12 (bindO (selO x2 0 1 false) (fun z13 => iteP z13 (bindO (selO x1 2 1 false) (fun z14 => bindO (pureO
    (.len .slice (.c z14))) (fun z15 => bindO (selO x2 2 1 false) (fun z16 => bindO (pureO (.len .slice (.c z16))) (fun z17 => bindO (pureO (.bin .neq .num false (.c z15) (.c z17)))
    (fun z18 => some z18)))))) (some (.bool false)))) (some (.bool false)))) (fun z19 => iteP z19 (bindO (pureO (.build [.bool false, .bool false, .nilS] [])) (fun z20 => chkO (okCells
    z20 3) (some (.tup [.agg [cellP z20 0, cellP z20 1, cellP z20 2], .int .i64 110], e)))) (bindO (bindO (pureO (.bin .neq .str true (.c x0) (.c (.str [61])))) (fun z21 => iteP z21
    (bindO (pureO (.bin .neq .str true (.c x0) (.c (.str [226, 137, 160])))) (fun z22 => iteP z22 (bindO (selO x1 1 1 false) (fun z23 => iteP z23 (bindO (selO x1 2 1 false) (fun z24 =>
    bindO (pureO (.len .slice (.c z24))) (fun z25 => bindO (pureO (.bin .gtr .num true (.c z25) (.c (.int .i64 0)))) (fun z26 => iteP z26 (some (.bool true)) (bindO (selO x2 1 1 false)
    (fun z27 => iteP z27 (bindO (selO x2 2 1 false) (fun z28 => bindO (pureO (.len .slice (.c z28))) (fun z29 => bindO (pureO (.bin .gtr .num true (.c z29) (.c (.int .i64 0)))) (fun
    z30 => some z30)))) (some (.bool false)))))))) (bindO (selO x2 1 1 false) (fun z31 => iteP z31 (bindO (selO x2 2 1 false) (fun z32 => bindO (pureO (.len .slice (.c z32))) (fun z33
    => bindO (pureO (.bin .gtr .num true (.c z33) (.c (.int .i64 0)))) (fun z34 => some z34)))) (some (.bool false)))))) (some (.bool false)))) (some (.bool false)))) (fun z35 => iteP
    z35 (bindO (pureO (.build [.bool false, .bool false, .nilS] [])) (fun z36 => chkO (okCells z36 3) (some (.tup [.agg [cellP z36 0, cellP z36 1, cellP z36 2], .int .i64 102], e))))
    (bindO (selO x1 0 1 false) (fun z37 => iteP z37 (bindO (pureO (.build [.bool false, .bool false, .nilS] [(0, (1, .c (.bool true)))])) (fun z38 => chkO (okCells z38 3) (bindO (selO
    x2 2 1 false) (fun z39 => bindO (pureO (.len .slice (.c z39))) (fun z40 => bindO (selO x1 0 1 false) (fun z41 => iteP z41 (bindO (selO x1 2 1 false) (fun z42 => bindO (pureO (.len
    .slice (.c z42))) (fun z43 => nilO (cellP z38 2) (chkO (noUndef [x0, z43, .int .i64 0]) (loopL (fun z44 => bindO (pureO (.bin .lss .num false (.c (nth z44.1 2)) (.c (nth z44.1
    1)))) (fun z45 => iteP z45 (bindO (selO (nth z44.1 3) 0 3 true) (fun z46 => bindO (callO B .cl (.fn 39 []) [z46, nth z44.1 2]) (fun z47 => bindO (selO (nth z44.1 4) 0 3 true) (fun
    z48 => bindO (callO B .cl (.fn 39 []) [z48, nth z44.1 2]) (fun z49 => bindO (selO (nth z44.1 3) 1 1 false) (fun z50 => bindO (selO (nth z44.1 4) 1 1 false) (fun z51 => bindO (pureO
    (.bin .eql .bool false (.c z50) (.c z51))) (fun z52 => bindO (callO B .cl (.fn 38 []) [nth z44.1 0, z47, z49, z52]) (fun z53 => bindO (pureO (.extract 0 (.c z53))) (fun z54 =>
    bindO (pureO (.extract 1 (.c z53))) (fun z55 => bindO (pureO (.bin .neq .num true (.c z55) (.c (.int .i64 0)))) (fun z56 => iteP z56 (bindO (pureO (.build [.bool false, .bool
    false, .nilS] [])) (fun z57 => chkO (okCells z57 3) (bindO (some (.tup [.agg [cellP z57 0, cellP z57 1, cellP z57 2], z55], z44.2)) (fun z58 => some (.inr z58))))) (chkO (okSls 1
    [z54]) (chkO (leN (addN 0 (lenL [z54])) (lenL [z54])) (chkO (andB (leN (natP (nth z44.1 10)) (lenL (itemsP (nth z44.1 11)))) (leN (addN (natP (nth z44.1 10)) (lenL (takeL (lenL
    [z54]) (dropL 0 [z54])))) 2147483648)) (bindO (pureO (.bin .add .num true (.c (nth z44.1 2)) (.c (.int .i64 1)))) (fun z59 => some (.inl ([nth z44.1 0, nth z44.1 1, z59, nth z44.1
    3, nth z44.1 4, nth z44.1 5, nth z44.1 6, nth z44.1 7, nth z44.1 8, nth z44.1 9, nI (addN (natP (nth z44.1 10)) (lenL (takeL (lenL [z54]) (dropL 0 [z54])))), .sl 1 (catL (takeL
    (natP (nth z44.1 10)) (itemsP (nth z44.1 11))) (takeL (lenL [z54]) (dropL 0 [z54]))) false], z44.2))))))))))))))))))) (bindO (chkO (okU (.tup [.agg [nth z44.1 8, nth z44.1 9, slO 1
    1 (itemsP (nth z44.1 11)) 0 (natP (nth z44.1 10))], .int .i64 0])) (some (.tup [.agg [nth z44.1 8, nth z44.1 9, slO 1 1 (itemsP (nth z44.1 11)) 0 (natP (nth z44.1 10))], .int .i64
    0], z44.2))) (fun z60 => some (.inr z60))))) ([x0, z43, .int .i64 0, x1, x2, .bool false, .bool false, .nilS, cellP z38 0, cellP z38 1, nI 0, .sl 1 [] false], e)))))) (nilO (cellP
    z38 2) (chkO (noUndef [x0, z40, .int .i64 0]) (loopL (fun z61 => bindO (pureO (.bin .lss .num false (.c (nth z61.1 2)) (.c (nth z61.1 1)))) (fun z62 => iteP z62 (bindO (selO (nth
    z61.1 3) 0 3 true) (fun z63 => bindO (callO B .cl (.fn 39 []) [z63, nth z61.1 2]) (fun z64 => bindO (selO (nth z61.1 4) 0 3 true) (fun z65 => bindO (callO B .cl (.fn 39 []) [z65,
    nth z61.1 2]) (fun z66 => bindO (selO (nth z61.1 3) 1 1 false) (fun z67 => bindO (selO (nth z61.1 4) 1 1 false) (fun z68 => bindO (pureO (.bin .eql .bool false (.c z67) (.c z68)))
    (fun z69 => bindO (callO B .cl (.fn 38 []) [nth z61.1 0, z64, z66, z69]) (fun z70 => bindO (pureO (.extract 0 (.c z70))) (fun z71 => bindO (pureO (.extract 1 (.c z70))) (fun z72 =>
    bindO (pureO (.bin .neq .num true (.c z72) (.c (.int .i64 0)))) (fun z73 => iteP z73 (bindO (pureO (.build [.bool false, .bool false, .nilS] [])) (fun z74 => chkO (okCells z74 3)
    (bindO (some (.tup [.agg [cellP z74 0, cellP z74 1, cellP z74 2], z72], z61.2)) (fun z75 => some (.inr z75))))) (chkO (okSls 1 [z71]) (chkO (leN (addN 0 (lenL [z71])) (lenL [z71]))
    (chkO (andB (leN (natP (nth z61.1 10)) (lenL (itemsP (nth z61.1 11)))) (leN (addN (natP (nth z61.1 10)) (lenL (takeL (lenL [z71]) (dropL 0 [z71])))) 2147483648)) (bindO (pureO
    (.bin .add .num true (.c (nth z61.1 2)) (.c (.int .i64 1)))) (fun z76 => some (.inl ([nth z61.1 0, nth z61.1 1, z76, nth z61.1 3, nth z61.1 4, nth z61.1 5, nth z61.1 6, nth z61.1
    7, nth z61.1 8, nth z61.1 9, nI (addN (natP (nth z61.1 10)) (lenL (takeL (lenL [z71]) (dropL 0 [z71])))), .sl 1 (catL (takeL (natP (nth z61.1 10)) (itemsP (nth z61.1 11))) (takeL
    (lenL [z71]) (dropL 0 [z71]))) false], z61.2))))))))))))))))))) (bindO (chkO (okU (.tup [.agg [nth z61.1 8, nth z61.1 9, slO 1 1 (itemsP (nth z61.1 11)) 0 (natP (nth z61.1 10))],
    .int .i64 0])) (some (.tup [.agg [nth z61.1 8, nth z61.1 9, slO 1 1 (itemsP (nth z61.1 11)) 0 (natP (nth z61.1 10))], .int .i64 0], z61.2))) (fun z77 => some (.inr z77))))) ([x0,
    z40, .int .i64 0, x1, x2, .bool false, .bool false, .nilS, cellP z38 0, cellP z38 1, nI 0, .sl 1 [] false], e)))))))))) (bindO (selO x2 0 1 false) (fun z78 => bindO (pureO (.build
    [.bool false, .bool false, .nilS] [(0, (1, .c z78))])) (fun z79 => chkO (okCells z79 3) (bindO (selO x2 2 1 false) (fun z80 => bindO (pureO (.len .slice (.c z80))) (fun z81 =>
    bindO (selO x1 0 1 false) (fun z82 => iteP z82 (bindO (selO x1 2 1 false) (fun z83 => bindO (pureO (.len .slice (.c z83))) (fun z84 => nilO (cellP z79 2) (chkO (noUndef [x0, z84,
    .int .i64 0]) (loopL (fun z85 => bindO (pureO (.bin .lss .num false (.c (nth z85.1 2)) (.c (nth z85.1 1)))) (fun z86 => iteP z86 (bindO (selO (nth z85.1 3) 0 3 true) (fun z87 =>
    bindO (callO B .cl (.fn 39 []) [z87, nth z85.1 2]) (fun z88 => bindO (selO (nth z85.1 4) 0 3 true) (fun z89 => bindO (callO B .cl (.fn 39 []) [z89, nth z85.1 2]) (fun z90 => bindO
    (selO (nth z85.1 3) 1 1 false) (fun z91 => bindO (selO (nth z85.1 4) 1 1 false) (fun z92 => bindO (pureO (.bin .eql .bool false (.c z91) (.c z92))) (fun z93 => bindO (callO B .cl
    (.fn 38 []) [nth z85.1 0, z88, z90, z93]) (fun z94 => bindO (pureO (.extract 0 (.c z94))) (fun z95 => bindO (pureO (.extract 1 (.c z94))) (fun z96 => bindO (pureO (.bin .neq .num
    true (.c z96) (.c (.int .i64 0)))) (fun z97 => iteP z97 (bindO (pureO (.build [.bool false, .bool false, .nilS] [])) (fun z98 => chkO (okCells z98 3) (bindO (some (.tup [.agg
    [cellP z98 0, cellP z98 1, cellP z98 2], z96], z85.2)) (fun z99 => some (.inr z99))))) (chkO (okSls 1 [z95]) (chkO (leN (addN 0 (lenL [z95])) (lenL [z95])) (chkO (andB (leN (natP
    (nth z85.1 10)) (lenL (itemsP (nth z85.1 11)))) (leN (addN (natP (nth z85.1 10)) (lenL (takeL (lenL [z95]) (dropL 0 [z95])))) 2147483648)) (bindO (pureO (.bin .add .num true (.c
    (nth z85.1 2)) (.c (.int .i64 1)))) (fun z100 => some (.inl ([nth z85.1 0, nth z85.1 1, z100, nth z85.1 3, nth z85.1 4, nth z85.1 5, nth z85.1 6, nth z85.1 7, nth z85.1 8, nth
    z85.1 9, nI (addN (natP (nth z85.1 10)) (lenL (takeL (lenL [z95]) (dropL 0 [z95])))), .sl 1 (catL (takeL (natP (nth z85.1 10)) (itemsP (nth z85.1 11))) (takeL (lenL [z95]) (dropL 0
    [z95]))) false], z85.2))))))))))))))))))) (bindO (chkO (okU (.tup [.agg [nth z85.1 8, nth z85.1 9, slO 1 1 (itemsP (nth z85.1 11)) 0 (natP (nth z85.1 10))], .int .i64 0])) (some
    (.tup [.agg [nth z85.1 8, nth z85.1 9, slO 1 1 (itemsP (nth z85.1 11)) 0 (natP (nth z85.1 10))], .int .i64 0], z85.2))) (fun z101 => some (.inr z101))))) ([x0, z84, .int .i64 0,
    x1, x2, .bool false, .bool false, .nilS, cellP z79 0, cellP z79 1, nI 0, .sl 1 [] false], e)))))) (nilO (cellP z79 2) (chkO (noUndef [x0, z81, .int .i64 0]) (loopL (fun z102 =>
    bindO (pureO (.bin .lss .num false (.c (nth z102.1 2)) (.c (nth z102.1 1)))) (fun z103 => iteP z103 (bindO (selO (nth z102.1 3) 0 3 true) (fun z104 => bindO (callO B .cl (.fn 39
    []) [z104, nth z102.1 2]) (fun z105 => bindO (selO (nth z102.1 4) 0 3 true) (fun z106 => bindO (callO B .cl (.fn 39 []) [z106, nth z102.1 2]) (fun z107 => bindO (selO (nth z102.1
    3) 1 1 false) (fun z108 => bindO (selO (nth z102.1 4) 1 1 false) (fun z109 => bindO (pureO (.bin .eql .bool false (.c z108) (.c z109))) (fun z110 => bindO (callO B .cl (.fn 38 [])
    [nth z102.1 0, z105, z107, z110]) (fun z111 => bindO (pureO (.extract 0 (.c z111))) (fun z112 => bindO (pureO (.extract 1 (.c z111))) (fun z113 => bindO (pureO (.bin .neq .num true
    (.c z113) (.c (.int .i64 0)))) (fun z114 => iteP z114 (bindO (pureO (.build [.bool false, .bool false, .nilS] [])) (fun z115 => chkO (okCells z115 3) (bindO (some (.tup [.agg
    [cellP z115 0, cellP z115 1, cellP z115 2], z113], z102.2)) (fun z116 => some (.inr z116))))) (chkO (okSls 1 [z112]) (chkO (leN (addN 0 (lenL [z112])) (lenL [z112])) (chkO (andB
    (leN (natP (nth z102.1 10)) (lenL (itemsP (nth z102.1 11)))) (leN (addN (natP (nth z102.1 10)) (lenL (takeL (lenL [z112]) (dropL 0 [z112])))) 2147483648)) (bindO (pureO (.bin .add
    .num true (.c (nth z102.1 2)) (.c (.int .i64 1)))) (fun z117 => some (.inl ([nth z102.1 0, nth z102.1 1, z117, nth z102.1 3, nth z102.1 4, nth z102.1 5, nth z102.1 6, nth z102.1 7,
    nth z102.1 8, nth z102.1 9, nI (addN (natP (nth z102.1 10)) (lenL (takeL (lenL [z112]) (dropL 0 [z112])))), .sl 1 (catL (takeL (natP (nth z102.1 10)) (itemsP (nth z102.1 11)))
    (takeL (lenL [z112]) (dropL 0 [z112]))) false], z102.2))))))))))))))))))) (bindO (chkO (okU (.tup [.agg [nth z102.1 8, nth z102.1 9, slO 1 1 (itemsP (nth z102.1 11)) 0 (natP (nth
    z102.1 10))], .int .i64 0])) (some (.tup [.agg [nth z102.1 8, nth z102.1 9, slO 1 1 (itemsP (nth z102.1 11)) 0 (natP (nth z102.1 10))], .int .i64 0], z102.2))) (fun z118 => some
    (.inr z118))))) ([x0, z81, .int .i64 0, x1, x2, .bool false, .bool false, .nilS, cellP z79 0, cellP z79 1, nI 0, .sl 1 [] false], e))))))))))))))))))))))))))))) := by kernel_rfl
theorem run17 (B : KB) {E : Type} (h : Handler E) (dep : Nat) (e : E) (x0 : PV) (x1 : PV) :
    runK (cfg0 B (fun _ => .cl)) fn17 (.cl) h dep [.cv x0, .cv x1] e =
    chkO (valO x0) (chkO (valO x1) (bindO (selO x0 0 1 false) (fun z1 => bindO (selO x1 0 1 false) (fun z2 => bindO (pureO (.bin .eql .bool false (.c z1) (.c z2))) (fun z3 => iteP z3
    (bindO (selO x0 1 1 false) (fun z4 => bindO (selO x1 1 1 false) (fun z5 => bindO (pureO (.bin .eql .bool false (.c z4) (.c z5))) (fun z6 => iteP z6 (bindO (selO x0 2 1 false) (fun
    z7 => bindO (selO x1 2 1 false) (fun z8 => bindO (callO B .cl (.fn 18 []) [z7, z8]) (fun z9 => some (z9, e))))) (some (.bool false, e)))))) (some (.bool false, e))))))) := by kernel_rfl
theorem run18 (B : KB) {E : Type} (h : Handler E) (dep : Nat) (e : E) (x0 : PV) (x1 : PV) :
    runK (cfg0 B (fun _ => .cl)) fn18 (.cl) h dep [.cv x0, .cv x1] e =
    bindO (pureO (.len .slice (.c x0))) (fun z1 => bindO (pureO (.len .slice (.c x1))) (fun z2 => bindO (pureO (.bin .neq .num false (.c z1) (.c z2))) (fun z3 => iteP z3 (some (.bool
    false, e)) (chkO (noUndef [x0, x1, .int .i64 0]) (loopL (fun z4 => bindO (pureO (.len .slice (.c (nth z4.1 0)))) (fun z5 => bindO (pureO (.bin .lss .num false (.c (nth z4.1 2)) (.c
    z5))) (fun z6 => iteP z6 (bindO (pureO (.idxAddr 1 (.c (nth z4.1 0)) (.c (nth z4.1 2)))) (fun z7 => bindO (pureO (.load 1 false (.c z7))) (fun z8 => bindO (pureO (.idxAddr 1 (.c
    (nth z4.1 1)) (.c (nth z4.1 2)))) (fun z9 => bindO (pureO (.load 1 false (.c z9))) (fun z10 => bindO (pureO (.bin .neq .num false (.c z8) (.c z10))) (fun z11 => iteP z11 (bindO
    (some (.bool false, z4.2)) (fun z12 => some (.inr z12))) (bindO (pureO (.bin .add .num true (.c (nth z4.1 2)) (.c (.int .i64 1)))) (fun z13 => some (.inl ([nth z4.1 0, nth z4.1 1,
    z13], z4.2)))))))))) (bindO (some (.bool true, z4.2)) (fun z14 => some (.inr z14)))))) ([x0, x1, .int .i64 0], e)))))) := by kernel_rfl
theorem run21 (B : KB) {E : Type} (h : Handler E) (dep : Nat) (e : E) (x0 : PV) :
    runK (cfg0 B (fun _ => .cl)) fn21 (.cl) h dep [.cv x0] e =
    bindO (pureO (.len .slice (.c x0))) (fun z1 => chkO (noUndef [x0, z1, .int .i64 0]) (loopL (fun z2 => bindO (pureO (.bin .lss .num false (.c (nth z2.1 2)) (.c (nth z2.1 1)))) (fun
    z3 => iteP z3 (bindO (pureO (.idxAddr 3 (.c (nth z2.1 0)) (.c (nth z2.1 2)))) (fun z4 => bindO (pureO (.load 3 true (.c z4))) (fun z5 => chkO (okCells z5 3) (bindO (callO B .cl
    (.fn 12 []) [.agg [cellP z5 0, cellP z5 1, cellP z5 2]]) (fun z6 => bindO (pureO (.un .not (.c z6))) (fun z7 => iteP z7 (bindO (pureO (.build [.int .i64 0] [(0, (1, .c (.int .i64
    114)))])) (fun z8 => bindO (some (.iface 64 z8, z2.2)) (fun z9 => some (.inr z9)))) (bindO (pureO (.bin .add .num true (.c (nth z2.1 2)) (.c (.int .i64 1)))) (fun z10 => some (.inl
    ([nth z2.1 0, nth z2.1 1, z10], z2.2)))))))))) (bindO (some (.nilI, z2.2)) (fun z11 => some (.inr z11))))) ([x0, z1, .int .i64 0], e))) := by kernel_rfl
theorem run22 (B : KB) {E : Type} (h : Handler E) (dep : Nat) (e : E) (x0 : PV) :
    runK (cfg0 B (fun _ => .cl)) fn22 (.cl) h dep [.cv x0] e =
    chkO (eqN 1 1) (asP 64 x0 (fun z1 => chkO (okCells z1 1) (bindO (selO z1 0 1 false) (fun z2 => some (z2, e)))) (some (.int .i64 0, e))) := by kernel_rfl
theorem run23 (B : KB) {E : Type} (h : Handler E) (dep : Nat) (e : E) (x0 : PV) :
    runK (cfg0 B (fun _ => .cl)) fn23 (.cl) h dep [.cv x0] e =
    bindO (callO B .cl (.fn 44 []) []) (fun z1 => bindO (pureO (.lookup .str .nilF false (.c z1) (.c x0))) (fun z2 => bindO (pureO (.bin .neq .func true (.c z2) (.c .nilF))) (fun z3 =>
    some (z3, e)))) := by kernel_rfl
theorem run24 (B : KB) {E : Type} (h : Handler E) (dep : Nat) (e : E) (x0 : PV) :
    runK (cfg0 B (fun _ => .cl)) fn24 (.cl) h dep [.cv x0] e =
    chkO (valO x0) (bindO (bindO (selO x0 0 1 false) (fun z1 => iteP z1 (bindO (selO x0 3 1 false) (fun z2 => iteP z2 (bindO (selO x0 2 1 false) (fun z3 => bindO (pureO (.len .slice
    (.c z3))) (fun z4 => bindO (selO x0 5 1 false) (fun z5 => bindO (pureO (.len .slice (.c z5))) (fun z6 => bindO (pureO (.bin .neq .num false (.c z4) (.c z6))) (fun z7 => some
    z7)))))) (some (.bool false)))) (some (.bool false)))) (fun z8 => iteP z8 (bindO (pureO (.build [.int .i64 0] [(0, (1, .c (.int .i64 110)))])) (fun z9 => some (.tup [.int .i64 0,
    .iface 64 z9], e))) (bindO (selO x0 0 1 false) (fun z10 => iteP z10 (bindO (selO x0 2 1 false) (fun z11 => bindO (pureO (.len .slice (.c z11))) (fun z12 => some (.tup [z12, .nilI],
    e)))) (bindO (selO x0 5 1 false) (fun z13 => bindO (pureO (.len .slice (.c z13))) (fun z14 => some (.tup [z14, .nilI], e)))))))) := by kernel_rfl
theorem run25 (B : KB) {E : Type} (h : Handler E) (dep : Nat) (e : E) (x0 : PV) :
    runK (cfg0 B (fun _ => .cl)) fn25 (.cl) h dep [.cv x0] e =
    chkO (valO x0) (bindO (bindO (selO x0 1 1 false) (fun z1 => iteP z1 (bindO (selO x0 2 1 false) (fun z2 => bindO (pureO (.len .slice (.c z2))) (fun z3 => bindO (pureO (.bin .gtr
    .num true (.c z3) (.c (.int .i64 0)))) (fun z4 => some z4)))) (some (.bool false)))) (fun z5 => some (z5, e))) := by kernel_rfl
theorem run26 (B : KB) {E : Type} (h : Handler E) (dep : Nat) (e : E) (x0 : PV) (x1 : PV) :
    runK (cfg0 B (fun _ => .cl)) fn26 (.cl) h dep [.cv x0, .cv x1] e =
    chkO (valO x0) (chkO (valO x1) (chkO (okU (.fn 45 [ptrO (cellsP x1) 0, ptrO (cellsP x0) 0])) (some (.fn 45 [ptrO (cellsP x1) 0, ptrO (cellsP x0) 0], e)))) := by kernel_rfl
theorem run27 (B : KB) {E : Type} (h : Handler E) (dep : Nat) (e : E) (x0 : PV) (x1 : PV) (x2 : PV) :
    runK (cfg0 B (fun _ => .cl)) fn27 (.cl) h dep [.cv x0, .cv x1, .cv x2] e =
    bindO (callO B .cl (.fn 44 []) []) (fun z1 => bindO (pureO (.lookup .str .nilF true (.c z1) (.c x0))) (fun z2 => bindO (pureO (.extract 0 (.c z2))) (fun z3 => bindO (pureO
    (.extract 1 (.c z2))) (fun z4 => bindO (pureO (.un .not (.c z4))) (fun z5 => iteP z5 (bindO (pureO (.build [.str []] [(0, (1, .c x0))])) (fun z6 => bindO (callO B .cl (.fn 47 [])
    [.iface 73 z6]) (fun z7 => some (.tup [.int .i64 0, z7], e)))) (bindO (pureO (.build [.int .i64 0, .int .i64 0] [(0, (1, .c x1)), (1, (1, .c x2))])) (fun z8 => bindO (pureO (.build
    [.int .i64 0, .int .i64 0] [(0, (2, .c z8))])) (fun z9 => bindO (callO B .cl z3 [z9]) (fun z10 => bindO (pureO (.extract 0 (.c z10))) (fun z11 => bindO (pureO (.extract 1 (.c
    z10))) (fun z12 => bindO (callO B .cl (.fn 47 []) [z12]) (fun z13 => some (.tup [z11, z13], e))))))))))))) := by kernel_rfl
theorem run28 (B : KB) {E : Type} (h : Handler E) (dep : Nat) (e : E) (x0 : PV) :
    runK (cfg0 B (fun _ => .cl)) fn28 (.cl) h dep [.cv x0] e =
    bindO (callO B .cl (.fn 29 []) [x0]) (fun z1 => bindO (pureO (.un .not (.c z1))) (fun z2 => some (z2, e))) := by kernel_rfl
theorem run29 (B : KB) {E : Type} (h : Handler E) (dep : Nat) (e : E) (x0 : PV) :
    runK (cfg0 B (fun _ => .cl)) fn29 (.cl) h dep [.cv x0] e =
    bindO (bindO (pureO (.bin .geq .num true (.c x0) (.c (.int .i64 0)))) (fun z1 => iteP z1 (bindO (pureO (.bin .leq .num true (.c x0) (.c (.int .i64 1114111)))) (fun z2 => iteP z2
    (bindO (pureO (.bin .lss .num true (.c x0) (.c (.int .i64 55296)))) (fun z3 => iteP z3 (some (.bool true)) (bindO (pureO (.bin .gtr .num true (.c x0) (.c (.int .i64 57343)))) (fun
    z4 => some z4)))) (some (.bool false)))) (some (.bool false)))) (fun z5 => some (z5, e)) := by kernel_rfl
theorem run30 (B : KB) {E : Type} (h : Handler E) (dep : Nat) (e : E) (x0 : PV) (x1 : PV) :
    runK (cfg0 B (fun _ => .cl)) fn30 (.cl) h dep [.cv x0, .cv x1] e =
    bindO (callO B .cl (.fn 48 []) [x0, x1]) (fun z1 => bindO (pureO (.bin .geq .num true (.c z1) (.c (.int .i64 0)))) (fun z2 => some (z2, e))) := by kernel_rfl
theorem run31 (B : KB) {E : Type} (h : Handler E) (dep : Nat) (e : E) (x0 : PV) (x1 : PV) :
    runK (cfg0 B (fun _ => .cl)) fn31 (.cl) h dep [.cv x0, .cv x1] e =
    bindO (pureO (.len .slice (.c x0))) (fun z1 => bindO (pureO (.len .slice (.c x1))) (fun z2 => bindO (pureO (.bin .neq .num false (.c z1) (.c z2))) (fun z3 => iteP z3 (some (.bool
    false, e)) (bindO (pureO (.len .slice (.c x0))) (fun z4 => chkO (noUndef [x0, x1, z4, .int .i64 0]) (loopL (fun z5 => bindO (pureO (.bin .lss .num false (.c (nth z5.1 3)) (.c (nth
    z5.1 2)))) (fun z6 => iteP z6 (bindO (pureO (.idxAddr 1 (.c (nth z5.1 0)) (.c (nth z5.1 3)))) (fun z7 => bindO (pureO (.load 1 false (.c z7))) (fun z8 => bindO (pureO (.idxAddr 1
    (.c (nth z5.1 1)) (.c (nth z5.1 3)))) (fun z9 => bindO (pureO (.load 1 false (.c z9))) (fun z10 => bindO (pureO (.bin .neq .num false (.c z8) (.c z10))) (fun z11 => iteP z11 (bindO
    (some (.bool false, z5.2)) (fun z12 => some (.inr z12))) (bindO (pureO (.bin .add .num true (.c (nth z5.1 3)) (.c (.int .i64 1)))) (fun z13 => some (.inl ([nth z5.1 0, nth z5.1 1,
    nth z5.1 2, z13], z5.2)))))))))) (bindO (some (.bool true, z5.2)) (fun z14 => some (.inr z14))))) ([x0, x1, z4, .int .i64 0], e))))))) := by kernel_rfl
theorem run32 (B : KB) {E : Type} (h : Handler E) (dep : Nat) (e : E) (x0 : PV) :
    runK (cfg0 B (fun _ => .cl)) fn32 (.cl) h dep [.cv x0] e =
    bindO (callO B .cl (.fn 49 []) []) (fun z1 => bindO (pureO (.lookup .str .nilF false (.c z1) (.c x0))) (fun z2 => bindO (pureO (.bin .neq .func true (.c z2) (.c .nilF))) (fun z3 =>
    some (z3, e)))) := by kernel_rfl
theorem run33 (B : KB) {E : Type} (h : Handler E) (dep : Nat) (e : E) (x0 : PV) (x1 : PV) :
    runK (cfg0 B (fun _ => .cl)) fn33 (.cl) h dep [.cv x0, .cv x1] e =
    bindO (callO B .cl (.fn 49 []) []) (fun z1 => bindO (pureO (.lookup .str .nilF true (.c z1) (.c x0))) (fun z2 => bindO (pureO (.extract 0 (.c z2))) (fun z3 => bindO (pureO
    (.extract 1 (.c z2))) (fun z4 => bindO (pureO (.un .not (.c z4))) (fun z5 => iteP z5 (bindO (pureO (.build [.str []] [(0, (1, .c x0))])) (fun z6 => bindO (callO B .cl (.fn 47 [])
    [.iface 73 z6]) (fun z7 => some (.tup [.int .i64 0, z7], e)))) (bindO (callO B .cl z3 [x1]) (fun z8 => bindO (pureO (.extract 0 (.c z8))) (fun z9 => bindO (pureO (.extract 1 (.c
    z8))) (fun z10 => bindO (callO B .cl (.fn 47 []) [z10]) (fun z11 => some (.tup [z9, z11], e))))))))))) := by kernel_rfl
theorem run34 (B : KB) {E : Type} (h : Handler E) (dep : Nat) (e : E) (x0 : PV) :
    runK (cfg0 B (fun _ => .cl)) fn34 (.cl) h dep [.cv x0] e =
    chkO (valO x0) (chkO (noUndef [.int .i64 0]) (loopL (fun z1 => bindO (bindO (selO (nth z1.1 1) 2 1 false) (fun z2 => bindO (pureO (.len .slice (.c z2))) (fun z3 => bindO (pureO
    (.bin .lss .num false (.c (nth z1.1 0)) (.c z3))) (fun z4 => iteP z4 (bindO (selO (nth z1.1 1) 1 1 false) (fun z5 => some z5)) (some (.bool false)))))) (fun z6 => iteP z6 (bindO
    (selO (nth z1.1 1) 2 1 false) (fun z7 => bindO (pureO (.idxAddr 1 (.c z7) (.c (nth z1.1 0)))) (fun z8 => bindO (pureO (.load 1 false (.c z8))) (fun z9 => bindO (callO B .cl (.fn 50
    []) [z9]) (fun z10 => bindO (pureO (.un .not (.c z10))) (fun z11 => iteP z11 (bindO (some (.bool false, z1.2)) (fun z12 => some (.inr z12))) (bindO (pureO (.bin .add .num true (.c
    (nth z1.1 0)) (.c (.int .i64 1)))) (fun z13 => some (.inl ([z13, nth z1.1 1], z1.2)))))))))) (bindO (bindO (bindO (selO (nth z1.1 1) 0 1 false) (fun z14 => iteP z14 (bindO (selO
    (nth z1.1 1) 2 1 false) (fun z15 => bindO (pureO (.len .slice (.c z15))) (fun z16 => bindO (pureO (.bin .leq .num true (.c z16) (.c (.int .i64 200)))) (fun z17 => iteP z17 (some
    (.bool true)) (bindO (selO (nth z1.1 1) 0 1 false) (fun z18 => bindO (pureO (.un .not (.c z18))) (fun z19 => iteP z19 (bindO (selO (nth z1.1 1) 2 1 false) (fun z20 => bindO (pureO
    (.len .slice (.c z20))) (fun z21 => bindO (pureO (.bin .eql .num true (.c z21) (.c (.int .i64 1)))) (fun z22 => some z22)))) (some (.bool false))))))))) (bindO (selO (nth z1.1 1) 0
    1 false) (fun z23 => bindO (pureO (.un .not (.c z23))) (fun z24 => iteP z24 (bindO (selO (nth z1.1 1) 2 1 false) (fun z25 => bindO (pureO (.len .slice (.c z25))) (fun z26 => bindO
    (pureO (.bin .eql .num true (.c z26) (.c (.int .i64 1)))) (fun z27 => some z27)))) (some (.bool false))))))) (fun z28 => some (z28, z1.2))) (fun z29 => some (.inr z29))))) ([.int
    .i64 0, x0], e))) := by kernel_rfl
theorem run35 (B : KB) {E : Type} (h : Handler E) (dep : Nat) (e : E) (x0 : PV) :
    runK (cfg0 B (fun _ => .cl)) fn35 (.cl) h dep [.cv x0] e =
    chkO (okSls 1 [.str [43], .str [45], .str [195, 151], .str [195, 183], .str [226, 140, 136], .str [226, 140, 138], .str [124], .str [126]]) (bindO (lendO B .cl true 51 [slO 1 1
    [.str [43], .str [45], .str [195, 151], .str [195, 183], .str [226, 140, 136], .str [226, 140, 138], .str [124], .str [126]] 0 (lenL [.str [43], .str [45], .str [195, 151], .str
    [195, 183], .str [226, 140, 136], .str [226, 140, 138], .str [124], .str [126]]), x0]) (fun z1 => some (z1, e))) := by kernel_rfl
theorem run36 (B : KB) {E : Type} (h : Handler E) (dep : Nat) (e : E) (x0 : PV) (x1 : PV) :
    runK (cfg0 B (fun _ => .cl)) fn36 (.cl) h dep [.cv x0, .cv x1] e =
    bindO (callO B .cl (.fn 35 []) [x0]) (fun z1 => bindO (pureO (.un .not (.c z1))) (fun z2 => iteP z2 (some (.tup [.int .i64 0, .int .i64 102], e)) (bindO (pureO (.bin .eql .str true
    (.c x0) (.c (.str [126])))) (fun z3 => iteP z3 (bindO (pureO (.bin .neq .num true (.c x1) (.c (.int .i64 0)))) (fun z4 => iteP z4 (bindO (pureO (.bin .neq .num true (.c x1) (.c
    (.int .i64 1)))) (fun z5 => iteP z5 (some (.tup [.int .i64 0, .int .i64 102], e)) (bindO (pureO (.bin .eql .str true (.c x0) (.c (.str [45])))) (fun z6 => iteP z6 (bindO (callO B
    .cl (.fn 52 []) [.int .i64 0, x1]) (fun z7 => bindO (pureO (.extract 0 (.c z7))) (fun z8 => bindO (pureO (.extract 1 (.c z7))) (fun z9 => some (.tup [z8, z9], e))))) (bindO (pureO
    (.bin .eql .str true (.c x0) (.c (.str [195, 151])))) (fun z10 => iteP z10 (bindO (pureO (.bin .gtr .num true (.c x1) (.c (.int .i64 0)))) (fun z11 => bindO (callO B .cl (.fn 53
    []) [z11]) (fun z12 => bindO (pureO (.bin .lss .num true (.c x1) (.c (.int .i64 0)))) (fun z13 => bindO (callO B .cl (.fn 53 []) [z13]) (fun z14 => bindO (pureO (.bin .sub .num
    false (.c z12) (.c z14))) (fun z15 => some (.tup [z15, .int .i64 0], e))))))) (bindO (pureO (.bin .eql .str true (.c x0) (.c (.str [195, 183])))) (fun z16 => iteP z16 (bindO (callO
    B .cl (.fn 54 []) [.int .i64 1, x1]) (fun z17 => bindO (pureO (.extract 0 (.c z17))) (fun z18 => bindO (pureO (.extract 1 (.c z17))) (fun z19 => some (.tup [z18, z19], e)))))
    (bindO (pureO (.bin .eql .str true (.c x0) (.c (.str [124])))) (fun z20 => iteP z20 (bindO (pureO (.bin .lss .num true (.c x1) (.c (.int .i64 0)))) (fun z21 => iteP z21 (bindO
    (callO B .cl (.fn 52 []) [.int .i64 0, x1]) (fun z22 => bindO (pureO (.extract 0 (.c z22))) (fun z23 => bindO (pureO (.extract 1 (.c z22))) (fun z24 => some (.tup [z23, z24],
    e))))) (some (.tup [x1, .int .i64 0], e)))) (bindO (pureO (.bin .eql .str true (.c x0) (.c (.str [126])))) (fun z25 => iteP z25 (bindO (pureO (.bin .sub .num true (.c (.int .i64
    1)) (.c x1))) (fun z26 => some (.tup [z26, .int .i64 0], e))) (some (.tup [x1, .int .i64 0], e)))))))))))))) (bindO (pureO (.bin .eql .str true (.c x0) (.c (.str [45])))) (fun z27
    => iteP z27 (bindO (callO B .cl (.fn 52 []) [.int .i64 0, x1]) (fun z28 => bindO (pureO (.extract 0 (.c z28))) (fun z29 => bindO (pureO (.extract 1 (.c z28))) (fun z30 => some
    (.tup [z29, z30], e))))) (bindO (pureO (.bin .eql .str true (.c x0) (.c (.str [195, 151])))) (fun z31 => iteP z31 (bindO (pureO (.bin .gtr .num true (.c x1) (.c (.int .i64 0))))
    (fun z32 => bindO (callO B .cl (.fn 53 []) [z32]) (fun z33 => bindO (pureO (.bin .lss .num true (.c x1) (.c (.int .i64 0)))) (fun z34 => bindO (callO B .cl (.fn 53 []) [z34]) (fun
    z35 => bindO (pureO (.bin .sub .num false (.c z33) (.c z35))) (fun z36 => some (.tup [z36, .int .i64 0], e))))))) (bindO (pureO (.bin .eql .str true (.c x0) (.c (.str [195,
    183])))) (fun z37 => iteP z37 (bindO (callO B .cl (.fn 54 []) [.int .i64 1, x1]) (fun z38 => bindO (pureO (.extract 0 (.c z38))) (fun z39 => bindO (pureO (.extract 1 (.c z38)))
    (fun z40 => some (.tup [z39, z40], e))))) (bindO (pureO (.bin .eql .str true (.c x0) (.c (.str [124])))) (fun z41 => iteP z41 (bindO (pureO (.bin .lss .num true (.c x1) (.c (.int
    .i64 0)))) (fun z42 => iteP z42 (bindO (callO B .cl (.fn 52 []) [.int .i64 0, x1]) (fun z43 => bindO (pureO (.extract 0 (.c z43))) (fun z44 => bindO (pureO (.extract 1 (.c z43)))
    (fun z45 => some (.tup [z44, z45], e))))) (some (.tup [x1, .int .i64 0], e)))) (bindO (pureO (.bin .eql .str true (.c x0) (.c (.str [126])))) (fun z46 => iteP z46 (bindO (pureO
    (.bin .sub .num true (.c (.int .i64 1)) (.c x1))) (fun z47 => some (.tup [z47, .int .i64 0], e))) (some (.tup [x1, .int .i64 0], e)))))))))))))) (bindO (pureO (.bin .eql .str true
    (.c x0) (.c (.str [45])))) (fun z48 => iteP z48 (bindO (callO B .cl (.fn 52 []) [.int .i64 0, x1]) (fun z49 => bindO (pureO (.extract 0 (.c z49))) (fun z50 => bindO (pureO
    (.extract 1 (.c z49))) (fun z51 => some (.tup [z50, z51], e))))) (bindO (pureO (.bin .eql .str true (.c x0) (.c (.str [195, 151])))) (fun z52 => iteP z52 (bindO (pureO (.bin .gtr
    .num true (.c x1) (.c (.int .i64 0)))) (fun z53 => bindO (callO B .cl (.fn 53 []) [z53]) (fun z54 => bindO (pureO (.bin .lss .num true (.c x1) (.c (.int .i64 0)))) (fun z55 =>
    bindO (callO B .cl (.fn 53 []) [z55]) (fun z56 => bindO (pureO (.bin .sub .num false (.c z54) (.c z56))) (fun z57 => some (.tup [z57, .int .i64 0], e))))))) (bindO (pureO (.bin
    .eql .str true (.c x0) (.c (.str [195, 183])))) (fun z58 => iteP z58 (bindO (callO B .cl (.fn 54 []) [.int .i64 1, x1]) (fun z59 => bindO (pureO (.extract 0 (.c z59))) (fun z60 =>
    bindO (pureO (.extract 1 (.c z59))) (fun z61 => some (.tup [z60, z61], e))))) (bindO (pureO (.bin .eql .str true (.c x0) (.c (.str [124])))) (fun z62 => iteP z62 (bindO (pureO
    (.bin .lss .num true (.c x1) (.c (.int .i64 0)))) (fun z63 => iteP z63 (bindO (callO B .cl (.fn 52 []) [.int .i64 0, x1]) (fun z64 => bindO (pureO (.extract 0 (.c z64))) (fun z65
    => bindO (pureO (.extract 1 (.c z64))) (fun z66 => some (.tup [z65, z66], e))))) (some (.tup [x1, .int .i64 0], e)))) (bindO (pureO (.bin .eql .str true (.c x0) (.c (.str [126]))))
    (fun z67 => iteP z67 (bindO (pureO (.bin .sub .num true (.c (.int .i64 1)) (.c x1))) (fun z68 => some (.tup [z68, .int .i64 0], e))) (some (.tup [x1, .int .i64 0],
    e)))))))))))))))) := by kernel_rfl
theorem run37 (B : KB) {E : Type} (h : Handler E) (dep : Nat) (e : E) (x0 : PV) :
    runK (cfg0 B (fun _ => .cl)) fn37 (.cl) h dep [.cv x0] e =
    chkO (okSls 1 [.str [43], .str [45], .str [195, 151], .str [195, 183], .str [226, 140, 136], .str [226, 140, 138], .str [124], .str [61], .str [226, 137, 160], .str [60], .str
    [62], .str [226, 137, 164], .str [226, 137, 165], .str [226, 136, 167], .str [226, 136, 168]]) (bindO (lendO B .cl true 51 [slO 1 1 [.str [43], .str [45], .str [195, 151], .str
    [195, 183], .str [226, 140, 136], .str [226, 140, 138], .str [124], .str [61], .str [226, 137, 160], .str [60], .str [62], .str [226, 137, 164], .str [226, 137, 165], .str [226,
    136, 167], .str [226, 136, 168]] 0 (lenL [.str [43], .str [45], .str [195, 151], .str [195, 183], .str [226, 140, 136], .str [226, 140, 138], .str [124], .str [61], .str [226, 137,
    160], .str [60], .str [62], .str [226, 137, 164], .str [226, 137, 165], .str [226, 136, 167], .str [226, 136, 168]]), x0]) (fun z1 => some (z1, e))) := by kernel_rfl
theorem run38 (B : KB) {E : Type} (h : Handler E) (dep : Nat) (e : E) (x0 : PV) (x1 : PV) (x2 : PV) (x3 : PV) :
    runK (cfg0 B (fun _ => .cl)) fn38 (.cl) h dep [.cv x0, .cv x1, .cv x2, .cv x3] e =
    bindO (pureO (.un .not (.c x3))) (fun z1 => iteP z1 (bindO (callO B .cl (.fn 55 []) [x0, .int .i64 0, .int .i64 1]) (fun z2 => bindO (pureO (.extract 0 (.c z2))) (fun z3 => bindO
    (pureO (.extract 1 (.c z2))) (fun z4 => some (.tup [z3, z4], e))))) (bindO (callO B .cl (.fn 55 []) [x0, x1, x2]) (fun z5 => bindO (pureO (.extract 0 (.c z5))) (fun z6 => bindO
    (pureO (.extract 1 (.c z5))) (fun z7 => some (.tup [z6, z7], e)))))) := by kernel_rfl
theorem run39 (B : KB) {E : Type} (h : Handler E) (dep : Nat) (e : E) (x0 : PV) (x1 : PV) :
    runK (cfg0 B (fun _ => .cl)) fn39 (.cl) h dep [.cv x0, .cv x1] e =
    chkO (valO x0) (bindO (selO x0 0 1 false) (fun z1 => bindO (pureO (.un .not (.c z1))) (fun z2 => iteP z2 (bindO (selO x0 2 1 false) (fun z3 => bindO (pureO (.idxAddr 1 (.c z3) (.c
    (.int .i64 0)))) (fun z4 => bindO (pureO (.load 1 false (.c z4))) (fun z5 => some (z5, e))))) (bindO (selO x0 2 1 false) (fun z6 => bindO (pureO (.idxAddr 1 (.c z6) (.c x1))) (fun
    z7 => bindO (pureO (.load 1 false (.c z7))) (fun z8 => some (z8, e)))))))) := by kernel_rfl
theorem run44 (B : KB) {E : Type} (h : Handler E) (dep : Nat) (e : E)  :
    runK (cfg0 B (fun _ => .cl)) fn44 (.cl) h dep [] e =
    bindO (insO .str [] (.str [43]) (.fn 70 [])) (fun z1 => bindO (insO .str z1 (.str [45]) (.fn 71 [])) (fun z2 => bindO (insO .str z2 (.str [195, 151]) (.fn 72 [])) (fun z3 => bindO
    (insO .str z3 (.str [195, 183]) (.fn 73 [])) (fun z4 => bindO (insO .str z4 (.str [124]) (.fn 74 [])) (fun z5 => bindO (insO .str z5 (.str [226, 140, 136]) (.fn 75 [])) (fun z6 =>
    bindO (insO .str z6 (.str [226, 140, 138]) (.fn 76 [])) (fun z7 => chkO (okSls 1 [.str [61], .str [226, 137, 160], .str [60], .str [62], .str [226, 137, 164], .str [226, 137,
    165]]) (chkO (noUndef [nI (lenL [.str [61], .str [226, 137, 160], .str [60], .str [62], .str [226, 137, 164], .str [226, 137, 165]]), nI (lenL [.str [61], .str [226, 137, 160],
    .str [60], .str [62], .str [226, 137, 164], .str [226, 137, 165]]), .int .i64 0]) (loopL (fun z8 => bindO (pureO (.bin .lss .num false (.c (nth z8.1 2)) (.c (nth z8.1 1)))) (fun z9
    => iteP z9 (bindO (natO (nth z8.1 2)) (fun z10 => chkO (ltN z10 (natP (nth z8.1 0))) (bindO (elemO (itemsP (nth z8.1 4)) (addN 0 z10) 0 1 false) (fun z11 => chkO (okCells z11 1)
    (bindO (insO .str (entsP (nth z8.1 3)) (cellP z11 0) (nth [.fn 77 [ptrO [cellP z11 0] 0]] 0)) (fun z12 => bindO (pureO (.bin .add .num true (.c (nth z8.1 2)) (.c (.int .i64 1))))
    (fun z13 => some (.inl ([nI (natP (nth z8.1 0)), nth z8.1 1, z13, .imap z12, .sl 1 (itemsP (nth z8.1 4)) false], z8.2))))))))) (bindO (chkO (okSls 1 [.str [226, 136, 167], .str
    [226, 136, 168]]) (chkO (noUndef [nI (lenL [.str [226, 136, 167], .str [226, 136, 168]]), nI (lenL [.str [226, 136, 167], .str [226, 136, 168]]), .int .i64 0]) (loopL (fun z14 =>
    bindO (pureO (.bin .lss .num false (.c (nth z14.1 2)) (.c (nth z14.1 1)))) (fun z15 => iteP z15 (bindO (natO (nth z14.1 2)) (fun z16 => chkO (ltN z16 (natP (nth z14.1 0))) (bindO
    (elemO (itemsP (nth z14.1 4)) (addN 0 z16) 0 1 false) (fun z17 => chkO (okCells z17 1) (bindO (insO .str (entsP (nth z14.1 3)) (cellP z17 0) (nth [.fn 79 [ptrO [cellP z17 0] 0]]
    0)) (fun z18 => bindO (pureO (.bin .add .num true (.c (nth z14.1 2)) (.c (.int .i64 1)))) (fun z19 => some (.inl ([nI (natP (nth z14.1 0)), nth z14.1 1, z19, .imap z18, .sl 1
    (itemsP (nth z14.1 4)) false], z14.2))))))))) (bindO (chkO (okU (.imap (entsP (nth z14.1 3)))) (some (.imap (entsP (nth z14.1 3)), z14.2))) (fun z20 => some (.inr z20))))) ([nI
    (lenL [.str [226, 136, 167], .str [226, 136, 168]]), nI (lenL [.str [226, 136, 167], .str [226, 136, 168]]), .int .i64 0, .imap (entsP (nth z8.1 3)), .sl 1 [.str [226, 136, 167],
    .str [226, 136, 168]] false], z8.2)))) (fun z21 => some (.inr z21))))) ([nI (lenL [.str [61], .str [226, 137, 160], .str [60], .str [62], .str [226, 137, 164], .str [226, 137,
    165]]), nI (lenL [.str [61], .str [226, 137, 160], .str [60], .str [62], .str [226, 137, 164], .str [226, 137, 165]]), .int .i64 0, .imap z7, .sl 1 [.str [61], .str [226, 137,
    160], .str [60], .str [62], .str [226, 137, 164], .str [226, 137, 165]] false], e)))))))))) := by kernel_rfl
theorem run45 (B : KB) {E : Type} (h : Handler E) (dep : Nat) (e : E) (x0 : Nat) (x1 : PV) (x2 : PV) :
    runK (cfg0 B (fun _ => .cl)) fn45 (.cl) h dep [.yld x0, .cv x1, .cv x2] e =
    bindO (pureO (.load 1 false (.c x1))) (fun z1 => chkO (noUndef [nI x0, x2, z1, .int .i64 0]) (loopL (fun z2 => bindO (pureO (.bin .lss .num false (.c (nth z2.1 3)) (.c (nth z2.1
    2)))) (fun z3 => iteP z3 (bindO (pureO (.fieldAddr 0 (.c (nth z2.1 1)))) (fun z4 => bindO (pureO (.load 3 true (.c z4))) (fun z5 => bindO (callO B .cl (.fn 46 []) [z5, nth z2.1 3])
    (fun z6 => bindO (pureO (.fieldAddr 3 (.c (nth z2.1 1)))) (fun z7 => bindO (pureO (.load 3 true (.c z7))) (fun z8 => bindO (callO B .cl (.fn 46 []) [z8, nth z2.1 3]) (fun z9 =>
    bindO (h (natP (nth z2.1 0)) [z6, z9] z2.2) (fun z10 => bindO (pureO (.un .not (.c (.bool z10.1)))) (fun z11 => iteP z11 (bindO (some (.tup [], z10.2)) (fun z12 => some (.inr
    z12))) (bindO (pureO (.bin .add .num true (.c (nth z2.1 3)) (.c (.int .i64 1)))) (fun z13 => some (.inl ([nI (natP (nth z2.1 0)), nth z2.1 1, nth z2.1 2, z13], z10.2)))))))))))))
    (bindO (some (.tup [], z2.2)) (fun z14 => some (.inr z14))))) ([nI x0, x2, z1, .int .i64 0], e))) := by kernel_rfl
theorem run46 (B : KB) {E : Type} (h : Handler E) (dep : Nat) (e : E) (x0 : PV) (x1 : PV) :
    runK (cfg0 B (fun _ => .cl)) fn46 (.cl) h dep [.cv x0, .cv x1] e =
    chkO (valO x0) (bindO (selO x0 0 1 false) (fun z1 => iteP z1 (bindO (selO x0 2 1 false) (fun z2 => bindO (pureO (.idxAddr 1 (.c z2) (.c x1))) (fun z3 => bindO (pureO (.load 1 false
    (.c z3))) (fun z4 => some (z4, e))))) (bindO (selO x0 2 1 false) (fun z5 => bindO (pureO (.idxAddr 1 (.c z5) (.c (.int .i64 0)))) (fun z6 => bindO (pureO (.load 1 false (.c z6)))
    (fun z7 => some (z7, e))))))) := by kernel_rfl
theorem run47 (B : KB) {E : Type} (h : Handler E) (dep : Nat) (e : E) (x0 : PV) :
    runK (cfg0 B (fun _ => .cl)) fn47 (.cl) h dep [.cv x0] e =
    bindO (pureO (.load 1 false (.c (.ptr [.glob 1 175] 0)))) (fun z1 => bindO (callO B .cl (.fn 81 []) [x0, z1]) (fun z2 => iteP z2 (some (.int .i64 100, e)) (bindO (pureO (.load 1
    false (.c (.ptr [.glob 2 175] 0)))) (fun z3 => bindO (callO B .cl (.fn 81 []) [x0, z3]) (fun z4 => iteP z4 (some (.int .i64 101, e)) (chkO (eqN 1 1) (asP 73 x0 (fun z5 => chkO
    (okCells z5 1) (some (.int .i64 102, e))) (some (.int .i64 0, e))))))))) := by kernel_rfl
theorem run48 (B : KB) {E : Type} (h : Handler E) (dep : Nat) (e : E) (x0 : PV) (x1 : PV) :
    runK (cfg0 B (fun _ => .cl)) fn48 (.cl) h dep [.cv x0, .cv x1] e =
    bindO (pureO (.len .slice (.c x0))) (fun z1 => chkO (noUndef [x0, x1, z1, .int .i64 0]) (loopL (fun z2 => bindO (pureO (.bin .lss .num false (.c (nth z2.1 3)) (.c (nth z2.1 2))))
    (fun z3 => iteP z3 (bindO (pureO (.idxAddr 1 (.c (nth z2.1 0)) (.c (nth z2.1 3)))) (fun z4 => bindO (pureO (.load 1 false (.c z4))) (fun z5 => bindO (callO B .cl (nth z2.1 1) [z5])
    (fun z6 => iteP z6 (bindO (some (nth z2.1 3, z2.2)) (fun z7 => some (.inr z7))) (bindO (pureO (.bin .add .num true (.c (nth z2.1 3)) (.c (.int .i64 1)))) (fun z8 => some (.inl
    ([nth z2.1 0, nth z2.1 1, nth z2.1 2, z8], z2.2)))))))) (bindO (some (.int .i64 (-1), z2.2)) (fun z9 => some (.inr z9))))) ([x0, x1, z1, .int .i64 0], e))) := by kernel_rfl
theorem run49 (B : KB) {E : Type} (h : Handler E) (dep : Nat) (e : E)  :
    runK (cfg0 B (fun _ => .cl)) fn49 (.cl) h dep [] e =
    bindO (insO .str [] (.str [43]) (.fn 82 [])) (fun z1 => bindO (insO .str z1 (.str [226, 140, 136]) (.fn 82 [])) (fun z2 => bindO (insO .str z2 (.str [226, 140, 138]) (.fn 82 []))
    (fun z3 => bindO (insO .str z3 (.str [45]) (.fn 83 [])) (fun z4 => bindO (insO .str z4 (.str [195, 151]) (.fn 84 [])) (fun z5 => bindO (insO .str z5 (.str [195, 183]) (.fn 86 []))
    (fun z6 => bindO (insO .str z6 (.str [126]) (.fn 87 [])) (fun z7 => bindO (insO .str z7 (.str [124]) (nth [.fn 89 [ptrO [.fn 83 []] 0]] 0)) (fun z8 => chkO (okU (.imap z8)) (some
    (.imap z8, e)))))))))) := by kernel_rfl
theorem run50 (B : KB) {E : Type} (h : Handler E) (dep : Nat) (e : E) (x0 : PV) :
    runK (cfg0 B (fun _ => .cl)) fn50 (.cl) h dep [.cv x0] e =
    bindO (bindO (pureO (.bin .geq .num true (.c x0) (.c (.int .i64 0)))) (fun z1 => iteP z1 (bindO (pureO (.bin .leq .num true (.c x0) (.c (.int .i64 1114111)))) (fun z2 => iteP z2
    (bindO (pureO (.bin .lss .num true (.c x0) (.c (.int .i64 55296)))) (fun z3 => iteP z3 (some (.bool true)) (bindO (pureO (.bin .gtr .num true (.c x0) (.c (.int .i64 57343)))) (fun
    z4 => some z4)))) (some (.bool false)))) (some (.bool false)))) (fun z5 => some (z5, e)) := by kernel_rfl
theorem run51 (B : KB) {E : Type} (h : Handler E) (dep : Nat) (e : E) (x0 : PV) (x1 : PV) :
    runK (cfg0 B (fun _ => .cl)) fn51 (.cl) h dep [.cv x0, .cv x1] e =
    chkO (noUndef [x0, x1, .int .i64 0]) (loopL (fun z1 => bindO (pureO (.len .slice (.c (nth z1.1 0)))) (fun z2 => bindO (pureO (.bin .lss .num false (.c (nth z1.1 2)) (.c z2))) (fun
    z3 => iteP z3 (bindO (pureO (.idxAddr 1 (.c (nth z1.1 0)) (.c (nth z1.1 2)))) (fun z4 => bindO (pureO (.load 1 false (.c z4))) (fun z5 => bindO (pureO (.bin .eql .str false (.c z5)
    (.c (nth z1.1 1)))) (fun z6 => iteP z6 (bindO (some (.bool true, z1.2)) (fun z7 => some (.inr z7))) (bindO (pureO (.bin .add .num true (.c (nth z1.1 2)) (.c (.int .i64 1)))) (fun
    z8 => some (.inl ([nth z1.1 0, nth z1.1 1, z8], z1.2)))))))) (bindO (some (.bool false, z1.2)) (fun z9 => some (.inr z9)))))) ([x0, x1, .int .i64 0], e)) := by kernel_rfl
theorem run52 (B : KB) {E : Type} (h : Handler E) (dep : Nat) (e : E) (x0 : PV) (x1 : PV) :
    runK (cfg0 B (fun _ => .cl)) fn52 (.cl) h dep [.cv x0, .cv x1] e =
    bindO (pureO (.bin .sub .num false (.c x0) (.c x1))) (fun z1 => bindO (bindO (pureO (.bin .geq .num true (.c x0) (.c (.int .i64 0)))) (fun z2 => iteP z2 (bindO (pureO (.bin .lss
    .num true (.c x1) (.c (.int .i64 0)))) (fun z3 => iteP z3 (bindO (pureO (.bin .lss .num true (.c z1) (.c (.int .i64 0)))) (fun z4 => iteP z4 (some (.bool true)) (bindO (pureO (.bin
    .lss .num true (.c x0) (.c (.int .i64 0)))) (fun z5 => iteP z5 (bindO (pureO (.bin .gtr .num true (.c x1) (.c (.int .i64 0)))) (fun z6 => iteP z6 (bindO (pureO (.bin .geq .num true
    (.c z1) (.c (.int .i64 0)))) (fun z7 => some z7)) (some (.bool false)))) (some (.bool false)))))) (bindO (pureO (.bin .lss .num true (.c x0) (.c (.int .i64 0)))) (fun z8 => iteP z8
    (bindO (pureO (.bin .gtr .num true (.c x1) (.c (.int .i64 0)))) (fun z9 => iteP z9 (bindO (pureO (.bin .geq .num true (.c z1) (.c (.int .i64 0)))) (fun z10 => some z10)) (some
    (.bool false)))) (some (.bool false)))))) (bindO (pureO (.bin .lss .num true (.c x0) (.c (.int .i64 0)))) (fun z11 => iteP z11 (bindO (pureO (.bin .gtr .num true (.c x1) (.c (.int
    .i64 0)))) (fun z12 => iteP z12 (bindO (pureO (.bin .geq .num true (.c z1) (.c (.int .i64 0)))) (fun z13 => some z13)) (some (.bool false)))) (some (.bool false)))))) (fun z14 =>
    iteP z14 (some (.tup [.int .i64 0, .int .i64 100], e)) (some (.tup [z1, .int .i64 0], e)))) := by kernel_rfl
theorem run53 (B : KB) {E : Type} (h : Handler E) (dep : Nat) (e : E) (x0 : PV) :
    runK (cfg0 B (fun _ => .cl)) fn53 (.cl) h dep [.cv x0] e =
    iteP x0 (some (.int .i64 1, e)) (some (.int .i64 0, e)) := by kernel_rfl
theorem run54 (B : KB) {E : Type} (h : Handler E) (dep : Nat) (e : E) (x0 : PV) (x1 : PV) :
    runK (cfg0 B (fun _ => .cl)) fn54 (.cl) h dep [.cv x0, .cv x1] e =
    bindO (bindO (pureO (.bin .eql .num true (.c x1) (.c (.int .i64 0)))) (fun z1 => iteP z1 (bindO (pureO (.bin .eql .num true (.c x0) (.c (.int .i64 0)))) (fun z2 => some z2)) (some
    (.bool false)))) (fun z3 => iteP z3 (some (.tup [.int .i64 1, .int .i64 0], e)) (bindO (pureO (.bin .eql .num true (.c x1) (.c (.int .i64 0)))) (fun z4 => iteP z4 (some (.tup [.int
    .i64 0, .int .i64 101], e)) (bindO (callO B .cl (.fn 90 []) []) (fun z5 => bindO (pureO (.bin .eql .num false (.c x0) (.c z5))) (fun z6 => iteP z6 (bindO (pureO (.bin .eql .num
    true (.c x1) (.c (.int .i64 (-1))))) (fun z7 => iteP z7 (some (.tup [.int .i64 0, .int .i64 100], e)) (bindO (pureO (.bin .rem .num false (.c x0) (.c x1))) (fun z8 => bindO (pureO
    (.bin .neq .num true (.c z8) (.c (.int .i64 0)))) (fun z9 => iteP z9 (some (.tup [.int .i64 0, .int .i64 101], e)) (bindO (pureO (.bin .quo .num false (.c x0) (.c x1))) (fun z10 =>
    some (.tup [z10, .int .i64 0], e)))))))) (bindO (pureO (.bin .rem .num false (.c x0) (.c x1))) (fun z11 => bindO (pureO (.bin .neq .num true (.c z11) (.c (.int .i64 0)))) (fun z12
    => iteP z12 (some (.tup [.int .i64 0, .int .i64 101], e)) (bindO (pureO (.bin .quo .num false (.c x0) (.c x1))) (fun z13 => some (.tup [z13, .int .i64 0], e)))))))))))) := by kernel_rfl
theorem run55 (B : KB) {E : Type} (h : Handler E) (dep : Nat) (e : E) (x0 : PV) (x1 : PV) (x2 : PV) :
    runK (cfg0 B (fun _ => .cl)) fn55 (.cl) h dep [.cv x0, .cv x1, .cv x2] e =
    bindO (callO B .cl (.fn 37 []) [x0]) (fun z1 => bindO (pureO (.un .not (.c z1))) (fun z2 => iteP z2 (some (.tup [.int .i64 0, .int .i64 102], e)) (bindO (bindO (pureO (.bin .geq
    .num true (.c x1) (.c (.int .i64 0)))) (fun z3 => iteP z3 (bindO (pureO (.bin .leq .num true (.c x1) (.c (.int .i64 1)))) (fun z4 => iteP z4 (bindO (pureO (.bin .geq .num true (.c
    x2) (.c (.int .i64 0)))) (fun z5 => iteP z5 (bindO (pureO (.bin .leq .num true (.c x2) (.c (.int .i64 1)))) (fun z6 => some z6)) (some (.bool false)))) (some (.bool false)))) (some
    (.bool false)))) (fun z7 => bindO (pureO (.bin .eql .str true (.c x0) (.c (.str [43])))) (fun z8 => iteP z8 (bindO (callO B .cl (.fn 91 []) [x1, x2]) (fun z9 => bindO (pureO
    (.extract 0 (.c z9))) (fun z10 => bindO (pureO (.extract 1 (.c z9))) (fun z11 => some (.tup [z10, z11], e))))) (bindO (pureO (.bin .eql .str true (.c x0) (.c (.str [45])))) (fun
    z12 => iteP z12 (bindO (callO B .cl (.fn 52 []) [x1, x2]) (fun z13 => bindO (pureO (.extract 0 (.c z13))) (fun z14 => bindO (pureO (.extract 1 (.c z13))) (fun z15 => some (.tup
    [z14, z15], e))))) (bindO (pureO (.bin .eql .str true (.c x0) (.c (.str [195, 151])))) (fun z16 => iteP z16 (bindO (callO B .cl (.fn 92 []) [x1, x2]) (fun z17 => bindO (pureO
    (.extract 0 (.c z17))) (fun z18 => bindO (pureO (.extract 1 (.c z17))) (fun z19 => some (.tup [z18, z19], e))))) (bindO (pureO (.bin .eql .str true (.c x0) (.c (.str [195, 183]))))
    (fun z20 => iteP z20 (bindO (callO B .cl (.fn 54 []) [x1, x2]) (fun z21 => bindO (pureO (.extract 0 (.c z21))) (fun z22 => bindO (pureO (.extract 1 (.c z21))) (fun z23 => some
    (.tup [z22, z23], e))))) (bindO (pureO (.bin .eql .str true (.c x0) (.c (.str [226, 140, 136])))) (fun z24 => iteP z24 (bindO (pureO (.minmax true [.c x1, .c x2])) (fun z25 => some
    (.tup [z25, .int .i64 0], e))) (bindO (pureO (.bin .eql .str true (.c x0) (.c (.str [226, 140, 138])))) (fun z26 => iteP z26 (bindO (pureO (.minmax false [.c x1, .c x2])) (fun z27
    => some (.tup [z27, .int .i64 0], e))) (bindO (pureO (.bin .eql .str true (.c x0) (.c (.str [124])))) (fun z28 => iteP z28 (bindO (callO B .cl (.fn 93 []) [x1, x2]) (fun z29 =>
    some (.tup [z29, .int .i64 0], e))) (bindO (pureO (.bin .eql .str true (.c x0) (.c (.str [226, 136, 167])))) (fun z30 => iteP z30 (iteP z30 (bindO (pureO (.un .not (.c z7))) (fun
    z31 => iteP z31 (some (.tup [.int .i64 0, .int .i64 102], e)) (bindO (pureO (.bin .eql .str true (.c x0) (.c (.str [226, 136, 167])))) (fun z32 => iteP z32 (bindO (pureO (.minmax
    false [.c x1, .c x2])) (fun z33 => some (.tup [z33, .int .i64 0], e))) (bindO (pureO (.minmax true [.c x1, .c x2])) (fun z34 => some (.tup [z34, .int .i64 0], e))))))) (bindO
    (callO B .cl (.fn 94 []) [x0, x1, x2]) (fun z35 => some (.tup [z35, .int .i64 0], e)))) (bindO (pureO (.bin .eql .str true (.c x0) (.c (.str [226, 136, 168])))) (fun z36 => iteP
    z36 (bindO (pureO (.un .not (.c z7))) (fun z37 => iteP z37 (some (.tup [.int .i64 0, .int .i64 102], e)) (bindO (pureO (.bin .eql .str true (.c x0) (.c (.str [226, 136, 167]))))
    (fun z38 => iteP z38 (bindO (pureO (.minmax false [.c x1, .c x2])) (fun z39 => some (.tup [z39, .int .i64 0], e))) (bindO (pureO (.minmax true [.c x1, .c x2])) (fun z40 => some
    (.tup [z40, .int .i64 0], e))))))) (bindO (callO B .cl (.fn 94 []) [x0, x1, x2]) (fun z41 => some (.tup [z41, .int .i64 0], e)))))))))))))))))))))))) := by kernel_rfl
theorem run70 (B : KB) {E : Type} (h : Handler E) (dep : Nat) (e : E) (x0 : PV) :
    runK (cfg0 B (fun _ => .cl)) fn70 (.cl) h dep [.cv x0] e =
    chkO (valO x0) (bindO (selO x0 0 1 false) (fun z1 => bindO (selO x0 1 1 false) (fun z2 => bindO (pureO (.bin .add .num false (.c z1) (.c z2))) (fun z3 => bindO (pureO (.load 1
    false (.c (.ptr [.glob 1 175] 0)))) (fun z4 => bindO (selO x0 0 1 false) (fun z5 => bindO (pureO (.bin .lss .num true (.c z5) (.c (.int .i64 0)))) (fun z6 => bindO (selO x0 1 1
    false) (fun z7 => bindO (pureO (.bin .lss .num true (.c z7) (.c (.int .i64 0)))) (fun z8 => bindO (pureO (.bin .neq .bool false (.c z6) (.c z8))) (fun z9 => iteP z9 (chkO (okSls 1
    [.bool true]) (bindO (lendO B .cl false 88 [z3, z4, slO 1 1 [.bool true] 0 (lenL [.bool true])]) (fun z10 => bindO (pureO (.extract 0 (.c z10))) (fun z11 => bindO (pureO (.extract
    1 (.c z10))) (fun z12 => some (.tup [z11, z12], e)))))) (bindO (pureO (.bin .lss .num true (.c z3) (.c (.int .i64 0)))) (fun z13 => bindO (selO x0 0 1 false) (fun z14 => bindO
    (pureO (.bin .lss .num true (.c z14) (.c (.int .i64 0)))) (fun z15 => bindO (pureO (.bin .eql .bool false (.c z13) (.c z15))) (fun z16 => chkO (okSls 1 [z16]) (bindO (lendO B .cl
    false 88 [z3, z4, slO 1 1 [z16] 0 (lenL [z16])]) (fun z17 => bindO (pureO (.extract 0 (.c z17))) (fun z18 => bindO (pureO (.extract 1 (.c z17))) (fun z19 => some (.tup [z18, z19],
    e)))))))))))))))))))) := by kernel_rfl
theorem run71 (B : KB) {E : Type} (h : Handler E) (dep : Nat) (e : E) (x0 : PV) :
    runK (cfg0 B (fun _ => .cl)) fn71 (.cl) h dep [.cv x0] e =
    chkO (valO x0) (bindO (selO x0 0 1 false) (fun z1 => bindO (selO x0 1 1 false) (fun z2 => bindO (pureO (.bin .sub .num false (.c z1) (.c z2))) (fun z3 => bindO (pureO (.load 1
    false (.c (.ptr [.glob 1 175] 0)))) (fun z4 => bindO (selO x0 0 1 false) (fun z5 => bindO (pureO (.bin .lss .num true (.c z5) (.c (.int .i64 0)))) (fun z6 => bindO (selO x0 1 1
    false) (fun z7 => bindO (pureO (.bin .lss .num true (.c z7) (.c (.int .i64 0)))) (fun z8 => bindO (pureO (.bin .eql .bool false (.c z6) (.c z8))) (fun z9 => iteP z9 (chkO (okSls 1
    [.bool true]) (bindO (lendO B .cl false 88 [z3, z4, slO 1 1 [.bool true] 0 (lenL [.bool true])]) (fun z10 => bindO (pureO (.extract 0 (.c z10))) (fun z11 => bindO (pureO (.extract
    1 (.c z10))) (fun z12 => some (.tup [z11, z12], e)))))) (bindO (pureO (.bin .lss .num true (.c z3) (.c (.int .i64 0)))) (fun z13 => bindO (selO x0 0 1 false) (fun z14 => bindO
    (pureO (.bin .lss .num true (.c z14) (.c (.int .i64 0)))) (fun z15 => bindO (pureO (.bin .eql .bool false (.c z13) (.c z15))) (fun z16 => chkO (okSls 1 [z16]) (bindO (lendO B .cl
    false 88 [z3, z4, slO 1 1 [z16] 0 (lenL [z16])]) (fun z17 => bindO (pureO (.extract 0 (.c z17))) (fun z18 => bindO (pureO (.extract 1 (.c z17))) (fun z19 => some (.tup [z18, z19],
    e)))))))))))))))))))) := by kernel_rfl
theorem run72 (B : KB) {E : Type} (h : Handler E) (dep : Nat) (e : E) (x0 : PV) :
    runK (cfg0 B (fun _ => .cl)) fn72 (.cl) h dep [.cv x0] e =
    chkO (valO x0) (bindO (selO x0 0 1 false) (fun z1 => bindO (callO B .cl (.fn 111 []) [z1]) (fun z2 => bindO (selO x0 1 1 false) (fun z3 => bindO (callO B .cl (.fn 111 []) [z3])
    (fun z4 => bindO (callO B .cl (.fn 110 []) [z2, z4]) (fun z5 => bindO (pureO (.extract 0 (.c z5))) (fun z6 => bindO (pureO (.extract 1 (.c z5))) (fun z7 => bindO (selO x0 0 1
    false) (fun z8 => bindO (pureO (.bin .lss .num true (.c z8) (.c (.int .i64 0)))) (fun z9 => bindO (selO x0 1 1 false) (fun z10 => bindO (pureO (.bin .lss .num true (.c z10) (.c
    (.int .i64 0)))) (fun z11 => bindO (pureO (.bin .neq .bool false (.c z9) (.c z11))) (fun z12 => bindO (pureO (.conv .i64 (.c z7))) (fun z13 => iteP z12 (bindO (pureO (.un .neg (.c
    z13))) (fun z14 => bindO (pureO (.load 1 false (.c (.ptr [.glob 1 175] 0)))) (fun z15 => bindO (pureO (.bin .eql .num true (.c z6) (.c (.int .u64 0)))) (fun z16 => bindO (pureO
    (.bin .leq .num true (.c z7) (.c (.int .u64 9223372036854775807)))) (fun z17 => iteP z17 (chkO (okSls 1 [z16, .bool true]) (bindO (lendO B .cl false 88 [z14, z15, slO 1 1 [z16,
    .bool true] 0 (lenL [z16, .bool true])]) (fun z18 => bindO (pureO (.extract 0 (.c z18))) (fun z19 => bindO (pureO (.extract 1 (.c z18))) (fun z20 => some (.tup [z19, z20], e))))))
    (iteP z12 (bindO (pureO (.bin .eql .num true (.c z7) (.c (.int .u64 9223372036854775808)))) (fun z21 => chkO (okSls 1 [z16, z21]) (bindO (lendO B .cl false 88 [z14, z15, slO 1 1
    [z16, z21] 0 (lenL [z16, z21])]) (fun z22 => bindO (pureO (.extract 0 (.c z22))) (fun z23 => bindO (pureO (.extract 1 (.c z22))) (fun z24 => some (.tup [z23, z24], e))))))) (chkO
    (okSls 1 [z16, .bool false]) (bindO (lendO B .cl false 88 [z14, z15, slO 1 1 [z16, .bool false] 0 (lenL [z16, .bool false])]) (fun z25 => bindO (pureO (.extract 0 (.c z25))) (fun
    z26 => bindO (pureO (.extract 1 (.c z25))) (fun z27 => some (.tup [z26, z27], e)))))))))))) (bindO (pureO (.load 1 false (.c (.ptr [.glob 1 175] 0)))) (fun z28 => bindO (pureO
    (.bin .eql .num true (.c z6) (.c (.int .u64 0)))) (fun z29 => bindO (pureO (.bin .leq .num true (.c z7) (.c (.int .u64 9223372036854775807)))) (fun z30 => iteP z30 (chkO (okSls 1
    [z29, .bool true]) (bindO (lendO B .cl false 88 [z13, z28, slO 1 1 [z29, .bool true] 0 (lenL [z29, .bool true])]) (fun z31 => bindO (pureO (.extract 0 (.c z31))) (fun z32 => bindO
    (pureO (.extract 1 (.c z31))) (fun z33 => some (.tup [z32, z33], e)))))) (iteP z12 (bindO (pureO (.bin .eql .num true (.c z7) (.c (.int .u64 9223372036854775808)))) (fun z34 =>
    chkO (okSls 1 [z29, z34]) (bindO (lendO B .cl false 88 [z13, z28, slO 1 1 [z29, z34] 0 (lenL [z29, z34])]) (fun z35 => bindO (pureO (.extract 0 (.c z35))) (fun z36 => bindO (pureO
    (.extract 1 (.c z35))) (fun z37 => some (.tup [z36, z37], e))))))) (chkO (okSls 1 [z29, .bool false]) (bindO (lendO B .cl false 88 [z13, z28, slO 1 1 [z29, .bool false] 0 (lenL
    [z29, .bool false])]) (fun z38 => bindO (pureO (.extract 0 (.c z38))) (fun z39 => bindO (pureO (.extract 1 (.c z38))) (fun z40 => some (.tup [z39, z40], e))))))))))))))))))))))))) := by kernel_rfl
theorem run73 (B : KB) {E : Type} (h : Handler E) (dep : Nat) (e : E) (x0 : PV) :
    runK (cfg0 B (fun _ => .cl)) fn73 (.cl) h dep [.cv x0] e =
    chkO (valO x0) (bindO (selO x0 1 1 false) (fun z1 => bindO (pureO (.bin .eql .num true (.c z1) (.c (.int .i64 0)))) (fun z2 => iteP z2 (bindO (pureO (.load 1 false (.c (.ptr [.glob
    2 175] 0)))) (fun z3 => bindO (selO x0 0 1 false) (fun z4 => bindO (pureO (.bin .eql .num true (.c z4) (.c (.int .i64 0)))) (fun z5 => chkO (okSls 1 [z5]) (bindO (lendO B .cl false
    88 [.int .i64 1, z3, slO 1 1 [z5] 0 (lenL [z5])]) (fun z6 => bindO (pureO (.extract 0 (.c z6))) (fun z7 => bindO (pureO (.extract 1 (.c z6))) (fun z8 => some (.tup [z7, z8],
    e))))))))) (bindO (selO x0 1 1 false) (fun z9 => bindO (pureO (.bin .eql .num true (.c z9) (.c (.int .i64 (-1))))) (fun z10 => iteP z10 (bindO (selO x0 0 1 false) (fun z11 => bindO
    (pureO (.un .neg (.c z11))) (fun z12 => bindO (pureO (.load 1 false (.c (.ptr [.glob 1 175] 0)))) (fun z13 => bindO (selO x0 0 1 false) (fun z14 => bindO (pureO (.bin .neq .num
    true (.c z14) (.c (.int .i64 (-9223372036854775808))))) (fun z15 => chkO (okSls 1 [z15]) (bindO (lendO B .cl false 88 [z12, z13, slO 1 1 [z15] 0 (lenL [z15])]) (fun z16 => bindO
    (pureO (.extract 0 (.c z16))) (fun z17 => bindO (pureO (.extract 1 (.c z16))) (fun z18 => some (.tup [z17, z18], e))))))))))) (bindO (selO x0 0 1 false) (fun z19 => bindO (selO x0
    1 1 false) (fun z20 => bindO (pureO (.bin .quo .num false (.c z19) (.c z20))) (fun z21 => bindO (pureO (.load 1 false (.c (.ptr [.glob 2 175] 0)))) (fun z22 => bindO (selO x0 0 1
    false) (fun z23 => bindO (selO x0 1 1 false) (fun z24 => bindO (pureO (.bin .rem .num false (.c z23) (.c z24))) (fun z25 => bindO (pureO (.bin .eql .num true (.c z25) (.c (.int
    .i64 0)))) (fun z26 => chkO (okSls 1 [z26]) (bindO (lendO B .cl false 88 [z21, z22, slO 1 1 [z26] 0 (lenL [z26])]) (fun z27 => bindO (pureO (.extract 0 (.c z27))) (fun z28 => bindO
    (pureO (.extract 1 (.c z27))) (fun z29 => some (.tup [z28, z29], e)))))))))))))))))))) := by kernel_rfl
theorem run74 (B : KB) {E : Type} (h : Handler E) (dep : Nat) (e : E) (x0 : PV) :
    runK (cfg0 B (fun _ => .cl)) fn74 (.cl) h dep [.cv x0] e =
    chkO (valO x0) (bindO (selO x0 0 1 false) (fun z1 => bindO (pureO (.bin .eql .num true (.c z1) (.c (.int .i64 0)))) (fun z2 => iteP z2 (bindO (selO x0 1 1 false) (fun z3 => some
    (.tup [z3, .nilI], e))) (bindO (selO x0 0 1 false) (fun z4 => bindO (pureO (.bin .eql .num true (.c z4) (.c (.int .i64 (-1))))) (fun z5 => iteP z5 (some (.tup [.int .i64 0, .nilI],
    e)) (bindO (selO x0 1 1 false) (fun z6 => bindO (selO x0 0 1 false) (fun z7 => bindO (pureO (.bin .rem .num false (.c z6) (.c z7))) (fun z8 => chkO (noUndef [z8, .int .i64 0])
    (loopL (fun z9 => bindO (pureO (.bin .lss .num true (.c (nth z9.1 1)) (.c (.int .i64 1)))) (fun z10 => iteP z10 (bindO (bindO (pureO (.bin .eql .num true (.c (nth z9.1 0)) (.c
    (.int .i64 0)))) (fun z11 => iteP z11 (some (.bool true)) (bindO (pureO (.bin .lss .num true (.c (nth z9.1 0)) (.c (.int .i64 0)))) (fun z12 => bindO (selO (nth z9.1 2) 0 1 false)
    (fun z13 => bindO (pureO (.bin .lss .num true (.c z13) (.c (.int .i64 0)))) (fun z14 => bindO (pureO (.bin .eql .bool false (.c z12) (.c z14))) (fun z15 => some z15))))))) (fun z16
    => iteP z16 (bindO (some (.tup [nth z9.1 0, .nilI], z9.2)) (fun z17 => some (.inr z17))) (bindO (selO (nth z9.1 2) 0 1 false) (fun z18 => bindO (pureO (.bin .add .num false (.c
    (nth z9.1 0)) (.c z18))) (fun z19 => bindO (pureO (.bin .add .num true (.c (nth z9.1 1)) (.c (.int .i64 1)))) (fun z20 => some (.inl ([z19, z20, nth z9.1 2], z9.2)))))))) (bindO
    (some (.tup [nth z9.1 0, .nilI], z9.2)) (fun z21 => some (.inr z21))))) ([z8, .int .i64 0, x0], e)))))))))))) := by kernel_rfl
theorem run75 (B : KB) {E : Type} (h : Handler E) (dep : Nat) (e : E) (x0 : PV) :
    runK (cfg0 B (fun _ => .cl)) fn75 (.cl) h dep [.cv x0] e =
    chkO (valO x0) (bindO (selO x0 0 1 false) (fun z1 => bindO (selO x0 1 1 false) (fun z2 => bindO (pureO (.minmax true [.c z1, .c z2])) (fun z3 => some (.tup [z3, .nilI], e))))) := by kernel_rfl
theorem run76 (B : KB) {E : Type} (h : Handler E) (dep : Nat) (e : E) (x0 : PV) :
    runK (cfg0 B (fun _ => .cl)) fn76 (.cl) h dep [.cv x0] e =
    chkO (valO x0) (bindO (selO x0 0 1 false) (fun z1 => bindO (selO x0 1 1 false) (fun z2 => bindO (pureO (.minmax false [.c z1, .c z2])) (fun z3 => some (.tup [z3, .nilI], e))))) := by kernel_rfl
theorem run77 (B : KB) {E : Type} (h : Handler E) (dep : Nat) (e : E) (x0 : PV) (x1 : PV) :
    runK (cfg0 B (fun _ => .cl)) fn77 (.cl) h dep [.cv x0, .cv x1] e =
    chkO (valO x0) (bindO (selO x0 0 2 true) (fun z1 => bindO (pureO (.load 1 false (.c x1))) (fun z2 => bindO (callO B .cl (.fn 78 []) [z1, z2]) (fun z3 => bindO (pureO (.extract 0
    (.c z3))) (fun z4 => bindO (pureO (.extract 1 (.c z3))) (fun z5 => some (.tup [z4, z5], e))))))) := by kernel_rfl
theorem run78 (B : KB) {E : Type} (h : Handler E) (dep : Nat) (e : E) (x0 : PV) (x1 : PV) :
    runK (cfg0 B (fun _ => .cl)) fn78 (.cl) h dep [.cv x0, .cv x1] e =
    chkO (valO x0) (bindO (pureO (.bin .eql .str true (.c x1) (.c (.str [226, 137, 160])))) (fun z1 => iteP z1 (bindO (selO x0 0 1 false) (fun z2 => bindO (selO x0 1 1 false) (fun z3
    => bindO (pureO (.bin .neq .num false (.c z2) (.c z3))) (fun z4 => bindO (callO B .cl (.fn 85 []) [z4]) (fun z5 => some (.tup [z5, .nilI], e)))))) (bindO (pureO (.bin .eql .str
    true (.c x1) (.c (.str [226, 137, 164])))) (fun z6 => iteP z6 (bindO (selO x0 0 1 false) (fun z7 => bindO (selO x0 1 1 false) (fun z8 => bindO (pureO (.bin .eql .num false (.c z7)
    (.c z8))) (fun z9 => bindO (callO B .cl (.fn 85 []) [z9]) (fun z10 => bindO (selO x0 0 1 false) (fun z11 => bindO (selO x0 1 1 false) (fun z12 => bindO (pureO (.bin .lss .num false
    (.c z11) (.c z12))) (fun z13 => bindO (callO B .cl (.fn 85 []) [z13]) (fun z14 => bindO (pureO (.bin .or .num false (.c z10) (.c z14))) (fun z15 => some (.tup [z15, .nilI],
    e))))))))))) (bindO (pureO (.bin .eql .str true (.c x1) (.c (.str [60])))) (fun z16 => iteP z16 (bindO (selO x0 0 1 false) (fun z17 => bindO (selO x0 1 1 false) (fun z18 => bindO
    (pureO (.bin .lss .num false (.c z17) (.c z18))) (fun z19 => bindO (callO B .cl (.fn 85 []) [z19]) (fun z20 => bindO (pureO (.bin .or .num false (.c (.int .i64 0)) (.c z20))) (fun
    z21 => some (.tup [z21, .nilI], e))))))) (bindO (pureO (.bin .eql .str true (.c x1) (.c (.str [61])))) (fun z22 => iteP z22 (iteP z22 (bindO (selO x0 0 1 false) (fun z23 => bindO
    (selO x0 1 1 false) (fun z24 => bindO (pureO (.bin .eql .num false (.c z23) (.c z24))) (fun z25 => bindO (callO B .cl (.fn 85 []) [z25]) (fun z26 => bindO (pureO (.bin .eql .str
    true (.c x1) (.c (.str [61])))) (fun z27 => iteP z27 (some (.tup [z26, .nilI], e)) (bindO (selO x0 0 1 false) (fun z28 => bindO (selO x0 1 1 false) (fun z29 => bindO (pureO (.bin
    .gtr .num false (.c z28) (.c z29))) (fun z30 => bindO (callO B .cl (.fn 85 []) [z30]) (fun z31 => bindO (pureO (.bin .or .num false (.c z26) (.c z31))) (fun z32 => some (.tup [z32,
    .nilI], e))))))))))))) (bindO (pureO (.bin .eql .str true (.c x1) (.c (.str [62])))) (fun z33 => iteP z33 (bindO (selO x0 0 1 false) (fun z34 => bindO (selO x0 1 1 false) (fun z35
    => bindO (pureO (.bin .gtr .num false (.c z34) (.c z35))) (fun z36 => bindO (callO B .cl (.fn 85 []) [z36]) (fun z37 => bindO (pureO (.bin .or .num false (.c (.int .i64 0)) (.c
    z37))) (fun z38 => some (.tup [z38, .nilI], e))))))) (some (.tup [.int .i64 0, .nilI], e))))) (bindO (pureO (.bin .eql .str true (.c x1) (.c (.str [226, 137, 165])))) (fun z39 =>
    iteP z39 (bindO (selO x0 0 1 false) (fun z40 => bindO (selO x0 1 1 false) (fun z41 => bindO (pureO (.bin .eql .num false (.c z40) (.c z41))) (fun z42 => bindO (callO B .cl (.fn 85
    []) [z42]) (fun z43 => bindO (pureO (.bin .eql .str true (.c x1) (.c (.str [61])))) (fun z44 => iteP z44 (some (.tup [z43, .nilI], e)) (bindO (selO x0 0 1 false) (fun z45 => bindO
    (selO x0 1 1 false) (fun z46 => bindO (pureO (.bin .gtr .num false (.c z45) (.c z46))) (fun z47 => bindO (callO B .cl (.fn 85 []) [z47]) (fun z48 => bindO (pureO (.bin .or .num
    false (.c z43) (.c z48))) (fun z49 => some (.tup [z49, .nilI], e))))))))))))) (bindO (pureO (.bin .eql .str true (.c x1) (.c (.str [62])))) (fun z50 => iteP z50 (bindO (selO x0 0 1
    false) (fun z51 => bindO (selO x0 1 1 false) (fun z52 => bindO (pureO (.bin .gtr .num false (.c z51) (.c z52))) (fun z53 => bindO (callO B .cl (.fn 85 []) [z53]) (fun z54 => bindO
    (pureO (.bin .or .num false (.c (.int .i64 0)) (.c z54))) (fun z55 => some (.tup [z55, .nilI], e))))))) (some (.tup [.int .i64 0, .nilI], e)))))))))))))) := by kernel_rfl
theorem run79 (B : KB) {E : Type} (h : Handler E) (dep : Nat) (e : E) (x0 : PV) (x1 : PV) :
    runK (cfg0 B (fun _ => .cl)) fn79 (.cl) h dep [.cv x0, .cv x1] e =
    chkO (valO x0) (bindO (selO x0 0 2 true) (fun z1 => bindO (pureO (.load 1 false (.c x1))) (fun z2 => bindO (callO B .cl (.fn 80 []) [z1, z2]) (fun z3 => bindO (pureO (.extract 0
    (.c z3))) (fun z4 => bindO (pureO (.extract 1 (.c z3))) (fun z5 => some (.tup [z4, z5], e))))))) := by kernel_rfl
theorem run80 (B : KB) {E : Type} (h : Handler E) (dep : Nat) (e : E) (x0 : PV) (x1 : PV) :
    runK (cfg0 B (fun _ => .cl)) fn80 (.cl) h dep [.cv x0, .cv x1] e =
    chkO (valO x0) (bindO (selO x0 0 1 false) (fun z1 => bindO (selO x0 1 1 false) (fun z2 => bindO (pureO (.bin .and .num false (.c z1) (.c z2))) (fun z3 => bindO (pureO (.bin .eql
    .str true (.c x1) (.c (.str [226, 136, 168])))) (fun z4 => iteP z4 (bindO (selO x0 0 1 false) (fun z5 => bindO (selO x0 1 1 false) (fun z6 => bindO (pureO (.bin .or .num false (.c
    z5) (.c z6))) (fun z7 => bindO (pureO (.build [.str []] [(0, (1, .c x1))])) (fun z8 => bindO (selO x0 0 1 false) (fun z9 => bindO (pureO (.bin .shr .num true (.c z9) (.c (.int .u64
    1)))) (fun z10 => bindO (pureO (.bin .eql .num true (.c z10) (.c (.int .i64 0)))) (fun z11 => bindO (selO x0 1 1 false) (fun z12 => bindO (pureO (.bin .shr .num true (.c z12) (.c
    (.int .u64 1)))) (fun z13 => bindO (pureO (.bin .eql .num true (.c z13) (.c (.int .i64 0)))) (fun z14 => chkO (okSls 1 [z11, z14]) (bindO (lendO B .cl false 88 [z7, .iface 73 z8,
    slO 1 1 [z11, z14] 0 (lenL [z11, z14])]) (fun z15 => bindO (pureO (.extract 0 (.c z15))) (fun z16 => bindO (pureO (.extract 1 (.c z15))) (fun z17 => some (.tup [z16, z17],
    e)))))))))))))))) (bindO (pureO (.build [.str []] [(0, (1, .c x1))])) (fun z18 => bindO (selO x0 0 1 false) (fun z19 => bindO (pureO (.bin .shr .num true (.c z19) (.c (.int .u64
    1)))) (fun z20 => bindO (pureO (.bin .eql .num true (.c z20) (.c (.int .i64 0)))) (fun z21 => bindO (selO x0 1 1 false) (fun z22 => bindO (pureO (.bin .shr .num true (.c z22) (.c
    (.int .u64 1)))) (fun z23 => bindO (pureO (.bin .eql .num true (.c z23) (.c (.int .i64 0)))) (fun z24 => chkO (okSls 1 [z21, z24]) (bindO (lendO B .cl false 88 [z3, .iface 73 z18,
    slO 1 1 [z21, z24] 0 (lenL [z21, z24])]) (fun z25 => bindO (pureO (.extract 0 (.c z25))) (fun z26 => bindO (pureO (.extract 1 (.c z25))) (fun z27 => some (.tup [z26, z27],
    e)))))))))))))))))) := by kernel_rfl
theorem run82 (B : KB) {E : Type} (h : Handler E) (dep : Nat) (e : E) (x0 : PV) :
    runK (cfg0 B (fun _ => .cl)) fn82 (.cl) h dep [.cv x0] e =
    some (.tup [x0, .nilI], e) := by kernel_rfl
theorem run83 (B : KB) {E : Type} (h : Handler E) (dep : Nat) (e : E) (x0 : PV) :
    runK (cfg0 B (fun _ => .cl)) fn83 (.cl) h dep [.cv x0] e =
    bindO (pureO (.build [.int .i64 0, .int .i64 0] [(0, (1, .c (.int .i64 0))), (1, (1, .c x0))])) (fun z1 => bindO (pureO (.build [.int .i64 0, .int .i64 0] [(0, (2, .c z1))])) (fun
    z2 => bindO (callO B .cl (.fn 71 []) [z2]) (fun z3 => bindO (pureO (.extract 0 (.c z3))) (fun z4 => bindO (pureO (.extract 1 (.c z3))) (fun z5 => some (.tup [z4, z5], e)))))) := by kernel_rfl
theorem run84 (B : KB) {E : Type} (h : Handler E) (dep : Nat) (e : E) (x0 : PV) :
    runK (cfg0 B (fun _ => .cl)) fn84 (.cl) h dep [.cv x0] e =
    bindO (pureO (.bin .gtr .num true (.c x0) (.c (.int .i64 0)))) (fun z1 => bindO (callO B .cl (.fn 85 []) [z1]) (fun z2 => bindO (pureO (.bin .lss .num true (.c x0) (.c (.int .i64
    0)))) (fun z3 => bindO (callO B .cl (.fn 85 []) [z3]) (fun z4 => bindO (pureO (.bin .sub .num false (.c z2) (.c z4))) (fun z5 => some (.tup [z5, .nilI], e)))))) := by kernel_rfl
theorem run85 (B : KB) {E : Type} (h : Handler E) (dep : Nat) (e : E) (x0 : PV) :
    runK (cfg0 B (fun _ => .cl)) fn85 (.cl) h dep [.cv x0] e =
    iteP x0 (some (.int .i64 1, e)) (some (.int .i64 0, e)) := by kernel_rfl
theorem run86 (B : KB) {E : Type} (h : Handler E) (dep : Nat) (e : E) (x0 : PV) :
    runK (cfg0 B (fun _ => .cl)) fn86 (.cl) h dep [.cv x0] e =
    bindO (pureO (.build [.int .i64 0, .int .i64 0] [(0, (1, .c (.int .i64 1))), (1, (1, .c x0))])) (fun z1 => bindO (pureO (.build [.int .i64 0, .int .i64 0] [(0, (2, .c z1))])) (fun
    z2 => bindO (callO B .cl (.fn 73 []) [z2]) (fun z3 => bindO (pureO (.extract 0 (.c z3))) (fun z4 => bindO (pureO (.extract 1 (.c z3))) (fun z5 => some (.tup [z4, z5], e)))))) := by kernel_rfl
theorem run87 (B : KB) {E : Type} (h : Handler E) (dep : Nat) (e : E) (x0 : PV) :
    runK (cfg0 B (fun _ => .cl)) fn87 (.cl) h dep [.cv x0] e =
    bindO (pureO (.bin .sub .num true (.c (.int .i64 1)) (.c x0))) (fun z1 => bindO (pureO (.build [.str []] [(0, (1, .c (.str [126])))])) (fun z2 => bindO (pureO (.bin .eql .num true
    (.c x0) (.c (.int .i64 0)))) (fun z3 => iteP z3 (chkO (okSls 1 [.bool true]) (bindO (lendO B .cl false 88 [z1, .iface 73 z2, slO 1 1 [.bool true] 0 (lenL [.bool true])]) (fun z4 =>
    bindO (pureO (.extract 0 (.c z4))) (fun z5 => bindO (pureO (.extract 1 (.c z4))) (fun z6 => some (.tup [z5, z6], e)))))) (bindO (pureO (.bin .eql .num true (.c x0) (.c (.int .i64
    1)))) (fun z7 => chkO (okSls 1 [z7]) (bindO (lendO B .cl false 88 [z1, .iface 73 z2, slO 1 1 [z7] 0 (lenL [z7])]) (fun z8 => bindO (pureO (.extract 0 (.c z8))) (fun z9 => bindO
    (pureO (.extract 1 (.c z8))) (fun z10 => some (.tup [z9, z10], e)))))))))) := by kernel_rfl
theorem run88 (B : KB) {E : Type} (h : Handler E) (dep : Nat) (e : E) (x0 : PV) (x1 : PV) (x2 : PV) :
    runK (cfg0 B (fun _ => .cl)) fn88 (.cl) h dep [.cv x0, .cv x1, .cv x2] e =
    bindO (pureO (.len .slice (.c x2))) (fun z1 => chkO (noUndef [x0, x1, x2, z1, .int .i64 0]) (loopL (fun z2 => bindO (pureO (.bin .lss .num false (.c (nth z2.1 4)) (.c (nth z2.1
    3)))) (fun z3 => iteP z3 (bindO (pureO (.idxAddr 1 (.c (nth z2.1 2)) (.c (nth z2.1 4)))) (fun z4 => bindO (pureO (.load 1 false (.c z4))) (fun z5 => bindO (pureO (.un .not (.c
    z5))) (fun z6 => iteP z6 (bindO (some (.tup [.int .i64 0, nth z2.1 1], z2.2)) (fun z7 => some (.inr z7))) (bindO (pureO (.bin .add .num true (.c (nth z2.1 4)) (.c (.int .i64 1))))
    (fun z8 => some (.inl ([nth z2.1 0, nth z2.1 1, nth z2.1 2, nth z2.1 3, z8], z2.2)))))))) (bindO (some (.tup [nth z2.1 0, .nilI], z2.2)) (fun z9 => some (.inr z9))))) ([x0, x1, x2,
    z1, .int .i64 0], e))) := by kernel_rfl
theorem run89 (B : KB) {E : Type} (h : Handler E) (dep : Nat) (e : E) (x0 : PV) (x1 : PV) :
    runK (cfg0 B (fun _ => .cl)) fn89 (.cl) h dep [.cv x0, .cv x1] e =
    bindO (pureO (.bin .lss .num true (.c x0) (.c (.int .i64 0)))) (fun z1 => iteP z1 (bindO (pureO (.load 1 false (.c x1))) (fun z2 => bindO (callO B .cl z2 [x0]) (fun z3 => bindO
    (pureO (.extract 0 (.c z3))) (fun z4 => bindO (pureO (.extract 1 (.c z3))) (fun z5 => some (.tup [z4, z5], e)))))) (some (.tup [x0, .nilI], e))) := by kernel_rfl
theorem run90 (B : KB) {E : Type} (h : Handler E) (dep : Nat) (e : E)  :
    runK (cfg0 B (fun _ => .cl)) fn90 (.cl) h dep [] e =
    some (.int .i64 (-9223372036854775808), e) := by kernel_rfl
theorem run91 (B : KB) {E : Type} (h : Handler E) (dep : Nat) (e : E) (x0 : PV) (x1 : PV) :
    runK (cfg0 B (fun _ => .cl)) fn91 (.cl) h dep [.cv x0, .cv x1] e =
    bindO (pureO (.bin .add .num false (.c x0) (.c x1))) (fun z1 => bindO (bindO (pureO (.bin .gtr .num true (.c x0) (.c (.int .i64 0)))) (fun z2 => iteP z2 (bindO (pureO (.bin .gtr
    .num true (.c x1) (.c (.int .i64 0)))) (fun z3 => iteP z3 (bindO (pureO (.bin .lss .num true (.c z1) (.c (.int .i64 0)))) (fun z4 => iteP z4 (some (.bool true)) (bindO (pureO (.bin
    .lss .num true (.c x0) (.c (.int .i64 0)))) (fun z5 => iteP z5 (bindO (pureO (.bin .lss .num true (.c x1) (.c (.int .i64 0)))) (fun z6 => iteP z6 (bindO (pureO (.bin .geq .num true
    (.c z1) (.c (.int .i64 0)))) (fun z7 => some z7)) (some (.bool false)))) (some (.bool false)))))) (bindO (pureO (.bin .lss .num true (.c x0) (.c (.int .i64 0)))) (fun z8 => iteP z8
    (bindO (pureO (.bin .lss .num true (.c x1) (.c (.int .i64 0)))) (fun z9 => iteP z9 (bindO (pureO (.bin .geq .num true (.c z1) (.c (.int .i64 0)))) (fun z10 => some z10)) (some
    (.bool false)))) (some (.bool false)))))) (bindO (pureO (.bin .lss .num true (.c x0) (.c (.int .i64 0)))) (fun z11 => iteP z11 (bindO (pureO (.bin .lss .num true (.c x1) (.c (.int
    .i64 0)))) (fun z12 => iteP z12 (bindO (pureO (.bin .geq .num true (.c z1) (.c (.int .i64 0)))) (fun z13 => some z13)) (some (.bool false)))) (some (.bool false)))))) (fun z14 =>
    iteP z14 (some (.tup [.int .i64 0, .int .i64 100], e)) (some (.tup [z1, .int .i64 0], e)))) := by kernel_rfl
theorem run92 (B : KB) {E : Type} (h : Handler E) (dep : Nat) (e : E) (x0 : PV) (x1 : PV) :
    runK (cfg0 B (fun _ => .cl)) fn92 (.cl) h dep [.cv x0, .cv x1] e =
    bindO (bindO (pureO (.bin .eql .num true (.c x0) (.c (.int .i64 0)))) (fun z1 => iteP z1 (some (.bool true)) (bindO (pureO (.bin .eql .num true (.c x1) (.c (.int .i64 0)))) (fun z2
    => some z2)))) (fun z3 => iteP z3 (some (.tup [.int .i64 0, .int .i64 0], e)) (bindO (callO B .cl (.fn 90 []) []) (fun z4 => bindO (pureO (.bin .eql .num false (.c x0) (.c z4)))
    (fun z5 => iteP z5 (bindO (pureO (.bin .eql .num true (.c x1) (.c (.int .i64 (-1))))) (fun z6 => iteP z6 (some (.tup [.int .i64 0, .int .i64 100], e)) (bindO (callO B .cl (.fn 90
    []) []) (fun z7 => bindO (pureO (.bin .eql .num false (.c x1) (.c z7))) (fun z8 => iteP z8 (bindO (pureO (.bin .eql .num true (.c x0) (.c (.int .i64 (-1))))) (fun z9 => iteP z9
    (some (.tup [.int .i64 0, .int .i64 100], e)) (bindO (pureO (.bin .mul .num false (.c x0) (.c x1))) (fun z10 => bindO (pureO (.bin .quo .num false (.c z10) (.c x1))) (fun z11 =>
    bindO (pureO (.bin .neq .num false (.c z11) (.c x0))) (fun z12 => iteP z12 (some (.tup [.int .i64 0, .int .i64 100], e)) (some (.tup [z10, .int .i64 0], e)))))))) (bindO (pureO
    (.bin .mul .num false (.c x0) (.c x1))) (fun z13 => bindO (pureO (.bin .quo .num false (.c z13) (.c x1))) (fun z14 => bindO (pureO (.bin .neq .num false (.c z14) (.c x0))) (fun z15
    => iteP z15 (some (.tup [.int .i64 0, .int .i64 100], e)) (some (.tup [z13, .int .i64 0], e))))))))))) (bindO (callO B .cl (.fn 90 []) []) (fun z16 => bindO (pureO (.bin .eql .num
    false (.c x1) (.c z16))) (fun z17 => iteP z17 (bindO (pureO (.bin .eql .num true (.c x0) (.c (.int .i64 (-1))))) (fun z18 => iteP z18 (some (.tup [.int .i64 0, .int .i64 100], e))
    (bindO (pureO (.bin .mul .num false (.c x0) (.c x1))) (fun z19 => bindO (pureO (.bin .quo .num false (.c z19) (.c x1))) (fun z20 => bindO (pureO (.bin .neq .num false (.c z20) (.c
    x0))) (fun z21 => iteP z21 (some (.tup [.int .i64 0, .int .i64 100], e)) (some (.tup [z19, .int .i64 0], e)))))))) (bindO (pureO (.bin .mul .num false (.c x0) (.c x1))) (fun z22 =>
    bindO (pureO (.bin .quo .num false (.c z22) (.c x1))) (fun z23 => bindO (pureO (.bin .neq .num false (.c z23) (.c x0))) (fun z24 => iteP z24 (some (.tup [.int .i64 0, .int .i64
    100], e)) (some (.tup [z22, .int .i64 0], e))))))))))))) := by kernel_rfl
theorem run93 (B : KB) {E : Type} (h : Handler E) (dep : Nat) (e : E) (x0 : PV) (x1 : PV) :
    runK (cfg0 B (fun _ => .cl)) fn93 (.cl) h dep [.cv x0, .cv x1] e =
    bindO (pureO (.bin .eql .num true (.c x0) (.c (.int .i64 0)))) (fun z1 => iteP z1 (some (x1, e)) (bindO (pureO (.bin .eql .num true (.c x0) (.c (.int .i64 (-1))))) (fun z2 => iteP
    z2 (some (.int .i64 0, e)) (bindO (pureO (.bin .rem .num false (.c x1) (.c x0))) (fun z3 => bindO (bindO (pureO (.bin .neq .num true (.c z3) (.c (.int .i64 0)))) (fun z4 => iteP z4
    (bindO (pureO (.bin .lss .num true (.c z3) (.c (.int .i64 0)))) (fun z5 => bindO (pureO (.bin .lss .num true (.c x0) (.c (.int .i64 0)))) (fun z6 => bindO (pureO (.bin .neq .bool
    false (.c z5) (.c z6))) (fun z7 => some z7)))) (some (.bool false)))) (fun z8 => iteP z8 (bindO (pureO (.bin .add .num false (.c z3) (.c x0))) (fun z9 => some (z9, e))) (some (z3,
    e)))))))) := by kernel_rfl
theorem run94 (B : KB) {E : Type} (h : Handler E) (dep : Nat) (e : E) (x0 : PV) (x1 : PV) (x2 : PV) :
    runK (cfg0 B (fun _ => .cl)) fn94 (.cl) h dep [.cv x0, .cv x1, .cv x2] e =
    bindO (pureO (.bin .eql .str true (.c x0) (.c (.str [61])))) (fun z1 => iteP z1 (bindO (pureO (.bin .eql .num false (.c x1) (.c x2))) (fun z2 => bindO (callO B .cl (.fn 53 [])
    [z2]) (fun z3 => some (z3, e)))) (bindO (pureO (.bin .eql .str true (.c x0) (.c (.str [226, 137, 160])))) (fun z4 => iteP z4 (bindO (pureO (.bin .neq .num false (.c x1) (.c x2)))
    (fun z5 => bindO (callO B .cl (.fn 53 []) [z5]) (fun z6 => some (z6, e)))) (bindO (pureO (.bin .eql .str true (.c x0) (.c (.str [60])))) (fun z7 => iteP z7 (bindO (pureO (.bin .lss
    .num false (.c x1) (.c x2))) (fun z8 => bindO (callO B .cl (.fn 53 []) [z8]) (fun z9 => some (z9, e)))) (bindO (pureO (.bin .eql .str true (.c x0) (.c (.str [62])))) (fun z10 =>
    iteP z10 (bindO (pureO (.bin .gtr .num false (.c x1) (.c x2))) (fun z11 => bindO (callO B .cl (.fn 53 []) [z11]) (fun z12 => some (z12, e)))) (bindO (pureO (.bin .eql .str true (.c
    x0) (.c (.str [226, 137, 164])))) (fun z13 => iteP z13 (bindO (pureO (.bin .leq .num false (.c x1) (.c x2))) (fun z14 => bindO (callO B .cl (.fn 53 []) [z14]) (fun z15 => some
    (z15, e)))) (bindO (pureO (.bin .geq .num false (.c x1) (.c x2))) (fun z16 => bindO (callO B .cl (.fn 53 []) [z16]) (fun z17 => some (z17, e))))))))))))) := by kernel_rfl
theorem run110 (B : KB) {E : Type} (h : Handler E) (dep : Nat) (e : E) (x0 : PV) (x1 : PV) :
    runK (cfg0 B (fun _ => .cl)) fn110 (.cl) h dep [.cv x0, .cv x1] e =
    bindO (pureO (.bin .and .num true (.c x0) (.c (.int .u64 4294967295)))) (fun z1 => bindO (pureO (.bin .shr .num true (.c x0) (.c (.int .u64 32)))) (fun z2 => bindO (pureO (.bin
    .and .num true (.c x1) (.c (.int .u64 4294967295)))) (fun z3 => bindO (pureO (.bin .shr .num true (.c x1) (.c (.int .u64 32)))) (fun z4 => bindO (pureO (.bin .mul .num false (.c
    z1) (.c z3))) (fun z5 => bindO (pureO (.bin .mul .num false (.c z2) (.c z3))) (fun z6 => bindO (pureO (.bin .shr .num true (.c z5) (.c (.int .u64 32)))) (fun z7 => bindO (pureO
    (.bin .add .num false (.c z6) (.c z7))) (fun z8 => bindO (pureO (.bin .and .num true (.c z8) (.c (.int .u64 4294967295)))) (fun z9 => bindO (pureO (.bin .shr .num true (.c z8) (.c
    (.int .u64 32)))) (fun z10 => bindO (pureO (.bin .mul .num false (.c z1) (.c z4))) (fun z11 => bindO (pureO (.bin .add .num false (.c z9) (.c z11))) (fun z12 => bindO (pureO (.bin
    .mul .num false (.c z2) (.c z4))) (fun z13 => bindO (pureO (.bin .add .num false (.c z13) (.c z10))) (fun z14 => bindO (pureO (.bin .shr .num true (.c z12) (.c (.int .u64 32))))
    (fun z15 => bindO (pureO (.bin .add .num false (.c z14) (.c z15))) (fun z16 => bindO (pureO (.bin .mul .num false (.c x0) (.c x1))) (fun z17 => some (.tup [z16, z17],
    e)))))))))))))))))) := by kernel_rfl
theorem run111 (B : KB) {E : Type} (h : Handler E) (dep : Nat) (e : E) (x0 : PV) :
    runK (cfg0 B (fun _ => .cl)) fn111 (.cl) h dep [.cv x0] e =
    bindO (pureO (.bin .lss .num true (.c x0) (.c (.int .i64 0)))) (fun z1 => iteP z1 (bindO (pureO (.conv .u64 (.c x0))) (fun z2 => bindO (pureO (.un .neg (.c z2))) (fun z3 => some
    (z3, e)))) (bindO (pureO (.conv .u64 (.c x0))) (fun z4 => some (z4, e)))) := by kernel_rfl
end Go.Ab

/-
  Functions that turn what they are handed by name: what 'runIoK' tells, a call of them tells.
-/
namespace Go.Ab

mutual
theorem fitP_leaves : ∀ (p x : KV), fitV p x = true → x.ok → fitP p x.pv = some (leaves p x)
  | .un, x, h, _ => by cases x <;> simp [fitV] at h; rfl
  | .sk, x, h, _ => by cases x <;> simp [fitV] at h; rfl
  | .yld d, x, h, _ => by cases x <;> simp [fitV] at h; rfl
  | .ref nm o, x, h, _ => by cases x <;> simp [fitV] at h; obtain ⟨rfl, rfl⟩ := h; simp [fitP, KV.pv, leaves, chkO]
  | .aref _ _ _ _, x, h, _ => by simp [fitV] at h
  | .mp nm, x, h, _ => by cases x <;> simp [fitV] at h; subst h; simp [fitP, KV.pv, leaves, chkO]
  | .it nm, x, h, _ => by cases x <;> simp [fitV] at h; subst h; simp [fitP, KV.pv, leaves, chkO]
  | .wit nm, x, h, _ => by cases x <;> simp [fitV] at h; subst h; simp [fitP, KV.pv, leaves, chkO]
  | .arr nm k o n, x, h, _ => by
    cases x with
    | arr nm' k' o' n' =>
      simp only [fitV] at h
      simp only [KV.pv, fitP, leaves]
      rw [h]; rfl
    | _ => simp [fitV] at h
  | .lit b, x, h, hx => leaf_fit hx (by simpa [fitV] using h)
  | .nils, x, h, hx => leaf_fit hx (by simpa [fitV] using h)
  | .cv v, x, h, hx => leaf_fit hx (by simpa [fitV] using h)
  | .fn f cap, x, h, hx => by
    cases x with
    | fn f' cap' =>
      simp only [fitV, Bool.and_eq_true, beq_iff_eq] at h
      obtain ⟨rfl, h⟩ := h
      simp only [KV.pv, fitP, if_true, leaves]
      exact fitPL_leaves cap cap' h hx
    | _ => simp [fitV] at h
  | .tup xs, x, h, hx => by
    cases x with
    | tup ys =>
      simp only [fitV] at h
      simp only [KV.pv, fitP, leaves]
      exact fitPL_leaves xs ys h hx
    | _ => simp [fitV] at h
  | .agg cs, x, h, hx => by
    simp only [fitV] at h
    simp only [fitP, leaves]
    by_cases hc : (clL cs).isSome = true
    · rw [if_pos hc] at h
      rw [if_pos hc, if_pos hc]
      exact leaf_fit hx h
    · rw [if_neg hc] at h
      rw [if_neg hc, if_neg hc]
      cases x with
      | agg cs' => exact fitPL_leaves cs cs' h hx
      | _ => simp at h
  | .iface t y, x, h, hx => by
    simp only [fitV] at h
    simp only [fitP, leaves]
    by_cases hc : y.cl.isSome = true
    · rw [if_pos hc] at h
      rw [if_pos hc, if_pos hc]
      exact leaf_fit hx h
    · rw [if_neg hc] at h
      rw [if_neg hc, if_neg hc]
      cases x with
      | iface t' y' =>
        simp only [Bool.and_eq_true, beq_iff_eq] at h
        obtain ⟨rfl, h⟩ := h
        simp only [KV.pv, if_true]
        exact fitP_leaves y y' h hx
      | _ => simp at h
theorem fitPL_leaves : ∀ (ps xs : List KV), fitL ps xs = true → okKL xs → fitPL ps (pvL xs) = some (leavesL ps xs)
  | [], xs, h, _ => by cases xs <;> simp [fitL] at h; rfl
  | p :: ps, xs, h, hx => by
    cases xs with
    | nil => simp [fitL] at h
    | cons x xs =>
      simp only [fitL, Bool.and_eq_true] at h
      simp only [pvL, fitPL, leavesL]
      rw [fitP_leaves p x h.1 hx.1, fitPL_leaves ps xs h.2 hx.2]
theorem leaf_fit {x : KV} (hx : x.ok) (h : x.cl.isSome = true) : chkO (okV x.pv) (some [x.pv]) = some [x.cl.getD .undef] := by
  obtain ⟨v, hv⟩ := Option.isSome_iff_exists.1 h
  have h1 := KV.cl_ok hx hv
  rw [KV.cl_pv hv, hv]
  simp [chkO, h1]
end

theorem fitPOb_leaves (p x : KOb) (h : fitOb p x = true) (hx : x.ok) : fitPOb p x.ob = some (leavesObN p x) := by
  cases p with
  | cells ty cs =>
    cases x with
    | cells ty' cs' =>
      simp only [fitOb, Bool.and_eq_true, beq_iff_eq] at h
      obtain ⟨rfl, h⟩ := h
      simp only [fitPOb, KOb.ob, if_true]
      exact fitPL_leaves cs cs' h hx
    | _ => simp [fitOb] at h
  | whole ty w =>
    cases x with
    | whole ty' v =>
      simp only [fitOb, beq_iff_eq] at h
      subst h
      have hx' : okV v = true := hx
      have h2 : okVL (cellsP v) = true := okV_cells hx'
      simp [fitPOb, KOb.ob, leavesObN, chkO, h2]
    | _ => simp [fitOb] at h
  | arr k kt ws =>
    cases x with
    | arr k' kt xs =>
      simp only [fitOb, Bool.and_eq_true, beq_iff_eq] at h
      obtain ⟨rfl, rfl⟩ := h
      have hx' : okVL xs = true := hx
      simp [fitPOb, KOb.ob, leavesObN, leavesOb, chkO, hx']
    | _ => simp [fitOb] at h
  | map ws =>
    cases x with
    | map es =>
      have hx' : okVL es = true := hx
      simp [fitPOb, KOb.ob, leavesObN, leavesOb, chkO, hx']
    | _ => simp [fitOb] at h
  | siter s0 p0 =>
    cases x with
    | siter s pos => rfl
    | _ => simp [fitOb] at h

theorem fitPObL_leaves : ∀ (ps xs : List KOb), fitObL ps xs = true → (∀ o ∈ xs, o.ok) → fitPObL ps (xs.map KOb.ob) = some (leavesObNL ps xs)
  | [], [], _, _ => rfl
  | [], _ :: _, h, _ => by simp [fitObL] at h
  | _ :: _, [], h, _ => by simp [fitObL] at h
  | p :: ps, x :: xs, h, hx => by
    simp only [fitObL, Bool.and_eq_true] at h
    simp only [List.map_cons, fitPObL, leavesObNL]
    rw [fitPOb_leaves p x h.1 (hx x List.mem_cons_self), fitPObL_leaves ps xs h.2 fun o ho => hx o (List.mem_cons_of_mem _ ho)]

theorem kwit_pv {x : KV} (h : x.ok) : witNm x.pv = kwitNm x := by
  cases x with
  | arr nm k o n =>
    simp only [KV.pv, kwitNm, witNm]
    by_cases hc : k = 1 ∧ o = 0 ∧ n = 0
    · obtain ⟨rfl, rfl, rfl⟩ := hc; rfl
    · rw [if_neg hc]
      split
      · rename_i heq
        cases heq
        exact absurd ⟨rfl, rfl, rfl⟩ hc
      · rfl
  | cv v =>
    have hv : okV v = true := h
    simp only [KV.pv, kwitNm]
    unfold witNm
    split
    · simp [okV] at hv
    · rfl
  | _ => rfl

section
variable {ks : KSt}

theorem kioEnd_ok (hk : ks.Ok) {P : IoSh} {v : KV} (hv : v.ok) {rs : List PV} (h : kioEnd P ks v = some rs) : ∃ out, ioEnd none 1 0 (canonR P.ins.length) ks.st v.pv = some out ∧ ioFit P out = some rs := by
  unfold kioEnd at h
  split at h
  case h_2 => cases h
  rename_i sp hkeep
  simp only at h
  have hsp : SpWf ks.nt sp := hk.kp sp (by rw [hkeep]; exact List.mem_singleton.2 rfl)
  have hst : ks.st.keep = dense ks.nt sp := by
    show ks.keep.flatMap (dense ks.nt) = _
    rw [hkeep]; simp
  have hw : ∀ j, witNm (ks.st.keep.getD j .undef) = kwitNm (spGet sp j) := fun j => by
    rw [hst, dense_getD hsp, kwit_pv (hsp.get_ok j)]
  have hA : ioPairs (canonR P.ins.length) ks.st.keep = kioPairs P.ins.length sp := by
    unfold ioPairs kioPairs
    exact List.map_congr_left fun p _ => by rw [hw]
  have hG : ioGone (canonR P.ins.length) ks.st.keep = kioGone P.ins.length sp := by
    unfold ioGone kioGone
    congr 1
    exact List.filter_congr fun p _ => by rw [hw]
  have hlk := st_lookF hk
  have hnm : ∀ m : Nm, ((look ks.st.objs m).map Ob.names).getD [] = ((klook ks.objs m).map KOb.names).getD [] := by
    intro m
    rw [st_look hk]
    cases hl : klook ks.objs m with
    | none => rfl
    | some o =>
      simp only [Option.map_some, Option.getD_some]
      exact KOb.ob_names (klook_ok hk.ob hl)
  have hN : ioNews (look ks.st.objs) (kioPairs P.ins.length sp) v.pv = kioNews (klook ks.objs) (kioPairs P.ins.length sp) v := by
    unfold ioNews kioNews
    rw [KV.pv_names hv]
    have e1 : ((kioPairs P.ins.length sp).flatMap fun p => ((look ks.st.objs p.1).map Ob.names).getD []) = (kioPairs P.ins.length sp).flatMap fun p => ((klook ks.objs p.1).map KOb.names).getD [] := by
      congr 1; funext p; exact hnm p.1
    rw [e1, hlk, ← kreach_eq (klook_okF hk)]
  generalize kioPairs P.ins.length sp = A at h hA hN
  generalize hNd : kioNews (klook ks.objs) A v = N at h hN
  generalize hB : (A ++ N.zipIdx.map fun p => (p.1, (1, 0 + p.2))) = B at h
  split at h
  case isFalse => cases h
  rename_i hcd
  obtain ⟨hnd, hgone, hfit⟩ := hcd
  cases h
  simp only [Bool.and_eq_true] at hfit
  obtain ⟨hf1, hf2, hf3⟩ := hfit
  have hoff : (fun m => if (B.map (·.1)).contains m then none else some none : Nm → Option (Option Ob)) = subOff fun m => !(B.map (·.1)).contains m := by
    funext m
    show (if (B.map (·.1)).contains m = true then none else some none) = if (!(B.map (·.1)).contains m) = true then some none else none
    cases (B.map (·.1)).contains m <;> rfl
  have hob : ∀ nm, ioOb (look ks.st.objs) B nm = (kioOb (klook ks.objs) B nm).ob ∧ (kioOb (klook ks.objs) B nm).ok := by
    intro nm
    unfold ioOb kioOb
    have hok : ((klook ks.objs nm).getD kdead).ok := by
      cases hl : klook ks.objs nm with
      | none => exact rfl
      | some o => exact klook_ok hk.ob hl
    have hobs : ((look ks.st.objs nm).getD dead) = ((klook ks.objs nm).getD kdead).ob := by
      rw [st_look hk]
      cases klook ks.objs nm <;> rfl
    rw [hoff, hobs, ← KOb.off_ob _ hok, ← KOb.ren_ob _ (KOb.off_ok _ hok)]
    exact ⟨rfl, KOb.ren_ok _ (KOb.off_ok _ hok)⟩
  refine ⟨{ v := (v.pv.sub fun m => if (B.map (·.1)).contains m then none else some none).ren fun m => (B.lookup m).getD m, new := N.map (ioOb (look ks.st.objs) B), ups := A.map fun p => (p.2, ioOb (look ks.st.objs) B p.1), gone := kioGone P.ins.length sp, io := true }, ?_, ?_⟩
  · unfold ioEnd
    simp only
    rw [hA, hN, hB, hG]
    simp [chk, hnd]
  · unfold ioFit
    simp only
    rw [if_pos hgone]
    have e1 : (v.pv.sub fun m => if (B.map (·.1)).contains m then none else some none).ren (fun m => (B.lookup m).getD m) = ((v.off fun m => !(B.map (·.1)).contains m).ren fun m => (B.lookup m).getD m).pv := by
      rw [hoff, ← KV.off_pv _ hv, ← KV.ren_pv _ (KV.off_ok _ hv)]
    have e2 : (A.map fun p => (p.2, ioOb (look ks.st.objs) B p.1)).map (·.2) = (A.map fun p => kioOb (klook ks.objs) B p.1).map KOb.ob := by
      rw [List.map_map, List.map_map]
      exact List.map_congr_left fun p _ => (hob p.1).1
    have e3 : N.map (ioOb (look ks.st.objs) B) = (N.map (kioOb (klook ks.objs) B)).map KOb.ob := by
      rw [List.map_map]
      exact List.map_congr_left fun m _ => (hob m).1
    rw [e1, e2, e3, fitP_leaves _ _ hf1 (KV.ren_ok _ (KV.off_ok _ hv)), fitPObL_leaves _ _ hf2 (fun o ho => by
      obtain ⟨p, _, rfl⟩ := List.mem_map.1 ho; exact (hob p.1).2), fitPObL_leaves _ _ hf3 (fun o ho => by
      obtain ⟨m, _, rfl⟩ := List.mem_map.1 ho; exact (hob m).2)]
end

mutual
theorem fill_any {vs : List PV} (hv : okVL vs = true) : ∀ (p : KV) (i : Nat), (fill p vs i).1.ok
  | .un, i | .sk, i | .yld _, i | .ref _ _, i | .aref _ _ _ _, i | .mp _, i | .it _, i | .wit _, i | .arr _ _ _ _, i => trivial
  | .lit _, i | .nils, i | .cv _, i => nth_ok hv i
  | .fn f cap, i => fillL_any hv cap i
  | .tup xs, i => fillL_any hv xs i
  | .agg cs, i => by
    simp only [fill]
    split
    · exact nth_ok hv i
    · exact fillL_any hv cs i
  | .iface t y, i => by
    simp only [fill]
    split
    · exact nth_ok hv i
    · exact fill_any hv y i
theorem fillL_any {vs : List PV} (hv : okVL vs = true) : ∀ (ps : List KV) (i : Nat), okKL (fillL ps vs i).1
  | [], i => trivial
  | p :: ps, i => ⟨fill_any hv p i, fillL_any hv ps _⟩
theorem nth_ok {vs : List PV} (hv : okVL vs = true) (i : Nat) : okV (nth vs i) = true := by
  unfold nth
  rw [List.getD_eq_getElem?_getD]
  cases h : vs[i]? with
  | none => rfl
  | some x => exact okVL_get hv h
end

theorem fillOb_any {vs : List PV} (hv : okVL vs = true) (p : KOb) (i : Nat) : (fillOb p vs i).1.ok := by
  cases p with
  | cells ty cs => exact fillL_any hv cs i
  | whole ty w => exact nth_ok hv i
  | arr k kt xs =>
    have := nth_ok hv i
    show okVL (itemsP (nth vs i)) = true
    unfold itemsP
    split
    · rename_i heq; rw [heq] at this; simpa [okV] using this
    · rfl
  | map es =>
    have := nth_ok hv i
    show okVL (entsP (nth vs i)) = true
    unfold entsP
    split
    · rename_i heq; rw [heq] at this; simpa [okV] using this
    · rfl
  | siter s p => trivial

theorem fillObL_any {vs : List PV} (hv : okVL vs = true) : ∀ (ps : List KOb) (i : Nat), (∀ o ∈ (fillObL ps vs i).1, o.ok) ∧ (fillObL ps vs i).1.length = ps.length
  | [], i => ⟨fun o ho => (by cases ho), rfl⟩
  | p :: ps, i => by
    obtain ⟨h1, h2⟩ := fillObL_any hv ps (fillOb p vs i).2
    refine ⟨fun o ho => ?_, by simp [fillObL, h2]⟩
    simp only [fillObL, List.mem_cons] at ho
    rcases ho with rfl | ho
    · exact fillOb_any hv p i
    · exact h1 o ho

theorem fillL_un {vs : List PV} : ∀ (ps : List KV) (i : Nat), (∀ p ∈ ps, isUnK p = false) → (∀ x ∈ (fillL ps vs i).1, isUnK x = false) ∧ (fillL ps vs i).1.length = ps.length
  | [], i, _ => ⟨fun o ho => (by cases ho), rfl⟩
  | p :: ps, i, hp => by
    obtain ⟨h1, h2⟩ := fillL_un (vs := vs) ps (fill p vs i).2 fun q hq => hp q (List.mem_cons_of_mem _ hq)
    refine ⟨fun x hx => ?_, by simp [fillL, h2]⟩
    simp only [fillL, List.mem_cons] at hx
    rcases hx with rfl | hx
    · exact un_fill (hp p List.mem_cons_self)
    · exact h1 x hx

/-- A call of a function that turns what it is handed by name, by what 'runIoK' tells. -/
theorem io_of_run {cfg : KCfg} {tab : FuncId → Option RFn} (hc : CfgOK cfg tab) {g : FuncId} {fn : RFn} (ht : tab g = some fn) {P : IoSh} (hP : cfg.ioF g = some P) (hun : P.args.all (fun p => !isUnK p) = true) {vs rs : List PV} (hv : okVL vs = true)
    (hr : runIoK cfg fn P vs = some rs) : ioO cfg.b P g vs = some rs := by
  obtain ⟨fn', ht', hla, hli, hnt⟩ := hc.ioP g P hP
  rw [ht] at ht'; cases ht'
  unfold runIoK at hr
  simp only at hr
  rw [force_eq] at hr
  obtain ⟨u1, u2⟩ := fillL_un (vs := vs) P.args 0 fun p hp => by simpa using List.all_eq_true.1 hun p hp
  have a1 := fillL_any hv P.args 0
  obtain ⟨b1, b2⟩ := fillObL_any hv P.ins (fillL P.args vs 0).2
  generalize has : (fillL P.args vs 0).1 = aas at hr u1 u2 a1
  generalize hos : (fillObL P.ins vs (fillL P.args vs 0).2).1 = os at hr b1 b2
  obtain ⟨i1, i2⟩ := init_ok (nt := fn.nt) a1 u1 (by omega)
  have hwsp : SpWf fn.nt ((List.range P.ins.length).map fun j => (j, KV.wit (0, j))) := by
    refine ⟨?_, ?_, ?_, ?_⟩
    · rw [List.map_map]
      have : ((fun p : Nat × KV => p.1) ∘ fun j => (j, KV.wit (0, j))) = id := rfl
      rw [this, List.map_id]
      exact List.pairwise_lt_range
    · intro p hp
      obtain ⟨j, hj, rfl⟩ := List.mem_map.1 hp
      have := List.mem_range.1 hj
      simp only; omega
    · intro p hp
      obtain ⟨j, hj, rfl⟩ := List.mem_map.1 hp
      trivial
    · intro p hp
      obtain ⟨j, hj, rfl⟩ := List.mem_map.1 hp
      rfl
  have hso : SoWf fn.nt [(0, os)] := ⟨by simp, by simp [hnt], fun p hp o ho => by simp only [List.mem_singleton] at hp; subst hp; exact b1 o ho⟩
  have hks : ({ nt := fn.nt, tmps := aas.zipIdx.map fun p => (p.2, p.1), objs := [(0, os)], keep := [(List.range P.ins.length).map fun j => (j, KV.wit (0, j))] } : KSt).Ok :=
    ⟨i1.tm, hso, fun sp hsp => by simp only [List.mem_singleton] at hsp; subst hsp; exact hwsp⟩
  have hst : ({ nt := fn.nt, tmps := aas.zipIdx.map fun p => (p.2, p.1), objs := [(0, os)], keep := [(List.range P.ins.length).map fun j => (j, KV.wit (0, j))] } : KSt).st = ioSt fn.nt (os.map KOb.ob) (pvL aas) := by
    have e1 : dense fn.nt (aas.zipIdx.map fun p => (p.2, p.1)) = pvL aas ++ List.replicate (fn.nt - (pvL aas).length) .undef := congrArg St.tmps i2
    unfold KSt.st ioSt
    simp only
    rw [e1]
    congr 1
    · refine denseO_ext (by simp) fun i hi => ?_
      by_cases h0 : i = 0
      · subst h0
        rw [List.getElem?_set_self (by simpa using hnt)]
        rfl
      · rw [List.getElem?_set_ne (Ne.symm h0), List.getElem?_replicate, if_pos hi]
        have : soGet [(0, os)] i = [] := by
          simp only [soGet]
          cases hb : Nat.beq i 0 with
          | true => exact absurd (beq_true hb) h0
          | false => rfl
        rw [this]; rfl
    · simp only [List.flatMap_cons, List.flatMap_nil, List.append_nil]
      refine dense_ext (by simp [wits]) fun i hi => ?_
      unfold wits
      rw [List.getElem?_map, List.getElem?_range hi]
      simp only [Option.map_some, List.length_map]
      by_cases hij : i < os.length
      · rw [if_pos hij]
        have hm : (i, KV.wit (0, i)) ∈ (List.range P.ins.length).map fun j => (j, KV.wit (0, j)) := List.mem_map.2 ⟨i, List.mem_range.2 (by omega), rfl⟩
        rw [show spGet ((List.range P.ins.length).map fun j => (j, KV.wit (0, j))) i = KV.wit (0, i) from hwsp.get_mem hm]
        rfl
      · rw [if_neg hij]
        rw [show spGet ((List.range P.ins.length).map fun j => (j, KV.wit (0, j))) i = .un from spGet_not fun p hp => by
          obtain ⟨j, hj, rfl⟩ := List.mem_map.1 hp
          have := List.mem_range.1 hj
          simp only; omega]
        rfl
  obtain ⟨x, k1, e1, hr, hk1, hev⟩ := evalK_ok hc fn.code (h := noHandler) (hn := fun _ => noHandler) noH 0 hks hr
  rw [hst] at hev
  have fin : (kresVs k1 fn.res fun vs => kioEnd P k1 (koneOf vs)) = some rs → (∀ id, x ≠ .exit id) → ioO cfg.b P g vs = some rs := by
    intro hr hx
    obtain ⟨ws, hr, hws, h1⟩ := kresVs_ok hk1 fn.res hr
    obtain ⟨o1, o2⟩ := koneOf_ok hws
    obtain ⟨out, g1, g2⟩ := kioEnd_ok hk1 o1 hr
    have hI : cfg.b.I g (os.map KOb.ob) (pvL aas) = some (k1.st, (koneOf ws).pv) := by
      rw [hc.I]
      unfold limIo
      rw [ht]
      refine lim_of (hev.mono fun n hn' => ?_)
      unfold ioRaw
      rw [hn']
      cases x with
      | exit id => exact absurd rfl (hx id)
      | normal => simp only [h1]; rw [← o2]
      | ret => simp only [h1]; rw [← o2]
    unfold ioO
    rw [hos, has, hI]
    simp only [g1, g2]
  cases x with
  | exit id => cases hr
  | normal => exact fin hr (by simp)
  | ret => exact fin hr (by simp)
end Go.Ab

/-
  Array: what is taken by contract, the machine, and the closed call of all its laws.
-/
namespace Go.Ab.Arrays
open Go Go.Ab

/-! ### What is taken as it is told -/

def asT0 (p : Nat) : Nat := if p = 66 then 64 else if p = 117 then 73 else 0

def spAs (σ : Nm → Option Ob) : List PV → Option Out
  | [.nilI, .iface p (.ref _ o)] => if (p = 66 ∨ p = 117) ∧ o = 0 then some { v := .bool false } else none
  | [.iface t x, .iface p (.ref nm o)] => match σ nm with
    | some (.cells ty cs) => if (p = 66 ∨ p = 117) ∧ o = 0 ∧ t = asT0 p ∧ cs.length = 1 ∧ okCells x 1 = true then some { v := .bool true, upd := some (nm, .cells ty x.cells) } else none
    | _ => none
  | _ => none

def spIs : List PV → Option Out
  | [.nilI, .glob g t] => if (g = 1 ∨ g = 2) ∧ t = 175 then some { v := .bool false } else none
  | [.glob g t, .glob g' t'] => if (g = 1 ∨ g = 2) ∧ (g' = 1 ∨ g' = 2) ∧ t = 175 ∧ t' = 175 then some { v := .bool (g == g') } else none
  | [.iface s x, .glob g t] => if (g = 1 ∨ g = 2) ∧ t = 175 ∧ s = 73 ∧ okV x = true then some { v := .bool false } else none
  | _ => none

def countB (c : UInt8) : List UInt8 → Nat
  | [] => 0
  | x :: xs => (if x = c then 1 else 0) + countB c xs

def spCount : List PV → Option Out
  | [.str s, .str [c]] => some { v := .int .i64 (countB c s : Nat) }
  | _ => none

def spIdx : List PV → Option Out
  | [.str s, .int .u8 c] => if 0 ≤ c ∧ c < 256 then some { v := .int .i64 (Lib.indexByte s (UInt8.ofNat c.toNat)) } else none
  | _ => none

def digs : Nat → Nat → List UInt8
  | 0, _ => []
  | k + 1, u => if u < 10 then [UInt8.ofNat (48 + u)] else digs k (u / 10) ++ [UInt8.ofNat (48 + u % 10)]

def itoaF (n : Int) : List UInt8 := if n < 0 then 45 :: digs 20 n.natAbs else digs 20 n.toNat

def spFmt : List PV → Option Out
  | [.int .i64 n, .int .i64 10] => if -9223372036854775808 ≤ n ∧ n ≤ 9223372036854775807 then some { v := .str (itoaF n) } else none
  | _ => none

def spRepl : List PV → Option Out
  | [.str s, .str old, .str new, .int .i64 n] => if s.length ≤ 65536 ∧ new.length ≤ 65536 ∧ 1 ≤ old.length then some { v := .str (Lib.replace s old new n) } else none
  | _ => none

def spCheck (σ : Nm → Option Ob) : List PV → Option Out
  | [.ref n 0] => match σ n with
    | some (.cells 99 [.nilP, x]) => some { v := .tup [], upd := some (n, .cells 99 [.ref n 0, x]) }
    | some (.cells 99 [.ref n' 0, _]) => if n' = n then some { v := .tup [] } else none
    | _ => none
  | _ => none

def spStr (σ : Nm → Option Ob) : List PV → Option Out
  | [.ref n 0] => match σ n with
    | some (.cells 99 [_, .nilS]) => some { v := .str [] }
    | some (.cells 99 [_, .arr n' 1 0 k]) => match σ n' with
      | some (.arr 1 5 xs) => match bytesOf (xs.take k) with
        | some s => if n' ≠ n ∧ 0 < k ∧ k ≤ xs.length ∧ k ≤ mostLen then some { v := .str s, upd := some (n', dead), kill := some n' } else none
        | none => none
      | _ => none
    | _ => none
  | _ => none

def sp0 (g : FuncId) (σ : Nm → Option Ob) (vs : List PV) : Option Out :=
  if g = 43 then spAs σ vs
  else if g = 81 then spIs vs
  else if g = 62 then spCount vs
  else if g = 135 then spIdx vs
  else if g = 99 then spRepl vs
  else if g = 100 then spFmt vs
  else if g = 106 then spCheck σ vs
  else if g = 65 then spStr σ vs
  else none

noncomputable def B0 : KB := { sp := sp0, L := limCall sp0 tab0, I := limIo sp0 tab0, isIo := ioFlag tab0, leans := leanFlag tab0 }

theorem shown_eval : evalFn sp0 tab0 60 Unit noHandler 0 8 [] () = some (.bool true, [], ()) := by kernel_rfl
end Go.Ab.Arrays

/-
  Array: calls of the machine.
-/
namespace Go.Ab.Arrays
open Go Go.Ab

def NotSp (g : FuncId) : Prop := g ≠ 43 ∧ g ≠ 81 ∧ g ≠ 62 ∧ g ≠ 135 ∧ g ≠ 99 ∧ g ≠ 100 ∧ g ≠ 106 ∧ g ≠ 65
instance (g : FuncId) : Decidable (NotSp g) := by unfold NotSp; infer_instance

theorem sp_none {g : FuncId} (h : NotSp g) (σ : Nm → Option Ob) (vs : List PV) : sp0 g σ vs = none := by
  unfold sp0
  rw [if_neg h.1, if_neg h.2.1, if_neg h.2.2.1, if_neg h.2.2.2.1, if_neg h.2.2.2.2.1, if_neg h.2.2.2.2.2.1, if_neg h.2.2.2.2.2.2.1, if_neg h.2.2.2.2.2.2.2]

theorem no_ref {n : Nm} {o : Nat} {vs : List PV} (hv : okVL vs = true) (hm : .ref n o ∈ vs) : False := by
  have := okVL_iff.1 hv _ hm
  simp [okV] at this

theorem io_flag : ∀ g, (iof0 g).isSome = ioFlag tab0 g := by
  intro g
  unfold iof0 ioFlag
  split
  · rfl
  · rename_i h1
    split
    · rename_i fn ht
      unfold tab0 at ht
      split at ht
      all_goals first | (exact (h1 rfl).elim) | (cases ht; done) | (cases ht; rfl)
    · rfl

theorem cfg_ok (d : Nat → RSh) : CfgOK (cfg0 B0 d) tab0 where
  L := rfl
  I := rfl
  isIo := rfl
  leans := rfl
  ioF g := io_flag g
  ioP g P h := by
    simp only [cfg0, iof0] at h
    split at h
    · cases h; exact ⟨fn64, rfl, by decide, by decide, by decide⟩
    · cases h
  spF g h σ vs := by
    simp only [cfg0, Bool.or_eq_false_iff, beq_eq_false_iff_ne] at h
    obtain ⟨⟨⟨⟨⟨⟨⟨h1, h2⟩, h3⟩, h4⟩, h5⟩, h6⟩, h7⟩, h8⟩ := h
    exact sp_none ⟨h1, h2, h3, h5, h4, h8, h6, h7⟩ σ vs
  loc g σ vs hv := by
    show sp0 g σ vs = sp0 g (fun _ => none) vs
    unfold sp0
    split
    · unfold spAs
      split
      · rfl
      · exact absurd (okVL_iff.1 hv _ (List.mem_cons_of_mem _ List.mem_cons_self)) (by simp [okV])
      · rfl
    iterate 5
      split
      · rfl
    split
    · unfold spCheck
      split
      · exact (no_ref hv List.mem_cons_self).elim
      · rfl
    split
    · unfold spStr
      split
      · exact (no_ref hv List.mem_cons_self).elim
      · rfl
    rfl
  asOk g p t n h σ nm ty cs h1 h2 := by
    simp only [cfg0] at h
    split at h
    · rename_i hc
      obtain ⟨rfl, rfl⟩ := hc
      cases h
      refine ⟨rfl, fun x hx => ?_⟩
      show sp0 43 σ [.iface 64 x, .iface 66 (.ref nm 0)] = some { v := .bool true, upd := some (nm, .cells ty x.cells) }
      unfold sp0 spAs asT0
      simp only [if_true, h1, h2, hx, and_self, true_or]
    · split at h
      · rename_i hc
        obtain ⟨rfl, rfl⟩ := hc
        cases h
        refine ⟨rfl, fun x hx => ?_⟩
        show sp0 43 σ [.iface 73 x, .iface 117 (.ref nm 0)] = some { v := .bool true, upd := some (nm, .cells ty x.cells) }
        unfold sp0 spAs asT0
        simp [h1, h2, hx]
      · cases h

/-- A call, by what its function is. -/
theorem call {d : Nat → RSh} {g : FuncId} {fn : RFn} {sh : RSh} {args : List PV} {u : PV} (ht : tab0 g = some fn) (hg : NotSp g) (ha : okVL args = true) (hl : Nat.ble args.length fn.nt = true)
    (hr : runK (cfg0 B0 d) fn sh noHandler 0 (args.map KV.cv) () = some (u, ())) (hio : fn.io = false := by rfl) : callO B0 sh (.fn g []) args = some u := by
  refine call_of_run (cfg_ok d) ht (cap := []) (by simpa using ha) (by simpa using Nat.le_of_ble_eq_true hl) (sp_none hg (fun _ => none) _) ?_ hio
  simpa using hr

/-- A call of what has no names, by the machine itself. -/
theorem call_eval {g : FuncId} {n : Nat} {u : PV} (hg : NotSp g) (h : evalFn sp0 tab0 n Unit noHandler 0 g [] () = some (u, [], ())) (hu : okV u = true) (hio : ioFlag tab0 g = false) : callO B0 .cl (.fn g []) [] = some u := by
  obtain ⟨e2, _, h2⟩ := evalFn_par n Unit Unit (fun _ _ => True) noHandler (fun _ => noHandler) (fun _ _ _ _ _ _ _ h => by cases h) 0 g [] () () trivial _ _ _ h
  have hL : B0.L Unit noHandler 0 g [] () = some (u, [], ()) := lim_of h2
  have hI : B0.isIo g = false := hio
  have hs : B0.sp g (fun _ => none) [] = none := sp_none hg _ _
  unfold callO
  simp [spO, hs, hI, hL, convO, convR, hu, chkO]

theorem shown_run : callO B0 .cl (.fn 8 []) [] = some (.bool true) := call_eval (by decide) shown_eval rfl rfl
end Go.Ab.Arrays

/-
  The library's functions that are taken by contract: (*strings.Builder).copyCheck and String, strings.Count of one byte, slices.Grow of nil.
-/
namespace Go.Proofs.AbAS
open Go.RowKit Go.Proofs

theorem lies_b : liesAt Tryz.prog Tryz.prog.depth 99 (2 / Tryz.prog.cellsOf 99) 0 99 1 = true := by kernel_rfl
theorem info_b' : (Tryz.prog.info? 99).map (·.size) = some 2 := by kernel_rfl
theorem info_b : ∃ j, Tryz.prog.info? 99 = some j ∧ j.size = 2 := Option.map_eq_some_iff.1 info_b'
theorem cells5 : Tryz.prog.cellsOf 5 = 1 := by kernel_rfl
set_option maxHeartbeats 1000000 in
set_option maxRecDepth 100000 in
theorem check_used (b : Nat) (w : World) (h0 : w.cell? ⟨b, 0, none⟩ = some (.pointer (some ⟨b, 0, none⟩))) :
    Calls Tryz.prog 106 #[.pointer (some ⟨b, 0, none⟩)] w fun e w' => e = .returned (.tuple #[]) ∧ w' = w := by
  obtain ⟨j, hj, _⟩ := info_b
  go_enter Tryz.func106, Tryz.ntmps106
  go_wp2
  rw [Lib.run_neq_ptr_same w _ Tryz.underlying96 hj]
  go_wp2
  go_end0
  exact ⟨rfl, rfl⟩

set_option maxHeartbeats 1000000 in
set_option maxRecDepth 100000 in
theorem check_fresh (b : Nat) (w : World) (h0 : w.cell? ⟨b, 0, none⟩ = some (.pointer none)) (hsh : w.shape? b = some (99, 2)) (hfz : w.frozen? ⟨b, 0, none⟩ = false) :
    Calls Tryz.prog 106 #[.pointer (some ⟨b, 0, none⟩)] w fun e w' => e = .returned (.tuple #[]) ∧ w' = w.setCell ⟨b, 0, none⟩ (.pointer (some ⟨b, 0, none⟩)) := by
  obtain ⟨j, hj, hjs⟩ := info_b
  go_enter Tryz.func106, Tryz.ntmps106
  go_wp2
  rw [Lib.run_to_unsafe w ⟨b, 0, none⟩ Tryz.underlying96 Tryz.underlying102 hj (by rw [hjs]; decide) hsh (Nat.zero_lt_succ 1)]
  simp only [Result.andThen]
  rw [Oper.upon_value]
  go_wp2
  rw [run_callFunc_extern Tryz.func123 (by kernel_rfl) (by kernel_rfl) (by kernel_rfl) (e := Extern.AbiNoEscape.same) (by kernel_rfl)]
  rw [Lib.run_noEscape]
  simp only [Result.andThen]
  rw [Oper.upon_value]
  go_wp2
  rw [Lib.run_from_unsafe w ⟨b, 0, none⟩ Tryz.underlying102 Tryz.underlying96 hj hsh lies_b]
  simp only [Result.andThen]
  rw [Oper.upon_value]
  go_wp2
  go_end0
  exact ⟨rfl, rfl⟩

set_option maxHeartbeats 1000000 in
set_option maxRecDepth 100000 in
theorem count_one (s : ByteArray) (c : UInt8) (w : World) :
    Calls Tryz.prog 62 #[.string s, .string ⟨#[c]⟩] w fun e w' => e = .returned (.int .i64 (Lib.countByte s.data.toList c)) ∧ w' = w := by
  go_enter Tryz.func62, Tryz.ntmps62
  go_wp2
  rw [run_callFunc_extern Tryz.func104 (by kernel_rfl) (by kernel_rfl) (by kernel_rfl) (e := Extern.BytealgCount.count) (by kernel_rfl), Lib.run_countString]
  simp only [Result.andThen]
  rw [Oper.upon_value]
  go_wp2
  go_ret
  exact ⟨rfl, rfl⟩

set_option maxHeartbeats 1000000 in
set_option maxRecDepth 100000 in
/-- String of a builder that holds a byte. -/
theorem string_some (b g cap : Nat) (p : Value) (cur : Array Value) (l : List UInt8) (w : World) (hbk : w.heap[b]? = some (.cells #[p, .slice (some ⟨g, 0, none⟩) l.length cap] 99 (0, 0)))
    (hg : w.heap[g]? = some (.cells cur 5 (0, 0))) (h0 : l ≠ []) (hcap : l.length ≤ cap) (hcs : l.length ≤ cur.size) (h63 : l.length ≤ 9223372036854775807) (hl : ∀ (j : Nat) (x : UInt8), l[j]? = some x → cur[j]? = some (Value.int .u8 (x.toNat : Int))) :
    Calls Tryz.prog 65 #[.pointer (some ⟨b, 0, none⟩)] w fun e w' => e = .returned (.string ⟨l.toArray⟩) ∧ w' = w.drew.freeze ⟨g, 0, none⟩ l.length := by
  have hl0 : l.length ≠ 0 := by simpa using h0
  have c1 : w.drew.cell? ⟨b, 1, none⟩ = some (.slice (some ⟨g, 0, none⟩) l.length cap) := by
    have : w.drew.heap[b]? = some (.cells #[p, .slice (some ⟨g, 0, none⟩) l.length cap] 99 (0, 0)) := hbk
    rw [Lib.cell_of_heap this]; rfl
  have hSD : (Builtin.unsafeSliceData_ #[97] 128 #[.slice (some ⟨g, 0, none⟩) l.length cap]).run Tryz.prog w.drew = .ok (.pointer (some ⟨g, 0, none⟩)) w.drew :=
    Lib.run_unsafeSliceData_row _ _ _ _ _ _ (by omega)
  have hUS : (Builtin.unsafeString_ #[128, 3] 9 #[.pointer (some ⟨g, 0, none⟩), .int .i64 l.length]).run Tryz.prog w.drew = .ok (.string ⟨l.toArray⟩) (w.drew.freeze ⟨g, 0, none⟩ l.length) := by
    refine Lib.run_unsafeString_row w.drew 128 3 9 5 Tryz.underlying128 cells5 g cur.size (by have hg' : w.drew.heap[g]? = some (.cells cur 5 (0, 0)) := hg; simp [World.shape?, hg']) l h0 hcs h63 ?_
    intro j x hx
    have hg' : w.drew.heap[g]? = some (.cells cur 5 (0, 0)) := hg
    have e : ((⟨g, 0, none⟩ : Addr).add j) = ⟨g, j, none⟩ := by cases j <;> simp [Addr.add]
    rw [e, Lib.cell_of_heap hg']
    exact hl j x hx
  have mixed : Tryz.prog.follows .mixedOrders = true := by kernel_rfl
  go_enter Tryz.func65, Tryz.ntmps65
  go_wp2
  go_region_o
  all_goals (go_wp2; go_ret; exact ⟨rfl, rfl⟩)

set_option maxHeartbeats 1000000 in
set_option maxRecDepth 100000 in
/-- String of a builder that has no list yet. -/
theorem string_nil (b : Nat) (p : Value) (w : World) (hbk : w.heap[b]? = some (.cells #[p, .slice none 0 0] 99 (0, 0))) :
    Calls Tryz.prog 65 #[.pointer (some ⟨b, 0, none⟩)] w fun e w' => e = .returned (.string ⟨#[]⟩) ∧ w' = w.drew := by
  have hUS : ∀ W q, (Builtin.unsafeString_ #[128, 3] 9 #[.pointer q, .int .i64 0]).run Tryz.prog W = .ok (.string .empty) W := fun W q => Lib.run_unsafeString_none W _ _ _ q
  have c1 : w.drew.cell? ⟨b, 1, none⟩ = some (.slice none 0 0) := by
    have : w.drew.heap[b]? = some (.cells #[p, .slice none 0 0] 99 (0, 0)) := hbk
    rw [Lib.cell_of_heap this]; rfl
  have hSD : (Builtin.unsafeSliceData_ #[97] 128 #[.slice none 0 0]).run Tryz.prog w.drew = .ok (.pointer none) w.drew := rfl
  have mixed : Tryz.prog.follows .mixedOrders = true := by kernel_rfl
  go_enter Tryz.func65, Tryz.ntmps65
  go_wp2
  go_region_o
  all_goals (go_wp2; go_ret; exact ⟨rfl, rfl⟩)

end Go.Proofs.AbAS

/-
  Array: the library's functions out of the shelf of contracts: strings.Replace, strconv.FormatInt; internal/stringslite.IndexByte.
-/
namespace Go.Proofs
open Go.Shelf Go.RowKit Go.Sort Go.Lib
def Tryz.lays154_ren : Go.Shelf.Ren := ⟨fun | 154 => 99 | 138 => 62 | 165 => 119 | 143 => 105 | 166 => 64 | 197 => 120 | 169 => 65 | 195 => 103 | 218 => 104 | 240 => 106 | 241 => 129 | 219 => 122 | 260 => 130 | 276 => 123 | 277 => 140 | 217 => 135 | 225 => 136 | 224 => 137 | 267 => 138 | 266 => 146 | 314 => 147 | n => n, fun | 9 => 9 | 3 => 3 | 4 => 4 | 72 => 99 | 0 => 0 | 76 => 46 | 105 => 158 | 21 => 21 | 5 => 5 | 70 => 96 | 20 => 20 | 37 => 97 | 75 => 42 | 127 => 128 | 164 => 102 | 46 => 147 | 119 => 179 | 139 => 182 | 138 => 181 | 146 => 189 | 51 => 185 | 80 => 101 | n => n, fun | 1 => 3 | 3 => 6 | 4 => 7 | n => n⟩
theorem Tryz.lays154 : Go.Proofs.Lays.n154 Tryz.prog Tryz.lays154_ren := {
  mixed := by kernel_rfl
  f138 := Tryz.func62.trans (congrArg some (by kernel_rfl))
  f143 := Tryz.func105.trans (congrArg some (by kernel_rfl))
  f154 := Tryz.func99.trans (congrArg some (by kernel_rfl))
  f165 := Tryz.func119.trans (congrArg some (by kernel_rfl))
  f166 := Tryz.func64.trans (congrArg some (by kernel_rfl))
  f169 := Tryz.func65.trans (congrArg some (by kernel_rfl))
  f195 := Tryz.func103.trans (congrArg some (by kernel_rfl))
  f197 := Tryz.func120.trans (congrArg some (by kernel_rfl))
  f217 := Tryz.func135.trans (congrArg some (by kernel_rfl))
  f218 := Tryz.func104.trans (congrArg some (by kernel_rfl))
  f219 := Tryz.func122.trans (congrArg some (by kernel_rfl))
  f224 := Tryz.func137.trans (congrArg some (by kernel_rfl))
  f225 := Tryz.func136.trans (congrArg some (by kernel_rfl))
  f240 := Tryz.func106.trans (congrArg some (by kernel_rfl))
  f241 := Tryz.func129.trans (congrArg some (by kernel_rfl))
  f260 := Tryz.func130.trans (congrArg some (by kernel_rfl))
  f266 := Tryz.func146.trans (congrArg some (by kernel_rfl))
  f267 := Tryz.func138.trans (congrArg some (by kernel_rfl))
  f276 := Tryz.func123.trans (congrArg some (by kernel_rfl))
  f277 := Tryz.func140.trans (congrArg some (by kernel_rfl))
  f314 := Tryz.func147.trans (congrArg some (by kernel_rfl))
  t0 := Tryz.underlying0
  a0 := Tryz.isAgg0
  z0 := Tryz.sizeOf0
  v0 := Tryz.zeroValue0
  t3 := Tryz.underlying3
  a3 := Tryz.isAgg3
  z3 := Tryz.sizeOf3
  v3 := Tryz.zeroValue3
  t4 := Tryz.underlying4
  a4 := Tryz.isAgg4
  z4 := Tryz.sizeOf4
  v4 := Tryz.zeroValue4
  t5 := Tryz.underlying5
  a5 := Tryz.isAgg5
  z5 := Tryz.sizeOf5
  v5 := Tryz.zeroValue5
  t9 := Tryz.underlying9
  a9 := Tryz.isAgg9
  z9 := Tryz.sizeOf9
  v9 := Tryz.zeroValue9
  t20 := Tryz.underlying20
  a20 := Tryz.isAgg20
  z20 := Tryz.sizeOf20
  v20 := Tryz.zeroValue20
  t21 := Tryz.underlying21
  a21 := Tryz.isAgg21
  z21 := Tryz.sizeOf21
  v21 := Tryz.zeroValue21
  t37 := Tryz.underlying97
  a37 := Tryz.isAgg97
  z37 := Tryz.sizeOf97
  v37 := Tryz.zeroValue97
  t46 := Tryz.underlying147
  a46 := Tryz.isAgg147
  z46 := Tryz.sizeOf147
  v46 := Tryz.zeroValue147
  t51 := Tryz.underlying185
  a51 := Tryz.isAgg185
  z51 := Tryz.sizeOf185
  v51 := Tryz.zeroValue185
  t70 := Tryz.underlying96
  a70 := Tryz.isAgg96
  z70 := Tryz.sizeOf96
  v70 := Tryz.zeroValue96
  t72 := Tryz.underlying99
  a72 := Tryz.isAgg99
  z72 := Tryz.sizeOf99
  v72 := Tryz.zeroValue99
  t75 := Tryz.underlying42
  a75 := Tryz.isAgg42
  z75 := Tryz.sizeOf42
  v75 := Tryz.zeroValue42
  t76 := Tryz.underlying46
  a76 := Tryz.isAgg46
  z76 := Tryz.sizeOf46
  v76 := Tryz.zeroValue46
  t105 := Tryz.underlying158
  a105 := Tryz.isAgg158
  z105 := Tryz.sizeOf158
  v105 := Tryz.zeroValue158
  t119 := Tryz.underlying179
  a119 := Tryz.isAgg179
  z119 := Tryz.sizeOf179
  t127 := Tryz.underlying128
  a127 := Tryz.isAgg128
  z127 := Tryz.sizeOf128
  v127 := Tryz.zeroValue128
  t138 := Tryz.underlying181
  a138 := Tryz.isAgg181
  z138 := Tryz.sizeOf181
  v138 := Tryz.zeroValue181
  t139 := Tryz.underlying182
  a139 := Tryz.isAgg182
  z139 := Tryz.sizeOf182
  v139 := Tryz.zeroValue182
  t146 := Tryz.underlying189
  a146 := Tryz.isAgg189
  z146 := Tryz.sizeOf189
  v146 := Tryz.zeroValue189
  t164 := Tryz.underlying102
  a164 := Tryz.isAgg102
  z164 := Tryz.sizeOf102
  v164 := Tryz.zeroValue102
  g1 := by kernel_rfl
  g3 := by kernel_rfl
  g4 := by kernel_rfl }

def Tryz.lays173_ren : Go.Shelf.Ren := ⟨fun | 173 => 100 | 246 => 121 | 283 => 131 | 284 => 132 | 285 => 133 | 286 => 134 | 129 => 142 | 317 => 141 | 318 => 143 | 319 => 144 | 320 => 145 | 337 => 148 | 338 => 149 | n => n, fun | 2 => 2 | 3 => 3 | 9 => 9 | 4 => 4 | 171 => 169 | 0 => 0 | 53 => 143 | 37 => 97 | 5 => 5 | 173 => 172 | 212 => 184 | 51 => 185 | 20 => 20 | 213 => 186 | 46 => 147 | 232 => 192 | 233 => 193 | n => n, fun | 17 => 8 | 18 => 9 | 19 => 10 | n => n⟩
theorem Tryz.lays173 : Go.Proofs.LaysM.n173 Tryz.prog Tryz.lays173_ren := {
  mixed := by kernel_rfl
  f129 := Tryz.func142.trans (congrArg some (by kernel_rfl))
  f173 := Tryz.func100.trans (congrArg some (by kernel_rfl))
  f246 := Tryz.func121.trans (congrArg some (by kernel_rfl))
  f283 := Tryz.func131.trans (congrArg some (by kernel_rfl))
  f284 := Tryz.func132.trans (congrArg some (by kernel_rfl))
  f285 := Tryz.func133.trans (congrArg some (by kernel_rfl))
  f286 := Tryz.func134.trans (congrArg some (by kernel_rfl))
  f317 := Tryz.func141.trans (congrArg some (by kernel_rfl))
  f318 := Tryz.func143.trans (congrArg some (by kernel_rfl))
  f319 := Tryz.func144.trans (congrArg some (by kernel_rfl))
  f320 := Tryz.func145.trans (congrArg some (by kernel_rfl))
  f337 := Tryz.func148.trans (congrArg some (by kernel_rfl))
  f338 := Tryz.func149.trans (congrArg some (by kernel_rfl))
  t0 := Tryz.underlying0
  a0 := Tryz.isAgg0
  z0 := Tryz.sizeOf0
  v0 := Tryz.zeroValue0
  t2 := Tryz.underlying2
  a2 := Tryz.isAgg2
  z2 := Tryz.sizeOf2
  v2 := Tryz.zeroValue2
  t3 := Tryz.underlying3
  a3 := Tryz.isAgg3
  z3 := Tryz.sizeOf3
  v3 := Tryz.zeroValue3
  t4 := Tryz.underlying4
  a4 := Tryz.isAgg4
  z4 := Tryz.sizeOf4
  v4 := Tryz.zeroValue4
  t5 := Tryz.underlying5
  a5 := Tryz.isAgg5
  z5 := Tryz.sizeOf5
  v5 := Tryz.zeroValue5
  t9 := Tryz.underlying9
  a9 := Tryz.isAgg9
  z9 := Tryz.sizeOf9
  v9 := Tryz.zeroValue9
  t20 := Tryz.underlying20
  a20 := Tryz.isAgg20
  z20 := Tryz.sizeOf20
  v20 := Tryz.zeroValue20
  t37 := Tryz.underlying97
  a37 := Tryz.isAgg97
  z37 := Tryz.sizeOf97
  v37 := Tryz.zeroValue97
  t46 := Tryz.underlying147
  a46 := Tryz.isAgg147
  z46 := Tryz.sizeOf147
  v46 := Tryz.zeroValue147
  t51 := Tryz.underlying185
  a51 := Tryz.isAgg185
  z51 := Tryz.sizeOf185
  v51 := Tryz.zeroValue185
  t53 := Tryz.underlying143
  a53 := Tryz.isAgg143
  z53 := Tryz.sizeOf143
  v53 := Tryz.zeroValue143
  t171 := Tryz.underlying169
  a171 := Tryz.isAgg169
  z171 := Tryz.sizeOf169
  v171 := Tryz.zeroValue169
  t173 := Tryz.underlying172
  a173 := Tryz.isAgg172
  z173 := Tryz.sizeOf172
  v173 := Tryz.zeroValue172
  t212 := Tryz.underlying184
  a212 := Tryz.isAgg184
  z212 := Tryz.sizeOf184
  v212 := Tryz.zeroValue184
  t213 := Tryz.underlying186
  a213 := Tryz.isAgg186
  z213 := Tryz.sizeOf186
  t232 := Tryz.underlying192
  a232 := Tryz.isAgg192
  z232 := Tryz.sizeOf192
  v232 := Tryz.zeroValue192
  t233 := Tryz.underlying193
  a233 := Tryz.isAgg193
  z233 := Tryz.sizeOf193
  v233 := Tryz.zeroValue193
  g17 := by kernel_rfl
  g18 := by kernel_rfl
  g19 := by kernel_rfl
  i0 := by kernel_rfl
  i2 := by kernel_rfl
  i3 := by kernel_rfl
  i4 := by kernel_rfl
  i5 := by kernel_rfl
  i9 := by kernel_rfl
  i20 := by kernel_rfl
  i37 := by kernel_rfl
  i46 := by kernel_rfl
  i51 := by kernel_rfl
  i53 := by kernel_rfl
  i171 := by kernel_rfl
  i173 := by kernel_rfl
  i212 := by kernel_rfl
  i232 := by kernel_rfl
  i233 := by kernel_rfl
  m17 := by kernel_rfl
  m18 := by kernel_rfl
  m19 := by kernel_rfl }


theorem Tryz.extra : Builder.Extra Tryz.prog Tryz.lays154_ren where
  sizeBuilder := by kernel_rfl
  liesBuilder := by kernel_rfl
  t5 := Tryz.lays154.t5
  a5 := Tryz.lays154.a5
  z5 := Tryz.lays154.z5
  v5 := Tryz.lays154.v5
  infoByte := by kernel_rfl
  cellsByte := by kernel_rfl
  sizeByte := by kernel_rfl
  neB5 := by decide
namespace AbSh
theorem repl_run (s old new : ByteArray) (n m : Int) (w : World) (hs : s.size < 4294967281) (hm : w.cell? ⟨3, 0, none⟩ = some (.int .i64 m)) (h1 : 1 ≤ old.size) (hlen : s.size + Lib.countB s old * new.size ≤ 140737488355328) :
    Calls Tryz.prog 99 #[.string s, .string old, .string new, .int .i64 n] w fun e w' => e = .returned (.string ⟨(Lib.replace s.data.toList old.data.toList new.data.toList n).toArray⟩) ∧ Below w.heap.size w w' :=
  Any.strings_Replace Tryz.lays154 Tryz.extra s old new n m w hs hm h1 hlen
theorem fmt_run (n : Int) (h0 : -9223372036854775808 ≤ n) (h1 : n ≤ 9223372036854775807) (w : World) (ht : Lib.TabIs Tryz.prog w "internal/strconv.uint64pow10" .u64 Lib.pow10Tab) :
    Calls Tryz.prog 100 #[.int .i64 n, .int .i64 10] w fun e w' => e = .returned (.string ⟨(Lib.itoa n).toArray⟩) ∧ ∃ k os, w' = grow (w.drewN k) os :=
  Any.strconv_FormatInt_10 Tryz.lays173 n h0 h1 w ht

set_option maxHeartbeats 1000000 in
set_option maxRecDepth 100000 in
theorem index_run (s : ByteArray) (c : Int) (w : World) :
    Calls Tryz.prog 135 #[.string s, .int .u8 c] w fun e w' => e = .returned (.int .i64 (Lib.indexByte s.data.toList c.toNat.toUInt8)) ∧ w' = w := by
  go_enter Tryz.func135, Tryz.ntmps135
  go_wp2
  rw [run_callFunc_extern Tryz.func146 (by kernel_rfl) (by kernel_rfl) (by kernel_rfl) (e := Extern.BytealgIndexByte.indexByte) (by kernel_rfl), Lib.run_indexByteString]
  simp only [Result.andThen]
  rw [Oper.upon_value]
  go_wp2
  go_ret
  exact ⟨rfl, rfl⟩
end AbSh
end Go.Proofs

/-
  errors.Is at errors of the make of errors.New.
-/
namespace Go.Proofs.AbIsA
open Go.RowKit Go.Extern.Stop Go.Stop Go.Extern Go.Proofs

theorem isTypeOf (v : Value) (w : World) : (Extern.ReflectliteType.typeOf #[.iface 175 v]).run Tryz.prog w = .ok (.iface 130 (.agg #[.pointer (some ⟨11, 175, none⟩)])) w := by kernel_rfl
theorem isComparable (w : World) : ((Extern.ReflectliteType.method fun t => do Extern.Rtype.noPackHeld "Comparable" t; (fun a => Value.bool a.comparable) <$> typeInfo t) #[.agg #[.pointer (some ⟨11, 175, none⟩)]]).run Tryz.prog w = .ok (.bool true) w := by kernel_rfl
theorem isMethodComparable (v : Value) (w : World) : (Go.method 321 130 v "Comparable").run Tryz.prog w = .ok (175, v) w := by kernel_rfl
theorem isComp : (Tryz.prog.info? 175).map (·.comparable) = some true := by kernel_rfl
theorem isSize : (Tryz.prog.info? 177).map (·.size) = some 1 := by kernel_rfl
theorem noIs175 (v : Value) (xT : TypeId) (w : World) : (Instr.typeAssert (.iface 175 v) xT 161 true).run Tryz.prog w = .ok (.tuple #[.nilIface, .bool false]) w := run_typeAssert_lacksB Tryz.underlying161 (by kernel_rfl) (by kernel_rfl) v xT w
theorem noUn175 (v : Value) (xT : TypeId) (w : World) : (Instr.typeAssert (.iface 175 v) xT 138 true).run Tryz.prog w = .ok (.tuple #[.nilIface, .bool false]) w := run_typeAssert_lacksB Tryz.underlying138 (by kernel_rfl) (by kernel_rfl) v xT w
theorem noUs175 (v : Value) (xT : TypeId) (w : World) : (Instr.typeAssert (.iface 175 v) xT 140 true).run Tryz.prog w = .ok (.tuple #[.nilIface, .bool false]) w := run_typeAssert_lacksB Tryz.underlying140 (by kernel_rfl) (by kernel_rfl) v xT w
theorem noIs73 (v : Value) (xT : TypeId) (w : World) : (Instr.typeAssert (.iface 73 v) xT 161 true).run Tryz.prog w = .ok (.tuple #[.nilIface, .bool false]) w := run_typeAssert_lacksB Tryz.underlying161 (by kernel_rfl) (by kernel_rfl) v xT w
theorem noUn73 (v : Value) (xT : TypeId) (w : World) : (Instr.typeAssert (.iface 73 v) xT 138 true).run Tryz.prog w = .ok (.tuple #[.nilIface, .bool false]) w := run_typeAssert_lacksB Tryz.underlying138 (by kernel_rfl) (by kernel_rfl) v xT w
theorem noUs73 (v : Value) (xT : TypeId) (w : World) : (Instr.typeAssert (.iface 73 v) xT 140 true).run Tryz.prog w = .ok (.tuple #[.nilIface, .bool false]) w := run_typeAssert_lacksB Tryz.underlying140 (by kernel_rfl) (by kernel_rfl) v xT w

set_option maxHeartbeats 1000000 in
set_option maxRecDepth 100000 in
/-- errors.Is(x, x). -/
theorem is_same (a : Addr) (w : World) :
    Calls Tryz.prog 81 #[.iface 175 (.pointer (some a)), .iface 175 (.pointer (some a))] w fun e w' => e = .returned (.bool true) ∧ w' = w := by
  obtain ⟨i, hi, hcmp⟩ := Option.map_eq_some_iff.1 isComp
  obtain ⟨j, hj, hjs⟩ := Option.map_eq_some_iff.1 isSize
  have h8 := @run_callFunc_extern Tryz.prog 107 _ Extern.ReflectliteType.typeOf Tryz.func107 (by kernel_rfl) (by kernel_rfl) (by kernel_rfl) (by kernel_rfl)
  have h32 := @run_callFunc_extern Tryz.prog 175 _ (Extern.ReflectliteType.method fun t => do Extern.Rtype.noPackHeld "Comparable" t; pure (.bool (← typeInfo t).comparable)) Tryz.func175 (by kernel_rfl) (by kernel_rfl) (by kernel_rfl) (by kernel_rfl)
  have tT := isTypeOf
  have cT := isComparable
  have mR := isMethodComparable
  have heq := run_eql_iface_ptr_same (P := Tryz.prog) w a Tryz.underlying42 Tryz.underlying175 hi hcmp hj
  go_enter Tryz.func81, Tryz.ntmps81
  go_wp2
  refine wp_loop_rounds 1 ?_
  rw [rounds_succ]
  go_wp2
  go_ret
  exact ⟨rfl, rfl⟩

set_option maxHeartbeats 1000000 in
set_option maxRecDepth 100000 in
/-- errors.Is(nil, x). -/
theorem is_nil (b : Addr) (w : World) :
    Calls Tryz.prog 81 #[.nilIface, .iface 175 (.pointer (some b))] w fun e w' => e = .returned (.bool false) ∧ w' = w := by
  have hn := run_eql_iface_nil_left (P := Tryz.prog) w 175 (.pointer (some b)) Tryz.underlying42
  go_enter Tryz.func81, Tryz.ntmps81
  go_wp2
  go_ret
  exact ⟨rfl, rfl⟩

set_option maxHeartbeats 1000000 in
set_option maxRecDepth 100000 in
/-- errors.Is(x, y), two different ones. -/
theorem is_other (a b : Addr) (ca cb : Array Value) (ta tb : TypeId) (w : World) (hne : a ≠ b) (ha : w.heap[a.block]? = some (.cells ca ta (0, 0))) (hb : w.heap[b.block]? = some (.cells cb tb (0, 0))) :
    Calls Tryz.prog 81 #[.iface 175 (.pointer (some a)), .iface 175 (.pointer (some b))] w fun e w' => e = .returned (.bool false) ∧ w' = w := by
  obtain ⟨i, hi, hcmp⟩ := Option.map_eq_some_iff.1 isComp
  obtain ⟨j, hj, hjs⟩ := Option.map_eq_some_iff.1 isSize
  have h8 := @run_callFunc_extern Tryz.prog 107 _ Extern.ReflectliteType.typeOf Tryz.func107 (by kernel_rfl) (by kernel_rfl) (by kernel_rfl) (by kernel_rfl)
  have h32 := @run_callFunc_extern Tryz.prog 175 _ (Extern.ReflectliteType.method fun t => do Extern.Rtype.noPackHeld "Comparable" t; pure (.bool (← typeInfo t).comparable)) Tryz.func175 (by kernel_rfl) (by kernel_rfl) (by kernel_rfl) (by kernel_rfl)
  have tT := isTypeOf
  have cT := isComparable
  have mR := isMethodComparable
  have nE := noIs175
  have uE := noUn175
  have vE := noUs175
  have heq := run_eql_iface_ptr_other (P := Tryz.prog) w Tryz.underlying42 Tryz.underlying175 hi hcmp hj (by rw [hjs]; decide) hne ha hb
  go_enter Tryz.func81, Tryz.ntmps81
  go_wp2
  refine wp_loop_rounds 1 ?_
  rw [rounds_succ]
  go_wp2
  go_ret
  exact ⟨rfl, rfl⟩

set_option maxHeartbeats 1000000 in
set_option maxRecDepth 100000 in
/-- errors.Is(e, x), e of another type. -/
theorem is_type73 (v : Value) (b : Addr) (w : World) :
    Calls Tryz.prog 81 #[.iface 73 v, .iface 175 (.pointer (some b))] w fun e w' => e = .returned (.bool false) ∧ w' = w := by
  have h8 := @run_callFunc_extern Tryz.prog 107 _ Extern.ReflectliteType.typeOf Tryz.func107 (by kernel_rfl) (by kernel_rfl) (by kernel_rfl) (by kernel_rfl)
  have h32 := @run_callFunc_extern Tryz.prog 175 _ (Extern.ReflectliteType.method fun t => do Extern.Rtype.noPackHeld "Comparable" t; pure (.bool (← typeInfo t).comparable)) Tryz.func175 (by kernel_rfl) (by kernel_rfl) (by kernel_rfl) (by kernel_rfl)
  have tT := isTypeOf
  have cT := isComparable
  have mR := isMethodComparable
  have nE := noIs73
  have uE := noUn73
  have vE := noUs73
  have hty := run_eql_iface_types (P := Tryz.prog) 73 175 v (.pointer (some b)) Tryz.underlying42 (by decide) w
  go_enter Tryz.func81, Tryz.ntmps81
  go_wp2
  refine wp_loop_rounds 1 ?_
  rw [rounds_succ]
  go_wp2
  go_ret
  exact ⟨rfl, rfl⟩
end Go.Proofs.AbIsA

/-
  Place: errors.As at the target that the program has (a variable of the type of its own errors).
-/
namespace Go.Proofs.AbAsA
open Go.RowKit Go.Extern.Stop Go.Stop Go.Extern

/-- errors.As(nil, target). -/
theorem as_nil (t : Value) (w : World) :
    Calls Tryz.prog 43 #[.nilIface, t] w fun e w' => e = .returned (.bool false) ∧ w' = w := by
  go_enter Tryz.func43, Tryz.ntmps43
  go_wp2
  go_ret
  exact ⟨rfl, rfl⟩

/-! ### CLOSED FACTS ON THE MODEL's ENTRIES FOR internal/reflectlite, at this program's types: 25: *p.E · 27: **p.E · 23: error · 45: reflectlite's rtype · 1: how many package-level variables the dump has -/
theorem Tryz.valueOf27 (t : Addr) (w : World) : (ReflectliteValue.unpack (.iface 66 (.pointer (some t)))).run Tryz.prog w
    = .ok (.agg #[.pointer (some ⟨11, 66, none⟩), .pointer (some ⟨w.heap.size, 0, none⟩), .int .u64 150]) (w.alloc (.cells #[.pointer (some t)] 66)) := by kernel_rfl
theorem Tryz.type27 (a : Addr) (w : World) : (ReflectliteValue.methodAny (ReflectliteValue.valueError "reflectlite.Value.Type" 0) (fun t _ _ _ => ReflectliteType.toType t) #[.agg #[.pointer (some ⟨11, 66, none⟩), .pointer (some a), .int .u64 150]]).run Tryz.prog w
    = .ok (.iface 130 (.agg #[.pointer (some ⟨11, 66, none⟩)])) w := by kernel_rfl
theorem Tryz.methodKind (h : Value) (w : World) : (Go.method 321 130 (.agg #[h]) "Kind").run Tryz.prog w = .ok (164, h) w := by kernel_rfl
theorem Tryz.kind27 (w : World) : ((ReflectliteType.abiMethod fun t => Functor.map (fun a : Nat => Value.int IntKind.u8 (a : Int)) (Rtype.kind t)) #[.pointer (some ⟨11, 66, none⟩)]).run Tryz.prog w = .ok (.int .u8 22) w := by kernel_rfl
theorem Tryz.kind25 (w : World) : ((ReflectliteType.abiMethod fun t => Functor.map (fun a : Nat => Value.int IntKind.u8 (a : Int)) (Rtype.kind t)) #[.pointer (some ⟨11, 64, none⟩)]).run Tryz.prog w = .ok (.int .u8 25) w := by kernel_rfl

/-! ### THE ENTRIES THAT READ OR WRITE MEMORY: laws with a premise on the cell (after Derived/Lib/ReflectliteSlice.lean's manner: each unfolding a lemma of its own, by rfl) -/
theorem rlm (z : Sem Value) (f : TypeId → Addr → Nat → Nat → Sem Value) (v : Value) :
    ReflectliteValue.method z f #[v] = (do match ← ReflectliteValue.parts v with | none => z | some (t, a, fl) => f t a fl (fl % 32)) := rfl
theorem Tryz.parts27 (a : Addr) (w : World) : (ReflectliteValue.parts (.agg #[.pointer (some ⟨11, 66, none⟩), .pointer (some a), .int .u64 150])).run Tryz.prog w = .ok (some (66, a, 150)) w := by kernel_rfl
/-- (Value).IsNil at the Value of a **p.E that is not nil. -/
theorem Tryz.isNil27 (a p : Addr) (W : World) (ha : W.cell? a = some (.pointer (some p))) :
    (ReflectliteValue.method (ReflectliteValue.valueError "reflectlite.Value.IsNil" 0) ReflectliteValue.isNil #[.agg #[.pointer (some ⟨11, 66, none⟩), .pointer (some a), .int .u64 150]]).run Tryz.prog W = .ok (.bool false) W := by
  rw [rlm]
  simp only [Sem.run_bind, Tryz.parts27, Result.andThen]
  simp [ReflectliteValue.isNil, loadVar, isAgg, underlying, Tryz.underlying66, ha, Result.andThen]

theorem Tryz.methodElem (h : Value) (w : World) : (Go.method 321 130 (.agg #[h]) "Elem").run Tryz.prog w = .ok (176, .agg #[h]) w := by kernel_rfl
theorem Tryz.methodImplements (h : Value) (w : World) : (Go.method 321 130 (.agg #[h]) "Implements").run Tryz.prog w = .ok (177, .agg #[h]) w := by kernel_rfl
theorem Tryz.methodAssignableTo (h : Value) (w : World) : (Go.method 321 130 (.agg #[h]) "AssignableTo").run Tryz.prog w = .ok (174, .agg #[h]) w := by kernel_rfl
theorem Tryz.elem27 (w : World) : (ReflectliteType.method ReflectliteType.elem #[.agg #[.pointer (some ⟨11, 66, none⟩)]]).run Tryz.prog w = .ok (.iface 130 (.agg #[.pointer (some ⟨11, 64, none⟩)])) w := by kernel_rfl
theorem Tryz.implements25 (w : World) : (ReflectliteType.relation "Implements" ReflectliteType.implements_ #[.agg #[.pointer (some ⟨11, 64, none⟩)], .iface 130 (.agg #[.pointer (some ⟨11, 42, none⟩)])]).run Tryz.prog w = .ok (.bool true) w := by kernel_rfl
theorem Tryz.typeOf25 (v : Value) (w : World) : (ReflectliteType.typeOf #[.iface 64 v]).run Tryz.prog w = .ok (.iface 130 (.agg #[.pointer (some ⟨11, 64, none⟩)])) w := by kernel_rfl
theorem Tryz.assignable25 (w : World) : (ReflectliteType.relation "AssignableTo" ReflectliteType.assignableTo #[.agg #[.pointer (some ⟨11, 64, none⟩)], .iface 130 (.agg #[.pointer (some ⟨11, 64, none⟩)])]).run Tryz.prog w = .ok (.bool true) w := by kernel_rfl
theorem Tryz.valueOf25 (e : Value) (w : World) : (ReflectliteValue.unpack (.iface 64 (.agg #[e]))).run Tryz.prog w
    = .ok (.agg #[.pointer (some ⟨11, 64, none⟩), .pointer (some ⟨w.heap.size, 0, none⟩), .int .u64 153]) (w.alloc (.cells #[e] 64)) := by kernel_rfl

theorem Tryz.elemOf27 (w : World) : (Rtype.elem? 66).run Tryz.prog w = .ok (some 64) w := by kernel_rfl
theorem Tryz.mk25 (p : Addr) (w : World) : (ReflectliteValue.mk 64 p ReflectliteValue.flagAddr).run Tryz.prog w = .ok (.agg #[.pointer (some ⟨11, 64, none⟩), .pointer (some p), .int .u64 409]) w := by kernel_rfl
/-- (Value).Elem at the Value of a **p.E that is not nil: the Value of the *p.E variable that it points to, addressable. -/
theorem Tryz.elemV27 (a p : Addr) (W : World) (ha : W.cell? a = some (.pointer (some p))) :
    (ReflectliteValue.method (ReflectliteValue.valueError "reflectlite.Value.Elem" 0) ReflectliteValue.elem #[.agg #[.pointer (some ⟨11, 66, none⟩), .pointer (some a), .int .u64 150]]).run Tryz.prog W
      = .ok (.agg #[.pointer (some ⟨11, 64, none⟩), .pointer (some p), .int .u64 409]) W := by
  rw [rlm]
  simp only [Sem.run_bind, Tryz.parts27, Result.andThen]
  simp [ReflectliteValue.elem, loadVar, isAgg, underlying, Tryz.underlying66, ha, Result.andThen, Tryz.elemOf27, Tryz.mk25]
theorem rls (v x : Value) : ReflectliteValue.set #[v, x] = (do
    let (some (dst, a, fl), some (src, b, _)) := (← ReflectliteValue.parts v, ← ReflectliteValue.parts x)
      | unsupported (.noEntry "extern/(internal/reflectlite.Value).Set.zeroValue")
    if fl / ReflectliteValue.flagAddr % 2 == 0 then unsupported (.noEntry "extern/(internal/reflectlite.Value).Set.unaddressable")
    let val ← loadVar src b
    if ← Rtype.directlyAssignable dst src then storeVar dst a val
    else if ← Rtype.implements dst src then
      if (← Rtype.kind src) == 20 then
        match val with
        | .nilIface => unsupported (.noEntry "extern/reflectlite: a nil value of one interface type handed on as a value of another")
        | _ => storeVar dst a val
      else storeVar dst a (.iface src val)
    else panicString ("reflectlite.Set: value of type " ++ (← Rtype.spelt src) ++ " is not assignable to type " ++ (← Rtype.spelt dst))
    pure (.tuple #[])) := rfl
theorem Tryz.parts25a (a : Addr) (w : World) : (ReflectliteValue.parts (.agg #[.pointer (some ⟨11, 64, none⟩), .pointer (some a), .int .u64 409])).run Tryz.prog w = .ok (some (64, a, 409)) w := by kernel_rfl
theorem Tryz.parts25 (a : Addr) (w : World) : (ReflectliteValue.parts (.agg #[.pointer (some ⟨11, 64, none⟩), .pointer (some a), .int .u64 153])).run Tryz.prog w = .ok (some (64, a, 153)) w := by kernel_rfl
theorem Tryz.direct25 (w : World) : (Rtype.directlyAssignable 64 64).run Tryz.prog w = .ok true w := by kernel_rfl
theorem Tryz.size25 (w : World) : (sizeOf 64).run Tryz.prog w = .ok 1 w := by kernel_rfl



/-- (Value).Set: the variable at 'ta' gets what the Value's own variable 'b' holds. -/
theorem Tryz.set25 (ta b : Addr) (e old : Value) (h1 : e.oneCell' = true) (W : World) (hb : W.cell? b = some e) (ht : W.cell? ta = some old) (hf : W.frozen? ta = false) :
    (ReflectliteValue.set #[.agg #[.pointer (some ⟨11, 64, none⟩), .pointer (some ta), .int .u64 409], .agg #[.pointer (some ⟨11, 64, none⟩), .pointer (some b), .int .u64 153]]).run Tryz.prog W
      = .ok (.tuple #[]) (W.setCell ta e) := by
  rw [rls]
  simp only [Sem.run_bind, Tryz.parts25a, Tryz.parts25, Result.andThen]
  simp [ReflectliteValue.flagAddr, loadVar, Tryz.isAgg64, loadCells, loadCellsFrom, hb, Result.andThen, Tryz.direct25, storeVar, Value.cells, storeCells, Addr.add]
  rw [run_store Tryz.prog W ta _ _ h1]
  simp [ht, hf]

theorem valueOf51g (v : Value) (w : World) : (ReflectliteValue.unpack (.iface 64 v)).run Tryz.prog w
    = .ok (.agg #[.pointer (some ⟨11, 64, none⟩), .pointer (some ⟨w.heap.size, 0, none⟩), .int .u64 153]) (w.alloc (.cells v.cells 64)) := by kernel_rfl
theorem valueOf51 (v n : Value) (hv : v.cells = #[n]) (w : World) : (ReflectliteValue.unpack (.iface 64 v)).run Tryz.prog w
    = .ok (.agg #[.pointer (some ⟨11, 64, none⟩), .pointer (some ⟨w.heap.size, 0, none⟩), .int .u64 153]) (w.alloc (.cells #[n] 64)) := by rw [valueOf51g, hv]

set_option maxHeartbeats 8000000 in
set_option maxRecDepth 100000 in
theorem as_hit (v n : Value) (hv : v.cells = #[n]) (h1 : n.oneCell' = true) (t : Addr) (old : Value) (w : World) (hg : w.cell? ⟨0, 0, none⟩ = some (.iface 130 (.agg #[.pointer (some ⟨11, 42, none⟩)]))) (ht0 : w.cell? t = some old) (hf0 : w.frozen? t = false) :
    Calls Tryz.prog 43 #[.iface 64 v, .iface 66 (.pointer (some t))] w fun ev w' => ev = .returned (.bool true) ∧ w' = ((((w.alloc (.cells #[.pointer (some t)] 66)).alloc (.cells #[.pointer (some ⟨11, 66, none⟩), .pointer (some ⟨w.heap.size, 0, none⟩), .int .u64 150] 105)).alloc (.cells #[.pointer (some ⟨11, 66, none⟩), .pointer (some ⟨w.heap.size, 0, none⟩), .int .u64 150] 105)).alloc (.cells #[n] 64)).setCell t n := by
  have h6 := @run_callFunc_extern Tryz.prog 66 _ (fun args => ReflectliteValue.unpack (args.getD 0 (.tuple #[]))) Tryz.func66 (by kernel_rfl) (by kernel_rfl) (by kernel_rfl) (by kernel_rfl)
  have h7 := @run_callFunc_extern Tryz.prog 67 _ (ReflectliteValue.methodAny (ReflectliteValue.valueError "reflectlite.Value.Type" 0) (fun t _ _ _ => ReflectliteType.toType t)) Tryz.func67 (by kernel_rfl) (by kernel_rfl) (by kernel_rfl) (by kernel_rfl)
  have h8 := @run_callFunc_extern Tryz.prog 68 _ (ReflectliteValue.method (ReflectliteValue.valueError "reflectlite.Value.IsNil" 0) ReflectliteValue.isNil) Tryz.func68 (by kernel_rfl) (by kernel_rfl) (by kernel_rfl) (by kernel_rfl)
  have h27 := @run_callFunc_extern Tryz.prog 164 _ (ReflectliteType.abiMethod fun t => do pure (.int .u8 (← Rtype.kind t))) Tryz.func164 (by kernel_rfl) (by kernel_rfl) (by kernel_rfl) (by kernel_rfl)
  have h37 := @run_callFunc_extern Tryz.prog 176 _ (ReflectliteType.method ReflectliteType.elem) Tryz.func176 (by kernel_rfl) (by kernel_rfl) (by kernel_rfl) (by kernel_rfl)
  have h38 := @run_callFunc_extern Tryz.prog 177 _ (ReflectliteType.relation "Implements" ReflectliteType.implements_) Tryz.func177 (by kernel_rfl) (by kernel_rfl) (by kernel_rfl) (by kernel_rfl)
  have h10 := @run_callFunc_extern Tryz.prog 107 _ ReflectliteType.typeOf Tryz.func107 (by kernel_rfl) (by kernel_rfl) (by kernel_rfl) (by kernel_rfl)
  have h35 := @run_callFunc_extern Tryz.prog 174 _ (ReflectliteType.relation "AssignableTo" ReflectliteType.assignableTo) Tryz.func174 (by kernel_rfl) (by kernel_rfl) (by kernel_rfl) (by kernel_rfl)
  have h11 := @run_callFunc_extern Tryz.prog 108 _ (ReflectliteValue.method (ReflectliteValue.valueError "reflectlite.Value.Elem" 0) ReflectliteValue.elem) Tryz.func108 (by kernel_rfl) (by kernel_rfl) (by kernel_rfl) (by kernel_rfl)
  have h12 := @run_callFunc_extern Tryz.prog 109 _ ReflectliteValue.set Tryz.func109 (by kernel_rfl) (by kernel_rfl) (by kernel_rfl) (by kernel_rfl)
  have tO := Tryz.typeOf25
  have mA := Tryz.methodAssignableTo
  have a25 := Tryz.assignable25
  have v25 := valueOf51 v n hv
  have f6 := Tryz.valueOf27
  have f7 := Tryz.type27
  have mK := Tryz.methodKind
  have mE := Tryz.methodElem
  have mI := Tryz.methodImplements
  have k27 := Tryz.kind27
  have k25 := Tryz.kind25
  have e27 := Tryz.elem27
  have i25 := Tryz.implements25
  have n8 := Tryz.isNil27 ⟨w.heap.size, 0, none⟩ t ((w.alloc (.cells #[.pointer (some t)] 66)).alloc (.cells #[.pointer (some ⟨11, 66, none⟩), .pointer (some ⟨w.heap.size, 0, none⟩), .int .u64 150] 105)) (by simp)
  have hlt : 0 < w.heap.size := by
    rcases Nat.eq_zero_or_pos w.heap.size with h0 | h
    · simp [World.cell?, h0] at hg
    · exact h
  have hg2 : ((w.alloc (.cells #[.pointer (some t)] 66)).alloc (.cells #[.pointer (some ⟨11, 66, none⟩), .pointer (some ⟨w.heap.size, 0, none⟩), .int .u64 150] 105)).cell? ⟨0, 0, none⟩ = some (.iface 130 (.agg #[.pointer (some ⟨11, 42, none⟩)])) := by
    rw [World.cell?_alloc_lt _ _ ⟨0, 0, none⟩ (by simp), World.cell?_alloc_lt _ _ ⟨0, 0, none⟩ hlt]; exact hg
  have htl : t.block < w.heap.size := by
    rcases Nat.lt_or_ge t.block w.heap.size with h | h
    · exact h
    · simp [World.cell?, Array.getElem?_eq_none h] at ht0
  have el := Tryz.elemV27 ⟨w.heap.size, 0, none⟩ t (((w.alloc (.cells #[.pointer (some t)] 66)).alloc (.cells #[.pointer (some ⟨11, 66, none⟩), .pointer (some ⟨w.heap.size, 0, none⟩), .int .u64 150] 105)).alloc (.cells #[.pointer (some ⟨11, 66, none⟩), .pointer (some ⟨w.heap.size, 0, none⟩), .int .u64 150] 105)) (by rw [World.cell?_alloc_lt _ _ ⟨w.heap.size, 0, none⟩ (by simp; omega)]; simp)
  have st := Tryz.set25 t ⟨w.heap.size + 1 + 1 + 1, 0, none⟩ n old h1 ((((w.alloc (.cells #[.pointer (some t)] 66)).alloc (.cells #[.pointer (some ⟨11, 66, none⟩), .pointer (some ⟨w.heap.size, 0, none⟩), .int .u64 150] 105)).alloc (.cells #[.pointer (some ⟨11, 66, none⟩), .pointer (some ⟨w.heap.size, 0, none⟩), .int .u64 150] 105)).alloc (.cells #[n] 64))
    (by rw [World.cell?_alloc_at _ _ _ _ (by simp)]; rfl)
    (by rw [World.cell?_alloc_lt _ _ t (by simp; omega), World.cell?_alloc_lt _ _ t (by simp; omega), World.cell?_alloc_lt _ _ t (by simp; omega), World.cell?_alloc_lt _ _ t htl]; exact ht0)
    (by rw [World.frozen?_alloc_old _ _ t (by simp; omega), World.frozen?_alloc_old _ _ t (by simp; omega), World.frozen?_alloc_old _ _ t (by simp; omega), World.frozen?_alloc_old _ _ t (Nat.ne_of_lt htl)]; exact hf0)
  go_enter Tryz.func43, Tryz.ntmps43
  go_wp2
  refine wp_loop_rounds 1 ?_
  rw [rounds_succ]
  go_wp2
  go_ret
  exact ⟨rfl, rfl⟩
end Go.Proofs.AbAsA

/-
  Place: errors.As at the target that the program has (a variable of the type of its own errors).
-/
namespace Go.Proofs.AbAsD
open Go.RowKit Go.Extern.Stop Go.Stop Go.Extern

/-- errors.As(nil, target). -/
theorem as_nil (t : Value) (w : World) :
    Calls Tryz.prog 43 #[.nilIface, t] w fun e w' => e = .returned (.bool false) ∧ w' = w := by
  go_enter Tryz.func43, Tryz.ntmps43
  go_wp2
  go_ret
  exact ⟨rfl, rfl⟩

/-! ### CLOSED FACTS ON THE MODEL's ENTRIES FOR internal/reflectlite, at this program's types: 25: *p.E · 27: **p.E · 23: error · 45: reflectlite's rtype · 1: how many package-level variables the dump has -/
theorem Tryz.valueOf27 (t : Addr) (w : World) : (ReflectliteValue.unpack (.iface 117 (.pointer (some t)))).run Tryz.prog w
    = .ok (.agg #[.pointer (some ⟨11, 117, none⟩), .pointer (some ⟨w.heap.size, 0, none⟩), .int .u64 150]) (w.alloc (.cells #[.pointer (some t)] 117)) := by kernel_rfl
theorem Tryz.type27 (a : Addr) (w : World) : (ReflectliteValue.methodAny (ReflectliteValue.valueError "reflectlite.Value.Type" 0) (fun t _ _ _ => ReflectliteType.toType t) #[.agg #[.pointer (some ⟨11, 117, none⟩), .pointer (some a), .int .u64 150]]).run Tryz.prog w
    = .ok (.iface 130 (.agg #[.pointer (some ⟨11, 117, none⟩)])) w := by kernel_rfl
theorem Tryz.methodKind (h : Value) (w : World) : (Go.method 321 130 (.agg #[h]) "Kind").run Tryz.prog w = .ok (164, h) w := by kernel_rfl
theorem Tryz.kind27 (w : World) : ((ReflectliteType.abiMethod fun t => Functor.map (fun a : Nat => Value.int IntKind.u8 (a : Int)) (Rtype.kind t)) #[.pointer (some ⟨11, 117, none⟩)]).run Tryz.prog w = .ok (.int .u8 22) w := by kernel_rfl
theorem Tryz.kind25 (w : World) : ((ReflectliteType.abiMethod fun t => Functor.map (fun a : Nat => Value.int IntKind.u8 (a : Int)) (Rtype.kind t)) #[.pointer (some ⟨11, 73, none⟩)]).run Tryz.prog w = .ok (.int .u8 25) w := by kernel_rfl

/-! ### THE ENTRIES THAT READ OR WRITE MEMORY: laws with a premise on the cell (after Derived/Lib/ReflectliteSlice.lean's manner: each unfolding a lemma of its own, by rfl) -/
theorem rlm (z : Sem Value) (f : TypeId → Addr → Nat → Nat → Sem Value) (v : Value) :
    ReflectliteValue.method z f #[v] = (do match ← ReflectliteValue.parts v with | none => z | some (t, a, fl) => f t a fl (fl % 32)) := rfl
theorem Tryz.parts27 (a : Addr) (w : World) : (ReflectliteValue.parts (.agg #[.pointer (some ⟨11, 117, none⟩), .pointer (some a), .int .u64 150])).run Tryz.prog w = .ok (some (117, a, 150)) w := by kernel_rfl
/-- (Value).IsNil at the Value of a **p.E that is not nil. -/
theorem Tryz.isNil27 (a p : Addr) (W : World) (ha : W.cell? a = some (.pointer (some p))) :
    (ReflectliteValue.method (ReflectliteValue.valueError "reflectlite.Value.IsNil" 0) ReflectliteValue.isNil #[.agg #[.pointer (some ⟨11, 117, none⟩), .pointer (some a), .int .u64 150]]).run Tryz.prog W = .ok (.bool false) W := by
  rw [rlm]
  simp only [Sem.run_bind, Tryz.parts27, Result.andThen]
  simp [ReflectliteValue.isNil, loadVar, isAgg, underlying, Tryz.underlying117, ha, Result.andThen]

theorem Tryz.methodElem (h : Value) (w : World) : (Go.method 321 130 (.agg #[h]) "Elem").run Tryz.prog w = .ok (176, .agg #[h]) w := by kernel_rfl
theorem Tryz.methodImplements (h : Value) (w : World) : (Go.method 321 130 (.agg #[h]) "Implements").run Tryz.prog w = .ok (177, .agg #[h]) w := by kernel_rfl
theorem Tryz.methodAssignableTo (h : Value) (w : World) : (Go.method 321 130 (.agg #[h]) "AssignableTo").run Tryz.prog w = .ok (174, .agg #[h]) w := by kernel_rfl
theorem Tryz.elem27 (w : World) : (ReflectliteType.method ReflectliteType.elem #[.agg #[.pointer (some ⟨11, 117, none⟩)]]).run Tryz.prog w = .ok (.iface 130 (.agg #[.pointer (some ⟨11, 73, none⟩)])) w := by kernel_rfl
theorem Tryz.implements25 (w : World) : (ReflectliteType.relation "Implements" ReflectliteType.implements_ #[.agg #[.pointer (some ⟨11, 73, none⟩)], .iface 130 (.agg #[.pointer (some ⟨11, 42, none⟩)])]).run Tryz.prog w = .ok (.bool true) w := by kernel_rfl
theorem Tryz.typeOf25 (v : Value) (w : World) : (ReflectliteType.typeOf #[.iface 73 v]).run Tryz.prog w = .ok (.iface 130 (.agg #[.pointer (some ⟨11, 73, none⟩)])) w := by kernel_rfl
theorem Tryz.assignable25 (w : World) : (ReflectliteType.relation "AssignableTo" ReflectliteType.assignableTo #[.agg #[.pointer (some ⟨11, 73, none⟩)], .iface 130 (.agg #[.pointer (some ⟨11, 73, none⟩)])]).run Tryz.prog w = .ok (.bool true) w := by kernel_rfl
theorem Tryz.valueOf25 (e : Value) (w : World) : (ReflectliteValue.unpack (.iface 73 (.agg #[e]))).run Tryz.prog w
    = .ok (.agg #[.pointer (some ⟨11, 73, none⟩), .pointer (some ⟨w.heap.size, 0, none⟩), .int .u64 153]) (w.alloc (.cells #[e] 73)) := by kernel_rfl

theorem Tryz.elemOf27 (w : World) : (Rtype.elem? 117).run Tryz.prog w = .ok (some 73) w := by kernel_rfl
theorem Tryz.mk25 (p : Addr) (w : World) : (ReflectliteValue.mk 73 p ReflectliteValue.flagAddr).run Tryz.prog w = .ok (.agg #[.pointer (some ⟨11, 73, none⟩), .pointer (some p), .int .u64 409]) w := by kernel_rfl
/-- (Value).Elem at the Value of a **p.E that is not nil: the Value of the *p.E variable that it points to, addressable. -/
theorem Tryz.elemV27 (a p : Addr) (W : World) (ha : W.cell? a = some (.pointer (some p))) :
    (ReflectliteValue.method (ReflectliteValue.valueError "reflectlite.Value.Elem" 0) ReflectliteValue.elem #[.agg #[.pointer (some ⟨11, 117, none⟩), .pointer (some a), .int .u64 150]]).run Tryz.prog W
      = .ok (.agg #[.pointer (some ⟨11, 73, none⟩), .pointer (some p), .int .u64 409]) W := by
  rw [rlm]
  simp only [Sem.run_bind, Tryz.parts27, Result.andThen]
  simp [ReflectliteValue.elem, loadVar, isAgg, underlying, Tryz.underlying117, ha, Result.andThen, Tryz.elemOf27, Tryz.mk25]
theorem rls (v x : Value) : ReflectliteValue.set #[v, x] = (do
    let (some (dst, a, fl), some (src, b, _)) := (← ReflectliteValue.parts v, ← ReflectliteValue.parts x)
      | unsupported (.noEntry "extern/(internal/reflectlite.Value).Set.zeroValue")
    if fl / ReflectliteValue.flagAddr % 2 == 0 then unsupported (.noEntry "extern/(internal/reflectlite.Value).Set.unaddressable")
    let val ← loadVar src b
    if ← Rtype.directlyAssignable dst src then storeVar dst a val
    else if ← Rtype.implements dst src then
      if (← Rtype.kind src) == 20 then
        match val with
        | .nilIface => unsupported (.noEntry "extern/reflectlite: a nil value of one interface type handed on as a value of another")
        | _ => storeVar dst a val
      else storeVar dst a (.iface src val)
    else panicString ("reflectlite.Set: value of type " ++ (← Rtype.spelt src) ++ " is not assignable to type " ++ (← Rtype.spelt dst))
    pure (.tuple #[])) := rfl
theorem Tryz.parts25a (a : Addr) (w : World) : (ReflectliteValue.parts (.agg #[.pointer (some ⟨11, 73, none⟩), .pointer (some a), .int .u64 409])).run Tryz.prog w = .ok (some (73, a, 409)) w := by kernel_rfl
theorem Tryz.parts25 (a : Addr) (w : World) : (ReflectliteValue.parts (.agg #[.pointer (some ⟨11, 73, none⟩), .pointer (some a), .int .u64 153])).run Tryz.prog w = .ok (some (73, a, 153)) w := by kernel_rfl
theorem Tryz.direct25 (w : World) : (Rtype.directlyAssignable 73 73).run Tryz.prog w = .ok true w := by kernel_rfl
theorem Tryz.size25 (w : World) : (sizeOf 73).run Tryz.prog w = .ok 1 w := by kernel_rfl



/-- (Value).Set: the variable at 'ta' gets what the Value's own variable 'b' holds. -/
theorem Tryz.set25 (ta b : Addr) (e old : Value) (h1 : e.oneCell' = true) (W : World) (hb : W.cell? b = some e) (ht : W.cell? ta = some old) (hf : W.frozen? ta = false) :
    (ReflectliteValue.set #[.agg #[.pointer (some ⟨11, 73, none⟩), .pointer (some ta), .int .u64 409], .agg #[.pointer (some ⟨11, 73, none⟩), .pointer (some b), .int .u64 153]]).run Tryz.prog W
      = .ok (.tuple #[]) (W.setCell ta e) := by
  rw [rls]
  simp only [Sem.run_bind, Tryz.parts25a, Tryz.parts25, Result.andThen]
  simp [ReflectliteValue.flagAddr, loadVar, Tryz.isAgg73, loadCells, loadCellsFrom, hb, Result.andThen, Tryz.direct25, storeVar, Value.cells, storeCells, Addr.add]
  rw [run_store Tryz.prog W ta _ _ h1]
  simp [ht, hf]

theorem valueOf51g (v : Value) (w : World) : (ReflectliteValue.unpack (.iface 73 v)).run Tryz.prog w
    = .ok (.agg #[.pointer (some ⟨11, 73, none⟩), .pointer (some ⟨w.heap.size, 0, none⟩), .int .u64 153]) (w.alloc (.cells v.cells 73)) := by kernel_rfl
theorem valueOf51 (v n : Value) (hv : v.cells = #[n]) (w : World) : (ReflectliteValue.unpack (.iface 73 v)).run Tryz.prog w
    = .ok (.agg #[.pointer (some ⟨11, 73, none⟩), .pointer (some ⟨w.heap.size, 0, none⟩), .int .u64 153]) (w.alloc (.cells #[n] 73)) := by rw [valueOf51g, hv]

set_option maxHeartbeats 8000000 in
set_option maxRecDepth 100000 in
theorem as_hit (v n : Value) (hv : v.cells = #[n]) (h1 : n.oneCell' = true) (t : Addr) (old : Value) (w : World) (hg : w.cell? ⟨0, 0, none⟩ = some (.iface 130 (.agg #[.pointer (some ⟨11, 42, none⟩)]))) (ht0 : w.cell? t = some old) (hf0 : w.frozen? t = false) :
    Calls Tryz.prog 43 #[.iface 73 v, .iface 117 (.pointer (some t))] w fun ev w' => ev = .returned (.bool true) ∧ w' = ((((w.alloc (.cells #[.pointer (some t)] 117)).alloc (.cells #[.pointer (some ⟨11, 117, none⟩), .pointer (some ⟨w.heap.size, 0, none⟩), .int .u64 150] 105)).alloc (.cells #[.pointer (some ⟨11, 117, none⟩), .pointer (some ⟨w.heap.size, 0, none⟩), .int .u64 150] 105)).alloc (.cells #[n] 73)).setCell t n := by
  have h6 := @run_callFunc_extern Tryz.prog 66 _ (fun args => ReflectliteValue.unpack (args.getD 0 (.tuple #[]))) Tryz.func66 (by kernel_rfl) (by kernel_rfl) (by kernel_rfl) (by kernel_rfl)
  have h7 := @run_callFunc_extern Tryz.prog 67 _ (ReflectliteValue.methodAny (ReflectliteValue.valueError "reflectlite.Value.Type" 0) (fun t _ _ _ => ReflectliteType.toType t)) Tryz.func67 (by kernel_rfl) (by kernel_rfl) (by kernel_rfl) (by kernel_rfl)
  have h8 := @run_callFunc_extern Tryz.prog 68 _ (ReflectliteValue.method (ReflectliteValue.valueError "reflectlite.Value.IsNil" 0) ReflectliteValue.isNil) Tryz.func68 (by kernel_rfl) (by kernel_rfl) (by kernel_rfl) (by kernel_rfl)
  have h27 := @run_callFunc_extern Tryz.prog 164 _ (ReflectliteType.abiMethod fun t => do pure (.int .u8 (← Rtype.kind t))) Tryz.func164 (by kernel_rfl) (by kernel_rfl) (by kernel_rfl) (by kernel_rfl)
  have h37 := @run_callFunc_extern Tryz.prog 176 _ (ReflectliteType.method ReflectliteType.elem) Tryz.func176 (by kernel_rfl) (by kernel_rfl) (by kernel_rfl) (by kernel_rfl)
  have h38 := @run_callFunc_extern Tryz.prog 177 _ (ReflectliteType.relation "Implements" ReflectliteType.implements_) Tryz.func177 (by kernel_rfl) (by kernel_rfl) (by kernel_rfl) (by kernel_rfl)
  have h10 := @run_callFunc_extern Tryz.prog 107 _ ReflectliteType.typeOf Tryz.func107 (by kernel_rfl) (by kernel_rfl) (by kernel_rfl) (by kernel_rfl)
  have h35 := @run_callFunc_extern Tryz.prog 174 _ (ReflectliteType.relation "AssignableTo" ReflectliteType.assignableTo) Tryz.func174 (by kernel_rfl) (by kernel_rfl) (by kernel_rfl) (by kernel_rfl)
  have h11 := @run_callFunc_extern Tryz.prog 108 _ (ReflectliteValue.method (ReflectliteValue.valueError "reflectlite.Value.Elem" 0) ReflectliteValue.elem) Tryz.func108 (by kernel_rfl) (by kernel_rfl) (by kernel_rfl) (by kernel_rfl)
  have h12 := @run_callFunc_extern Tryz.prog 109 _ ReflectliteValue.set Tryz.func109 (by kernel_rfl) (by kernel_rfl) (by kernel_rfl) (by kernel_rfl)
  have tO := Tryz.typeOf25
  have mA := Tryz.methodAssignableTo
  have a25 := Tryz.assignable25
  have v25 := valueOf51 v n hv
  have f6 := Tryz.valueOf27
  have f7 := Tryz.type27
  have mK := Tryz.methodKind
  have mE := Tryz.methodElem
  have mI := Tryz.methodImplements
  have k27 := Tryz.kind27
  have k25 := Tryz.kind25
  have e27 := Tryz.elem27
  have i25 := Tryz.implements25
  have n8 := Tryz.isNil27 ⟨w.heap.size, 0, none⟩ t ((w.alloc (.cells #[.pointer (some t)] 117)).alloc (.cells #[.pointer (some ⟨11, 117, none⟩), .pointer (some ⟨w.heap.size, 0, none⟩), .int .u64 150] 105)) (by simp)
  have hlt : 0 < w.heap.size := by
    rcases Nat.eq_zero_or_pos w.heap.size with h0 | h
    · simp [World.cell?, h0] at hg
    · exact h
  have hg2 : ((w.alloc (.cells #[.pointer (some t)] 117)).alloc (.cells #[.pointer (some ⟨11, 117, none⟩), .pointer (some ⟨w.heap.size, 0, none⟩), .int .u64 150] 105)).cell? ⟨0, 0, none⟩ = some (.iface 130 (.agg #[.pointer (some ⟨11, 42, none⟩)])) := by
    rw [World.cell?_alloc_lt _ _ ⟨0, 0, none⟩ (by simp), World.cell?_alloc_lt _ _ ⟨0, 0, none⟩ hlt]; exact hg
  have htl : t.block < w.heap.size := by
    rcases Nat.lt_or_ge t.block w.heap.size with h | h
    · exact h
    · simp [World.cell?, Array.getElem?_eq_none h] at ht0
  have el := Tryz.elemV27 ⟨w.heap.size, 0, none⟩ t (((w.alloc (.cells #[.pointer (some t)] 117)).alloc (.cells #[.pointer (some ⟨11, 117, none⟩), .pointer (some ⟨w.heap.size, 0, none⟩), .int .u64 150] 105)).alloc (.cells #[.pointer (some ⟨11, 117, none⟩), .pointer (some ⟨w.heap.size, 0, none⟩), .int .u64 150] 105)) (by rw [World.cell?_alloc_lt _ _ ⟨w.heap.size, 0, none⟩ (by simp; omega)]; simp)
  have st := Tryz.set25 t ⟨w.heap.size + 1 + 1 + 1, 0, none⟩ n old h1 ((((w.alloc (.cells #[.pointer (some t)] 117)).alloc (.cells #[.pointer (some ⟨11, 117, none⟩), .pointer (some ⟨w.heap.size, 0, none⟩), .int .u64 150] 105)).alloc (.cells #[.pointer (some ⟨11, 117, none⟩), .pointer (some ⟨w.heap.size, 0, none⟩), .int .u64 150] 105)).alloc (.cells #[n] 73))
    (by rw [World.cell?_alloc_at _ _ _ _ (by simp)]; rfl)
    (by rw [World.cell?_alloc_lt _ _ t (by simp; omega), World.cell?_alloc_lt _ _ t (by simp; omega), World.cell?_alloc_lt _ _ t (by simp; omega), World.cell?_alloc_lt _ _ t htl]; exact ht0)
    (by rw [World.frozen?_alloc_old _ _ t (by simp; omega), World.frozen?_alloc_old _ _ t (by simp; omega), World.frozen?_alloc_old _ _ t (by simp; omega), World.frozen?_alloc_old _ _ t (Nat.ne_of_lt htl)]; exact hf0)
  go_enter Tryz.func43, Tryz.ntmps43
  go_wp2
  refine wp_loop_rounds 1 ?_
  rw [rounds_succ]
  go_wp2
  go_ret
  exact ⟨rfl, rfl⟩
end Go.Proofs.AbAsD

/-
  What is taken by contract: how a call of it leaves a state.
-/
namespace Go.Ab

section sp
variable {cx : Cx} {E : Type} {w0 : World} {I0 F0 O0 : Nat → Prop} {Hd : Nat → Option Obj} {R : RelE E} {e : E} {ds : List Deferred} {I F : Nat → Prop} {lp : Nat → Option Nat} {L : Loc} {tmv suf : List Value} {st : St} {w w' : World} {dst : Option Nat}

/-- Nothing but a value. -/
theorem sp_pure (hs : SR lp I L st tmv suf w) (hf : Fr cx w0 I0 F0 O0 Hd R e ds I F L w) (h : LawEnd w w') {u : PV} {v : Value} (hv : RepV w' I lp (some L) u v) :
    ∃ I' L', SR lp I' L' (apply st dst { v := u }) (putV tmv dst v) suf w' ∧ Fr cx w0 I0 F0 O0 Hd R e ds I' F L' w' := by
  have hx : Ext I F w I F w' := ⟨h.os, h.tape, h.output, h.size, fun b hb _ => h.same b hb, fun _ h => h, fun _ h => .inl h, fun _ h => .inl h⟩
  have hi : IF I F w' := ⟨fun b hb => Nat.lt_of_lt_of_le (hf.sep.iB b hb) h.size, fun b hb => ⟨Nat.lt_of_lt_of_le (hf.sep.fB b hb).1 h.size, (hf.sep.fB b hb).2⟩⟩
  have hw : cx.Wd I w' := cx.stab I I w w' hf.wd (fun _ h => h) (fun b hb => h.same b (hf.sep.iB b hb)) h.size
  have hr : R.rel e I F w' := R.stab e I I F w w' hf.re (fun _ h => h) (fun b hb => h.same b (hb.elim (hf.sep.iB b) fun h => (hf.sep.fB b h).1)) h.size
  refine ⟨I, L, ?_, hf.called hx hi hw hr⟩
  have h2 := hs.called hf hx
  cases dst with
  | none => exact h2
  | some d => exact h2.put d hv

theorem lawEnd_refl (w : World) : LawEnd w w := ⟨rfl, rfl, rfl, Nat.le_refl _, fun _ _ => rfl⟩

/-- One object turns. -/
theorem sp_turn (hs : SR lp I L st tmv suf w) (hf : Fr cx w0 I0 F0 O0 Hd R e ds I F L w) {nm : Nm} {b C : Nat} (hL : L nm = some (some (b, C)))
    (h1 : w'.os = w.os) (h2 : w'.tape = w.tape) (h3 : w'.output = w.output) (h4 : w.heap.size ≤ w'.heap.size) (hk : ∀ k, k < w.heap.size → k ≠ b → w'.heap[k]? = w.heap[k]?)
    {ob : Ob} (hob : ObRep w' I lp L b C ob) {u : PV} {v : Value} (hv : RepV w' I lp (some L) u v) :
    ∃ I' L', SR lp I' L' (apply st dst { v := u, upd := some (nm, ob) }) (putV tmv dst v) suf w' ∧ Fr cx w0 I0 F0 O0 Hd R e ds I' F L' w' := by
  have hI : ∀ k, I k → w'.heap[k]? = w.heap[k]? := fun k hi => hk k (hf.sep.iB k hi) fun e => (hf.lB nm b C hL).2.2.1 (e ▸ hi)
  have hfr : Fr cx w0 I0 F0 O0 Hd R e ds I F L w' := hf.own h1 h2 h3 h4
    (fun k hb hno => hk k hb fun e => hno nm C (e ▸ hL)) (fun _ h => h) (fun _ h => .inl h)
    (fun nm' b' C' h => ⟨Nat.lt_of_lt_of_le (hf.lB nm' b' C' h).2.1 h4, (hf.lB nm' b' C' h).2.2.1, .inr ⟨nm', C', h⟩⟩) hf.inj
  have hsr : SR lp I L { st with objs := putOb st.objs nm ob } tmv suf w' := hs.upd hL hI
    (fun m b' C' hm h => hk b' (hf.lB m b' C' h).2.1 fun e => hm (hf.inj m nm b' C' C h (e ▸ hL))) hob
  refine ⟨I, L, ?_, hfr⟩
  cases dst with
  | none => exact hsr
  | some d => exact hsr.put d hv

/-- A list's other copies are let go; it lies nowhere any more. -/
theorem sp_gone (hs : SR lp I L st tmv suf w) (hf : Fr cx w0 I0 F0 O0 Hd R e ds I F L w) {nm : Nm} {p : Option (Nat × Nat)} (hL : L nm = some p)
    (h1 : w'.os = w.os) (h2 : w'.tape = w.tape) (h3 : w'.output = w.output) (h4 : w.heap.size ≤ w'.heap.size) (hk : ∀ b', b' < w.heap.size → (∀ C, p ≠ some (b', C)) → w'.heap[b']? = w.heap[b']?)
    {u : PV} {v : Value} (hv : ∀ L' : Loc, RepV w' I lp (some L') u v) :
    ∃ I' L', SR lp I' L' (apply st dst { v := u, upd := some (nm, dead), kill := some nm }) (putV tmv dst v) suf w' ∧ Fr cx w0 I0 F0 O0 Hd R e ds I' F L' w' := by
  have hI : ∀ b', I b' → w'.heap[b']? = w.heap[b']? := fun b' hb' => hk b' (hf.sep.iB b' hb') fun C e => (hf.lB nm b' C (by rw [hL, e])).2.2.1 hb'
  have hu := hs.regrow (w' := w') (k := 0) (kt := 0) (xs := []) (p' := none) hL hI
    (fun m b' C' hm hn => hk b' (hf.lB m b' C' hn).2.1 fun C e => hm (hf.inj m nm b' C' C hn (by rw [hL, e]))) ⟨0, 0, rfl⟩
  refine ⟨I, (fun m => if m = nm then some none else L m), ?_, ?_⟩
  · cases dst with
    | none => exact hu
    | some d => exact hu.put d (hv _)
  · refine hf.own h1 h2 h3 h4 (fun b' hb' hn => hk b' hb' fun C e => hn nm C (by rw [hL, e])) (fun _ h => h) (fun _ h => .inl h) ?_ ?_
    · intro m b' C' hn
      by_cases hm : m = nm
      · simp [hm] at hn
      · simp only [hm, if_false] at hn
        exact ⟨by have := (hf.lB m b' C' hn).2.1; omega, (hf.lB m b' C' hn).2.2.1, .inr ⟨m, C', hn⟩⟩
    · intro m m' b' C1 C2 hn hn'
      by_cases hm : m = nm
      · simp [hm] at hn
      · by_cases hm' : m' = nm
        · simp [hm'] at hn'
        · simp only [hm, hm', if_false] at hn hn'
          exact hf.inj m m' b' C1 C2 hn hn'

/-- A new list, empty. -/
theorem sp_new (hs : SR lp I L st tmv suf w) (hf : Fr cx w0 I0 F0 O0 Hd R e ds I F L w) (hd : ∀ d, dst = some d → st.objs[d]? = some []) (h : LawEnd w w') {k : Nat} {v : Value} {p : Option (Nat × Nat)}
    (hp : ∀ b C, p = some (b, C) → w.heap.size ≤ b ∧ b < w'.heap.size) (hob : ∀ L', ObAt w' I lp L' (.arr k 0 []) p) (hv : ∀ (L' : Loc) (nm : Nm), L' nm = some p → RepV w' I lp (some L') (.arr nm k 0 0) v) :
    ∃ I' L', SR lp I' L' (apply st dst { v := .arr (dst.getD 0, 0) k 0 0, new := [.arr k 0 []] }) (putV tmv dst v) suf w' ∧ Fr cx w0 I0 F0 O0 Hd R e ds I' F L' w' := by
  have hkk : SR lp I L st tmv suf w' := hs.keeps (fun _ h => h) (fun b hb => h.same b (hf.sep.iB b hb)) fun nm b C hn => h.same b (hf.lB nm b C hn).2.1
  cases dst with
  | none =>
    refine ⟨I, L, hkk, ?_⟩
    have hx : Ext I F w I F w' := ⟨h.os, h.tape, h.output, h.size, fun b hb _ => h.same b hb, fun _ h => h, fun _ h => .inl h, fun _ h => .inl h⟩
    have hi : IF I F w' := ⟨fun b hb => Nat.lt_of_lt_of_le (hf.sep.iB b hb) h.size, fun b hb => ⟨Nat.lt_of_lt_of_le (hf.sep.fB b hb).1 h.size, (hf.sep.fB b hb).2⟩⟩
    have hw : cx.Wd I w' := cx.stab I I w w' hf.wd (fun _ h => h) (fun b hb => h.same b (hf.sep.iB b hb)) h.size
    have hr : R.rel e I F w' := R.stab e I I F w w' hf.re (fun _ h => h) (fun b hb => h.same b (hb.elim (hf.sep.iB b) fun h => (hf.sep.fB b h).1)) h.size
    exact hf.called hx hi hw hr
  | some d =>
    have hd := hd d rfl
    have hn := hkk.news hd [.arr k 0 []] [p] rfl (by
      intro j ob' q h1 h2
      cases j with
      | zero => simp at h1 h2; subst h1; subst h2; exact hob _
      | succ j => simp at h1)
    refine ⟨I, locNew L d [p], hn.put d (hv _ (d, 0) (by simp [locNew])), Fr.news hf hd h.os h.tape h.output h.size (fun b hb => h.same b hb) ?_ ?_⟩
    · intro j b C hj
      cases j with
      | zero => simp at hj; exact hp b C hj
      | succ j => simp at hj
    · intro j j' b C C' h1 h2
      cases j with
      | zero =>
        cases j' with
        | zero => rfl
        | succ j' => simp at h2
      | succ j => simp at h1
end sp

theorem repL1 {w : World} {I : Nat → Prop} {lp : Nat → Option Nat} {L : Option Loc} {a : PV} {us : List Value} (h : RepL w I lp L [a] us) : ∃ u, us = [u] ∧ RepV w I lp L a u := by
  obtain ⟨u, r, h1, rfl, h2⟩ : ∃ u r, RepV w I lp L a u ∧ us = u :: r ∧ RepL w I lp L [] r := by
    cases h; exact ⟨_, _, by assumption, rfl, by assumption⟩
  cases h2
  exact ⟨u, rfl, h1⟩
theorem repL2 {w : World} {I : Nat → Prop} {lp : Nat → Option Nat} {L : Option Loc} {a b : PV} {us : List Value} (h : RepL w I lp L [a, b] us) : ∃ u v, us = [u, v] ∧ RepV w I lp L a u ∧ RepV w I lp L b v := by
  obtain ⟨u, r, h1, rfl, h2⟩ : ∃ u r, RepV w I lp L a u ∧ us = u :: r ∧ RepL w I lp L [b] r := by
    cases h; exact ⟨_, _, by assumption, rfl, by assumption⟩
  obtain ⟨v, rfl, h3⟩ := repL1 h2
  exact ⟨u, v, rfl, h1, h3⟩

theorem setCell_same {W : World} {b o : Nat} {c : Array Value} {n : Value} {E' : TypeId} {fr : Nat × Nat} (h : W.heap[b]? = some (.cells c E' fr)) : (W.setCell ⟨b, o, none⟩ n).heap[b]? = some (.cells (c.setIfInBounds o n) E' fr) := by
  simp [World.setCell, Array.getElem?_modify, h]

theorem size_setCell (W : World) (a : Addr) (n : Value) : (W.setCell a n).heap.size = W.heap.size := by simp [World.setCell]

theorem cell_of_heap {w w' : World} {b : Nat} (h : w'.heap[b]? = w.heap[b]?) (o : Nat) : w'.cell? ⟨b, o, none⟩ = w.cell? ⟨b, o, none⟩ := by
  simp only [World.cell?, h]

theorem arr_one {c : Array Value} (h : c.size = 1) : ∃ n, c = #[n] := by
  refine ⟨c[0], ?_⟩
  apply Array.ext
  · simp [h]
  · intro i h1 h2
    have : i = 0 := by omega
    subst this; rfl
end Go.Ab

/-
  Array: what is taken by contract is so.
-/
namespace Go.Ab.Arrays
open Go Go.Ab Go.Proofs

/-- What the program's variables hold. -/
structure Vars (I : Nat → Prop) (w : World) : Prop where
  et : w.cell? ⟨0, 0, none⟩ = some (.iface 130 (.agg #[.pointer (some ⟨11, 42, none⟩)]))
  er : ∃ (a b : Addr) (ca cb : Array Value) (ta tb E1 E2 : TypeId) (f1 f2 : Nat × Nat), w.heap[1]? = some (.cells #[.iface 175 (.pointer (some a))] E1 f1) ∧ w.heap[2]? = some (.cells #[.iface 175 (.pointer (some b))] E2 f2) ∧ a ≠ b ∧ I a.block ∧ I b.block ∧
    w.heap[a.block]? = some (.cells ca ta (0, 0)) ∧ w.heap[b.block]? = some (.cells cb tb (0, 0))
  ml : ∃ m, w.cell? ⟨3, 0, none⟩ = some (.int .i64 m)
  pw : ∃ E fr, w.heap[8]? = some (.cells (Lib.pow10Tab.map fun z => Value.int .u64 z).toArray E fr)

noncomputable def cx0 : Cx where
  P := Tryz.prog
  mixed := by kernel_rfl
  G := globs0
  Wd I w := (I 0 ∧ I 1 ∧ I 2 ∧ I 3 ∧ I 8) ∧ Vars I w
  stab I I' w w' h h1 h2 _ := by
    obtain ⟨⟨i0, i1, i2, i3, i8⟩, et, ⟨a, b, ca, cb, ta, tb, E1, E2, f1, f2, e1, e2, e3, e4, e5, e6, e7⟩, ml, ⟨E, fr, pw⟩⟩ := h
    refine ⟨⟨h1 0 i0, h1 1 i1, h1 2 i2, h1 3 i3, h1 8 i8⟩, ?_, ⟨a, b, ca, cb, ta, tb, E1, E2, f1, f2, ?_, ?_, e3, h1 _ e4, h1 _ e5, ?_, ?_⟩, ?_, ⟨E, fr, ?_⟩⟩
    · rw [cell_of_heap (h2 0 i0)]; exact et
    · rw [h2 1 i1]; exact e1
    · rw [h2 2 i2]; exact e2
    · rw [h2 _ e4]; exact e6
    · rw [h2 _ e5]; exact e7
    · rw [cell_of_heap (h2 3 i3)]; exact ml
    · rw [h2 8 i8]; exact pw
  gl I w g cs h hg lp L := by
    obtain ⟨⟨i0, i1, i2, i3, i8⟩, et, ⟨a, b, ca, cb, ta, tb, E1, E2, f1, f2, e1, e2, e3, e4, e5, e6, e7⟩, ml, pw⟩ := h
    unfold globs0 at hg
    split at hg
    · rename_i hgg
      subst hgg
      cases hg
      exact RepV.ptr (off := 0) (o := 0) [.glob 1 175] 1 _ _ _ i1 e1 (by simp) (by simp) (by simp [One]; rfl) (by simp; exact .cons _ _ _ _ (.glob 1 175 _ _ _ _ i1 e1 rfl) .nil)
    · split at hg
      · rename_i _ hgg
        subst hgg
        cases hg
        exact RepV.ptr (off := 0) (o := 0) [.glob 2 175] 2 _ _ _ i2 e2 (by simp) (by simp) (by simp [One]; rfl) (by simp; exact .cons _ _ _ _ (.glob 2 175 _ _ _ _ i2 e2 rfl) .nil)
      · cases hg

theorem inv_glob' {w : World} {I : Nat → Prop} {lp : Nat → Option Nat} {L : Option Loc} {g : Nat} {t : TypeId} {v : Value} (h : RepV w I lp L (.glob g t) v) : ∃ x c E fr, v = .iface t x ∧ w.heap[g]? = some (.cells c E fr) ∧ c[0]? = some (.iface t x) := by
  cases h with
  | glob g t x c E fr hI hb hv => exact ⟨x, c, E, fr, rfl, hb, hv⟩

theorem lawEnd_below {w w' : World} (h : Go.RowKit.Below w.heap.size w w') : LawEnd w w' := ⟨h.os, h.tape, h.output, h.size, h.block⟩

theorem digs_eq : ∀ (k u : Nat), u < 10 ^ k → 0 < k → digs k u = Lib.decDigits u
  | 0, _, _, h => absurd h (Nat.lt_irrefl _)
  | k + 1, u, h, _ => by
    unfold digs
    rw [Lib.decDigits]
    by_cases hu : u < 10
    · rw [if_pos hu, dif_pos hu]
    · rw [if_neg hu, dif_neg hu]
      have h1 : 0 < k := by
        rcases Nat.eq_zero_or_pos k with rfl | hk
        · exact absurd (by simpa using h) hu
        · exact hk
      have h2 : u / 10 < 10 ^ k := by
        refine Nat.div_lt_of_lt_mul ?_
        rw [Nat.pow_succ, Nat.mul_comm] at h
        exact h
      rw [digs_eq k (u / 10) h2 h1]
theorem itoa_eq (n : Int) (h0 : -9223372036854775808 ≤ n) (h1 : n ≤ 9223372036854775807) : itoaF n = Lib.itoa n := by
  unfold itoaF Lib.itoa
  have hp : (18446744073709551616 : Nat) ≤ 10 ^ 20 := by decide
  rw [digs_eq 20 n.natAbs (by omega) (by decide), digs_eq 20 n.toNat (by omega) (by decide)]

theorem enters43 : Enters cx0.P 43 := ⟨_, Tryz.func43, by rfl, by rfl⟩
theorem enters81 : Enters cx0.P 81 := ⟨_, Tryz.func81, by rfl, by rfl⟩
theorem enters62 : Enters cx0.P 62 := ⟨_, Tryz.func62, by rfl, by rfl⟩
theorem enters135 : Enters cx0.P 135 := ⟨_, Tryz.func135, by rfl, by rfl⟩
theorem enters99 : Enters cx0.P 99 := ⟨_, Tryz.func99, by rfl, by rfl⟩
theorem enters100 : Enters cx0.P 100 := ⟨_, Tryz.func100, by rfl, by rfl⟩
theorem enters106 : Enters cx0.P 106 := ⟨_, Tryz.func106, by rfl, by rfl⟩
theorem enters65 : Enters cx0.P 65 := ⟨_, Tryz.func65, by rfl, by rfl⟩

theorem count_eq (c : UInt8) : ∀ s : List UInt8, countB c s = Lib.countByte s c
  | [] => rfl
  | x :: xs => by
    unfold countB
    rw [count_eq c xs]
    unfold Lib.countByte
    rw [List.count_cons]
    by_cases h : x = c
    · simp [h, Nat.add_comm]
    · simp [h]

theorem repL_bytes {w : World} {I : Nat → Prop} {lp : Nat → Option Nat} {L : Option Loc} : ∀ (xs : List PV) (vs : List Value) (s : List UInt8), RepL w I lp L xs vs → bytesOf xs = some s → ∀ (j : Nat) (x : UInt8), s[j]? = some x → vs[j]? = some (.int .u8 (x.toNat : Int))
  | [], _, s, _, h, j, x, hj => by cases h; simp at hj
  | p :: xs, _, s, h, hb, j, x, hj => by
    cases h with
    | cons _ v _ vs hv hs =>
      simp only [bytesOf] at hb
      split at hb
      · rename_i b bs h1 h2
        cases hb
        have hp : v = .int .u8 (b.toNat : Int) := by
          unfold byteOf at h1
          split at h1
          · rename_i n
            split at h1
            · rename_i hn
              cases h1
              rw [inv_int hv]
              congr 1
              simp
              omega
            · cases h1
          · cases h1
        cases j with
        | zero => simp at hj; subst hj; simp [hp]
        | succ j => simp at hj ⊢; exact repL_bytes xs vs bs hs h2 j x hj
      · cases hb

theorem bytesOf_len : ∀ (xs : List PV) (s : List UInt8), bytesOf xs = some s → s.length = xs.length
  | [], s, h => by cases h; rfl
  | p :: xs, s, h => by
    simp only [bytesOf] at h
    split at h
    · rename_i b bs h1 h2
      cases h
      simp [bytesOf_len xs bs h2]
    · cases h

theorem cells_flat : ∀ (xs : List PV) (s : List UInt8), bytesOf xs = some s → cellsL xs = xs
  | [], _, _ => rfl
  | p :: xs, s, h => by
    simp only [bytesOf] at h
    split at h
    · rename_i b bs h1 h2
      have hp : p.cells = [p] := by
        unfold byteOf at h1
        split at h1
        · rfl
        · cases h1
      simp [cellsL, hp, cells_flat xs bs h2]
    · cases h

theorem arr_two {c : Array Value} {a b : Value} (h : c.toList = [a, b]) : c = #[a, b] := by
  apply Array.toList_inj.1
  simpa using h

theorem freeze_other {W : World} {a : Addr} {n k : Nat} (h : k ≠ a.block) : (W.freeze a n).heap[k]? = W.heap[k]? := by
  unfold World.freeze
  split
  · rfl
  · simp [Array.getElem?_modify, Ne.symm h]

theorem repL4 {w : World} {I : Nat → Prop} {lp : Nat → Option Nat} {L : Option Loc} {a b c d : PV} {us : List Value} (h : RepL w I lp L [a, b, c, d] us) : ∃ u v x y, us = [u, v, x, y] ∧ RepV w I lp L a u ∧ RepV w I lp L b v ∧ RepV w I lp L c x ∧ RepV w I lp L d y := by
  obtain ⟨u, r, h1, rfl, h2⟩ : ∃ u r, RepV w I lp L a u ∧ us = u :: r ∧ RepL w I lp L [b, c, d] r := by
    cases h; exact ⟨_, _, by assumption, rfl, by assumption⟩
  obtain ⟨v, r, h3, rfl, h4⟩ : ∃ u q, RepV w I lp L b u ∧ r = u :: q ∧ RepL w I lp L [c, d] q := by
    cases h2; exact ⟨_, _, by assumption, rfl, by assumption⟩
  obtain ⟨x, y, rfl, h5, h6⟩ := repL2 h4
  exact ⟨u, v, x, y, rfl, h1, h3, h5, h6⟩

theorem sp_ok : SpOK cx0 sp0 := by
  intro g st vs out h
  unfold sp0 at h
  split at h
  · -- errors.As
    rename_i hg
    subst hg
    unfold spAs at h
    split at h
    · split at h
      · rename_i hp
        obtain ⟨hp, rfl⟩ := hp
        cases h
        refine ⟨enters43, ?_⟩
        intro E w0 I0 F0 O0 Hd R e ds I F lp L tmv suf us w dst hs hf hu hd
        obtain ⟨u, v, rfl, h1, h2⟩ := repL2 hu
        rw [inv_nilI h1]
        refine callsIn_wide.2 ((Go.Proofs.AbAsA.as_nil v w).mono ?_)
        rintro ev w' ⟨rfl, rfl⟩
        exact sp_pure hs hf (lawEnd_refl _) (.bool false)
      · cases h
    · split at h
      · rename_i t x p nm o _ ty cs hlk
        split at h
        · rename_i hp
          obtain ⟨hpp, rfl, ht, hc1, hx1⟩ := hp
          cases h
          refine ⟨enters43, ?_⟩
          intro E w0 I0 F0 O0 Hd R e ds I F lp L tmv suf us w dst hs hf hu hd
          obtain ⟨u, v, rfl, h1, h2⟩ := repL2 hu
          obtain ⟨u', rfl, hx⟩ := inv_iface h1
          obtain ⟨v', rfl, hr⟩ := inv_iface h2
          obtain ⟨b, C, hL, rfl⟩ := inv_ref hr
          obtain ⟨q, hq, hob⟩ := hs.ob nm _ hlk
          rw [hL] at hq; cases hq
          obtain ⟨c, E', hb, hC, hone, hcs⟩ := hob
          unfold okCells at hx1
          simp only [Bool.and_eq_true, beq_iff_eq] at hx1
          obtain ⟨hu1, hu2⟩ := hx.cells hx1.1
          have len1 : u'.cells.size = 1 := by
            have := hu2.length
            simpa [hx1.2] using this.symm
          have lenc : c.size = 1 := by
            have := hcs.length
            simpa [hc1] using this.symm
          obtain ⟨n, hn⟩ : ∃ n, u'.cells = #[n] := arr_one len1
          obtain ⟨old, rfl⟩ : ∃ n, c = #[n] := arr_one lenc
          have hn1 : n.oneCell' = true := hu1 n (by simp [hn])
          have hbl : b < w.heap.size := (hf.lB nm b C hL).2.1
          have fin : ∀ w' : World, (∃ (o1 o2 o3 o4 : Obj), w' = ((((w.alloc o1).alloc o2).alloc o3).alloc o4).setCell ⟨b, 0, none⟩ n) → w'.os = w.os ∧ w'.tape = w.tape ∧ w'.output = w.output →
              ∃ I' L', SR lp I' L' (apply st dst { v := .bool true, upd := some (nm, .cells ty x.cells) }) (putV tmv dst (.bool true)) suf w' ∧ Fr cx0 w0 I0 F0 O0 Hd R e ds I' F L' w' := by
            rintro w' ⟨o1, o2, o3, o4, hw'⟩ ⟨k1, k2, k3⟩
            have hother : ∀ k, k < w.heap.size → k ≠ b → w'.heap[k]? = w.heap[k]? := fun k hk hkb => by
              subst hw'
              rw [Go.RowKit.Below.heap_setCell _ _ _ _ hkb, heap_alloc_lt _ _ (by simp; omega), heap_alloc_lt _ _ (by simp; omega), heap_alloc_lt _ _ (by simp; omega), heap_alloc_lt _ _ hk]
            have hself : w'.heap[b]? = some (.cells #[n] E' (0, 0)) := by
              subst hw'
              suffices key : ((((w.alloc o1).alloc o2).alloc o3).alloc o4).heap[b]? = some (.cells #[old] E' (0, 0)) by
                have := setCell_same (o := 0) (n := n) key
                simpa using this
              rw [heap_alloc_lt _ _ (by simp; omega), heap_alloc_lt _ _ (by simp; omega), heap_alloc_lt _ _ (by simp; omega), heap_alloc_lt _ _ hbl]
              exact hb
            have hI : ∀ k, I k → w'.heap[k]? = w.heap[k]? := fun k hk => hother k (hf.sep.iB k hk) fun e => (hf.lB nm b C hL).2.2.1 (e ▸ hk)
            refine sp_turn hs hf hL k1 k2 k3 (by subst hw'; rw [size_setCell]; simp; omega) hother ?_ (.bool true)
            exact ⟨#[n], E', hself, hC, ⟨fun v hv => by simp at hv; subst hv; exact hn1, hone.2⟩, RepL.mono (fun _ h => h) hI (fun _ _ h => h) (by rw [hn] at hu2; exact hu2)⟩
          rcases hpp with rfl | rfl
          · obtain rfl : t = 64 := ht
            refine callsIn_wide.2 ((Go.Proofs.AbAsA.as_hit u' n hn hn1 ⟨b, 0, none⟩ old w hf.wd.2.et (by simp [World.cell?, hb]) (by simp [World.frozen?, hb])).mono ?_)
            rintro ev w' ⟨rfl, hw'⟩
            exact fin w' ⟨_, _, _, _, hw'⟩ (by subst hw'; exact ⟨rfl, rfl, rfl⟩)
          · obtain rfl : t = 73 := ht
            refine callsIn_wide.2 ((Go.Proofs.AbAsD.as_hit u' n hn hn1 ⟨b, 0, none⟩ old w hf.wd.2.et (by simp [World.cell?, hb]) (by simp [World.frozen?, hb])).mono ?_)
            rintro ev w' ⟨rfl, hw'⟩
            exact fin w' ⟨_, _, _, _, hw'⟩ (by subst hw'; exact ⟨rfl, rfl, rfl⟩)
        · cases h
      · cases h
    · cases h
  split at h
  · -- errors.Is
    rename_i hg
    subst hg
    unfold spIs at h
    split at h
    · rename_i g t
      split at h
      · rename_i hp
        obtain ⟨hgg, rfl⟩ := hp
        cases h
        refine ⟨enters81, ?_⟩
        intro E w0 I0 F0 O0 Hd R e ds I F lp L tmv suf us w dst hs hf hu hd
        obtain ⟨u, v, rfl, h1, h2⟩ := repL2 hu
        rw [inv_nilI h1]
        obtain ⟨a, b, ca, cb, ta, tb, E1, E2, f1, f2, e1, e2, e3, e4, e5, e6, e7⟩ := hf.wd.2.er
        obtain ⟨x, c, E', fr, rfl, q1, q2⟩ := inv_glob' h2
        have hx : ∃ a, x = .pointer (some a) := by
          rcases hgg with rfl | rfl
          · rw [e1] at q1; cases q1; cases q2; exact ⟨_, rfl⟩
          · rw [e2] at q1; cases q1; cases q2; exact ⟨_, rfl⟩
        obtain ⟨a', rfl⟩ := hx
        refine callsIn_wide.2 ((Go.Proofs.AbIsA.is_nil a' w).mono ?_)
        rintro ev w' ⟨rfl, rfl⟩
        exact sp_pure hs hf (lawEnd_refl _) (.bool false)
      · cases h
    · rename_i g t g' t'
      split at h
      · rename_i hp
        obtain ⟨hg1, hg2, rfl, rfl⟩ := hp
        cases h
        refine ⟨enters81, ?_⟩
        intro E w0 I0 F0 O0 Hd R e ds I F lp L tmv suf us w dst hs hf hu hd
        obtain ⟨u, v, rfl, h1, h2⟩ := repL2 hu
        obtain ⟨a, b, ca, cb, ta, tb, E1, E2, f1, f2, e1, e2, e3, e4, e5, e6, e7⟩ := hf.wd.2.er
        obtain ⟨x, c, E', fr, rfl, q1, q2⟩ := inv_glob' h1
        obtain ⟨y, c', E'', fr', rfl, q1', q2'⟩ := inv_glob' h2
        rcases hg1 with rfl | rfl <;> rcases hg2 with rfl | rfl
        · rw [e1] at q1 q1'; cases q1; cases q1'; cases q2; cases q2'
          refine callsIn_wide.2 ((Go.Proofs.AbIsA.is_same a w).mono ?_)
          rintro ev w' ⟨rfl, rfl⟩
          exact sp_pure hs hf (lawEnd_refl _) (.bool true)
        · rw [e1] at q1; rw [e2] at q1'; cases q1; cases q1'; cases q2; cases q2'
          refine callsIn_wide.2 ((Go.Proofs.AbIsA.is_other a b ca cb ta tb w e3 e6 e7).mono ?_)
          rintro ev w' ⟨rfl, rfl⟩
          exact sp_pure hs hf (lawEnd_refl _) (.bool false)
        · rw [e2] at q1; rw [e1] at q1'; cases q1; cases q1'; cases q2; cases q2'
          refine callsIn_wide.2 ((Go.Proofs.AbIsA.is_other b a cb ca tb ta w e3.symm e7 e6).mono ?_)
          rintro ev w' ⟨rfl, rfl⟩
          exact sp_pure hs hf (lawEnd_refl _) (.bool false)
        · rw [e2] at q1 q1'; cases q1; cases q1'; cases q2; cases q2'
          refine callsIn_wide.2 ((Go.Proofs.AbIsA.is_same b w).mono ?_)
          rintro ev w' ⟨rfl, rfl⟩
          exact sp_pure hs hf (lawEnd_refl _) (.bool true)
      · cases h
    · rename_i ss x g t
      split at h
      · rename_i hp
        obtain ⟨hgg, rfl, rfl, hx⟩ := hp
        cases h
        refine ⟨enters81, ?_⟩
        intro E w0 I0 F0 O0 Hd R e ds I F lp L tmv suf us w dst hs hf hu hd
        obtain ⟨u, v, rfl, h1, h2⟩ := repL2 hu
        obtain ⟨u', rfl, hx'⟩ := inv_iface h1
        obtain ⟨a, b, ca, cb, ta, tb, E1, E2, f1, f2, e1, e2, e3, e4, e5, e6, e7⟩ := hf.wd.2.er
        obtain ⟨x, c, E', fr, rfl, q1, q2⟩ := inv_glob' h2
        have hx : ∃ a, x = .pointer (some a) := by
          rcases hgg with rfl | rfl
          · rw [e1] at q1; cases q1; cases q2; exact ⟨_, rfl⟩
          · rw [e2] at q1; cases q1; cases q2; exact ⟨_, rfl⟩
        obtain ⟨a', rfl⟩ := hx
        refine callsIn_wide.2 ((Go.Proofs.AbIsA.is_type73 u' a' w).mono ?_)
        rintro ev w' ⟨rfl, rfl⟩
        exact sp_pure hs hf (lawEnd_refl _) (.bool false)
      · cases h
    · cases h
  split at h
  · -- strings.Count
    rename_i hg
    subst hg
    unfold spCount at h
    split at h
    · cases h
      refine ⟨enters62, ?_⟩
      intro E w0 I0 F0 O0 Hd R e ds I F lp L tmv suf us w dst hs hf hu hd
      obtain ⟨u, v, rfl, h1, h2⟩ := repL2 hu
      rw [inv_str h1, inv_str h2]
      refine callsIn_wide.2 ((Go.Proofs.AbAS.count_one _ _ w).mono ?_)
      rintro ev w' ⟨rfl, rfl⟩
      refine sp_pure hs hf (lawEnd_refl _) ?_
      rw [count_eq]
      exact .int _ _
    · cases h
  split at h
  · -- IndexByte
    rename_i hg
    subst hg
    unfold spIdx at h
    split at h
    · split at h
      · rename_i s c hc
        cases h
        refine ⟨enters135, ?_⟩
        intro E w0 I0 F0 O0 Hd R e ds I F lp L tmv suf us w dst hs hf hu hd
        obtain ⟨u, v, rfl, h1, h2⟩ := repL2 hu
        rw [inv_str h1, inv_int h2]
        refine callsIn_wide.2 ((Go.Proofs.AbSh.index_run _ _ w).mono ?_)
        rintro ev w' ⟨rfl, rfl⟩
        exact sp_pure hs hf (lawEnd_refl _) (.int _ _)
      · cases h
    · cases h
  split at h
  · -- Replace
    rename_i hg
    subst hg
    unfold spRepl at h
    split at h
    · rename_i s old new n
      split at h
      · rename_i hc
        obtain ⟨l1, l2, l3⟩ := hc
        cases h
        refine ⟨enters99, ?_⟩
        intro E w0 I0 F0 O0 Hd R e ds I F lp L tmv suf us w dst hs hf hu hd
        obtain ⟨u1, u2, u3, u4, rfl, h1, h2, h3, h4⟩ := repL4 hu
        rw [inv_str h1, inv_str h2, inv_str h3, inv_int h4]
        obtain ⟨m, hm⟩ := hf.wd.2.ml
        have hcl := Lib.count_le s old
        refine callsIn_wide.2 ((Go.Proofs.AbSh.repl_run ⟨s.toArray⟩ ⟨old.toArray⟩ ⟨new.toArray⟩ n m w (by show s.toArray.size < _; simp; omega) hm (by show 1 ≤ old.toArray.size; simp; omega) (by
          show s.toArray.size + Lib.count s.toArray.toList old.toArray.toList * new.toArray.size ≤ _
          simp only [List.size_toArray]
          have : Lib.count s old * new.length ≤ 65537 * 65536 := Nat.mul_le_mul (by omega) l2
          omega)).mono ?_)
        rintro ev w' ⟨rfl, hw⟩
        exact sp_pure hs hf (lawEnd_below hw) (.str _)
      · cases h
    · cases h
  split at h
  · -- FormatInt
    rename_i hg
    subst hg
    unfold spFmt at h
    split at h
    · rename_i n
      split at h
      · rename_i hc
        cases h
        refine ⟨enters100, ?_⟩
        intro E w0 I0 F0 O0 Hd R e ds I F lp L tmv suf us w dst hs hf hu hd
        obtain ⟨u, v, rfl, h1, h2⟩ := repL2 hu
        rw [inv_int h1, inv_int h2]
        obtain ⟨E', fr, hp⟩ := hf.wd.2.pw
        have ht : Lib.TabIs Tryz.prog w "internal/strconv.uint64pow10" .u64 Lib.pow10Tab := by
          unfold Lib.TabIs World.var?
          rw [show Tryz.prog.globalNamed "internal/strconv.uint64pow10" = some 8 by kernel_rfl]
          simp only [Option.bind_some, hp]
        refine callsIn_wide.2 ((Go.Proofs.AbSh.fmt_run n hc.1 hc.2 w ht).mono ?_)
        rintro ev w' ⟨rfl, k, os, rfl⟩
        rw [itoa_eq n hc.1 hc.2]
        exact sp_pure hs hf (lawEnd_below (Lib.below_grow _ w (Nat.le_refl _) k os)) (.str _)
      · cases h
    · cases h
  split at h
  · -- copyCheck
    rename_i hg
    subst hg
    unfold spCheck at h
    split at h
    · rename_i n
      split at h
      · rename_i x hlk
        cases h
        refine ⟨enters106, ?_⟩
        intro E w0 I0 F0 O0 Hd R e ds I F lp L tmv suf us w dst hs hf hu hd
        obtain ⟨u, rfl, hr⟩ := repL1 hu
        obtain ⟨b, C, hL, rfl⟩ := inv_ref hr
        obtain ⟨q, hq, hob⟩ := hs.ob n _ hlk
        rw [hL] at hq; cases hq
        obtain ⟨c, E', hb, hC, hone, hcs⟩ := hob
        obtain ⟨v0, v1, hc, r0, r1⟩ := repL2 hcs
        have hc := arr_two hc
        subst hc
        obtain rfl : E' = 99 := hone.2.resolve_left (by decide)
        rw [inv_nilP r0] at hb
        refine callsIn_wide.2 ((Go.Proofs.AbAS.check_fresh b w (by simp [World.cell?, hb]) (by simp [World.shape?, hb]) (by simp [World.frozen?, hb])).mono ?_)
        rintro ev w' ⟨rfl, rfl⟩
        have hself := setCell_same (o := 0) (n := .pointer (some ⟨b, 0, none⟩)) hb
        have hI : ∀ k, I k → (w.setCell ⟨b, 0, none⟩ (.pointer (some ⟨b, 0, none⟩))).heap[k]? = w.heap[k]? := fun k hk => Go.RowKit.Below.heap_setCell _ _ _ _ fun (e : k = b) => (hf.lB n b C hL).2.2.1 (e ▸ hk)
        refine sp_turn (w' := w.setCell ⟨b, 0, none⟩ (.pointer (some ⟨b, 0, none⟩))) hs hf hL rfl rfl rfl (by rw [size_setCell]; exact Nat.le_refl _) (fun k _ hk => Go.RowKit.Below.heap_setCell _ _ _ _ hk) ?_ (.tup [] #[] .nil)
        refine ⟨_, 99, hself, by simpa using hC, ⟨?_, .inr rfl⟩, ?_⟩
        · intro v hv
          simp at hv
          rcases hv with rfl | rfl
          · rfl
          · exact hone.1 _ (by simp)
        · simp
          exact .cons _ _ _ _ (.ref n 0 b C hL) (.cons _ _ _ _ (RepV.mono (fun _ h => h) hI (fun _ _ h => h) r1) .nil)
      · rename_i n' x hlk
        split at h
        · rename_i hn
          subst hn
          cases h
          refine ⟨enters106, ?_⟩
          intro E w0 I0 F0 O0 Hd R e ds I F lp L tmv suf us w dst hs hf hu hd
          obtain ⟨u, rfl, hr⟩ := repL1 hu
          obtain ⟨b, C, hL, rfl⟩ := inv_ref hr
          obtain ⟨q, hq, hob⟩ := hs.ob _ _ hlk
          rw [hL] at hq; cases hq
          obtain ⟨c, E', hb, hC, hone, hcs⟩ := hob
          obtain ⟨v0, v1, hc, r0, r1⟩ := repL2 hcs
          have hc := arr_two hc
          subst hc
          obtain ⟨b', C', hL', rfl⟩ := inv_ref r0
          rw [hL] at hL'; cases hL'
          refine callsIn_wide.2 ((Go.Proofs.AbAS.check_used b w (by simp [World.cell?, hb])).mono ?_)
          rintro ev w' ⟨rfl, rfl⟩
          exact sp_pure hs hf (lawEnd_refl _) (.tup [] #[] .nil)
        · cases h
      · cases h
    · cases h
  split at h
  · -- String
    rename_i hg
    subst hg
    unfold spStr at h
    split at h
    · rename_i n
      split at h
      · rename_i x hlk
        cases h
        refine ⟨enters65, ?_⟩
        intro E w0 I0 F0 O0 Hd R e ds I F lp L tmv suf us w dst hs hf hu hd
        obtain ⟨u, rfl, hr⟩ := repL1 hu
        obtain ⟨b, C, hL, rfl⟩ := inv_ref hr
        obtain ⟨q, hq, hob⟩ := hs.ob _ _ hlk
        rw [hL] at hq; cases hq
        obtain ⟨c, E', hb, hC, hone, hcs⟩ := hob
        obtain ⟨v0, v1, hc, r0, r1⟩ := repL2 hcs
        have hc := arr_two hc
        subst hc
        obtain rfl : E' = 99 := hone.2.resolve_left (by decide)
        rw [inv_nilS r1] at hb
        refine callsIn_wide.2 ((Go.Proofs.AbAS.string_nil b v0 w hb).mono ?_)
        rintro ev w' ⟨rfl, rfl⟩
        exact sp_pure (w' := w.drew) hs hf ⟨rfl, rfl, rfl, Nat.le_refl _, fun _ _ => rfl⟩ (.str [])
      · rename_i x n' k hlk
        split at h
        · rename_i xs hlk'
          split at h
          · rename_i s hs'
            split at h
            · rename_i hc0
              obtain ⟨hnn, hk0, hkl, hkm⟩ := hc0
              cases h
              refine ⟨enters65, ?_⟩
              intro E w0 I0 F0 O0 Hd R e ds I F lp L tmv suf us w dst hs hf hu hd
              obtain ⟨u, rfl, hr⟩ := repL1 hu
              obtain ⟨b, C, hL, rfl⟩ := inv_ref hr
              obtain ⟨q, hq, hob⟩ := hs.ob _ _ hlk
              rw [hL] at hq; cases hq
              obtain ⟨c, E', hb, hC, hone, hcs⟩ := hob
              obtain ⟨v0, v1, hc, r0, r1⟩ := repL2 hcs
              have hc := arr_two hc
              subst hc
              obtain rfl : E' = 99 := hone.2.resolve_left (by decide)
              obtain ⟨q', hq', hob'⟩ := hs.ob _ _ hlk'
              rcases inv_arr r1 with ⟨g, C', cap, hL', rfl, hC', hn⟩ | ⟨_, _, _, h0⟩
              · rw [hL'] at hq'; cases hq'
                obtain ⟨cur, E2, hg, hCg, hle, hkx, hone2, hrep⟩ := hob'
                obtain rfl : E2 = 5 := hle.2.resolve_left (by decide)
                have hlen := bytesOf_len _ _ hs'
                rw [List.length_take, Nat.min_eq_left hkl] at hlen
                have hrk : RepL w I lp none (xs.take k) (cur.toList.take k) := by
                  have h1 := hrep.take k
                  rw [show k = k * 1 by omega, ← cellsL_take hkx, cells_flat _ _ hs', List.take_take, Nat.min_eq_left (by omega)] at h1
                  simpa using h1
                have hbytes := repL_bytes _ _ _ hrk hs'
                have hcur : k ≤ cur.size := by have := hle.1; omega
                subst hlen
                refine callsIn_wide.2 ((Go.Proofs.AbAS.string_some b g cap v0 cur s w (by simpa using hb) hg (by intro e; subst e; simp at hk0) hn hcur ?_ ?_).mono ?_)
                · unfold mostLen at hkm; omega
                · intro j x hx
                  have hj : j < s.length := (List.getElem?_eq_some_iff.1 hx).1
                  have h1 := hbytes j x hx
                  rw [List.getElem?_take_of_lt hj] at h1
                  simpa using h1
                · rintro ev w' ⟨rfl, rfl⟩
                  have hfz : ∀ (W : World) (a : Addr) (n : Nat), (W.freeze a n).os = W.os ∧ (W.freeze a n).tape = W.tape ∧ (W.freeze a n).output = W.output ∧ (W.freeze a n).heap.size = W.heap.size := fun W a n => by
                    unfold World.freeze
                    split <;> simp
                  obtain ⟨f1, f2, f3, f4⟩ := hfz w.drew ⟨g, 0, none⟩ s.length
                  refine sp_gone (w' := w.drew.freeze ⟨g, 0, none⟩ s.length) hs hf hL' f1 f2 f3 (Nat.le_of_eq f4.symm) (fun k' hk' hne => ?_) (fun L' => .str s)
                  rw [freeze_other (fun e => hne C' (by rw [e]))]
                  rfl
              · omega
            · cases h
          · cases h
        · cases h
      · cases h
    · cases h
  · cases h
end Go.Ab.Arrays
