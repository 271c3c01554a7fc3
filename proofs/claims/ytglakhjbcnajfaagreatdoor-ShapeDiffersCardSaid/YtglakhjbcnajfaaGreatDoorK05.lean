/-
  Part 5 of a proof: a machine of our own for the given program, its laws, and what it says of the program. Nothing here is a claim by itself.
-/
import Derived.Test.YtglakhjbcnajfaaGreatDoorK04
import Derived.IntWalk
import Derived.Test.YtglakhjbcnajfaaGreatDoorProg
import Derived.WalkKit
import Derived.Test.YtglakhjbcnajfaaGreatDoorK01
import Derived.Lib.Builder
import Derived.Lib.UnsafeStr
import Derived.Lib.Bytealg
import Derived.Lib.AppendZerosOnto
import Derived.Lib.Walk
import Derived.Lib.SliceRun
import Derived.Laws.Externs
import Derived.Shelf.RegionOpenPlain
import Derived.LaidEql
import Derived.Stop.Asserts
import Derived.RowKitTokens
import Derived.Test.YtglakhjbcnajfaaGreatDoorK03
import Derived.ChangeArms
import Derived.ChangeSlices
import Derived.ChangeMaps5
import Derived.JoinedOf
import Derived.RowKit
set_option linter.all false

/-
  What each function is, as a plain term; printed by a program (wip/gen), held by the kernel.
-/
set_option maxRecDepth 100000
namespace Go.Ab
open Go
def rsh0 : FuncId → RSh × Bool
  | 15 => (.cl, false)
  | 38 => (.cl, false)
  | 51 => (.cl, false)
  | 52 => (.own 1, true)
  | 75 => (.cl, false)
  | 80 => (.own 1, true)
  | 90 => (.own 1, true)
  | _ => (.cl, true)
def sh71 : IoSh := { args := [], ins := [], res := .un, outs := [], news := [], gone := [] }
def sh81 : IoSh := { args := [.arr (0, 0) 1 0 0], ins := [.arr 1 0 []], res := .tup [], outs := [.arr 1 0 []], news := [], gone := [] }
def iof0 : FuncId → Option IoSh
  | 71 => some sh71
  | 81 => some sh81
  | _ => none
def cfg0 (b : KB) (dsh : Nat → RSh) : KCfg := { b, rsh := rsh0, spF := fun f => f == 64 || f == 95 || f == 90 || f == 87 || f == 74, asT := fun f p => if f = 64 ∧ p = 74 then some (72, 1) else none, dsh, ioF := iof0 }

theorem run3 (B : KB) {E : Type} (h : Handler E) (dep : Nat) (e : E) (x0 : PV) (x1 : PV) (x2 : PV) :
    runK (cfg0 B (fun _ => .cl)) fn3 (.cl) h dep [.cv x0, .cv x1, .cv x2] e =
    chkO (valO x1) (chkO (valO x2) (bindO (callO B .cl (.fn 11 []) []) (fun z1 => bindO (selO x1 0 3 true) (fun z2 => bindO (callO B .cl (.fn 12 []) [z2]) (fun z3 => chkO (okSto z3 x1
    0 3) (bindO (selO x2 0 3 true) (fun z4 => bindO (callO B .cl (.fn 12 []) [z4]) (fun z5 => chkO (okSto z5 x2 0 3) (bindO (callO B .cl (.fn 14 []) [x0]) (fun z6 => bindO (selO (stoP
    z5 x2 0) 0 3 true) (fun z7 => bindO (callO B .cl (.fn 13 []) [z6, z7]) (fun z8 => bindO (pureO (.extract 0 (.c z8))) (fun z9 => bindO (pureO (.extract 1 (.c z8))) (fun z10 => chkO
    (okCells z9 3) (bindO (callO B .cl (.fn 14 []) [x0]) (fun z11 => bindO (selO (stoP z3 x1 0) 0 3 true) (fun z12 => bindO (selO (stoP z5 x2 0) 0 3 true) (fun z13 => bindO (callO B
    .cl (.fn 15 []) [z11, z12, z13]) (fun z14 => bindO (pureO (.extract 0 (.c z14))) (fun z15 => bindO (pureO (.extract 1 (.c z14))) (fun z16 => chkO (okCells z15 3) (iteP z1 (bindO
    (pureO (.bin .eql .num true (.c z10) (.c (.int .i64 0)))) (fun z17 => bindO (callO B .cl (.fn 16 []) [.agg [cellP z9 0, cellP z9 1, cellP z9 2]]) (fun z18 => bindO (pureO (.bin
    .eql .bool false (.c z17) (.c z18))) (fun z19 => iteP z19 (bindO (pureO (.bin .eql .num true (.c z16) (.c (.int .i64 0)))) (fun z20 => bindO (callO B .cl (.fn 16 []) [.agg [cellP
    z15 0, cellP z15 1, cellP z15 2]]) (fun z21 => bindO (pureO (.bin .eql .bool false (.c z20) (.c z21))) (fun z22 => iteP z22 (bindO (pureO (.bin .neq .num true (.c z10) (.c (.int
    .i64 114)))) (fun z23 => iteP z23 (bindO (pureO (.bin .neq .num true (.c z16) (.c (.int .i64 114)))) (fun z24 => iteP z24 (some (.bool true, e)) (bindO (selO (stoP z3 x1 0) 0 3
    true) (fun z25 => bindO (callO B .cl (.fn 16 []) [z25]) (fun z26 => bindO (pureO (.un .not (.c z26))) (fun z27 => iteP z27 (some (.bool true, e)) (bindO (selO (stoP z5 x2 0) 0 3
    true) (fun z28 => bindO (callO B .cl (.fn 16 []) [z28]) (fun z29 => bindO (pureO (.un .not (.c z29))) (fun z30 => some (z30, e))))))))))) (bindO (selO (stoP z5 x2 0) 0 3 true) (fun
    z31 => bindO (callO B .cl (.fn 16 []) [z31]) (fun z32 => bindO (pureO (.un .not (.c z32))) (fun z33 => iteP z33 (bindO (pureO (.bin .neq .num true (.c z16) (.c (.int .i64 114))))
    (fun z34 => iteP z34 (some (.bool true, e)) (bindO (selO (stoP z3 x1 0) 0 3 true) (fun z35 => bindO (callO B .cl (.fn 16 []) [z35]) (fun z36 => bindO (pureO (.un .not (.c z36)))
    (fun z37 => iteP z37 (some (.bool true, e)) (bindO (selO (stoP z5 x2 0) 0 3 true) (fun z38 => bindO (callO B .cl (.fn 16 []) [z38]) (fun z39 => bindO (pureO (.un .not (.c z39)))
    (fun z40 => some (z40, e))))))))))) (some (.bool false, e)))))))) (some (.bool false, e)))))) (some (.bool false, e)))))) (some (.bool false, e)))))))))))))))))))))))) := by kernel_rfl
theorem run4 (B : KB) {E : Type} (h : Handler E) (dep : Nat) (e : E) (x0 : PV) (x1 : PV) :
    runK (cfg0 B (fun _ => .cl)) fn4 (.cl) h dep [.cv x0, .cv x1] e =
    chkO (valO x0) (bindO (callO B .cl (.fn 11 []) []) (fun z1 => bindO (selO x0 0 3 true) (fun z2 => bindO (callO B .cl (.fn 12 []) [z2]) (fun z3 => chkO (okSto z3 x0 0 3) (bindO
    (selO (stoP z3 x0 0) 0 3 true) (fun z4 => bindO (callO B .cl (.fn 13 []) [.str [226, 140, 189], z4]) (fun z5 => bindO (pureO (.extract 0 (.c z5))) (fun z6 => bindO (pureO (.extract
    1 (.c z5))) (fun z7 => chkO (okCells z6 3) (bindO (callO B .cl (.fn 13 []) [.str [226, 140, 189], .agg [cellP z6 0, cellP z6 1, cellP z6 2]]) (fun z8 => bindO (pureO (.extract 0
    (.c z8))) (fun z9 => bindO (pureO (.extract 1 (.c z8))) (fun z10 => chkO (okCells z9 3) (bindO (callO B .cl (.fn 17 []) [x1]) (fun z11 => bindO (selO (stoP z3 x0 0) 0 3 true) (fun
    z12 => bindO (callO B .cl (.fn 15 []) [.str [226, 140, 189], z11, z12]) (fun z13 => bindO (pureO (.extract 0 (.c z13))) (fun z14 => bindO (pureO (.extract 1 (.c z13))) (fun z15 =>
    chkO (okCells z14 3) (bindO (pureO (.bin .neq .num true (.c z7) (.c (.int .i64 0)))) (fun z16 => iteP z16 (bindO (iteP z1 (bindO (pureO (.bin .eql .num true (.c z7) (.c (.int .i64
    114)))) (fun z17 => iteP z17 (bindO (pureO (.bin .eql .num false (.c z15) (.c z7))) (fun z18 => some z18)) (some (.bool false)))) (some (.bool false))) (fun z19 => some (z19, e)))
    (bindO (bindO (pureO (.bin .lss .num true (.c x1) (.c (.int .i64 (-1000000))))) (fun z20 => iteP z20 (some (.bool true)) (bindO (pureO (.bin .gtr .num true (.c x1) (.c (.int .i64
    1000000)))) (fun z21 => some z21)))) (fun z22 => iteP z22 (iteP z1 (bindO (pureO (.bin .eql .num true (.c z10) (.c (.int .i64 0)))) (fun z23 => iteP z23 (bindO (selO (stoP z3 x0 0)
    0 3 true) (fun z24 => bindO (callO B .cl (.fn 18 []) [z24, .agg [cellP z9 0, cellP z9 1, cellP z9 2]]) (fun z25 => iteP z25 (bindO (pureO (.bin .eql .num true (.c z15) (.c (.int
    .i64 0)))) (fun z26 => iteP z26 (bindO (pureO (.len .slice (.c (cellP z14 2)))) (fun z27 => bindO (selO (stoP z3 x0 0) 2 1 false) (fun z28 => bindO (pureO (.len .slice (.c z28)))
    (fun z29 => bindO (pureO (.bin .eql .num false (.c z27) (.c z29))) (fun z30 => some (z30, e)))))) (some (.bool false, e)))) (some (.bool false, e))))) (some (.bool false, e))))
    (some (.bool false, e))) (bindO (pureO (.un .neg (.c x1))) (fun z31 => bindO (callO B .cl (.fn 17 []) [z31]) (fun z32 => bindO (callO B .cl (.fn 15 []) [.str [226, 140, 189], z32,
    .agg [cellP z14 0, cellP z14 1, cellP z14 2]]) (fun z33 => bindO (pureO (.extract 0 (.c z33))) (fun z34 => bindO (pureO (.extract 1 (.c z33))) (fun z35 => chkO (okCells z34 3)
    (iteP z1 (bindO (pureO (.bin .eql .num true (.c z10) (.c (.int .i64 0)))) (fun z36 => iteP z36 (bindO (selO (stoP z3 x0 0) 0 3 true) (fun z37 => bindO (callO B .cl (.fn 18 [])
    [z37, .agg [cellP z9 0, cellP z9 1, cellP z9 2]]) (fun z38 => iteP z38 (bindO (pureO (.bin .eql .num true (.c z15) (.c (.int .i64 0)))) (fun z39 => iteP z39 (bindO (pureO (.bin
    .eql .num true (.c z35) (.c (.int .i64 0)))) (fun z40 => iteP z40 (bindO (selO (stoP z3 x0 0) 0 3 true) (fun z41 => bindO (callO B .cl (.fn 18 []) [z41, .agg [cellP z34 0, cellP
    z34 1, cellP z34 2]]) (fun z42 => some (z42, e)))) (some (.bool false, e)))) (some (.bool false, e)))) (some (.bool false, e))))) (some (.bool false, e)))) (some (.bool false,
    e)))))))))))))))))))))))))))))))) := by kernel_rfl
theorem run5 (B : KB) {E : Type} (h : Handler E) (dep : Nat) (e : E) (x0 : PV) (x1 : PV) :
    runK (cfg0 B (fun _ => .cl)) fn5 (.cl) h dep [.cv x0, .cv x1] e =
    chkO (valO x0) (bindO (callO B .cl (.fn 11 []) []) (fun z1 => bindO (selO x0 0 3 true) (fun z2 => bindO (callO B .cl (.fn 12 []) [z2]) (fun z3 => chkO (okSto z3 x0 0 3) (bindO
    (selO (stoP z3 x0 0) 0 3 true) (fun z4 => bindO (callO B .cl (.fn 16 []) [z4]) (fun z5 => bindO (pureO (.un .not (.c z5))) (fun z6 => iteP z6 (some (z1, e)) (bindO (pureO (.bin
    .lss .num true (.c x1) (.c (.int .i64 0)))) (fun z7 => iteP z7 (some (z1, e)) (bindO (selO (stoP z3 x0 0) 2 1 false) (fun z8 => bindO (pureO (.len .slice (.c z8))) (fun z9 => bindO
    (pureO (.bin .gtr .num false (.c x1) (.c z9))) (fun z10 => iteP z10 (some (z1, e)) (bindO (callO B .cl (.fn 17 []) [x1]) (fun z11 => bindO (selO (stoP z3 x0 0) 0 3 true) (fun z12
    => bindO (callO B .cl (.fn 15 []) [.str [226, 134, 145], z11, z12]) (fun z13 => bindO (pureO (.extract 0 (.c z13))) (fun z14 => bindO (pureO (.extract 1 (.c z13))) (fun z15 => chkO
    (okCells z14 3) (bindO (callO B .cl (.fn 17 []) [x1]) (fun z16 => bindO (selO (stoP z3 x0 0) 0 3 true) (fun z17 => bindO (callO B .cl (.fn 15 []) [.str [226, 134, 147], z16, z17])
    (fun z18 => bindO (pureO (.extract 0 (.c z18))) (fun z19 => bindO (pureO (.extract 1 (.c z18))) (fun z20 => chkO (okCells z19 3) (bindO (callO B .cl (.fn 15 []) [.str [44], .agg
    [cellP z14 0, cellP z14 1, cellP z14 2], .agg [cellP z19 0, cellP z19 1, cellP z19 2]]) (fun z21 => bindO (pureO (.extract 0 (.c z21))) (fun z22 => bindO (pureO (.extract 1 (.c
    z21))) (fun z23 => chkO (okCells z22 3) (bindO (selO (stoP z3 x0 0) 0 3 true) (fun z24 => bindO (callO B .cl (.fn 13 []) [.str [44], z24]) (fun z25 => bindO (pureO (.extract 0 (.c
    z25))) (fun z26 => bindO (pureO (.extract 1 (.c z25))) (fun z27 => chkO (okCells z26 3) (iteP z1 (bindO (pureO (.bin .eql .num true (.c z15) (.c (.int .i64 0)))) (fun z28 => iteP
    z28 (bindO (pureO (.bin .eql .num true (.c z20) (.c (.int .i64 0)))) (fun z29 => iteP z29 (bindO (pureO (.bin .eql .num true (.c z23) (.c (.int .i64 0)))) (fun z30 => iteP z30
    (bindO (pureO (.bin .eql .num true (.c z27) (.c (.int .i64 0)))) (fun z31 => iteP z31 (bindO (callO B .cl (.fn 18 []) [.agg [cellP z22 0, cellP z22 1, cellP z22 2], .agg [cellP z26
    0, cellP z26 1, cellP z26 2]]) (fun z32 => iteP z32 (bindO (pureO (.len .slice (.c (cellP z14 2)))) (fun z33 => bindO (pureO (.bin .eql .num false (.c z33) (.c x1))) (fun z34 =>
    iteP z34 (bindO (pureO (.len .slice (.c (cellP z19 2)))) (fun z35 => bindO (selO (stoP z3 x0 0) 2 1 false) (fun z36 => bindO (pureO (.len .slice (.c z36))) (fun z37 => bindO (pureO
    (.bin .sub .num false (.c z37) (.c x1))) (fun z38 => bindO (pureO (.bin .eql .num false (.c z35) (.c z38))) (fun z39 => some (z39, e))))))) (some (.bool false, e))))) (some (.bool
    false, e)))) (some (.bool false, e)))) (some (.bool false, e)))) (some (.bool false, e)))) (some (.bool false, e)))) (some (.bool false, e)))))))))))))))))))))))))))))))))))))) := by kernel_rfl
theorem run6 (B : KB) {E : Type} (h : Handler E) (dep : Nat) (e : E) (x0 : PV) :
    runK (cfg0 B (fun _ => .cl)) fn6 (.cl) h dep [.cv x0] e =
    chkO (valO x0) (bindO (callO B .cl (.fn 11 []) []) (fun z1 => bindO (selO x0 0 3 true) (fun z2 => bindO (callO B .cl (.fn 12 []) [z2]) (fun z3 => chkO (okSto z3 x0 0 3) (bindO
    (selO (stoP z3 x0 0) 0 3 true) (fun z4 => bindO (selO (stoP z3 x0 0) 0 3 true) (fun z5 => bindO (callO B .cl (.fn 15 []) [.str [226, 141, 179], z4, z5]) (fun z6 => bindO (pureO
    (.extract 0 (.c z6))) (fun z7 => bindO (pureO (.extract 1 (.c z6))) (fun z8 => chkO (okCells z7 3) (bindO (pureO (.bin .neq .num true (.c z8) (.c (.int .i64 0)))) (fun z9 => iteP
    z9 (iteP z1 (bindO (selO (stoP z3 x0 0) 0 3 true) (fun z10 => bindO (callO B .cl (.fn 16 []) [z10]) (fun z11 => bindO (pureO (.un .not (.c z11))) (fun z12 => iteP z12 (some (.bool
    true, e)) (bindO (selO (stoP z3 x0 0) 0 1 false) (fun z13 => bindO (pureO (.un .not (.c z13))) (fun z14 => some (z14, e)))))))) (some (.bool false, e))) (bindO (pureO (.len .slice
    (.c (cellP z7 2)))) (fun z15 => bindO (selO (stoP z3 x0 0) 2 1 false) (fun z16 => bindO (pureO (.len .slice (.c z16))) (fun z17 => bindO (pureO (.bin .neq .num false (.c z15) (.c
    z17))) (fun z18 => iteP z18 (some (.bool false, e)) (chkO (noUndef [z1, .int .i64 0]) (loopL (fun z19 => bindO (pureO (.len .slice (.c (nth z19.1 5)))) (fun z20 => bindO (pureO
    (.bin .lss .num false (.c (nth z19.1 1)) (.c z20))) (fun z21 => iteP z21 (bindO (pureO (.idxAddr 1 (.c (nth z19.1 5)) (.c (nth z19.1 1)))) (fun z22 => bindO (pureO (.load 1 false
    (.c z22))) (fun z23 => bindO (pureO (.bin .sub .num true (.c z23) (.c (.int .i64 1)))) (fun z24 => bindO (pureO (.bin .lss .num true (.c z24) (.c (.int .i64 0)))) (fun z25 => iteP
    z25 (bindO (some (.bool false, z19.2)) (fun z26 => some (.inr z26))) (bindO (pureO (.bin .gtr .num false (.c z24) (.c (nth z19.1 1)))) (fun z27 => iteP z27 (bindO (some (.bool
    false, z19.2)) (fun z28 => some (.inr z28))) (bindO (selO (nth z19.1 2) 2 1 false) (fun z29 => bindO (pureO (.idxAddr 1 (.c z29) (.c z24))) (fun z30 => bindO (pureO (.load 1 false
    (.c z30))) (fun z31 => bindO (selO (nth z19.1 2) 2 1 false) (fun z32 => bindO (pureO (.idxAddr 1 (.c z32) (.c (nth z19.1 1)))) (fun z33 => bindO (pureO (.load 1 false (.c z33)))
    (fun z34 => bindO (pureO (.bin .neq .num false (.c z31) (.c z34))) (fun z35 => iteP z35 (bindO (some (.bool false, z19.2)) (fun z36 => some (.inr z36))) (bindO (pureO (.bin .add
    .num true (.c (nth z19.1 1)) (.c (.int .i64 1)))) (fun z37 => some (.inl ([nth z19.1 0, z37, nth z19.1 2, nth z19.1 3, nth z19.1 4, nth z19.1 5], z19.2))))))))))))))))))) (bindO
    (bindO (selO (nth z19.1 2) 0 3 true) (fun z38 => bindO (callO B .cl (.fn 13 []) [.str [226, 137, 162], z38]) (fun z39 => bindO (pureO (.extract 0 (.c z39))) (fun z40 => bindO
    (pureO (.extract 1 (.c z39))) (fun z41 => chkO (okCells z40 3) (bindO (selO (nth z19.1 2) 0 3 true) (fun z42 => bindO (selO (nth z19.1 2) 1 1 false) (fun z43 => bindO (pureO (.un
    .not (.c z43))) (fun z44 => chkO (okSls 1 [.int .i64 5]) (chkO (okCells z44 1) (bindO (lendO B .cl false 15 [.str [226, 141, 179], z42, .agg [.bool false, cellP z44 0, slO 1 1
    [.int .i64 5] 0 (lenL [.int .i64 5])]]) (fun z45 => bindO (pureO (.extract 0 (.c z45))) (fun z46 => bindO (pureO (.extract 1 (.c z45))) (fun z47 => chkO (okCells z46 3) (iteP (nth
    z19.1 0) (bindO (pureO (.bin .eql .num true (.c z41) (.c (.int .i64 0)))) (fun z48 => iteP z48 (bindO (pureO (.bin .eql .num true (.c z47) (.c (.int .i64 0)))) (fun z49 => iteP z49
    (bindO (pureO (.len .slice (.c (cellP z40 2)))) (fun z50 => bindO (pureO (.bin .eql .num true (.c z50) (.c (.int .i64 1)))) (fun z51 => iteP z51 (bindO (pureO (.len .slice (.c
    (cellP z46 2)))) (fun z52 => bindO (pureO (.bin .eql .num true (.c z52) (.c (.int .i64 1)))) (fun z53 => iteP z53 (bindO (pureO (.idxAddr 1 (.c (cellP z46 2)) (.c (.int .i64 0))))
    (fun z54 => bindO (pureO (.load 1 false (.c z54))) (fun z55 => bindO (pureO (.idxAddr 1 (.c (cellP z40 2)) (.c (.int .i64 0)))) (fun z56 => bindO (pureO (.load 1 false (.c z56)))
    (fun z57 => bindO (pureO (.bin .add .num true (.c z57) (.c (.int .i64 1)))) (fun z58 => bindO (pureO (.bin .eql .num false (.c z55) (.c z58))) (fun z59 => iteP z59 (bindO (pureO
    (.idxAddr 1 (.c (cellP z40 2)) (.c (.int .i64 0)))) (fun z60 => bindO (pureO (.load 1 false (.c z60))) (fun z61 => bindO (selO (nth z19.1 2) 2 1 false) (fun z62 => bindO (pureO
    (.len .slice (.c z62))) (fun z63 => bindO (pureO (.bin .eql .num false (.c z61) (.c z63))) (fun z64 => some (z64, z19.2))))))) (some (.bool false, z19.2))))))))) (some (.bool
    false, z19.2))))) (some (.bool false, z19.2))))) (some (.bool false, z19.2)))) (some (.bool false, z19.2)))) (some (.bool false, z19.2))))))))))))))))) (fun z65 => some (.inr
    z65)))))) ([z1, .int .i64 0, stoP z3 x0 0, cellP z7 0, cellP z7 1, cellP z7 2], e)))))))))))))))))))) := by kernel_rfl
theorem run7 (B : KB) {E : Type} (h : Handler E) (dep : Nat) (e : E) (x0 : PV) :
    runK (cfg0 B (fun _ => .cl)) fn7 (.cl) h dep [.cv x0] e =
    bindO (callO B .cl (.fn 11 []) []) (fun z1 => bindO (callO B .cl (.fn 17 []) [x0]) (fun z2 => bindO (callO B .cl (.fn 13 []) [.str [226, 141, 179], z2]) (fun z3 => bindO (pureO
    (.extract 0 (.c z3))) (fun z4 => bindO (pureO (.extract 1 (.c z3))) (fun z5 => chkO (okCells z4 3) (bindO (bindO (pureO (.bin .lss .num true (.c x0) (.c (.int .i64 0)))) (fun z6 =>
    iteP z6 (some (.bool true)) (bindO (pureO (.bin .gtr .num true (.c x0) (.c (.int .i64 200)))) (fun z7 => some z7)))) (fun z8 => iteP z8 (bindO (iteP z1 (bindO (pureO (.bin .eql
    .num true (.c z5) (.c (.int .i64 102)))) (fun z9 => iteP z9 (bindO (pureO (.bin .lss .num true (.c x0) (.c (.int .i64 0)))) (fun z10 => iteP z10 (some (.bool true)) (bindO (pureO
    (.bin .eql .num true (.c z5) (.c (.int .i64 113)))) (fun z11 => iteP z11 (bindO (pureO (.bin .gtr .num true (.c x0) (.c (.int .i64 200)))) (fun z12 => some z12)) (some (.bool
    false)))))) (bindO (pureO (.bin .eql .num true (.c z5) (.c (.int .i64 113)))) (fun z13 => iteP z13 (bindO (pureO (.bin .gtr .num true (.c x0) (.c (.int .i64 200)))) (fun z14 =>
    some z14)) (some (.bool false)))))) (some (.bool false))) (fun z15 => some (z15, e))) (bindO (callO B .cl (.fn 13 []) [.str [226, 141, 180], .agg [cellP z4 0, cellP z4 1, cellP z4
    2]]) (fun z16 => bindO (pureO (.extract 0 (.c z16))) (fun z17 => bindO (pureO (.extract 1 (.c z16))) (fun z18 => chkO (okCells z17 3) (bindO (callO B .cl (.fn 17 []) [x0]) (fun z19
    => bindO (callO B .cl (.fn 17 []) [.int .i64 7]) (fun z20 => bindO (callO B .cl (.fn 15 []) [.str [226, 141, 180], z19, z20]) (fun z21 => bindO (pureO (.extract 0 (.c z21))) (fun
    z22 => bindO (pureO (.extract 1 (.c z21))) (fun z23 => chkO (okCells z22 3) (bindO (iteP z1 (bindO (pureO (.bin .eql .num true (.c z5) (.c (.int .i64 0)))) (fun z24 => iteP z24
    (bindO (pureO (.bin .eql .num true (.c z18) (.c (.int .i64 0)))) (fun z25 => iteP z25 (bindO (pureO (.bin .eql .num true (.c z23) (.c (.int .i64 0)))) (fun z26 => iteP z26 (bindO
    (pureO (.len .slice (.c (cellP z4 2)))) (fun z27 => bindO (pureO (.bin .eql .num false (.c z27) (.c x0))) (fun z28 => iteP z28 (bindO (pureO (.len .slice (.c (cellP z17 2)))) (fun
    z29 => bindO (pureO (.bin .eql .num true (.c z29) (.c (.int .i64 1)))) (fun z30 => iteP z30 (bindO (pureO (.idxAddr 1 (.c (cellP z17 2)) (.c (.int .i64 0)))) (fun z31 => bindO
    (pureO (.load 1 false (.c z31))) (fun z32 => bindO (pureO (.bin .eql .num false (.c z32) (.c x0))) (fun z33 => iteP z33 (bindO (pureO (.len .slice (.c (cellP z22 2)))) (fun z34 =>
    bindO (pureO (.bin .eql .num false (.c z34) (.c x0))) (fun z35 => iteP z35 (bindO (pureO (.bin .eql .num true (.c x0) (.c (.int .i64 0)))) (fun z36 => iteP z36 (some (.bool true))
    (bindO (pureO (.bin .sub .num true (.c x0) (.c (.int .i64 1)))) (fun z37 => bindO (pureO (.idxAddr 1 (.c (cellP z4 2)) (.c z37))) (fun z38 => bindO (pureO (.load 1 false (.c z38)))
    (fun z39 => bindO (pureO (.bin .eql .num false (.c z39) (.c x0))) (fun z40 => iteP z40 (bindO (pureO (.bin .sub .num true (.c x0) (.c (.int .i64 1)))) (fun z41 => bindO (pureO
    (.idxAddr 1 (.c (cellP z22 2)) (.c z41))) (fun z42 => bindO (pureO (.load 1 false (.c z42))) (fun z43 => bindO (pureO (.bin .eql .num true (.c z43) (.c (.int .i64 7)))) (fun z44 =>
    some z44))))) (some (.bool false))))))))) (some (.bool false))))) (some (.bool false)))))) (some (.bool false))))) (some (.bool false))))) (some (.bool false)))) (some (.bool
    false)))) (some (.bool false)))) (some (.bool false))) (fun z45 => some (z45, e)))))))))))))))))))) := by kernel_rfl
theorem run8 (B : KB) {E : Type} (h : Handler E) (dep : Nat) (e : E) (x0 : PV) (x1 : PV) :
    runK (cfg0 B (fun _ => .cl)) fn8 (.cl) h dep [.cv x0, .cv x1] e =
    chkO (valO x0) (bindO (callO B .cl (.fn 11 []) []) (fun z1 => bindO (selO x0 0 3 true) (fun z2 => bindO (callO B .cl (.fn 12 []) [z2]) (fun z3 => chkO (okSto z3 x0 0 3) (bindO
    (selO (stoP z3 x0 0) 0 3 true) (fun z4 => bindO (callO B .cl (.fn 16 []) [z4]) (fun z5 => bindO (pureO (.un .not (.c z5))) (fun z6 => iteP z6 (some (z1, e)) (bindO (selO (stoP z3
    x0 0) 2 1 false) (fun z7 => bindO (pureO (.len .slice (.c z7))) (fun z8 => bindO (pureO (.bin .eql .num true (.c z8) (.c (.int .i64 0)))) (fun z9 => iteP z9 (some (z1, e)) (bindO
    (pureO (.bin .lss .num true (.c x1) (.c (.int .i64 0)))) (fun z10 => iteP z10 (some (z1, e)) (bindO (pureO (.bin .gtr .num true (.c x1) (.c (.int .i64 200)))) (fun z11 => iteP z11
    (some (z1, e)) (bindO (callO B .cl (.fn 17 []) [x1]) (fun z12 => bindO (selO (stoP z3 x0 0) 0 3 true) (fun z13 => bindO (callO B .cl (.fn 15 []) [.str [226, 141, 180], z12, z13])
    (fun z14 => bindO (pureO (.extract 0 (.c z14))) (fun z15 => bindO (pureO (.extract 1 (.c z14))) (fun z16 => chkO (okCells z15 3) (bindO (callO B .cl (.fn 13 []) [.str [226, 137,
    162], .agg [cellP z15 0, cellP z15 1, cellP z15 2]]) (fun z17 => bindO (pureO (.extract 0 (.c z17))) (fun z18 => bindO (pureO (.extract 1 (.c z17))) (fun z19 => chkO (okCells z18
    3) (bindO (bindO (pureO (.bin .neq .num true (.c z16) (.c (.int .i64 0)))) (fun z20 => iteP z20 (some (.bool true)) (bindO (pureO (.bin .neq .num true (.c z19) (.c (.int .i64 0))))
    (fun z21 => iteP z21 (some (.bool true)) (bindO (pureO (.len .slice (.c (cellP z15 2)))) (fun z22 => bindO (pureO (.bin .neq .num false (.c z22) (.c x1))) (fun z23 => iteP z23
    (some (.bool true)) (bindO (pureO (.len .slice (.c (cellP z18 2)))) (fun z24 => bindO (pureO (.bin .neq .num true (.c z24) (.c (.int .i64 1)))) (fun z25 => some z25)))))))))) (fun
    z26 => iteP z26 (some (.bool false, e)) (chkO (noUndef [x1, z1, .int .i64 0]) (loopL (fun z27 => bindO (pureO (.bin .lss .num false (.c (nth z27.1 2)) (.c (nth z27.1 0)))) (fun z28
    => iteP z28 (bindO (pureO (.idxAddr 1 (.c (nth z27.1 6)) (.c (nth z27.1 2)))) (fun z29 => bindO (pureO (.load 1 false (.c z29))) (fun z30 => bindO (selO (nth z27.1 3) 2 1 false)
    (fun z31 => bindO (selO (nth z27.1 3) 2 1 false) (fun z32 => bindO (pureO (.len .slice (.c z32))) (fun z33 => bindO (pureO (.bin .rem .num false (.c (nth z27.1 2)) (.c z33))) (fun
    z34 => bindO (pureO (.idxAddr 1 (.c z31) (.c z34))) (fun z35 => bindO (pureO (.load 1 false (.c z35))) (fun z36 => bindO (pureO (.bin .neq .num false (.c z30) (.c z36))) (fun z37
    => iteP z37 (bindO (some (.bool false, z27.2)) (fun z38 => some (.inr z38))) (bindO (pureO (.bin .add .num true (.c (nth z27.1 2)) (.c (.int .i64 1)))) (fun z39 => some (.inl ([nth
    z27.1 0, nth z27.1 1, z39, nth z27.1 3, nth z27.1 4, nth z27.1 5, nth z27.1 6, nth z27.1 7, nth z27.1 8, nth z27.1 9], z27.2)))))))))))))) (bindO (bindO (iteP (nth z27.1 1) (bindO
    (pureO (.idxAddr 1 (.c (nth z27.1 9)) (.c (.int .i64 0)))) (fun z40 => bindO (pureO (.load 1 false (.c z40))) (fun z41 => bindO (pureO (.bin .eql .num false (.c z41) (.c (nth z27.1
    0)))) (fun z42 => iteP z42 (bindO (selO (nth z27.1 3) 1 1 false) (fun z43 => bindO (pureO (.bin .eql .bool false (.c (nth z27.1 5)) (.c z43))) (fun z44 => iteP z44 (some (nth z27.1
    4)) (some (.bool false))))) (some (.bool false)))))) (some (.bool false))) (fun z45 => some (z45, z27.2))) (fun z46 => some (.inr z46))))) ([x1, z1, .int .i64 0, stoP z3 x0 0,
    cellP z15 0, cellP z15 1, cellP z15 2, cellP z18 0, cellP z18 1, cellP z18 2], e))))))))))))))))))))))))))))))) := by kernel_rfl
theorem run9 (B : KB) {E : Type} (h : Handler E) (dep : Nat) (e : E) (x0 : PV) (x1 : PV) :
    runK (cfg0 B (fun _ => .cl)) fn9 (.cl) h dep [.cv x0, .cv x1] e =
    chkO (valO x0) (chkO (valO x1) (bindO (callO B .cl (.fn 11 []) []) (fun z1 => bindO (selO x0 0 3 true) (fun z2 => bindO (callO B .cl (.fn 12 []) [z2]) (fun z3 => chkO (okSto z3 x0
    0 3) (bindO (selO x1 0 3 true) (fun z4 => bindO (callO B .cl (.fn 12 []) [z4]) (fun z5 => chkO (okSto z5 x1 0 3) (bindO (selO (stoP z3 x0 0) 0 3 true) (fun z6 => bindO (selO (stoP
    z5 x1 0) 0 3 true) (fun z7 => bindO (callO B .cl (.fn 15 []) [.str [226, 137, 162], z6, z7]) (fun z8 => bindO (pureO (.extract 0 (.c z8))) (fun z9 => bindO (pureO (.extract 1 (.c
    z8))) (fun z10 => chkO (okCells z9 3) (bindO (pureO (.bin .neq .num true (.c z10) (.c (.int .i64 0)))) (fun z11 => iteP z11 (iteP z1 (bindO (selO (stoP z3 x0 0) 0 3 true) (fun z12
    => bindO (callO B .cl (.fn 16 []) [z12]) (fun z13 => bindO (pureO (.un .not (.c z13))) (fun z14 => iteP z14 (some (.bool true, e)) (bindO (selO (stoP z5 x1 0) 0 3 true) (fun z15 =>
    bindO (callO B .cl (.fn 16 []) [z15]) (fun z16 => bindO (pureO (.un .not (.c z16))) (fun z17 => some (z17, e))))))))) (some (.bool false, e))) (iteP z1 (bindO (pureO (.len .slice
    (.c (cellP z9 2)))) (fun z18 => bindO (pureO (.bin .eql .num true (.c z18) (.c (.int .i64 1)))) (fun z19 => iteP z19 (bindO (pureO (.un .not (.c (cellP z9 0)))) (fun z20 => iteP
    z20 (bindO (pureO (.idxAddr 1 (.c (cellP z9 2)) (.c (.int .i64 0)))) (fun z21 => bindO (pureO (.load 1 false (.c z21))) (fun z22 => bindO (pureO (.bin .eql .num true (.c z22) (.c
    (.int .i64 0)))) (fun z23 => bindO (selO (stoP z3 x0 0) 0 3 true) (fun z24 => bindO (selO (stoP z5 x1 0) 0 3 true) (fun z25 => bindO (callO B .cl (.fn 18 []) [z24, z25]) (fun z26
    => bindO (pureO (.bin .eql .bool false (.c z23) (.c z26))) (fun z27 => iteP z27 (bindO (pureO (.idxAddr 1 (.c (cellP z9 2)) (.c (.int .i64 0)))) (fun z28 => bindO (pureO (.load 1
    false (.c z28))) (fun z29 => bindO (pureO (.bin .eql .num true (.c z29) (.c (.int .i64 0)))) (fun z30 => iteP z30 (some (.bool true, e)) (bindO (pureO (.idxAddr 1 (.c (cellP z9 2))
    (.c (.int .i64 0)))) (fun z31 => bindO (pureO (.load 1 false (.c z31))) (fun z32 => bindO (pureO (.bin .eql .num true (.c z32) (.c (.int .i64 1)))) (fun z33 => some (z33,
    e))))))))) (some (.bool false, e)))))))))) (some (.bool false, e)))) (some (.bool false, e))))) (some (.bool false, e))))))))))))))))))) := by kernel_rfl
theorem run10 (B : KB) {E : Type} (h : Handler E) (dep : Nat) (e : E) (x0 : PV) (x1 : PV) (x2 : PV) :
    runK (cfg0 B (fun _ => .cl)) fn10 (.cl) h dep [.cv x0, .cv x1, .cv x2] e =
    chkO (valO x1) (chkO (valO x2) (bindO (callO B .cl (.fn 11 []) []) (fun z1 => bindO (selO x1 0 3 true) (fun z2 => bindO (callO B .cl (.fn 12 []) [z2]) (fun z3 => chkO (okSto z3 x1
    0 3) (bindO (selO x2 0 3 true) (fun z4 => bindO (callO B .cl (.fn 12 []) [z4]) (fun z5 => chkO (okSto z5 x2 0 3) (bindO (callO B .cl (.fn 14 []) [x0]) (fun z6 => bindO (selO (stoP
    z5 x2 0) 0 3 true) (fun z7 => bindO (callO B .cl (.fn 13 []) [z6, z7]) (fun z8 => bindO (pureO (.extract 0 (.c z8))) (fun z9 => bindO (pureO (.extract 1 (.c z8))) (fun z10 => chkO
    (okCells z9 3) (bindO (selO (stoP z5 x2 0) 0 3 true) (fun z11 => bindO (callO B .cl (.fn 19 []) [z6, z11]) (fun z12 => bindO (pureO (.extract 0 (.c z12))) (fun z13 => bindO (pureO
    (.extract 1 (.c z12))) (fun z14 => chkO (okCells z13 3) (bindO (selO (stoP z3 x1 0) 0 3 true) (fun z15 => bindO (selO (stoP z5 x2 0) 0 3 true) (fun z16 => bindO (callO B .cl (.fn
    15 []) [z6, z15, z16]) (fun z17 => bindO (pureO (.extract 0 (.c z17))) (fun z18 => bindO (pureO (.extract 1 (.c z17))) (fun z19 => chkO (okCells z18 3) (bindO (selO (stoP z3 x1 0)
    0 3 true) (fun z20 => bindO (selO (stoP z5 x2 0) 0 3 true) (fun z21 => bindO (callO B .cl (.fn 20 []) [z6, z20, z21]) (fun z22 => bindO (pureO (.extract 0 (.c z22))) (fun z23 =>
    bindO (pureO (.extract 1 (.c z22))) (fun z24 => chkO (okCells z23 3) (iteP z1 (bindO (callO B .cl (.fn 21 []) [.agg [cellP z9 0, cellP z9 1, cellP z9 2], .agg [cellP z13 0, cellP
    z13 1, cellP z13 2]]) (fun z25 => iteP z25 (bindO (pureO (.bin .eql .num false (.c z10) (.c z14))) (fun z26 => iteP z26 (bindO (callO B .cl (.fn 21 []) [.agg [cellP z18 0, cellP
    z18 1, cellP z18 2], .agg [cellP z23 0, cellP z23 1, cellP z23 2]]) (fun z27 => iteP z27 (bindO (pureO (.bin .eql .num false (.c z19) (.c z24))) (fun z28 => iteP z28 (bindO (callO
    B .cl (.fn 22 []) [z6]) (fun z29 => bindO (callO B .cl (.fn 23 []) [z6]) (fun z30 => bindO (pureO (.bin .eql .bool false (.c z29) (.c z30))) (fun z31 => iteP z31 (bindO (callO B
    .cl (.fn 24 []) [z6]) (fun z32 => bindO (callO B .cl (.fn 25 []) [z6]) (fun z33 => bindO (pureO (.bin .eql .bool false (.c z32) (.c z33))) (fun z34 => iteP z34 (bindO (selO (stoP
    z3 x1 0) 1 1 false) (fun z35 => bindO (callO B .cl (.fn 26 []) [z35]) (fun z36 => bindO (selO (stoP z3 x1 0) 1 1 false) (fun z37 => bindO (callO B .cl (.fn 27 []) [z37]) (fun z38
    => bindO (pureO (.bin .eql .num false (.c z36) (.c z38))) (fun z39 => some (z39, e))))))) (some (.bool false, e)))))) (some (.bool false, e)))))) (some (.bool false, e)))) (some
    (.bool false, e)))) (some (.bool false, e)))) (some (.bool false, e)))) (some (.bool false, e)))))))))))))))))))))))))))))))))) := by kernel_rfl
theorem run12 (B : KB) {E : Type} (h : Handler E) (dep : Nat) (e : E) (x0 : PV) :
    runK (cfg0 B (fun _ => .cl)) fn12 (.cl) h dep [.cv x0] e =
    chkO (valO x0) (bindO (selO x0 0 1 false) (fun z1 => bindO (selO x0 1 1 false) (fun z2 => bindO (selO x0 2 1 false) (fun z3 => bindO (selO x0 2 1 false) (fun z4 => bindO (pureO
    (.len .slice (.c z4))) (fun z5 => bindO (pureO (.minmax false [.c z5, .c (.int .i64 202)])) (fun z6 => bindO (pureO (.slice 1 (.c z3) none (some (.c z6)) none)) (fun z7 => bindO
    (pureO (.build [.bool false, .bool false, .nilS] [(0, (1, .c z1)), (1, (1, .c z2)), (2, (1, .c z7))])) (fun z8 => chkO (okCells z8 3) (some (.agg [cellP z8 0, cellP z8 1, cellP z8
    2], e))))))))))) := by kernel_rfl
theorem run13 (B : KB) {E : Type} (h : Handler E) (dep : Nat) (e : E) (x0 : PV) (x1 : PV) :
    runK (cfg0 B (fun _ => .cl)) fn13 (.cl) h dep [.cv x0, .cv x1] e =
    chkO (valO x1) (bindO (callO B .cl (.fn 30 []) []) (fun z1 => bindO (pureO (.lookup .str (.agg [.nilF, .nilF]) false (.c z1) (.c x0))) (fun z2 => chkO (okCells z2 2) (bindO (selO
    x1 0 3 true) (fun z3 => chkO (okSls 3 [z3]) (bindO (lendO B .cl true 31 [slO 3 3 [z3] 0 (lenL [z3])]) (fun z4 => bindO (pureO (.un .not (.c z4))) (fun z5 => iteP z5 (bindO (pureO
    (.build [.bool false, .bool false, .nilS] [])) (fun z6 => chkO (okCells z6 3) (some (.tup [.agg [cellP z6 0, cellP z6 1, cellP z6 2], .int .i64 114], e)))) (bindO (pureO (.bin .eql
    .func true (.c (cellP z2 0)) (.c .nilF))) (fun z7 => iteP z7 (bindO (pureO (.build [.bool false, .bool false, .nilS] [])) (fun z8 => chkO (okCells z8 3) (some (.tup [.agg [cellP z8
    0, cellP z8 1, cellP z8 2], .int .i64 102], e)))) (bindO (selO x1 0 3 true) (fun z9 => bindO (callO B .cl (cellP z2 0) [z9]) (fun z10 => bindO (pureO (.extract 0 (.c z10))) (fun
    z11 => bindO (pureO (.extract 1 (.c z10))) (fun z12 => chkO (okCells z11 3) (bindO (callO B .cl (.fn 32 []) [z12]) (fun z13 => some (.tup [.agg [cellP z11 0, cellP z11 1, cellP z11
    2], z13], e)))))))))))))))))) := by kernel_rfl
theorem run14 (B : KB) {E : Type} (h : Handler E) (dep : Nat) (e : E) (x0 : PV) :
    runK (cfg0 B (fun _ => .cl)) fn14 (.cl) h dep [.cv x0] e =
    bindO (pureO (.len .str (.c x0))) (fun z1 => bindO (pureO (.minmax false [.c z1, .c (.int .i64 20)])) (fun z2 => bindO (pureO (.strSlice (.c x0) none (some (.c z2)))) (fun z3 =>
    some (z3, e)))) := by kernel_rfl
theorem run15 (B : KB) {E : Type} (h : Handler E) (dep : Nat) (e : E) (x0 : PV) (x1 : PV) (x2 : PV) :
    runK (cfg0 B (fun _ => .cl)) fn15 (.cl) h dep [.cv x0, .cv x1, .cv x2] e =
    chkO (valO x1) (chkO (valO x2) (bindO (callO B .cl (.fn 30 []) []) (fun z1 => bindO (pureO (.lookup .str (.agg [.nilF, .nilF]) false (.c z1) (.c x0))) (fun z2 => chkO (okCells z2
    2) (bindO (selO x1 0 3 true) (fun z3 => bindO (selO x2 0 3 true) (fun z4 => chkO (okSls 3 [z3, z4]) (bindO (lendO B .cl true 31 [slO 3 3 [z3, z4] 0 (lenL [z3, z4])]) (fun z5 =>
    bindO (pureO (.un .not (.c z5))) (fun z6 => iteP z6 (bindO (pureO (.build [.bool false, .bool false, .nilS] [])) (fun z7 => chkO (okCells z7 3) (some (.tup [.agg [cellP z7 0, cellP
    z7 1, cellP z7 2], .int .i64 114], e)))) (bindO (pureO (.bin .eql .func true (.c (cellP z2 1)) (.c .nilF))) (fun z8 => iteP z8 (bindO (pureO (.build [.bool false, .bool false,
    .nilS] [])) (fun z9 => chkO (okCells z9 3) (some (.tup [.agg [cellP z9 0, cellP z9 1, cellP z9 2], .int .i64 102], e)))) (bindO (selO x2 0 3 true) (fun z10 => bindO (selO x1 0 3
    true) (fun z11 => bindO (pureO (.build [.bool false, .bool false, .nilS, .bool false, .bool false, .nilS] [(0, (3, .c z10)), (3, (3, .c z11))])) (fun z12 => bindO (callO B .cl
    (cellP z2 1) [z12]) (fun z13 => bindO (pureO (.extract 0 (.c z13))) (fun z14 => bindO (pureO (.extract 1 (.c z13))) (fun z15 => chkO (okCells z14 3) (bindO (callO B .cl (.fn 32 [])
    [z15]) (fun z16 => some (.tup [.agg [cellP z14 0, cellP z14 1, cellP z14 2], z16], e)))))))))))))))))))))) := by kernel_rfl
theorem run16 (B : KB) {E : Type} (h : Handler E) (dep : Nat) (e : E) (x0 : PV) :
    runK (cfg0 B (fun _ => .cl)) fn16 (.cl) h dep [.cv x0] e =
    chkO (valO x0) (bindO (selO x0 1 1 false) (fun z1 => iteP z1 (bindO (selO x0 2 1 false) (fun z2 => bindO (callO B .cl (.fn 35 []) [z2, .fn 33 []]) (fun z3 => iteP z3 (some (.bool
    false, e)) (bindO (selO x0 0 1 false) (fun z4 => iteP z4 (bindO (selO x0 2 1 false) (fun z5 => bindO (pureO (.len .slice (.c z5))) (fun z6 => bindO (pureO (.bin .leq .num true (.c
    z6) (.c (.int .i64 200)))) (fun z7 => some (z7, e))))) (bindO (selO x0 2 1 false) (fun z8 => bindO (pureO (.len .slice (.c z8))) (fun z9 => bindO (pureO (.bin .eql .num true (.c
    z9) (.c (.int .i64 1)))) (fun z10 => some (z10, e)))))))))) (bindO (selO x0 0 1 false) (fun z11 => iteP z11 (bindO (selO x0 2 1 false) (fun z12 => bindO (pureO (.len .slice (.c
    z12))) (fun z13 => bindO (pureO (.bin .leq .num true (.c z13) (.c (.int .i64 200)))) (fun z14 => some (z14, e))))) (bindO (selO x0 2 1 false) (fun z15 => bindO (pureO (.len .slice
    (.c z15))) (fun z16 => bindO (pureO (.bin .eql .num true (.c z16) (.c (.int .i64 1)))) (fun z17 => some (z17, e))))))))) := by kernel_rfl
theorem run17 (B : KB) {E : Type} (h : Handler E) (dep : Nat) (e : E) (x0 : PV) :
    runK (cfg0 B (fun _ => .cl)) fn17 (.cl) h dep [.cv x0] e =
    chkO (okSls 1 [x0]) (chkO (okU (.agg [.bool false, .bool false, slO 1 1 [x0] 0 (lenL [x0])])) (some (.agg [.bool false, .bool false, slO 1 1 [x0] 0 (lenL [x0])], e))) := by kernel_rfl
theorem run18 (B : KB) {E : Type} (h : Handler E) (dep : Nat) (e : E) (x0 : PV) (x1 : PV) :
    runK (cfg0 B (fun _ => .cl)) fn18 (.cl) h dep [.cv x0, .cv x1] e =
    chkO (valO x0) (chkO (valO x1) (bindO (selO x0 0 1 false) (fun z1 => bindO (selO x1 0 1 false) (fun z2 => bindO (pureO (.bin .eql .bool false (.c z1) (.c z2))) (fun z3 => iteP z3
    (bindO (selO x0 1 1 false) (fun z4 => bindO (selO x1 1 1 false) (fun z5 => bindO (pureO (.bin .eql .bool false (.c z4) (.c z5))) (fun z6 => iteP z6 (bindO (selO x0 2 1 false) (fun
    z7 => bindO (selO x1 2 1 false) (fun z8 => bindO (callO B .cl (.fn 36 []) [z7, z8]) (fun z9 => some (z9, e))))) (some (.bool false, e)))))) (some (.bool false, e))))))) := by kernel_rfl
theorem run19 (B : KB) {E : Type} (h : Handler E) (dep : Nat) (e : E) (x0 : PV) (x1 : PV) :
    runK (cfg0 B (fun _ => .cl)) fn19 (.cl) h dep [.cv x0, .cv x1] e =
    chkO (valO x1) (bindO (selO x1 0 3 true) (fun z1 => bindO (callO B .cl (.fn 37 []) [z1]) (fun z2 => bindO (pureO (.un .not (.c z2))) (fun z3 => iteP z3 (bindO (pureO (.build [.bool
    false, .bool false, .nilS] [])) (fun z4 => chkO (okCells z4 3) (some (.tup [.agg [cellP z4 0, cellP z4 1, cellP z4 2], .int .i64 114], e)))) (bindO (selO x1 2 1 false) (fun z5 =>
    bindO (elemsO 1 z5) (fun z6 => chkO (leN (lenL z6) 2147483648) (bindO (pureO (.bin .eql .str true (.c x0) (.c (.str [226, 141, 180])))) (fun z7 => iteP z7 (bindO (selO x1 0 1
    false) (fun z8 => bindO (pureO (.un .not (.c z8))) (fun z9 => iteP z9 (bindO (callO B .cl (.fn 38 []) [.nilS, .bool false]) (fun z10 => chkO (okCells z10 3) (some (.tup [.agg
    [cellP z10 0, cellP z10 1, cellP z10 2], .int .i64 0], e)))) (bindO (selO x1 2 1 false) (fun z11 => bindO (pureO (.len .slice (.c z11))) (fun z12 => chkO (okSls 1 [z12]) (bindO
    (lendO B .cl false 38 [slO 1 1 [z12] 0 (lenL [z12]), .bool false]) (fun z13 => chkO (okCells z13 3) (some (.tup [.agg [cellP z13 0, cellP z13 1, cellP z13 2], .int .i64 0],
    e)))))))))) (bindO (pureO (.bin .eql .str true (.c x0) (.c (.str [226, 141, 179])))) (fun z14 => iteP z14 (bindO (selO x1 0 3 true) (fun z15 => bindO (callO B .cl (.fn 39 [])
    [z15]) (fun z16 => bindO (pureO (.extract 0 (.c z16))) (fun z17 => bindO (pureO (.extract 1 (.c z16))) (fun z18 => chkO (okCells z17 3) (some (.tup [.agg [cellP z17 0, cellP z17 1,
    cellP z17 2], z18], e))))))) (bindO (pureO (.bin .eql .str true (.c x0) (.c (.str [44])))) (fun z19 => iteP z19 (bindO (selO x1 1 1 false) (fun z20 => bindO (lendO B .cl false 38
    [slO 1 1 z6 0 (lenL z6), z20]) (fun z21 => chkO (okCells z21 3) (some (.tup [.agg [cellP z21 0, cellP z21 1, cellP z21 2], .int .i64 0], e))))) (bindO (pureO (.bin .eql .str true
    (.c x0) (.c (.str [226, 140, 189])))) (fun z22 => iteP z22 (chkO (noUndef [nI (lenL z6), .int .i64 0]) (loopL (fun z23 => bindO (pureO (.bin .lss .num false (.c (nth z23.1 1)) (.c
    (nI (natP (nth z23.1 0)))))) (fun z24 => iteP z24 (bindO (selO (nth z23.1 2) 2 1 false) (fun z25 => bindO (pureO (.bin .sub .num true (.c (nI (natP (nth z23.1 0)))) (.c (.int .i64
    1)))) (fun z26 => bindO (pureO (.bin .sub .num false (.c z26) (.c (nth z23.1 1)))) (fun z27 => bindO (pureO (.idxAddr 1 (.c z25) (.c z27))) (fun z28 => bindO (pureO (.load 1 false
    (.c z28))) (fun z29 => bindO (natO (nth z23.1 1)) (fun z30 => chkO (ltN z30 (natP (nth z23.1 0))) (bindO (setO 1 (itemsP (nth z23.1 6)) (addN 0 z30) 0 1 z29) (fun z31 => bindO
    (pureO (.bin .add .num true (.c (nth z23.1 1)) (.c (.int .i64 1)))) (fun z32 => some (.inl ([nI (natP (nth z23.1 0)), z32, nth z23.1 2, nth z23.1 3, nth z23.1 4, nth z23.1 5, .sl 1
    z31 false], z23.2)))))))))))) (bindO (bindO (selO (nth z23.1 2) 0 1 false) (fun z33 => bindO (selO (nth z23.1 2) 1 1 false) (fun z34 => chkO (okCells z33 1) (chkO (okCells z34 1)
    (chkO (okU (.tup [.agg [cellP z33 0, cellP z34 0, slO 1 1 (itemsP (nth z23.1 6)) 0 (natP (nth z23.1 0))], .int .i64 0])) (some (.tup [.agg [cellP z33 0, cellP z34 0, slO 1 1
    (itemsP (nth z23.1 6)) 0 (natP (nth z23.1 0))], .int .i64 0], z23.2))))))) (fun z35 => some (.inr z35))))) ([nI (lenL z6), .int .i64 0, x1, .bool false, .bool false, .nilS, .sl 1
    z6 false], e))) (bindO (pureO (.bin .eql .str true (.c x0) (.c (.str [226, 134, 145])))) (fun z36 => iteP z36 (bindO (pureO (.bin .eql .num true (.c (nI (lenL z6))) (.c (.int .i64
    0)))) (fun z37 => iteP z37 (bindO (selO x1 1 1 false) (fun z38 => bindO (callO B .cl (.fn 27 []) [z38]) (fun z39 => chkO (okSls 1 [z39]) (chkO (leN (addN 0 (lenL [z39])) (lenL
    [z39])) (chkO (andB (leN (lenL z6) (lenL z6)) (leN (addN (lenL z6) (lenL (takeL (lenL [z39]) (dropL 0 [z39])))) 2147483648)) (bindO (selO x1 1 1 false) (fun z40 => bindO (boundO
    none (addN (lenL z6) (lenL (takeL (lenL [z39]) (dropL 0 [z39])))) (addN (lenL z6) (lenL (takeL (lenL [z39]) (dropL 0 [z39]))))) (fun z41 => bindO (boundO (some (.int .i64 1)) (addN
    (lenL z6) (lenL (takeL (lenL [z39]) (dropL 0 [z39])))) z41) (fun z42 => chkO (okCells z40 1) (chkO (okU (.tup [.agg [.bool false, cellP z40 0, slO 1 1 (catL (takeL (lenL z6) z6)
    (takeL (lenL [z39]) (dropL 0 [z39]))) 0 z42], .int .i64 0])) (some (.tup [.agg [.bool false, cellP z40 0, slO 1 1 (catL (takeL (lenL z6) z6) (takeL (lenL [z39]) (dropL 0 [z39]))) 0
    z42], .int .i64 0], e)))))))))))) (bindO (selO x1 1 1 false) (fun z43 => bindO (boundO none (lenL z6) (lenL z6)) (fun z44 => bindO (boundO (some (.int .i64 1)) (lenL z6) z44) (fun
    z45 => chkO (okCells z43 1) (chkO (okU (.tup [.agg [.bool false, cellP z43 0, slO 1 1 z6 0 z45], .int .i64 0])) (some (.tup [.agg [.bool false, cellP z43 0, slO 1 1 z6 0 z45], .int
    .i64 0], e))))))))) (bindO (pureO (.bin .eql .str true (.c x0) (.c (.str [226, 137, 162])))) (fun z46 => iteP z46 (bindO (callO B .cl (.fn 40 []) [nI (lenL z6)]) (fun z47 => chkO
    (okCells z47 3) (some (.tup [.agg [cellP z47 0, cellP z47 1, cellP z47 2], .int .i64 0], e)))) (bindO (pureO (.build [.bool false, .bool false, .nilS] [])) (fun z48 => chkO
    (okCells z48 3) (some (.tup [.agg [cellP z48 0, cellP z48 1, cellP z48 2], .int .i64 102], e))))))))))))))))))))))) := by kernel_rfl
theorem run20 (B : KB) {E : Type} (h : Handler E) (dep : Nat) (e : E) (x0 : PV) (x1 : PV) (x2 : PV) :
    runK (cfg0 B (fun _ => .cl)) fn20 (.cl) h dep [.cv x0, .cv x1, .cv x2] e =
    chkO (valO x1) (chkO (valO x2) (bindO (selO x1 0 3 true) (fun z1 => bindO (callO B .cl (.fn 37 []) [z1]) (fun z2 => bindO (pureO (.un .not (.c z2))) (fun z3 => iteP z3 (bindO
    (pureO (.build [.bool false, .bool false, .nilS] [])) (fun z4 => chkO (okCells z4 3) (some (.tup [.agg [cellP z4 0, cellP z4 1, cellP z4 2], .int .i64 114], e)))) (bindO (selO x2 0
    3 true) (fun z5 => bindO (callO B .cl (.fn 37 []) [z5]) (fun z6 => bindO (pureO (.un .not (.c z6))) (fun z7 => iteP z7 (bindO (pureO (.build [.bool false, .bool false, .nilS] []))
    (fun z8 => chkO (okCells z8 3) (some (.tup [.agg [cellP z8 0, cellP z8 1, cellP z8 2], .int .i64 114], e)))) (bindO (pureO (.bin .eql .str true (.c x0) (.c (.str [226, 141,
    180])))) (fun z9 => iteP z9 (iteP z9 (bindO (selO x1 0 3 true) (fun z10 => bindO (selO x2 0 3 true) (fun z11 => bindO (callO B .cl (.fn 41 []) [x0, z10, z11]) (fun z12 => bindO
    (pureO (.extract 0 (.c z12))) (fun z13 => bindO (pureO (.extract 1 (.c z12))) (fun z14 => chkO (okCells z13 3) (some (.tup [.agg [cellP z13 0, cellP z13 1, cellP z13 2], z14],
    e)))))))) (bindO (pureO (.bin .eql .str true (.c x0) (.c (.str [226, 141, 179])))) (fun z15 => iteP z15 (bindO (selO x1 0 1 false) (fun z16 => bindO (pureO (.un .not (.c z16)))
    (fun z17 => iteP z17 (bindO (pureO (.build [.bool false, .bool false, .nilS] [])) (fun z18 => chkO (okCells z18 3) (some (.tup [.agg [cellP z18 0, cellP z18 1, cellP z18 2], .int
    .i64 111], e)))) (bindO (selO x1 0 3 true) (fun z19 => bindO (selO x2 0 3 true) (fun z20 => bindO (callO B .cl (.fn 42 []) [z19, z20]) (fun z21 => chkO (okCells z21 3) (some (.tup
    [.agg [cellP z21 0, cellP z21 1, cellP z21 2], .int .i64 0], e))))))))) (bindO (pureO (.bin .eql .str true (.c x0) (.c (.str [44])))) (fun z22 => iteP z22 (bindO (selO x1 0 3 true)
    (fun z23 => bindO (selO x2 0 3 true) (fun z24 => bindO (callO B .cl (.fn 43 []) [z23, z24]) (fun z25 => bindO (pureO (.extract 0 (.c z25))) (fun z26 => bindO (pureO (.extract 1 (.c
    z25))) (fun z27 => chkO (okCells z26 3) (some (.tup [.agg [cellP z26 0, cellP z26 1, cellP z26 2], z27], e)))))))) (bindO (pureO (.bin .eql .str true (.c x0) (.c (.str [226, 137,
    162])))) (fun z28 => iteP z28 (bindO (selO x1 0 3 true) (fun z29 => bindO (selO x2 0 3 true) (fun z30 => bindO (callO B .cl (.fn 21 []) [z29, z30]) (fun z31 => iteP z31 (bindO
    (callO B .cl (.fn 40 []) [.int .i64 0]) (fun z32 => chkO (okCells z32 3) (some (.tup [.agg [cellP z32 0, cellP z32 1, cellP z32 2], .int .i64 0], e)))) (bindO (callO B .cl (.fn 40
    []) [.int .i64 1]) (fun z33 => chkO (okCells z33 3) (some (.tup [.agg [cellP z33 0, cellP z33 1, cellP z33 2], .int .i64 0], e)))))))) (bindO (pureO (.build [.bool false, .bool
    false, .nilS] [])) (fun z34 => chkO (okCells z34 3) (some (.tup [.agg [cellP z34 0, cellP z34 1, cellP z34 2], .int .i64 102], e))))))))))) (bindO (pureO (.bin .eql .str true (.c
    x0) (.c (.str [226, 140, 189])))) (fun z35 => iteP z35 (iteP z35 (bindO (selO x1 0 3 true) (fun z36 => bindO (selO x2 0 3 true) (fun z37 => bindO (callO B .cl (.fn 41 []) [x0, z36,
    z37]) (fun z38 => bindO (pureO (.extract 0 (.c z38))) (fun z39 => bindO (pureO (.extract 1 (.c z38))) (fun z40 => chkO (okCells z39 3) (some (.tup [.agg [cellP z39 0, cellP z39 1,
    cellP z39 2], z40], e)))))))) (bindO (pureO (.bin .eql .str true (.c x0) (.c (.str [226, 141, 179])))) (fun z41 => iteP z41 (bindO (selO x1 0 1 false) (fun z42 => bindO (pureO (.un
    .not (.c z42))) (fun z43 => iteP z43 (bindO (pureO (.build [.bool false, .bool false, .nilS] [])) (fun z44 => chkO (okCells z44 3) (some (.tup [.agg [cellP z44 0, cellP z44 1,
    cellP z44 2], .int .i64 111], e)))) (bindO (selO x1 0 3 true) (fun z45 => bindO (selO x2 0 3 true) (fun z46 => bindO (callO B .cl (.fn 42 []) [z45, z46]) (fun z47 => chkO (okCells
    z47 3) (some (.tup [.agg [cellP z47 0, cellP z47 1, cellP z47 2], .int .i64 0], e))))))))) (bindO (pureO (.bin .eql .str true (.c x0) (.c (.str [44])))) (fun z48 => iteP z48 (bindO
    (selO x1 0 3 true) (fun z49 => bindO (selO x2 0 3 true) (fun z50 => bindO (callO B .cl (.fn 43 []) [z49, z50]) (fun z51 => bindO (pureO (.extract 0 (.c z51))) (fun z52 => bindO
    (pureO (.extract 1 (.c z51))) (fun z53 => chkO (okCells z52 3) (some (.tup [.agg [cellP z52 0, cellP z52 1, cellP z52 2], z53], e)))))))) (bindO (pureO (.bin .eql .str true (.c x0)
    (.c (.str [226, 137, 162])))) (fun z54 => iteP z54 (bindO (selO x1 0 3 true) (fun z55 => bindO (selO x2 0 3 true) (fun z56 => bindO (callO B .cl (.fn 21 []) [z55, z56]) (fun z57 =>
    iteP z57 (bindO (callO B .cl (.fn 40 []) [.int .i64 0]) (fun z58 => chkO (okCells z58 3) (some (.tup [.agg [cellP z58 0, cellP z58 1, cellP z58 2], .int .i64 0], e)))) (bindO
    (callO B .cl (.fn 40 []) [.int .i64 1]) (fun z59 => chkO (okCells z59 3) (some (.tup [.agg [cellP z59 0, cellP z59 1, cellP z59 2], .int .i64 0], e)))))))) (bindO (pureO (.build
    [.bool false, .bool false, .nilS] [])) (fun z60 => chkO (okCells z60 3) (some (.tup [.agg [cellP z60 0, cellP z60 1, cellP z60 2], .int .i64 102], e))))))))))) (bindO (pureO (.bin
    .eql .str true (.c x0) (.c (.str [226, 134, 145])))) (fun z61 => iteP z61 (iteP z61 (bindO (selO x1 0 3 true) (fun z62 => bindO (selO x2 0 3 true) (fun z63 => bindO (callO B .cl
    (.fn 41 []) [x0, z62, z63]) (fun z64 => bindO (pureO (.extract 0 (.c z64))) (fun z65 => bindO (pureO (.extract 1 (.c z64))) (fun z66 => chkO (okCells z65 3) (some (.tup [.agg
    [cellP z65 0, cellP z65 1, cellP z65 2], z66], e)))))))) (bindO (pureO (.bin .eql .str true (.c x0) (.c (.str [226, 141, 179])))) (fun z67 => iteP z67 (bindO (selO x1 0 1 false)
    (fun z68 => bindO (pureO (.un .not (.c z68))) (fun z69 => iteP z69 (bindO (pureO (.build [.bool false, .bool false, .nilS] [])) (fun z70 => chkO (okCells z70 3) (some (.tup [.agg
    [cellP z70 0, cellP z70 1, cellP z70 2], .int .i64 111], e)))) (bindO (selO x1 0 3 true) (fun z71 => bindO (selO x2 0 3 true) (fun z72 => bindO (callO B .cl (.fn 42 []) [z71, z72])
    (fun z73 => chkO (okCells z73 3) (some (.tup [.agg [cellP z73 0, cellP z73 1, cellP z73 2], .int .i64 0], e))))))))) (bindO (pureO (.bin .eql .str true (.c x0) (.c (.str [44]))))
    (fun z74 => iteP z74 (bindO (selO x1 0 3 true) (fun z75 => bindO (selO x2 0 3 true) (fun z76 => bindO (callO B .cl (.fn 43 []) [z75, z76]) (fun z77 => bindO (pureO (.extract 0 (.c
    z77))) (fun z78 => bindO (pureO (.extract 1 (.c z77))) (fun z79 => chkO (okCells z78 3) (some (.tup [.agg [cellP z78 0, cellP z78 1, cellP z78 2], z79], e)))))))) (bindO (pureO
    (.bin .eql .str true (.c x0) (.c (.str [226, 137, 162])))) (fun z80 => iteP z80 (bindO (selO x1 0 3 true) (fun z81 => bindO (selO x2 0 3 true) (fun z82 => bindO (callO B .cl (.fn
    21 []) [z81, z82]) (fun z83 => iteP z83 (bindO (callO B .cl (.fn 40 []) [.int .i64 0]) (fun z84 => chkO (okCells z84 3) (some (.tup [.agg [cellP z84 0, cellP z84 1, cellP z84 2],
    .int .i64 0], e)))) (bindO (callO B .cl (.fn 40 []) [.int .i64 1]) (fun z85 => chkO (okCells z85 3) (some (.tup [.agg [cellP z85 0, cellP z85 1, cellP z85 2], .int .i64 0],
    e)))))))) (bindO (pureO (.build [.bool false, .bool false, .nilS] [])) (fun z86 => chkO (okCells z86 3) (some (.tup [.agg [cellP z86 0, cellP z86 1, cellP z86 2], .int .i64 102],
    e))))))))))) (bindO (pureO (.bin .eql .str true (.c x0) (.c (.str [226, 134, 147])))) (fun z87 => iteP z87 (bindO (selO x1 0 3 true) (fun z88 => bindO (selO x2 0 3 true) (fun z89
    => bindO (callO B .cl (.fn 41 []) [x0, z88, z89]) (fun z90 => bindO (pureO (.extract 0 (.c z90))) (fun z91 => bindO (pureO (.extract 1 (.c z90))) (fun z92 => chkO (okCells z91 3)
    (some (.tup [.agg [cellP z91 0, cellP z91 1, cellP z91 2], z92], e)))))))) (bindO (pureO (.bin .eql .str true (.c x0) (.c (.str [226, 141, 179])))) (fun z93 => iteP z93 (bindO
    (selO x1 0 1 false) (fun z94 => bindO (pureO (.un .not (.c z94))) (fun z95 => iteP z95 (bindO (pureO (.build [.bool false, .bool false, .nilS] [])) (fun z96 => chkO (okCells z96 3)
    (some (.tup [.agg [cellP z96 0, cellP z96 1, cellP z96 2], .int .i64 111], e)))) (bindO (selO x1 0 3 true) (fun z97 => bindO (selO x2 0 3 true) (fun z98 => bindO (callO B .cl (.fn
    42 []) [z97, z98]) (fun z99 => chkO (okCells z99 3) (some (.tup [.agg [cellP z99 0, cellP z99 1, cellP z99 2], .int .i64 0], e))))))))) (bindO (pureO (.bin .eql .str true (.c x0)
    (.c (.str [44])))) (fun z100 => iteP z100 (bindO (selO x1 0 3 true) (fun z101 => bindO (selO x2 0 3 true) (fun z102 => bindO (callO B .cl (.fn 43 []) [z101, z102]) (fun z103 =>
    bindO (pureO (.extract 0 (.c z103))) (fun z104 => bindO (pureO (.extract 1 (.c z103))) (fun z105 => chkO (okCells z104 3) (some (.tup [.agg [cellP z104 0, cellP z104 1, cellP z104
    2], z105], e)))))))) (bindO (pureO (.bin .eql .str true (.c x0) (.c (.str [226, 137, 162])))) (fun z106 => iteP z106 (bindO (selO x1 0 3 true) (fun z107 => bindO (selO x2 0 3 true)
    (fun z108 => bindO (callO B .cl (.fn 21 []) [z107, z108]) (fun z109 => iteP z109 (bindO (callO B .cl (.fn 40 []) [.int .i64 0]) (fun z110 => chkO (okCells z110 3) (some (.tup [.agg
    [cellP z110 0, cellP z110 1, cellP z110 2], .int .i64 0], e)))) (bindO (callO B .cl (.fn 40 []) [.int .i64 1]) (fun z111 => chkO (okCells z111 3) (some (.tup [.agg [cellP z111 0,
    cellP z111 1, cellP z111 2], .int .i64 0], e)))))))) (bindO (pureO (.build [.bool false, .bool false, .nilS] [])) (fun z112 => chkO (okCells z112 3) (some (.tup [.agg [cellP z112
    0, cellP z112 1, cellP z112 2], .int .i64 102], e))))))))))))))))))))))))))) := by kernel_rfl
theorem run21 (B : KB) {E : Type} (h : Handler E) (dep : Nat) (e : E) (x0 : PV) (x1 : PV) :
    runK (cfg0 B (fun _ => .cl)) fn21 (.cl) h dep [.cv x0, .cv x1] e =
    chkO (valO x0) (chkO (valO x1) (bindO (selO x0 0 1 false) (fun z1 => bindO (selO x1 0 1 false) (fun z2 => bindO (pureO (.bin .eql .bool false (.c z1) (.c z2))) (fun z3 => iteP z3
    (bindO (selO x0 1 1 false) (fun z4 => bindO (selO x1 1 1 false) (fun z5 => bindO (pureO (.bin .eql .bool false (.c z4) (.c z5))) (fun z6 => iteP z6 (bindO (selO x0 2 1 false) (fun
    z7 => bindO (selO x1 2 1 false) (fun z8 => bindO (callO B .cl (.fn 44 []) [z7, z8]) (fun z9 => some (z9, e))))) (some (.bool false, e)))))) (some (.bool false, e))))))) := by kernel_rfl
theorem run22 (B : KB) {E : Type} (h : Handler E) (dep : Nat) (e : E) (x0 : PV) :
    runK (cfg0 B (fun _ => .cl)) fn22 (.cl) h dep [.cv x0] e =
    bindO (callO B .cl (.fn 30 []) []) (fun z1 => bindO (pureO (.lookup .str (.agg [.nilF, .nilF]) false (.c z1) (.c x0))) (fun z2 => bindO (pureO (.field 0 1 false (.c z2))) (fun z3
    => bindO (pureO (.bin .neq .func true (.c z3) (.c .nilF))) (fun z4 => some (z4, e))))) := by kernel_rfl
theorem run23 (B : KB) {E : Type} (h : Handler E) (dep : Nat) (e : E) (x0 : PV) :
    runK (cfg0 B (fun _ => .cl)) fn23 (.cl) h dep [.cv x0] e =
    bindO (bindO (pureO (.bin .eql .str true (.c x0) (.c (.str [226, 141, 180])))) (fun z1 => iteP z1 (some (.bool true)) (bindO (pureO (.bin .eql .str true (.c x0) (.c (.str [226,
    141, 179])))) (fun z2 => iteP z2 (some (.bool true)) (bindO (pureO (.bin .eql .str true (.c x0) (.c (.str [44])))) (fun z3 => iteP z3 (some (.bool true)) (bindO (pureO (.bin .eql
    .str true (.c x0) (.c (.str [226, 140, 189])))) (fun z4 => iteP z4 (some (.bool true)) (bindO (pureO (.bin .eql .str true (.c x0) (.c (.str [226, 134, 145])))) (fun z5 => iteP z5
    (some (.bool true)) (bindO (pureO (.bin .eql .str true (.c x0) (.c (.str [226, 137, 162])))) (fun z6 => some z6)))))))))))) (fun z7 => some (z7, e)) := by kernel_rfl
theorem run24 (B : KB) {E : Type} (h : Handler E) (dep : Nat) (e : E) (x0 : PV) :
    runK (cfg0 B (fun _ => .cl)) fn24 (.cl) h dep [.cv x0] e =
    bindO (callO B .cl (.fn 30 []) []) (fun z1 => bindO (pureO (.lookup .str (.agg [.nilF, .nilF]) false (.c z1) (.c x0))) (fun z2 => bindO (pureO (.field 1 1 false (.c z2))) (fun z3
    => bindO (pureO (.bin .neq .func true (.c z3) (.c .nilF))) (fun z4 => some (z4, e))))) := by kernel_rfl
theorem run25 (B : KB) {E : Type} (h : Handler E) (dep : Nat) (e : E) (x0 : PV) :
    runK (cfg0 B (fun _ => .cl)) fn25 (.cl) h dep [.cv x0] e =
    bindO (callO B .cl (.fn 23 []) [x0]) (fun z1 => iteP z1 (some (.bool true, e)) (bindO (pureO (.bin .eql .str true (.c x0) (.c (.str [226, 134, 147])))) (fun z2 => some (z2, e)))) := by kernel_rfl
theorem run26 (B : KB) {E : Type} (h : Handler E) (dep : Nat) (e : E) (x0 : PV) :
    runK (cfg0 B (fun _ => .cl)) fn26 (.cl) h dep [.cv x0] e =
    iteP x0 (some (.int .i64 32, e)) (some (.int .i64 0, e)) := by kernel_rfl
theorem run27 (B : KB) {E : Type} (h : Handler E) (dep : Nat) (e : E) (x0 : PV) :
    runK (cfg0 B (fun _ => .cl)) fn27 (.cl) h dep [.cv x0] e =
    iteP x0 (some (.int .i64 32, e)) (some (.int .i64 0, e)) := by kernel_rfl
theorem run28 (B : KB) {E : Type} (h : Handler E) (dep : Nat) (e : E) (x0 : PV) :
    runK (cfg0 B (fun _ => .cl)) fn28 (.cl) h dep [.cv x0] e =
    bindO (pureO (.build [.bool false, .bool false, .nilS] [(0, (1, .c (.bool true))), (2, (1, .c x0))])) (fun z1 => chkO (okCells z1 3) (some (.agg [cellP z1 0, cellP z1 1, cellP z1
    2], e))) := by kernel_rfl
theorem run30 (B : KB) {E : Type} (h : Handler E) (dep : Nat) (e : E)  :
    runK (cfg0 B (fun _ => .cl)) fn30 (.cl) h dep [] e =
    bindO (pureO (.build [.nilF, .nilF] [(0, (1, .c (.fn 46 []))), (1, (1, .c (.fn 47 [])))])) (fun z1 => bindO (insO .str [] (.str [226, 141, 180]) z1) (fun z2 => bindO (pureO (.build
    [.nilF, .nilF] [(0, (1, .c (.fn 48 []))), (1, (1, .c (.fn 49 [])))])) (fun z3 => bindO (insO .str z2 (.str [226, 141, 179]) z3) (fun z4 => bindO (pureO (.build [.nilF, .nilF] [(0,
    (1, .c (.fn 50 []))), (1, (1, .c (.fn 53 [])))])) (fun z5 => bindO (insO .str z4 (.str [44]) z5) (fun z6 => bindO (pureO (.build [.nilF, .nilF] [(0, (1, .c (.fn 54 []))), (1, (1,
    .c (.fn 55 [])))])) (fun z7 => bindO (insO .str z6 (.str [226, 140, 189]) z7) (fun z8 => bindO (pureO (.build [.nilF, .nilF] [(0, (1, .c (.fn 56 []))), (1, (1, .c (.fn 57 [])))]))
    (fun z9 => bindO (insO .str z8 (.str [226, 134, 145]) z9) (fun z10 => bindO (pureO (.build [.nilF, .nilF] [(0, (1, .c .nilF)), (1, (1, .c (.fn 58 [])))])) (fun z11 => bindO (insO
    .str z10 (.str [226, 134, 147]) z11) (fun z12 => bindO (pureO (.build [.nilF, .nilF] [(0, (1, .c (.fn 59 []))), (1, (1, .c (.fn 61 [])))])) (fun z13 => bindO (insO .str z12 (.str
    [226, 137, 162]) z13) (fun z14 => chkO (okU (.imap z14)) (some (.imap z14, e)))))))))))))))) := by kernel_rfl
theorem run31 (B : KB) {E : Type} (h : Handler E) (dep : Nat) (e : E) (x0 : PV) :
    runK (cfg0 B (fun _ => .cl)) fn31 (.cl) h dep [.cv x0] e =
    bindO (callO B .cl (.fn 62 []) [x0, .fn 63 []]) (fun z1 => bindO (pureO (.un .not (.c z1))) (fun z2 => some (z2, e))) := by kernel_rfl
theorem run32 (B : KB) {E : Type} (h : Handler E) (dep : Nat) (e : E) (x0 : PV) :
    runK (cfg0 B (fun _ => .cl)) fn32 (.cl) h dep [.cv x0] e =
    chkO (eqN 1 1) (asP 72 x0 (fun z1 => chkO (okCells z1 1) (bindO (selO z1 0 1 false) (fun z2 => some (z2, e)))) (some (.int .i64 0, e))) := by kernel_rfl
theorem run33 (B : KB) {E : Type} (h : Handler E) (dep : Nat) (e : E) (x0 : PV) :
    runK (cfg0 B (fun _ => .cl)) fn33 (.cl) h dep [.cv x0] e =
    bindO (callO B .cl (.fn 34 []) [x0]) (fun z1 => bindO (pureO (.un .not (.c z1))) (fun z2 => some (z2, e))) := by kernel_rfl
theorem run34 (B : KB) {E : Type} (h : Handler E) (dep : Nat) (e : E) (x0 : PV) :
    runK (cfg0 B (fun _ => .cl)) fn34 (.cl) h dep [.cv x0] e =
    bindO (bindO (pureO (.bin .geq .num true (.c x0) (.c (.int .i64 0)))) (fun z1 => iteP z1 (bindO (pureO (.bin .leq .num true (.c x0) (.c (.int .i64 1114111)))) (fun z2 => iteP z2
    (bindO (pureO (.bin .lss .num true (.c x0) (.c (.int .i64 55296)))) (fun z3 => iteP z3 (some (.bool true)) (bindO (pureO (.bin .gtr .num true (.c x0) (.c (.int .i64 57343)))) (fun
    z4 => some z4)))) (some (.bool false)))) (some (.bool false)))) (fun z5 => some (z5, e)) := by kernel_rfl
theorem run35 (B : KB) {E : Type} (h : Handler E) (dep : Nat) (e : E) (x0 : PV) (x1 : PV) :
    runK (cfg0 B (fun _ => .cl)) fn35 (.cl) h dep [.cv x0, .cv x1] e =
    bindO (callO B .cl (.fn 65 []) [x0, x1]) (fun z1 => bindO (pureO (.bin .geq .num true (.c z1) (.c (.int .i64 0)))) (fun z2 => some (z2, e))) := by kernel_rfl
theorem run36 (B : KB) {E : Type} (h : Handler E) (dep : Nat) (e : E) (x0 : PV) (x1 : PV) :
    runK (cfg0 B (fun _ => .cl)) fn36 (.cl) h dep [.cv x0, .cv x1] e =
    bindO (pureO (.len .slice (.c x0))) (fun z1 => bindO (pureO (.len .slice (.c x1))) (fun z2 => bindO (pureO (.bin .neq .num false (.c z1) (.c z2))) (fun z3 => iteP z3 (some (.bool
    false, e)) (bindO (pureO (.len .slice (.c x0))) (fun z4 => chkO (noUndef [x0, x1, z4, .int .i64 0]) (loopL (fun z5 => bindO (pureO (.bin .lss .num false (.c (nth z5.1 3)) (.c (nth
    z5.1 2)))) (fun z6 => iteP z6 (bindO (pureO (.idxAddr 1 (.c (nth z5.1 0)) (.c (nth z5.1 3)))) (fun z7 => bindO (pureO (.load 1 false (.c z7))) (fun z8 => bindO (pureO (.idxAddr 1
    (.c (nth z5.1 1)) (.c (nth z5.1 3)))) (fun z9 => bindO (pureO (.load 1 false (.c z9))) (fun z10 => bindO (pureO (.bin .neq .num false (.c z8) (.c z10))) (fun z11 => iteP z11 (bindO
    (some (.bool false, z5.2)) (fun z12 => some (.inr z12))) (bindO (pureO (.bin .add .num true (.c (nth z5.1 3)) (.c (.int .i64 1)))) (fun z13 => some (.inl ([nth z5.1 0, nth z5.1 1,
    nth z5.1 2, z13], z5.2)))))))))) (bindO (some (.bool true, z5.2)) (fun z14 => some (.inr z14))))) ([x0, x1, z4, .int .i64 0], e))))))) := by kernel_rfl
theorem run37 (B : KB) {E : Type} (h : Handler E) (dep : Nat) (e : E) (x0 : PV) :
    runK (cfg0 B (fun _ => .cl)) fn37 (.cl) h dep [.cv x0] e =
    chkO (valO x0) (chkO (noUndef [.int .i64 0]) (loopL (fun z1 => bindO (bindO (selO (nth z1.1 1) 2 1 false) (fun z2 => bindO (pureO (.len .slice (.c z2))) (fun z3 => bindO (pureO
    (.bin .lss .num false (.c (nth z1.1 0)) (.c z3))) (fun z4 => iteP z4 (bindO (selO (nth z1.1 1) 1 1 false) (fun z5 => some z5)) (some (.bool false)))))) (fun z6 => iteP z6 (bindO
    (selO (nth z1.1 1) 2 1 false) (fun z7 => bindO (pureO (.idxAddr 1 (.c z7) (.c (nth z1.1 0)))) (fun z8 => bindO (pureO (.load 1 false (.c z8))) (fun z9 => bindO (callO B .cl (.fn 66
    []) [z9]) (fun z10 => bindO (pureO (.un .not (.c z10))) (fun z11 => iteP z11 (bindO (some (.bool false, z1.2)) (fun z12 => some (.inr z12))) (bindO (pureO (.bin .add .num true (.c
    (nth z1.1 0)) (.c (.int .i64 1)))) (fun z13 => some (.inl ([z13, nth z1.1 1], z1.2)))))))))) (bindO (bindO (bindO (selO (nth z1.1 1) 0 1 false) (fun z14 => iteP z14 (bindO (selO
    (nth z1.1 1) 2 1 false) (fun z15 => bindO (pureO (.len .slice (.c z15))) (fun z16 => bindO (pureO (.bin .leq .num true (.c z16) (.c (.int .i64 200)))) (fun z17 => iteP z17 (some
    (.bool true)) (bindO (selO (nth z1.1 1) 0 1 false) (fun z18 => bindO (pureO (.un .not (.c z18))) (fun z19 => iteP z19 (bindO (selO (nth z1.1 1) 2 1 false) (fun z20 => bindO (pureO
    (.len .slice (.c z20))) (fun z21 => bindO (pureO (.bin .eql .num true (.c z21) (.c (.int .i64 1)))) (fun z22 => some z22)))) (some (.bool false))))))))) (bindO (selO (nth z1.1 1) 0
    1 false) (fun z23 => bindO (pureO (.un .not (.c z23))) (fun z24 => iteP z24 (bindO (selO (nth z1.1 1) 2 1 false) (fun z25 => bindO (pureO (.len .slice (.c z25))) (fun z26 => bindO
    (pureO (.bin .eql .num true (.c z26) (.c (.int .i64 1)))) (fun z27 => some z27)))) (some (.bool false))))))) (fun z28 => some (z28, z1.2))) (fun z29 => some (.inr z29))))) ([.int
    .i64 0, x0], e))) := by kernel_rfl
theorem run38 (B : KB) {E : Type} (h : Handler E) (dep : Nat) (e : E) (x0 : PV) (x1 : PV) :
    runK (cfg0 B (fun _ => .cl)) fn38 (.cl) h dep [.cv x0, .cv x1] e =
    bindO (pureO (.build [.bool false, .bool false, .nilS] [(0, (1, .c (.bool true))), (1, (1, .c x1)), (2, (1, .c x0))])) (fun z1 => chkO (okCells z1 3) (some (.agg [cellP z1 0, cellP
    z1 1, cellP z1 2], e))) := by kernel_rfl
theorem run39 (B : KB) {E : Type} (h : Handler E) (dep : Nat) (e : E) (x0 : PV) :
    runK (cfg0 B (fun _ => .cl)) fn39 (.cl) h dep [.cv x0] e =
    chkO (valO x0) (bindO (selO x0 2 1 false) (fun z1 => bindO (pureO (.len .slice (.c z1))) (fun z2 => bindO (pureO (.bin .neq .num true (.c z2) (.c (.int .i64 1)))) (fun z3 => iteP
    z3 (bindO (pureO (.build [.bool false, .bool false, .nilS] [])) (fun z4 => chkO (okCells z4 3) (some (.tup [.agg [cellP z4 0, cellP z4 1, cellP z4 2], .int .i64 111], e)))) (bindO
    (selO x0 2 1 false) (fun z5 => bindO (pureO (.idxAddr 1 (.c z5) (.c (.int .i64 0)))) (fun z6 => bindO (pureO (.load 1 false (.c z6))) (fun z7 => bindO (bindO (selO x0 1 1 false)
    (fun z8 => iteP z8 (some (.bool true)) (bindO (pureO (.bin .lss .num true (.c z7) (.c (.int .i64 0)))) (fun z9 => some z9)))) (fun z10 => iteP z10 (bindO (pureO (.build [.bool
    false, .bool false, .nilS] [])) (fun z11 => chkO (okCells z11 3) (some (.tup [.agg [cellP z11 0, cellP z11 1, cellP z11 2], .int .i64 102], e)))) (bindO (pureO (.bin .gtr .num true
    (.c z7) (.c (.int .i64 200)))) (fun z12 => iteP z12 (bindO (pureO (.build [.bool false, .bool false, .nilS] [])) (fun z13 => chkO (okCells z13 3) (some (.tup [.agg [cellP z13 0,
    cellP z13 1, cellP z13 2], .int .i64 113], e)))) (chkO (noUndef [z7, nI 0, .int .i64 1]) (loopL (fun z14 => bindO (pureO (.bin .leq .num false (.c (nth z14.1 2)) (.c (nth z14.1
    0)))) (fun z15 => iteP z15 (chkO (okSls 1 [nth z14.1 2]) (chkO (leN (addN 0 (lenL [nth z14.1 2])) (lenL [nth z14.1 2])) (chkO (andB (leN (natP (nth z14.1 1)) (lenL (itemsP (nth
    z14.1 6)))) (leN (addN (natP (nth z14.1 1)) (lenL (takeL (lenL [nth z14.1 2]) (dropL 0 [nth z14.1 2])))) 2147483648)) (bindO (pureO (.bin .add .num true (.c (nth z14.1 2)) (.c
    (.int .i64 1)))) (fun z16 => some (.inl ([nth z14.1 0, nI (addN (natP (nth z14.1 1)) (lenL (takeL (lenL [nth z14.1 2]) (dropL 0 [nth z14.1 2])))), z16, nth z14.1 3, nth z14.1 4,
    nth z14.1 5, .sl 1 (catL (takeL (natP (nth z14.1 1)) (itemsP (nth z14.1 6))) (takeL (lenL [nth z14.1 2]) (dropL 0 [nth z14.1 2]))) false], z14.2))))))) (bindO (bindO (lendO B .cl
    false 38 [slO 1 1 (itemsP (nth z14.1 6)) 0 (natP (nth z14.1 1)), .bool false]) (fun z17 => chkO (okCells z17 3) (some (.tup [.agg [cellP z17 0, cellP z17 1, cellP z17 2], .int .i64
    0], z14.2)))) (fun z18 => some (.inr z18))))) ([z7, nI 0, .int .i64 1, .bool false, .bool false, .nilS, .sl 1 [] false], e)))))))))))))) := by kernel_rfl
theorem run40 (B : KB) {E : Type} (h : Handler E) (dep : Nat) (e : E) (x0 : PV) :
    runK (cfg0 B (fun _ => .cl)) fn40 (.cl) h dep [.cv x0] e =
    chkO (okSls 1 [x0]) (chkO (okU (.agg [.bool false, .bool false, slO 1 1 [x0] 0 (lenL [x0])])) (some (.agg [.bool false, .bool false, slO 1 1 [x0] 0 (lenL [x0])], e))) := by kernel_rfl
theorem run41 (B : KB) {E : Type} (h : Handler E) (dep : Nat) (e : E) (x0 : PV) (x1 : PV) (x2 : PV) :
    runK (cfg0 B (fun _ => .cl)) fn41 (.cl) h dep [.cv x0, .cv x1, .cv x2] e =
    chkO (valO x1) (chkO (valO x2) (bindO (selO x1 2 1 false) (fun z1 => bindO (pureO (.len .slice (.c z1))) (fun z2 => bindO (pureO (.bin .neq .num true (.c z2) (.c (.int .i64 1))))
    (fun z3 => iteP z3 (bindO (pureO (.build [.bool false, .bool false, .nilS] [])) (fun z4 => chkO (okCells z4 3) (some (.tup [.agg [cellP z4 0, cellP z4 1, cellP z4 2], .int .i64
    111], e)))) (bindO (selO x1 2 1 false) (fun z5 => bindO (pureO (.idxAddr 1 (.c z5) (.c (.int .i64 0)))) (fun z6 => bindO (pureO (.load 1 false (.c z6))) (fun z7 => bindO (bindO
    (selO x1 1 1 false) (fun z8 => iteP z8 (some (.bool true)) (bindO (pureO (.bin .eql .str true (.c x0) (.c (.str [226, 141, 180])))) (fun z9 => iteP z9 (bindO (pureO (.bin .lss .num
    true (.c z7) (.c (.int .i64 0)))) (fun z10 => some z10)) (some (.bool false)))))) (fun z11 => iteP z11 (bindO (pureO (.build [.bool false, .bool false, .nilS] [])) (fun z12 => chkO
    (okCells z12 3) (some (.tup [.agg [cellP z12 0, cellP z12 1, cellP z12 2], .int .i64 102], e)))) (bindO (bindO (pureO (.bin .eql .str true (.c x0) (.c (.str [226, 141, 180]))))
    (fun z13 => iteP z13 (bindO (pureO (.bin .gtr .num true (.c z7) (.c (.int .i64 200)))) (fun z14 => iteP z14 (some (.bool true)) (bindO (pureO (.bin .lss .num true (.c z7) (.c (.int
    .i64 (-200))))) (fun z15 => some z15)))) (bindO (pureO (.bin .eql .str true (.c x0) (.c (.str [226, 134, 145])))) (fun z16 => iteP z16 (bindO (pureO (.bin .gtr .num true (.c z7)
    (.c (.int .i64 200)))) (fun z17 => iteP z17 (some (.bool true)) (bindO (pureO (.bin .lss .num true (.c z7) (.c (.int .i64 (-200))))) (fun z18 => some z18)))) (some (.bool
    false)))))) (fun z19 => iteP z19 (bindO (pureO (.build [.bool false, .bool false, .nilS] [])) (fun z20 => chkO (okCells z20 3) (some (.tup [.agg [cellP z20 0, cellP z20 1, cellP
    z20 2], .int .i64 113], e)))) (bindO (bindO (pureO (.bin .eql .str true (.c x0) (.c (.str [226, 141, 180])))) (fun z21 => iteP z21 (bindO (pureO (.bin .gtr .num true (.c z7) (.c
    (.int .i64 0)))) (fun z22 => iteP z22 (bindO (selO x2 2 1 false) (fun z23 => bindO (pureO (.len .slice (.c z23))) (fun z24 => bindO (pureO (.bin .eql .num true (.c z24) (.c (.int
    .i64 0)))) (fun z25 => some z25)))) (some (.bool false)))) (some (.bool false)))) (fun z26 => iteP z26 (bindO (pureO (.build [.bool false, .bool false, .nilS] [])) (fun z27 => chkO
    (okCells z27 3) (some (.tup [.agg [cellP z27 0, cellP z27 1, cellP z27 2], .int .i64 110], e)))) (bindO (pureO (.bin .eql .str true (.c x0) (.c (.str [226, 141, 180])))) (fun z28
    => iteP z28 (bindO (selO x2 0 3 true) (fun z29 => bindO (callO B .cl (.fn 67 []) [z7, z29]) (fun z30 => chkO (okCells z30 3) (some (.tup [.agg [cellP z30 0, cellP z30 1, cellP z30
    2], .int .i64 0], e))))) (bindO (pureO (.bin .eql .str true (.c x0) (.c (.str [226, 140, 189])))) (fun z31 => iteP z31 (bindO (selO x2 0 3 true) (fun z32 => bindO (callO B .cl (.fn
    68 []) [z7, z32]) (fun z33 => chkO (okCells z33 3) (some (.tup [.agg [cellP z33 0, cellP z33 1, cellP z33 2], .int .i64 0], e))))) (bindO (pureO (.bin .eql .str true (.c x0) (.c
    (.str [226, 134, 145])))) (fun z34 => iteP z34 (bindO (selO x2 0 3 true) (fun z35 => bindO (callO B .cl (.fn 69 []) [z7, z35]) (fun z36 => chkO (okCells z36 3) (some (.tup [.agg
    [cellP z36 0, cellP z36 1, cellP z36 2], .int .i64 0], e))))) (bindO (selO x2 0 3 true) (fun z37 => bindO (callO B .cl (.fn 70 []) [z7, z37]) (fun z38 => chkO (okCells z38 3) (some
    (.tup [.agg [cellP z38 0, cellP z38 1, cellP z38 2], .int .i64 0], e))))))))))))))))))))))))) := by kernel_rfl
theorem run42 (B : KB) {E : Type} (h : Handler E) (dep : Nat) (e : E) (x0 : PV) (x1 : PV) :
    runK (cfg0 B (fun _ => .cl)) fn42 (.cl) h dep [.cv x0, .cv x1] e =
    chkO (valO x0) (chkO (valO x1) (bindO (selO x1 0 1 false) (fun z1 => bindO (pureO (.build [.bool false, .bool false, .nilS] [(0, (1, .c z1))])) (fun z2 => chkO (okCells z2 3) (nilO
    (cellP z2 2) (chkO (noUndef [.int .i64 0]) (loopL (fun z3 => bindO (selO (nth z3.1 2) 2 1 false) (fun z4 => bindO (pureO (.len .slice (.c z4))) (fun z5 => bindO (pureO (.bin .lss
    .num false (.c (nth z3.1 0)) (.c z5))) (fun z6 => iteP z6 (chkO (noUndef [nth z3.1 0, .int .i64 0]) (loopL (fun z7 => bindO (selO (nth z7.1 2) 2 1 false) (fun z8 => bindO (pureO
    (.len .slice (.c z8))) (fun z9 => bindO (pureO (.bin .lss .num false (.c (nth z7.1 1)) (.c z9))) (fun z10 => iteP z10 (bindO (selO (nth z7.1 2) 2 1 false) (fun z11 => bindO (pureO
    (.idxAddr 1 (.c z11) (.c (nth z7.1 1)))) (fun z12 => bindO (pureO (.load 1 false (.c z12))) (fun z13 => bindO (selO (nth z7.1 3) 2 1 false) (fun z14 => bindO (pureO (.idxAddr 1 (.c
    z14) (.c (nth z7.1 0)))) (fun z15 => bindO (pureO (.load 1 false (.c z15))) (fun z16 => bindO (pureO (.bin .neq .num false (.c z13) (.c z16))) (fun z17 => iteP z17 (bindO (pureO
    (.bin .add .num true (.c (nth z7.1 1)) (.c (.int .i64 1)))) (fun z18 => some (.inl ([nth z7.1 0, z18, nth z7.1 2, nth z7.1 3, nth z7.1 4, nth z7.1 5, nth z7.1 6, nth z7.1 7, nth
    z7.1 8, nI (natP (nth z7.1 9)), .sl 1 (itemsP (nth z7.1 10)) false], z7.2)))) (bindO (selO (nth z7.1 2) 1 1 false) (fun z19 => bindO (selO (nth z7.1 3) 1 1 false) (fun z20 => bindO
    (pureO (.bin .neq .bool false (.c z19) (.c z20))) (fun z21 => iteP z21 (bindO (pureO (.bin .add .num true (.c (nth z7.1 1)) (.c (.int .i64 1)))) (fun z22 => some (.inl ([nth z7.1
    0, z22, nth z7.1 2, nth z7.1 3, nth z7.1 4, nth z7.1 5, nth z7.1 6, nth z7.1 7, nth z7.1 8, nI (natP (nth z7.1 9)), .sl 1 (itemsP (nth z7.1 10)) false], z7.2)))) (bindO (bindO
    (pureO (.bin .add .num true (.c (nth z7.1 1)) (.c (.int .i64 1)))) (fun z23 => chkO (okSls 1 [z23]) (chkO (leN (addN 0 (lenL [z23])) (lenL [z23])) (chkO (andB (leN (natP (nth z7.1
    9)) (lenL (itemsP (nth z7.1 10)))) (leN (addN (natP (nth z7.1 9)) (lenL (takeL (lenL [z23]) (dropL 0 [z23])))) 2147483648)) (bindO (pureO (.bin .add .num true (.c (nth z7.1 0)) (.c
    (.int .i64 1)))) (fun z24 => some (.inl ([z24, nth z7.1 2, nth z7.1 3, nth z7.1 4, nth z7.1 5, nth z7.1 6, nth z7.1 7, nth z7.1 8, nI (addN (natP (nth z7.1 9)) (lenL (takeL (lenL
    [z23]) (dropL 0 [z23])))), .sl 1 (catL (takeL (natP (nth z7.1 9)) (itemsP (nth z7.1 10))) (takeL (lenL [z23]) (dropL 0 [z23]))) false], z7.2)))))))) (fun z25 => some (.inr
    z25))))))))))))))) (bindO (bindO (pureO (.bin .add .num true (.c (nth z7.1 1)) (.c (.int .i64 1)))) (fun z26 => chkO (okSls 1 [z26]) (chkO (leN (addN 0 (lenL [z26])) (lenL [z26]))
    (chkO (andB (leN (natP (nth z7.1 9)) (lenL (itemsP (nth z7.1 10)))) (leN (addN (natP (nth z7.1 9)) (lenL (takeL (lenL [z26]) (dropL 0 [z26])))) 2147483648)) (bindO (pureO (.bin
    .add .num true (.c (nth z7.1 0)) (.c (.int .i64 1)))) (fun z27 => some (.inl ([z27, nth z7.1 2, nth z7.1 3, nth z7.1 4, nth z7.1 5, nth z7.1 6, nth z7.1 7, nth z7.1 8, nI (addN
    (natP (nth z7.1 9)) (lenL (takeL (lenL [z26]) (dropL 0 [z26])))), .sl 1 (catL (takeL (natP (nth z7.1 9)) (itemsP (nth z7.1 10))) (takeL (lenL [z26]) (dropL 0 [z26]))) false],
    z7.2)))))))) (fun z28 => some (.inr z28))))))) ([nth z3.1 0, .int .i64 0, nth z3.1 1, nth z3.1 2, nth z3.1 3, nth z3.1 4, nth z3.1 5, nth z3.1 6, nth z3.1 7, nI (natP (nth z3.1
    8)), .sl 1 (itemsP (nth z3.1 9)) false], z3.2))) (bindO (chkO (okU (.agg [nth z3.1 6, nth z3.1 7, slO 1 1 (itemsP (nth z3.1 9)) 0 (natP (nth z3.1 8))])) (some (.agg [nth z3.1 6,
    nth z3.1 7, slO 1 1 (itemsP (nth z3.1 9)) 0 (natP (nth z3.1 8))], z3.2))) (fun z29 => some (.inr z29))))))) ([.int .i64 0, x0, x1, .bool false, .bool false, .nilS, cellP z2 0,
    cellP z2 1, nI 0, .sl 1 [] false], e)))))))) := by kernel_rfl
theorem run43 (B : KB) {E : Type} (h : Handler E) (dep : Nat) (e : E) (x0 : PV) (x1 : PV) :
    runK (cfg0 B (fun _ => .cl)) fn43 (.cl) h dep [.cv x0, .cv x1] e =
    chkO (valO x0) (chkO (valO x1) (bindO (bindO (selO x0 2 1 false) (fun z1 => bindO (pureO (.len .slice (.c z1))) (fun z2 => bindO (pureO (.bin .gtr .num true (.c z2) (.c (.int .i64
    0)))) (fun z3 => iteP z3 (bindO (selO x1 2 1 false) (fun z4 => bindO (pureO (.len .slice (.c z4))) (fun z5 => bindO (pureO (.bin .gtr .num true (.c z5) (.c (.int .i64 0)))) (fun z6
    => iteP z6 (bindO (selO x0 1 1 false) (fun z7 => bindO (selO x1 1 1 false) (fun z8 => bindO (pureO (.bin .neq .bool false (.c z7) (.c z8))) (fun z9 => some z9)))) (some (.bool
    false)))))) (some (.bool false)))))) (fun z10 => iteP z10 (bindO (pureO (.build [.bool false, .bool false, .nilS] [])) (fun z11 => chkO (okCells z11 3) (some (.tup [.agg [cellP z11
    0, cellP z11 1, cellP z11 2], .int .i64 102], e)))) (bindO (selO x0 2 1 false) (fun z12 => bindO (pureO (.len .slice (.c z12))) (fun z13 => bindO (selO x1 2 1 false) (fun z14 =>
    bindO (pureO (.len .slice (.c z14))) (fun z15 => bindO (pureO (.bin .add .num false (.c z13) (.c z15))) (fun z16 => bindO (pureO (.bin .gtr .num true (.c z16) (.c (.int .i64
    200)))) (fun z17 => iteP z17 (bindO (pureO (.build [.bool false, .bool false, .nilS] [])) (fun z18 => chkO (okCells z18 3) (some (.tup [.agg [cellP z18 0, cellP z18 1, cellP z18
    2], .int .i64 113], e)))) (bindO (selO x0 2 1 false) (fun z19 => bindO (elemsO 1 z19) (fun z20 => chkO (leN (lenL z20) 2147483648) (bindO (selO x1 2 1 false) (fun z21 => bindO
    (elemsO 1 z21) (fun z22 => chkO (andB (leN (lenL z20) (lenL z20)) (leN (addN (lenL z20) (lenL z22)) 2147483648)) (bindO (selO x0 1 1 false) (fun z23 => iteP z23 (bindO (selO x0 2 1
    false) (fun z24 => bindO (pureO (.len .slice (.c z24))) (fun z25 => bindO (pureO (.bin .gtr .num true (.c z25) (.c (.int .i64 0)))) (fun z26 => iteP z26 (bindO (lendO B .cl false
    38 [slO 1 1 (catL (takeL (lenL z20) z20) z22) 0 (addN (lenL z20) (lenL z22)), .bool true]) (fun z27 => chkO (okCells z27 3) (some (.tup [.agg [cellP z27 0, cellP z27 1, cellP z27
    2], .int .i64 0], e)))) (bindO (selO x1 1 1 false) (fun z28 => iteP z28 (bindO (selO x1 2 1 false) (fun z29 => bindO (pureO (.len .slice (.c z29))) (fun z30 => bindO (pureO (.bin
    .gtr .num true (.c z30) (.c (.int .i64 0)))) (fun z31 => iteP z31 (bindO (lendO B .cl false 38 [slO 1 1 (catL (takeL (lenL z20) z20) z22) 0 (addN (lenL z20) (lenL z22)), .bool
    true]) (fun z32 => chkO (okCells z32 3) (some (.tup [.agg [cellP z32 0, cellP z32 1, cellP z32 2], .int .i64 0], e)))) (bindO (selO x0 1 1 false) (fun z33 => iteP z33 (bindO (selO
    x1 1 1 false) (fun z34 => bindO (lendO B .cl false 38 [slO 1 1 (catL (takeL (lenL z20) z20) z22) 0 (addN (lenL z20) (lenL z22)), z34]) (fun z35 => chkO (okCells z35 3) (some (.tup
    [.agg [cellP z35 0, cellP z35 1, cellP z35 2], .int .i64 0], e))))) (bindO (lendO B .cl false 38 [slO 1 1 (catL (takeL (lenL z20) z20) z22) 0 (addN (lenL z20) (lenL z22)), .bool
    false]) (fun z36 => chkO (okCells z36 3) (some (.tup [.agg [cellP z36 0, cellP z36 1, cellP z36 2], .int .i64 0], e)))))))))) (bindO (selO x0 1 1 false) (fun z37 => iteP z37 (bindO
    (selO x1 1 1 false) (fun z38 => bindO (lendO B .cl false 38 [slO 1 1 (catL (takeL (lenL z20) z20) z22) 0 (addN (lenL z20) (lenL z22)), z38]) (fun z39 => chkO (okCells z39 3) (some
    (.tup [.agg [cellP z39 0, cellP z39 1, cellP z39 2], .int .i64 0], e))))) (bindO (lendO B .cl false 38 [slO 1 1 (catL (takeL (lenL z20) z20) z22) 0 (addN (lenL z20) (lenL z22)),
    .bool false]) (fun z40 => chkO (okCells z40 3) (some (.tup [.agg [cellP z40 0, cellP z40 1, cellP z40 2], .int .i64 0], e)))))))))))) (bindO (selO x1 1 1 false) (fun z41 => iteP
    z41 (bindO (selO x1 2 1 false) (fun z42 => bindO (pureO (.len .slice (.c z42))) (fun z43 => bindO (pureO (.bin .gtr .num true (.c z43) (.c (.int .i64 0)))) (fun z44 => iteP z44
    (bindO (lendO B .cl false 38 [slO 1 1 (catL (takeL (lenL z20) z20) z22) 0 (addN (lenL z20) (lenL z22)), .bool true]) (fun z45 => chkO (okCells z45 3) (some (.tup [.agg [cellP z45
    0, cellP z45 1, cellP z45 2], .int .i64 0], e)))) (bindO (selO x0 1 1 false) (fun z46 => iteP z46 (bindO (selO x1 1 1 false) (fun z47 => bindO (lendO B .cl false 38 [slO 1 1 (catL
    (takeL (lenL z20) z20) z22) 0 (addN (lenL z20) (lenL z22)), z47]) (fun z48 => chkO (okCells z48 3) (some (.tup [.agg [cellP z48 0, cellP z48 1, cellP z48 2], .int .i64 0], e)))))
    (bindO (lendO B .cl false 38 [slO 1 1 (catL (takeL (lenL z20) z20) z22) 0 (addN (lenL z20) (lenL z22)), .bool false]) (fun z49 => chkO (okCells z49 3) (some (.tup [.agg [cellP z49
    0, cellP z49 1, cellP z49 2], .int .i64 0], e)))))))))) (bindO (selO x0 1 1 false) (fun z50 => iteP z50 (bindO (selO x1 1 1 false) (fun z51 => bindO (lendO B .cl false 38 [slO 1 1
    (catL (takeL (lenL z20) z20) z22) 0 (addN (lenL z20) (lenL z22)), z51]) (fun z52 => chkO (okCells z52 3) (some (.tup [.agg [cellP z52 0, cellP z52 1, cellP z52 2], .int .i64 0],
    e))))) (bindO (lendO B .cl false 38 [slO 1 1 (catL (takeL (lenL z20) z20) z22) 0 (addN (lenL z20) (lenL z22)), .bool false]) (fun z53 => chkO (okCells z53 3) (some (.tup [.agg
    [cellP z53 0, cellP z53 1, cellP z53 2], .int .i64 0], e)))))))))))))))))))))))))) := by kernel_rfl
theorem run44 (B : KB) {E : Type} (h : Handler E) (dep : Nat) (e : E) (x0 : PV) (x1 : PV) :
    runK (cfg0 B (fun _ => .cl)) fn44 (.cl) h dep [.cv x0, .cv x1] e =
    bindO (pureO (.len .slice (.c x0))) (fun z1 => bindO (pureO (.len .slice (.c x1))) (fun z2 => bindO (pureO (.bin .neq .num false (.c z1) (.c z2))) (fun z3 => iteP z3 (some (.bool
    false, e)) (chkO (noUndef [x0, x1, .int .i64 0]) (loopL (fun z4 => bindO (pureO (.len .slice (.c (nth z4.1 0)))) (fun z5 => bindO (pureO (.bin .lss .num false (.c (nth z4.1 2)) (.c
    z5))) (fun z6 => iteP z6 (bindO (pureO (.idxAddr 1 (.c (nth z4.1 0)) (.c (nth z4.1 2)))) (fun z7 => bindO (pureO (.load 1 false (.c z7))) (fun z8 => bindO (pureO (.idxAddr 1 (.c
    (nth z4.1 1)) (.c (nth z4.1 2)))) (fun z9 => bindO (pureO (.load 1 false (.c z9))) (fun z10 => bindO (pureO (.bin .neq .num false (.c z8) (.c z10))) (fun z11 => iteP z11 (bindO
    (some (.bool false, z4.2)) (fun z12 => some (.inr z12))) (bindO (pureO (.bin .add .num true (.c (nth z4.1 2)) (.c (.int .i64 1)))) (fun z13 => some (.inl ([nth z4.1 0, nth z4.1 1,
    z13], z4.2)))))))))) (bindO (some (.bool true, z4.2)) (fun z14 => some (.inr z14)))))) ([x0, x1, .int .i64 0], e)))))) := by kernel_rfl
theorem run46 (B : KB) {E : Type} (h : Handler E) (dep : Nat) (e : E) (x0 : PV) :
    runK (cfg0 B (fun _ => .cl)) fn46 (.cl) h dep [.cv x0] e =
    chkO (valO x0) (bindO (selO x0 0 1 false) (fun z1 => bindO (pureO (.un .not (.c z1))) (fun z2 => iteP z2 (bindO (callO B .cl (.fn 75 []) [.nilS]) (fun z3 => chkO (okCells z3 3)
    (some (.tup [.agg [cellP z3 0, cellP z3 1, cellP z3 2], .nilI], e)))) (bindO (selO x0 2 1 false) (fun z4 => bindO (pureO (.len .slice (.c z4))) (fun z5 => chkO (okSls 1 [z5])
    (bindO (lendO B .cl false 75 [slO 1 1 [z5] 0 (lenL [z5])]) (fun z6 => chkO (okCells z6 3) (some (.tup [.agg [cellP z6 0, cellP z6 1, cellP z6 2], .nilI], e)))))))))) := by kernel_rfl
theorem run47 (B : KB) {E : Type} (h : Handler E) (dep : Nat) (e : E) (x0 : PV) :
    runK (cfg0 B (fun _ => .cl)) fn47 (.cl) h dep [.cv x0] e =
    chkO (valO x0) (bindO (selO x0 0 6 true) (fun z1 => bindO (callO B .cl (.fn 76 []) [z1, .int .i64 (-9223372036854775808), .int .i64 200]) (fun z2 => bindO (pureO (.extract 0 (.c
    z2))) (fun z3 => bindO (pureO (.extract 1 (.c z2))) (fun z4 => bindO (bindO (pureO (.bin .eql .iface true (.c z4) (.c .nilI))) (fun z5 => iteP z5 (bindO (pureO (.bin .lss .num true
    (.c z3) (.c (.int .i64 0)))) (fun z6 => some z6)) (some (.bool false)))) (fun z7 => iteP z7 (bindO (pureO (.build [.int .i64 0] [(0, (1, .c (.int .i64 102)))])) (fun z8 => bindO
    (pureO (.bin .neq .iface true (.c (.iface 72 z8)) (.c .nilI))) (fun z9 => iteP z9 (bindO (pureO (.build [.bool false, .bool false, .nilS] [])) (fun z10 => chkO (okCells z10 3)
    (some (.tup [.agg [cellP z10 0, cellP z10 1, cellP z10 2], .iface 72 z8], e)))) (bindO (pureO (.build [.int .i64 0] [(0, (1, .c (.int .i64 110)))])) (fun z11 => bindO (bindO (pureO
    (.bin .gtr .num true (.c z3) (.c (.int .i64 0)))) (fun z12 => iteP z12 (bindO (selO x0 2 1 false) (fun z13 => bindO (pureO (.len .slice (.c z13))) (fun z14 => bindO (pureO (.bin
    .eql .num true (.c z14) (.c (.int .i64 0)))) (fun z15 => some z15)))) (some (.bool false)))) (fun z16 => iteP z16 (bindO (pureO (.build [.bool false, .bool false, .nilS] [])) (fun
    z17 => chkO (okCells z17 3) (some (.tup [.agg [cellP z17 0, cellP z17 1, cellP z17 2], .iface 72 z11], e)))) (chkO (noUndef [nI 0, z3, .int .i64 0]) (loopL (fun z18 => bindO (pureO
    (.bin .lss .num false (.c (nth z18.1 2)) (.c (nth z18.1 1)))) (fun z19 => iteP z19 (bindO (selO (nth z18.1 3) 2 1 false) (fun z20 => bindO (selO (nth z18.1 3) 2 1 false) (fun z21
    => bindO (pureO (.len .slice (.c z21))) (fun z22 => bindO (pureO (.bin .rem .num false (.c (nth z18.1 2)) (.c z22))) (fun z23 => bindO (pureO (.idxAddr 1 (.c z20) (.c z23))) (fun
    z24 => bindO (pureO (.load 1 false (.c z24))) (fun z25 => chkO (okSls 1 [z25]) (chkO (leN (addN 0 (lenL [z25])) (lenL [z25])) (chkO (andB (leN (natP (nth z18.1 0)) (lenL (itemsP
    (nth z18.1 7)))) (leN (addN (natP (nth z18.1 0)) (lenL (takeL (lenL [z25]) (dropL 0 [z25])))) 2147483648)) (bindO (pureO (.bin .add .num true (.c (nth z18.1 2)) (.c (.int .i64
    1)))) (fun z26 => some (.inl ([nI (addN (natP (nth z18.1 0)) (lenL (takeL (lenL [z25]) (dropL 0 [z25])))), nth z18.1 1, z26, nth z18.1 3, nth z18.1 4, nth z18.1 5, nth z18.1 6, .sl
    1 (catL (takeL (natP (nth z18.1 0)) (itemsP (nth z18.1 7))) (takeL (lenL [z25]) (dropL 0 [z25]))) false], z18.2))))))))))))) (bindO (bindO (selO (nth z18.1 3) 0 3 true) (fun z27 =>
    bindO (lendO B .cl false 51 [z27, slO 1 1 (itemsP (nth z18.1 7)) 0 (natP (nth z18.1 0))]) (fun z28 => chkO (okCells z28 3) (some (.tup [.agg [cellP z28 0, cellP z28 1, cellP z28
    2], .nilI], z18.2))))) (fun z29 => some (.inr z29))))) ([nI 0, z3, .int .i64 0, x0, .bool false, .bool false, .nilS, .sl 1 [] false], e))))))))) (bindO (pureO (.bin .neq .iface
    true (.c z4) (.c .nilI))) (fun z30 => iteP z30 (bindO (pureO (.build [.bool false, .bool false, .nilS] [])) (fun z31 => chkO (okCells z31 3) (some (.tup [.agg [cellP z31 0, cellP
    z31 1, cellP z31 2], z4], e)))) (bindO (pureO (.build [.int .i64 0] [(0, (1, .c (.int .i64 110)))])) (fun z32 => bindO (bindO (pureO (.bin .gtr .num true (.c z3) (.c (.int .i64
    0)))) (fun z33 => iteP z33 (bindO (selO x0 2 1 false) (fun z34 => bindO (pureO (.len .slice (.c z34))) (fun z35 => bindO (pureO (.bin .eql .num true (.c z35) (.c (.int .i64 0))))
    (fun z36 => some z36)))) (some (.bool false)))) (fun z37 => iteP z37 (bindO (pureO (.build [.bool false, .bool false, .nilS] [])) (fun z38 => chkO (okCells z38 3) (some (.tup [.agg
    [cellP z38 0, cellP z38 1, cellP z38 2], .iface 72 z32], e)))) (chkO (noUndef [nI 0, z3, .int .i64 0]) (loopL (fun z39 => bindO (pureO (.bin .lss .num false (.c (nth z39.1 2)) (.c
    (nth z39.1 1)))) (fun z40 => iteP z40 (bindO (selO (nth z39.1 3) 2 1 false) (fun z41 => bindO (selO (nth z39.1 3) 2 1 false) (fun z42 => bindO (pureO (.len .slice (.c z42))) (fun
    z43 => bindO (pureO (.bin .rem .num false (.c (nth z39.1 2)) (.c z43))) (fun z44 => bindO (pureO (.idxAddr 1 (.c z41) (.c z44))) (fun z45 => bindO (pureO (.load 1 false (.c z45)))
    (fun z46 => chkO (okSls 1 [z46]) (chkO (leN (addN 0 (lenL [z46])) (lenL [z46])) (chkO (andB (leN (natP (nth z39.1 0)) (lenL (itemsP (nth z39.1 7)))) (leN (addN (natP (nth z39.1 0))
    (lenL (takeL (lenL [z46]) (dropL 0 [z46])))) 2147483648)) (bindO (pureO (.bin .add .num true (.c (nth z39.1 2)) (.c (.int .i64 1)))) (fun z47 => some (.inl ([nI (addN (natP (nth
    z39.1 0)) (lenL (takeL (lenL [z46]) (dropL 0 [z46])))), nth z39.1 1, z47, nth z39.1 3, nth z39.1 4, nth z39.1 5, nth z39.1 6, .sl 1 (catL (takeL (natP (nth z39.1 0)) (itemsP (nth
    z39.1 7))) (takeL (lenL [z46]) (dropL 0 [z46]))) false], z39.2))))))))))))) (bindO (bindO (selO (nth z39.1 3) 0 3 true) (fun z48 => bindO (lendO B .cl false 51 [z48, slO 1 1
    (itemsP (nth z39.1 7)) 0 (natP (nth z39.1 0))]) (fun z49 => chkO (okCells z49 3) (some (.tup [.agg [cellP z49 0, cellP z49 1, cellP z49 2], .nilI], z39.2))))) (fun z50 => some
    (.inr z50))))) ([nI 0, z3, .int .i64 0, x0, .bool false, .bool false, .nilS, .sl 1 [] false], e)))))))))))))) := by kernel_rfl
theorem run48 (B : KB) {E : Type} (h : Handler E) (dep : Nat) (e : E) (x0 : PV) :
    runK (cfg0 B (fun _ => .cl)) fn48 (.cl) h dep [.cv x0] e =
    chkO (valO x0) (bindO (selO x0 0 3 true) (fun z1 => bindO (callO B .cl (.fn 77 []) [z1]) (fun z2 => bindO (pureO (.extract 0 (.c z2))) (fun z3 => bindO (pureO (.extract 1 (.c z2)))
    (fun z4 => bindO (pureO (.bin .neq .iface true (.c z4) (.c .nilI))) (fun z5 => iteP z5 (bindO (pureO (.build [.bool false, .bool false, .nilS] [])) (fun z6 => chkO (okCells z6 3)
    (some (.tup [.agg [cellP z6 0, cellP z6 1, cellP z6 2], z4], e)))) (bindO (pureO (.bin .lss .num true (.c z3) (.c (.int .i64 0)))) (fun z7 => iteP z7 (bindO (pureO (.build [.bool
    false, .bool false, .nilS] [])) (fun z8 => bindO (pureO (.build [.int .i64 0] [(0, (1, .c (.int .i64 102)))])) (fun z9 => chkO (okCells z8 3) (some (.tup [.agg [cellP z8 0, cellP
    z8 1, cellP z8 2], .iface 72 z9], e))))) (bindO (pureO (.bin .gtr .num true (.c z3) (.c (.int .i64 200)))) (fun z10 => iteP z10 (bindO (pureO (.build [.bool false, .bool false,
    .nilS] [])) (fun z11 => bindO (pureO (.build [.int .i64 0] [(0, (1, .c (.int .i64 113)))])) (fun z12 => chkO (okCells z11 3) (some (.tup [.agg [cellP z11 0, cellP z11 1, cellP z11
    2], .iface 72 z12], e))))) (bindO (callO B .cl (.fn 75 []) [.nilS]) (fun z13 => chkO (okCells z13 3) (nilO (cellP z13 2) (chkO (noUndef [z3, .int .i64 0]) (loopL (fun z14 => bindO
    (pureO (.bin .lss .num false (.c (nth z14.1 1)) (.c (nth z14.1 0)))) (fun z15 => iteP z15 (bindO (pureO (.bin .add .num true (.c (nth z14.1 1)) (.c (.int .i64 1)))) (fun z16 =>
    chkO (okSls 1 [z16]) (chkO (leN (addN 0 (lenL [z16])) (lenL [z16])) (chkO (andB (leN (natP (nth z14.1 7)) (lenL (itemsP (nth z14.1 8)))) (leN (addN (natP (nth z14.1 7)) (lenL
    (takeL (lenL [z16]) (dropL 0 [z16])))) 2147483648)) (bindO (pureO (.bin .add .num true (.c (nth z14.1 1)) (.c (.int .i64 1)))) (fun z17 => some (.inl ([nth z14.1 0, z17, nth z14.1
    2, nth z14.1 3, nth z14.1 4, nth z14.1 5, nth z14.1 6, nI (addN (natP (nth z14.1 7)) (lenL (takeL (lenL [z16]) (dropL 0 [z16])))), .sl 1 (catL (takeL (natP (nth z14.1 7)) (itemsP
    (nth z14.1 8))) (takeL (lenL [z16]) (dropL 0 [z16]))) false], z14.2)))))))) (bindO (chkO (okU (.tup [.agg [nth z14.1 5, nth z14.1 6, slO 1 1 (itemsP (nth z14.1 8)) 0 (natP (nth
    z14.1 7))], .nilI])) (some (.tup [.agg [nth z14.1 5, nth z14.1 6, slO 1 1 (itemsP (nth z14.1 8)) 0 (natP (nth z14.1 7))], .nilI], z14.2))) (fun z18 => some (.inr z18))))) ([z3,
    .int .i64 0, .bool false, .bool false, .nilS, cellP z13 0, cellP z13 1, nI 0, .sl 1 [] false], e)))))))))))))))) := by kernel_rfl
theorem run49 (B : KB) {E : Type} (h : Handler E) (dep : Nat) (e : E) (x0 : PV) :
    runK (cfg0 B (fun _ => .cl)) fn49 (.cl) h dep [.cv x0] e =
    chkO (valO x0) (bindO (selO x0 3 1 false) (fun z1 => bindO (pureO (.un .not (.c z1))) (fun z2 => iteP z2 (bindO (pureO (.build [.bool false, .bool false, .nilS] [])) (fun z3 =>
    bindO (pureO (.build [.int .i64 0] [(0, (1, .c (.int .i64 111)))])) (fun z4 => chkO (okCells z3 3) (some (.tup [.agg [cellP z3 0, cellP z3 1, cellP z3 2], .iface 72 z4], e)))))
    (bindO (selO x0 0 1 false) (fun z5 => bindO (pureO (.build [.bool false, .bool false, .nilS] [(0, (1, .c z5))])) (fun z6 => chkO (okCells z6 3) (bindO (selO x0 2 1 false) (fun z7
    => bindO (pureO (.len .slice (.c z7))) (fun z8 => nilO (cellP z6 2) (chkO (noUndef [z7, z8, .int .i64 0]) (loopL (fun z9 => bindO (pureO (.bin .lss .num false (.c (nth z9.1 2)) (.c
    (nth z9.1 1)))) (fun z10 => iteP z10 (bindO (pureO (.idxAddr 1 (.c (nth z9.1 0)) (.c (nth z9.1 2)))) (fun z11 => bindO (pureO (.load 1 false (.c z11))) (fun z12 => bindO (selO (nth
    z9.1 3) 5 1 false) (fun z13 => bindO (callO B .cl (.fn 78 []) [z13, z12]) (fun z14 => bindO (bindO (pureO (.bin .lss .num true (.c z14) (.c (.int .i64 0)))) (fun z15 => iteP z15
    (some (.bool true)) (bindO (selO (nth z9.1 3) 4 1 false) (fun z16 => bindO (selO (nth z9.1 3) 1 1 false) (fun z17 => bindO (pureO (.bin .neq .bool false (.c z16) (.c z17))) (fun
    z18 => some z18)))))) (fun z19 => iteP z19 (bindO (selO (nth z9.1 3) 5 1 false) (fun z20 => bindO (pureO (.len .slice (.c z20))) (fun z21 => bindO (pureO (.bin .add .num true (.c
    z21) (.c (.int .i64 1)))) (fun z22 => chkO (okSls 1 [z22]) (chkO (leN (addN 0 (lenL [z22])) (lenL [z22])) (chkO (andB (leN (natP (nth z9.1 9)) (lenL (itemsP (nth z9.1 10)))) (leN
    (addN (natP (nth z9.1 9)) (lenL (takeL (lenL [z22]) (dropL 0 [z22])))) 2147483648)) (bindO (pureO (.bin .add .num true (.c (nth z9.1 2)) (.c (.int .i64 1)))) (fun z23 => some (.inl
    ([nth z9.1 0, nth z9.1 1, z23, nth z9.1 3, nth z9.1 4, nth z9.1 5, nth z9.1 6, nth z9.1 7, nth z9.1 8, nI (addN (natP (nth z9.1 9)) (lenL (takeL (lenL [z22]) (dropL 0 [z22])))),
    .sl 1 (catL (takeL (natP (nth z9.1 9)) (itemsP (nth z9.1 10))) (takeL (lenL [z22]) (dropL 0 [z22]))) false], z9.2)))))))))) (bindO (pureO (.bin .add .num true (.c z14) (.c (.int
    .i64 1)))) (fun z24 => chkO (okSls 1 [z24]) (chkO (leN (addN 0 (lenL [z24])) (lenL [z24])) (chkO (andB (leN (natP (nth z9.1 9)) (lenL (itemsP (nth z9.1 10)))) (leN (addN (natP (nth
    z9.1 9)) (lenL (takeL (lenL [z24]) (dropL 0 [z24])))) 2147483648)) (bindO (pureO (.bin .add .num true (.c (nth z9.1 2)) (.c (.int .i64 1)))) (fun z25 => some (.inl ([nth z9.1 0,
    nth z9.1 1, z25, nth z9.1 3, nth z9.1 4, nth z9.1 5, nth z9.1 6, nth z9.1 7, nth z9.1 8, nI (addN (natP (nth z9.1 9)) (lenL (takeL (lenL [z24]) (dropL 0 [z24])))), .sl 1 (catL
    (takeL (natP (nth z9.1 9)) (itemsP (nth z9.1 10))) (takeL (lenL [z24]) (dropL 0 [z24]))) false], z9.2)))))))))))))) (bindO (chkO (okU (.tup [.agg [nth z9.1 7, nth z9.1 8, slO 1 1
    (itemsP (nth z9.1 10)) 0 (natP (nth z9.1 9))], .nilI])) (some (.tup [.agg [nth z9.1 7, nth z9.1 8, slO 1 1 (itemsP (nth z9.1 10)) 0 (natP (nth z9.1 9))], .nilI], z9.2))) (fun z26
    => some (.inr z26))))) ([z7, z8, .int .i64 0, x0, .bool false, .bool false, .nilS, cellP z6 0, cellP z6 1, nI 0, .sl 1 [] false], e)))))))))))) := by kernel_rfl
theorem run50 (B : KB) {E : Type} (h : Handler E) (dep : Nat) (e : E) (x0 : PV) :
    runK (cfg0 B (fun _ => .cl)) fn50 (.cl) h dep [.cv x0] e =
    chkO (valO x0) (bindO (selO x0 0 3 true) (fun z1 => bindO (selO x0 0 3 true) (fun z2 => bindO (callO B (.own 1) (.fn 52 []) [z2]) (fun z3 => bindO (lendO B .cl false 51 [z1, slO 1
    1 (itemsP z3) 0 (lenL (itemsP z3))]) (fun z4 => chkO (okCells z4 3) (some (.tup [.agg [cellP z4 0, cellP z4 1, cellP z4 2], .nilI], e))))))) := by kernel_rfl
theorem run51 (B : KB) {E : Type} (h : Handler E) (dep : Nat) (e : E) (x0 : PV) (x1 : PV) :
    runK (cfg0 B (fun _ => .cl)) fn51 (.cl) h dep [.cv x0, .cv x1] e =
    chkO (valO x0) (bindO (selO x0 1 1 false) (fun z1 => bindO (pureO (.build [.bool false, .bool false, .nilS] [(0, (1, .c (.bool true))), (1, (1, .c z1)), (2, (1, .c x1))])) (fun z2
    => chkO (okCells z2 3) (some (.agg [cellP z2 0, cellP z2 1, cellP z2 2], e))))) := by kernel_rfl
theorem run52 (B : KB) {E : Type} (h : Handler E) (dep : Nat) (e : E) (x0 : PV) :
    runK (cfg0 B (fun _ => .cl)) fn52 (.own 1) h dep [.cv x0] e =
    chkO (valO x0) (bindO (selO x0 2 1 false) (fun z1 => bindO (pureO (.len .slice (.c z1))) (fun z2 => bindO (mkSO z2 z2) (fun z3 => bindO (selO x0 2 1 false) (fun z4 => bindO (elemsO
    1 z4) (fun z5 => chkO (leN (addN 0 z3) (lenL (replL z3 (.int .i64 0)))) (chkO (eqN z3 (lenL (catL (catL (takeL 0 (replL z3 (.int .i64 0))) (takeL z3 z5)) (dropL (addN 0 (lenL
    (takeL z3 z5))) (replL z3 (.int .i64 0)))))) (some (.sl 1 (catL (catL (takeL 0 (replL z3 (.int .i64 0))) (takeL z3 z5)) (dropL (addN 0 (lenL (takeL z3 z5))) (replL z3 (.int .i64
    0)))) false, e))))))))) := by kernel_rfl
theorem run53 (B : KB) {E : Type} (h : Handler E) (dep : Nat) (e : E) (x0 : PV) :
    runK (cfg0 B (fun _ => .cl)) fn53 (.cl) h dep [.cv x0] e =
    chkO (valO x0) (bindO (bindO (selO x0 5 1 false) (fun z1 => bindO (pureO (.len .slice (.c z1))) (fun z2 => bindO (pureO (.bin .gtr .num true (.c z2) (.c (.int .i64 0)))) (fun z3 =>
    iteP z3 (bindO (selO x0 2 1 false) (fun z4 => bindO (pureO (.len .slice (.c z4))) (fun z5 => bindO (pureO (.bin .gtr .num true (.c z5) (.c (.int .i64 0)))) (fun z6 => iteP z6
    (bindO (selO x0 4 1 false) (fun z7 => bindO (selO x0 1 1 false) (fun z8 => bindO (pureO (.bin .neq .bool false (.c z7) (.c z8))) (fun z9 => some z9)))) (some (.bool false))))))
    (some (.bool false)))))) (fun z10 => iteP z10 (bindO (pureO (.build [.bool false, .bool false, .nilS] [])) (fun z11 => bindO (pureO (.build [.int .i64 0] [(0, (1, .c (.int .i64
    102)))])) (fun z12 => chkO (okCells z11 3) (some (.tup [.agg [cellP z11 0, cellP z11 1, cellP z11 2], .iface 72 z12], e))))) (bindO (selO x0 5 1 false) (fun z13 => bindO (pureO
    (.len .slice (.c z13))) (fun z14 => bindO (selO x0 2 1 false) (fun z15 => bindO (pureO (.len .slice (.c z15))) (fun z16 => bindO (pureO (.bin .add .num false (.c z14) (.c z16)))
    (fun z17 => bindO (pureO (.bin .gtr .num true (.c z17) (.c (.int .i64 200)))) (fun z18 => iteP z18 (bindO (pureO (.build [.bool false, .bool false, .nilS] [])) (fun z19 => bindO
    (pureO (.build [.int .i64 0] [(0, (1, .c (.int .i64 113)))])) (fun z20 => chkO (okCells z19 3) (some (.tup [.agg [cellP z19 0, cellP z19 1, cellP z19 2], .iface 72 z20], e)))))
    (bindO (selO x0 3 3 true) (fun z21 => bindO (callO B .cl (.fn 79 []) [z21]) (fun z22 => iteP z22 (bindO (selO x0 5 1 false) (fun z23 => bindO (selO x0 2 1 false) (fun z24 => chkO
    (okSls 1 [z23, z24]) (bindO (lendO B (.own 1) true 80 [slO 1 1 [z23, z24] 0 (lenL [z23, z24])]) (fun z25 => chkO (okU (.tup [.agg [.bool true, .bool true, slO 1 1 (itemsP z25) 0
    (lenL (itemsP z25))], .nilI])) (some (.tup [.agg [.bool true, .bool true, slO 1 1 (itemsP z25) 0 (lenL (itemsP z25))], .nilI], e))))))) (bindO (selO x0 0 3 true) (fun z26 => bindO
    (callO B .cl (.fn 79 []) [z26]) (fun z27 => iteP z27 (bindO (selO x0 5 1 false) (fun z28 => bindO (selO x0 2 1 false) (fun z29 => chkO (okSls 1 [z28, z29]) (bindO (lendO B (.own 1)
    true 80 [slO 1 1 [z28, z29] 0 (lenL [z28, z29])]) (fun z30 => chkO (okU (.tup [.agg [.bool true, .bool true, slO 1 1 (itemsP z30) 0 (lenL (itemsP z30))], .nilI])) (some (.tup [.agg
    [.bool true, .bool true, slO 1 1 (itemsP z30) 0 (lenL (itemsP z30))], .nilI], e))))))) (bindO (selO x0 4 1 false) (fun z31 => iteP z31 (bindO (selO x0 1 1 false) (fun z32 => bindO
    (selO x0 5 1 false) (fun z33 => bindO (selO x0 2 1 false) (fun z34 => chkO (okSls 1 [z33, z34]) (bindO (lendO B (.own 1) true 80 [slO 1 1 [z33, z34] 0 (lenL [z33, z34])]) (fun z35
    => chkO (okCells z32 1) (chkO (okU (.tup [.agg [.bool true, cellP z32 0, slO 1 1 (itemsP z35) 0 (lenL (itemsP z35))], .nilI])) (some (.tup [.agg [.bool true, cellP z32 0, slO 1 1
    (itemsP z35) 0 (lenL (itemsP z35))], .nilI], e))))))))) (bindO (selO x0 5 1 false) (fun z36 => bindO (selO x0 2 1 false) (fun z37 => chkO (okSls 1 [z36, z37]) (bindO (lendO B (.own
    1) true 80 [slO 1 1 [z36, z37] 0 (lenL [z36, z37])]) (fun z38 => chkO (okU (.tup [.agg [.bool true, .bool false, slO 1 1 (itemsP z38) 0 (lenL (itemsP z38))], .nilI])) (some (.tup
    [.agg [.bool true, .bool false, slO 1 1 (itemsP z38) 0 (lenL (itemsP z38))], .nilI], e)))))))))))))))))))))))) := by kernel_rfl
theorem run54 (B : KB) {E : Type} (h : Handler E) (dep : Nat) (e : E) (x0 : PV) (x1 : PV) (x2 : PV) :
    runK (cfg0 B (fun _ => .cl)) fn54 (.cl) h dep [.agg [.cv x0, .cv x1, .cv x2]] e =
    bindO (callO B (.own 1) (.fn 52 []) [.agg [x0, x1, x2]]) (fun z1 => bindO (ioO B (.mk [.arr (0, 0) 1 0 0] [.arr 1 0 []] (.tup []) [.arr 1 0 []] [] []) 81 [nI (lenL (itemsP z1)),
    .sl 1 (itemsP z1) false]) (fun z2 => chkO (okU (.tup [.agg [x0, x1, slO 1 1 (itemsP (nth z2 0)) 0 (lenL (itemsP z1))], .nilI])) (some (.tup [.agg [x0, x1, slO 1 1 (itemsP (nth z2
    0)) 0 (lenL (itemsP z1))], .nilI], e)))) := by kernel_rfl
theorem run55 (B : KB) {E : Type} (h : Handler E) (dep : Nat) (e : E) (x0 : PV) :
    runK (cfg0 B (fun _ => .cl)) fn55 (.cl) h dep [.cv x0] e =
    chkO (valO x0) (bindO (selO x0 3 3 true) (fun z1 => bindO (callO B .cl (.fn 77 []) [z1]) (fun z2 => bindO (pureO (.extract 0 (.c z2))) (fun z3 => bindO (pureO (.extract 1 (.c z2)))
    (fun z4 => bindO (pureO (.bin .neq .iface true (.c z4) (.c .nilI))) (fun z5 => iteP z5 (bindO (pureO (.build [.bool false, .bool false, .nilS] [])) (fun z6 => chkO (okCells z6 3)
    (some (.tup [.agg [cellP z6 0, cellP z6 1, cellP z6 2], z4], e)))) (bindO (selO x0 0 3 true) (fun z7 => chkO (okCells z7 3) (bindO (selO x0 0 3 true) (fun z8 => bindO (callO B
    (.own 1) (.fn 52 []) [z8]) (fun z9 => bindO (selO x0 2 1 false) (fun z10 => bindO (pureO (.len .slice (.c z10))) (fun z11 => bindO (pureO (.bin .gtr .num true (.c z11) (.c (.int
    .i64 0)))) (fun z12 => iteP z12 (bindO (pureO (.bin .rem .num false (.c z3) (.c z11))) (fun z13 => bindO (pureO (.bin .add .num false (.c z13) (.c z11))) (fun z14 => bindO (pureO
    (.bin .rem .num false (.c z14) (.c z11))) (fun z15 => bindO (selO x0 2 1 false) (fun z16 => bindO (pureO (.slice 1 (.c z16) (some (.c z15)) none none)) (fun z17 => bindO (selO x0 2
    1 false) (fun z18 => bindO (pureO (.slice 1 (.c z18) none (some (.c z15)) (some (.c z15)))) (fun z19 => chkO (okSls 1 [z17, z19]) (bindO (lendO B (.own 1) true 80 [slO 1 1 [z17,
    z19] 0 (lenL [z17, z19])]) (fun z20 => chkO (okU (.tup [.agg [cellP z7 0, cellP z7 1, slO 1 1 (itemsP z20) 0 (lenL (itemsP z20))], .nilI])) (some (.tup [.agg [cellP z7 0, cellP z7
    1, slO 1 1 (itemsP z20) 0 (lenL (itemsP z20))], .nilI], e)))))))))))) (chkO (okU (.tup [.agg [cellP z7 0, cellP z7 1, slO 1 1 (itemsP z9) 0 (lenL (itemsP z9))], .nilI])) (some
    (.tup [.agg [cellP z7 0, cellP z7 1, slO 1 1 (itemsP z9) 0 (lenL (itemsP z9))], .nilI], e))))))))))))))))) := by kernel_rfl
theorem run56 (B : KB) {E : Type} (h : Handler E) (dep : Nat) (e : E) (x0 : PV) :
    runK (cfg0 B (fun _ => .cl)) fn56 (.cl) h dep [.cv x0] e =
    chkO (valO x0) (bindO (selO x0 0 3 true) (fun z1 => bindO (callO B (.own 1) (.fn 52 []) [z1]) (fun z2 => bindO (selO x0 1 1 false) (fun z3 => bindO (callO B .cl (.fn 26 []) [z3])
    (fun z4 => chkO (okSls 1 [z4]) (chkO (leN (addN 0 (lenL [z4])) (lenL [z4])) (chkO (andB (leN (lenL (itemsP z2)) (lenL (itemsP z2))) (leN (addN (lenL (itemsP z2)) (lenL (takeL (lenL
    [z4]) (dropL 0 [z4])))) 2147483648)) (bindO (selO x0 1 1 false) (fun z5 => bindO (boundO (some (.int .i64 1)) (addN (lenL (itemsP z2)) (lenL (takeL (lenL [z4]) (dropL 0 [z4]))))
    (addN (lenL (itemsP z2)) (lenL (takeL (lenL [z4]) (dropL 0 [z4]))))) (fun z6 => bindO (boundO (some (.int .i64 1)) (addN (lenL (itemsP z2)) (lenL (takeL (lenL [z4]) (dropL 0
    [z4])))) z6) (fun z7 => chkO (okCells z5 1) (chkO (okU (.tup [.agg [.bool false, cellP z5 0, slO 1 1 (catL (takeL (lenL (itemsP z2)) (itemsP z2)) (takeL (lenL [z4]) (dropL 0
    [z4]))) 0 z7], .nilI])) (some (.tup [.agg [.bool false, cellP z5 0, slO 1 1 (catL (takeL (lenL (itemsP z2)) (itemsP z2)) (takeL (lenL [z4]) (dropL 0 [z4]))) 0 z7], .nilI],
    e)))))))))))))) := by kernel_rfl
theorem run57 (B : KB) {E : Type} (h : Handler E) (dep : Nat) (e : E) (x0 : PV) :
    runK (cfg0 B (fun _ => .cl)) fn57 (.cl) h dep [.cv x0] e =
    chkO (valO x0) (bindO (selO x0 0 6 true) (fun z1 => bindO (callO B .cl (.fn 76 []) [z1, .int .i64 (-200), .int .i64 200]) (fun z2 => bindO (pureO (.extract 0 (.c z2))) (fun z3 =>
    bindO (pureO (.extract 1 (.c z2))) (fun z4 => bindO (pureO (.bin .neq .iface true (.c z4) (.c .nilI))) (fun z5 => iteP z5 (bindO (pureO (.build [.bool false, .bool false, .nilS]
    [])) (fun z6 => chkO (okCells z6 3) (some (.tup [.agg [cellP z6 0, cellP z6 1, cellP z6 2], z4], e)))) (bindO (pureO (.bin .lss .num true (.c z3) (.c (.int .i64 0)))) (fun z7 =>
    iteP z7 (bindO (selO x0 2 1 false) (fun z8 => bindO (pureO (.len .slice (.c z8))) (fun z9 => bindO (pureO (.bin .add .num false (.c z9) (.c z3))) (fun z10 => bindO (pureO (.un .neg
    (.c z3))) (fun z11 => bindO (mkSO z11 z11) (fun z12 => chkO (noUndef [z10, nI z12, nI z12, .int .i64 0]) (loopL (fun z13 => bindO (pureO (.bin .lss .num false (.c (nth z13.1 3))
    (.c (nth z13.1 2)))) (fun z14 => iteP z14 (bindO (selO (nth z13.1 4) 1 1 false) (fun z15 => bindO (callO B .cl (.fn 26 []) [z15]) (fun z16 => bindO (natO (nth z13.1 3)) (fun z17 =>
    chkO (ltN z17 (natP (nth z13.1 1))) (bindO (setO 1 (itemsP (nth z13.1 8)) (addN 0 z17) 0 1 z16) (fun z18 => bindO (pureO (.bin .add .num false (.c (nth z13.1 0)) (.c (nth z13.1
    3)))) (fun z19 => bindO (bindO (pureO (.bin .geq .num true (.c z19) (.c (.int .i64 0)))) (fun z20 => iteP z20 (bindO (selO (nth z13.1 4) 2 1 false) (fun z21 => bindO (pureO (.len
    .slice (.c z21))) (fun z22 => bindO (pureO (.bin .lss .num false (.c z19) (.c z22))) (fun z23 => some z23)))) (some (.bool false)))) (fun z24 => iteP z24 (bindO (selO (nth z13.1 4)
    2 1 false) (fun z25 => bindO (pureO (.idxAddr 1 (.c z25) (.c z19))) (fun z26 => bindO (pureO (.load 1 false (.c z26))) (fun z27 => bindO (natO (nth z13.1 3)) (fun z28 => chkO (ltN
    z28 (natP (nth z13.1 1))) (bindO (setO 1 z18 (addN 0 z28) 0 1 z27) (fun z29 => bindO (pureO (.bin .add .num true (.c (nth z13.1 3)) (.c (.int .i64 1)))) (fun z30 => some (.inl
    ([nth z13.1 0, nI (natP (nth z13.1 1)), nth z13.1 2, z30, nth z13.1 4, nth z13.1 5, nth z13.1 6, nth z13.1 7, .sl 1 z29 false], z13.2)))))))))) (bindO (pureO (.bin .add .num true
    (.c (nth z13.1 3)) (.c (.int .i64 1)))) (fun z31 => some (.inl ([nth z13.1 0, nI (natP (nth z13.1 1)), nth z13.1 2, z31, nth z13.1 4, nth z13.1 5, nth z13.1 6, nth z13.1 7, .sl 1
    z18 false], z13.2)))))))))))) (bindO (bindO (selO (nth z13.1 4) 0 3 true) (fun z32 => bindO (lendO B .cl false 51 [z32, slO 1 1 (itemsP (nth z13.1 8)) 0 (natP (nth z13.1 1))]) (fun
    z33 => chkO (okCells z33 3) (some (.tup [.agg [cellP z33 0, cellP z33 1, cellP z33 2], .nilI], z13.2))))) (fun z34 => some (.inr z34))))) ([z10, nI z12, nI z12, .int .i64 0, x0,
    .bool false, .bool false, .nilS, .sl 1 (replL z12 (.int .i64 0)) false], e)))))))) (bindO (mkSO z3 z3) (fun z35 => chkO (noUndef [.int .i64 0, nI z35, nI z35, .int .i64 0]) (loopL
    (fun z36 => bindO (pureO (.bin .lss .num false (.c (nth z36.1 3)) (.c (nth z36.1 2)))) (fun z37 => iteP z37 (bindO (selO (nth z36.1 4) 1 1 false) (fun z38 => bindO (callO B .cl
    (.fn 26 []) [z38]) (fun z39 => bindO (natO (nth z36.1 3)) (fun z40 => chkO (ltN z40 (natP (nth z36.1 1))) (bindO (setO 1 (itemsP (nth z36.1 8)) (addN 0 z40) 0 1 z39) (fun z41 =>
    bindO (pureO (.bin .add .num false (.c (nth z36.1 0)) (.c (nth z36.1 3)))) (fun z42 => bindO (bindO (pureO (.bin .geq .num true (.c z42) (.c (.int .i64 0)))) (fun z43 => iteP z43
    (bindO (selO (nth z36.1 4) 2 1 false) (fun z44 => bindO (pureO (.len .slice (.c z44))) (fun z45 => bindO (pureO (.bin .lss .num false (.c z42) (.c z45))) (fun z46 => some z46))))
    (some (.bool false)))) (fun z47 => iteP z47 (bindO (selO (nth z36.1 4) 2 1 false) (fun z48 => bindO (pureO (.idxAddr 1 (.c z48) (.c z42))) (fun z49 => bindO (pureO (.load 1 false
    (.c z49))) (fun z50 => bindO (natO (nth z36.1 3)) (fun z51 => chkO (ltN z51 (natP (nth z36.1 1))) (bindO (setO 1 z41 (addN 0 z51) 0 1 z50) (fun z52 => bindO (pureO (.bin .add .num
    true (.c (nth z36.1 3)) (.c (.int .i64 1)))) (fun z53 => some (.inl ([nth z36.1 0, nI (natP (nth z36.1 1)), nth z36.1 2, z53, nth z36.1 4, nth z36.1 5, nth z36.1 6, nth z36.1 7,
    .sl 1 z52 false], z36.2)))))))))) (bindO (pureO (.bin .add .num true (.c (nth z36.1 3)) (.c (.int .i64 1)))) (fun z54 => some (.inl ([nth z36.1 0, nI (natP (nth z36.1 1)), nth
    z36.1 2, z54, nth z36.1 4, nth z36.1 5, nth z36.1 6, nth z36.1 7, .sl 1 z41 false], z36.2)))))))))))) (bindO (bindO (selO (nth z36.1 4) 0 3 true) (fun z55 => bindO (lendO B .cl
    false 51 [z55, slO 1 1 (itemsP (nth z36.1 8)) 0 (natP (nth z36.1 1))]) (fun z56 => chkO (okCells z56 3) (some (.tup [.agg [cellP z56 0, cellP z56 1, cellP z56 2], .nilI],
    z36.2))))) (fun z57 => some (.inr z57))))) ([.int .i64 0, nI z35, nI z35, .int .i64 0, x0, .bool false, .bool false, .nilS, .sl 1 (replL z35 (.int .i64 0)) false], e)))))))))))) := by kernel_rfl
theorem run58 (B : KB) {E : Type} (h : Handler E) (dep : Nat) (e : E) (x0 : PV) :
    runK (cfg0 B (fun _ => .cl)) fn58 (.cl) h dep [.cv x0] e =
    chkO (valO x0) (bindO (selO x0 3 3 true) (fun z1 => bindO (callO B .cl (.fn 77 []) [z1]) (fun z2 => bindO (pureO (.extract 0 (.c z2))) (fun z3 => bindO (pureO (.extract 1 (.c z2)))
    (fun z4 => bindO (pureO (.bin .neq .iface true (.c z4) (.c .nilI))) (fun z5 => iteP z5 (bindO (pureO (.build [.bool false, .bool false, .nilS] [])) (fun z6 => chkO (okCells z6 3)
    (some (.tup [.agg [cellP z6 0, cellP z6 1, cellP z6 2], z4], e)))) (bindO (selO x0 2 1 false) (fun z7 => bindO (pureO (.len .slice (.c z7))) (fun z8 => bindO (pureO (.bin .geq .num
    true (.c z3) (.c (.int .i64 0)))) (fun z9 => iteP z9 (bindO (selO x0 0 3 true) (fun z10 => bindO (selO x0 0 3 true) (fun z11 => bindO (callO B (.own 1) (.fn 52 []) [z11]) (fun z12
    => bindO (pureO (.minmax false [.c z3, .c z8])) (fun z13 => bindO (boundO none (lenL (itemsP z12)) (lenL (itemsP z12))) (fun z14 => bindO (boundO none (lenL (itemsP z12)) z14) (fun
    z15 => bindO (boundO (some z13) 0 z15) (fun z16 => iteB (andB (eqN z15 z16) (ltN 0 z16)) (bindO (callO B .cl (.fn 51 []) [z10, .sl 1 [] false]) (fun z17 => chkO (okCells z17 3)
    (some (.tup [.agg [cellP z17 0, cellP z17 1, cellP z17 2], .nilI], e)))) (bindO (lendO B .cl false 51 [z10, slO 1 1 (itemsP z12) (addN 0 z16) (subN z15 z16)]) (fun z18 => chkO
    (okCells z18 3) (some (.tup [.agg [cellP z18 0, cellP z18 1, cellP z18 2], .nilI], e)))))))))))) (bindO (selO x0 0 3 true) (fun z19 => bindO (selO x0 0 3 true) (fun z20 => bindO
    (callO B (.own 1) (.fn 52 []) [z20]) (fun z21 => bindO (pureO (.un .neg (.c z8))) (fun z22 => bindO (pureO (.minmax true [.c z3, .c z22])) (fun z23 => bindO (pureO (.bin .add .num
    false (.c z8) (.c z23))) (fun z24 => bindO (pureO (.minmax true [.c z24, .c (.int .i64 0)])) (fun z25 => bindO (boundO none (lenL (itemsP z21)) (lenL (itemsP z21))) (fun z26 =>
    bindO (boundO (some z25) (lenL (itemsP z21)) z26) (fun z27 => bindO (lendO B .cl false 51 [z19, slO 1 1 (itemsP z21) 0 z27]) (fun z28 => chkO (okCells z28 3) (some (.tup [.agg
    [cellP z28 0, cellP z28 1, cellP z28 2], .nilI], e))))))))))))))))))))))) := by kernel_rfl
theorem run59 (B : KB) {E : Type} (h : Handler E) (dep : Nat) (e : E) (x0 : PV) :
    runK (cfg0 B (fun _ => .cl)) fn59 (.cl) h dep [.cv x0] e =
    chkO (valO x0) (bindO (selO x0 2 1 false) (fun z1 => bindO (pureO (.len .slice (.c z1))) (fun z2 => bindO (callO B .cl (.fn 60 []) [z2]) (fun z3 => chkO (okCells z3 3) (some (.tup
    [.agg [cellP z3 0, cellP z3 1, cellP z3 2], .nilI], e)))))) := by kernel_rfl
theorem run60 (B : KB) {E : Type} (h : Handler E) (dep : Nat) (e : E) (x0 : PV) :
    runK (cfg0 B (fun _ => .cl)) fn60 (.cl) h dep [.cv x0] e =
    chkO (okSls 1 [x0]) (chkO (okU (.agg [.bool false, .bool false, slO 1 1 [x0] 0 (lenL [x0])])) (some (.agg [.bool false, .bool false, slO 1 1 [x0] 0 (lenL [x0])], e))) := by kernel_rfl
theorem run61 (B : KB) {E : Type} (h : Handler E) (dep : Nat) (e : E) (x0 : PV) :
    runK (cfg0 B (fun _ => .cl)) fn61 (.cl) h dep [.cv x0] e =
    chkO (valO x0) (bindO (selO x0 3 3 true) (fun z1 => bindO (selO x0 0 3 true) (fun z2 => bindO (callO B .cl (.fn 18 []) [z1, z2]) (fun z3 => iteP z3 (bindO (callO B .cl (.fn 60 [])
    [.int .i64 0]) (fun z4 => chkO (okCells z4 3) (some (.tup [.agg [cellP z4 0, cellP z4 1, cellP z4 2], .nilI], e)))) (bindO (callO B .cl (.fn 60 []) [.int .i64 1]) (fun z5 => chkO
    (okCells z5 3) (some (.tup [.agg [cellP z5 0, cellP z5 1, cellP z5 2], .nilI], e)))))))) := by kernel_rfl
theorem run62 (B : KB) {E : Type} (h : Handler E) (dep : Nat) (e : E) (x0 : PV) (x1 : PV) :
    runK (cfg0 B (fun _ => .cl)) fn62 (.cl) h dep [.cv x0, .cv x1] e =
    bindO (callO B .cl (.fn 82 []) [x0, x1]) (fun z1 => bindO (pureO (.bin .geq .num true (.c z1) (.c (.int .i64 0)))) (fun z2 => some (z2, e))) := by kernel_rfl
theorem run63 (B : KB) {E : Type} (h : Handler E) (dep : Nat) (e : E) (x0 : PV) :
    runK (cfg0 B (fun _ => .cl)) fn63 (.cl) h dep [.cv x0] e =
    chkO (valO x0) (bindO (selO x0 0 3 true) (fun z1 => bindO (callO B .cl (.fn 16 []) [z1]) (fun z2 => bindO (pureO (.un .not (.c z2))) (fun z3 => some (z3, e))))) := by kernel_rfl
theorem run65 (B : KB) {E : Type} (h : Handler E) (dep : Nat) (e : E) (x0 : PV) (x1 : PV) :
    runK (cfg0 B (fun _ => .cl)) fn65 (.cl) h dep [.cv x0, .cv x1] e =
    bindO (pureO (.len .slice (.c x0))) (fun z1 => chkO (noUndef [x0, x1, z1, .int .i64 0]) (loopL (fun z2 => bindO (pureO (.bin .lss .num false (.c (nth z2.1 3)) (.c (nth z2.1 2))))
    (fun z3 => iteP z3 (bindO (pureO (.idxAddr 1 (.c (nth z2.1 0)) (.c (nth z2.1 3)))) (fun z4 => bindO (pureO (.load 1 false (.c z4))) (fun z5 => bindO (callO B .cl (nth z2.1 1) [z5])
    (fun z6 => iteP z6 (bindO (some (nth z2.1 3, z2.2)) (fun z7 => some (.inr z7))) (bindO (pureO (.bin .add .num true (.c (nth z2.1 3)) (.c (.int .i64 1)))) (fun z8 => some (.inl
    ([nth z2.1 0, nth z2.1 1, nth z2.1 2, z8], z2.2)))))))) (bindO (some (.int .i64 (-1), z2.2)) (fun z9 => some (.inr z9))))) ([x0, x1, z1, .int .i64 0], e))) := by kernel_rfl
theorem run66 (B : KB) {E : Type} (h : Handler E) (dep : Nat) (e : E) (x0 : PV) :
    runK (cfg0 B (fun _ => .cl)) fn66 (.cl) h dep [.cv x0] e =
    bindO (bindO (pureO (.bin .geq .num true (.c x0) (.c (.int .i64 0)))) (fun z1 => iteP z1 (bindO (pureO (.bin .leq .num true (.c x0) (.c (.int .i64 1114111)))) (fun z2 => iteP z2
    (bindO (pureO (.bin .lss .num true (.c x0) (.c (.int .i64 55296)))) (fun z3 => iteP z3 (some (.bool true)) (bindO (pureO (.bin .gtr .num true (.c x0) (.c (.int .i64 57343)))) (fun
    z4 => some z4)))) (some (.bool false)))) (some (.bool false)))) (fun z5 => some (z5, e)) := by kernel_rfl
theorem run67 (B : KB) {E : Type} (h : Handler E) (dep : Nat) (e : E) (x0 : PV) (x1 : PV) :
    runK (cfg0 B (fun _ => .cl)) fn67 (.cl) h dep [.cv x0, .cv x1] e =
    chkO (valO x1) (chkO (noUndef [x0, nI 0, .int .i64 0]) (loopL (fun z1 => bindO (pureO (.bin .lss .num false (.c (nth z1.1 2)) (.c (nth z1.1 0)))) (fun z2 => iteP z2 (bindO (selO
    (nth z1.1 3) 2 1 false) (fun z3 => bindO (selO (nth z1.1 3) 2 1 false) (fun z4 => bindO (pureO (.len .slice (.c z4))) (fun z5 => bindO (pureO (.bin .rem .num false (.c (nth z1.1
    2)) (.c z5))) (fun z6 => bindO (pureO (.idxAddr 1 (.c z3) (.c z6))) (fun z7 => bindO (pureO (.load 1 false (.c z7))) (fun z8 => chkO (okSls 1 [z8]) (chkO (leN (addN 0 (lenL [z8]))
    (lenL [z8])) (chkO (andB (leN (natP (nth z1.1 1)) (lenL (itemsP (nth z1.1 7)))) (leN (addN (natP (nth z1.1 1)) (lenL (takeL (lenL [z8]) (dropL 0 [z8])))) 2147483648)) (bindO (pureO
    (.bin .add .num true (.c (nth z1.1 2)) (.c (.int .i64 1)))) (fun z9 => some (.inl ([nth z1.1 0, nI (addN (natP (nth z1.1 1)) (lenL (takeL (lenL [z8]) (dropL 0 [z8])))), z9, nth
    z1.1 3, nth z1.1 4, nth z1.1 5, nth z1.1 6, .sl 1 (catL (takeL (natP (nth z1.1 1)) (itemsP (nth z1.1 7))) (takeL (lenL [z8]) (dropL 0 [z8]))) false], z1.2))))))))))))) (bindO
    (bindO (selO (nth z1.1 3) 1 1 false) (fun z10 => bindO (lendO B .cl false 38 [slO 1 1 (itemsP (nth z1.1 7)) 0 (natP (nth z1.1 1)), z10]) (fun z11 => chkO (okCells z11 3) (some
    (.agg [cellP z11 0, cellP z11 1, cellP z11 2], z1.2))))) (fun z12 => some (.inr z12))))) ([x0, nI 0, .int .i64 0, x1, .bool false, .bool false, .nilS, .sl 1 [] false], e))) := by kernel_rfl
theorem run68 (B : KB) {E : Type} (h : Handler E) (dep : Nat) (e : E) (x0 : PV) (x1 : PV) :
    runK (cfg0 B (fun _ => .cl)) fn68 (.cl) h dep [.cv x0, .cv x1] e =
    chkO (valO x1) (bindO (selO x1 2 1 false) (fun z1 => bindO (pureO (.len .slice (.c z1))) (fun z2 => chkO (noUndef [x0, nI 0, z2, .int .i64 0]) (loopL (fun z3 => bindO (pureO (.bin
    .lss .num false (.c (nth z3.1 3)) (.c (nth z3.1 2)))) (fun z4 => iteP z4 (bindO (selO (nth z3.1 4) 2 1 false) (fun z5 => bindO (pureO (.bin .rem .num false (.c (nth z3.1 0)) (.c
    (nth z3.1 2)))) (fun z6 => bindO (pureO (.bin .add .num false (.c z6) (.c (nth z3.1 3)))) (fun z7 => bindO (pureO (.bin .rem .num false (.c z7) (.c (nth z3.1 2)))) (fun z8 => bindO
    (pureO (.bin .add .num false (.c z8) (.c (nth z3.1 2)))) (fun z9 => bindO (pureO (.bin .rem .num false (.c z9) (.c (nth z3.1 2)))) (fun z10 => bindO (pureO (.idxAddr 1 (.c z5) (.c
    z10))) (fun z11 => bindO (pureO (.load 1 false (.c z11))) (fun z12 => chkO (okSls 1 [z12]) (chkO (leN (addN 0 (lenL [z12])) (lenL [z12])) (chkO (andB (leN (natP (nth z3.1 1)) (lenL
    (itemsP (nth z3.1 8)))) (leN (addN (natP (nth z3.1 1)) (lenL (takeL (lenL [z12]) (dropL 0 [z12])))) 2147483648)) (bindO (pureO (.bin .add .num true (.c (nth z3.1 3)) (.c (.int .i64
    1)))) (fun z13 => some (.inl ([nth z3.1 0, nI (addN (natP (nth z3.1 1)) (lenL (takeL (lenL [z12]) (dropL 0 [z12])))), nth z3.1 2, z13, nth z3.1 4, nth z3.1 5, nth z3.1 6, nth z3.1
    7, .sl 1 (catL (takeL (natP (nth z3.1 1)) (itemsP (nth z3.1 8))) (takeL (lenL [z12]) (dropL 0 [z12]))) false], z3.2))))))))))))))) (bindO (bindO (selO (nth z3.1 4) 0 1 false) (fun
    z14 => bindO (selO (nth z3.1 4) 1 1 false) (fun z15 => chkO (okCells z14 1) (chkO (okCells z15 1) (chkO (okU (.agg [cellP z14 0, cellP z15 0, slO 1 1 (itemsP (nth z3.1 8)) 0 (natP
    (nth z3.1 1))])) (some (.agg [cellP z14 0, cellP z15 0, slO 1 1 (itemsP (nth z3.1 8)) 0 (natP (nth z3.1 1))], z3.2))))))) (fun z16 => some (.inr z16))))) ([x0, nI 0, z2, .int .i64
    0, x1, .bool false, .bool false, .nilS, .sl 1 [] false], e))))) := by kernel_rfl
theorem run69 (B : KB) {E : Type} (h : Handler E) (dep : Nat) (e : E) (x0 : PV) (x1 : PV) :
    runK (cfg0 B (fun _ => .cl)) fn69 (.cl) h dep [.cv x0, .cv x1] e =
    chkO (valO x1) (bindO (pureO (.bin .lss .num true (.c x0) (.c (.int .i64 0)))) (fun z1 => iteP z1 (bindO (selO x1 2 1 false) (fun z2 => bindO (pureO (.len .slice (.c z2))) (fun z3
    => bindO (pureO (.bin .add .num false (.c z3) (.c x0))) (fun z4 => bindO (pureO (.un .neg (.c x0))) (fun z5 => chkO (noUndef [z5, nI 0, z4, z4]) (loopL (fun z6 => bindO (pureO
    (.bin .add .num false (.c (nth z6.1 2)) (.c (nth z6.1 0)))) (fun z7 => bindO (pureO (.bin .lss .num false (.c (nth z6.1 3)) (.c z7))) (fun z8 => iteP z8 (bindO (bindO (pureO (.bin
    .lss .num true (.c (nth z6.1 3)) (.c (.int .i64 0)))) (fun z9 => iteP z9 (some (.bool true)) (bindO (selO (nth z6.1 4) 2 1 false) (fun z10 => bindO (pureO (.len .slice (.c z10)))
    (fun z11 => bindO (pureO (.bin .geq .num false (.c (nth z6.1 3)) (.c z11))) (fun z12 => some z12)))))) (fun z13 => iteP z13 (bindO (selO (nth z6.1 4) 1 1 false) (fun z14 => bindO
    (callO B .cl (.fn 27 []) [z14]) (fun z15 => chkO (okSls 1 [z15]) (chkO (leN (addN 0 (lenL [z15])) (lenL [z15])) (chkO (andB (leN (natP (nth z6.1 1)) (lenL (itemsP (nth z6.1 8))))
    (leN (addN (natP (nth z6.1 1)) (lenL (takeL (lenL [z15]) (dropL 0 [z15])))) 2147483648)) (bindO (pureO (.bin .add .num true (.c (nth z6.1 3)) (.c (.int .i64 1)))) (fun z16 => some
    (.inl ([nth z6.1 0, nI (addN (natP (nth z6.1 1)) (lenL (takeL (lenL [z15]) (dropL 0 [z15])))), nth z6.1 2, z16, nth z6.1 4, nth z6.1 5, nth z6.1 6, nth z6.1 7, .sl 1 (catL (takeL
    (natP (nth z6.1 1)) (itemsP (nth z6.1 8))) (takeL (lenL [z15]) (dropL 0 [z15]))) false], z6.2))))))))) (bindO (selO (nth z6.1 4) 2 1 false) (fun z17 => bindO (pureO (.idxAddr 1 (.c
    z17) (.c (nth z6.1 3)))) (fun z18 => bindO (pureO (.load 1 false (.c z18))) (fun z19 => chkO (okSls 1 [z19]) (chkO (leN (addN 0 (lenL [z19])) (lenL [z19])) (chkO (andB (leN (natP
    (nth z6.1 1)) (lenL (itemsP (nth z6.1 8)))) (leN (addN (natP (nth z6.1 1)) (lenL (takeL (lenL [z19]) (dropL 0 [z19])))) 2147483648)) (bindO (pureO (.bin .add .num true (.c (nth
    z6.1 3)) (.c (.int .i64 1)))) (fun z20 => some (.inl ([nth z6.1 0, nI (addN (natP (nth z6.1 1)) (lenL (takeL (lenL [z19]) (dropL 0 [z19])))), nth z6.1 2, z20, nth z6.1 4, nth z6.1
    5, nth z6.1 6, nth z6.1 7, .sl 1 (catL (takeL (natP (nth z6.1 1)) (itemsP (nth z6.1 8))) (takeL (lenL [z19]) (dropL 0 [z19]))) false], z6.2)))))))))))) (bindO (bindO (selO (nth
    z6.1 4) 1 1 false) (fun z21 => bindO (lendO B .cl false 38 [slO 1 1 (itemsP (nth z6.1 8)) 0 (natP (nth z6.1 1)), z21]) (fun z22 => chkO (okCells z22 3) (some (.agg [cellP z22 0,
    cellP z22 1, cellP z22 2], z6.2))))) (fun z23 => some (.inr z23)))))) ([z5, nI 0, z4, z4, x1, .bool false, .bool false, .nilS, .sl 1 [] false], e))))))) (chkO (noUndef [x0, nI 0,
    .int .i64 0, .int .i64 0]) (loopL (fun z24 => bindO (pureO (.bin .add .num false (.c (nth z24.1 2)) (.c (nth z24.1 0)))) (fun z25 => bindO (pureO (.bin .lss .num false (.c (nth
    z24.1 3)) (.c z25))) (fun z26 => iteP z26 (bindO (bindO (pureO (.bin .lss .num true (.c (nth z24.1 3)) (.c (.int .i64 0)))) (fun z27 => iteP z27 (some (.bool true)) (bindO (selO
    (nth z24.1 4) 2 1 false) (fun z28 => bindO (pureO (.len .slice (.c z28))) (fun z29 => bindO (pureO (.bin .geq .num false (.c (nth z24.1 3)) (.c z29))) (fun z30 => some z30))))))
    (fun z31 => iteP z31 (bindO (selO (nth z24.1 4) 1 1 false) (fun z32 => bindO (callO B .cl (.fn 27 []) [z32]) (fun z33 => chkO (okSls 1 [z33]) (chkO (leN (addN 0 (lenL [z33])) (lenL
    [z33])) (chkO (andB (leN (natP (nth z24.1 1)) (lenL (itemsP (nth z24.1 8)))) (leN (addN (natP (nth z24.1 1)) (lenL (takeL (lenL [z33]) (dropL 0 [z33])))) 2147483648)) (bindO (pureO
    (.bin .add .num true (.c (nth z24.1 3)) (.c (.int .i64 1)))) (fun z34 => some (.inl ([nth z24.1 0, nI (addN (natP (nth z24.1 1)) (lenL (takeL (lenL [z33]) (dropL 0 [z33])))), nth
    z24.1 2, z34, nth z24.1 4, nth z24.1 5, nth z24.1 6, nth z24.1 7, .sl 1 (catL (takeL (natP (nth z24.1 1)) (itemsP (nth z24.1 8))) (takeL (lenL [z33]) (dropL 0 [z33]))) false],
    z24.2))))))))) (bindO (selO (nth z24.1 4) 2 1 false) (fun z35 => bindO (pureO (.idxAddr 1 (.c z35) (.c (nth z24.1 3)))) (fun z36 => bindO (pureO (.load 1 false (.c z36))) (fun z37
    => chkO (okSls 1 [z37]) (chkO (leN (addN 0 (lenL [z37])) (lenL [z37])) (chkO (andB (leN (natP (nth z24.1 1)) (lenL (itemsP (nth z24.1 8)))) (leN (addN (natP (nth z24.1 1)) (lenL
    (takeL (lenL [z37]) (dropL 0 [z37])))) 2147483648)) (bindO (pureO (.bin .add .num true (.c (nth z24.1 3)) (.c (.int .i64 1)))) (fun z38 => some (.inl ([nth z24.1 0, nI (addN (natP
    (nth z24.1 1)) (lenL (takeL (lenL [z37]) (dropL 0 [z37])))), nth z24.1 2, z38, nth z24.1 4, nth z24.1 5, nth z24.1 6, nth z24.1 7, .sl 1 (catL (takeL (natP (nth z24.1 1)) (itemsP
    (nth z24.1 8))) (takeL (lenL [z37]) (dropL 0 [z37]))) false], z24.2)))))))))))) (bindO (bindO (selO (nth z24.1 4) 1 1 false) (fun z39 => bindO (lendO B .cl false 38 [slO 1 1
    (itemsP (nth z24.1 8)) 0 (natP (nth z24.1 1)), z39]) (fun z40 => chkO (okCells z40 3) (some (.agg [cellP z40 0, cellP z40 1, cellP z40 2], z24.2))))) (fun z41 => some (.inr
    z41)))))) ([x0, nI 0, .int .i64 0, .int .i64 0, x1, .bool false, .bool false, .nilS, .sl 1 [] false], e))))) := by kernel_rfl
theorem run70 (B : KB) {E : Type} (h : Handler E) (dep : Nat) (e : E) (x0 : PV) (x1 : PV) :
    runK (cfg0 B (fun _ => .cl)) fn70 (.cl) h dep [.cv x0, .cv x1] e =
    chkO (valO x1) (bindO (selO x1 2 1 false) (fun z1 => bindO (pureO (.len .slice (.c z1))) (fun z2 => chkO (noUndef [x0, nI 0, z2, .int .i64 0]) (loopL (fun z3 => bindO (pureO (.bin
    .lss .num false (.c (nth z3.1 3)) (.c (nth z3.1 2)))) (fun z4 => iteP z4 (bindO (bindO (pureO (.bin .geq .num true (.c (nth z3.1 0)) (.c (.int .i64 0)))) (fun z5 => iteP z5 (bindO
    (pureO (.bin .geq .num false (.c (nth z3.1 3)) (.c (nth z3.1 0)))) (fun z6 => iteP z6 (some (.bool true)) (bindO (pureO (.bin .lss .num true (.c (nth z3.1 0)) (.c (.int .i64 0))))
    (fun z7 => iteP z7 (bindO (pureO (.bin .sub .num false (.c (nth z3.1 3)) (.c (nth z3.1 2)))) (fun z8 => bindO (pureO (.bin .lss .num false (.c z8) (.c (nth z3.1 0)))) (fun z9 =>
    some z9))) (some (.bool false)))))) (bindO (pureO (.bin .lss .num true (.c (nth z3.1 0)) (.c (.int .i64 0)))) (fun z10 => iteP z10 (bindO (pureO (.bin .sub .num false (.c (nth z3.1
    3)) (.c (nth z3.1 2)))) (fun z11 => bindO (pureO (.bin .lss .num false (.c z11) (.c (nth z3.1 0)))) (fun z12 => some z12))) (some (.bool false)))))) (fun z13 => iteP z13 (bindO
    (selO (nth z3.1 4) 2 1 false) (fun z14 => bindO (pureO (.idxAddr 1 (.c z14) (.c (nth z3.1 3)))) (fun z15 => bindO (pureO (.load 1 false (.c z15))) (fun z16 => chkO (okSls 1 [z16])
    (chkO (leN (addN 0 (lenL [z16])) (lenL [z16])) (chkO (andB (leN (natP (nth z3.1 1)) (lenL (itemsP (nth z3.1 8)))) (leN (addN (natP (nth z3.1 1)) (lenL (takeL (lenL [z16]) (dropL 0
    [z16])))) 2147483648)) (bindO (pureO (.bin .add .num true (.c (nth z3.1 3)) (.c (.int .i64 1)))) (fun z17 => some (.inl ([nth z3.1 0, nI (addN (natP (nth z3.1 1)) (lenL (takeL
    (lenL [z16]) (dropL 0 [z16])))), nth z3.1 2, z17, nth z3.1 4, nth z3.1 5, nth z3.1 6, nth z3.1 7, .sl 1 (catL (takeL (natP (nth z3.1 1)) (itemsP (nth z3.1 8))) (takeL (lenL [z16])
    (dropL 0 [z16]))) false], z3.2)))))))))) (bindO (pureO (.bin .add .num true (.c (nth z3.1 3)) (.c (.int .i64 1)))) (fun z18 => some (.inl ([nth z3.1 0, nI (natP (nth z3.1 1)), nth
    z3.1 2, z18, nth z3.1 4, nth z3.1 5, nth z3.1 6, nth z3.1 7, .sl 1 (itemsP (nth z3.1 8)) false], z3.2)))))) (bindO (bindO (selO (nth z3.1 4) 1 1 false) (fun z19 => bindO (lendO B
    .cl false 38 [slO 1 1 (itemsP (nth z3.1 8)) 0 (natP (nth z3.1 1)), z19]) (fun z20 => chkO (okCells z20 3) (some (.agg [cellP z20 0, cellP z20 1, cellP z20 2], z3.2))))) (fun z21 =>
    some (.inr z21))))) ([x0, nI 0, z2, .int .i64 0, x1, .bool false, .bool false, .nilS, .sl 1 [] false], e))))) := by kernel_rfl
theorem run75 (B : KB) {E : Type} (h : Handler E) (dep : Nat) (e : E) (x0 : PV) :
    runK (cfg0 B (fun _ => .cl)) fn75 (.cl) h dep [.cv x0] e =
    bindO (pureO (.build [.bool false, .bool false, .nilS] [(0, (1, .c (.bool true))), (2, (1, .c x0))])) (fun z1 => chkO (okCells z1 3) (some (.agg [cellP z1 0, cellP z1 1, cellP z1
    2], e))) := by kernel_rfl
theorem run76 (B : KB) {E : Type} (h : Handler E) (dep : Nat) (e : E) (x0 : PV) (x1 : PV) (x2 : PV) :
    runK (cfg0 B (fun _ => .cl)) fn76 (.cl) h dep [.cv x0, .cv x1, .cv x2] e =
    chkO (valO x0) (bindO (selO x0 3 3 true) (fun z1 => bindO (callO B .cl (.fn 77 []) [z1]) (fun z2 => bindO (pureO (.extract 0 (.c z2))) (fun z3 => bindO (pureO (.extract 1 (.c z2)))
    (fun z4 => bindO (bindO (pureO (.bin .eql .iface true (.c z4) (.c .nilI))) (fun z5 => iteP z5 (bindO (pureO (.bin .lss .num false (.c z3) (.c x1))) (fun z6 => iteP z6 (some (.bool
    true)) (bindO (pureO (.bin .gtr .num false (.c z3) (.c x2))) (fun z7 => some z7)))) (some (.bool false)))) (fun z8 => iteP z8 (bindO (pureO (.build [.int .i64 0] [(0, (1, .c (.int
    .i64 113)))])) (fun z9 => some (.tup [z3, .iface 72 z9], e))) (some (.tup [z3, z4], e)))))))) := by kernel_rfl
theorem run77 (B : KB) {E : Type} (h : Handler E) (dep : Nat) (e : E) (x0 : PV) :
    runK (cfg0 B (fun _ => .cl)) fn77 (.cl) h dep [.cv x0] e =
    chkO (valO x0) (bindO (selO x0 2 1 false) (fun z1 => bindO (pureO (.len .slice (.c z1))) (fun z2 => bindO (pureO (.bin .neq .num true (.c z2) (.c (.int .i64 1)))) (fun z3 => iteP
    z3 (bindO (pureO (.build [.int .i64 0] [(0, (1, .c (.int .i64 111)))])) (fun z4 => some (.tup [.int .i64 0, .iface 72 z4], e))) (bindO (selO x0 1 1 false) (fun z5 => iteP z5 (bindO
    (pureO (.build [.int .i64 0] [(0, (1, .c (.int .i64 102)))])) (fun z6 => some (.tup [.int .i64 0, .iface 72 z6], e))) (bindO (selO x0 2 1 false) (fun z7 => bindO (pureO (.idxAddr 1
    (.c z7) (.c (.int .i64 0)))) (fun z8 => bindO (pureO (.load 1 false (.c z8))) (fun z9 => some (.tup [z9, .nilI], e))))))))))) := by kernel_rfl
theorem run78 (B : KB) {E : Type} (h : Handler E) (dep : Nat) (e : E) (x0 : PV) (x1 : PV) :
    runK (cfg0 B (fun _ => .cl)) fn78 (.cl) h dep [.cv x0, .cv x1] e =
    bindO (pureO (.len .slice (.c x0))) (fun z1 => chkO (noUndef [x0, x1, z1, .int .i64 0]) (loopL (fun z2 => bindO (pureO (.bin .lss .num false (.c (nth z2.1 3)) (.c (nth z2.1 2))))
    (fun z3 => iteP z3 (bindO (pureO (.idxAddr 1 (.c (nth z2.1 0)) (.c (nth z2.1 3)))) (fun z4 => bindO (pureO (.load 1 false (.c z4))) (fun z5 => bindO (pureO (.bin .eql .num false
    (.c (nth z2.1 1)) (.c z5))) (fun z6 => iteP z6 (bindO (some (nth z2.1 3, z2.2)) (fun z7 => some (.inr z7))) (bindO (pureO (.bin .add .num true (.c (nth z2.1 3)) (.c (.int .i64
    1)))) (fun z8 => some (.inl ([nth z2.1 0, nth z2.1 1, nth z2.1 2, z8], z2.2)))))))) (bindO (some (.int .i64 (-1), z2.2)) (fun z9 => some (.inr z9))))) ([x0, x1, z1, .int .i64 0],
    e))) := by kernel_rfl
theorem run79 (B : KB) {E : Type} (h : Handler E) (dep : Nat) (e : E) (x0 : PV) :
    runK (cfg0 B (fun _ => .cl)) fn79 (.cl) h dep [.cv x0] e =
    chkO (valO x0) (bindO (bindO (selO x0 1 1 false) (fun z1 => iteP z1 (bindO (selO x0 2 1 false) (fun z2 => bindO (pureO (.len .slice (.c z2))) (fun z3 => bindO (pureO (.bin .gtr
    .num true (.c z3) (.c (.int .i64 0)))) (fun z4 => some z4)))) (some (.bool false)))) (fun z5 => some (z5, e))) := by kernel_rfl
theorem run80 (B : KB) {E : Type} (h : Handler E) (dep : Nat) (e : E) (x0 : PV) :
    runK (cfg0 B (fun _ => .cl)) fn80 (.own 1) h dep [.cv x0] e =
    bindO (pureO (.len .slice (.c x0))) (fun z1 => chkO (noUndef [x0, .int .i64 0, x0, z1, .int .i64 0]) (loopL (fun z2 => bindO (pureO (.bin .lss .num false (.c (nth z2.1 4)) (.c (nth
    z2.1 3)))) (fun z3 => iteP z3 (bindO (pureO (.idxAddr 1 (.c (nth z2.1 2)) (.c (nth z2.1 4)))) (fun z4 => bindO (pureO (.load 1 false (.c z4))) (fun z5 => bindO (pureO (.len .slice
    (.c z5))) (fun z6 => bindO (pureO (.bin .add .num false (.c (nth z2.1 1)) (.c z6))) (fun z7 => bindO (pureO (.bin .lss .num true (.c z7) (.c (.int .i64 0)))) (fun z8 => iteP z8
    none (bindO (pureO (.bin .add .num true (.c (nth z2.1 4)) (.c (.int .i64 1)))) (fun z9 => some (.inl ([nth z2.1 0, z7, nth z2.1 2, nth z2.1 3, z9], z2.2)))))))))) (bindO (bindO
    (callO B (.own 1) (.fn 90 []) [.nilS, nth z2.1 1]) (fun z10 => bindO (pureO (.len .slice (.c (nth z2.1 0)))) (fun z11 => chkO (noUndef [nI (lenL (itemsP z10)), nth z2.1 0, z11,
    .int .i64 0]) (loopL (fun z12 => bindO (pureO (.bin .lss .num false (.c (nth z12.1 3)) (.c (nth z12.1 2)))) (fun z13 => iteP z13 (bindO (pureO (.idxAddr 1 (.c (nth z12.1 1)) (.c
    (nth z12.1 3)))) (fun z14 => bindO (pureO (.load 1 false (.c z14))) (fun z15 => bindO (elemsO 1 z15) (fun z16 => chkO (andB (leN (natP (nth z12.1 0)) (lenL (itemsP (nth z12.1 4))))
    (leN (addN (natP (nth z12.1 0)) (lenL z16)) 2147483648)) (bindO (pureO (.bin .add .num true (.c (nth z12.1 3)) (.c (.int .i64 1)))) (fun z17 => some (.inl ([nI (addN (natP (nth
    z12.1 0)) (lenL z16)), nth z12.1 1, nth z12.1 2, z17, .sl 1 (catL (takeL (natP (nth z12.1 0)) (itemsP (nth z12.1 4))) z16) false], z12.2)))))))) (bindO (chkO (eqN (natP (nth z12.1
    0)) (lenL (itemsP (nth z12.1 4)))) (some (.sl 1 (itemsP (nth z12.1 4)) false, z12.2))) (fun z18 => some (.inr z18))))) ([nI (lenL (itemsP z10)), nth z2.1 0, z11, .int .i64 0, .sl 1
    (itemsP z10) false], z2.2))))) (fun z19 => some (.inr z19))))) ([x0, .int .i64 0, x0, z1, .int .i64 0], e))) := by kernel_rfl
theorem run81 (B : KB) (x0 : PV) (x1 : PV) :
    runIoK (cfg0 B (fun _ => .cl)) fn81 sh81 [x0, x1] =
    bindO (pureO (.bin .sub .num true (.c (nI (natP (nth [x0, x1] 0)))) (.c (.int .i64 1)))) (fun z1 => chkO (noUndef [nI (natP (nth [x0, x1] 0)), .int .i64 0, z1]) (loopL (fun z2 =>
    bindO (pureO (.bin .lss .num false (.c (nth z2.1 1)) (.c (nth z2.1 2)))) (fun z3 => iteP z3 (bindO (natO (nth z2.1 2)) (fun z4 => chkO (ltN z4 (natP (nth z2.1 0))) (bindO (elemO
    (itemsP (nth z2.1 3)) (addN 0 z4) 0 1 false) (fun z5 => bindO (natO (nth z2.1 1)) (fun z6 => chkO (ltN z6 (natP (nth z2.1 0))) (bindO (elemO (itemsP (nth z2.1 3)) (addN 0 z6) 0 1
    false) (fun z7 => bindO (natO (nth z2.1 1)) (fun z8 => chkO (ltN z8 (natP (nth z2.1 0))) (bindO (setO 1 (itemsP (nth z2.1 3)) (addN 0 z8) 0 1 z5) (fun z9 => bindO (natO (nth z2.1
    2)) (fun z10 => chkO (ltN z10 (natP (nth z2.1 0))) (bindO (setO 1 z9 (addN 0 z10) 0 1 z7) (fun z11 => bindO (pureO (.bin .add .num true (.c (nth z2.1 1)) (.c (.int .i64 1)))) (fun
    z12 => bindO (pureO (.bin .sub .num true (.c (nth z2.1 2)) (.c (.int .i64 1)))) (fun z13 => some (.inl ([nI (natP (nth z2.1 0)), z12, z13, .sl 1 z11 false], z2.2)))))))))))))))))
    (bindO (some [.sl 1 (itemsP (nth z2.1 3)) false]) (fun z14 => some (.inr z14))))) ([nI (natP (nth [x0, x1] 0)), .int .i64 0, z1, .sl 1 (itemsP (nth [x0, x1] 1)) false], ()))) := by kernel_rfl
theorem run82 (B : KB) {E : Type} (h : Handler E) (dep : Nat) (e : E) (x0 : PV) (x1 : PV) :
    runK (cfg0 B (fun _ => .cl)) fn82 (.cl) h dep [.cv x0, .cv x1] e =
    bindO (pureO (.len .slice (.c x0))) (fun z1 => chkO (noUndef [x0, x1, z1, .int .i64 0]) (loopL (fun z2 => bindO (pureO (.bin .lss .num false (.c (nth z2.1 3)) (.c (nth z2.1 2))))
    (fun z3 => iteP z3 (bindO (pureO (.idxAddr 3 (.c (nth z2.1 0)) (.c (nth z2.1 3)))) (fun z4 => bindO (pureO (.load 3 true (.c z4))) (fun z5 => bindO (callO B .cl (nth z2.1 1) [z5])
    (fun z6 => iteP z6 (bindO (some (nth z2.1 3, z2.2)) (fun z7 => some (.inr z7))) (bindO (pureO (.bin .add .num true (.c (nth z2.1 3)) (.c (.int .i64 1)))) (fun z8 => some (.inl
    ([nth z2.1 0, nth z2.1 1, nth z2.1 2, z8], z2.2)))))))) (bindO (some (.int .i64 (-1), z2.2)) (fun z9 => some (.inr z9))))) ([x0, x1, z1, .int .i64 0], e))) := by kernel_rfl
end Go.Ab

/-
  Shape: what is taken by contract, the machine, and the closed call of all its laws.
-/
namespace Go.Ab.Shape
open Go Go.Ab

/-! ### What is taken as it is told -/

def spAs (σ : Nm → Option Ob) : List PV → Option Out
  | [.nilI, .iface p (.ref _ o)] => if p = 74 ∧ o = 0 then some { v := .bool false } else none
  | [.iface t x, .iface p (.ref nm o)] => match σ nm with
    | some (.cells ty cs) => if p = 74 ∧ o = 0 ∧ t = 72 ∧ cs.length = 1 ∧ okCells x 1 = true then some { v := .bool true, upd := some (nm, .cells ty x.cells) } else none
    | _ => none
  | _ => none

def countB (c : UInt8) : List UInt8 → Nat
  | [] => 0
  | x :: xs => (if x = c then 1 else 0) + countB c xs

def spCount : List PV → Option Out
  | [.str s, .str [c]] => some { v := .int .i64 (countB c s : Nat) }
  | _ => none

def spGrow : List PV → Option Out
  | [.nilS, .int .i64 n] => if 0 ≤ n ∧ n ≤ 1000000 then some { v := .arr (0, 0) 1 0 0, new := [.arr 1 0 []] } else none
  | _ => none

def spCheck (σ : Nm → Option Ob) : List PV → Option Out
  | [.ref n 0] => match σ n with
    | some (.cells 81 [.nilP, x]) => some { v := .tup [], upd := some (n, .cells 81 [.ref n 0, x]) }
    | some (.cells 81 [.ref n' 0, _]) => if n' = n then some { v := .tup [] } else none
    | _ => none
  | _ => none

def spStr (σ : Nm → Option Ob) : List PV → Option Out
  | [.ref n 0] => match σ n with
    | some (.cells 81 [_, .nilS]) => some { v := .str [] }
    | some (.cells 81 [_, .arr n' 1 0 k]) => match σ n' with
      | some (.arr 1 5 xs) => match bytesOf (xs.take k) with
        | some s => if n' ≠ n ∧ 0 < k ∧ k ≤ xs.length ∧ k ≤ mostLen then some { v := .str s, upd := some (n', dead), kill := some n' } else none
        | none => none
      | _ => none
    | _ => none
  | _ => none

def sp0 (g : FuncId) (σ : Nm → Option Ob) (vs : List PV) : Option Out :=
  if g = 64 then spAs σ vs
  else if g = 95 then spCount vs
  else if g = 90 then spGrow vs
  else if g = 87 then spCheck σ vs
  else if g = 74 then spStr σ vs
  else none

noncomputable def B0 : KB := { sp := sp0, L := limCall sp0 tab0, I := limIo sp0 tab0, isIo := ioFlag tab0 }

theorem shown_eval : evalFn sp0 tab0 60 Unit noHandler 0 11 [] () = some (.bool true, [], ()) := by kernel_rfl
end Go.Ab.Shape

/-
  Shape: calls of the machine.
-/
namespace Go.Ab.Shape
open Go Go.Ab

theorem sp_none {g : FuncId} (h : g ≠ 64 ∧ g ≠ 95 ∧ g ≠ 90 ∧ g ≠ 87 ∧ g ≠ 74) (σ : Nm → Option Ob) (vs : List PV) : sp0 g σ vs = none := by
  unfold sp0
  rw [if_neg h.1, if_neg h.2.1, if_neg h.2.2.1, if_neg h.2.2.2.1, if_neg h.2.2.2.2]

theorem no_ref {n : Nm} {o : Nat} {vs : List PV} (hv : okVL vs = true) (hm : .ref n o ∈ vs) : False := by
  have := okVL_iff.1 hv _ hm
  simp [okV] at this

theorem io_flag : ∀ g, (iof0 g).isSome = ioFlag tab0 g := by
  intro g
  unfold iof0 ioFlag
  split
  · rfl
  · rfl
  · rename_i h1 h2
    split
    · rename_i fn ht
      unfold tab0 at ht
      split at ht
      all_goals first | (exact (h1 rfl).elim) | (exact (h2 rfl).elim) | (cases ht; done) | (cases ht; rfl)
    · rfl

theorem cfg_ok (d : Nat → RSh) : CfgOK (cfg0 B0 d) tab0 where
  L := rfl
  I := rfl
  isIo := rfl
  ioF g := io_flag g
  ioP g P h := by
    simp only [cfg0, iof0] at h
    split at h
    · cases h; exact ⟨fn71, rfl, by decide, by decide, by decide⟩
    · cases h; exact ⟨fn81, rfl, by decide, by decide, by decide⟩
    · cases h
  spF g h σ vs := by
    simp only [cfg0, Bool.or_eq_false_iff, beq_eq_false_iff_ne] at h
    exact sp_none ⟨h.1.1.1.1, h.1.1.1.2, h.1.1.2, h.1.2, h.2⟩ σ vs
  loc g σ vs hv := by
    show sp0 g σ vs = sp0 g (fun _ => none) vs
    unfold sp0
    split
    · unfold spAs
      split
      · rfl
      · exact absurd (okVL_iff.1 hv _ (List.mem_cons_of_mem _ List.mem_cons_self)) (by simp [okV])
      · rfl
    split
    · rfl
    split
    · rfl
    split
    · unfold spCheck
      split
      · exact (no_ref hv List.mem_cons_self).elim
      · rfl
    split
    · unfold spStr
      split
      · exact (no_ref hv List.mem_cons_self).elim
      · rfl
    rfl
  asOk g p t n h σ nm ty cs h1 h2 := by
    simp only [cfg0] at h
    split at h
    · rename_i hc
      obtain ⟨rfl, rfl⟩ := hc
      cases h
      refine ⟨rfl, fun x hx => ?_⟩
      show sp0 64 σ [.iface 72 x, .iface 74 (.ref nm 0)] = some { v := .bool true, upd := some (nm, .cells ty x.cells) }
      unfold sp0 spAs
      simp only [if_true, h1, h2, hx, and_self]
    · cases h

/-- A call, by what its function is. -/
theorem call {d : Nat → RSh} {g : FuncId} {fn : RFn} {sh : RSh} {args : List PV} {u : PV} (ht : tab0 g = some fn) (hg : g ≠ 64 ∧ g ≠ 95 ∧ g ≠ 90 ∧ g ≠ 87 ∧ g ≠ 74) (ha : okVL args = true) (hl : Nat.ble args.length fn.nt = true)
    (hr : runK (cfg0 B0 d) fn sh noHandler 0 (args.map KV.cv) () = some (u, ())) (hio : fn.io = false := by rfl) : callO B0 sh (.fn g []) args = some u := by
  refine call_of_run (cfg_ok d) ht (cap := []) (by simpa using ha) (by simpa using Nat.le_of_ble_eq_true hl) (sp_none hg (fun _ => none) _) ?_ hio
  simpa using hr

/-- A call of what has no names, by the machine itself. -/
theorem call_eval {g : FuncId} {n : Nat} {u : PV} (hg : g ≠ 64 ∧ g ≠ 95 ∧ g ≠ 90 ∧ g ≠ 87 ∧ g ≠ 74) (h : evalFn sp0 tab0 n Unit noHandler 0 g [] () = some (u, [], ())) (hu : okV u = true) (hio : ioFlag tab0 g = false) : callO B0 .cl (.fn g []) [] = some u := by
  obtain ⟨e2, _, h2⟩ := evalFn_par n Unit Unit (fun _ _ => True) noHandler (fun _ => noHandler) (fun _ _ _ _ _ _ _ h => by cases h) 0 g [] () () trivial _ _ _ h
  have hL : B0.L Unit noHandler 0 g [] () = some (u, [], ()) := lim_of h2
  have hI : B0.isIo g = false := hio
  have hs : B0.sp g (fun _ => none) [] = none := sp_none hg _ _
  unfold callO
  simp [spO, hs, hI, hL, convO, convR, hu, chkO]

theorem shown_run : callO B0 .cl (.fn 11 []) [] = some (.bool true) := call_eval (by decide) shown_eval rfl rfl
end Go.Ab.Shape

/-
  Shape: the library's functions that are taken by contract: (*strings.Builder).copyCheck and String, strings.Count of one byte, slices.Grow of nil.
-/
namespace Go.Proofs.AbQ
open Go.RowKit Go.Proofs

theorem lies81 : liesAt Tryz.prog Tryz.prog.depth 81 (2 / Tryz.prog.cellsOf 81) 0 81 1 = true := by kernel_rfl
theorem info81' : (Tryz.prog.info? 81).map (·.size) = some 2 := by kernel_rfl
theorem info81 : ∃ j, Tryz.prog.info? 81 = some j ∧ j.size = 2 := Option.map_eq_some_iff.1 info81'
theorem cells5 : Tryz.prog.cellsOf 5 = 1 := by kernel_rfl
theorem info2' : (Tryz.prog.info? 2).map (fun i => (i.zero, i.size, i.bytes)) = some (some (.int .i64 0), 1, 8) := by kernel_rfl
theorem info2 : ∃ i z, Tryz.prog.info? 2 = some i ∧ i.zero = some z ∧ i.size = 1 ∧ i.bytes = 8 ∧ z = .int .i64 0 := by
  obtain ⟨i, h1, h2⟩ := Option.map_eq_some_iff.1 info2'
  simp only [Prod.mk.injEq] at h2
  exact ⟨i, _, h1, h2.1, h2.2.1, h2.2.2, rfl⟩

set_option maxHeartbeats 1000000 in
set_option maxRecDepth 100000 in
theorem check_used (b : Nat) (w : World) (h0 : w.cell? ⟨b, 0, none⟩ = some (.pointer (some ⟨b, 0, none⟩))) :
    Calls Tryz.prog 87 #[.pointer (some ⟨b, 0, none⟩)] w fun e w' => e = .returned (.tuple #[]) ∧ w' = w := by
  obtain ⟨j, hj, _⟩ := info81
  go_enter Tryz.func87, Tryz.ntmps87
  go_wp2
  rw [Lib.run_neq_ptr_same w _ Tryz.underlying78 hj]
  go_wp2
  go_end0
  exact ⟨rfl, rfl⟩

set_option maxHeartbeats 1000000 in
set_option maxRecDepth 100000 in
theorem check_fresh (b : Nat) (w : World) (h0 : w.cell? ⟨b, 0, none⟩ = some (.pointer none)) (hsh : w.shape? b = some (81, 2)) (hfz : w.frozen? ⟨b, 0, none⟩ = false) :
    Calls Tryz.prog 87 #[.pointer (some ⟨b, 0, none⟩)] w fun e w' => e = .returned (.tuple #[]) ∧ w' = w.setCell ⟨b, 0, none⟩ (.pointer (some ⟨b, 0, none⟩)) := by
  obtain ⟨j, hj, hjs⟩ := info81
  go_enter Tryz.func87, Tryz.ntmps87
  go_wp2
  rw [Lib.run_to_unsafe w ⟨b, 0, none⟩ Tryz.underlying78 Tryz.underlying94 hj (by rw [hjs]; decide) hsh (Nat.zero_lt_succ 1)]
  simp only [Result.andThen]
  rw [Oper.upon_value]
  go_wp2
  rw [run_callFunc_extern Tryz.func94 (by kernel_rfl) (by kernel_rfl) (by kernel_rfl) (e := Extern.AbiNoEscape.same) (by kernel_rfl)]
  rw [Lib.run_noEscape]
  simp only [Result.andThen]
  rw [Oper.upon_value]
  go_wp2
  rw [Lib.run_from_unsafe w ⟨b, 0, none⟩ Tryz.underlying94 Tryz.underlying78 hj hsh lies81]
  simp only [Result.andThen]
  rw [Oper.upon_value]
  go_wp2
  go_end0
  exact ⟨rfl, rfl⟩

set_option maxHeartbeats 1000000 in
set_option maxRecDepth 100000 in
theorem count_one (s : ByteArray) (c : UInt8) (w : World) :
    Calls Tryz.prog 95 #[.string s, .string ⟨#[c]⟩] w fun e w' => e = .returned (.int .i64 (Lib.countByte s.data.toList c)) ∧ w' = w := by
  go_enter Tryz.func95, Tryz.ntmps95
  go_wp2
  rw [run_callFunc_extern Tryz.func101 (by kernel_rfl) (by kernel_rfl) (by kernel_rfl) (e := Extern.BytealgCount.count) (by kernel_rfl), Lib.run_countString]
  simp only [Result.andThen]
  rw [Oper.upon_value]
  go_wp2
  go_ret
  exact ⟨rfl, rfl⟩

set_option maxHeartbeats 1000000 in
set_option maxRecDepth 100000 in
/-- String of a builder that holds a byte. -/
theorem string_some (b g cap : Nat) (p : Value) (cur : Array Value) (l : List UInt8) (w : World) (hbk : w.heap[b]? = some (.cells #[p, .slice (some ⟨g, 0, none⟩) l.length cap] 81 (0, 0)))
    (hg : w.heap[g]? = some (.cells cur 5 (0, 0))) (h0 : l ≠ []) (hcap : l.length ≤ cap) (hcs : l.length ≤ cur.size) (h63 : l.length ≤ 9223372036854775807) (hl : ∀ (j : Nat) (x : UInt8), l[j]? = some x → cur[j]? = some (Value.int .u8 (x.toNat : Int))) :
    Calls Tryz.prog 74 #[.pointer (some ⟨b, 0, none⟩)] w fun e w' => e = .returned (.string ⟨l.toArray⟩) ∧ w' = w.drew.freeze ⟨g, 0, none⟩ l.length := by
  have hl0 : l.length ≠ 0 := by simpa using h0
  have c1 : w.drew.cell? ⟨b, 1, none⟩ = some (.slice (some ⟨g, 0, none⟩) l.length cap) := by
    have : w.drew.heap[b]? = some (.cells #[p, .slice (some ⟨g, 0, none⟩) l.length cap] 81 (0, 0)) := hbk
    rw [Lib.cell_of_heap this]; rfl
  have hSD : (Builtin.unsafeSliceData_ #[79] 108 #[.slice (some ⟨g, 0, none⟩) l.length cap]).run Tryz.prog w.drew = .ok (.pointer (some ⟨g, 0, none⟩)) w.drew :=
    Lib.run_unsafeSliceData_row _ _ _ _ _ _ (by omega)
  have hUS : (Builtin.unsafeString_ #[108, 3] 9 #[.pointer (some ⟨g, 0, none⟩), .int .i64 l.length]).run Tryz.prog w.drew = .ok (.string ⟨l.toArray⟩) (w.drew.freeze ⟨g, 0, none⟩ l.length) := by
    refine Lib.run_unsafeString_row w.drew 108 3 9 5 Tryz.underlying108 cells5 g cur.size (by have hg' : w.drew.heap[g]? = some (.cells cur 5 (0, 0)) := hg; simp [World.shape?, hg']) l h0 hcs h63 ?_
    intro j x hx
    have hg' : w.drew.heap[g]? = some (.cells cur 5 (0, 0)) := hg
    have e : ((⟨g, 0, none⟩ : Addr).add j) = ⟨g, j, none⟩ := by cases j <;> simp [Addr.add]
    rw [e, Lib.cell_of_heap hg']
    exact hl j x hx
  have mixed : Tryz.prog.follows .mixedOrders = true := by kernel_rfl
  go_enter Tryz.func74, Tryz.ntmps74
  go_wp2
  go_region_o
  all_goals (go_wp2; go_ret; exact ⟨rfl, rfl⟩)

set_option maxHeartbeats 1000000 in
set_option maxRecDepth 100000 in
/-- String of a builder that has no list yet. -/
theorem string_nil (b : Nat) (p : Value) (w : World) (hbk : w.heap[b]? = some (.cells #[p, .slice none 0 0] 81 (0, 0))) :
    Calls Tryz.prog 74 #[.pointer (some ⟨b, 0, none⟩)] w fun e w' => e = .returned (.string ⟨#[]⟩) ∧ w' = w.drew := by
  have hUS : ∀ W q, (Builtin.unsafeString_ #[108, 3] 9 #[.pointer q, .int .i64 0]).run Tryz.prog W = .ok (.string .empty) W := fun W q => Lib.run_unsafeString_none W _ _ _ q
  have c1 : w.drew.cell? ⟨b, 1, none⟩ = some (.slice none 0 0) := by
    have : w.drew.heap[b]? = some (.cells #[p, .slice none 0 0] 81 (0, 0)) := hbk
    rw [Lib.cell_of_heap this]; rfl
  have hSD : (Builtin.unsafeSliceData_ #[79] 108 #[.slice none 0 0]).run Tryz.prog w.drew = .ok (.pointer none) w.drew := rfl
  have mixed : Tryz.prog.follows .mixedOrders = true := by kernel_rfl
  go_enter Tryz.func74, Tryz.ntmps74
  go_wp2
  go_region_o
  all_goals (go_wp2; go_ret; exact ⟨rfl, rfl⟩)

set_option maxHeartbeats 1000000 in
set_option maxRecDepth 100000 in
/-- slices.Grow of nil by nothing. -/
theorem grow_zero (w : World) : Calls Tryz.prog 90 #[.slice none 0 0, .int .i64 0] w fun e w' => e = .returned (.slice none 0 0) ∧ w' = w := by
  go_enter Tryz.func90, Tryz.ntmps90
  go_wp2
  go_ret
  exact ⟨rfl, rfl⟩

set_option maxHeartbeats 4000000 in
set_option maxRecDepth 100000 in
/-- slices.Grow of nil. -/
theorem grow_some (n : Nat) (w : World) (h0 : 0 < n) (hn : n ≤ 1000000) : Calls Tryz.prog 90 #[.slice none 0 0, .int .i64 n] w fun e w' =>
    ∃ G row, e = .returned (.slice (some ⟨w.heap.size, 0, none⟩) 0 G) ∧ G ≤ row.size ∧ w' = w.drew.alloc (.cells row 2) := by
  obtain ⟨i0, z, hi0, hz0, hs0, hb0, rfl⟩ := info2
  have h1 : ¬ ((n : Int) < 0) := by omega
  have h3 : wrap64 ((n : Int) - 0) = (n : Int) := by unfold wrap64; omega
  have h4 : (n : Int) > 0 := by omega
  have hrz : ∀ ty, (Builtin.append_ #[22, 3] ty #[.slice none 0 0, .int .i64 (n : Int)]).run Tryz.prog w =
      .ok (.slice (some ⟨w.heap.size, 0, none⟩) n (grownCap w n 0 2)) (w.drew.alloc (.cells ((#[] : Array Value) ++ Builtin.zeroCells (Value.int .i64 0).cells n ++ Builtin.zeroCells (Value.int .i64 0).cells (grownCap w n 0 2 - n)) 2)) := fun ty => by
    have h := Lib.run_append_grow_zeros (P := Tryz.prog) w 22 3 ty 2 i0 (.int .i64 0) .i64 .i64 Tryz.underlying22 Tryz.underlying3 hi0 hz0 none 0 0 [] (by rw [hs0]; exact run_firstCells_none w.drew 1 0 0 0) n h0 (by omega) (by omega) (by omega) (by rw [hb0]; omega)
      (growslice_fits (by omega) (by rw [hb0]; omega))
    rw [Nat.zero_add] at h
    exact h
  have hGn : n ≤ grownCap w n 0 2 := grownCap_ge w _ _ _
  have hG63 : grownCap w n 0 2 ≤ 9223372036854775807 := by
    have := grownCap_le_maxLen w n 0 2 (by unfold maxLen; omega)
    unfold maxLen at this
    omega
  obtain ⟨row, hrow⟩ : ∃ row, row = ((#[] : Array Value) ++ Builtin.zeroCells (Value.int .i64 0).cells n ++ Builtin.zeroCells (Value.int .i64 0).cells (grownCap w n 0 2 - n)) := ⟨_, rfl⟩
  have hsz : grownCap w n 0 2 ≤ row.size := by
    rw [hrow]
    simp [size_zeroCells, Value.cells]
    omega
  rw [← hrow] at hrz
  obtain ⟨G, hG⟩ : ∃ G, G = grownCap w n 0 2 := ⟨_, rfl⟩
  rw [← hG] at hrz hGn hG63 hsz
  clear hrow hG
  go_enter Tryz.func90, Tryz.ntmps90
  go_wp2_with (at_builtin; refine Lib.wpList_append_run _ rfl _ _ _ _ rfl _ _ rfl rfl _ _ (hrz _) ?_)
  all_goals (go_ret; exact ⟨G, rfl, row, hsz, rfl⟩)
end Go.Proofs.AbQ

/-
  Place: errors.As at the target that the program has (a variable of the type of its own errors).
-/
namespace Go.Proofs.AbAsZ
open Go.RowKit Go.Extern.Stop Go.Stop Go.Extern

/-- errors.As(nil, target). -/
theorem as_nil (t : Value) (w : World) :
    Calls Tryz.prog 64 #[.nilIface, t] w fun e w' => e = .returned (.bool false) ∧ w' = w := by
  go_enter Tryz.func64, Tryz.ntmps64
  go_wp2
  go_ret
  exact ⟨rfl, rfl⟩

/-! ### CLOSED FACTS ON THE MODEL's ENTRIES FOR internal/reflectlite, at this program's types: 25: *p.E · 27: **p.E · 23: error · 45: reflectlite's rtype · 1: how many package-level variables the dump has -/
theorem Tryz.valueOf27 (t : Addr) (w : World) : (ReflectliteValue.unpack (.iface 74 (.pointer (some t)))).run Tryz.prog w
    = .ok (.agg #[.pointer (some ⟨7, 74, none⟩), .pointer (some ⟨w.heap.size, 0, none⟩), .int .u64 150]) (w.alloc (.cells #[.pointer (some t)] 74)) := by kernel_rfl
theorem Tryz.type27 (a : Addr) (w : World) : (ReflectliteValue.methodAny (ReflectliteValue.valueError "reflectlite.Value.Type" 0) (fun t _ _ _ => ReflectliteType.toType t) #[.agg #[.pointer (some ⟨7, 74, none⟩), .pointer (some a), .int .u64 150]]).run Tryz.prog w
    = .ok (.iface 112 (.agg #[.pointer (some ⟨7, 74, none⟩)])) w := by kernel_rfl
theorem Tryz.methodKind (h : Value) (w : World) : (Go.method 283 112 (.agg #[h]) "Kind").run Tryz.prog w = .ok (137, h) w := by kernel_rfl
theorem Tryz.kind27 (w : World) : ((ReflectliteType.abiMethod fun t => Functor.map (fun a : Nat => Value.int IntKind.u8 (a : Int)) (Rtype.kind t)) #[.pointer (some ⟨7, 74, none⟩)]).run Tryz.prog w = .ok (.int .u8 22) w := by kernel_rfl
theorem Tryz.kind25 (w : World) : ((ReflectliteType.abiMethod fun t => Functor.map (fun a : Nat => Value.int IntKind.u8 (a : Int)) (Rtype.kind t)) #[.pointer (some ⟨7, 72, none⟩)]).run Tryz.prog w = .ok (.int .u8 25) w := by kernel_rfl

/-! ### THE ENTRIES THAT READ OR WRITE MEMORY: laws with a premise on the cell (after Derived/Lib/ReflectliteSlice.lean's manner: each unfolding a lemma of its own, by rfl) -/
theorem rlm (z : Sem Value) (f : TypeId → Addr → Nat → Nat → Sem Value) (v : Value) :
    ReflectliteValue.method z f #[v] = (do match ← ReflectliteValue.parts v with | none => z | some (t, a, fl) => f t a fl (fl % 32)) := rfl
theorem Tryz.parts27 (a : Addr) (w : World) : (ReflectliteValue.parts (.agg #[.pointer (some ⟨7, 74, none⟩), .pointer (some a), .int .u64 150])).run Tryz.prog w = .ok (some (74, a, 150)) w := by kernel_rfl
/-- (Value).IsNil at the Value of a **p.E that is not nil. -/
theorem Tryz.isNil27 (a p : Addr) (W : World) (ha : W.cell? a = some (.pointer (some p))) :
    (ReflectliteValue.method (ReflectliteValue.valueError "reflectlite.Value.IsNil" 0) ReflectliteValue.isNil #[.agg #[.pointer (some ⟨7, 74, none⟩), .pointer (some a), .int .u64 150]]).run Tryz.prog W = .ok (.bool false) W := by
  rw [rlm]
  simp only [Sem.run_bind, Tryz.parts27, Result.andThen]
  simp [ReflectliteValue.isNil, loadVar, isAgg, underlying, Tryz.underlying74, ha, Result.andThen]

theorem Tryz.methodElem (h : Value) (w : World) : (Go.method 283 112 (.agg #[h]) "Elem").run Tryz.prog w = .ok (148, .agg #[h]) w := by kernel_rfl
theorem Tryz.methodImplements (h : Value) (w : World) : (Go.method 283 112 (.agg #[h]) "Implements").run Tryz.prog w = .ok (149, .agg #[h]) w := by kernel_rfl
theorem Tryz.methodAssignableTo (h : Value) (w : World) : (Go.method 283 112 (.agg #[h]) "AssignableTo").run Tryz.prog w = .ok (146, .agg #[h]) w := by kernel_rfl
theorem Tryz.elem27 (w : World) : (ReflectliteType.method ReflectliteType.elem #[.agg #[.pointer (some ⟨7, 74, none⟩)]]).run Tryz.prog w = .ok (.iface 112 (.agg #[.pointer (some ⟨7, 72, none⟩)])) w := by kernel_rfl
theorem Tryz.implements25 (w : World) : (ReflectliteType.relation "Implements" ReflectliteType.implements_ #[.agg #[.pointer (some ⟨7, 72, none⟩)], .iface 112 (.agg #[.pointer (some ⟨7, 53, none⟩)])]).run Tryz.prog w = .ok (.bool true) w := by kernel_rfl
theorem Tryz.typeOf25 (v : Value) (w : World) : (ReflectliteType.typeOf #[.iface 72 v]).run Tryz.prog w = .ok (.iface 112 (.agg #[.pointer (some ⟨7, 72, none⟩)])) w := by kernel_rfl
theorem Tryz.assignable25 (w : World) : (ReflectliteType.relation "AssignableTo" ReflectliteType.assignableTo #[.agg #[.pointer (some ⟨7, 72, none⟩)], .iface 112 (.agg #[.pointer (some ⟨7, 72, none⟩)])]).run Tryz.prog w = .ok (.bool true) w := by kernel_rfl
theorem Tryz.valueOf25 (e : Value) (w : World) : (ReflectliteValue.unpack (.iface 72 (.agg #[e]))).run Tryz.prog w
    = .ok (.agg #[.pointer (some ⟨7, 72, none⟩), .pointer (some ⟨w.heap.size, 0, none⟩), .int .u64 153]) (w.alloc (.cells #[e] 72)) := by kernel_rfl

theorem Tryz.elemOf27 (w : World) : (Rtype.elem? 74).run Tryz.prog w = .ok (some 72) w := by kernel_rfl
theorem Tryz.mk25 (p : Addr) (w : World) : (ReflectliteValue.mk 72 p ReflectliteValue.flagAddr).run Tryz.prog w = .ok (.agg #[.pointer (some ⟨7, 72, none⟩), .pointer (some p), .int .u64 409]) w := by kernel_rfl
/-- (Value).Elem at the Value of a **p.E that is not nil: the Value of the *p.E variable that it points to, addressable. -/
theorem Tryz.elemV27 (a p : Addr) (W : World) (ha : W.cell? a = some (.pointer (some p))) :
    (ReflectliteValue.method (ReflectliteValue.valueError "reflectlite.Value.Elem" 0) ReflectliteValue.elem #[.agg #[.pointer (some ⟨7, 74, none⟩), .pointer (some a), .int .u64 150]]).run Tryz.prog W
      = .ok (.agg #[.pointer (some ⟨7, 72, none⟩), .pointer (some p), .int .u64 409]) W := by
  rw [rlm]
  simp only [Sem.run_bind, Tryz.parts27, Result.andThen]
  simp [ReflectliteValue.elem, loadVar, isAgg, underlying, Tryz.underlying74, ha, Result.andThen, Tryz.elemOf27, Tryz.mk25]
theorem rls (v x : Value) : ReflectliteValue.set #[v, x] = (do
    let (some (dst, a, fl), some (src, b, _)) := (← ReflectliteValue.parts v, ← ReflectliteValue.parts x)
      | unsupported (.noEntry "extern/(internal/reflectlite.Value).Set.zeroValue")
    if fl / ReflectliteValue.flagAddr % 2 == 0 then unsupported (.noEntry "extern/(internal/reflectlite.Value).Set.unaddressable")
    let val ← loadVar src b
    if ← Rtype.directlyAssignable dst src then storeVar dst a val
    else if ← Rtype.implements dst src then
      if (← Rtype.kind src) == 20 then
        match val with
        | .nilIface => unsupported (.noEntry "extern/reflectlite: a nil value of one interface type handed on as a value of another")
        | _ => storeVar dst a val
      else storeVar dst a (.iface src val)
    else panicString ("reflectlite.Set: value of type " ++ (← Rtype.spelt src) ++ " is not assignable to type " ++ (← Rtype.spelt dst))
    pure (.tuple #[])) := rfl
theorem Tryz.parts25a (a : Addr) (w : World) : (ReflectliteValue.parts (.agg #[.pointer (some ⟨7, 72, none⟩), .pointer (some a), .int .u64 409])).run Tryz.prog w = .ok (some (72, a, 409)) w := by kernel_rfl
theorem Tryz.parts25 (a : Addr) (w : World) : (ReflectliteValue.parts (.agg #[.pointer (some ⟨7, 72, none⟩), .pointer (some a), .int .u64 153])).run Tryz.prog w = .ok (some (72, a, 153)) w := by kernel_rfl
theorem Tryz.direct25 (w : World) : (Rtype.directlyAssignable 72 72).run Tryz.prog w = .ok true w := by kernel_rfl
theorem Tryz.size25 (w : World) : (sizeOf 72).run Tryz.prog w = .ok 1 w := by kernel_rfl



/-- (Value).Set: the variable at 'ta' gets what the Value's own variable 'b' holds. -/
theorem Tryz.set25 (ta b : Addr) (e old : Value) (h1 : e.oneCell' = true) (W : World) (hb : W.cell? b = some e) (ht : W.cell? ta = some old) (hf : W.frozen? ta = false) :
    (ReflectliteValue.set #[.agg #[.pointer (some ⟨7, 72, none⟩), .pointer (some ta), .int .u64 409], .agg #[.pointer (some ⟨7, 72, none⟩), .pointer (some b), .int .u64 153]]).run Tryz.prog W
      = .ok (.tuple #[]) (W.setCell ta e) := by
  rw [rls]
  simp only [Sem.run_bind, Tryz.parts25a, Tryz.parts25, Result.andThen]
  simp [ReflectliteValue.flagAddr, loadVar, Tryz.isAgg72, loadCells, loadCellsFrom, hb, Result.andThen, Tryz.direct25, storeVar, Value.cells, storeCells, Addr.add]
  rw [run_store Tryz.prog W ta _ _ h1]
  simp [ht, hf]

theorem valueOf51g (v : Value) (w : World) : (ReflectliteValue.unpack (.iface 72 v)).run Tryz.prog w
    = .ok (.agg #[.pointer (some ⟨7, 72, none⟩), .pointer (some ⟨w.heap.size, 0, none⟩), .int .u64 153]) (w.alloc (.cells v.cells 72)) := by kernel_rfl
theorem valueOf51 (v n : Value) (hv : v.cells = #[n]) (w : World) : (ReflectliteValue.unpack (.iface 72 v)).run Tryz.prog w
    = .ok (.agg #[.pointer (some ⟨7, 72, none⟩), .pointer (some ⟨w.heap.size, 0, none⟩), .int .u64 153]) (w.alloc (.cells #[n] 72)) := by rw [valueOf51g, hv]

set_option maxHeartbeats 8000000 in
set_option maxRecDepth 100000 in
theorem as_hit (v n : Value) (hv : v.cells = #[n]) (h1 : n.oneCell' = true) (t : Addr) (old : Value) (w : World) (hg : w.cell? ⟨0, 0, none⟩ = some (.iface 112 (.agg #[.pointer (some ⟨7, 53, none⟩)]))) (ht0 : w.cell? t = some old) (hf0 : w.frozen? t = false) :
    Calls Tryz.prog 64 #[.iface 72 v, .iface 74 (.pointer (some t))] w fun ev w' => ev = .returned (.bool true) ∧ w' = ((((w.alloc (.cells #[.pointer (some t)] 74)).alloc (.cells #[.pointer (some ⟨7, 74, none⟩), .pointer (some ⟨w.heap.size, 0, none⟩), .int .u64 150] 97)).alloc (.cells #[.pointer (some ⟨7, 74, none⟩), .pointer (some ⟨w.heap.size, 0, none⟩), .int .u64 150] 97)).alloc (.cells #[n] 72)).setCell t n := by
  have h6 := @run_callFunc_extern Tryz.prog 83 _ (fun args => ReflectliteValue.unpack (args.getD 0 (.tuple #[]))) Tryz.func83 (by kernel_rfl) (by kernel_rfl) (by kernel_rfl) (by kernel_rfl)
  have h7 := @run_callFunc_extern Tryz.prog 84 _ (ReflectliteValue.methodAny (ReflectliteValue.valueError "reflectlite.Value.Type" 0) (fun t _ _ _ => ReflectliteType.toType t)) Tryz.func84 (by kernel_rfl) (by kernel_rfl) (by kernel_rfl) (by kernel_rfl)
  have h8 := @run_callFunc_extern Tryz.prog 85 _ (ReflectliteValue.method (ReflectliteValue.valueError "reflectlite.Value.IsNil" 0) ReflectliteValue.isNil) Tryz.func85 (by kernel_rfl) (by kernel_rfl) (by kernel_rfl) (by kernel_rfl)
  have h27 := @run_callFunc_extern Tryz.prog 137 _ (ReflectliteType.abiMethod fun t => do pure (.int .u8 (← Rtype.kind t))) Tryz.func137 (by kernel_rfl) (by kernel_rfl) (by kernel_rfl) (by kernel_rfl)
  have h37 := @run_callFunc_extern Tryz.prog 148 _ (ReflectliteType.method ReflectliteType.elem) Tryz.func148 (by kernel_rfl) (by kernel_rfl) (by kernel_rfl) (by kernel_rfl)
  have h38 := @run_callFunc_extern Tryz.prog 149 _ (ReflectliteType.relation "Implements" ReflectliteType.implements_) Tryz.func149 (by kernel_rfl) (by kernel_rfl) (by kernel_rfl) (by kernel_rfl)
  have h10 := @run_callFunc_extern Tryz.prog 91 _ ReflectliteType.typeOf Tryz.func91 (by kernel_rfl) (by kernel_rfl) (by kernel_rfl) (by kernel_rfl)
  have h35 := @run_callFunc_extern Tryz.prog 146 _ (ReflectliteType.relation "AssignableTo" ReflectliteType.assignableTo) Tryz.func146 (by kernel_rfl) (by kernel_rfl) (by kernel_rfl) (by kernel_rfl)
  have h11 := @run_callFunc_extern Tryz.prog 92 _ (ReflectliteValue.method (ReflectliteValue.valueError "reflectlite.Value.Elem" 0) ReflectliteValue.elem) Tryz.func92 (by kernel_rfl) (by kernel_rfl) (by kernel_rfl) (by kernel_rfl)
  have h12 := @run_callFunc_extern Tryz.prog 93 _ ReflectliteValue.set Tryz.func93 (by kernel_rfl) (by kernel_rfl) (by kernel_rfl) (by kernel_rfl)
  have tO := Tryz.typeOf25
  have mA := Tryz.methodAssignableTo
  have a25 := Tryz.assignable25
  have v25 := valueOf51 v n hv
  have f6 := Tryz.valueOf27
  have f7 := Tryz.type27
  have mK := Tryz.methodKind
  have mE := Tryz.methodElem
  have mI := Tryz.methodImplements
  have k27 := Tryz.kind27
  have k25 := Tryz.kind25
  have e27 := Tryz.elem27
  have i25 := Tryz.implements25
  have n8 := Tryz.isNil27 ⟨w.heap.size, 0, none⟩ t ((w.alloc (.cells #[.pointer (some t)] 74)).alloc (.cells #[.pointer (some ⟨7, 74, none⟩), .pointer (some ⟨w.heap.size, 0, none⟩), .int .u64 150] 97)) (by simp)
  have hlt : 0 < w.heap.size := by
    rcases Nat.eq_zero_or_pos w.heap.size with h0 | h
    · simp [World.cell?, h0] at hg
    · exact h
  have hg2 : ((w.alloc (.cells #[.pointer (some t)] 74)).alloc (.cells #[.pointer (some ⟨7, 74, none⟩), .pointer (some ⟨w.heap.size, 0, none⟩), .int .u64 150] 97)).cell? ⟨0, 0, none⟩ = some (.iface 112 (.agg #[.pointer (some ⟨7, 53, none⟩)])) := by
    rw [World.cell?_alloc_lt _ _ ⟨0, 0, none⟩ (by simp), World.cell?_alloc_lt _ _ ⟨0, 0, none⟩ hlt]; exact hg
  have htl : t.block < w.heap.size := by
    rcases Nat.lt_or_ge t.block w.heap.size with h | h
    · exact h
    · simp [World.cell?, Array.getElem?_eq_none h] at ht0
  have el := Tryz.elemV27 ⟨w.heap.size, 0, none⟩ t (((w.alloc (.cells #[.pointer (some t)] 74)).alloc (.cells #[.pointer (some ⟨7, 74, none⟩), .pointer (some ⟨w.heap.size, 0, none⟩), .int .u64 150] 97)).alloc (.cells #[.pointer (some ⟨7, 74, none⟩), .pointer (some ⟨w.heap.size, 0, none⟩), .int .u64 150] 97)) (by rw [World.cell?_alloc_lt _ _ ⟨w.heap.size, 0, none⟩ (by simp; omega)]; simp)
  have st := Tryz.set25 t ⟨w.heap.size + 1 + 1 + 1, 0, none⟩ n old h1 ((((w.alloc (.cells #[.pointer (some t)] 74)).alloc (.cells #[.pointer (some ⟨7, 74, none⟩), .pointer (some ⟨w.heap.size, 0, none⟩), .int .u64 150] 97)).alloc (.cells #[.pointer (some ⟨7, 74, none⟩), .pointer (some ⟨w.heap.size, 0, none⟩), .int .u64 150] 97)).alloc (.cells #[n] 72))
    (by rw [World.cell?_alloc_at _ _ _ _ (by simp)]; rfl)
    (by rw [World.cell?_alloc_lt _ _ t (by simp; omega), World.cell?_alloc_lt _ _ t (by simp; omega), World.cell?_alloc_lt _ _ t (by simp; omega), World.cell?_alloc_lt _ _ t htl]; exact ht0)
    (by rw [World.frozen?_alloc_old _ _ t (by simp; omega), World.frozen?_alloc_old _ _ t (by simp; omega), World.frozen?_alloc_old _ _ t (by simp; omega), World.frozen?_alloc_old _ _ t (Nat.ne_of_lt htl)]; exact hf0)
  go_enter Tryz.func64, Tryz.ntmps64
  go_wp2
  refine wp_loop_rounds 1 ?_
  rw [rounds_succ]
  go_wp2
  go_ret
  exact ⟨rfl, rfl⟩
end Go.Proofs.AbAsZ

/-
  Shape: what is taken by contract is so.
-/
namespace Go.Ab.Shape
open Go Go.Ab Go.Proofs

/-- What the program's variables hold. -/
structure Vars (w : World) : Prop where
  et : w.cell? ⟨0, 0, none⟩ = some (.iface 112 (.agg #[.pointer (some ⟨7, 53, none⟩)]))

noncomputable def cx0 : Cx where
  P := Tryz.prog
  mixed := by kernel_rfl
  G := fun _ => none
  Wd I w := I 0 ∧ Vars w
  stab I I' w w' h h1 h2 _ := by
    obtain ⟨a, et⟩ := h
    exact ⟨h1 0 a, ⟨by rw [cell_of_heap (h2 0 a)]; exact et.et⟩⟩
  gl I w g cs _ h := by cases h

theorem enters64 : Enters cx0.P 64 := ⟨_, Tryz.func64, by rfl, by rfl⟩
theorem enters95 : Enters cx0.P 95 := ⟨_, Tryz.func95, by rfl, by rfl⟩
theorem enters90 : Enters cx0.P 90 := ⟨_, Tryz.func90, by rfl, by rfl⟩
theorem enters87 : Enters cx0.P 87 := ⟨_, Tryz.func87, by rfl, by rfl⟩
theorem enters74 : Enters cx0.P 74 := ⟨_, Tryz.func74, by rfl, by rfl⟩

theorem count_eq (c : UInt8) : ∀ s : List UInt8, countB c s = Lib.countByte s c
  | [] => rfl
  | x :: xs => by
    unfold countB
    rw [count_eq c xs]
    unfold Lib.countByte
    rw [List.count_cons]
    by_cases h : x = c
    · simp [h, Nat.add_comm]
    · simp [h]

theorem repL_bytes {w : World} {I : Nat → Prop} {lp : Nat → Option Nat} {L : Option Loc} : ∀ (xs : List PV) (vs : List Value) (s : List UInt8), RepL w I lp L xs vs → bytesOf xs = some s → ∀ (j : Nat) (x : UInt8), s[j]? = some x → vs[j]? = some (.int .u8 (x.toNat : Int))
  | [], _, s, _, h, j, x, hj => by cases h; simp at hj
  | p :: xs, _, s, h, hb, j, x, hj => by
    cases h with
    | cons _ v _ vs hv hs =>
      simp only [bytesOf] at hb
      split at hb
      · rename_i b bs h1 h2
        cases hb
        have hp : v = .int .u8 (b.toNat : Int) := by
          unfold byteOf at h1
          split at h1
          · rename_i n
            split at h1
            · rename_i hn
              cases h1
              rw [inv_int hv]
              congr 1
              simp
              omega
            · cases h1
          · cases h1
        cases j with
        | zero => simp at hj; subst hj; simp [hp]
        | succ j => simp at hj ⊢; exact repL_bytes xs vs bs hs h2 j x hj
      · cases hb

theorem bytesOf_len : ∀ (xs : List PV) (s : List UInt8), bytesOf xs = some s → s.length = xs.length
  | [], s, h => by cases h; rfl
  | p :: xs, s, h => by
    simp only [bytesOf] at h
    split at h
    · rename_i b bs h1 h2
      cases h
      simp [bytesOf_len xs bs h2]
    · cases h

theorem cells_flat : ∀ (xs : List PV) (s : List UInt8), bytesOf xs = some s → cellsL xs = xs
  | [], _, _ => rfl
  | p :: xs, s, h => by
    simp only [bytesOf] at h
    split at h
    · rename_i b bs h1 h2
      have hp : p.cells = [p] := by
        unfold byteOf at h1
        split at h1
        · rfl
        · cases h1
      simp [cellsL, hp, cells_flat xs bs h2]
    · cases h

theorem arr_two {c : Array Value} {a b : Value} (h : c.toList = [a, b]) : c = #[a, b] := by
  apply Array.toList_inj.1
  simpa using h

theorem freeze_other {W : World} {a : Addr} {n k : Nat} (h : k ≠ a.block) : (W.freeze a n).heap[k]? = W.heap[k]? := by
  unfold World.freeze
  split
  · rfl
  · simp [Array.getElem?_modify, Ne.symm h]

theorem sp_ok : SpOK cx0 sp0 := by
  intro g st vs out h
  unfold sp0 at h
  split at h
  · -- errors.As
    rename_i hg
    subst hg
    unfold spAs at h
    split at h
    · split at h
      · rename_i hp
        obtain ⟨rfl, rfl⟩ := hp
        cases h
        refine ⟨enters64, ?_⟩
        intro E w0 I0 F0 O0 Hd R e ds I F lp L tmv suf us w dst hs hf hu hd
        obtain ⟨u, v, rfl, h1, h2⟩ := repL2 hu
        rw [inv_nilI h1]
        refine callsIn_wide.2 ((Go.Proofs.AbAsZ.as_nil v w).mono ?_)
        rintro ev w' ⟨rfl, rfl⟩
        exact sp_pure hs hf (lawEnd_refl _) (.bool false)
      · cases h
    · split at h
      · rename_i t x p nm o _ ty cs hlk
        split at h
        · rename_i hp
          obtain ⟨rfl, rfl, rfl, hc1, hx1⟩ := hp
          cases h
          refine ⟨enters64, ?_⟩
          intro E w0 I0 F0 O0 Hd R e ds I F lp L tmv suf us w dst hs hf hu hd
          obtain ⟨u, v, rfl, h1, h2⟩ := repL2 hu
          obtain ⟨u', rfl, hx⟩ := inv_iface h1
          obtain ⟨v', rfl, hr⟩ := inv_iface h2
          obtain ⟨b, C, hL, rfl⟩ := inv_ref hr
          obtain ⟨q, hq, hob⟩ := hs.ob nm _ hlk
          rw [hL] at hq; cases hq
          obtain ⟨c, E', hb, hC, hone, hcs⟩ := hob
          unfold okCells at hx1
          simp only [Bool.and_eq_true, beq_iff_eq] at hx1
          obtain ⟨hu1, hu2⟩ := hx.cells hx1.1
          have len1 : u'.cells.size = 1 := by
            have := hu2.length
            simpa [hx1.2] using this.symm
          have lenc : c.size = 1 := by
            have := hcs.length
            simpa [hc1] using this.symm
          obtain ⟨n, hn⟩ : ∃ n, u'.cells = #[n] := arr_one len1
          obtain ⟨old, rfl⟩ : ∃ n, c = #[n] := arr_one lenc
          have hn1 : n.oneCell' = true := hu1 n (by simp [hn])
          have hbl : b < w.heap.size := (hf.lB nm b C hL).2.1
          refine callsIn_wide.2 ((Go.Proofs.AbAsZ.as_hit u' n hn hn1 ⟨b, 0, none⟩ old w hf.wd.2.et (by simp [World.cell?, hb]) (by simp [World.frozen?, hb])).mono ?_)
          rintro ev w' ⟨rfl, hw'⟩
          have hother : ∀ k, k < w.heap.size → k ≠ b → w'.heap[k]? = w.heap[k]? := fun k hk hkb => by
            subst hw'
            rw [Go.RowKit.Below.heap_setCell _ _ _ _ hkb, heap_alloc_lt _ _ (by simp; omega), heap_alloc_lt _ _ (by simp; omega), heap_alloc_lt _ _ (by simp; omega), heap_alloc_lt _ _ hk]
          have hself : w'.heap[b]? = some (.cells #[n] E' (0, 0)) := by
            subst hw'
            suffices key : ((((w.alloc (.cells #[.pointer (some ⟨b, 0, none⟩)] 74)).alloc (.cells #[.pointer (some ⟨7, 74, none⟩), .pointer (some ⟨w.heap.size, 0, none⟩), .int .u64 150] 97)).alloc (.cells #[.pointer (some ⟨7, 74, none⟩), .pointer (some ⟨w.heap.size, 0, none⟩), .int .u64 150] 97)).alloc (.cells #[n] 72)).heap[b]? = some (.cells #[old] E' (0, 0)) by
              have := setCell_same (o := 0) (n := n) key
              simpa using this
            rw [heap_alloc_lt _ _ (by simp; omega), heap_alloc_lt _ _ (by simp; omega), heap_alloc_lt _ _ (by simp; omega), heap_alloc_lt _ _ hbl]
            exact hb
          have hI : ∀ k, I k → w'.heap[k]? = w.heap[k]? := fun k hk => hother k (hf.sep.iB k hk) fun e => (hf.lB nm b C hL).2.2.1 (e ▸ hk)
          refine sp_turn hs hf hL (by subst hw'; rfl) (by subst hw'; rfl) (by subst hw'; rfl) (by subst hw'; rw [size_setCell]; simp; omega) hother ?_ (.bool true)
          exact ⟨#[n], E', hself, hC, ⟨fun v hv => by simp at hv; subst hv; exact hn1, hone.2⟩, RepL.mono (fun _ h => h) hI (fun _ _ h => h) (by rw [hn] at hu2; exact hu2)⟩
        · cases h
      · cases h
    · cases h
  split at h
  · -- strings.Count
    rename_i hg
    subst hg
    unfold spCount at h
    split at h
    · cases h
      refine ⟨enters95, ?_⟩
      intro E w0 I0 F0 O0 Hd R e ds I F lp L tmv suf us w dst hs hf hu hd
      obtain ⟨u, v, rfl, h1, h2⟩ := repL2 hu
      rw [inv_str h1, inv_str h2]
      refine callsIn_wide.2 ((Go.Proofs.AbQ.count_one _ _ w).mono ?_)
      rintro ev w' ⟨rfl, rfl⟩
      refine sp_pure hs hf (lawEnd_refl _) ?_
      rw [count_eq]
      exact .int _ _
    · cases h
  split at h
  · -- slices.Grow
    rename_i hg
    subst hg
    unfold spGrow at h
    split at h
    · rename_i n
      split at h
      · rename_i hn
        cases h
        refine ⟨enters90, ?_⟩
        intro E w0 I0 F0 O0 Hd R e ds I F lp L tmv suf us w dst hs hf hu hd
        obtain ⟨u, v, rfl, h1, h2⟩ := repL2 hu
        rw [inv_nilS h1, inv_int h2]
        obtain ⟨m, rfl⟩ : ∃ m : Nat, n = (m : Int) := ⟨n.toNat, by omega⟩
        have hv : (PV.arr (0, 0) 1 0 0).ren (renNew (dst.getD 0)) = .arr (dst.getD 0, 0) 1 0 0 := rfl
        by_cases hm : m = 0
        · subst hm
          refine callsIn_wide.2 ((Go.Proofs.AbQ.grow_zero w).mono ?_)
          rintro ev w' ⟨rfl, rfl⟩
          simp only [hv]
          exact sp_new hs hf hd (lawEnd_refl _) (p := none) (fun b C h => by cases h) (fun L' => ⟨1, 0, rfl⟩) (fun L' nm h => .arrN nm 1 h)
        · refine callsIn_wide.2 ((Go.Proofs.AbQ.grow_some m w (by omega) (by omega)).mono ?_)
          rintro ev w' ⟨G, row, rfl, hG, rfl⟩
          simp only [hv]
          have hle : LawEnd w (w.drew.alloc (.cells row 2)) := ⟨rfl, rfl, rfl, by simp, fun b hb => heap_alloc_lt w.drew _ hb⟩
          refine sp_new hs hf hd hle (p := some (w.heap.size, row.size)) (fun b C h => by cases h; exact ⟨Nat.le_refl _, by simp⟩)
            (fun L' => ⟨row, 2, alloc_heap_new' w.drew _, rfl, ⟨by simp, .inl rfl⟩, by simp, by simp [One], by simp; exact .nil⟩) (fun L' nm h => ?_)
          have := RepV.arr (w := w.drew.alloc (.cells row 2)) (I := I) (lp := lp) (L := L') nm 1 0 0 G w.heap.size row.size h (by simpa using hG) (Nat.zero_le _)
          simpa using this
      · cases h
    · cases h
  split at h
  · -- copyCheck
    rename_i hg
    subst hg
    unfold spCheck at h
    split at h
    · rename_i n
      split at h
      · rename_i x hlk
        cases h
        refine ⟨enters87, ?_⟩
        intro E w0 I0 F0 O0 Hd R e ds I F lp L tmv suf us w dst hs hf hu hd
        obtain ⟨u, rfl, hr⟩ := repL1 hu
        obtain ⟨b, C, hL, rfl⟩ := inv_ref hr
        obtain ⟨q, hq, hob⟩ := hs.ob n _ hlk
        rw [hL] at hq; cases hq
        obtain ⟨c, E', hb, hC, hone, hcs⟩ := hob
        obtain ⟨v0, v1, hc, r0, r1⟩ := repL2 hcs
        have hc := arr_two hc
        subst hc
        obtain rfl : E' = 81 := hone.2.resolve_left (by decide)
        rw [inv_nilP r0] at hb
        refine callsIn_wide.2 ((Go.Proofs.AbQ.check_fresh b w (by simp [World.cell?, hb]) (by simp [World.shape?, hb]) (by simp [World.frozen?, hb])).mono ?_)
        rintro ev w' ⟨rfl, rfl⟩
        have hself := setCell_same (o := 0) (n := .pointer (some ⟨b, 0, none⟩)) hb
        have hI : ∀ k, I k → (w.setCell ⟨b, 0, none⟩ (.pointer (some ⟨b, 0, none⟩))).heap[k]? = w.heap[k]? := fun k hk => Go.RowKit.Below.heap_setCell _ _ _ _ fun (e : k = b) => (hf.lB n b C hL).2.2.1 (e ▸ hk)
        refine sp_turn (w' := w.setCell ⟨b, 0, none⟩ (.pointer (some ⟨b, 0, none⟩))) hs hf hL rfl rfl rfl (by rw [size_setCell]; exact Nat.le_refl _) (fun k _ hk => Go.RowKit.Below.heap_setCell _ _ _ _ hk) ?_ (.tup [] #[] .nil)
        refine ⟨_, 81, hself, by simpa using hC, ⟨?_, .inr rfl⟩, ?_⟩
        · intro v hv
          simp at hv
          rcases hv with rfl | rfl
          · rfl
          · exact hone.1 _ (by simp)
        · simp
          exact .cons _ _ _ _ (.ref n 0 b C hL) (.cons _ _ _ _ (RepV.mono (fun _ h => h) hI (fun _ _ h => h) r1) .nil)
      · rename_i n' x hlk
        split at h
        · rename_i hn
          subst hn
          cases h
          refine ⟨enters87, ?_⟩
          intro E w0 I0 F0 O0 Hd R e ds I F lp L tmv suf us w dst hs hf hu hd
          obtain ⟨u, rfl, hr⟩ := repL1 hu
          obtain ⟨b, C, hL, rfl⟩ := inv_ref hr
          obtain ⟨q, hq, hob⟩ := hs.ob _ _ hlk
          rw [hL] at hq; cases hq
          obtain ⟨c, E', hb, hC, hone, hcs⟩ := hob
          obtain ⟨v0, v1, hc, r0, r1⟩ := repL2 hcs
          have hc := arr_two hc
          subst hc
          obtain ⟨b', C', hL', rfl⟩ := inv_ref r0
          rw [hL] at hL'; cases hL'
          refine callsIn_wide.2 ((Go.Proofs.AbQ.check_used b w (by simp [World.cell?, hb])).mono ?_)
          rintro ev w' ⟨rfl, rfl⟩
          exact sp_pure hs hf (lawEnd_refl _) (.tup [] #[] .nil)
        · cases h
      · cases h
    · cases h
  split at h
  · -- String
    rename_i hg
    subst hg
    unfold spStr at h
    split at h
    · rename_i n
      split at h
      · rename_i x hlk
        cases h
        refine ⟨enters74, ?_⟩
        intro E w0 I0 F0 O0 Hd R e ds I F lp L tmv suf us w dst hs hf hu hd
        obtain ⟨u, rfl, hr⟩ := repL1 hu
        obtain ⟨b, C, hL, rfl⟩ := inv_ref hr
        obtain ⟨q, hq, hob⟩ := hs.ob _ _ hlk
        rw [hL] at hq; cases hq
        obtain ⟨c, E', hb, hC, hone, hcs⟩ := hob
        obtain ⟨v0, v1, hc, r0, r1⟩ := repL2 hcs
        have hc := arr_two hc
        subst hc
        obtain rfl : E' = 81 := hone.2.resolve_left (by decide)
        rw [inv_nilS r1] at hb
        refine callsIn_wide.2 ((Go.Proofs.AbQ.string_nil b v0 w hb).mono ?_)
        rintro ev w' ⟨rfl, rfl⟩
        exact sp_pure (w' := w.drew) hs hf ⟨rfl, rfl, rfl, Nat.le_refl _, fun _ _ => rfl⟩ (.str [])
      · rename_i x n' k hlk
        split at h
        · rename_i xs hlk'
          split at h
          · rename_i s hs'
            split at h
            · rename_i hc0
              obtain ⟨hnn, hk0, hkl, hkm⟩ := hc0
              cases h
              refine ⟨enters74, ?_⟩
              intro E w0 I0 F0 O0 Hd R e ds I F lp L tmv suf us w dst hs hf hu hd
              obtain ⟨u, rfl, hr⟩ := repL1 hu
              obtain ⟨b, C, hL, rfl⟩ := inv_ref hr
              obtain ⟨q, hq, hob⟩ := hs.ob _ _ hlk
              rw [hL] at hq; cases hq
              obtain ⟨c, E', hb, hC, hone, hcs⟩ := hob
              obtain ⟨v0, v1, hc, r0, r1⟩ := repL2 hcs
              have hc := arr_two hc
              subst hc
              obtain rfl : E' = 81 := hone.2.resolve_left (by decide)
              obtain ⟨q', hq', hob'⟩ := hs.ob _ _ hlk'
              rcases inv_arr r1 with ⟨g, C', cap, hL', rfl, hC', hn⟩ | ⟨_, _, _, h0⟩
              · rw [hL'] at hq'; cases hq'
                obtain ⟨cur, E2, hg, hCg, hle, hkx, hone2, hrep⟩ := hob'
                obtain rfl : E2 = 5 := hle.2.resolve_left (by decide)
                have hlen := bytesOf_len _ _ hs'
                rw [List.length_take, Nat.min_eq_left hkl] at hlen
                have hrk : RepL w I lp none (xs.take k) (cur.toList.take k) := by
                  have h1 := hrep.take k
                  rw [show k = k * 1 by omega, ← cellsL_take hkx, cells_flat _ _ hs', List.take_take, Nat.min_eq_left (by omega)] at h1
                  simpa using h1
                have hbytes := repL_bytes _ _ _ hrk hs'
                have hcur : k ≤ cur.size := by have := hle.1; omega
                subst hlen
                refine callsIn_wide.2 ((Go.Proofs.AbQ.string_some b g cap v0 cur s w (by simpa using hb) hg (by intro e; subst e; simp at hk0) hn hcur ?_ ?_).mono ?_)
                · unfold mostLen at hkm; omega
                · intro j x hx
                  have hj : j < s.length := (List.getElem?_eq_some_iff.1 hx).1
                  have h1 := hbytes j x hx
                  rw [List.getElem?_take_of_lt hj] at h1
                  simpa using h1
                · rintro ev w' ⟨rfl, rfl⟩
                  have hfz : ∀ (W : World) (a : Addr) (n : Nat), (W.freeze a n).os = W.os ∧ (W.freeze a n).tape = W.tape ∧ (W.freeze a n).output = W.output ∧ (W.freeze a n).heap.size = W.heap.size := fun W a n => by
                    unfold World.freeze
                    split <;> simp
                  obtain ⟨f1, f2, f3, f4⟩ := hfz w.drew ⟨g, 0, none⟩ s.length
                  refine sp_gone (w' := w.drew.freeze ⟨g, 0, none⟩ s.length) hs hf hL' f1 f2 f3 (Nat.le_of_eq f4.symm) (fun k' hk' hne => ?_) (fun L' => .str s)
                  rw [freeze_other (fun e => hne C' (by rw [e]))]
                  rfl
              · omega
            · cases h
          · cases h
        · cases h
      · cases h
    · cases h
  · cases h
end Go.Ab.Shape

/-
  A law's arguments: plain data (bools, numbers, texts, lists, structs): as the rows read them, as the small machine has them.
-/
namespace Go.Ab
open Go Go.ChangeShapes Go.WideShapes Go.RowKit

inductive DTy where
  | bool
  | int (k : IntKind)
  | str
  | slice (e : DTy)
  | struct (fs : List DTy)

mutual
def DTy.cells : DTy → Nat
  | .struct fs => DTy.cellsL fs
  | .bool | .int _ | .str | .slice _ => 1
def DTy.cellsL : List DTy → Nat
  | [] => 0
  | d :: ds => d.cells + DTy.cellsL ds
end

mutual
def isD (P : Program) : Nat → DTy → TypeId → Bool
  | 0, _, _ => false
  | n + 1, D, t => match D, P.underlying t with
    | .bool, some .bool => true
    | .int k, some (.int k') => k' == k
    | .str, some .string => true
    | .slice e, some (.slice et) => isD P n e et && P.cellsOf et == e.cells && decide (0 < e.cells)
    | .struct fs, some (.struct fields) => P.cellsOf t == DTy.cellsL fs && isFs P n 0 fs fields.toList
    | _, _ => false
def isFs (P : Program) : Nat → Nat → List DTy → List Field → Bool
  | 0, _, _, _ => false
  | _ + 1, _, [], [] => true
  | n + 1, off, D :: ds, f :: fs => f.offset == off && P.cellsOf f.type == D.cells && isD P n D f.type && isFs P n (off + D.cells) ds fs
  | _ + 1, _, _, _ => false
end

mutual
def HasV : DTy → PV → Prop
  | .bool, v => ∃ b, v = .bool b
  | .int k, v => ∃ n, v = .int k n ∧ (Lit.int k n).wf = true
  | .str, v => ∃ s, v = .str s ∧ s.length ≤ maxLen
  | .slice e, v => v = .nilS ∨ ∃ xs, v = .sl e.cells xs false ∧ xs.length ≤ maxLen ∧ ∀ x ∈ xs, HasV e x
  | .struct fs, v => ∃ vs, v = .agg (cellsL vs) ∧ HasVs fs vs
def HasVs : List DTy → List PV → Prop
  | [], vs => vs = []
  | D :: fs, vs => ∃ v r, vs = v :: r ∧ HasV D v ∧ HasVs fs r
end

theorem repL1' {w : World} {I : Nat → Prop} {lp : Nat → Option Nat} {L : Option Loc} {a : PV} {us : List Value} (h : RepL w I lp L [a] us) : ∃ u, us = [u] ∧ RepV w I lp L a u := by
  obtain ⟨u, r, h1, rfl, h2⟩ : ∃ u r, RepV w I lp L a u ∧ us = u :: r ∧ RepL w I lp L [] r := by
    cases h; exact ⟨_, _, by assumption, rfl, by assumption⟩
  cases h2
  exact ⟨u, rfl, h1⟩

section
variable {H : Type} {enc : TypeId × Value → H} {P : Program} {w : World} {I : Nat → Prop} {lp : Nat → Option Nat} {held : Bool} {sp : Nat → Bool}

/-- What the rows' reading gives. -/
def RepD (w : World) (I : Nat → Prop) (lp : Nat → Option Nat) (D : DTy) (cs : List Value) : Prop := ∃ v : PV, HasV D v ∧ RepL w I lp none v.cells cs ∧ One cs ∧ v.cells.length = D.cells

theorem cells?_get {base : Nat} {a : Addr} {n : Nat} {l : List Value} (h : w.cells? base a n = some l) : l.length = n ∧ ∀ i, i < n → w.cell? (a.add i) = l[i]? := by
  obtain ⟨_, h1, h2⟩ := World.cells?_some h
  exact ⟨h1, fun i hi => by rw [h2 i hi]⟩

theorem cell?_row {a : Addr} {v : Value} (h : w.cell? a = some v) : ∃ c E fr, w.heap[a.block]? = some (.cells c E fr) ∧ a.spot = none ∧ c[a.off]? = some v := by
  unfold World.cell? at h
  split at h
  · rename_i c E fr hb
    split at h
    · cases h
    · rename_i hs
      exact ⟨c, E, fr, hb, by simpa using hs, h⟩
  · cases h

theorem addr_off (a : Addr) (h : a.spot = none) (i : Nat) : a.add i = ⟨a.block, a.off + i, none⟩ := by
  unfold Addr.add
  split
  · rename_i hi; subst hi; cases a; simp_all
  · rfl

theorem list_rep {e : DTy} (hI : ∀ b, b < w.heap.size → I b) {a : Addr} {len cap : Nat} (hlc : len ≤ cap) (hcm : cap ≤ maxLen) (hpos : 0 < e.cells)
    (hel : ∀ i, i < len → ∃ cs, w.cells? 0 (a.add (i * e.cells)) e.cells = some cs ∧ RepD w I lp e cs) : RepD w I lp (.slice e) [.slice (some a) len cap] := by
  by_cases h0 : len = 0
  · subst h0
    exact ⟨.sl e.cells [] false, .inr ⟨[], rfl, Nat.zero_le _, fun x hx => by cases hx⟩, .cons _ _ _ _ (.slE _ _ _ _ (fun h => by cases h)) .nil, by simp [One, Value.oneCell'], rfl⟩
  · obtain ⟨cs0, hcs0, _⟩ := hel 0 (by omega)
    obtain ⟨hl0, hg0⟩ := cells?_get hcs0
    have hf := hg0 0 hpos
    rw [Nat.zero_mul] at hf
    have e0 : (a.add 0).add 0 = a := by simp [Addr.add]
    rw [e0, List.getElem?_eq_getElem (by omega)] at hf
    obtain ⟨c, E, fr, hb, hs, _⟩ := cell?_row hf
    have hblt : a.block < w.heap.size := (Array.getElem?_eq_some_iff.1 hb).1
    -- item by item
    have each : ∀ i, i < len → ∃ v : PV, HasV e v ∧ v.cells.length = e.cells ∧ (a.off + i * e.cells) + e.cells ≤ c.size ∧ One ((c.toList.drop (a.off + i * e.cells)).take e.cells) ∧ RepL w I lp none v.cells ((c.toList.drop (a.off + i * e.cells)).take e.cells) := by
      intro i hi
      obtain ⟨cs, hcs, v, h1, h2, h3, h4⟩ := hel i hi
      obtain ⟨hl, hg⟩ := cells?_get hcs
      have key : ∀ j, j < e.cells → c[a.off + i * e.cells + j]? = cs[j]? := by
        intro j hj
        have := hg j hj
        rw [addr_off a hs, addr_off _ rfl, cell_row hb] at this
        exact this
      have hsz : a.off + i * e.cells + e.cells ≤ c.size := by
        have := key (e.cells - 1) (by omega)
        rw [List.getElem?_eq_getElem (by omega)] at this
        have := (Array.getElem?_eq_some_iff.1 this).1
        omega
      have e1 : (c.toList.drop (a.off + i * e.cells)).take e.cells = cs := by
        apply List.ext_getElem?
        intro j
        by_cases hj : j < e.cells
        · rw [List.getElem?_take_of_lt hj, List.getElem?_drop, ← key j hj]; simp
        · rw [List.getElem?_eq_none (by simp; omega), List.getElem?_eq_none (by omega)]
      exact ⟨v, h1, h4, hsz, by rw [e1]; exact h3, by rw [e1]; exact h2⟩
    have all : ∀ n, n ≤ len → ∃ xs : List PV, xs.length = n ∧ (∀ x ∈ xs, HasV e x) ∧ (∀ x ∈ xs, x.cells.length = e.cells) ∧ a.off + n * e.cells ≤ c.size ∧ One ((c.toList.drop a.off).take (n * e.cells)) ∧ RepL w I lp none (cellsL xs) ((c.toList.drop a.off).take (n * e.cells)) := by
      intro n
      induction n with
      | zero =>
        intro _
        refine ⟨[], rfl, by simp, by simp, ?_, by simp [One], by simp; exact .nil⟩
        obtain ⟨_, _, _, h, _⟩ := each 0 (by omega)
        omega
      | succ n ih =>
        intro hn
        obtain ⟨xs, h1, h2, h3, h4, h5, h6⟩ := ih (by omega)
        obtain ⟨v, g1, g2, g3, g4, g5⟩ := each n (by omega)
        have e2 : (c.toList.drop a.off).take ((n + 1) * e.cells) = (c.toList.drop a.off).take (n * e.cells) ++ (c.toList.drop (a.off + n * e.cells)).take e.cells := by
          rw [Nat.add_mul, Nat.one_mul, List.take_add, List.drop_drop]
        refine ⟨xs ++ [v], by simp [h1], ?_, ?_, by rw [Nat.add_mul]; omega, ?_, ?_⟩
        · intro x hx
          rcases List.mem_append.1 hx with hx | hx
          · exact h2 x hx
          · simp at hx; subst hx; exact g1
        · intro x hx
          rcases List.mem_append.1 hx with hx | hx
          · exact h3 x hx
          · simp at hx; subst hx; exact g2
        · rw [e2]; exact h5.append' g4
        · rw [e2, cellsL_append]
          refine h6.append ?_
          simpa [cellsL] using g5
    obtain ⟨xs, h1, h2, h3, h4, h5, h6⟩ := all len (Nat.le_refl _)
    have ea : a = ⟨a.block, a.off, none⟩ := by cases a; simp_all
    refine ⟨.sl e.cells xs false, .inr ⟨xs, rfl, by omega, h2⟩, ?_, by simp [One, Value.oneCell'], rfl⟩
    rw [ea, ← h1]
    exact .cons _ _ _ _ (.sl e.cells xs false a.block a.off cap c E fr (hI _ hblt) hb (by rw [h1]; exact h4) h3 (by omega) (fun h => by cases h) (by rw [h1]; exact h5) (by rw [h1]; exact h6)) .nil

theorem struct_rep {n : Nat} (ih : ∀ (m : Nat) (D : DTy) (t : TypeId) (cs : List Value) (x : DataW H × List MemPlace), isD P m D t = true → DataW.trod enc P w 0 (fun _ => true) held n t cs = some x → RepD w I lp D cs) :
    ∀ (m : Nat) (ds : List DTy) (fs : List Field) (off : Nat) (cs : List Value) (xs : List (DataW H × List MemPlace)), isFs P m off ds fs = true → xs.length = fs.length → cs.length = off + DTy.cellsL ds →
    (∀ (i : Nat) (f : Field), fs[i]? = some f → DataW.trod enc P w 0 (fun _ => true) held n f.type ((cs.drop f.offset).take (P.cellsOf f.type)) = xs[i]?) →
    ∃ vs : List PV, HasVs ds vs ∧ RepL w I lp none (cellsL vs) (cs.drop off) ∧ One (cs.drop off) ∧ (cellsL vs).length = DTy.cellsL ds := by
  intro m
  induction m with
  | zero => intro ds fs off cs xs h; cases h
  | succ m ihm =>
    intro ds fs off cs xs h hl hc hf
    match ds, fs, h with
    | [], [], _ =>
      refine ⟨[], rfl, ?_, ?_, rfl⟩
      · rw [List.drop_of_length_le (by simp [DTy.cellsL] at hc; omega)]; exact .nil
      · rw [List.drop_of_length_le (by simp [DTy.cellsL] at hc; omega)]; simp [One]
    | D :: ds, f :: fs, h =>
      simp only [isFs, Bool.and_eq_true, beq_iff_eq] at h
      obtain ⟨⟨⟨h1, h2⟩, h3⟩, h4⟩ := h
      match xs, hl with
      | x :: xs, hl =>
        have hx := hf 0 f rfl
        rw [h1, h2] at hx
        obtain ⟨v, g1, g2, g3, g4⟩ := ih m D f.type _ x h3 hx
        simp only [DTy.cellsL] at hc
        obtain ⟨vs, k1, k2, k3, k4⟩ := ihm ds fs (off + D.cells) cs xs h4 (by simpa using hl) (by omega) (fun i f hi => by simpa using hf (i + 1) f (by simpa using hi))
        have e1 : cs.drop off = (cs.drop off).take D.cells ++ cs.drop (off + D.cells) := by rw [← List.drop_drop, List.take_append_drop]
        refine ⟨v :: vs, ⟨v, vs, rfl, g1, k1⟩, ?_, ?_, by simp [cellsL, DTy.cellsL, g4, k4]⟩
        · rw [e1]; exact g2.append k2
        · rw [e1]; exact g3.append' k3

theorem rep_of_trod (hI : ∀ b, b < w.heap.size → I b) : ∀ (fuel m : Nat) (D : DTy) (t : TypeId) (cs : List Value) (x : DataW H × List MemPlace), isD P m D t = true → DataW.trod enc P w 0 (fun _ => true) held fuel t cs = some x → RepD w I lp D cs := by
  intro fuel
  induction fuel with
  | zero => intro m D t cs x _ h; simp [DataW.trod] at h
  | succ fuel ih =>
    intro m D t cs x hD h
    cases m with
    | zero => cases hD
    | succ m =>
      cases hu : P.underlying t with
      | none => cases D <;> simp [isD, hu] at hD
      | some d =>
        cases D with
        | bool =>
          cases d <;> simp [isD, hu] at hD
          obtain ⟨b, rfl, _⟩ := DataW.trod_bool hu h
          exact ⟨.bool b, ⟨b, rfl⟩, .cons _ _ _ _ (.bool b) .nil, by simp [One, Value.oneCell'], rfl⟩
        | int k =>
          cases d <;> simp [isD, hu] at hD
          subst hD
          obtain ⟨n, rfl, _, hw⟩ := DataW.trod_int hu h
          exact ⟨.int _ n, ⟨n, rfl, hw⟩, .cons _ _ _ _ (.int _ n) .nil, by simp [One, Value.oneCell'], rfl⟩
        | str =>
          cases d <;> simp [isD, hu] at hD
          obtain ⟨s, rfl, _, hw⟩ := DataW.trod_string hu h
          obtain ⟨l, rfl⟩ : ∃ l : List UInt8, s = ⟨l.toArray⟩ := ⟨s.data.toList, by cases s; simp⟩
          exact ⟨.str l, ⟨l, rfl, by simpa [ByteArray.size] using hw⟩, .cons _ _ _ _ (.str l) .nil, by simp [One, Value.oneCell'], rfl⟩
        | slice e =>
          cases d <;> simp [isD, hu] at hD
          rename_i et
          obtain ⟨⟨h1, h2⟩, h3⟩ := hD
          rcases DataW.trod_slice hu h with ⟨rfl, _⟩ | ⟨a, len, cap, elems, rest, n, hn, rfl, _, _, hl, hm, hlen, hel, _⟩
          · exact ⟨.nilS, .inl rfl, .cons _ _ _ _ .nilS .nil, by simp [One, Value.oneCell'], rfl⟩
          · cases hn
            refine list_rep hI hl hm h3 fun i hi => ?_
            have := hel i hi
            rw [List.getElem?_eq_getElem (by omega), Option.bind_eq_some_iff, h2] at this
            obtain ⟨cs, hcs, hx⟩ := this
            exact ⟨cs, hcs, ih m e et cs _ h1 hx⟩
        | struct ds =>
          cases d <;> simp [isD, hu] at hD
          rename_i fields
          obtain ⟨h1, h2⟩ := hD
          obtain ⟨xs, n, hn, _, hl, hlen, hf⟩ := DataW.trod_struct hu h
          cases hn
          obtain ⟨vs, k1, k2, k3, k4⟩ := struct_rep ih m ds fields.toList 0 cs xs h2 (by simpa using hlen) (by rw [hl, h1]; omega) (fun i f hi => hf i f (by simpa using hi))
          rw [List.drop_zero] at k2 k3
          exact ⟨.agg (cellsL vs), ⟨vs, rfl, k1⟩, k2, k3, by simpa [PV.cells, DTy.cells] using k4⟩

/-! ### What was read reads so behind the call -/

variable {w' : World} {sp' : Nat → Bool}

theorem cell?_keep (hk : ∀ b, b < w.heap.size → w'.heap[b]? = w.heap[b]?) {a : Addr} {v : Value} (h : w.cell? a = some v) : a.block < w.heap.size ∧ w'.cell? a = some v := by
  obtain ⟨c, E, fr, hb, hs, hv⟩ := cell?_row h
  have hlt : a.block < w.heap.size := (Array.getElem?_eq_some_iff.1 hb).1
  refine ⟨hlt, ?_⟩
  unfold World.cell?
  rw [hk _ hlt, hb]
  simp [hs, hv]

theorem mapM_congr' {α β : Type} {f g : α → Option β} : ∀ (l : List α) {ys : List β}, l.mapM f = some ys → (∀ x ∈ l, ∀ y, f x = some y → g x = some y) → l.mapM g = some ys
  | [], ys, h, _ => by simpa using h
  | x :: l, ys, h, hg => by
    rw [List.mapM_cons] at h ⊢
    simp only [Option.bind_eq_bind, Option.bind_eq_some_iff, Option.pure_def, Option.some.injEq] at h ⊢
    obtain ⟨y, h1, ys', h2, rfl⟩ := h
    exact ⟨y, hg x (by simp) y h1, ys', mapM_congr' l h2 (fun z hz => hg z (by simp [hz])), rfl⟩

theorem cells?_keep (hk : ∀ b, b < w.heap.size → w'.heap[b]? = w.heap[b]?) {a : Addr} {n : Nat} {l : List Value} (h : w.cells? 0 a n = some l) : w'.cells? 0 a n = some l ∧ (0 < n → a.block < w.heap.size) := by
  refine ⟨?_, fun hn => ?_⟩
  · unfold World.cells? at h ⊢
    rw [if_pos (Nat.zero_le _)] at h ⊢
    exact mapM_congr' _ h fun i _ v hv => (cell?_keep hk hv).2
  · obtain ⟨h1, h2⟩ := cells?_get h
    have := h2 0 hn
    rw [List.getElem?_eq_getElem (by omega)] at this
    have := (cell?_keep hk this).1
    rwa [block_add] at this

theorem fields_keep {n : Nat} (ih : ∀ (m : Nat) (D : DTy) (t : TypeId) (cs : List Value) (x : DataW H × List MemPlace), isD P m D t = true → DataW.trod enc P w 0 (fun _ => true) held n t cs = some x → DataW.trod enc P w' 0 sp' held n t cs = some x) :
    ∀ (m : Nat) (ds : List DTy) (fs : List Field) (off : Nat), isFs P m off ds fs = true → ∀ f ∈ fs, ∀ cs x, DataW.trod enc P w 0 (fun _ => true) held n f.type cs = some x → DataW.trod enc P w' 0 sp' held n f.type cs = some x := by
  intro m
  induction m with
  | zero => intro ds fs off h; cases h
  | succ m ihm =>
    intro ds fs off h f hf cs x hx
    match ds, fs, h with
    | [], [], _ => cases hf
    | D :: ds, g :: fs, h =>
      simp only [isFs, Bool.and_eq_true, beq_iff_eq] at h
      rcases List.mem_cons.1 hf with rfl | hf
      · exact ih m D _ cs x h.1.2 hx
      · exact ihm ds fs _ h.2 f hf cs x hx

theorem trod_keep (hk : ∀ b, b < w.heap.size → w'.heap[b]? = w.heap[b]?) (hsp : ∀ b, b < w.heap.size → sp' b = true) : ∀ (fuel m : Nat) (D : DTy) (t : TypeId) (cs : List Value) (x : DataW H × List MemPlace), isD P m D t = true →
    DataW.trod enc P w 0 (fun _ => true) held fuel t cs = some x → DataW.trod enc P w' 0 sp' held fuel t cs = some x := by
  intro fuel
  induction fuel with
  | zero => intro m D t cs x _ h; simp [DataW.trod] at h
  | succ fuel ih =>
    intro m D t cs x hD h
    cases m with
    | zero => cases hD
    | succ m =>
      cases hu : P.underlying t with
      | none => cases D <;> simp [isD, hu] at hD
      | some d =>
        cases D with
        | bool =>
          cases d <;> simp [isD, hu] at hD
          obtain ⟨b, rfl, rfl⟩ := DataW.trod_bool hu h
          simp [DataW.trod, hu]
        | int k =>
          cases d <;> simp [isD, hu] at hD
          subst hD
          obtain ⟨n, rfl, rfl, hw⟩ := DataW.trod_int hu h
          simp [DataW.trod, hu, hw]
        | str =>
          cases d <;> simp [isD, hu] at hD
          obtain ⟨s, rfl, rfl, hw⟩ := DataW.trod_string hu h
          simp [DataW.trod, hu, hw]
        | slice e =>
          cases d <;> simp [isD, hu] at hD
          rename_i et
          obtain ⟨⟨h1, h2⟩, h3⟩ := hD
          rcases DataW.trod_slice hu h with ⟨rfl, rfl⟩ | ⟨a, len, cap, elems, rest, n, hn, rfl, _, _, hl, hm, hlen, _, _⟩
          · simp [DataW.trod, hu]
          · unfold DataW.trod at h ⊢
            simp only [hu] at h ⊢
            rw [if_pos ⟨Nat.zero_le _, hl, hm⟩] at h ⊢
            have el : ∀ i y, (w.cells? 0 (a.add (i * P.cellsOf et)) (P.cellsOf et)).bind (DataW.trod enc P w 0 (fun _ => true) held fuel et) = some y → (w'.cells? 0 (a.add (i * P.cellsOf et)) (P.cellsOf et)).bind (DataW.trod enc P w' 0 sp' held fuel et) = some y ∧ a.block < w.heap.size := by
              intro i y hy
              obtain ⟨cs, hcs, hx⟩ := Option.bind_eq_some_iff.1 hy
              obtain ⟨k1, k2⟩ := cells?_keep hk hcs
              refine ⟨Option.bind_eq_some_iff.2 ⟨cs, k1, ih m e et cs y h1 hx⟩, ?_⟩
              have := k2 (by omega)
              rwa [block_add] at this
            obtain ⟨es, he, h⟩ := Option.bind_eq_some_iff.1 h
            refine Option.bind_eq_some_iff.2 ⟨es, mapM_congr' _ he fun i _ y hy => (el i y hy).1, ?_⟩
            obtain ⟨rs, hr, rfl⟩ := Option.map_eq_some_iff.1 h
            refine Option.map_eq_some_iff.2 ⟨rs, ?_, rfl⟩
            simp only [if_true] at hr
            cases hc : cap - len with
            | zero =>
              rw [hc] at hr
              simp at hr
              subst hr
              split <;> simp
            | succ q =>
              have hlt : a.block < w.heap.size := by
                rw [hc, List.range_succ_eq_map, List.mapM_cons] at hr
                simp only [Option.bind_eq_bind, Option.bind_eq_some_iff] at hr
                obtain ⟨y, hy, _⟩ := hr
                exact (el _ y (Option.bind_eq_some_iff.2 hy)).2
              rw [if_pos (hsp _ hlt), ← hc]
              exact mapM_congr' _ hr fun i _ y hy => (el _ y hy).1
        | struct ds =>
          cases d <;> simp [isD, hu] at hD
          rename_i fields
          obtain ⟨h1, h2⟩ := hD
          have key := fields_keep ih m ds fields.toList 0 h2
          unfold DataW.trod at h ⊢
          simp only [hu] at h ⊢
          split at h
          · rename_i hlc
            rw [if_pos hlc]
            obtain ⟨xs, hx, rfl⟩ := Option.map_eq_some_iff.1 h
            exact Option.map_eq_some_iff.2 ⟨xs, mapM_congr' _ hx fun f hf y hy => key f hf _ y hy, rfl⟩
          · cases h

def isDs (P : Program) (m : Nat) : List DTy → List TypeId → Bool
  | [], [] => true
  | D :: Ds, t :: ts => isD P m D t && isDs P m Ds ts
  | _, _ => false

theorem val_rep (hI : ∀ b, b < w.heap.size → I b) {m : Nat} {D : DTy} {t : TypeId} {v : Value} {d : DataW H} {ps : List MemPlace} {base : Nat} (hD : isD P m D t = true) (hv : Value.okWide P w .any base t v) (h : DataW.Trod enc P w 0 (fun _ => true) held t v d ps) :
    ∃ u : PV, HasV D u ∧ RepV w I lp none u v := by
  obtain ⟨fuel, h⟩ := h
  obtain ⟨u, h1, h2, h3, h4⟩ := rep_of_trod (lp := lp) hI fuel m D t _ _ hD h
  cases m with
  | zero => cases hD
  | succ m =>
    cases hu : P.underlying t with
    | none => cases D <;> simp [isD, hu] at hD
    | some dd =>
      have one : (∀ x, v.cells.toList = [x] → v = x) → (∀ x : PV, u.cells = [x] → u = x) → (∃ x, u.cells = [x]) → ∃ u : PV, HasV D u ∧ RepV w I lp none u v := by
        intro ho hp ⟨x, hx⟩
        have hux := hp x hx
        rw [hx] at h2
        obtain ⟨y, hy, hr⟩ := repL1' h2
        rw [ho y hy]
        exact ⟨u, h1, by rw [hux]; exact hr⟩
      have sc : (∀ vs, v ≠ .agg vs) → ∀ x, v.cells.toList = [x] → v = x := by
        intro hn x hx
        cases v <;> first | (simp [Value.cells] at hx; exact hx) | exact absurd rfl (hn _)
      cases D with
      | struct ds =>
        cases dd <;> simp [isD, hu] at hD
        obtain ⟨cs, rfl, _⟩ := okWide_struct hu hv
        obtain ⟨vs, rfl, hvs⟩ := h1
        exact ⟨_, ⟨vs, rfl, hvs⟩, .agg _ _ h3 h2⟩
      | bool =>
        cases dd <;> simp [isD, hu] at hD
        obtain ⟨b, rfl⟩ := h1
        exact one (sc fun vs e => by subst e; simp [Value.okWide, hu, Cell.okWide, Cell.ok] at hv) (fun x hx => by simpa [PV.cells] using hx) ⟨_, rfl⟩
      | int k =>
        cases dd <;> simp [isD, hu] at hD
        obtain ⟨b, rfl, _⟩ := h1
        exact one (sc fun vs e => by subst e; simp [Value.okWide, hu, Cell.okWide, Cell.ok] at hv) (fun x hx => by simpa [PV.cells] using hx) ⟨_, rfl⟩
      | str =>
        cases dd <;> simp [isD, hu] at hD
        obtain ⟨b, rfl, _⟩ := h1
        exact one (sc fun vs e => by subst e; simp [Value.okWide, hu, Cell.okWide, Cell.ok] at hv) (fun x hx => by simpa [PV.cells] using hx) ⟨_, rfl⟩
      | slice e =>
        cases dd <;> simp [isD, hu] at hD
        have hs := sc fun vs e => by subst e; simp [Value.okWide, hu, Cell.okWide, Cell.ok] at hv
        rcases h1 with rfl | ⟨xs, rfl, _, _⟩
        · exact one hs (fun x hx => by simpa [PV.cells] using hx) ⟨_, rfl⟩
        · exact one hs (fun x hx => by simpa [PV.cells] using hx) ⟨_, rfl⟩

theorem args_rep (hI : ∀ b, b < w.heap.size → I b) {m base : Nat} : ∀ (Ds : List DTy) (ts : List TypeId) (vs : List Value) (ds : List (DataW H)) (p : List MemPlace), isDs P m Ds ts = true →
    (∀ (j : Nat) t v, ts[j]? = some t → vs[j]? = some v → Value.okWide P w .any base t v) → DataW.TrodAll enc P w 0 (fun _ => true) held ts vs ds p → ∃ us : List PV, HasVs Ds us ∧ RepL w I lp none us vs
  | [], [], vs, ds, p, _, _, h => by
    obtain ⟨rfl, rfl, rfl⟩ := trodAll_nil h
    exact ⟨[], rfl, .nil⟩
  | D :: Ds, t :: ts, vs, ds, p, hD, hv, h => by
    obtain ⟨v, vs, d, ds, p, q, rfl, rfl, rfl, h1, h2⟩ := trodAll_cons h
    simp only [isDs, Bool.and_eq_true] at hD
    obtain ⟨u, a, b⟩ := val_rep (lp := lp) hI hD.1 (hv 0 t v rfl rfl) h1
    obtain ⟨us, a', b'⟩ := args_rep hI Ds ts vs ds q hD.2 (fun j t v ht hj => hv (j + 1) t v (by simpa using ht) (by simpa using hj)) h2
    exact ⟨u :: us, ⟨u, us, rfl, a, a'⟩, .cons _ _ _ _ b b'⟩
  | [], _ :: _, _, _, _, hD, _, _ => by cases hD
  | _ :: _, [], _, _, _, hD, _, _ => by cases hD

theorem args_keep (hk : ∀ b, b < w.heap.size → w'.heap[b]? = w.heap[b]?) (hsp : ∀ b, b < w.heap.size → sp' b = true) {m : Nat} : ∀ (Ds : List DTy) (ts : List TypeId) (vs : List Value) (ds : List (DataW H)) (p : List MemPlace), isDs P m Ds ts = true →
    DataW.TrodAll enc P w 0 (fun _ => true) held ts vs ds p → DataW.TrodAll enc P w' 0 sp' held ts vs ds p
  | [], [], vs, ds, p, _, h => by
    obtain ⟨rfl, rfl, rfl⟩ := trodAll_nil h
    exact rfl
  | D :: Ds, t :: ts, vs, ds, p, hD, h => by
    obtain ⟨v, vs, d, ds, p, q, rfl, rfl, rfl, ⟨fuel, h1⟩, h2⟩ := trodAll_cons h
    simp only [isDs, Bool.and_eq_true] at hD
    exact ⟨p, q, ⟨fuel, trod_keep hk hsp fuel m D t _ _ hD.1 h1⟩, args_keep hk hsp Ds ts vs ds q hD.2 h2, rfl⟩
  | [], _ :: _, _, _, _, hD, _ => by cases hD
  | _ :: _, [], _, _, _, hD, _ => by cases hD
end
end Go.Ab

/-
  Shape: lists and arrays as values; the small functions.
-/
namespace Go.Ab.Shape
open Go Go.Ab

theorem w64 {n : Int} (h1 : -9223372036854775808 ≤ n) (h2 : n ≤ 9223372036854775807) : IntKind.i64.wrap n = n := IntWalk.i64_in _ ⟨h1, h2⟩

/-! ### Lists -/

def I (n : Int) : PV := .int .i64 n
def ints (l : List Int) : List PV := l.map I

theorem ints_len (l : List Int) : (ints l).length = l.length := by simp [ints]
theorem ints_get {l : List Int} {i : Nat} (h : i < l.length) : (ints l)[i]? = some (I l[i]) := by simp [ints, h]
theorem ints_take (l : List Int) (k : Nat) : (ints l).take k = ints (l.take k) := by simp [ints, List.map_take]
theorem ints_drop (l : List Int) (k : Nat) : (ints l).drop k = ints (l.drop k) := by simp [ints, List.map_drop]
theorem ints_app (l m : List Int) : ints l ++ ints m = ints (l ++ m) := by simp [ints]
theorem okVL_ints (l : List Int) : okVL (ints l) = true := by
  induction l with
  | nil => rfl
  | cons a l ih => simpa [ints, okVL, okV, I] using ih

inductive IsL : PV → List Int → Prop
  | nil : IsL .nilS []
  | sl (l : List Int) (f : Bool) : IsL (.sl 1 (ints l) f) l

theorem IsL.ok {v : PV} {l : List Int} (h : IsL v l) : okV v = true := by
  cases h with
  | nil => rfl
  | sl f => simp [okV, okVL_ints]
theorem IsL.cells {v : PV} {l : List Int} (h : IsL v l) : v.cells = [v] := by cases h <;> rfl
theorem IsL.val {v : PV} {l : List Int} (h : IsL v l) : v.isVal = true := by cases h <;> rfl
theorem IsL.cell {v : PV} {l : List Int} (h : IsL v l) : v.isCell = true := by cases h <;> rfl
theorem IsL.und {v : PV} {l : List Int} (h : IsL v l) : isUndef v = false := by cases h <;> rfl
theorem IsL.len {v : PV} {l : List Int} (h : IsL v l) : pureO (.len .slice (.c v)) = some (I l.length) := by
  cases h with
  | nil => rfl
  | sl f => rw [pure_lenl, ints_len]; rfl
theorem IsL.idx {v : PV} {l : List Int} (h : IsL v l) {i : Nat} (hi : i < l.length) : pureO (.idxAddr 1 (.c v) (.c (I i))) = some (.ptr [I l[i]] 0) := by
  cases h with
  | nil => simp at hi
  | sl f => exact pure_lidx (by omega) (ints_get hi)
theorem IsL.elems {v : PV} {l : List Int} (h : IsL v l) : elemsO 1 v = some (ints l) := by
  cases h with
  | nil => rfl
  | sl f => simp [elemsO, Go.Ab.elems, chk]
theorem IsL.hi {v : PV} {l : List Int} (h : IsL v l) {k : Nat} (hk : k ≤ l.length) : ∃ u, pureO (.slice 1 (.c v) none (some (.c (I k))) none) = some u ∧ IsL u (l.take k) := by
  cases h with
  | nil =>
    have : k = 0 := by simpa using hk
    subst this
    exact ⟨.nilS, by simp [pureO, exec, RX.ev, evO, bound, natOf, chk, I, sliceOf], .nil⟩
  | sl _ f =>
    have hk' : k ≤ (ints l).length := by rw [ints_len]; exact hk
    refine ⟨.sl 1 (ints (l.take k)) (f && k == (ints l).length), ?_, .sl _ _⟩
    simp [pureO, exec, RX.ev, evO, bound, natOf, chk, I, hk', ints_take, sliceOf]

@[simp] theorem load_I (n : Int) : pureO (.load 1 false (.c (.ptr [I n] 0))) = some (I n) := rfl
@[simp] theorem I_lss {c : TC} {b : Bool} (a n : Int) : pureO (.bin .lss c b (.c (I a)) (.c (I n))) = some (.bool (decide (a < n))) := pure_lss a n
@[simp] theorem I_eql {c : TC} {b : Bool} (a n : Int) : pureO (.bin .eql c b (.c (I a)) (.c (I n))) = some (.bool (a == n)) := pure_eql a n
@[simp] theorem I_neq {c : TC} {b : Bool} (a n : Int) : pureO (.bin .neq c b (.c (I a)) (.c (I n))) = some (.bool (a != n)) := pure_neq a n
@[simp] theorem I_add {c : TC} {b : Bool} (a n : Int) : pureO (.bin .add c b (.c (I a)) (.c (I n))) = some (I (IntKind.i64.wrap (a + n))) := pure_add a n
@[simp] theorem I_sub {c : TC} {b : Bool} (a n : Int) : pureO (.bin .sub c b (.c (I a)) (.c (I n))) = some (I (IntKind.i64.wrap (a - n))) := pure_sub a n
@[simp] theorem I_geq {c : TC} {b : Bool} (a n : Int) : pureO (.bin .geq c b (.c (I a)) (.c (I n))) = some (.bool (decide (n ≤ a))) := pure_geq a n
@[simp] theorem I_leq {c : TC} {b : Bool} (a n : Int) : pureO (.bin .leq c b (.c (I a)) (.c (I n))) = some (.bool (decide (a ≤ n))) := pure_leq a n
@[simp] theorem I_gtr {c : TC} {b : Bool} (a n : Int) : pureO (.bin .gtr c b (.c (I a)) (.c (I n))) = some (.bool (decide (n < a))) := pure_gtr a n
theorem I_def (n : Int) : PV.int .i64 n = I n := rfl
@[simp] theorem okV_I (n : Int) : okV (I n) = true := rfl
@[simp] theorem cells_I (n : Int) : (I n).cells = [I n] := rfl
@[simp] theorem isUndef_I (n : Int) : isUndef (I n) = false := rfl
@[simp] theorem isVal_I (n : Int) : (I n).isVal = true := rfl
@[simp] theorem isCell_I (n : Int) : (I n).isCell = true := rfl
@[simp] theorem natP_I (n : Int) : natP (I n) = n.toNat := rfl
theorem wsucc {i : Nat} (h : i < 9223372036854775807) : IntKind.i64.wrap ((i : Int) + 1) = ((i + 1 : Nat) : Int) := by rw [w64 (by omega) (by omega)]; omega

/-! ### Arrays -/

structure Arr where
  li : Bool
  ru : Bool
  n : List Int

inductive IsA : PV → Arr → Prop
  | mk (li ru : Bool) (x : PV) (l : List Int) (h : IsL x l) : IsA (.agg [.bool li, .bool ru, x]) ⟨li, ru, l⟩

theorem IsA.ok {v : PV} {a : Arr} (h : IsA v a) : okV v = true := by
  obtain ⟨li, ru, x, l, h⟩ := h
  simp [okV, okVL, h.ok]
theorem IsA.get {v : PV} {a : Arr} (h : IsA v a) : ∃ x, v = .agg [.bool a.li, .bool a.ru, x] ∧ IsL x a.n := by
  obtain ⟨li, ru, x, l, h⟩ := h
  exact ⟨x, rfl, h⟩

def noArr : Arr := ⟨false, false, []⟩
theorem noArr_is : IsA (.agg [.bool false, .bool false, .nilS]) noArr := .mk _ _ _ _ .nil

@[simp] theorem valO_agg (cs : List PV) : valO (.agg cs) = (PV.agg cs).isVal := rfl
theorem val3 {a b c : PV} (ha : a.isCell = true) (hb : b.isCell = true) (hc : c.isCell = true) : (PV.agg [a, b, c]).isVal = true := by simp [PV.isVal, ha, hb, hc]

theorem sel3_0 (a b c : PV) : sel [a, b, c] 0 1 false = some a := rfl
theorem sel3_1 (a b c : PV) : sel [a, b, c] 1 1 false = some b := rfl
theorem sel3_2 (a b c : PV) : sel [a, b, c] 2 1 false = some c := rfl
theorem sel3_a (a b c : PV) : sel [a, b, c] 0 3 true = some (.agg [a, b, c]) := rfl

theorem build3 {z a b c : PV} (ha : a.cells = [a]) (hb : b.cells = [b]) (hc : c.cells = [c]) (va : a.isVal = true) (vb : b.isVal = true) (vc : c.isVal = true) (x y : PV) :
    pureO (.build [x, y, z] [(0, (1, .c a)), (1, (1, .c b)), (2, (1, .c c))]) = some (.agg [a, b, c]) := by
  simp [pureO, exec, fillPV, RX.ev, ha, hb, hc, va, vb, vc, splice, chk]

theorem okCells3 {a b c : PV} (h : (PV.agg [a, b, c]).isVal = true) : okCells (.agg [a, b, c]) 3 = true := by simp [okCells, h]
@[simp] theorem cellP3_0 (a b c : PV) : cellP (.agg [a, b, c]) 0 = a := rfl
@[simp] theorem cellP3_1 (a b c : PV) : cellP (.agg [a, b, c]) 1 = b := rfl
@[simp] theorem cellP3_2 (a b c : PV) : cellP (.agg [a, b, c]) 2 = c := rfl

theorem min_run {n : Nat} (k : Nat) (c : Int) (hc : c = k) : pureO (.minmax false [.c (I n), .c (.int .i64 c)]) = some (I (min n k : Nat)) := by
  subst hc
  simp only [pureO, exec, List.map_cons, List.map_nil, RX.ev, foldMM, I]
  by_cases h : n ≤ k
  · have : ¬ (k : Int) < (n : Int) := by omega
    simp [this, Nat.min_eq_left h, chk]
  · have : (k : Int) < (n : Int) := by omega
    simp [this, Nat.min_eq_right (by omega : k ≤ n), chk]

/-! ### The laws' own small functions -/

def Arr.few (a : Arr) : Arr := ⟨a.li, a.ru, a.n.take 202⟩

theorem few_run {v : PV} {a : Arr} (h : IsA v a) : ∃ u, callO B0 .cl (.fn 12 []) [v] = some u ∧ IsA u a.few := by
  obtain ⟨x, rfl, hx⟩ := h.get
  obtain ⟨y, hy, hl⟩ := hx.hi (k := min a.n.length 202) (by omega)
  have e : a.n.take (min a.n.length 202) = a.n.take 202 := by
    rcases Nat.le_total a.n.length 202 with h | h
    · rw [Nat.min_eq_left h, List.take_length, List.take_of_length_le h]
    · rw [Nat.min_eq_right h]
  rw [e] at hl
  refine ⟨.agg [.bool a.li, .bool a.ru, y], ?_, .mk _ _ _ _ hl⟩
  refine call (d := fun _ => .cl) rfl (by decide) (by simp [okVL, h.ok]) rfl ?_
  rw [List.map_cons, List.map_nil, run12, valO_agg, val3 rfl rfl hx.cell, chkO_true]
  simp only [selO_eq, cells_agg', sel3_0, sel3_1, sel3_2, bindO_val, hx.len]
  rw [min_run 202 202 rfl]
  simp only [bindO_val, hy]
  rw [build3 (a := .bool a.li) (b := .bool a.ru) (c := y) rfl rfl hl.cells rfl rfl hl.val]
  simp only [bindO_val, okCells3 (val3 (a := .bool a.li) (b := .bool a.ru) rfl rfl hl.cell), chkO_true, cellP3_0, cellP3_1, cellP3_2]

theorem short_run (s : List UInt8) : callO B0 .cl (.fn 14 []) [.str s] = some (.str (s.take 20)) := by
  refine call (d := fun _ => .cl) rfl (by decide) rfl rfl ?_
  rw [List.map_cons, List.map_nil, run14]
  simp only [pure_lens, bindO_val]
  rw [I_def, min_run 20 20 rfl]
  simp only [bindO_val, I]
  rw [pure_ssl2 (by omega)]
  simp only [bindO_val]
  congr 3
  rcases Nat.le_total s.length 20 with h | h
  · rw [Nat.min_eq_left h, List.take_length, List.take_of_length_le h]
  · rw [Nat.min_eq_right h]

theorem okSls_I (n : Int) : okSls 1 [I n] = true := rfl
theorem slO_one (n : Int) : slO 1 1 [I n] 0 (lenL [I n]) = .sl 1 (ints [n]) false := rfl

def oneV (n : Int) : PV := .agg [.bool false, .bool false, .sl 1 (ints [n]) false]
def oneA (n : Int) : Arr := ⟨false, false, [n]⟩
theorem one_is (n : Int) : IsA (oneV n) (oneA n) := .mk _ _ _ _ (.sl _ _)

theorem one_run (n : Int) : callO B0 .cl (.fn 17 []) [I n] = some (oneV n) := by
  refine call (d := fun _ => .cl) rfl (by decide) rfl rfl ?_
  rw [List.map_cons, List.map_nil, run17, okSls_I, slO_one]
  rfl
theorem one_run' (n : Int) : callO B0 .cl (.fn 60 []) [I n] = some (oneV n) := by
  refine call (d := fun _ => .cl) rfl (by decide) rfl rfl ?_
  rw [List.map_cons, List.map_nil, run60, okSls_I, slO_one]
  rfl

def fillI (r : Bool) : Int := if r then 32 else 0
theorem fill_run (r : Bool) : callO B0 .cl (.fn 26 []) [.bool r] = some (I (fillI r)) := by
  refine call (d := fun _ => .cl) rfl (by decide) rfl rfl ?_
  rw [List.map_cons, List.map_nil, run26]
  cases r <;> rfl

/-! ### Runes, right arrays -/

def rune (n : Int) : Bool := decide (0 ≤ n) && (decide (n ≤ 1114111) && (decide (n < 55296) || decide (57343 < n)))

theorem rune_run (n : Int) : callO B0 .cl (.fn 34 []) [I n] = some (.bool (rune n)) := by
  refine call (d := fun _ => .cl) rfl (by decide) rfl rfl ?_
  rw [List.map_cons, List.map_nil, run34]
  simp only [I_def, I_geq, I_leq, I_lss, I_gtr, bindO_val, iteP_bool]
  unfold rune
  by_cases h1 : 0 ≤ n <;> by_cases h2 : n ≤ 1114111 <;> by_cases h3 : n < 55296 <;> simp [h1, h2, h3]

theorem other_run (n : Int) : callO B0 .cl (.fn 33 []) [I n] = some (.bool (!rune n)) := by
  refine call (d := fun _ => .cl) rfl (by decide) rfl rfl ?_
  rw [List.map_cons, List.map_nil, run33, rune_run]
  simp

/-- The first place at which something holds; -1: there is none. -/
def idxP (p : Int → Bool) (i : Nat) : List Int → Int
  | [] => -1
  | x :: l => if p x then (i : Int) else idxP p (i + 1) l

theorem idxP_any (p : Int → Bool) : ∀ (l : List Int) (i : Nat), decide (0 ≤ idxP p i l) = l.any p := by
  intro l
  induction l with
  | nil => intro i; rfl
  | cons x l ih =>
    intro i
    simp only [idxP, List.any_cons]
    by_cases hx : p x = true
    · simp [hx]
    · have := ih (i + 1)
      simp only [hx, Bool.false_eq_true, if_false, this]
      simp [hx]

theorem drop_cons {α : Type} {l : List α} {i : Nat} (h : i < l.length) : l.drop i = l[i] :: l.drop (i + 1) := by rw [List.drop_eq_getElem_cons h]

theorem index_run {v f : PV} {l : List Int} {p : Int → Bool} (hv : IsL v l) (hl : l.length ≤ 1000000) (hf : okV f = true) (hu : isUndef f = false) (hp : ∀ n ∈ l, callO B0 .cl f [I n] = some (.bool (p n))) :
    callO B0 .cl (.fn 65 []) [v, f] = some (I (idxP p 0 l)) := by
  refine call (d := fun _ => .cl) rfl (by decide) (by simp [okVL, hv.ok, hf]) rfl ?_
  rw [List.map_cons, List.map_cons, List.map_nil, run65, hv.len]
  simp only [bindO_val]
  have h0 : noUndef [v, f, I l.length, .int .i64 0] = true := by simp [noUndef, hv.und, hu, I_def]
  rw [h0, chkO_true]
  have key : ∀ m i, i + m = l.length → loopL (fun z2 => bindO (pureO (.bin .lss .num false (.c (nth z2.1 3)) (.c (nth z2.1 2)))) (fun z3 => iteP z3 (bindO (pureO (.idxAddr 1 (.c (nth z2.1 0)) (.c (nth z2.1 3)))) (fun z4 => bindO (pureO (.load 1 false (.c z4))) (fun z5 => bindO (callO B0 .cl (nth z2.1 1) [z5]) (fun z6 => iteP z6 (bindO (some (nth z2.1 3, z2.2)) (fun z7 => some (.inr z7))) (bindO (pureO (.bin .add .num true (.c (nth z2.1 3)) (.c (.int .i64 1)))) (fun z8 => some (.inl ([nth z2.1 0, nth z2.1 1, nth z2.1 2, z8], z2.2)))))))) (bindO (some (.int .i64 (-1), z2.2)) (fun z9 => some (.inr z9))))) (([v, f, I l.length, I i], ()) : List PV × Unit) = some (I (idxP p i (l.drop i)), ()) := by
    intro m
    induction m with
    | zero =>
      intro i hi
      refine loopL_inr ?_
      have : i = l.length := by omega
      subst this
      simp [idxP]; rfl
    | succ m ih =>
      intro i hi
      have hlt : i < l.length := by omega
      rw [drop_cons hlt]
      by_cases hpx : p l[i] = true
      · refine loopL_inr ?_
        simp only [nth_0, nth_1, nth_2, nth_3, I_lss, bindO_val, iteP_bool]
        rw [if_pos (by simpa using hlt), hv.idx hlt]
        simp [hp _ (List.getElem_mem hlt), hpx, idxP]
      · rw [loopL_inl (s' := ([v, f, I l.length, I ((i + 1 : Nat) : Int)], ()))]
        · rw [ih (i + 1) (by omega)]
          simp [idxP, hpx]
        · simp only [nth_0, nth_1, nth_2, nth_3, I_lss, bindO_val, iteP_bool]
          rw [if_pos (by simpa using hlt), hv.idx hlt]
          simp [hp _ (List.getElem_mem hlt), hpx, I_def, wsucc (by omega : i < 9223372036854775807)]
  have := key l.length 0 (by omega)
  simpa [I_def] using this

theorem any_run {v f : PV} {l : List Int} {p : Int → Bool} (hv : IsL v l) (hl : l.length ≤ 1000000) (hf : okV f = true) (hu : isUndef f = false) (hp : ∀ n ∈ l, callO B0 .cl f [I n] = some (.bool (p n))) :
    callO B0 .cl (.fn 35 []) [v, f] = some (.bool (l.any p)) := by
  refine call (d := fun _ => .cl) rfl (by decide) (by simp [okVL, hv.ok, hf]) rfl ?_
  rw [List.map_cons, List.map_cons, List.map_nil, run35, index_run hv hl hf hu hp]
  simp only [bindO_val, I_def, I_geq, idxP_any]

def Arr.right (a : Arr) : Bool := !(a.ru && a.n.any fun n => !rune n) && (if a.li then decide (a.n.length ≤ 200) else decide (a.n.length = 1))

theorem right_run {v : PV} {a : Arr} (h : IsA v a) (hl : a.n.length ≤ 1000000) : callO B0 .cl (.fn 16 []) [v] = some (.bool a.right) := by
  obtain ⟨x, rfl, hx⟩ := h.get
  refine call (d := fun _ => .cl) rfl (by decide) (by simp [okVL, h.ok]) rfl ?_
  rw [List.map_cons, List.map_nil, run16, valO_agg, val3 rfl rfl hx.cell, chkO_true]
  have ha := any_run (f := .fn 33 []) (p := fun n => !rune n) hx hl rfl rfl fun n _ => other_run n
  simp only [selO_eq, cells_agg', sel3_0, sel3_1, sel3_2, bindO_val, hx.len, ha, iteP_bool, I_def, I_leq, I_eql]
  unfold Arr.right
  have e1 : decide ((a.n.length : Int) ≤ 200) = decide (a.n.length ≤ 200) := by
    by_cases h : a.n.length ≤ 200
    · simp [h]; omega
    · have : ¬ (a.n.length : Int) ≤ 200 := by omega
      simp [h, this]
  have e2 : ((a.n.length : Int) == 1) = decide (a.n.length = 1) := by
    by_cases h : a.n.length = 1
    · simp [h]
    · have : ¬ (a.n.length : Int) = 1 := by omega
      simp [h, this]
  rw [e1, e2]
  cases a.ru <;> cases a.li <;> cases a.n.any (fun n => !rune n) <;> simp

/-! ### The same -/

theorem I_inj {a b : Int} : I a = I b ↔ a = b := by simp [I]

def eqL : List Int → List Int → Bool
  | [], [] => true
  | x :: xs, y :: ys => x == y && eqL xs ys
  | _, _ => false
theorem eqL_iff : ∀ (a b : List Int), eqL a b = true ↔ a = b := by
  intro a
  induction a with
  | nil => intro b; cases b <;> simp [eqL]
  | cons x a ih => intro b; cases b <;> simp [eqL, ih]

theorem equal_run {v u : PV} {l m : List Int} (hv : IsL v l) (hu : IsL u m) (hl : l.length ≤ 1000000) (hm : m.length ≤ 1000000) : callO B0 .cl (.fn 36 []) [v, u] = some (.bool (eqL l m)) := by
  refine call (d := fun _ => .cl) rfl (by decide) (by simp [okVL, hv.ok, hu.ok]) rfl ?_
  rw [List.map_cons, List.map_cons, List.map_nil, run36, hv.len, hu.len]
  simp only [bindO_val, I_neq, iteP_bool]
  by_cases hlm : l.length = m.length
  · have h1 : (((l.length : Int) != (m.length : Int)) = true) ↔ False := by simp [hlm]
    simp only [h1, if_false]
    have h0 : noUndef [v, u, I l.length, .int .i64 0] = true := by simp [noUndef, hv.und, hu.und, I_def]
    rw [h0, chkO_true]
    have key : ∀ k i, i + k = l.length → loopL (fun z5 => bindO (pureO (.bin .lss .num false (.c (nth z5.1 3)) (.c (nth z5.1 2)))) (fun z6 => iteP z6 (bindO (pureO (.idxAddr 1 (.c (nth z5.1 0)) (.c (nth z5.1 3)))) (fun z7 => bindO (pureO (.load 1 false (.c z7))) (fun z8 => bindO (pureO (.idxAddr 1 (.c (nth z5.1 1)) (.c (nth z5.1 3)))) (fun z9 => bindO (pureO (.load 1 false (.c z9))) (fun z10 => bindO (pureO (.bin .neq .num false (.c z8) (.c z10))) (fun z11 => iteP z11 (bindO (some (PV.bool false, z5.2)) (fun z12 => some (.inr z12))) (bindO (pureO (.bin .add .num true (.c (nth z5.1 3)) (.c (.int .i64 1)))) (fun z13 => some (.inl ([nth z5.1 0, nth z5.1 1, nth z5.1 2, z13], z5.2)))))))))) (bindO (some (PV.bool true, z5.2)) (fun z14 => some (.inr z14))))) (([v, u, I l.length, I i], ()) : List PV × Unit) = some (.bool (eqL (l.drop i) (m.drop i)), ()) := by
      intro k
      induction k with
      | zero =>
        intro i hi
        refine loopL_inr ?_
        have h2 : l.drop i = [] := List.drop_eq_nil_of_le (by omega)
        have h3 : m.drop i = [] := List.drop_eq_nil_of_le (by omega)
        have : ¬ (i < l.length) := by omega
        simp [h2, h3, eqL, this]
      | succ k ih =>
        intro i hi
        have hlt : i < l.length := by omega
        have hlt' : i < m.length := by omega
        rw [drop_cons hlt, drop_cons hlt']
        by_cases hx : l[i] = m[i]
        · rw [loopL_inl (s' := ([v, u, I l.length, I ((i + 1 : Nat) : Int)], ()))]
          · rw [ih (i + 1) (by omega)]
            simp [eqL, hx]
          · simp only [nth_0, nth_1, nth_2, nth_3, I_lss, bindO_val, iteP_bool]
            rw [if_pos (by simpa using hlt), hv.idx hlt, hu.idx hlt']
            simp [hx, I_def, wsucc (by omega : i < 9223372036854775807)]
        · refine loopL_inr ?_
          simp only [nth_0, nth_1, nth_2, nth_3, I_lss, bindO_val, iteP_bool]
          rw [if_pos (by simpa using hlt), hv.idx hlt, hu.idx hlt']
          simp [hx, eqL]
    have := key l.length 0 (by omega)
    simpa [I_def] using this
  · have : ¬ (l.length : Int) = (m.length : Int) := by omega
    have h2 : eqL l m = false := by
      cases he : eqL l m with
      | false => rfl
      | true => exact absurd (congrArg List.length ((eqL_iff l m).1 he)) hlm
    simp [this, h2]

def Arr.same (a b : Arr) : Bool := a.li == b.li && (a.ru == b.ru && eqL a.n b.n)

theorem same_run {v u : PV} {a b : Arr} (hv : IsA v a) (hu : IsA u b) (ha : a.n.length ≤ 1000000) (hb : b.n.length ≤ 1000000) : callO B0 .cl (.fn 18 []) [v, u] = some (.bool (a.same b)) := by
  obtain ⟨x, rfl, hx⟩ := hv.get
  obtain ⟨y, rfl, hy⟩ := hu.get
  refine call (d := fun _ => .cl) rfl (by decide) (by simp [okVL, hv.ok, hu.ok]) rfl ?_
  rw [List.map_cons, List.map_cons, List.map_nil, run18, valO_agg, valO_agg, val3 rfl rfl hx.cell, val3 rfl rfl hy.cell, chkO_true, chkO_true]
  simp only [selO_eq, cells_agg', sel3_0, sel3_1, sel3_2, bindO_val, pure_eqb, iteP_bool, equal_run hx hy ha hb]
  unfold Arr.same
  cases (a.li == b.li) <;> cases (a.ru == b.ru) <;> simp
end Go.Ab.Shape

/-
  Shape: the functions of the package.
-/
namespace Go.Ab.Shape
open Go Go.Ab

/-- A call of what is known in parts. -/
theorem call_parts {d : Nat → RSh} {g : FuncId} {fn : RFn} {args : List KV} {u : PV} (ht : tab0 g = some fn) (hg : g ≠ 64 ∧ g ≠ 95 ∧ g ≠ 90 ∧ g ≠ 87 ∧ g ≠ 74) (ha : okKL args) (hu : ∀ x ∈ args, isUnK x = false) (hl : Nat.ble args.length fn.nt = true)
    (hr : runK (cfg0 B0 d) fn .cl noHandler 0 args () = some (u, ())) (hio : fn.io = false := by rfl) : callO B0 .cl (.fn g []) (pvL args) = some u := by
  obtain ⟨r, obs, h1, h2⟩ := runK_ok (cfg_ok d) ht (hn := fun _ => noHandler) noH ha hu (Nat.le_of_ble_eq_true hl) hr
  have hL : B0.L Unit noHandler 0 g (pvL args) () = some (r, obs, ()) := lim_of h2
  have hs : B0.sp g (fun _ => none) (pvL args) = none := sp_none hg _ _
  have hfl : B0.isIo g = false := by show ioFlag tab0 g = false; unfold ioFlag; rw [ht]; exact hio
  unfold callO
  simp only [List.append_nil, spO, hs, hL, hfl, Bool.false_eq_true, if_false]
  exact h1

theorem lend {g : FuncId} {fn : RFn} {fr : Bool} {args : List PV} {u : PV} {d : Nat → RSh} (ht : tab0 g = some fn) (ha : okVL args = true) (hl : Nat.ble args.length fn.nt = true)
    (hr : runK (cfg0 B0 d) fn .cl noHandler 0 (args.map KV.cv) () = some (u, ())) (hfr : u.free = fr) : lendO B0 .cl fr g args = some u :=
  lend_of_run (cfg_ok d) ht ha (Nat.le_of_ble_eq_true hl) hr hfr

theorem freeL_ints (l : List Int) : freeL (ints l) = true := by
  induction l with
  | nil => rfl
  | cons a l ih => simpa [ints, freeL, PV.free, I] using ih

theorem lend_own {g : FuncId} {fn : RFn} {args : List PV} {l : List Int} {d : Nat → RSh} (ht : tab0 g = some fn) (ha : okVL args = true) (hl : Nat.ble args.length fn.nt = true)
    (hr : runK (cfg0 B0 d) fn (.own 1) noHandler 0 (args.map KV.cv) () = some (.sl 1 (ints l) false, ())) : lendO B0 (.own 1) true g args = some (.sl 1 (ints l) false) := by
  obtain ⟨r, obs, h1, h2⟩ := runK_ok (cfg_ok d) ht (hn := fun _ => noHandler) noH (cvL_ok ha) cvL_un (by simpa using Nat.le_of_ble_eq_true hl) hr
  rw [cvL_pv] at h2
  have hL : B0.L Unit noHandler 0 g args () = some (r, obs, ()) := lim_of h2
  have hfree : (r.free && obs.all Ob.free) = true := by
    unfold convO at h1
    simp only [convR] at h1
    split at h1
    · rename_i r' j hr'
      split at hr'
      · rename_i nm k' o n k'' xs ho
        obtain ⟨c1, c2⟩ := chkO_some hr'
        cases c2
        obtain ⟨c3, c4⟩ := chkO_some h1
        injection c4 with c4
        injection c4 with _ c4 _
        subst c4
        simp only [beq_iff_eq] at c3
        match obs, ho, c3 with
        | [o], ho, _ =>
          simp at ho; subst ho
          simp [PV.free, Ob.free, freeL_ints]
        | [], ho, _ => simp at ho
        | _ :: _ :: _, _, c3 => simp at c3
      · cases hr'
    · cases h1
  unfold lendO
  rw [(okVL_names ha).2]
  simp only [Bool.false_eq_true, if_false, hL, hfree, beq_self_eq_true, chkO_true]
  exact h1

/-! ### Errors -/

def errV (c : Int) : PV := if c = 0 then .nilI else .iface 72 (.agg [I c])
theorem errV_0 : errV 0 = .nilI := rfl
theorem errV_ne {c : Int} (h : c ≠ 0) : errV c = .iface 72 (.agg [I c]) := if_neg h
theorem errV_ok (c : Int) : okV (errV c) = true := by unfold errV; split <;> rfl
theorem err_neq (c : Int) : pureO (.bin .neq .iface true (.c (errV c)) (.c .nilI)) = some (.bool (decide (c ≠ 0))) := by
  unfold errV
  by_cases h : c = 0
  · simp only [h, if_true]; rfl
  · rw [if_neg h, show decide (c ≠ 0) = true by simp [h]]; rfl
theorem err_eql (c : Int) : pureO (.bin .eql .iface true (.c (errV c)) (.c .nilI)) = some (.bool (decide (c = 0))) := by
  unfold errV
  by_cases h : c = 0
  · simp only [h, if_true]; rfl
  · rw [if_neg h, show decide (c = 0) = false by simp [h]]; rfl
theorem build1 (c : Int) : pureO (.build [.int .i64 0] [(0, (1, .c (.int .i64 c)))]) = some (.agg [I c]) := rfl
theorem build0 : pureO (.build [.bool false, .bool false, .nilS] []) = some (.agg [.bool false, .bool false, .nilS]) := rfl

theorem told_run (c : Int) : callO B0 .cl (.fn 32 []) [errV c] = some (I c) := by
  refine call (d := fun _ => .cl) rfl (by decide) (by simp [okVL, errV_ok]) rfl ?_
  rw [List.map_cons, List.map_nil, run32]
  unfold errV
  by_cases h : c = 0
  · subst h; rfl
  · simp only [h, if_false]; rfl

/-! ### Right ones -/

theorem areRight_el {v : PV} {a : Arr} (h : IsA v a) (hl : a.n.length ≤ 1000000) : callO B0 .cl (.fn 63 []) [v] = some (.bool (!a.right)) := by
  obtain ⟨x, rfl, hx⟩ := h.get
  refine call (d := fun _ => .cl) rfl (by decide) (by simp [okVL, h.ok]) rfl ?_
  rw [List.map_cons, List.map_nil, run63, valO_agg, val3 rfl rfl hx.cell, chkO_true]
  simp only [selO_eq, cells_agg', sel3_a, bindO_val, right_run h hl, pure_not]

theorem lidx3 {xs : List PV} {j : Nat} {f : Bool} {a b c : PV} (h : xs[j]? = some (.agg [a, b, c])) : pureO (.idxAddr 3 (.c (.sl 3 xs f)) (.c (I j))) = some (.ptr [a, b, c] 0) := by
  rw [I, pure_lidx (by omega) h]; rfl
theorem load3 (a b c : PV) : pureO (.load 3 true (.c (.ptr [a, b, c] 0))) = some (.agg [a, b, c]) := rfl

theorem right1 {v : PV} {a : Arr} (h : IsA v a) (hl : a.n.length ≤ 1000000) : lendO B0 .cl true 31 [.sl 3 [v] false] = some (.bool a.right) := by
  have hi : callO B0 .cl (.fn 82 []) [.sl 3 [v] false, .fn 63 []] = some (I (if a.right then -1 else 0)) := by
    refine call (d := fun _ => .cl) rfl (by decide) (by simp [okVL, okV, h.ok]) rfl ?_
    rw [List.map_cons, List.map_cons, List.map_nil, run82, pure_lenl]
    simp only [bindO_val]
    rw [show noUndef [.sl 3 [v] false, .fn 63 [], .int .i64 (([v].length : Nat) : Int), .int .i64 0] = true from rfl, chkO_true]
    have he := areRight_el h hl
    obtain ⟨x, rfl, hx⟩ := h.get
    cases hr : a.right with
    | false =>
      refine loopL_inr ?_
      simp only [nth_0, nth_1, nth_2, nth_3, I_def, I_lss, bindO_val, iteP_bool]
      rw [show pureO (.idxAddr 3 (.c (.sl 3 [.agg [.bool a.li, .bool a.ru, x]] false)) (.c (I 0))) = some (.ptr [.bool a.li, .bool a.ru, x] 0) from lidx3 (j := 0) rfl]
      simp only [bindO_val, load3, he, hr, Bool.not_false, iteP_bool]
      rfl
    | true =>
      rw [loopL_inl (s' := ([.sl 3 [.agg [.bool a.li, .bool a.ru, x]] false, .fn 63 [], I 1, I 1], ()))]
      · exact loopL_inr rfl
      · simp only [nth_0, nth_1, nth_2, nth_3, I_def, I_lss, bindO_val, iteP_bool]
        rw [show pureO (.idxAddr 3 (.c (.sl 3 [.agg [.bool a.li, .bool a.ru, x]] false)) (.c (I 0))) = some (.ptr [.bool a.li, .bool a.ru, x] 0) from lidx3 (j := 0) rfl]
        simp only [bindO_val, load3, he, hr, Bool.not_true, iteP_bool]
        rfl
  have hc : callO B0 .cl (.fn 62 []) [.sl 3 [v] false, .fn 63 []] = some (.bool (!a.right)) := by
    refine call (d := fun _ => .cl) rfl (by decide) (by simp [okVL, okV, h.ok]) rfl ?_
    rw [List.map_cons, List.map_cons, List.map_nil, run62, hi]
    simp only [bindO_val, I_def, I_geq]
    cases a.right <;> rfl
  refine lend (d := fun _ => .cl) rfl (by simp [okVL, okV, h.ok]) rfl ?_ rfl
  rw [List.map_cons, List.map_nil, run31, hc]
  cases a.right <;> rfl

theorem right2 {v u : PV} {a b : Arr} (h : IsA v a) (hu : IsA u b) (hl : a.n.length ≤ 1000000) (hm : b.n.length ≤ 1000000) : lendO B0 .cl true 31 [.sl 3 [v, u] false] = some (.bool (a.right && b.right)) := by
  have hi : callO B0 .cl (.fn 82 []) [.sl 3 [v, u] false, .fn 63 []] = some (I (if a.right then (if b.right then -1 else 1) else 0)) := by
    refine call (d := fun _ => .cl) rfl (by decide) (by simp [okVL, okV, h.ok, hu.ok]) rfl ?_
    rw [List.map_cons, List.map_cons, List.map_nil, run82, pure_lenl]
    simp only [bindO_val]
    rw [show noUndef [.sl 3 [v, u] false, .fn 63 [], .int .i64 (([v, u].length : Nat) : Int), .int .i64 0] = true from rfl, chkO_true]
    have he := areRight_el h hl
    have he2 := areRight_el hu hm
    obtain ⟨x, rfl, hx⟩ := h.get
    obtain ⟨y, rfl, hy⟩ := hu.get
    have i0 : pureO (.idxAddr 3 (.c (.sl 3 [.agg [.bool a.li, .bool a.ru, x], .agg [.bool b.li, .bool b.ru, y]] false)) (.c (I 0))) = some (.ptr [.bool a.li, .bool a.ru, x] 0) := lidx3 (j := 0) rfl
    have i1 : pureO (.idxAddr 3 (.c (.sl 3 [.agg [.bool a.li, .bool a.ru, x], .agg [.bool b.li, .bool b.ru, y]] false)) (.c (I 1))) = some (.ptr [.bool b.li, .bool b.ru, y] 0) := lidx3 (j := 1) rfl
    cases hr : a.right with
    | false =>
      refine loopL_inr ?_
      simp only [nth_0, nth_1, nth_2, nth_3, I_def, I_lss, bindO_val, iteP_bool]
      rw [i0]
      simp only [bindO_val, load3, he, hr, Bool.not_false, iteP_bool]
      rfl
    | true =>
      rw [loopL_inl (s' := ([.sl 3 [.agg [.bool a.li, .bool a.ru, x], .agg [.bool b.li, .bool b.ru, y]] false, .fn 63 [], I 2, I 1], ()))]
      · cases hr2 : b.right with
        | false =>
          refine loopL_inr ?_
          simp only [nth_0, nth_1, nth_2, nth_3, I_def, I_lss, bindO_val, iteP_bool]
          rw [i1]
          simp only [bindO_val, load3, he2, hr2, Bool.not_false, iteP_bool]
          rfl
        | true =>
          rw [loopL_inl (s' := ([.sl 3 [.agg [.bool a.li, .bool a.ru, x], .agg [.bool b.li, .bool b.ru, y]] false, .fn 63 [], I 2, I 2], ()))]
          · exact loopL_inr rfl
          · simp only [nth_0, nth_1, nth_2, nth_3, I_def, I_lss, bindO_val, iteP_bool]
            rw [i1]
            simp only [bindO_val, load3, he2, hr2, Bool.not_true, iteP_bool]
            rfl
      · simp only [nth_0, nth_1, nth_2, nth_3, I_def, I_lss, bindO_val, iteP_bool]
        rw [i0]
        simp only [bindO_val, load3, he, hr, Bool.not_true, iteP_bool]
        rfl
  have hc : callO B0 .cl (.fn 62 []) [.sl 3 [v, u] false, .fn 63 []] = some (.bool (!(a.right && b.right))) := by
    refine call (d := fun _ => .cl) rfl (by decide) (by simp [okVL, okV, h.ok, hu.ok]) rfl ?_
    rw [List.map_cons, List.map_cons, List.map_nil, run62, hi]
    simp only [bindO_val, I_def, I_geq]
    cases a.right <;> cases b.right <;> rfl
  refine lend (d := fun _ => .cl) rfl (by simp [okVL, okV, h.ok, hu.ok]) rfl ?_ rfl
  rw [List.map_cons, List.map_nil, run31, hc]
  cases a.right <;> cases b.right <;> rfl

/-! ### What glyphs do -/

def gR : List UInt8 := [226, 141, 180]
def gI : List UInt8 := [226, 141, 179]
def gC : List UInt8 := [44]
def gT : List UInt8 := [226, 140, 189]
def gU : List UInt8 := [226, 134, 145]
def gD : List UInt8 := [226, 134, 147]
def gN : List UInt8 := [226, 137, 162]

def monF (g : List UInt8) : PV :=
  if g = gR then .fn 46 [] else if g = gI then .fn 48 [] else if g = gC then .fn 50 [] else if g = gT then .fn 54 [] else if g = gU then .fn 56 [] else if g = gN then .fn 59 [] else .nilF
def dyF (g : List UInt8) : PV :=
  if g = gR then .fn 47 [] else if g = gI then .fn 49 [] else if g = gC then .fn 53 [] else if g = gT then .fn 55 [] else if g = gU then .fn 57 [] else if g = gD then .fn 58 [] else if g = gN then .fn 61 [] else .nilF

def funs : PV := .imap [.str gR, .agg [.fn 46 [], .fn 47 []], .str gI, .agg [.fn 48 [], .fn 49 []], .str gC, .agg [.fn 50 [], .fn 53 []], .str gT, .agg [.fn 54 [], .fn 55 []], .str gU, .agg [.fn 56 [], .fn 57 []], .str gD, .agg [.nilF, .fn 58 []], .str gN, .agg [.fn 59 [], .fn 61 []]]

theorem funs_run : callO B0 .cl (.fn 30 []) [] = some funs := by
  refine call (d := fun _ => .cl) rfl (by decide) rfl rfl ?_
  rw [List.map_nil, run30]
  rfl

theorem find_no {g x : List UInt8} {v : PV} {es : List PV} (h : ¬ g = x) : findE (.str g) (.str x :: v :: es) = findE (.str g) es := by
  have : (g == x) = false := by simp [h]
  simp [findE, keyEq, this]

theorem look_run (g : List UInt8) : pureO (.lookup .str (.agg [.nilF, .nilF]) false (.c funs) (.c (.str g))) = some (.agg [monF g, dyF g]) := by
  unfold monF dyF
  by_cases h1 : g = gR
  · subst h1; rfl
  by_cases h2 : g = gI
  · subst h2; rfl
  by_cases h3 : g = gC
  · subst h3; rfl
  by_cases h4 : g = gT
  · subst h4; rfl
  by_cases h5 : g = gU
  · subst h5; rfl
  by_cases h6 : g = gD
  · subst h6; rfl
  by_cases h7 : g = gN
  · subst h7; rfl
  simp only [h1, h2, h3, h4, h5, h6, h7, if_false]
  unfold funs
  simp only [pureO, exec, RX.ev]
  rw [find_no h1, find_no h2, find_no h3, find_no h4, find_no h5, find_no h6, find_no h7]
  rfl
end Go.Ab.Shape

/-
  Shape: functions of one array.
-/
namespace Go.Ab.Shape
open Go Go.Ab

/-! ### The one item -/

def firstE (a : Arr) : Int := if a.n.length ≠ 1 then 111 else if a.ru then 102 else 0
def firstN (a : Arr) : Int := if firstE a = 0 then a.n.headD 0 else 0

theorem first_run {v : PV} {a : Arr} (h : IsA v a) (hl : a.n.length ≤ 1000000) : callO B0 .cl (.fn 77 []) [v] = some (.tup [I (firstN a), errV (firstE a)]) := by
  obtain ⟨x, rfl, hx⟩ := h.get
  refine call (d := fun _ => .cl) rfl (by decide) (by simp [okVL, h.ok]) rfl ?_
  rw [List.map_cons, List.map_nil, run77, valO_agg, val3 rfl rfl hx.cell, chkO_true]
  simp only [selO_eq, cells_agg', sel3_0, sel3_1, sel3_2, bindO_val, hx.len, I_def, I_neq, iteP_bool]
  unfold firstN firstE
  by_cases h1 : a.n.length = 1
  · have e : (((a.n.length : Int) != 1) = true) ↔ False := by simp [h1]
    have e2 : ¬ (a.n.length ≠ 1) := by simp [h1]
    simp only [e, e2, if_false]
    cases hr : a.ru with
    | true =>
      simp only [if_true]
      rfl
    | false =>
      simp only [Bool.false_eq_true, if_false]
      have hi := hx.idx (i := 0) (by omega)
      rw [show ((0 : Nat) : Int) = 0 from rfl] at hi
      rw [hi]
      simp only [bindO_val, load_I]
      have : a.n.headD 0 = a.n[0]'(by omega) := by
        rw [List.headD_eq_head?_getD, List.head?_eq_getElem?, List.getElem?_eq_getElem (by omega)]; rfl
      rw [this]
      rfl
  · have e : (((a.n.length : Int) != 1) = true) := by simp; omega
    simp only [e, if_true]
    rw [if_pos h1]
    rfl

/-! ### Arrays made -/

theorem build3' {b c : PV} {x y z : PV} (hb : b.cells = [b]) (hc : c.cells = [c]) (vb : b.isVal = true) (vc : c.isVal = true) :
    pureO (.build [x, y, z] [(0, (1, .c b)), (2, (1, .c c))]) = some (.agg [b, y, c]) := by
  simp [pureO, exec, fillPV, RX.ev, hb, hc, vb, vc, splice, chk]

def numsV (v : PV) : PV := .agg [.bool true, .bool false, v]
def likeV (r : Bool) (v : PV) : PV := .agg [.bool true, .bool r, v]

theorem numbers_nil : callO B0 .cl (.fn 75 []) [.nilS] = some (numsV .nilS) := by
  refine call (d := fun _ => .cl) rfl (by decide) rfl rfl ?_
  rw [List.map_cons, List.map_nil, run75, build3' rfl rfl rfl rfl]
  rfl
theorem numbers_lend (l : List Int) (f : Bool) : lendO B0 .cl false 75 [.sl 1 (ints l) f] = some (numsV (.sl 1 (ints l) f)) := by
  refine lend (d := fun _ => .cl) rfl (by simp [okVL, okV, okVL_ints]) rfl ?_ rfl
  rw [List.map_cons, List.map_nil, run75, build3' rfl rfl rfl rfl]
  rfl
theorem like_lend {v : PV} {a : Arr} (h : IsA v a) (l : List Int) (f : Bool) : lendO B0 .cl false 51 [v, .sl 1 (ints l) f] = some (likeV a.ru (.sl 1 (ints l) f)) := by
  obtain ⟨x, rfl, hx⟩ := h.get
  refine lend (d := fun _ => .cl) rfl (by simp [okVL, okV, okVL_ints, hx.ok]) rfl ?_ rfl
  rw [List.map_cons, List.map_cons, List.map_nil, run51, valO_agg, val3 rfl rfl hx.cell, chkO_true]
  simp only [selO_eq, cells_agg', sel3_1, bindO_val]
  rw [build3 rfl rfl rfl rfl rfl rfl]
  rfl
theorem like_call {v : PV} {a : Arr} (h : IsA v a) : callO B0 .cl (.fn 51 []) [v, .sl 1 [] false] = some (likeV a.ru (.sl 1 (ints []) false)) := by
  obtain ⟨x, rfl, hx⟩ := h.get
  refine call (d := fun _ => .cl) rfl (by decide) (by simp [okVL, okV, hx.ok]) rfl ?_
  rw [List.map_cons, List.map_cons, List.map_nil, run51, valO_agg, val3 rfl rfl hx.cell, chkO_true]
  simp only [selO_eq, cells_agg', sel3_1, bindO_val]
  rw [build3 rfl rfl rfl rfl rfl rfl]
  rfl

theorem mkSO_I {n : Nat} (h : n ≤ 1000000) : mkSO (I n) (I n) = some n := by
  have : n ≤ mostLen := by unfold mostLen; omega
  simp [mkSO, I, natOf, chkO, this]

theorem own_run {v : PV} {a : Arr} (h : IsA v a) (hl : a.n.length ≤ 1000000) : callO B0 (.own 1) (.fn 52 []) [v] = some (.sl 1 (ints a.n) false) := by
  obtain ⟨x, rfl, hx⟩ := h.get
  refine call (d := fun _ => .cl) rfl (by decide) (by simp [okVL, h.ok]) rfl ?_
  rw [List.map_cons, List.map_nil, run52, valO_agg, val3 rfl rfl hx.cell, chkO_true]
  simp only [selO_eq, cells_agg', sel3_2, bindO_val, hx.len, mkSO_I hl, hx.elems]
  have e : catL (catL (takeL 0 (replL a.n.length (.int .i64 0))) (takeL a.n.length (ints a.n))) (dropL (addN 0 (lenL (takeL a.n.length (ints a.n)))) (replL a.n.length (.int .i64 0))) = ints a.n := by
    simp [ints_len, List.take_of_length_le]
  rw [e]
  simp [ints_len]

/-! ### Functions of one -/

/-- What comes of a call: an array, and why there is none. -/
def Gives (g : FuncId) (v : PV) (r : Arr) (c : Int) : Prop := ∃ y, callO B0 .cl (.fn g []) [v] = some (.tup [y, errV c]) ∧ IsA y r

theorem okCells_is {y : PV} {a : Arr} (h : IsA y a) : okCells y 3 = true := by
  obtain ⟨x, rfl, hx⟩ := h.get
  exact okCells3 (val3 rfl rfl hx.cell)
theorem cells_is {y : PV} {a : Arr} (h : IsA y a) : PV.agg [cellP y 0, cellP y 1, cellP y 2] = y := by
  obtain ⟨x, rfl, hx⟩ := h.get
  rfl

def sizeA (a : Arr) : Arr := ⟨true, false, if a.li then [(a.n.length : Int)] else []⟩
theorem size_run {v : PV} {a : Arr} (h : IsA v a) (hl : a.n.length ≤ 1000000) : Gives 46 v (sizeA a) 0 := by
  obtain ⟨x, rfl, hx⟩ := h.get
  cases hli : a.li with
  | false =>
    refine ⟨numsV .nilS, ?_, by unfold sizeA; rw [hli]; exact .mk _ _ _ _ .nil⟩
    rw [← hli]
    refine call (d := fun _ => .cl) rfl (by decide) (by simp [okVL, h.ok]) rfl ?_
    rw [List.map_cons, List.map_nil, run46, valO_agg, val3 rfl rfl hx.cell, chkO_true]
    simp only [selO_eq, cells_agg', sel3_0, bindO_val, pure_not, hli, iteP_bool, Bool.not_false, if_true, numbers_nil]
    rfl
  | true =>
    refine ⟨numsV (.sl 1 (ints [(a.n.length : Int)]) false), ?_, by unfold sizeA; rw [hli]; exact .mk _ _ _ _ (.sl _ _)⟩
    rw [← hli]
    refine call (d := fun _ => .cl) rfl (by decide) (by simp [okVL, h.ok]) rfl ?_
    rw [List.map_cons, List.map_nil, run46, valO_agg, val3 rfl rfl hx.cell, chkO_true]
    simp only [selO_eq, cells_agg', sel3_0, sel3_2, bindO_val, pure_not, hli, iteP_bool, Bool.not_true, Bool.false_eq_true, if_false, hx.len, okSls_I, chkO_true, slO_one, numbers_lend]
    rfl

theorem comma_run {v : PV} {a : Arr} (h : IsA v a) (hl : a.n.length ≤ 1000000) : Gives 50 v ⟨true, a.ru, a.n⟩ 0 := by
  obtain ⟨x, rfl, hx⟩ := h.get
  refine ⟨likeV a.ru (.sl 1 (ints a.n) false), ?_, .mk _ _ _ _ (.sl _ _)⟩
  refine call (d := fun _ => .cl) rfl (by decide) (by simp [okVL, h.ok]) rfl ?_
  rw [List.map_cons, List.map_nil, run50, valO_agg, val3 rfl rfl hx.cell, chkO_true]
  simp only [selO_eq, cells_agg', sel3_a, bindO_val, own_run h hl, itemsP_sl]
  have e : slO 1 1 (ints a.n) 0 (lenL (ints a.n)) = .sl 1 (ints a.n) false := by simp [slO]
  rw [e, like_lend h]
  rfl

theorem slO_all (l : List Int) : slO 1 1 (ints l) 0 (lenL (ints l)) = .sl 1 (ints l) false := by simp [slO]
theorem slO_take (l : List Int) {k : Nat} (hk : k ≤ l.length) : slO 1 1 (ints l) 0 k = .sl 1 (ints (l.take k)) false := by
  have : k ≤ (ints l).length := by rw [ints_len]; exact hk
  simp [slO, this, ints_take]
theorem slO_drop (l : List Int) {o n : Nat} (hk : o + n ≤ l.length) : slO 1 1 (ints l) o n = .sl 1 (ints ((l.drop o).take n)) false := by
  have : o + n ≤ (ints l).length := by rw [ints_len]; exact hk
  simp [slO, this, ints_take, ints_drop]

def headA (a : Arr) : Arr := ⟨false, a.ru, (a.n ++ [fillI a.ru]).take 1⟩
theorem head_run {v : PV} {a : Arr} (h : IsA v a) (hl : a.n.length ≤ 1000000) : Gives 56 v (headA a) 0 := by
  obtain ⟨x, rfl, hx⟩ := h.get
  refine ⟨.agg [.bool false, .bool a.ru, .sl 1 (ints ((a.n ++ [fillI a.ru]).take 1)) false], ?_, .mk _ _ _ _ (.sl _ _)⟩
  refine call (d := fun _ => .cl) rfl (by decide) (by simp [okVL, h.ok]) rfl ?_
  rw [List.map_cons, List.map_nil, run56, valO_agg, val3 rfl rfl hx.cell, chkO_true]
  simp only [selO_eq, cells_agg', sel3_a, sel3_1, bindO_val, own_run h hl, fill_run, itemsP_sl, okSls_I, chkO_true]
  have e0 : leN (addN 0 (lenL [I (fillI a.ru)])) (lenL [I (fillI a.ru)]) = true := rfl
  have e1 : andB (leN (lenL (ints a.n)) (lenL (ints a.n))) (leN (addN (lenL (ints a.n)) (lenL (takeL (lenL [I (fillI a.ru)]) (dropL 0 [I (fillI a.ru)])))) 2147483648) = true := by
    have : a.n.length + 1 ≤ 2147483648 := by omega
    simp [ints_len, this]
  have e2 : addN (lenL (ints a.n)) (lenL (takeL (lenL [I (fillI a.ru)]) (dropL 0 [I (fillI a.ru)]))) = a.n.length + 1 := by simp [ints_len]
  have e3 : catL (takeL (lenL (ints a.n)) (ints a.n)) (takeL (lenL [I (fillI a.ru)]) (dropL 0 [I (fillI a.ru)])) = ints (a.n ++ [fillI a.ru]) := by
    rw [show takeL (lenL [I (fillI a.ru)]) (dropL 0 [I (fillI a.ru)]) = [I (fillI a.ru)] from rfl]
    simp [ints, List.take_of_length_le]
  have e4 : ∀ k, 1 ≤ k → boundO (some (.int .i64 1)) (a.n.length + 1) k = some 1 := by intro k hk; simp [boundO, bound, natOf, chk, hk]
  rw [e0, e1, e2, e3, e4 _ (by omega)]
  simp only [chkO_true, bindO_val]
  rw [e4 _ (by omega)]
  simp only [bindO_val]
  rw [slO_take _ (by simp)]
  have e5 : okCells (PV.bool a.ru) 1 = true := rfl
  have e6 : cellP (PV.bool a.ru) 0 = .bool a.ru := rfl
  rw [e5, e6, chkO_true]
  have e7 : okU (.tup [.agg [.bool false, .bool a.ru, .sl 1 (ints ((a.n ++ [fillI a.ru]).take 1)) false], .nilI]) = true := by simp [okU, okV, okVL, okVL_ints]
  rw [e7, chkO_true]
  rfl

theorem len_run {v : PV} {a : Arr} (h : IsA v a) : Gives 59 v (oneA a.n.length) 0 := by
  obtain ⟨x, rfl, hx⟩ := h.get
  refine ⟨oneV a.n.length, ?_, one_is _⟩
  refine call (d := fun _ => .cl) rfl (by decide) (by simp [okVL, h.ok]) rfl ?_
  rw [List.map_cons, List.map_nil, run59, valO_agg, val3 rfl rfl hx.cell, chkO_true]
  simp only [selO_eq, cells_agg', sel3_2, bindO_val, hx.len, one_run']
  rfl

/-! ### Numbers up to one -/

def upto (n : Nat) : List Int := (List.range n).map fun i => ((i + 1 : Nat) : Int)
theorem upto_succ (n : Nat) : upto (n + 1) = upto n ++ [((n + 1 : Nat) : Int)] := by simp [upto, List.range_succ]
theorem upto_len (n : Nat) : (upto n).length = n := by simp [upto]

def countE (a : Arr) : Int := if firstE a ≠ 0 then firstE a else if firstN a < 0 then 102 else if 200 < firstN a then 113 else 0
def countA (a : Arr) : Arr := if countE a = 0 then ⟨true, false, upto (firstN a).toNat⟩ else noArr

theorem count_run {v : PV} {a : Arr} (h : IsA v a) (hl : a.n.length ≤ 1000000) : Gives 48 v (countA a) (countE a) := by
  have hfr := first_run h hl
  obtain ⟨x, rfl, hx⟩ := h.get
  by_cases h0 : countE a = 0
  · refine ⟨numsV (.sl 1 (ints (upto (firstN a).toNat)) false), ?_, by unfold countA; rw [if_pos h0]; exact .mk _ _ _ _ (.sl _ _)⟩
    have h1 : firstE a = 0 := by
      unfold countE at h0
      by_cases h1 : firstE a = 0
      · exact h1
      · rw [if_pos h1] at h0; exact absurd h0 h1
    have h2 : ¬ firstN a < 0 := by
      intro h2
      unfold countE at h0
      rw [if_neg (by simpa using h1), if_pos h2] at h0; cases h0
    have h3 : ¬ 200 < firstN a := by
      intro h3
      unfold countE at h0
      rw [if_neg (by simpa using h1), if_neg h2, if_pos h3] at h0; cases h0
    rw [h0]
    refine call (d := fun _ => .cl) rfl (by decide) (by simp [okVL, h.ok]) rfl ?_
    rw [List.map_cons, List.map_nil, run48, valO_agg, val3 rfl rfl hx.cell, chkO_true]
    simp only [selO_eq, cells_agg', sel3_a, bindO_val, hfr, pure_tup, List.getElem?_cons_zero, List.getElem?_cons_succ, err_neq, iteP_bool, h1]
    simp only [ne_eq, not_true_eq_false, decide_false, Bool.false_eq_true, if_false, I_def, I_lss, I_gtr, bindO_val, iteP_bool, h2, h3, numbers_nil]
    rw [show okCells (numsV .nilS) 3 = true from rfl, show cellP (numsV .nilS) 2 = .nilS from rfl, show cellP (numsV .nilS) 0 = .bool true from rfl, show cellP (numsV .nilS) 1 = .bool false from rfl, chkO_true]
    obtain ⟨N, hN⟩ : ∃ N : Nat, firstN a = N := ⟨(firstN a).toNat, by omega⟩
    rw [hN] at h3 ⊢
    have hN2 : N ≤ 200 := by omega
    rw [show noUndef [I N, I 0] = true from rfl, chkO_true]
    simp only [nilO]
    have := loop_run (step := (fun z14 => bindO (pureO (.bin .lss .num false (.c (nth z14.1 1)) (.c (nth z14.1 0)))) (fun z15 => iteP z15 (bindO (pureO (.bin .add .num true (.c (nth z14.1 1)) (.c (I 1)))) (fun z16 =>
      chkO (okSls 1 [z16]) (chkO (leN (addN 0 (lenL [z16])) (lenL [z16])) (chkO (andB (leN (natP (nth z14.1 7)) (lenL (itemsP (nth z14.1 8)))) (leN (addN (natP (nth z14.1 7)) (lenL
      (takeL (lenL [z16]) (dropL 0 [z16])))) 2147483648)) (bindO (pureO (.bin .add .num true (.c (nth z14.1 1)) (.c (I 1)))) (fun z17 => some (.inl ([nth z14.1 0, z17, nth z14.1
      2, nth z14.1 3, nth z14.1 4, nth z14.1 5, nth z14.1 6, nI (addN (natP (nth z14.1 7)) (lenL (takeL (lenL [z16]) (dropL 0 [z16])))), .sl 1 (catL (takeL (natP (nth z14.1 7)) (itemsP
      (nth z14.1 8))) (takeL (lenL [z16]) (dropL 0 [z16]))) false], z14.2)))))))) (bindO (chkO (okU (PV.tup [.agg [nth z14.1 5, nth z14.1 6, slO 1 1 (itemsP (nth z14.1 8)) 0 (natP (nth
      z14.1 7))], .nilI])) (some (PV.tup [.agg [nth z14.1 5, nth z14.1 6, slO 1 1 (itemsP (nth z14.1 8)) 0 (natP (nth z14.1 7))], .nilI], z14.2))) (fun z18 => some (.inr z18))))))
      (s0 := (([I N, I 0, .bool false, .bool false, .nilS, .bool true, .bool false, nI 0, .sl 1 [] false], ()) : List PV × Unit)) (r := (.tup [numsV (.sl 1 (ints (upto N)) false), .nilI], ()))
      (fun i => ([I N, I i, .bool false, .bool false, .nilS, .bool true, .bool false, I i, .sl 1 (ints (upto i)) false], ())) N rfl (fun i hlt => ?_) ?_
    · exact this
    · simp only [nth_0, nth_1, nth_2, nth_3, nth_4, nth_5, nth_6, nth_7, nth_8, I_lss, bindO_val, iteP_bool]
      rw [if_pos (by simpa using hlt)]
      simp only [I_add, bindO_val, wsucc (by omega : i < 9223372036854775807), okSls_I, chkO_true]
      rw [show leN (addN 0 (lenL [I ((i + 1 : Nat) : Int)])) (lenL [I ((i + 1 : Nat) : Int)]) = true from rfl, chkO_true]
      have e1 : andB (leN (natP (I i)) (lenL (itemsP (.sl 1 (ints (upto i)) false)))) (leN (addN (natP (I i)) (lenL (takeL (lenL [I ((i + 1 : Nat) : Int)]) (dropL 0 [I ((i + 1 : Nat) : Int)])))) 2147483648) = true := by
        have : i + 1 ≤ 2147483648 := by omega
        simp [ints_len, upto_len, this]
      rw [e1, chkO_true]
      have e2 : addN (natP (I i)) (lenL (takeL (lenL [I ((i + 1 : Nat) : Int)]) (dropL 0 [I ((i + 1 : Nat) : Int)]))) = i + 1 := by simp
      have e3 : catL (takeL (natP (I i)) (itemsP (.sl 1 (ints (upto i)) false))) (takeL (lenL [I ((i + 1 : Nat) : Int)]) (dropL 0 [I ((i + 1 : Nat) : Int)])) = ints (upto (i + 1)) := by
        rw [upto_succ]
        have : (ints (upto i)).take i = ints (upto i) := List.take_of_length_le (by simp [ints_len, upto_len])
        simp [ints] at this ⊢
        simpa using this
      rw [e2, e3]
      rfl
    · simp only [nth_0, nth_1, nth_2, nth_3, nth_4, nth_5, nth_6, nth_7, nth_8, I_lss, bindO_val, iteP_bool, itemsP_sl]
      rw [if_neg (by simp)]
      have e1 : slO 1 1 (ints (upto N)) 0 (natP (I N)) = .sl 1 (ints (upto N)) false := by
        have := slO_take (upto N) (k := N) (by rw [upto_len]; exact Nat.le_refl _)
        rw [List.take_of_length_le (by rw [upto_len]; exact Nat.le_refl _)] at this
        simpa using this
      rw [e1]
      have e7 : okU (.tup [.agg [.bool true, .bool false, .sl 1 (ints (upto N)) false], .nilI]) = true := by simp [okU, okV, okVL, okVL_ints]
      rw [e7]
      rfl
  · refine ⟨.agg [.bool false, .bool false, .nilS], ?_, by unfold countA; rw [if_neg h0]; exact noArr_is⟩
    refine call (d := fun _ => .cl) rfl (by decide) (by simp [okVL, h.ok]) rfl ?_
    rw [List.map_cons, List.map_nil, run48, valO_agg, val3 rfl rfl hx.cell, chkO_true]
    simp only [selO_eq, cells_agg', sel3_a, bindO_val, hfr, pure_tup, List.getElem?_cons_zero, List.getElem?_cons_succ, err_neq, iteP_bool]
    unfold countE at h0 ⊢
    by_cases h1 : firstE a = 0
    · simp only [h1, ne_eq, not_true_eq_false, decide_false, Bool.false_eq_true, if_false, I_def, I_lss, I_gtr, bindO_val, iteP_bool] at h0 ⊢
      by_cases h2 : firstN a < 0
      · simp only [h2, decide_true, if_true]; rfl
      · simp only [h2, decide_false, Bool.false_eq_true, if_false] at h0 ⊢
        by_cases h3 : 200 < firstN a
        · simp only [h3, decide_true, if_true]; rfl
        · simp only [h3, if_false] at h0; exact absurd trivial h0
    · simp only [h1, ne_eq, not_false_eq_true, decide_true, if_true]; rfl
end Go.Ab.Shape

/-
  Shape: an array, the last item first.
-/
namespace Go.Ab.Shape
open Go Go.Ab

/-- So many items at each end have changed places. -/
def revI (i : Nat) (l : List Int) : List Int := (List.range l.length).map fun k => if k < i ∨ l.length - i ≤ k then l.getD (l.length - 1 - k) 0 else l.getD k 0

theorem revI_len (i : Nat) (l : List Int) : (revI i l).length = l.length := by simp [revI]
theorem revI_get {i : Nat} {l : List Int} {k : Nat} (h : k < l.length) : (revI i l)[k]? = some (if k < i ∨ l.length - i ≤ k then l.getD (l.length - 1 - k) 0 else l.getD k 0) := by
  unfold revI
  rw [List.getElem?_map, List.getElem?_range h]
  rfl
theorem revI_zero (l : List Int) : revI 0 l = l := by
  apply List.ext_getElem?
  intro k
  by_cases h : k < l.length
  · rw [revI_get h]
    have : ¬ (k < 0 ∨ l.length - 0 ≤ k) := by omega
    rw [if_neg this, List.getD_eq_getElem?_getD, List.getElem?_eq_getElem h]; rfl
  · rw [List.getElem?_eq_none (by rw [revI_len]; omega), List.getElem?_eq_none (by omega)]
theorem revI_end (l : List Int) : revI (l.length / 2) l = l.reverse := by
  apply List.ext_getElem?
  intro k
  by_cases h : k < l.length
  · rw [revI_get h, List.getElem?_reverse h]
    have e : ∀ m, m < l.length → l[m]? = some (l.getD m 0) := fun m hm => by rw [List.getD_eq_getElem?_getD, List.getElem?_eq_getElem hm]; rfl
    rw [e _ (by omega)]
    by_cases hc : k < l.length / 2 ∨ l.length - l.length / 2 ≤ k
    · rw [if_pos hc]
    · rw [if_neg hc]
      have : k = l.length - 1 - k := by omega
      rw [← this]
  · rw [List.getElem?_eq_none (by rw [revI_len]; omega), List.getElem?_eq_none (by simp; omega)]

theorem elemO_ints {l : List Int} {k : Nat} {n : Int} (h : l[k]? = some n) : elemO (ints l) (addN 0 k) 0 1 false = some (I n) := by
  have : (ints l)[k]? = some (I n) := by simp [ints, h]
  simp [elemO, this]
theorem setO_ints {l : List Int} {k : Nat} {n : Int} (h : k < l.length) : setO 1 (ints l) (addN 0 k) 0 1 (I n) = some (ints (l.set k n)) := by
  have : (ints l)[k]? = some (I l[k]) := ints_get h
  have e : (ints l).set k (I n) = ints (l.set k n) := by simp [ints, List.map_set]
  simp only [setO, addN_eq, Nat.zero_add, this, I]
  rw [← e]
  rfl
theorem natO_I (n : Nat) : natO (I n) = some n := natO_int .i64 n

theorem revI_step {i : Nat} {l : List Int} (h : 2 * i + 2 ≤ l.length) : ((revI i l).set i (l.getD (l.length - 1 - i) 0)).set (l.length - 1 - i) (l.getD i 0) = revI (i + 1) l := by
  apply List.ext_getElem?
  intro k
  by_cases hk : k < l.length
  · rw [revI_get hk, List.getElem?_set, List.getElem?_set, List.length_set, revI_len, revI_get hk]
    by_cases h1 : l.length - 1 - i = k
    · subst h1
      rw [if_pos rfl, if_pos (by omega), if_pos (by omega)]
      congr 2
      omega
    · rw [if_neg h1]
      by_cases h2 : i = k
      · subst h2
        rw [if_pos rfl, if_pos (by omega), if_pos (by omega)]
      · rw [if_neg h2]
        by_cases h3 : k < i ∨ l.length - i ≤ k
        · rw [if_pos h3, if_pos (by omega)]
        · rw [if_neg h3, if_neg (by omega)]
  · rw [List.getElem?_eq_none (by simp [revI_len]; omega), List.getElem?_eq_none (by rw [revI_len]; omega)]

theorem wsub {a b : Int} (h1 : -9223372036854775808 ≤ a - b) (h2 : a - b ≤ 9223372036854775807) : IntKind.i64.wrap (a - b) = a - b := w64 h1 h2

set_option maxHeartbeats 800000 in
theorem reverse_run (l : List Int) (hl : l.length ≤ 1000000) : ioO B0 sh81 81 [nI (lenL (ints l)), .sl 1 (ints l) false] = some [.sl 1 (ints l.reverse) false] := by
  refine io_of_run (cfg := cfg0 B0 fun _ => .cl) (cfg_ok _) (fn := fn81) rfl rfl rfl (by simp [okVL, okV, okVL_ints]) ?_
  rw [run81]
  have hn : nI (lenL (ints l)) = I l.length := by simp [ints_len, I]
  rw [hn]
  simp only [nth_0, nth_1, natP_I, Int.toNat_natCast, itemsP_sl]
  rw [show nI l.length = I l.length from rfl]
  simp only [I_def, I_sub, bindO_val]
  rw [wsub (by omega) (by omega), show noUndef [I l.length, I 0, I ((l.length : Int) - 1)] = true from rfl, chkO_true]
  refine loop_run (fun i => ([I l.length, I i, I ((l.length : Int) - 1 - i), .sl 1 (ints (revI i l)) false], ())) (l.length / 2) (by rw [revI_zero]; simp) (fun i hlt => ?_) ?_
  · simp only [nth_0, nth_1, nth_2, nth_3, I_lss, bindO_val, iteP_bool, natP_I, Int.toNat_natCast, itemsP_sl, natO_I]
    have hj : (l.length : Int) - 1 - i = ((l.length - 1 - i : Nat) : Int) := by omega
    have e0 : decide ((i : Int) < (l.length : Int) - 1 - i) = true := by simp; omega
    rw [e0]
    simp only [if_true]
    rw [hj, natO_I]
    have g1 : (revI i l)[l.length - 1 - i]? = some (l.getD (l.length - 1 - i) 0) := by
      rw [revI_get (by omega), if_neg (by omega)]
    have g2 : (revI i l)[i]? = some (l.getD i 0) := by
      rw [revI_get (by omega), if_neg (by omega)]
    have c1 : ltN (l.length - 1 - i) l.length = true := by simp; omega
    have c2 : ltN i l.length = true := by simp; omega
    simp only [bindO_val, c1, c2, chkO_true]
    rw [elemO_ints g1]
    simp only [bindO_val]
    rw [elemO_ints g2]
    simp only [bindO_val]
    rw [setO_ints (by rw [revI_len]; omega)]
    simp only [bindO_val]
    rw [setO_ints (by rw [List.length_set, revI_len]; omega), revI_step (by omega)]
    simp only [bindO_val, I_add, I_sub, wsucc (by omega : i < 9223372036854775807)]
    rw [wsub (by omega) (by omega)]
    have e3 : ((l.length - 1 - i : Nat) : Int) - 1 = (l.length : Int) - 1 - ((i + 1 : Nat) : Int) := by omega
    rw [e3]
    rfl
  · simp only [nth_0, nth_1, nth_2, nth_3, I_lss, bindO_val, iteP_bool, itemsP_sl]
    have e0 : decide (((l.length / 2 : Nat) : Int) < (l.length : Int) - 1 - ((l.length / 2 : Nat) : Int)) = false := by simp; omega
    rw [e0, revI_end]
    rfl

theorem reversed_run {v : PV} {a : Arr} (h : IsA v a) (hl : a.n.length ≤ 1000000) : Gives 54 v ⟨a.li, a.ru, a.n.reverse⟩ 0 := by
  have ho := own_run h hl
  obtain ⟨x, rfl, hx⟩ := h.get
  refine ⟨.agg [.bool a.li, .bool a.ru, .sl 1 (ints a.n.reverse) false], ?_, .mk _ _ _ _ (.sl _ _)⟩
  refine call_parts (d := fun _ => .cl) (args := [.agg [.cv (.bool a.li), .cv (.bool a.ru), .cv x]]) (fn := fn54) rfl (by decide) ⟨⟨rfl, rfl, hx.ok, trivial⟩, trivial⟩ (fun y hy => by simp at hy; subst hy; rfl) rfl ?_
  rw [run54, ho]
  simp only [bindO_val, itemsP_sl]
  have := reverse_run a.n hl
  unfold sh81 at this
  rw [this]
  have e : slO 1 1 (itemsP (nth [.sl 1 (ints a.n.reverse) false] 0)) 0 (lenL (ints a.n)) = .sl 1 (ints a.n.reverse) false := by
    simp [slO, ints_len, ints, List.take_of_length_le]
  simp only [bindO_val]
  rw [e]
  have e7 : okU (.tup [.agg [.bool a.li, .bool a.ru, .sl 1 (ints a.n.reverse) false], .nilI]) = true := by simp [okU, okV, okVL, okVL_ints]
  rw [e7]
  rfl
end Go.Ab.Shape

/-
  Shape: functions of two: lists joined, found, turned.
-/
namespace Go.Ab.Shape
open Go Go.Ab

/-! ### Two arrays -/

inductive IsP : PV → Arr → Arr → Prop
  | mk (l1 r1 l2 r2 : Bool) (x y : PV) (b a : List Int) (hx : IsL x b) (hy : IsL y a) : IsP (.agg [.bool l1, .bool r1, x, .bool l2, .bool r2, y]) ⟨l1, r1, b⟩ ⟨l2, r2, a⟩

theorem IsP.get {v : PV} {b a : Arr} (h : IsP v b a) : ∃ x y, v = .agg [.bool b.li, .bool b.ru, x, .bool a.li, .bool a.ru, y] ∧ IsL x b.n ∧ IsL y a.n := by
  obtain ⟨_, _, _, _, x, y, _, _, hx, hy⟩ := h
  exact ⟨x, y, rfl, hx, hy⟩
theorem IsP.ok {v : PV} {b a : Arr} (h : IsP v b a) : okV v = true := by
  obtain ⟨x, y, rfl, hx, hy⟩ := h.get
  simp [okV, okVL, hx.ok, hy.ok]
theorem val6 {a b c d e f : PV} (ha : a.isCell = true) (hb : b.isCell = true) (hc : c.isCell = true) (hd : d.isCell = true) (he : e.isCell = true) (hf : f.isCell = true) : (PV.agg [a, b, c, d, e, f]).isVal = true := by simp [PV.isVal, ha, hb, hc, hd, he, hf]
theorem IsP.val {v : PV} {b a : Arr} (h : IsP v b a) : valO v = true := by
  obtain ⟨x, y, rfl, hx, hy⟩ := h.get
  exact val6 rfl rfl hx.cell rfl rfl hy.cell

theorem sel6_1 (a b c d e f : PV) : sel [a, b, c, d, e, f] 1 1 false = some b := rfl
theorem sel6_0 (a b c d e f : PV) : sel [a, b, c, d, e, f] 0 1 false = some a := rfl
theorem sel6_2 (a b c d e f : PV) : sel [a, b, c, d, e, f] 2 1 false = some c := rfl
theorem sel6_3 (a b c d e f : PV) : sel [a, b, c, d, e, f] 3 1 false = some d := rfl
theorem sel6_4 (a b c d e f : PV) : sel [a, b, c, d, e, f] 4 1 false = some e := rfl
theorem sel6_5 (a b c d e f : PV) : sel [a, b, c, d, e, f] 5 1 false = some f := rfl
theorem sel6_a (a b c d e f : PV) : sel [a, b, c, d, e, f] 0 3 true = some (.agg [a, b, c]) := rfl
theorem sel6_b (a b c d e f : PV) : sel [a, b, c, d, e, f] 3 3 true = some (.agg [d, e, f]) := rfl
theorem sel6_w (a b c d e f : PV) : sel [a, b, c, d, e, f] 0 6 true = some (.agg [a, b, c, d, e, f]) := rfl

theorem isA3 (li ru : Bool) {x : PV} {l : List Int} (h : IsL x l) : IsA (.agg [.bool li, .bool ru, x]) ⟨li, ru, l⟩ := .mk _ _ _ _ h

theorem differ_run {v : PV} {b a : Arr} (h : IsP v b a) (hb : b.n.length ≤ 1000000) (ha : a.n.length ≤ 1000000) : Gives 61 v (oneA (if a.same b then 0 else 1)) 0 := by
  obtain ⟨x, y, rfl, hx, hy⟩ := h.get
  refine ⟨oneV (if a.same b then 0 else 1), ?_, one_is _⟩
  refine call (d := fun _ => .cl) rfl (by decide) (by simp [okVL, h.ok]) rfl ?_
  have hs := same_run (isA3 a.li a.ru hy) (isA3 b.li b.ru hx) ha hb
  rw [List.map_cons, List.map_nil, run61, h.val, chkO_true]
  simp only [selO_eq, cells_agg', sel6_a, sel6_b, bindO_val, hs, iteP_bool, I_def, one_run']
  cases hq : a.same b with
  | true => rfl
  | false => rfl

/-! ### Found -/

theorem find_run {v : PV} {l : List Int} (hv : IsL v l) (hl : l.length ≤ 1000000) (n : Int) : callO B0 .cl (.fn 78 []) [v, I n] = some (I (idxP (fun x => n == x) 0 l)) := by
  refine call (d := fun _ => .cl) rfl (by decide) (by simp [okVL, hv.ok]) rfl ?_
  rw [List.map_cons, List.map_cons, List.map_nil, run78, hv.len]
  simp only [bindO_val]
  have h0 : noUndef [v, I n, I l.length, .int .i64 0] = true := by simp [noUndef, hv.und, I_def]
  rw [h0, chkO_true]
  have key : ∀ m i, i + m = l.length → loopL (fun z2 => bindO (pureO (.bin .lss .num false (.c (nth z2.1 3)) (.c (nth z2.1 2)))) (fun z3 => iteP z3 (bindO (pureO (.idxAddr 1 (.c (nth z2.1 0)) (.c (nth z2.1 3)))) (fun z4 => bindO (pureO (.load 1 false (.c z4))) (fun z5 => bindO (pureO (.bin .eql .num false (.c (nth z2.1 1)) (.c z5))) (fun z6 => iteP z6 (bindO (some (nth z2.1 3, z2.2)) (fun z7 => some (.inr z7))) (bindO (pureO (.bin .add .num true (.c (nth z2.1 3)) (.c (.int .i64 1)))) (fun z8 => some (.inl ([nth z2.1 0, nth z2.1 1, nth z2.1 2, z8], z2.2)))))))) (bindO (some (.int .i64 (-1), z2.2)) (fun z9 => some (.inr z9))))) (([v, I n, I l.length, I i], ()) : List PV × Unit) = some (I (idxP (fun x => n == x) i (l.drop i)), ()) := by
    intro m
    induction m with
    | zero =>
      intro i hi
      refine loopL_inr ?_
      have : i = l.length := by omega
      subst this
      simp [idxP]; rfl
    | succ m ih =>
      intro i hi
      have hlt : i < l.length := by omega
      rw [drop_cons hlt]
      by_cases hpx : n = l[i]
      · refine loopL_inr ?_
        simp only [nth_0, nth_1, nth_2, nth_3, I_lss, bindO_val, iteP_bool]
        rw [if_pos (by simpa using hlt), hv.idx hlt]
        simp [hpx, idxP]
      · rw [loopL_inl (s' := ([v, I n, I l.length, I ((i + 1 : Nat) : Int)], ()))]
        · rw [ih (i + 1) (by omega)]
          simp [idxP, hpx]
        · simp only [nth_0, nth_1, nth_2, nth_3, I_lss, bindO_val, iteP_bool]
          rw [if_pos (by simpa using hlt), hv.idx hlt]
          simp [hpx, I_def, wsucc (by omega : i < 9223372036854775807)]
  have := key l.length 0 (by omega)
  simpa [I_def] using this

/-! ### Joined -/

theorem grow_run {n : Int} (h0 : 0 ≤ n) (h1 : n ≤ 1000000) : callO B0 (.own 1) (.fn 90 []) [.nilS, I n] = some (.sl 1 [] false) := by
  unfold callO
  have hs : B0.sp 90 (fun _ => none) ([.nilS, I n] ++ []) = some { v := .arr (0, 0) 1 0 0, new := [.arr 1 0 []] } := by
    have : sp0 90 (fun _ => none) [.nilS, I n] = some { v := .arr (0, 0) 1 0 0, new := [.arr 1 0 []] } := by simp [sp0, spGrow, I, h0, h1]
    exact this
  simp only [spO, hs]
  rfl

theorem concat_run {u v : PV} {l m : List Int} (hu : IsL u l) (hv : IsL v m) (hl : l.length ≤ 400000) (hm : m.length ≤ 400000) : lendO B0 (.own 1) true 80 [.sl 1 [u, v] false] = some (.sl 1 (ints (l ++ m)) false) := by
  refine lend_own (d := fun _ => .cl) rfl (by simp [okVL, okV, hu.ok, hv.ok]) rfl ?_
  rw [List.map_cons, List.map_nil, run80, pure_lenl]
  simp only [bindO_val]
  rw [show noUndef [.sl 1 [u, v] false, .int .i64 0, .sl 1 [u, v] false, .int .i64 (([u, v].length : Nat) : Int), .int .i64 0] = true from rfl, chkO_true]
  have i0 : pureO (.idxAddr 1 (.c (.sl 1 [u, v] false)) (.c (I 0))) = some (.ptr [u] 0) := by
    have := pure_lidx (k := .i64) (xs := [u, v]) (j := 0) (n := 1) (f := false) (v := u) (by omega) rfl
    rw [hu.cells] at this
    exact this
  have i1 : pureO (.idxAddr 1 (.c (.sl 1 [u, v] false)) (.c (I 1))) = some (.ptr [v] 0) := by
    have := pure_lidx (k := .i64) (xs := [u, v]) (j := 1) (n := 1) (f := false) (v := v) (by omega) rfl
    rw [hv.cells] at this
    exact this
  have l1 : ∀ w : PV, pureO (.load 1 false (.c (.ptr [w] 0))) = some w := fun w => by rw [pure_load]; rfl
  rw [loopL_inl (s' := ([.sl 1 [u, v] false, I l.length, .sl 1 [u, v] false, I 2, I 1], ()))]
  · rw [loopL_inl (s' := ([.sl 1 [u, v] false, I ((l.length : Int) + m.length), .sl 1 [u, v] false, I 2, I 2], ()))]
    · refine loopL_inr ?_
      simp only [nth_0, nth_1, nth_2, nth_3, nth_4, I_def, I_lss, bindO_val, iteP_bool]
      rw [if_neg (by decide), grow_run (by omega) (by omega)]
      simp only [bindO_val, pure_lenl, itemsP_sl]
      rw [show noUndef [nI (lenL []), .sl 1 [u, v] false, .int .i64 (([u, v].length : Nat) : Int), I 0] = true from rfl, chkO_true]
      rw [loopL_inl (s' := ([I l.length, .sl 1 [u, v] false, I 2, I 1, .sl 1 (ints l) false], ()))]
      · rw [loopL_inl (s' := ([I ((l.length + m.length : Nat) : Int), .sl 1 [u, v] false, I 2, I 2, .sl 1 (ints (l ++ m)) false], ()))]
        · rw [loopL_inr (r := (.sl 1 (ints (l ++ m)) false, ()))]
          · rfl
          · simp only [nth_0, nth_1, nth_2, nth_3, nth_4, I_def, I_lss, bindO_val, iteP_bool, itemsP_sl]
            rw [if_neg (by decide)]
            have : eqN (natP (I ((l.length + m.length : Nat) : Int))) (lenL (ints (l ++ m))) = true := by simp [ints_len]; omega
            rw [this]
            rfl
        · simp only [nth_0, nth_1, nth_2, nth_3, nth_4, I_def, I_lss, bindO_val, iteP_bool, itemsP_sl]
          rw [if_pos (by decide), i1]
          simp only [bindO_val, l1, hv.elems]
          have e1 : andB (leN (natP (I l.length)) (lenL (ints l))) (leN (addN (natP (I l.length)) (lenL (ints m))) 2147483648) = true := by
            have : l.length + m.length ≤ 2147483648 := by omega
            simp [ints_len, this]
          rw [e1, chkO_true]
          have e2 : catL (takeL (natP (I l.length)) (ints l)) (ints m) = ints (l ++ m) := by
            have : (ints l).take l.length = ints l := List.take_of_length_le (by rw [ints_len]; exact Nat.le_refl _)
            simp [this, ints_app]
          rw [e2]
          have e3 : nI (addN (natP (I l.length)) (lenL (ints m))) = I ((l.length + m.length : Nat) : Int) := by simp [ints_len, I]
          rw [e3]
          rfl
      · simp only [nth_0, nth_1, nth_2, nth_3, nth_4, I_def, bindO_val, iteP_bool, itemsP_sl]
        rw [show nI (lenL []) = I 0 from rfl]
        rw [show I (([u, v].length : Nat) : Int) = I 2 from rfl]
        simp only [I_lss, bindO_val, iteP_bool]
        rw [if_pos (by decide), i0]
        simp only [bindO_val, l1, hu.elems]
        have e1 : andB (leN (natP (I 0)) (lenL [])) (leN (addN (natP (I 0)) (lenL (ints l))) 2147483648) = true := by
          have : l.length ≤ 2147483648 := by omega
          simp [ints_len, this]
        rw [e1, chkO_true]
        have e2 : catL (takeL (natP (I 0)) []) (ints l) = ints l := by simp
        rw [e2]
        have e3 : nI (addN (natP (I 0)) (lenL (ints l))) = I l.length := by simp [ints_len, I]
        rw [e3]
        rfl
    · simp only [nth_0, nth_1, nth_2, nth_3, nth_4, I_def, I_lss, bindO_val, iteP_bool]
      rw [if_pos (by decide), i1]
      simp only [bindO_val, l1, hv.len, I_add, I_lss, iteP_bool]
      rw [w64 (by omega) (by omega), if_neg (by simp; omega)]
      rfl
  · simp only [nth_0, nth_1, nth_2, nth_3, nth_4, I_def]
    rw [show I (([u, v].length : Nat) : Int) = I 2 from rfl]
    simp only [I_lss, bindO_val, iteP_bool]
    rw [if_pos (by decide), i0]
    simp only [bindO_val, l1, hu.len, I_add, I_lss, iteP_bool]
    rw [w64 (by omega) (by omega), if_neg (by simp)]
    simp
    rfl

def isText (a : Arr) : Bool := a.ru && decide (0 < a.n.length)
theorem text_run {v : PV} {a : Arr} (h : IsA v a) : callO B0 .cl (.fn 79 []) [v] = some (.bool (isText a)) := by
  obtain ⟨x, rfl, hx⟩ := h.get
  refine call (d := fun _ => .cl) rfl (by decide) (by simp [okVL, h.ok]) rfl ?_
  rw [List.map_cons, List.map_nil, run79, valO_agg, val3 rfl rfl hx.cell, chkO_true]
  simp only [selO_eq, cells_agg', sel3_1, sel3_2, bindO_val, hx.len, I_def, I_gtr, iteP_bool]
  unfold isText
  have : decide ((0 : Int) < (a.n.length : Int)) = decide (0 < a.n.length) := by
    rw [Bool.eq_iff_iff, decide_eq_true_iff, decide_eq_true_iff]; omega
  rw [this]
  cases a.ru <;> rfl

def joinE (a b : Arr) : Int := if 0 < a.n.length ∧ 0 < b.n.length ∧ a.ru ≠ b.ru then 102 else if 200 < a.n.length + b.n.length then 113 else 0
def joinA (a b : Arr) : Arr := if joinE a b = 0 then ⟨true, isText a || (isText b || (a.ru && b.ru)), a.n ++ b.n⟩ else noArr

theorem join_run {v : PV} {b a : Arr} (h : IsP v b a) (hb : b.n.length ≤ 400000) (ha : a.n.length ≤ 400000) : Gives 53 v (joinA a b) (joinE a b) := by
  obtain ⟨x, y, rfl, hx, hy⟩ := h.get
  have hta := text_run (isA3 a.li a.ru hy)
  have htb := text_run (isA3 b.li b.ru hx)
  have hcc := concat_run hy hx ha hb
  have e1 : ∀ l : List Int, decide ((0 : Int) < (l.length : Int)) = decide (0 < l.length) := by
    intro l
    rw [Bool.eq_iff_iff, decide_eq_true_iff, decide_eq_true_iff]; omega
  have e2 : decide ((200 : Int) < (a.n.length : Int) + (b.n.length : Int)) = decide (200 < a.n.length + b.n.length) := by
    rw [Bool.eq_iff_iff, decide_eq_true_iff, decide_eq_true_iff]; omega
  have oks : okSls 1 [y, x] = true := by simp [okSls, hx.val, hy.val, hx.cells, hy.cells]
  have slO2 : slO 1 1 [y, x] 0 (lenL [y, x]) = .sl 1 [y, x] false := rfl
  have fin : ∀ r : Bool, okU (.tup [.agg [.bool true, .bool r, slO 1 1 (ints (a.n ++ b.n)) 0 (lenL (ints (a.n ++ b.n)))], .nilI]) = true := fun r => by
    rw [slO_all]; simp [okU, okV, okVL, okVL_ints]
  by_cases h0 : joinE a b = 0
  · refine ⟨.agg [.bool true, .bool (isText a || (isText b || (a.ru && b.ru))), .sl 1 (ints (a.n ++ b.n)) false], ?_, by unfold joinA; rw [if_pos h0]; exact .mk _ _ _ _ (.sl _ _)⟩
    have h1 : ¬ (0 < a.n.length ∧ 0 < b.n.length ∧ a.ru ≠ b.ru) := fun h => by unfold joinE at h0; rw [if_pos h] at h0; cases h0
    have h2 : ¬ 200 < a.n.length + b.n.length := fun h => by unfold joinE at h0; rw [if_neg h1, if_pos h] at h0; cases h0
    rw [h0]
    refine call (d := fun _ => .cl) rfl (by decide) (by simp [okVL, h.ok]) rfl ?_
    rw [List.map_cons, List.map_nil, run53, h.val, chkO_true]
    simp only [selO_eq, cells_agg', sel6_1, sel6_2, sel6_4, sel6_5, sel6_a, sel6_b, bindO_val, hx.len, hy.len, I_def, I_gtr, I_add, iteP_bool, pure_neb, e1, hta, htb, oks, chkO_true, slO2, hcc, itemsP_sl, fin]
    have c1 : (if decide (0 < a.n.length) = true then (if decide (0 < b.n.length) = true then some (PV.bool (!(a.ru == b.ru))) else some (.bool false)) else some (.bool false)) = some (.bool false) := by
      by_cases q1 : 0 < a.n.length
      · by_cases q2 : 0 < b.n.length
        · have : a.ru = b.ru := Classical.byContradiction fun q => h1 ⟨q1, q2, q⟩
          simp [q1, q2, this]
        · simp [q1, q2]
      · simp [q1]
    rw [c1]
    simp only [bindO_val, iteP_bool, Bool.false_eq_true, if_false]
    rw [w64 (by omega) (by omega), e2, decide_eq_false h2]
    simp only [iteP_bool, Bool.false_eq_true, if_false]
    rw [slO_all]
    have ta : isText ⟨a.li, a.ru, a.n⟩ = isText a := rfl
    have tb : isText ⟨b.li, b.ru, b.n⟩ = isText b := rfl
    rw [ta, tb]
    have fin2 : ∀ r : Bool, okU (.tup [.agg [.bool true, .bool r, .sl 1 (ints (a.n ++ b.n)) false], .nilI]) = true := fun r => by simp [okU, okV, okVL, okVL_ints]
    have oc : ∀ r : Bool, okCells (PV.bool r) 1 = true := fun _ => rfl
    have cp : ∀ r : Bool, cellP (PV.bool r) 0 = .bool r := fun _ => rfl
    rw [oc, cp, fin2]
    cases isText a <;> cases isText b <;> cases a.ru <;> simp [fin2, errV_0]
  · refine ⟨.agg [.bool false, .bool false, .nilS], ?_, by unfold joinA; rw [if_neg h0]; exact noArr_is⟩
    refine call (d := fun _ => .cl) rfl (by decide) (by simp [okVL, h.ok]) rfl ?_
    rw [List.map_cons, List.map_nil, run53, h.val, chkO_true]
    simp only [selO_eq, cells_agg', sel6_1, sel6_2, sel6_4, sel6_5, bindO_val, hx.len, hy.len, I_def, I_gtr, I_add, iteP_bool, pure_neb, e1]
    unfold joinE at h0 ⊢
    by_cases h1 : 0 < a.n.length ∧ 0 < b.n.length ∧ a.ru ≠ b.ru
    · rw [if_pos h1]
      obtain ⟨q1, q2, q3⟩ := h1
      have : (a.ru == b.ru) = false := by simpa using q3
      simp only [q1, q2, this, decide_true, if_true, bindO_val, iteP_bool, Bool.not_false]
      rfl
    · rw [if_neg h1] at h0 ⊢
      have c1 : (if decide (0 < a.n.length) = true then (if decide (0 < b.n.length) = true then some (PV.bool (!(a.ru == b.ru))) else some (.bool false)) else some (.bool false)) = some (.bool false) := by
        by_cases q1 : 0 < a.n.length
        · by_cases q2 : 0 < b.n.length
          · have : a.ru = b.ru := Classical.byContradiction fun q => h1 ⟨q1, q2, q⟩
            simp [q1, q2, this]
          · simp [q1, q2]
        · simp [q1]
      rw [c1]
      simp only [bindO_val, iteP_bool, Bool.false_eq_true, if_false]
      rw [w64 (by omega) (by omega), e2]
      by_cases h2 : 200 < a.n.length + b.n.length
      · rw [if_pos h2, decide_eq_true h2]
        rfl
      · rw [if_neg h2] at h0; exact absurd rfl h0
end Go.Ab.Shape
