/-
  Part 13 of a proof: a machine of our own for the given program, its laws, and what it says of the program. Nothing here is a claim by itself.
-/
import Derived.Test.YtgoedlagdbgcbaaGreatDoorK12
import Derived.KernelRfl
set_option linter.all false

namespace Go.Ab.Core
open Go Go.Ab
def c73_2:FuncId×List PV×PV:=(73,[.sl 3 [.agg [.int .i64 (8),.str [123],.str [123]],.agg [.int .i64 (5),.str [97],.str []],.agg [.int .i64 (8),.str [226,134,144],.str [226,134,144]],.agg [.int .i64 (9),.str [226,141,181],.str [226,141,181]],.agg [.int .i64 (8),.str [226,139,132],.str [226,139,132]],.agg [.int .i64 (5),.str [97],.str []],.agg [.int .i64 (8),.str [125],.str [125]],.agg [.int .i64 (5),.str [97],.str []]] false,.sl 2 [.agg [.str [97],.bool false]] false,.bool false],.tup [.sl 3 [.agg [.int .i64 (4),.str [226,141,181],.sl 1 [] false],.agg [.int .i64 (8),.str [97],.sl 1 [.int .i64 (0)] false],.agg [.int .i64 (3),.str [97],.sl 1 [] false],.agg [.int .i64 (11),.str [],.sl 1 [.int .i64 (1),.int .i64 (2)] false],.agg [.int .i64 (3),.str [97],.sl 1 [] false],.agg [.int .i64 (6),.str [],.sl 1 [.int .i64 (3),.int .i64 (4)] false]] false,.int .i64 (0)])
theorem e73_2:∃ n,qbm sp0 qc7 n Unit qbe 0 c73_2.1 c73_2.2.1 ()=some (c73_2.2.2,[],()):=qbh (n:=400) knk_ok (by kernel_rfl)
def knl:qr2 :=
 c73_2 :: knk
theorem knl_ok:qli sp0 qc7 knl:=qbf e73_2<|knk_ok
end Go.Ab.Core

