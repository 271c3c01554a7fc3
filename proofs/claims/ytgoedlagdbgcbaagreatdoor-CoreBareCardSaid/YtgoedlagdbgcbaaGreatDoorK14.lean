/-
  Part 14 of a proof: a machine of our own for the given program, its laws, and what it says of the program. Nothing here is a claim by itself.
-/
import Derived.Test.YtgoedlagdbgcbaaGreatDoorK13
import Derived.KernelRfl
set_option linter.all false

namespace Go.Ab.Core
open Go Go.Ab
def c73_0:FuncId×List PV×PV:=(73,[.sl 3 [.agg [.int .i64 (5),.str [97],.str []],.agg [.int .i64 (8),.str [226,134,144],.str [226,134,144]],.agg [.int .i64 (3),.str [49],.str [49]]] false,.sl 2 [] false,.bool false],.tup [.sl 3 [.agg [.int .i64 (1),.str [49],.sl 1 [] false],.agg [.int .i64 (8),.str [97],.sl 1 [.int .i64 (0)] false]] false,.int .i64 (0)])
theorem e73_0:∃ n,qbm sp0 qc7 n Unit qbe 0 c73_0.1 c73_0.2.1 ()=some (c73_0.2.2,[],()):=qbh (n:=400) knl_ok (by kernel_rfl)
def c73_1:FuncId×List PV×PV:=(73,[.sl 3 [.agg [.int .i64 (8),.str [40],.str [40]],.agg [.int .i64 (5),.str [97],.str []],.agg [.int .i64 (8),.str [41],.str [41]],.agg [.int .i64 (6),.str [43],.str [43]],.agg [.int .i64 (5),.str [98],.str []]] false,.sl 2 [.agg [.str [97],.bool false]] false,.bool false],.tup [.sl 3 [.agg [.int .i64 (3),.str [97],.sl 1 [] false],.agg [.int .i64 (5),.str [],.sl 1 [.int .i64 (0)] false],.agg [.int .i64 (9),.str [43],.sl 1 [] false],.agg [.int .i64 (3),.str [98],.sl 1 [] false],.agg [.int .i64 (7),.str [],.sl 1 [.int .i64 (1),.int .i64 (2),.int .i64 (3)] false]] false,.int .i64 (0)])
theorem e73_1:∃ n,qbm sp0 qc7 n Unit qbe 0 c73_1.1 c73_1.2.1 ()=some (c73_1.2.2,[],()):=qbh (n:=400) knl_ok (by kernel_rfl)
def knm:qr2 :=
 c73_0 :: c73_1 :: knl
theorem qz3:qli sp0 qc7 knm:=qbf e73_0<|qbf e73_1<|knl_ok
end Go.Ab.Core

