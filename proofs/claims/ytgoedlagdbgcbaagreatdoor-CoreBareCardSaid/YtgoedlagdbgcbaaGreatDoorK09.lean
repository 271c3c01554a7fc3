/-
  Part 9 of a proof: a machine of our own for the given program, its laws, and what it says of the program. Nothing here is a claim by itself.
-/
import Derived.Test.YtgoedlagdbgcbaaGreatDoorK08
import Derived.KernelRfl
set_option linter.all false

namespace Go.Ab.Core
open Go Go.Ab
def c70_0:FuncId×List PV×PV:=(70,[.str [97,226,134,144,49,226,139,132,40,97,41,43,98]],.sl 3 [.agg [.int .i64 (5),.str [97],.str []],.agg [.int .i64 (8),.str [226,134,144],.str [226,134,144]],.agg [.int .i64 (3),.str [49],.str [49]],.agg [.int .i64 (8),.str [226,139,132],.str [226,139,132]],.agg [.int .i64 (8),.str [40],.str [40]],.agg [.int .i64 (5),.str [97],.str []],.agg [.int .i64 (8),.str [41],.str [41]],.agg [.int .i64 (6),.str [43],.str [43]],.agg [.int .i64 (5),.str [98],.str []]] false)
theorem e70_0:∃ n,qbm sp0 qc7 n Unit qbe 0 c70_0.1 c70_0.2.1 ()=some (c70_0.2.2,[],()):=qbh (n:=400) qxi (by kernel_rfl)
def c70_1:FuncId×List PV×PV:=(70,[.str [123,97,226,134,144,226,141,181,226,139,132,97,125,97]],.sl 3 [.agg [.int .i64 (8),.str [123],.str [123]],.agg [.int .i64 (5),.str [97],.str []],.agg [.int .i64 (8),.str [226,134,144],.str [226,134,144]],.agg [.int .i64 (9),.str [226,141,181],.str [226,141,181]],.agg [.int .i64 (8),.str [226,139,132],.str [226,139,132]],.agg [.int .i64 (5),.str [97],.str []],.agg [.int .i64 (8),.str [125],.str [125]],.agg [.int .i64 (5),.str [97],.str []]] false)
theorem e70_1:∃ n,qbm sp0 qc7 n Unit qbe 0 c70_1.1 c70_1.2.1 ()=some (c70_1.2.2,[],()):=qbh (n:=400) qxi (by kernel_rfl)
def Qt6:FuncId×List PV×PV:=(102,[.sl 3 [.agg [.int .i64 (5),.str [97],.str []],.agg [.int .i64 (8),.str [226,134,144],.str [226,134,144]],.agg [.int .i64 (3),.str [49],.str [49]],.agg [.int .i64 (8),.str [226,139,132],.str [226,139,132]],.agg [.int .i64 (8),.str [40],.str [40]],.agg [.int .i64 (5),.str [97],.str []],.agg [.int .i64 (8),.str [41],.str [41]],.agg [.int .i64 (6),.str [43],.str [43]],.agg [.int .i64 (5),.str [98],.str []]] false],.tup [.sl 1 [.int .i64 (0),.int .i64 (0),.int .i64 (0),.int .i64 (0),.int .i64 (0),.int .i64 (1),.int .i64 (0),.int .i64 (0),.int .i64 (0)] false,.int .i64 (0)])
theorem e102_0:∃ n,qbm sp0 qc7 n Unit qbe 0 Qt6.1 Qt6.2.1 ()=some (Qt6.2.2,[],()):=qbh (n:=400) qxi (by kernel_rfl)
def Qt5:FuncId×List PV×PV:=(102,[.sl 3 [.agg [.int .i64 (8),.str [40],.str [40]],.agg [.int .i64 (5),.str [97],.str []],.agg [.int .i64 (8),.str [41],.str [41]],.agg [.int .i64 (6),.str [43],.str [43]],.agg [.int .i64 (5),.str [98],.str []]] false],.tup [.sl 1 [.int .i64 (0),.int .i64 (1),.int .i64 (0),.int .i64 (0),.int .i64 (0)] false,.int .i64 (0)])
theorem e102_1:∃ n,qbm sp0 qc7 n Unit qbe 0 Qt5.1 Qt5.2.1 ()=some (Qt5.2.2,[],()):=qbh (n:=400) qxi (by kernel_rfl)
def Qt4:FuncId×List PV×PV:=(102,[.sl 3 [.agg [.int .i64 (8),.str [123],.str [123]],.agg [.int .i64 (5),.str [97],.str []],.agg [.int .i64 (8),.str [226,134,144],.str [226,134,144]],.agg [.int .i64 (9),.str [226,141,181],.str [226,141,181]],.agg [.int .i64 (8),.str [226,139,132],.str [226,139,132]],.agg [.int .i64 (5),.str [97],.str []],.agg [.int .i64 (8),.str [125],.str [125]],.agg [.int .i64 (5),.str [97],.str []]] false],.tup [.sl 1 [.int .i64 (0),.int .i64 (1),.int .i64 (1),.int .i64 (1),.int .i64 (1),.int .i64 (1),.int .i64 (0),.int .i64 (0)] false,.int .i64 (0)])
theorem e102_2:∃ n,qbm sp0 qc7 n Unit qbe 0 Qt4.1 Qt4.2.1 ()=some (Qt4.2.2,[],()):=qbh (n:=400) qxi (by kernel_rfl)
def Qt3:FuncId×List PV×PV:=(102,[.sl 3 [.agg [.int .i64 (5),.str [97],.str []],.agg [.int .i64 (8),.str [226,134,144],.str [226,134,144]],.agg [.int .i64 (9),.str [226,141,181],.str [226,141,181]],.agg [.int .i64 (8),.str [226,139,132],.str [226,139,132]],.agg [.int .i64 (5),.str [97],.str []]] false],.tup [.sl 1 [.int .i64 (0),.int .i64 (0),.int .i64 (0),.int .i64 (0),.int .i64 (0)] false,.int .i64 (0)])
theorem e102_3:∃ n,qbm sp0 qc7 n Unit qbe 0 Qt3.1 Qt3.2.1 ()=some (Qt3.2.2,[],()):=qbh (n:=400) qxi (by kernel_rfl)
def Qt2:FuncId×List PV×PV:=(102,[.sl 3 [.agg [.int .i64 (5),.str [97],.str []]] false],.tup [.sl 1 [.int .i64 (0)] false,.int .i64 (0)])
theorem e102_4:∃ n,qbm sp0 qc7 n Unit qbe 0 Qt2.1 Qt2.2.1 ()=some (Qt2.2.2,[],()):=qbh (n:=400) qxi (by kernel_rfl)
def knh:qr2 :=
 c70_0 :: c70_1 :: Qt6 :: Qt5 :: Qt4 :: Qt3 :: Qt2 :: kng
theorem qgg:qli sp0 qc7 knh:=qbf e70_0<|qbf e70_1<|qbf e102_0<|qbf e102_1<|qbf e102_2<|qbf e102_3<|qbf e102_4<|qxi
end Go.Ab.Core

