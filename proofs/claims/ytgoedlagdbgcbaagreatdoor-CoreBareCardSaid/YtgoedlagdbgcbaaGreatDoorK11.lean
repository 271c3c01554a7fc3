/-
  Part 11 of a proof: a machine of our own for the given program, its laws, and what it says of the program. Nothing here is a claim by itself.
-/
import Derived.Test.YtgoedlagdbgcbaaGreatDoorK10
import Derived.KernelRfl
set_option linter.all false

namespace Go.Ab.Core
open Go Go.Ab
def c59_0:FuncId×List PV×PV:=(59,[.int .i64 (1),.str [49],.sl 1 [] false],.tup [.sl 3 [.agg [.int .i64 (1),.str [49],.sl 1 [] false]] false,.int .i64 (0)])
theorem e59_0:∃ n,qbm sp0 qc7 n Unit qbe 0 c59_0.1 c59_0.2.1 ()=some (c59_0.2.2,[],()):=qbh (n:=400) qnv (by kernel_rfl)
def c59_1:FuncId×List PV×PV:=(59,[.int .i64 (8),.str [48],.sl 1 [.sl 3 [.agg [.int .i64 (1),.str [49],.sl 1 [] false]] false] false],.tup [.sl 3 [.agg [.int .i64 (1),.str [49],.sl 1 [] false],.agg [.int .i64 (8),.str [48],.sl 1 [.int .i64 (0)] false]] false,.int .i64 (0)])
theorem e59_1:∃ n,qbm sp0 qc7 n Unit qbe 0 c59_1.1 c59_1.2.1 ()=some (c59_1.2.2,[],()):=qbh (n:=400) qnv (by kernel_rfl)
def c59_2:FuncId×List PV×PV:=(59,[.int .i64 (3),.str [48],.sl 1 [] false],.tup [.sl 3 [.agg [.int .i64 (3),.str [48],.sl 1 [] false]] false,.int .i64 (0)])
theorem e59_2:∃ n,qbm sp0 qc7 n Unit qbe 0 c59_2.1 c59_2.2.1 ()=some (c59_2.2.2,[],()):=qbh (n:=400) qnv (by kernel_rfl)
def c59_3:FuncId×List PV×PV:=(59,[.int .i64 (9),.str [43],.sl 1 [] false],.tup [.sl 3 [.agg [.int .i64 (9),.str [43],.sl 1 [] false]] false,.int .i64 (0)])
theorem e59_3:∃ n,qbm sp0 qc7 n Unit qbe 0 c59_3.1 c59_3.2.1 ()=some (c59_3.2.2,[],()):=qbh (n:=400) qnv (by kernel_rfl)
def c59_4:FuncId×List PV×PV:=(59,[.int .i64 (3),.str [63],.sl 1 [] false],.tup [.sl 3 [.agg [.int .i64 (3),.str [63],.sl 1 [] false]] false,.int .i64 (0)])
theorem e59_4:∃ n,qbm sp0 qc7 n Unit qbe 0 c59_4.1 c59_4.2.1 ()=some (c59_4.2.2,[],()):=qbh (n:=400) qnv (by kernel_rfl)
def c59_5:FuncId×List PV×PV:=(59,[.int .i64 (7),.str [],.sl 1 [.sl 3 [.agg [.int .i64 (3),.str [48],.sl 1 [] false]] false,.sl 3 [.agg [.int .i64 (9),.str [43],.sl 1 [] false]] false,.sl 3 [.agg [.int .i64 (3),.str [63],.sl 1 [] false]] false] false],.tup [.sl 3 [.agg [.int .i64 (3),.str [48],.sl 1 [] false],.agg [.int .i64 (9),.str [43],.sl 1 [] false],.agg [.int .i64 (3),.str [63],.sl 1 [] false],.agg [.int .i64 (7),.str [],.sl 1 [.int .i64 (0),.int .i64 (1),.int .i64 (2)] false]] false,.int .i64 (0)])
theorem e59_5:∃ n,qbm sp0 qc7 n Unit qbe 0 c59_5.1 c59_5.2.1 ()=some (c59_5.2.2,[],()):=qbh (n:=400) qnv (by kernel_rfl)
def c59_6:FuncId×List PV×PV:=(59,[.int .i64 (4),.str [226,141,181],.sl 1 [] false],.tup [.sl 3 [.agg [.int .i64 (4),.str [226,141,181],.sl 1 [] false]] false,.int .i64 (0)])
theorem e59_6:∃ n,qbm sp0 qc7 n Unit qbe 0 c59_6.1 c59_6.2.1 ()=some (c59_6.2.2,[],()):=qbh (n:=400) qnv (by kernel_rfl)
def c59_7:FuncId×List PV×PV:=(59,[.int .i64 (8),.str [49],.sl 1 [.sl 3 [.agg [.int .i64 (4),.str [226,141,181],.sl 1 [] false]] false] false],.tup [.sl 3 [.agg [.int .i64 (4),.str [226,141,181],.sl 1 [] false],.agg [.int .i64 (8),.str [49],.sl 1 [.int .i64 (0)] false]] false,.int .i64 (0)])
theorem e59_7:∃ n,qbm sp0 qc7 n Unit qbe 0 c59_7.1 c59_7.2.1 ()=some (c59_7.2.2,[],()):=qbh (n:=400) qnv (by kernel_rfl)
def c59_8:FuncId×List PV×PV:=(59,[.int .i64 (3),.str [49],.sl 1 [] false],.tup [.sl 3 [.agg [.int .i64 (3),.str [49],.sl 1 [] false]] false,.int .i64 (0)])
theorem e59_8:∃ n,qbm sp0 qc7 n Unit qbe 0 c59_8.1 c59_8.2.1 ()=some (c59_8.2.2,[],()):=qbh (n:=400) qnv (by kernel_rfl)
def c59_9:FuncId×List PV×PV:=(59,[.int .i64 (11),.str [],.sl 1 [.sl 3 [.agg [.int .i64 (4),.str [226,141,181],.sl 1 [] false],.agg [.int .i64 (8),.str [49],.sl 1 [.int .i64 (0)] false]] false,.sl 3 [.agg [.int .i64 (3),.str [49],.sl 1 [] false]] false] false],.tup [.sl 3 [.agg [.int .i64 (4),.str [226,141,181],.sl 1 [] false],.agg [.int .i64 (8),.str [49],.sl 1 [.int .i64 (0)] false],.agg [.int .i64 (3),.str [49],.sl 1 [] false],.agg [.int .i64 (11),.str [],.sl 1 [.int .i64 (1),.int .i64 (2)] false]] false,.int .i64 (0)])
theorem e59_9:∃ n,qbm sp0 qc7 n Unit qbe 0 c59_9.1 c59_9.2.1 ()=some (c59_9.2.2,[],()):=qbh (n:=400) qnv (by kernel_rfl)
def Qss:FuncId×List PV×PV:=(59,[.int .i64 (6),.str [],.sl 1 [.sl 3 [.agg [.int .i64 (4),.str [226,141,181],.sl 1 [] false],.agg [.int .i64 (8),.str [49],.sl 1 [.int .i64 (0)] false],.agg [.int .i64 (3),.str [49],.sl 1 [] false],.agg [.int .i64 (11),.str [],.sl 1 [.int .i64 (1),.int .i64 (2)] false]] false,.sl 3 [.agg [.int .i64 (3),.str [48],.sl 1 [] false]] false] false],.tup [.sl 3 [.agg [.int .i64 (4),.str [226,141,181],.sl 1 [] false],.agg [.int .i64 (8),.str [49],.sl 1 [.int .i64 (0)] false],.agg [.int .i64 (3),.str [49],.sl 1 [] false],.agg [.int .i64 (11),.str [],.sl 1 [.int .i64 (1),.int .i64 (2)] false],.agg [.int .i64 (3),.str [48],.sl 1 [] false],.agg [.int .i64 (6),.str [],.sl 1 [.int .i64 (3),.int .i64 (4)] false]] false,.int .i64 (0)])
theorem e59_10:∃ n,qbm sp0 qc7 n Unit qbe 0 Qss.1 Qss.2.1 ()=some (Qss.2.2,[],()):=qbh (n:=400) qnv (by kernel_rfl)
def c32_0:FuncId×List PV×PV:=(32,[.sl 4 [.agg [.int .i64 (0),.sl 3 [.agg [.int .i64 (5),.str [97],.str []],.agg [.int .i64 (8),.str [226,134,144],.str [226,134,144]],.agg [.int .i64 (3),.str [49],.str [49]]] false,.sl 3 [.agg [.int .i64 (1),.str [49],.sl 1 [] false],.agg [.int .i64 (8),.str [97],.sl 1 [.int .i64 (0)] false]] false,.int .i64 (0)],.agg [.int .i64 (0),.sl 3 [.agg [.int .i64 (8),.str [40],.str [40]],.agg [.int .i64 (5),.str [97],.str []],.agg [.int .i64 (8),.str [41],.str [41]],.agg [.int .i64 (6),.str [43],.str [43]],.agg [.int .i64 (5),.str [98],.str []]] false,.sl 3 [.agg [.int .i64 (3),.str [97],.sl 1 [] false],.agg [.int .i64 (5),.str [],.sl 1 [.int .i64 (0)] false],.agg [.int .i64 (9),.str [43],.sl 1 [] false],.agg [.int .i64 (3),.str [98],.sl 1 [] false],.agg [.int .i64 (7),.str [],.sl 1 [.int .i64 (1),.int .i64 (2),.int .i64 (3)] false]] false,.int .i64 (0)],.agg [.int .i64 (1),.sl 3 [.agg [.int .i64 (8),.str [123],.str [123]],.agg [.int .i64 (5),.str [97],.str []],.agg [.int .i64 (8),.str [226,134,144],.str [226,134,144]],.agg [.int .i64 (9),.str [226,141,181],.str [226,141,181]],.agg [.int .i64 (8),.str [226,139,132],.str [226,139,132]],.agg [.int .i64 (5),.str [97],.str []],.agg [.int .i64 (8),.str [125],.str [125]],.agg [.int .i64 (5),.str [97],.str []]] false,.sl 3 [.agg [.int .i64 (4),.str [226,141,181],.sl 1 [] false],.agg [.int .i64 (8),.str [97],.sl 1 [.int .i64 (0)] false],.agg [.int .i64 (3),.str [97],.sl 1 [] false],.agg [.int .i64 (11),.str [],.sl 1 [.int .i64 (1),.int .i64 (2)] false],.agg [.int .i64 (3),.str [97],.sl 1 [] false],.agg [.int .i64 (6),.str [],.sl 1 [.int .i64 (3),.int .i64 (4)] false]] false,.int .i64 (0)]] false],.tup [.ptr [.sl 1 [.str [97],.str [97]] false,.imap [.str [97],.sl 1 [.int .i64 (0)] false],.sl 1 [.int .i64 (1),.int .i64 (1),.int .i64 (0)] false,.sl 1 [.str [97]] false] 0,.sl 1 [.sl 1 [.int .i64 (0)] false,.sl 1 [.int .i64 (0),.int .i64 (-1)] false,.sl 1 [.int .i64 (1),.int .i64 (1),.int .i64 (0)] false] false])
theorem e32_0:∃ n,qbm sp0 qc7 n Unit qbe 0 c32_0.1 c32_0.2.1 ()=some (c32_0.2.2,[],()):=qbh (n:=400) qnv (by kernel_rfl)
def knj:qr2 :=
 c59_0 :: c59_1 :: c59_2 :: c59_3 :: c59_4 :: c59_5 :: c59_6 :: c59_7 :: c59_8 :: c59_9 :: Qss :: c32_0 :: kni
theorem qg9:qli sp0 qc7 knj:=qbf e59_0<|qbf e59_1<|qbf e59_2<|qbf e59_3<|qbf e59_4<|qbf e59_5<|qbf e59_6<|qbf e59_7<|qbf e59_8<|qbf e59_9<|qbf e59_10<|qbf e32_0<|qnv
end Go.Ab.Core

