/-
  Part 10 of a proof: a machine of our own for the given program, its laws, and what it says of the program. Nothing here is a claim by itself.
-/
import Derived.Test.YtgoedlagdbgcbaaGreatDoorK09
import Derived.KernelRfl
set_option linter.all false

namespace Go.Ab.Core
open Go Go.Ab
def c33_0:FuncId×List PV×PV:=(33,[.sl 3 [.agg [.int .i64 (1),.str [49],.sl 1 [] false],.agg [.int .i64 (8),.str [97],.sl 1 [.int .i64 (0)] false]] false],.bool true)
theorem e33_0:∃ n,qbm sp0 qc7 n Unit qbe 0 c33_0.1 c33_0.2.1 ()=some (c33_0.2.2,[],()):=qbh (n:=400) qgg (by kernel_rfl)
def c33_1:FuncId×List PV×PV:=(33,[.sl 3 [.agg [.int .i64 (3),.str [97],.sl 1 [] false],.agg [.int .i64 (5),.str [],.sl 1 [.int .i64 (0)] false],.agg [.int .i64 (9),.str [43],.sl 1 [] false],.agg [.int .i64 (3),.str [98],.sl 1 [] false],.agg [.int .i64 (7),.str [],.sl 1 [.int .i64 (1),.int .i64 (2),.int .i64 (3)] false]] false],.bool true)
theorem e33_1:∃ n,qbm sp0 qc7 n Unit qbe 0 c33_1.1 c33_1.2.1 ()=some (c33_1.2.2,[],()):=qbh (n:=400) qgg (by kernel_rfl)
def c33_2:FuncId×List PV×PV:=(33,[.sl 3 [.agg [.int .i64 (4),.str [226,141,181],.sl 1 [] false],.agg [.int .i64 (8),.str [97],.sl 1 [.int .i64 (0)] false],.agg [.int .i64 (3),.str [97],.sl 1 [] false],.agg [.int .i64 (11),.str [],.sl 1 [.int .i64 (1),.int .i64 (2)] false],.agg [.int .i64 (3),.str [97],.sl 1 [] false],.agg [.int .i64 (6),.str [],.sl 1 [.int .i64 (3),.int .i64 (4)] false]] false],.bool true)
theorem e33_2:∃ n,qbm sp0 qc7 n Unit qbe 0 c33_2.1 c33_2.2.1 ()=some (c33_2.2.2,[],()):=qbh (n:=400) qgg (by kernel_rfl)
def c33_3:FuncId×List PV×PV:=(33,[.sl 3 [.agg [.int .i64 (1),.str [49],.sl 1 [] false]] false],.bool true)
theorem e33_3:∃ n,qbm sp0 qc7 n Unit qbe 0 c33_3.1 c33_3.2.1 ()=some (c33_3.2.2,[],()):=qbh (n:=400) qgg (by kernel_rfl)
def c33_4:FuncId×List PV×PV:=(33,[.sl 3 [.agg [.int .i64 (1),.str [49],.sl 1 [] false],.agg [.int .i64 (8),.str [48],.sl 1 [.int .i64 (0)] false]] false],.bool true)
theorem e33_4:∃ n,qbm sp0 qc7 n Unit qbe 0 c33_4.1 c33_4.2.1 ()=some (c33_4.2.2,[],()):=qbh (n:=400) qgg (by kernel_rfl)
def c33_5:FuncId×List PV×PV:=(33,[.sl 3 [.agg [.int .i64 (3),.str [48],.sl 1 [] false]] false],.bool true)
theorem e33_5:∃ n,qbm sp0 qc7 n Unit qbe 0 c33_5.1 c33_5.2.1 ()=some (c33_5.2.2,[],()):=qbh (n:=400) qgg (by kernel_rfl)
def c33_6:FuncId×List PV×PV:=(33,[.sl 3 [.agg [.int .i64 (9),.str [43],.sl 1 [] false]] false],.bool true)
theorem e33_6:∃ n,qbm sp0 qc7 n Unit qbe 0 c33_6.1 c33_6.2.1 ()=some (c33_6.2.2,[],()):=qbh (n:=400) qgg (by kernel_rfl)
def c33_7:FuncId×List PV×PV:=(33,[.sl 3 [.agg [.int .i64 (3),.str [63],.sl 1 [] false]] false],.bool true)
theorem e33_7:∃ n,qbm sp0 qc7 n Unit qbe 0 c33_7.1 c33_7.2.1 ()=some (c33_7.2.2,[],()):=qbh (n:=400) qgg (by kernel_rfl)
def c33_8:FuncId×List PV×PV:=(33,[.sl 3 [.agg [.int .i64 (3),.str [48],.sl 1 [] false],.agg [.int .i64 (9),.str [43],.sl 1 [] false],.agg [.int .i64 (3),.str [63],.sl 1 [] false],.agg [.int .i64 (7),.str [],.sl 1 [.int .i64 (0),.int .i64 (1),.int .i64 (2)] false]] false],.bool true)
theorem e33_8:∃ n,qbm sp0 qc7 n Unit qbe 0 c33_8.1 c33_8.2.1 ()=some (c33_8.2.2,[],()):=qbh (n:=400) qgg (by kernel_rfl)
def c33_9:FuncId×List PV×PV:=(33,[.sl 3 [.agg [.int .i64 (4),.str [226,141,181],.sl 1 [] false]] false],.bool true)
theorem e33_9:∃ n,qbm sp0 qc7 n Unit qbe 0 c33_9.1 c33_9.2.1 ()=some (c33_9.2.2,[],()):=qbh (n:=400) qgg (by kernel_rfl)
def Qsw:FuncId×List PV×PV:=(33,[.sl 3 [.agg [.int .i64 (4),.str [226,141,181],.sl 1 [] false],.agg [.int .i64 (8),.str [49],.sl 1 [.int .i64 (0)] false]] false],.bool true)
theorem e33_10:∃ n,qbm sp0 qc7 n Unit qbe 0 Qsw.1 Qsw.2.1 ()=some (Qsw.2.2,[],()):=qbh (n:=400) qgg (by kernel_rfl)
def Qsv:FuncId×List PV×PV:=(33,[.sl 3 [.agg [.int .i64 (3),.str [49],.sl 1 [] false]] false],.bool true)
theorem e33_11:∃ n,qbm sp0 qc7 n Unit qbe 0 Qsv.1 Qsv.2.1 ()=some (Qsv.2.2,[],()):=qbh (n:=400) qgg (by kernel_rfl)
def Qsu:FuncId×List PV×PV:=(33,[.sl 3 [.agg [.int .i64 (4),.str [226,141,181],.sl 1 [] false],.agg [.int .i64 (8),.str [49],.sl 1 [.int .i64 (0)] false],.agg [.int .i64 (3),.str [49],.sl 1 [] false],.agg [.int .i64 (11),.str [],.sl 1 [.int .i64 (1),.int .i64 (2)] false]] false],.bool true)
theorem e33_12:∃ n,qbm sp0 qc7 n Unit qbe 0 Qsu.1 Qsu.2.1 ()=some (Qsu.2.2,[],()):=qbh (n:=400) qgg (by kernel_rfl)
def Qst:FuncId×List PV×PV:=(33,[.sl 3 [.agg [.int .i64 (4),.str [226,141,181],.sl 1 [] false],.agg [.int .i64 (8),.str [49],.sl 1 [.int .i64 (0)] false],.agg [.int .i64 (3),.str [49],.sl 1 [] false],.agg [.int .i64 (11),.str [],.sl 1 [.int .i64 (1),.int .i64 (2)] false],.agg [.int .i64 (3),.str [48],.sl 1 [] false],.agg [.int .i64 (6),.str [],.sl 1 [.int .i64 (3),.int .i64 (4)] false]] false],.bool true)
theorem e33_13:∃ n,qbm sp0 qc7 n Unit qbe 0 Qst.1 Qst.2.1 ()=some (Qst.2.2,[],()):=qbh (n:=400) qgg (by kernel_rfl)
def c71_0:FuncId×List PV×PV:=(71,[.sl 3 [.agg [.int .i64 (5),.str [97],.str []],.agg [.int .i64 (8),.str [226,134,144],.str [226,134,144]],.agg [.int .i64 (3),.str [49],.str [49]],.agg [.int .i64 (8),.str [226,139,132],.str [226,139,132]],.agg [.int .i64 (8),.str [40],.str [40]],.agg [.int .i64 (5),.str [97],.str []],.agg [.int .i64 (8),.str [41],.str [41]],.agg [.int .i64 (6),.str [43],.str [43]],.agg [.int .i64 (5),.str [98],.str []]] false,.str [226,139,132]],.tup [.sl 1 [.sl 3 [.agg [.int .i64 (5),.str [97],.str []],.agg [.int .i64 (8),.str [226,134,144],.str [226,134,144]],.agg [.int .i64 (3),.str [49],.str [49]]] false,.sl 3 [.agg [.int .i64 (8),.str [40],.str [40]],.agg [.int .i64 (5),.str [97],.str []],.agg [.int .i64 (8),.str [41],.str [41]],.agg [.int .i64 (6),.str [43],.str [43]],.agg [.int .i64 (5),.str [98],.str []]] false] false,.int .i64 (0)])
theorem e71_0:∃ n,qbm sp0 qc7 n Unit qbe 0 c71_0.1 c71_0.2.1 ()=some (c71_0.2.2,[],()):=qbh (n:=400) qgg (by kernel_rfl)
def c71_1:FuncId×List PV×PV:=(71,[.sl 3 [.agg [.int .i64 (8),.str [40],.str [40]],.agg [.int .i64 (5),.str [97],.str []],.agg [.int .i64 (8),.str [41],.str [41]],.agg [.int .i64 (6),.str [43],.str [43]],.agg [.int .i64 (5),.str [98],.str []]] false,.str [58]],.tup [.sl 1 [.sl 3 [.agg [.int .i64 (8),.str [40],.str [40]],.agg [.int .i64 (5),.str [97],.str []],.agg [.int .i64 (8),.str [41],.str [41]],.agg [.int .i64 (6),.str [43],.str [43]],.agg [.int .i64 (5),.str [98],.str []]] false] false,.int .i64 (0)])
theorem e71_1:∃ n,qbm sp0 qc7 n Unit qbe 0 c71_1.1 c71_1.2.1 ()=some (c71_1.2.2,[],()):=qbh (n:=400) qgg (by kernel_rfl)
def c71_2:FuncId×List PV×PV:=(71,[.sl 3 [.agg [.int .i64 (8),.str [123],.str [123]],.agg [.int .i64 (5),.str [97],.str []],.agg [.int .i64 (8),.str [226,134,144],.str [226,134,144]],.agg [.int .i64 (9),.str [226,141,181],.str [226,141,181]],.agg [.int .i64 (8),.str [226,139,132],.str [226,139,132]],.agg [.int .i64 (5),.str [97],.str []],.agg [.int .i64 (8),.str [125],.str [125]],.agg [.int .i64 (5),.str [97],.str []]] false,.str [226,139,132]],.tup [.sl 1 [.sl 3 [.agg [.int .i64 (8),.str [123],.str [123]],.agg [.int .i64 (5),.str [97],.str []],.agg [.int .i64 (8),.str [226,134,144],.str [226,134,144]],.agg [.int .i64 (9),.str [226,141,181],.str [226,141,181]],.agg [.int .i64 (8),.str [226,139,132],.str [226,139,132]],.agg [.int .i64 (5),.str [97],.str []],.agg [.int .i64 (8),.str [125],.str [125]],.agg [.int .i64 (5),.str [97],.str []]] false] false,.int .i64 (0)])
theorem e71_2:∃ n,qbm sp0 qc7 n Unit qbe 0 c71_2.1 c71_2.2.1 ()=some (c71_2.2.2,[],()):=qbh (n:=400) qgg (by kernel_rfl)
def c71_3:FuncId×List PV×PV:=(71,[.sl 3 [.agg [.int .i64 (8),.str [123],.str [123]],.agg [.int .i64 (5),.str [97],.str []],.agg [.int .i64 (8),.str [226,134,144],.str [226,134,144]],.agg [.int .i64 (9),.str [226,141,181],.str [226,141,181]],.agg [.int .i64 (8),.str [226,139,132],.str [226,139,132]],.agg [.int .i64 (5),.str [97],.str []],.agg [.int .i64 (8),.str [125],.str [125]],.agg [.int .i64 (5),.str [97],.str []]] false,.str [58]],.tup [.sl 1 [.sl 3 [.agg [.int .i64 (8),.str [123],.str [123]],.agg [.int .i64 (5),.str [97],.str []],.agg [.int .i64 (8),.str [226,134,144],.str [226,134,144]],.agg [.int .i64 (9),.str [226,141,181],.str [226,141,181]],.agg [.int .i64 (8),.str [226,139,132],.str [226,139,132]],.agg [.int .i64 (5),.str [97],.str []],.agg [.int .i64 (8),.str [125],.str [125]],.agg [.int .i64 (5),.str [97],.str []]] false] false,.int .i64 (0)])
theorem e71_3:∃ n,qbm sp0 qc7 n Unit qbe 0 c71_3.1 c71_3.2.1 ()=some (c71_3.2.2,[],()):=qbh (n:=400) qgg (by kernel_rfl)
def c71_4:FuncId×List PV×PV:=(71,[.sl 3 [.agg [.int .i64 (5),.str [97],.str []],.agg [.int .i64 (8),.str [226,134,144],.str [226,134,144]],.agg [.int .i64 (9),.str [226,141,181],.str [226,141,181]],.agg [.int .i64 (8),.str [226,139,132],.str [226,139,132]],.agg [.int .i64 (5),.str [97],.str []]] false,.str [226,139,132]],.tup [.sl 1 [.sl 3 [.agg [.int .i64 (5),.str [97],.str []],.agg [.int .i64 (8),.str [226,134,144],.str [226,134,144]],.agg [.int .i64 (9),.str [226,141,181],.str [226,141,181]]] false,.sl 3 [.agg [.int .i64 (5),.str [97],.str []]] false] false,.int .i64 (0)])
theorem e71_4:∃ n,qbm sp0 qc7 n Unit qbe 0 c71_4.1 c71_4.2.1 ()=some (c71_4.2.2,[],()):=qbh (n:=400) qgg (by kernel_rfl)
def c71_5:FuncId×List PV×PV:=(71,[.sl 3 [.agg [.int .i64 (5),.str [97],.str []]] false,.str [58]],.tup [.sl 1 [.sl 3 [.agg [.int .i64 (5),.str [97],.str []]] false] false,.int .i64 (0)])
theorem e71_5:∃ n,qbm sp0 qc7 n Unit qbe 0 c71_5.1 c71_5.2.1 ()=some (c71_5.2.2,[],()):=qbh (n:=400) qgg (by kernel_rfl)
def c74_0:FuncId×List PV×PV:=(74,[.sl 3 [.agg [.int .i64 (1),.str [49],.sl 1 [] false],.agg [.int .i64 (8),.str [97],.sl 1 [.int .i64 (0)] false]] false],.tup [.agg [.str [97],.bool false],.bool true])
theorem e74_0:∃ n,qbm sp0 qc7 n Unit qbe 0 c74_0.1 c74_0.2.1 ()=some (c74_0.2.2,[],()):=qbh (n:=400) qgg (by kernel_rfl)
def c74_1:FuncId×List PV×PV:=(74,[.sl 3 [.agg [.int .i64 (3),.str [97],.sl 1 [] false],.agg [.int .i64 (5),.str [],.sl 1 [.int .i64 (0)] false],.agg [.int .i64 (9),.str [43],.sl 1 [] false],.agg [.int .i64 (3),.str [98],.sl 1 [] false],.agg [.int .i64 (7),.str [],.sl 1 [.int .i64 (1),.int .i64 (2),.int .i64 (3)] false]] false],.tup [.agg [.str [],.bool false],.bool false])
theorem e74_1:∃ n,qbm sp0 qc7 n Unit qbe 0 c74_1.1 c74_1.2.1 ()=some (c74_1.2.2,[],()):=qbh (n:=400) qgg (by kernel_rfl)
def c74_2:FuncId×List PV×PV:=(74,[.sl 3 [.agg [.int .i64 (4),.str [226,141,181],.sl 1 [] false],.agg [.int .i64 (8),.str [97],.sl 1 [.int .i64 (0)] false]] false],.tup [.agg [.str [97],.bool false],.bool true])
theorem e74_2:∃ n,qbm sp0 qc7 n Unit qbe 0 c74_2.1 c74_2.2.1 ()=some (c74_2.2.2,[],()):=qbh (n:=400) qgg (by kernel_rfl)
def c74_3:FuncId×List PV×PV:=(74,[.sl 3 [.agg [.int .i64 (3),.str [97],.sl 1 [] false]] false],.tup [.agg [.str [],.bool false],.bool false])
theorem e74_3:∃ n,qbm sp0 qc7 n Unit qbe 0 c74_3.1 c74_3.2.1 ()=some (c74_3.2.2,[],()):=qbh (n:=400) qgg (by kernel_rfl)
def c74_4:FuncId×List PV×PV:=(74,[.sl 3 [.agg [.int .i64 (4),.str [226,141,181],.sl 1 [] false],.agg [.int .i64 (8),.str [97],.sl 1 [.int .i64 (0)] false],.agg [.int .i64 (3),.str [97],.sl 1 [] false],.agg [.int .i64 (11),.str [],.sl 1 [.int .i64 (1),.int .i64 (2)] false],.agg [.int .i64 (3),.str [97],.sl 1 [] false],.agg [.int .i64 (6),.str [],.sl 1 [.int .i64 (3),.int .i64 (4)] false]] false],.tup [.agg [.str [],.bool false],.bool false])
theorem e74_4:∃ n,qbm sp0 qc7 n Unit qbe 0 c74_4.1 c74_4.2.1 ()=some (c74_4.2.2,[],()):=qbh (n:=400) qgg (by kernel_rfl)
def kni:qr2 :=
 c33_0 :: c33_1 :: c33_2 :: c33_3 :: c33_4 :: c33_5 :: c33_6 :: c33_7 :: c33_8 :: c33_9 :: Qsw :: Qsv :: Qsu :: Qst :: c71_0 :: c71_1 :: c71_2 :: c71_3 :: c71_4 :: c71_5 :: c74_0 :: c74_1 :: c74_2 :: c74_3 :: c74_4 :: knh
theorem qnv:qli sp0 qc7 kni:=qbf e33_0<|qbf e33_1<|qbf e33_2<|qbf e33_3<|qbf e33_4<|qbf e33_5<|qbf e33_6<|qbf e33_7<|qbf e33_8<|qbf e33_9<|qbf e33_10<|qbf e33_11<|qbf e33_12<|qbf e33_13<|qbf e71_0<|qbf e71_1<|qbf e71_2<|qbf e71_3<|qbf e71_4<|qbf e71_5<|qbf e74_0<|qbf e74_1<|qbf e74_2<|qbf e74_3<|qbf e74_4<|qgg
end Go.Ab.Core

