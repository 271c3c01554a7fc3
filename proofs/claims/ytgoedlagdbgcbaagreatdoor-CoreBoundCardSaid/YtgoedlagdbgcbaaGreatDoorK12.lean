/-
  Part 12 of a proof: a machine of our own for the given program, its laws, and what it says of the program. Nothing here is a claim by itself.
-/
import Derived.Test.YtgoedlagdbgcbaaGreatDoorK11
import Derived.KernelRfl
set_option linter.all false

namespace Go.Ab.Core
open Go Go.Ab
def Qsg:FuncId×List PV×PV:=(144,[.agg [.int .i64 (5),.str [97],.str []]],.bool true)
theorem e144_0:∃ n,qbn sp0 qc3 n Unit qbe 0 Qsg.1 Qsg.2.1 ()=some (Qsg.2.2,[],()):=qbh (n:=400) qg0 (by kernel_rfl)
def Qsf:FuncId×List PV×PV:=(144,[.agg [.int .i64 (8),.str [226,134,144],.str [226,134,144]]],.bool true)
theorem e144_1:∃ n,qbn sp0 qc3 n Unit qbe 0 Qsf.1 Qsf.2.1 ()=some (Qsf.2.2,[],()):=qbh (n:=400) qg0 (by kernel_rfl)
def Qse:FuncId×List PV×PV:=(144,[.agg [.int .i64 (3),.str [49],.str [49]]],.bool true)
theorem e144_2:∃ n,qbn sp0 qc3 n Unit qbe 0 Qse.1 Qse.2.1 ()=some (Qse.2.2,[],()):=qbh (n:=400) qg0 (by kernel_rfl)
def Qsd:FuncId×List PV×PV:=(144,[.agg [.int .i64 (8),.str [40],.str [40]]],.bool true)
theorem e144_3:∃ n,qbn sp0 qc3 n Unit qbe 0 Qsd.1 Qsd.2.1 ()=some (Qsd.2.2,[],()):=qbh (n:=400) qg0 (by kernel_rfl)
def Qsc:FuncId×List PV×PV:=(144,[.agg [.int .i64 (8),.str [41],.str [41]]],.bool true)
theorem e144_4:∃ n,qbn sp0 qc3 n Unit qbe 0 Qsc.1 Qsc.2.1 ()=some (Qsc.2.2,[],()):=qbh (n:=400) qg0 (by kernel_rfl)
def Qsb:FuncId×List PV×PV:=(144,[.agg [.int .i64 (6),.str [43],.str [43]]],.bool true)
theorem e144_5:∃ n,qbn sp0 qc3 n Unit qbe 0 Qsb.1 Qsb.2.1 ()=some (Qsb.2.2,[],()):=qbh (n:=400) qg0 (by kernel_rfl)
def Qsa:FuncId×List PV×PV:=(144,[.agg [.int .i64 (5),.str [98],.str []]],.bool true)
theorem e144_6:∃ n,qbn sp0 qc3 n Unit qbe 0 Qsa.1 Qsa.2.1 ()=some (Qsa.2.2,[],()):=qbh (n:=400) qg0 (by kernel_rfl)
def Qr9:FuncId×List PV×PV:=(144,[.agg [.int .i64 (8),.str [123],.str [123]]],.bool true)
theorem e144_7:∃ n,qbn sp0 qc3 n Unit qbe 0 Qr9.1 Qr9.2.1 ()=some (Qr9.2.2,[],()):=qbh (n:=400) qg0 (by kernel_rfl)
def Qr8:FuncId×List PV×PV:=(144,[.agg [.int .i64 (9),.str [226,141,181],.str [226,141,181]]],.bool true)
theorem e144_8:∃ n,qbn sp0 qc3 n Unit qbe 0 Qr8.1 Qr8.2.1 ()=some (Qr8.2.2,[],()):=qbh (n:=400) qg0 (by kernel_rfl)
def Qr7:FuncId×List PV×PV:=(144,[.agg [.int .i64 (8),.str [226,139,132],.str [226,139,132]]],.bool true)
theorem e144_9:∃ n,qbn sp0 qc3 n Unit qbe 0 Qr7.1 Qr7.2.1 ()=some (Qr7.2.2,[],()):=qbh (n:=400) qg0 (by kernel_rfl)
def Qhb:FuncId×List PV×PV:=(144,[.agg [.int .i64 (8),.str [125],.str [125]]],.bool true)
theorem e144_10:∃ n,qbn sp0 qc3 n Unit qbe 0 Qhb.1 Qhb.2.1 ()=some (Qhb.2.2,[],()):=qbh (n:=400) qg0 (by kernel_rfl)
def Qr5:FuncId×List PV×PV:=(173,[.agg [.int .i64 (8),.str [40],.str [40]],.agg [.int .i64 (8),.str [41],.str [41]]],.bool true)
theorem e173_0:∃ n,qbn sp0 qc3 n Unit qbe 0 Qr5.1 Qr5.2.1 ()=some (Qr5.2.2,[],()):=qbh (n:=400) qg0 (by kernel_rfl)
def Qr4:FuncId×List PV×PV:=(173,[.agg [.int .i64 (8),.str [123],.str [123]],.agg [.int .i64 (8),.str [125],.str [125]]],.bool true)
theorem e173_1:∃ n,qbn sp0 qc3 n Unit qbe 0 Qr4.1 Qr4.2.1 ()=some (Qr4.2.2,[],()):=qbh (n:=400) qg0 (by kernel_rfl)
def Qsp:FuncId×List PV×PV:=(143,[.sl 3 [.agg [.int .i64 (5),.str [97],.str []],.agg [.int .i64 (8),.str [226,134,144],.str [226,134,144]],.agg [.int .i64 (3),.str [49],.str [49]],.agg [.int .i64 (8),.str [226,139,132],.str [226,139,132]],.agg [.int .i64 (8),.str [40],.str [40]],.agg [.int .i64 (5),.str [97],.str []],.agg [.int .i64 (8),.str [41],.str [41]],.agg [.int .i64 (6),.str [43],.str [43]],.agg [.int .i64 (5),.str [98],.str []]] false],.tup [.sl 1 [.int .i64 (-1),.int .i64 (-1),.int .i64 (-1),.int .i64 (-1),.int .i64 (6),.int .i64 (-1),.int .i64 (4),.int .i64 (-1),.int .i64 (-1)] false,.int .i64 (0)])
theorem e143_0:∃ n,qbn sp0 qc3 n Unit qbe 0 Qsp.1 Qsp.2.1 ()=some (Qsp.2.2,[],()):=qbh (n:=400) qg0 (by kernel_rfl)
def Qso:FuncId×List PV×PV:=(143,[.sl 3 [.agg [.int .i64 (5),.str [97],.str []],.agg [.int .i64 (8),.str [226,134,144],.str [226,134,144]],.agg [.int .i64 (3),.str [49],.str [49]]] false],.tup [.sl 1 [.int .i64 (-1),.int .i64 (-1),.int .i64 (-1)] false,.int .i64 (0)])
theorem e143_1:∃ n,qbn sp0 qc3 n Unit qbe 0 Qso.1 Qso.2.1 ()=some (Qso.2.2,[],()):=qbh (n:=400) qg0 (by kernel_rfl)
def Qsn:FuncId×List PV×PV:=(143,[.sl 3 [.agg [.int .i64 (8),.str [40],.str [40]],.agg [.int .i64 (5),.str [97],.str []],.agg [.int .i64 (8),.str [41],.str [41]],.agg [.int .i64 (6),.str [43],.str [43]],.agg [.int .i64 (5),.str [98],.str []]] false],.tup [.sl 1 [.int .i64 (2),.int .i64 (-1),.int .i64 (0),.int .i64 (-1),.int .i64 (-1)] false,.int .i64 (0)])
theorem e143_2:∃ n,qbn sp0 qc3 n Unit qbe 0 Qsn.1 Qsn.2.1 ()=some (Qsn.2.2,[],()):=qbh (n:=400) qg0 (by kernel_rfl)
def Qsm:FuncId×List PV×PV:=(143,[.sl 3 [.agg [.int .i64 (8),.str [40],.str [40]],.agg [.int .i64 (5),.str [97],.str []],.agg [.int .i64 (8),.str [41],.str [41]],.agg [.int .i64 (6),.str [43],.str [43]]] false],.tup [.sl 1 [.int .i64 (2),.int .i64 (-1),.int .i64 (0),.int .i64 (-1)] false,.int .i64 (0)])
theorem e143_3:∃ n,qbn sp0 qc3 n Unit qbe 0 Qsm.1 Qsm.2.1 ()=some (Qsm.2.2,[],()):=qbh (n:=400) qg0 (by kernel_rfl)
def Qsl:FuncId×List PV×PV:=(143,[.sl 3 [.agg [.int .i64 (8),.str [40],.str [40]],.agg [.int .i64 (5),.str [97],.str []],.agg [.int .i64 (8),.str [41],.str [41]]] false],.tup [.sl 1 [.int .i64 (2),.int .i64 (-1),.int .i64 (0)] false,.int .i64 (0)])
theorem e143_4:∃ n,qbn sp0 qc3 n Unit qbe 0 Qsl.1 Qsl.2.1 ()=some (Qsl.2.2,[],()):=qbh (n:=400) qg0 (by kernel_rfl)
def Qsk:FuncId×List PV×PV:=(143,[.sl 3 [.agg [.int .i64 (8),.str [123],.str [123]],.agg [.int .i64 (5),.str [97],.str []],.agg [.int .i64 (8),.str [226,134,144],.str [226,134,144]],.agg [.int .i64 (9),.str [226,141,181],.str [226,141,181]],.agg [.int .i64 (8),.str [226,139,132],.str [226,139,132]],.agg [.int .i64 (5),.str [97],.str []],.agg [.int .i64 (8),.str [125],.str [125]],.agg [.int .i64 (5),.str [97],.str []]] false],.tup [.sl 1 [.int .i64 (6),.int .i64 (-1),.int .i64 (-1),.int .i64 (-1),.int .i64 (-1),.int .i64 (-1),.int .i64 (0),.int .i64 (-1)] false,.int .i64 (0)])
theorem e143_5:∃ n,qbn sp0 qc3 n Unit qbe 0 Qsk.1 Qsk.2.1 ()=some (Qsk.2.2,[],()):=qbh (n:=400) qg0 (by kernel_rfl)
def Qsj:FuncId×List PV×PV:=(143,[.sl 3 [.agg [.int .i64 (8),.str [123],.str [123]],.agg [.int .i64 (5),.str [97],.str []],.agg [.int .i64 (8),.str [226,134,144],.str [226,134,144]],.agg [.int .i64 (9),.str [226,141,181],.str [226,141,181]],.agg [.int .i64 (8),.str [226,139,132],.str [226,139,132]],.agg [.int .i64 (5),.str [97],.str []],.agg [.int .i64 (8),.str [125],.str [125]]] false],.tup [.sl 1 [.int .i64 (6),.int .i64 (-1),.int .i64 (-1),.int .i64 (-1),.int .i64 (-1),.int .i64 (-1),.int .i64 (0)] false,.int .i64 (0)])
theorem e143_6:∃ n,qbn sp0 qc3 n Unit qbe 0 Qsj.1 Qsj.2.1 ()=some (Qsj.2.2,[],()):=qbh (n:=400) qg0 (by kernel_rfl)
def Qsi:FuncId×List PV×PV:=(143,[.sl 3 [.agg [.int .i64 (5),.str [97],.str []],.agg [.int .i64 (8),.str [226,134,144],.str [226,134,144]],.agg [.int .i64 (9),.str [226,141,181],.str [226,141,181]],.agg [.int .i64 (8),.str [226,139,132],.str [226,139,132]],.agg [.int .i64 (5),.str [97],.str []]] false],.tup [.sl 1 [.int .i64 (-1),.int .i64 (-1),.int .i64 (-1),.int .i64 (-1),.int .i64 (-1)] false,.int .i64 (0)])
theorem e143_7:∃ n,qbn sp0 qc3 n Unit qbe 0 Qsi.1 Qsi.2.1 ()=some (Qsi.2.2,[],()):=qbh (n:=400) qg0 (by kernel_rfl)
def Qsh:FuncId×List PV×PV:=(143,[.sl 3 [.agg [.int .i64 (5),.str [97],.str []]] false],.tup [.sl 1 [.int .i64 (-1)] false,.int .i64 (0)])
theorem e143_8:∃ n,qbn sp0 qc3 n Unit qbe 0 Qsh.1 Qsh.2.1 ()=some (Qsh.2.2,[],()):=qbh (n:=400) qg0 (by kernel_rfl)
def knk:qro :=
 Qsg :: Qsf :: Qse :: Qsd :: Qsc :: Qsb :: Qsa :: Qr9 :: Qr8 :: Qr7 :: Qhb :: Qr5 :: Qr4 :: Qsp :: Qso :: Qsn :: Qsm :: Qsl :: Qsk :: Qsj :: Qsi :: Qsh :: knj
theorem knk_ok:qk8 sp0 qc3 knk:=qbf e144_0 <| qbf e144_1 <| qbf e144_2 <| qbf e144_3 <| qbf e144_4 <| qbf e144_5 <| qbf e144_6 <| qbf e144_7 <| qbf e144_8 <| qbf e144_9 <| qbf e144_10 <| qbf e173_0 <| qbf e173_1 <| qbf e143_0 <| qbf e143_1 <| qbf e143_2 <| qbf e143_3 <| qbf e143_4 <| qbf e143_5 <| qbf e143_6 <| qbf e143_7 <| qbf e143_8 <| qg0
end Go.Ab.Core

