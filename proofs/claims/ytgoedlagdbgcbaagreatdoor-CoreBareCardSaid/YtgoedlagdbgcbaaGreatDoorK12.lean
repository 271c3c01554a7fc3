/-
  Part 12 of a proof: a machine of our own for the given program, its laws, and what it says of the program. Nothing here is a claim by itself.
-/
import Derived.Test.YtgoedlagdbgcbaaGreatDoorK11
import Derived.KernelRfl
set_option linter.all false

namespace Go.Ab.Core
open Go Go.Ab
def Qs9:FuncId×List PV×PV:=(144,[.agg [.int .i64 (5),.str [97],.str []]],.bool true)
theorem e144_0:∃ n,qbm sp0 qc7 n Unit qbe 0 Qs9.1 Qs9.2.1 ()=some (Qs9.2.2,[],()):=qbh (n:=400) qg9 (by kernel_rfl)
def Qs8:FuncId×List PV×PV:=(144,[.agg [.int .i64 (8),.str [226,134,144],.str [226,134,144]]],.bool true)
theorem e144_1:∃ n,qbm sp0 qc7 n Unit qbe 0 Qs8.1 Qs8.2.1 ()=some (Qs8.2.2,[],()):=qbh (n:=400) qg9 (by kernel_rfl)
def Qs7:FuncId×List PV×PV:=(144,[.agg [.int .i64 (3),.str [49],.str [49]]],.bool true)
theorem e144_2:∃ n,qbm sp0 qc7 n Unit qbe 0 Qs7.1 Qs7.2.1 ()=some (Qs7.2.2,[],()):=qbh (n:=400) qg9 (by kernel_rfl)
def Qs6:FuncId×List PV×PV:=(144,[.agg [.int .i64 (8),.str [40],.str [40]]],.bool true)
theorem e144_3:∃ n,qbm sp0 qc7 n Unit qbe 0 Qs6.1 Qs6.2.1 ()=some (Qs6.2.2,[],()):=qbh (n:=400) qg9 (by kernel_rfl)
def Qs5:FuncId×List PV×PV:=(144,[.agg [.int .i64 (8),.str [41],.str [41]]],.bool true)
theorem e144_4:∃ n,qbm sp0 qc7 n Unit qbe 0 Qs5.1 Qs5.2.1 ()=some (Qs5.2.2,[],()):=qbh (n:=400) qg9 (by kernel_rfl)
def Qs4:FuncId×List PV×PV:=(144,[.agg [.int .i64 (6),.str [43],.str [43]]],.bool true)
theorem e144_5:∃ n,qbm sp0 qc7 n Unit qbe 0 Qs4.1 Qs4.2.1 ()=some (Qs4.2.2,[],()):=qbh (n:=400) qg9 (by kernel_rfl)
def Qs3:FuncId×List PV×PV:=(144,[.agg [.int .i64 (5),.str [98],.str []]],.bool true)
theorem e144_6:∃ n,qbm sp0 qc7 n Unit qbe 0 Qs3.1 Qs3.2.1 ()=some (Qs3.2.2,[],()):=qbh (n:=400) qg9 (by kernel_rfl)
def Qs2:FuncId×List PV×PV:=(144,[.agg [.int .i64 (8),.str [123],.str [123]]],.bool true)
theorem e144_7:∃ n,qbm sp0 qc7 n Unit qbe 0 Qs2.1 Qs2.2.1 ()=some (Qs2.2.2,[],()):=qbh (n:=400) qg9 (by kernel_rfl)
def Qs1:FuncId×List PV×PV:=(144,[.agg [.int .i64 (9),.str [226,141,181],.str [226,141,181]]],.bool true)
theorem e144_8:∃ n,qbm sp0 qc7 n Unit qbe 0 Qs1.1 Qs1.2.1 ()=some (Qs1.2.2,[],()):=qbh (n:=400) qg9 (by kernel_rfl)
def Qs0:FuncId×List PV×PV:=(144,[.agg [.int .i64 (8),.str [226,139,132],.str [226,139,132]]],.bool true)
theorem e144_9:∃ n,qbm sp0 qc7 n Unit qbe 0 Qs0.1 Qs0.2.1 ()=some (Qs0.2.2,[],()):=qbh (n:=400) qg9 (by kernel_rfl)
def Qhv:FuncId×List PV×PV:=(144,[.agg [.int .i64 (8),.str [125],.str [125]]],.bool true)
theorem e144_10:∃ n,qbm sp0 qc7 n Unit qbe 0 Qhv.1 Qhv.2.1 ()=some (Qhv.2.2,[],()):=qbh (n:=400) qg9 (by kernel_rfl)
def Qsy:FuncId×List PV×PV:=(173,[.agg [.int .i64 (8),.str [40],.str [40]],.agg [.int .i64 (8),.str [41],.str [41]]],.bool true)
theorem e173_0:∃ n,qbm sp0 qc7 n Unit qbe 0 Qsy.1 Qsy.2.1 ()=some (Qsy.2.2,[],()):=qbh (n:=400) qg9 (by kernel_rfl)
def Qsx:FuncId×List PV×PV:=(173,[.agg [.int .i64 (8),.str [123],.str [123]],.agg [.int .i64 (8),.str [125],.str [125]]],.bool true)
theorem e173_1:∃ n,qbm sp0 qc7 n Unit qbe 0 Qsx.1 Qsx.2.1 ()=some (Qsx.2.2,[],()):=qbh (n:=400) qg9 (by kernel_rfl)
def Qti:FuncId×List PV×PV:=(143,[.sl 3 [.agg [.int .i64 (5),.str [97],.str []],.agg [.int .i64 (8),.str [226,134,144],.str [226,134,144]],.agg [.int .i64 (3),.str [49],.str [49]],.agg [.int .i64 (8),.str [226,139,132],.str [226,139,132]],.agg [.int .i64 (8),.str [40],.str [40]],.agg [.int .i64 (5),.str [97],.str []],.agg [.int .i64 (8),.str [41],.str [41]],.agg [.int .i64 (6),.str [43],.str [43]],.agg [.int .i64 (5),.str [98],.str []]] false],.tup [.sl 1 [.int .i64 (-1),.int .i64 (-1),.int .i64 (-1),.int .i64 (-1),.int .i64 (6),.int .i64 (-1),.int .i64 (4),.int .i64 (-1),.int .i64 (-1)] false,.int .i64 (0)])
theorem e143_0:∃ n,qbm sp0 qc7 n Unit qbe 0 Qti.1 Qti.2.1 ()=some (Qti.2.2,[],()):=qbh (n:=400) qg9 (by kernel_rfl)
def Qth:FuncId×List PV×PV:=(143,[.sl 3 [.agg [.int .i64 (5),.str [97],.str []],.agg [.int .i64 (8),.str [226,134,144],.str [226,134,144]],.agg [.int .i64 (3),.str [49],.str [49]]] false],.tup [.sl 1 [.int .i64 (-1),.int .i64 (-1),.int .i64 (-1)] false,.int .i64 (0)])
theorem e143_1:∃ n,qbm sp0 qc7 n Unit qbe 0 Qth.1 Qth.2.1 ()=some (Qth.2.2,[],()):=qbh (n:=400) qg9 (by kernel_rfl)
def Qtg:FuncId×List PV×PV:=(143,[.sl 3 [.agg [.int .i64 (8),.str [40],.str [40]],.agg [.int .i64 (5),.str [97],.str []],.agg [.int .i64 (8),.str [41],.str [41]],.agg [.int .i64 (6),.str [43],.str [43]],.agg [.int .i64 (5),.str [98],.str []]] false],.tup [.sl 1 [.int .i64 (2),.int .i64 (-1),.int .i64 (0),.int .i64 (-1),.int .i64 (-1)] false,.int .i64 (0)])
theorem e143_2:∃ n,qbm sp0 qc7 n Unit qbe 0 Qtg.1 Qtg.2.1 ()=some (Qtg.2.2,[],()):=qbh (n:=400) qg9 (by kernel_rfl)
def Qtf:FuncId×List PV×PV:=(143,[.sl 3 [.agg [.int .i64 (8),.str [40],.str [40]],.agg [.int .i64 (5),.str [97],.str []],.agg [.int .i64 (8),.str [41],.str [41]],.agg [.int .i64 (6),.str [43],.str [43]]] false],.tup [.sl 1 [.int .i64 (2),.int .i64 (-1),.int .i64 (0),.int .i64 (-1)] false,.int .i64 (0)])
theorem e143_3:∃ n,qbm sp0 qc7 n Unit qbe 0 Qtf.1 Qtf.2.1 ()=some (Qtf.2.2,[],()):=qbh (n:=400) qg9 (by kernel_rfl)
def Qte:FuncId×List PV×PV:=(143,[.sl 3 [.agg [.int .i64 (8),.str [40],.str [40]],.agg [.int .i64 (5),.str [97],.str []],.agg [.int .i64 (8),.str [41],.str [41]]] false],.tup [.sl 1 [.int .i64 (2),.int .i64 (-1),.int .i64 (0)] false,.int .i64 (0)])
theorem e143_4:∃ n,qbm sp0 qc7 n Unit qbe 0 Qte.1 Qte.2.1 ()=some (Qte.2.2,[],()):=qbh (n:=400) qg9 (by kernel_rfl)
def Qtd:FuncId×List PV×PV:=(143,[.sl 3 [.agg [.int .i64 (8),.str [123],.str [123]],.agg [.int .i64 (5),.str [97],.str []],.agg [.int .i64 (8),.str [226,134,144],.str [226,134,144]],.agg [.int .i64 (9),.str [226,141,181],.str [226,141,181]],.agg [.int .i64 (8),.str [226,139,132],.str [226,139,132]],.agg [.int .i64 (5),.str [97],.str []],.agg [.int .i64 (8),.str [125],.str [125]],.agg [.int .i64 (5),.str [97],.str []]] false],.tup [.sl 1 [.int .i64 (6),.int .i64 (-1),.int .i64 (-1),.int .i64 (-1),.int .i64 (-1),.int .i64 (-1),.int .i64 (0),.int .i64 (-1)] false,.int .i64 (0)])
theorem e143_5:∃ n,qbm sp0 qc7 n Unit qbe 0 Qtd.1 Qtd.2.1 ()=some (Qtd.2.2,[],()):=qbh (n:=400) qg9 (by kernel_rfl)
def Qtc:FuncId×List PV×PV:=(143,[.sl 3 [.agg [.int .i64 (8),.str [123],.str [123]],.agg [.int .i64 (5),.str [97],.str []],.agg [.int .i64 (8),.str [226,134,144],.str [226,134,144]],.agg [.int .i64 (9),.str [226,141,181],.str [226,141,181]],.agg [.int .i64 (8),.str [226,139,132],.str [226,139,132]],.agg [.int .i64 (5),.str [97],.str []],.agg [.int .i64 (8),.str [125],.str [125]]] false],.tup [.sl 1 [.int .i64 (6),.int .i64 (-1),.int .i64 (-1),.int .i64 (-1),.int .i64 (-1),.int .i64 (-1),.int .i64 (0)] false,.int .i64 (0)])
theorem e143_6:∃ n,qbm sp0 qc7 n Unit qbe 0 Qtc.1 Qtc.2.1 ()=some (Qtc.2.2,[],()):=qbh (n:=400) qg9 (by kernel_rfl)
def Qtb:FuncId×List PV×PV:=(143,[.sl 3 [.agg [.int .i64 (5),.str [97],.str []],.agg [.int .i64 (8),.str [226,134,144],.str [226,134,144]],.agg [.int .i64 (9),.str [226,141,181],.str [226,141,181]],.agg [.int .i64 (8),.str [226,139,132],.str [226,139,132]],.agg [.int .i64 (5),.str [97],.str []]] false],.tup [.sl 1 [.int .i64 (-1),.int .i64 (-1),.int .i64 (-1),.int .i64 (-1),.int .i64 (-1)] false,.int .i64 (0)])
theorem e143_7:∃ n,qbm sp0 qc7 n Unit qbe 0 Qtb.1 Qtb.2.1 ()=some (Qtb.2.2,[],()):=qbh (n:=400) qg9 (by kernel_rfl)
def Qta:FuncId×List PV×PV:=(143,[.sl 3 [.agg [.int .i64 (5),.str [97],.str []]] false],.tup [.sl 1 [.int .i64 (-1)] false,.int .i64 (0)])
theorem e143_8:∃ n,qbm sp0 qc7 n Unit qbe 0 Qta.1 Qta.2.1 ()=some (Qta.2.2,[],()):=qbh (n:=400) qg9 (by kernel_rfl)
def knk:qr2 :=
 Qs9 :: Qs8 :: Qs7 :: Qs6 :: Qs5 :: Qs4 :: Qs3 :: Qs2 :: Qs1 :: Qs0 :: Qhv :: Qsy :: Qsx :: Qti :: Qth :: Qtg :: Qtf :: Qte :: Qtd :: Qtc :: Qtb :: Qta :: knj
theorem knk_ok:qli sp0 qc7 knk:=qbf e144_0<|qbf e144_1<|qbf e144_2<|qbf e144_3<|qbf e144_4<|qbf e144_5<|qbf e144_6<|qbf e144_7<|qbf e144_8<|qbf e144_9<|qbf e144_10<|qbf e173_0<|qbf e173_1<|qbf e143_0<|qbf e143_1<|qbf e143_2<|qbf e143_3<|qbf e143_4<|qbf e143_5<|qbf e143_6<|qbf e143_7<|qbf e143_8<|qg9
end Go.Ab.Core

