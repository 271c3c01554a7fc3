/-
  Part 8 of a proof: a machine of our own for the given program, its laws, and what it says of the program. Nothing here is a claim by itself.
-/
import Derived.Test.YtgoedlagdbgcbaaGreatDoorK07
import Derived.KernelRfl
set_option linter.all false

namespace Go.Ab.Core
open Go Go.Ab
def Qs8:FuncId×List PV×PV:=(134,[.str [97,226,134,144,49,226,139,132,40,97,41,43,98]],.tup [.str [],.int .i64 (0)])
theorem e134_0:∃ n,qbn sp0 qc3 n Unit qbe 0 Qs8.1 Qs8.2.1 ()=some (Qs8.2.2,[],()):=qbh (n:=400) qf5 (by kernel_rfl)
def Qs7:FuncId×List PV×PV:=(134,[.str [226,134,144,49,226,139,132,40,97,41,43,98]],.tup [.str [226,134,144],.int .i64 (3)])
theorem e134_1:∃ n,qbn sp0 qc3 n Unit qbe 0 Qs7.1 Qs7.2.1 ()=some (Qs7.2.2,[],()):=qbh (n:=400) qf5 (by kernel_rfl)
def Qs6:FuncId×List PV×PV:=(134,[.str [49,226,139,132,40,97,41,43,98]],.tup [.str [],.int .i64 (0)])
theorem e134_2:∃ n,qbn sp0 qc3 n Unit qbe 0 Qs6.1 Qs6.2.1 ()=some (Qs6.2.2,[],()):=qbh (n:=400) qf5 (by kernel_rfl)
def Qs5:FuncId×List PV×PV:=(134,[.str [226,139,132,40,97,41,43,98]],.tup [.str [226,139,132],.int .i64 (3)])
theorem e134_3:∃ n,qbn sp0 qc3 n Unit qbe 0 Qs5.1 Qs5.2.1 ()=some (Qs5.2.2,[],()):=qbh (n:=400) qf5 (by kernel_rfl)
def Qs4:FuncId×List PV×PV:=(134,[.str [40,97,41,43,98]],.tup [.str [40],.int .i64 (1)])
theorem e134_4:∃ n,qbn sp0 qc3 n Unit qbe 0 Qs4.1 Qs4.2.1 ()=some (Qs4.2.2,[],()):=qbh (n:=400) qf5 (by kernel_rfl)
def Qs3:FuncId×List PV×PV:=(134,[.str [97,41,43,98]],.tup [.str [],.int .i64 (0)])
theorem e134_5:∃ n,qbn sp0 qc3 n Unit qbe 0 Qs3.1 Qs3.2.1 ()=some (Qs3.2.2,[],()):=qbh (n:=400) qf5 (by kernel_rfl)
def Qs2:FuncId×List PV×PV:=(134,[.str [41,43,98]],.tup [.str [41],.int .i64 (1)])
theorem e134_6:∃ n,qbn sp0 qc3 n Unit qbe 0 Qs2.1 Qs2.2.1 ()=some (Qs2.2.2,[],()):=qbh (n:=400) qf5 (by kernel_rfl)
def Qs1:FuncId×List PV×PV:=(134,[.str [43,98]],.tup [.str [43],.int .i64 (1)])
theorem e134_7:∃ n,qbn sp0 qc3 n Unit qbe 0 Qs1.1 Qs1.2.1 ()=some (Qs1.2.2,[],()):=qbh (n:=400) qf5 (by kernel_rfl)
def Qs0:FuncId×List PV×PV:=(134,[.str [98]],.tup [.str [],.int .i64 (0)])
theorem e134_8:∃ n,qbn sp0 qc3 n Unit qbe 0 Qs0.1 Qs0.2.1 ()=some (Qs0.2.2,[],()):=qbh (n:=400) qf5 (by kernel_rfl)
def Qsz:FuncId×List PV×PV:=(134,[.str [123,97,226,134,144,226,141,181,226,139,132,97,125,97]],.tup [.str [123],.int .i64 (1)])
theorem e134_9:∃ n,qbn sp0 qc3 n Unit qbe 0 Qsz.1 Qsz.2.1 ()=some (Qsz.2.2,[],()):=qbh (n:=400) qf5 (by kernel_rfl)
def Qhi:FuncId×List PV×PV:=(134,[.str [97,226,134,144,226,141,181,226,139,132,97,125,97]],.tup [.str [],.int .i64 (0)])
theorem e134_10:∃ n,qbn sp0 qc3 n Unit qbe 0 Qhi.1 Qhi.2.1 ()=some (Qhi.2.2,[],()):=qbh (n:=400) qf5 (by kernel_rfl)
def Qhh:FuncId×List PV×PV:=(134,[.str [226,134,144,226,141,181,226,139,132,97,125,97]],.tup [.str [226,134,144],.int .i64 (3)])
theorem e134_11:∃ n,qbn sp0 qc3 n Unit qbe 0 Qhh.1 Qhh.2.1 ()=some (Qhh.2.2,[],()):=qbh (n:=400) qf5 (by kernel_rfl)
def Qhg:FuncId×List PV×PV:=(134,[.str [226,141,181,226,139,132,97,125,97]],.tup [.str [226,141,181],.int .i64 (3)])
theorem e134_12:∃ n,qbn sp0 qc3 n Unit qbe 0 Qhg.1 Qhg.2.1 ()=some (Qhg.2.2,[],()):=qbh (n:=400) qf5 (by kernel_rfl)
def Qhf:FuncId×List PV×PV:=(134,[.str [226,139,132,97,125,97]],.tup [.str [226,139,132],.int .i64 (3)])
theorem e134_13:∃ n,qbn sp0 qc3 n Unit qbe 0 Qhf.1 Qhf.2.1 ()=some (Qhf.2.2,[],()):=qbh (n:=400) qf5 (by kernel_rfl)
def Qhe:FuncId×List PV×PV:=(134,[.str [97,125,97]],.tup [.str [],.int .i64 (0)])
theorem e134_14:∃ n,qbn sp0 qc3 n Unit qbe 0 Qhe.1 Qhe.2.1 ()=some (Qhe.2.2,[],()):=qbh (n:=400) qf5 (by kernel_rfl)
def Qhd:FuncId×List PV×PV:=(134,[.str [125,97]],.tup [.str [125],.int .i64 (1)])
theorem e134_15:∃ n,qbn sp0 qc3 n Unit qbe 0 Qhd.1 Qhd.2.1 ()=some (Qhd.2.2,[],()):=qbh (n:=400) qf5 (by kernel_rfl)
def Qhc:FuncId×List PV×PV:=(134,[.str [97]],.tup [.str [],.int .i64 (0)])
theorem e134_16:∃ n,qbn sp0 qc3 n Unit qbe 0 Qhc.1 Qhc.2.1 ()=some (Qhc.2.2,[],()):=qbh (n:=400) qf5 (by kernel_rfl)
def Qsy:FuncId×List PV×PV:=(135,[.str []],.int .i64 (0))
theorem e135_0:∃ n,qbn sp0 qc3 n Unit qbe 0 Qsy.1 Qsy.2.1 ()=some (Qsy.2.2,[],()):=qbh (n:=400) qf5 (by kernel_rfl)
def Qsx:FuncId×List PV×PV:=(135,[.str [226,134,144]],.int .i64 (3))
theorem e135_1:∃ n,qbn sp0 qc3 n Unit qbe 0 Qsx.1 Qsx.2.1 ()=some (Qsx.2.2,[],()):=qbh (n:=400) qf5 (by kernel_rfl)
def Qsw:FuncId×List PV×PV:=(135,[.str [226,139,132]],.int .i64 (3))
theorem e135_2:∃ n,qbn sp0 qc3 n Unit qbe 0 Qsw.1 Qsw.2.1 ()=some (Qsw.2.2,[],()):=qbh (n:=400) qf5 (by kernel_rfl)
def Qsv:FuncId×List PV×PV:=(135,[.str [40]],.int .i64 (3))
theorem e135_3:∃ n,qbn sp0 qc3 n Unit qbe 0 Qsv.1 Qsv.2.1 ()=some (Qsv.2.2,[],()):=qbh (n:=400) qf5 (by kernel_rfl)
def Qsu:FuncId×List PV×PV:=(135,[.str [41]],.int .i64 (3))
theorem e135_4:∃ n,qbn sp0 qc3 n Unit qbe 0 Qsu.1 Qsu.2.1 ()=some (Qsu.2.2,[],()):=qbh (n:=400) qf5 (by kernel_rfl)
def Qst:FuncId×List PV×PV:=(135,[.str [43]],.int .i64 (1))
theorem e135_5:∃ n,qbn sp0 qc3 n Unit qbe 0 Qst.1 Qst.2.1 ()=some (Qst.2.2,[],()):=qbh (n:=400) qf5 (by kernel_rfl)
def Qss:FuncId×List PV×PV:=(135,[.str [123]],.int .i64 (3))
theorem e135_6:∃ n,qbn sp0 qc3 n Unit qbe 0 Qss.1 Qss.2.1 ()=some (Qss.2.2,[],()):=qbh (n:=400) qf5 (by kernel_rfl)
def Qsr:FuncId×List PV×PV:=(135,[.str [226,141,181]],.int .i64 (4))
theorem e135_7:∃ n,qbn sp0 qc3 n Unit qbe 0 Qsr.1 Qsr.2.1 ()=some (Qsr.2.2,[],()):=qbh (n:=400) qf5 (by kernel_rfl)
def Qsq:FuncId×List PV×PV:=(135,[.str [125]],.int .i64 (3))
theorem e135_8:∃ n,qbn sp0 qc3 n Unit qbe 0 Qsq.1 Qsq.2.1 ()=some (Qsq.2.2,[],()):=qbh (n:=400) qf5 (by kernel_rfl)
def kng:qro :=
 Qs8 :: Qs7 :: Qs6 :: Qs5 :: Qs4 :: Qs3 :: Qs2 :: Qs1 :: Qs0 :: Qsz :: Qhi :: Qhh :: Qhg :: Qhf :: Qhe :: Qhd :: Qhc :: Qsy :: Qsx :: Qsw :: Qsv :: Qsu :: Qst :: Qss :: Qsr :: Qsq :: knf
theorem qwy:qk8 sp0 qc3 kng:=qbf e134_0 <| qbf e134_1 <| qbf e134_2 <| qbf e134_3 <| qbf e134_4 <| qbf e134_5 <| qbf e134_6 <| qbf e134_7 <| qbf e134_8 <| qbf e134_9 <| qbf e134_10 <| qbf e134_11 <| qbf e134_12 <| qbf e134_13 <| qbf e134_14 <| qbf e134_15 <| qbf e134_16 <| qbf e135_0 <| qbf e135_1 <| qbf e135_2 <| qbf e135_3 <| qbf e135_4 <| qbf e135_5 <| qbf e135_6 <| qbf e135_7 <| qbf e135_8 <| qf5
end Go.Ab.Core

