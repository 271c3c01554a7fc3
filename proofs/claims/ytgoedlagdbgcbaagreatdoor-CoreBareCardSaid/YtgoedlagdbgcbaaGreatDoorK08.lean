/-
  Part 8 of a proof: a machine of our own for the given program, its laws, and what it says of the program. Nothing here is a claim by itself.
-/
import Derived.Test.YtgoedlagdbgcbaaGreatDoorK07
import Derived.KernelRfl
set_option linter.all false

namespace Go.Ab.Core
open Go Go.Ab
def Qt1:FuncId×List PV×PV:=(134,[.str [97,226,134,144,49,226,139,132,40,97,41,43,98]],.tup [.str [],.int .i64 (0)])
theorem e134_0:∃ n,qbm sp0 qc7 n Unit qbe 0 Qt1.1 Qt1.2.1 ()=some (Qt1.2.2,[],()):=qbh (n:=400) qga (by kernel_rfl)
def Qt0:FuncId×List PV×PV:=(134,[.str [226,134,144,49,226,139,132,40,97,41,43,98]],.tup [.str [226,134,144],.int .i64 (3)])
theorem e134_1:∃ n,qbm sp0 qc7 n Unit qbe 0 Qt0.1 Qt0.2.1 ()=some (Qt0.2.2,[],()):=qbh (n:=400) qga (by kernel_rfl)
def Qtz:FuncId×List PV×PV:=(134,[.str [49,226,139,132,40,97,41,43,98]],.tup [.str [],.int .i64 (0)])
theorem e134_2:∃ n,qbm sp0 qc7 n Unit qbe 0 Qtz.1 Qtz.2.1 ()=some (Qtz.2.2,[],()):=qbh (n:=400) qga (by kernel_rfl)
def Qty:FuncId×List PV×PV:=(134,[.str [226,139,132,40,97,41,43,98]],.tup [.str [226,139,132],.int .i64 (3)])
theorem e134_3:∃ n,qbm sp0 qc7 n Unit qbe 0 Qty.1 Qty.2.1 ()=some (Qty.2.2,[],()):=qbh (n:=400) qga (by kernel_rfl)
def Qtx:FuncId×List PV×PV:=(134,[.str [40,97,41,43,98]],.tup [.str [40],.int .i64 (1)])
theorem e134_4:∃ n,qbm sp0 qc7 n Unit qbe 0 Qtx.1 Qtx.2.1 ()=some (Qtx.2.2,[],()):=qbh (n:=400) qga (by kernel_rfl)
def Qtw:FuncId×List PV×PV:=(134,[.str [97,41,43,98]],.tup [.str [],.int .i64 (0)])
theorem e134_5:∃ n,qbm sp0 qc7 n Unit qbe 0 Qtw.1 Qtw.2.1 ()=some (Qtw.2.2,[],()):=qbh (n:=400) qga (by kernel_rfl)
def Qtv:FuncId×List PV×PV:=(134,[.str [41,43,98]],.tup [.str [41],.int .i64 (1)])
theorem e134_6:∃ n,qbm sp0 qc7 n Unit qbe 0 Qtv.1 Qtv.2.1 ()=some (Qtv.2.2,[],()):=qbh (n:=400) qga (by kernel_rfl)
def Qtu:FuncId×List PV×PV:=(134,[.str [43,98]],.tup [.str [43],.int .i64 (1)])
theorem e134_7:∃ n,qbm sp0 qc7 n Unit qbe 0 Qtu.1 Qtu.2.1 ()=some (Qtu.2.2,[],()):=qbh (n:=400) qga (by kernel_rfl)
def Qtt:FuncId×List PV×PV:=(134,[.str [98]],.tup [.str [],.int .i64 (0)])
theorem e134_8:∃ n,qbm sp0 qc7 n Unit qbe 0 Qtt.1 Qtt.2.1 ()=some (Qtt.2.2,[],()):=qbh (n:=400) qga (by kernel_rfl)
def Qts:FuncId×List PV×PV:=(134,[.str [123,97,226,134,144,226,141,181,226,139,132,97,125,97]],.tup [.str [123],.int .i64 (1)])
theorem e134_9:∃ n,qbm sp0 qc7 n Unit qbe 0 Qts.1 Qts.2.1 ()=some (Qts.2.2,[],()):=qbh (n:=400) qga (by kernel_rfl)
def Qh2:FuncId×List PV×PV:=(134,[.str [97,226,134,144,226,141,181,226,139,132,97,125,97]],.tup [.str [],.int .i64 (0)])
theorem e134_10:∃ n,qbm sp0 qc7 n Unit qbe 0 Qh2.1 Qh2.2.1 ()=some (Qh2.2.2,[],()):=qbh (n:=400) qga (by kernel_rfl)
def Qh1:FuncId×List PV×PV:=(134,[.str [226,134,144,226,141,181,226,139,132,97,125,97]],.tup [.str [226,134,144],.int .i64 (3)])
theorem e134_11:∃ n,qbm sp0 qc7 n Unit qbe 0 Qh1.1 Qh1.2.1 ()=some (Qh1.2.2,[],()):=qbh (n:=400) qga (by kernel_rfl)
def Qh0:FuncId×List PV×PV:=(134,[.str [226,141,181,226,139,132,97,125,97]],.tup [.str [226,141,181],.int .i64 (3)])
theorem e134_12:∃ n,qbm sp0 qc7 n Unit qbe 0 Qh0.1 Qh0.2.1 ()=some (Qh0.2.2,[],()):=qbh (n:=400) qga (by kernel_rfl)
def Qhz:FuncId×List PV×PV:=(134,[.str [226,139,132,97,125,97]],.tup [.str [226,139,132],.int .i64 (3)])
theorem e134_13:∃ n,qbm sp0 qc7 n Unit qbe 0 Qhz.1 Qhz.2.1 ()=some (Qhz.2.2,[],()):=qbh (n:=400) qga (by kernel_rfl)
def Qhy:FuncId×List PV×PV:=(134,[.str [97,125,97]],.tup [.str [],.int .i64 (0)])
theorem e134_14:∃ n,qbm sp0 qc7 n Unit qbe 0 Qhy.1 Qhy.2.1 ()=some (Qhy.2.2,[],()):=qbh (n:=400) qga (by kernel_rfl)
def Qhx:FuncId×List PV×PV:=(134,[.str [125,97]],.tup [.str [125],.int .i64 (1)])
theorem e134_15:∃ n,qbm sp0 qc7 n Unit qbe 0 Qhx.1 Qhx.2.1 ()=some (Qhx.2.2,[],()):=qbh (n:=400) qga (by kernel_rfl)
def Qhw:FuncId×List PV×PV:=(134,[.str [97]],.tup [.str [],.int .i64 (0)])
theorem e134_16:∃ n,qbm sp0 qc7 n Unit qbe 0 Qhw.1 Qhw.2.1 ()=some (Qhw.2.2,[],()):=qbh (n:=400) qga (by kernel_rfl)
def Qtr:FuncId×List PV×PV:=(135,[.str []],.int .i64 (0))
theorem e135_0:∃ n,qbm sp0 qc7 n Unit qbe 0 Qtr.1 Qtr.2.1 ()=some (Qtr.2.2,[],()):=qbh (n:=400) qga (by kernel_rfl)
def Qtq:FuncId×List PV×PV:=(135,[.str [226,134,144]],.int .i64 (3))
theorem e135_1:∃ n,qbm sp0 qc7 n Unit qbe 0 Qtq.1 Qtq.2.1 ()=some (Qtq.2.2,[],()):=qbh (n:=400) qga (by kernel_rfl)
def Qtp:FuncId×List PV×PV:=(135,[.str [226,139,132]],.int .i64 (3))
theorem e135_2:∃ n,qbm sp0 qc7 n Unit qbe 0 Qtp.1 Qtp.2.1 ()=some (Qtp.2.2,[],()):=qbh (n:=400) qga (by kernel_rfl)
def Qto:FuncId×List PV×PV:=(135,[.str [40]],.int .i64 (3))
theorem e135_3:∃ n,qbm sp0 qc7 n Unit qbe 0 Qto.1 Qto.2.1 ()=some (Qto.2.2,[],()):=qbh (n:=400) qga (by kernel_rfl)
def Qtn:FuncId×List PV×PV:=(135,[.str [41]],.int .i64 (3))
theorem e135_4:∃ n,qbm sp0 qc7 n Unit qbe 0 Qtn.1 Qtn.2.1 ()=some (Qtn.2.2,[],()):=qbh (n:=400) qga (by kernel_rfl)
def Qtm:FuncId×List PV×PV:=(135,[.str [43]],.int .i64 (1))
theorem e135_5:∃ n,qbm sp0 qc7 n Unit qbe 0 Qtm.1 Qtm.2.1 ()=some (Qtm.2.2,[],()):=qbh (n:=400) qga (by kernel_rfl)
def Qtl:FuncId×List PV×PV:=(135,[.str [123]],.int .i64 (3))
theorem e135_6:∃ n,qbm sp0 qc7 n Unit qbe 0 Qtl.1 Qtl.2.1 ()=some (Qtl.2.2,[],()):=qbh (n:=400) qga (by kernel_rfl)
def Qtk:FuncId×List PV×PV:=(135,[.str [226,141,181]],.int .i64 (4))
theorem e135_7:∃ n,qbm sp0 qc7 n Unit qbe 0 Qtk.1 Qtk.2.1 ()=some (Qtk.2.2,[],()):=qbh (n:=400) qga (by kernel_rfl)
def Qtj:FuncId×List PV×PV:=(135,[.str [125]],.int .i64 (3))
theorem e135_8:∃ n,qbm sp0 qc7 n Unit qbe 0 Qtj.1 Qtj.2.1 ()=some (Qtj.2.2,[],()):=qbh (n:=400) qga (by kernel_rfl)
def kng:qr2 :=
 Qt1 :: Qt0 :: Qtz :: Qty :: Qtx :: Qtw :: Qtv :: Qtu :: Qtt :: Qts :: Qh2 :: Qh1 :: Qh0 :: Qhz :: Qhy :: Qhx :: Qhw :: Qtr :: Qtq :: Qtp :: Qto :: Qtn :: Qtm :: Qtl :: Qtk :: Qtj :: knf
theorem qxi:qli sp0 qc7 kng:=qbf e134_0<|qbf e134_1<|qbf e134_2<|qbf e134_3<|qbf e134_4<|qbf e134_5<|qbf e134_6<|qbf e134_7<|qbf e134_8<|qbf e134_9<|qbf e134_10<|qbf e134_11<|qbf e134_12<|qbf e134_13<|qbf e134_14<|qbf e134_15<|qbf e134_16<|qbf e135_0<|qbf e135_1<|qbf e135_2<|qbf e135_3<|qbf e135_4<|qbf e135_5<|qbf e135_6<|qbf e135_7<|qbf e135_8<|qga
end Go.Ab.Core

