/- Part 29 of a proof: laws of a machine. -/
import Derived.Test.YtekfceoganklgaaGreatDoorK27
import Derived.KernelRfl
set_option linter.all false

namespace Go.Ab.mm
open Go Go.Ab
def zeT:Ap:=(110,[.int .i64 1,.str [48],.sl 1 [] false],.mn [.sl 3 yj false,.int .i64 0])
theorem e110_1:Aq zeT:=At (n:=400) BX Ay (by kernel_rfl)
def zeU:Ap:=(110,[.int .i64 1,.str [50],.mu],.mn [.sl 3 zk93 false,.int .i64 0])
theorem e110_4:Aq zeU:=At (n:=400) BX Ay (by kernel_rfl)
def zeV:Ap:=(110,[.int .i64 1,.str [51],.sl 1 [] false],.mn [.sl 3 zk96 false,.int .i64 0])
theorem e110_7:Aq zeV:=At (n:=400) BX Ay (by kernel_rfl)
def cS:Ap:=(110,[.int .i64 10,.str [47],.sl 1 [.sl 3 zk97 false] false],.mn [.sl 3 zk66 false,.int .i64 0])
theorem e110_10:Aq cS:=At (n:=400) BX Ay (by kernel_rfl)
def cP:Ap:=(110,[.int .i64 14,.str [102],.mu],.mn [.sl 3 zdD false,.int .i64 0])
theorem e110_13:Aq cP:=At (n:=400) BX Ay (by kernel_rfl)
def cM:Ap:=(110,[.int .i64 4,.str Dc,.sl 1 [] false],.mn [.sl 3 zk72 false,.int .i64 0])
theorem e110_16:Aq cM:=At (n:=400) BX Ay (by kernel_rfl)
def cJ:Ap:=(110,[.int .i64 6,.str [],.sl 1 [.sl 3 zk94 false,.sl 3 zk96 false] false],.mn [.sl 3 zk28 false,.int .i64 0])
theorem e110_19:Aq cJ:=At (n:=400) BX Ay (by kernel_rfl)
def cG:Ap:=(110,[.int .i64 7,.str [],.sl 1 [.sl 3 zk72 false,.sl 3 zk95 false,.sl 3 yj false] false],.mn [.sl 3 zk17 false,.int .i64 0])
theorem e110_22:Aq cG:=At (n:=400) BX Ay (by kernel_rfl)
def cD:Ap:=(110,[.int .i64 9,.str [195,151],.mu],.mn [.sl 3 zk86 false,.int .i64 0])
theorem e110_25:Aq cD:=At (n:=400) BX Ay (by kernel_rfl)
def cA:Ap:=(110,[.int .i64 9,.str CT,.sl 1 [] false],.mn [.sl 3 zk94 false,.int .i64 0])
theorem e110_28:Aq cA:=At (n:=400) BX Ay (by kernel_rfl)
def cw:Ap:=(110,[.int .i64 9,.str [61],.mu],.mn [.sl 3 zk95 false,.int .i64 0])
theorem e110_31:Aq cw:=At (n:=400) BX Ay (by kernel_rfl)
end Go.Ab.mm

