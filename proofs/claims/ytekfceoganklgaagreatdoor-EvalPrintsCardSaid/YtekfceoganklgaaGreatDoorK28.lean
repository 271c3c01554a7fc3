/- Part 28 of a proof: laws of a machine. -/
import Derived.Test.YtekfceoganklgaaGreatDoorK27
import Derived.KernelRfl
set_option linter.all false

namespace Go.Ab.mm
open Go Go.Ab
def zeP:Ap:=(110,[.int .i64 1,.str [48],.mu],.mn [.sl 3 yj false,.int .i64 0])
theorem e110_0:Aq zeP:=At (n:=400) BX Ay (by kernel_rfl)
def zeQ:Ap:=(110,[.int .i64 1,.str Mq,.sl 1 [] false],.mn [.sl 3 zk83 false,.int .i64 0])
theorem e110_3:Aq zeQ:=At (n:=400) BX Ay (by kernel_rfl)
def zeR:Ap:=(110,[.int .i64 1,.str [51],.mu],.mn [.sl 3 zk96 false,.int .i64 0])
theorem e110_6:Aq zeR:=At (n:=400) BX Ay (by kernel_rfl)
def zeS:Ap:=(110,[.int .i64 10,.str [194,168],.sl 1 [.sl 3 zdE false] false],.mn [.sl 3 zk91 false,.int .i64 0])
theorem e110_9:Aq zeS:=At (n:=400) BX Ay (by kernel_rfl)
def cQ:Ap:=(110,[.int .i64 12,.str [],.sl 1 [.sl 3 zk17 false,.sl 3 yj false] false],.mn [.sl 3 zk11 false,.int .i64 0])
theorem e110_12:Aq cQ:=At (n:=400) BX Ay (by kernel_rfl)
def cN:Ap:=(110,[.int .i64 4,.str Dc,.mu],.mn [.sl 3 zk72 false,.int .i64 0])
theorem e110_15:Aq cN:=At (n:=400) BX Ay (by kernel_rfl)
def cK:Ap:=(110,[.int .i64 6,.str [],.sl 1 [.sl 3 zk91 false,.sl 3 zk28 false] false],.mn [.sl 3 zk2 false,.int .i64 0])
theorem e110_18:Aq cK:=At (n:=400) BX Ay (by kernel_rfl)
def cH:Ap:=(110,[.int .i64 7,.str [],.sl 1 [.sl 3 zk72 false,.sl 3 zk86 false,.sl 3 zk93 false] false],.mn [.sl 3 yf false,.int .i64 0])
theorem e110_21:Aq cH:=At (n:=400) BX Ay (by kernel_rfl)
def cE:Ap:=(110,[.int .i64 8,.str [48],.sl 1 [.sl 3 zk5 false] false],.mn [.sl 3 zk0 false,.int .i64 0])
theorem e110_24:Aq cE:=At (n:=400) BX Ay (by kernel_rfl)
def cB:Ap:=(110,[.int .i64 9,.str CT,.mu],.mn [.sl 3 zk94 false,.int .i64 0])
theorem e110_27:Aq cB:=At (n:=400) BX Ay (by kernel_rfl)
def cy:Ap:=(110,[.int .i64 9,.str [43],.sl 1 [] false],.mn [.sl 3 zk97 false,.int .i64 0])
theorem e110_30:Aq cy:=At (n:=400) BX Ay (by kernel_rfl)
end Go.Ab.mm

