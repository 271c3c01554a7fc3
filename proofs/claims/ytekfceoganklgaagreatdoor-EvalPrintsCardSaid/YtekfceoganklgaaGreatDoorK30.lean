/- Part 30 of a proof: laws of a machine. -/
import Derived.Test.YtekfceoganklgaaGreatDoorK27
import Derived.KernelRfl
set_option linter.all false

namespace Go.Ab.mm
open Go Go.Ab
def zeW:Ap:=(110,[.int .i64 1,.str Mq,.mu],.mn [.sl 3 zk83 false,.int .i64 0])
theorem e110_2:Aq zeW:=At (n:=400) BX Ay (by kernel_rfl)
def zeX:Ap:=(110,[.int .i64 1,.str [50],.sl 1 [] false],.mn [.sl 3 zk93 false,.int .i64 0])
theorem e110_5:Aq zeX:=At (n:=400) BX Ay (by kernel_rfl)
def zeY:Ap:=(110,[.int .i64 10,.str [194,168],.sl 1 [.sl 3 zdD false] false],.mn [.sl 3 zk90 false,.int .i64 0])
theorem e110_8:Aq zeY:=At (n:=400) BX Ay (by kernel_rfl)
def cR:Ap:=(110,[.int .i64 11,.str [],.sl 1 [.sl 3 zk11 false,.sl 3 yf false] false],.mn [.sl 3 zk5 false,.int .i64 0])
theorem e110_11:Aq cR:=At (n:=400) BX Ay (by kernel_rfl)
def cO:Ap:=(110,[.int .i64 14,.str [48],.sl 1 [] false],.mn [.sl 3 zdE false,.int .i64 0])
theorem e110_14:Aq cO:=At (n:=400) BX Ay (by kernel_rfl)
def cL:Ap:=(110,[.int .i64 6,.str [],.sl 1 [.sl 3 zk90 false,.sl 3 zk28 false] false],.mn [.sl 3 zk10 false,.int .i64 0])
theorem e110_17:Aq cL:=At (n:=400) BX Ay (by kernel_rfl)
def cI:Ap:=(110,[.int .i64 6,.str [],.sl 1 [.sl 3 zk66 false,.sl 3 zk83 false] false],.mn [.sl 3 zk9 false,.int .i64 0])
theorem e110_20:Aq cI:=At (n:=400) BX Ay (by kernel_rfl)
def cF:Ap:=(110,[.int .i64 8,.str [102],.sl 1 [.sl 3 zk5 false] false],.mn [.sl 3 zk4 false,.int .i64 0])
theorem e110_23:Aq cF:=At (n:=400) BX Ay (by kernel_rfl)
def cC:Ap:=(110,[.int .i64 9,.str [195,151],.sl 1 [] false],.mn [.sl 3 zk86 false,.int .i64 0])
theorem e110_26:Aq cC:=At (n:=400) BX Ay (by kernel_rfl)
def cz:Ap:=(110,[.int .i64 9,.str [43],.mu],.mn [.sl 3 zk97 false,.int .i64 0])
theorem e110_29:Aq cz:=At (n:=400) BX Ay (by kernel_rfl)
def cu:Ap:=(110,[.int .i64 9,.str [61],.sl 1 [] false],.mn [.sl 3 zk95 false,.int .i64 0])
theorem e110_32:Aq cu:=At (n:=400) BX Ay (by kernel_rfl)
end Go.Ab.mm

