/-
  Part 7 of a proof: a machine of our own for the given program, its laws, and what it says of the program. Nothing here is a claim by itself.
-/
import Derived.Test.YtgoedlagdbgcbaaGreatDoorK05
import Derived.Test.YtgoedlagdbgcbaaGreatDoorK06
import Derived.KernelRfl
set_option linter.all false

namespace Go.Ab.Core
open Go Go.Ab
def Qsz:FuncId×List PV×PV:=(169,[],.sl 3 [.agg [.str [43],.str [],.int .i64 (1)],.agg [.str [45],.str [],.int .i64 (1)],.agg [.str [195,151],.str [120],.int .i64 (1)],.agg [.str [195,183],.str [100],.int .i64 (1)],.agg [.str [226,140,136],.str [117],.int .i64 (1)],.agg [.str [226,140,138],.str [110],.int .i64 (1)],.agg [.str [124],.str [],.int .i64 (1)],.agg [.str [61],.str [],.int .i64 (1)],.agg [.str [226,137,160],.str [113],.int .i64 (1)],.agg [.str [60],.str [],.int .i64 (1)],.agg [.str [62],.str [],.int .i64 (1)],.agg [.str [226,137,164],.str [108],.int .i64 (1)],.agg [.str [226,137,165],.str [103],.int .i64 (1)],.agg [.str [226,136,167],.str [97],.int .i64 (1)],.agg [.str [226,136,168],.str [111],.int .i64 (1)],.agg [.str [126],.str [],.int .i64 (1)],.agg [.str [226,141,180],.str [114],.int .i64 (1)],.agg [.str [226,141,179],.str [105],.int .i64 (1)],.agg [.str [44],.str [],.int .i64 (1)],.agg [.str [226,140,189],.str [116],.int .i64 (1)],.agg [.str [226,134,145],.str [107],.int .i64 (1)],.agg [.str [226,134,147],.str [106],.int .i64 (1)],.agg [.str [226,137,162],.str [109],.int .i64 (1)],.agg [.str [47],.str [],.int .i64 (2)],.agg [.str [92],.str [],.int .i64 (2)],.agg [.str [194,168],.str [101],.int .i64 (2)],.agg [.str [226,141,168],.str [99],.int .i64 (2)],.agg [.str [226,134,144],.str [115],.int .i64 (3)],.agg [.str [226,139,132],.str [122],.int .i64 (3)],.agg [.str [58],.str [],.int .i64 (3)],.agg [.str [123],.str [],.int .i64 (3)],.agg [.str [125],.str [],.int .i64 (3)],.agg [.str [40],.str [],.int .i64 (3)],.agg [.str [41],.str [],.int .i64 (3)],.agg [.str [226,141,186],.str [112],.int .i64 (4)],.agg [.str [226,141,181],.str [119],.int .i64 (4)],.agg [.str [194,175],.str [104],.int .i64 (5)],.agg [.str [226,141,157],.str [98],.int .i64 (6)]] false)
theorem e169_0:∃ n,qbm sp0 qc7 n Unit qbe 0 Qsz.1 Qsz.2.1 ()=some (Qsz.2.2,[],()):=qbh (n:=400) Qdf (by kernel_rfl)
def knf:qr2 :=
 Qsz :: []
theorem qga:qli sp0 qc7 knf:=qbf e169_0<|Qdf
end Go.Ab.Core

