/- Part 23 of a proof: laws of a machine. -/
import Derived.Test.YtpkicjjenbdejaaGreatDoorK22
import Derived.KernelRfl
set_option linter.all false

namespace Go.Ab.fC
open Go Go.Ab
theorem zA:∃ n,AI Ay Au n Unit Ar 0 4 [] ()=some (.bool true,[],()):=AT (n:=400) zz Bp (by kernel_rfl)
theorem ev_put:∃ n,AI Ay Au n Unit Ar 0 7 [.str []] ()=some (.fM [.str [67,111,110,116,101,110,116,45,76,101,110,103,116,104,58,32,48,13,10,13,10],.int .i64 0],[],()):=AT (n:=400) zz Bp (by kernel_rfl)
end Go.Ab.fC

