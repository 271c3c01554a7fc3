/- Part 9 of a proof: laws of a machine. -/
import Derived.Test.YthakoglihciegaaGreatDoorK08
import Derived.KernelRfl
set_option linter.all false

namespace Go.Ab.jF
open Go Go.Ab
theorem zaB:∃ n,Br Bq A9 n Unit AI 0 4 [] ()=some (.bool true,[],()):=BW (n:=60) D7 (by kernel_rfl)
end Go.Ab.jF

