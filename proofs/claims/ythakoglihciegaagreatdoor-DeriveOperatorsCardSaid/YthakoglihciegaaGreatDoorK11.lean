/- Part 11 of a proof: laws of a machine. -/
import Derived.Test.YthakoglihciegaaGreatDoorK08
import Derived.KernelRfl
import Derived.Test.YthakoglihciegaaGreatDoorK10
set_option linter.all false

namespace Go.Ab.jF
open Go Go.Ab
theorem dh:∃ n,Br Bq A9 n Unit AI 0 5 [.str [43],.agg [.bool true,.bool false,.jD]] ()=some (.jE [.agg [.bool false,.bool false,.sl 1 [.int .i64 (0)] false],.int .i64 (0)],[],()):=BW (n:=60) D7 (by kernel_rfl)
theorem dg:∃ n,Br Bq A9 n Unit AI 0 5 [.str [43],.agg [.bool true,.bool false,.sl 1 [] false]] ()=some (.jE [.agg [.bool false,.bool false,.sl 1 [.int .i64 (0)] false],.int .i64 (0)],[],()):=BW (n:=60) D7 (by kernel_rfl)
theorem df:∃ n,Br Bq A9 n Unit AI 0 5 [.str [43],.agg [.bool true,.bool false,.sl 1 [] true]] ()=some (.jE [.agg [.bool false,.bool false,.sl 1 [.int .i64 (0)] false],.int .i64 (0)],[],()):=BW (n:=60) D7 (by kernel_rfl)
theorem de:∃ n,Br Bq A9 n Unit AI 0 5 [.str [43],.agg [.bool true,.bool true,.jD]] ()=some (.jE [.agg [.bool false,.bool false,.sl 1 [.int .i64 (0)] false],.int .i64 (0)],[],()):=BW (n:=60) D7 (by kernel_rfl)
theorem dc:∃ n,Br Bq A9 n Unit AI 0 5 [.str [43],.agg [.bool true,.bool true,.sl 1 [] false]] ()=some (.jE [.agg [.bool false,.bool false,.sl 1 [.int .i64 (0)] false],.int .i64 (0)],[],()):=BW (n:=60) D7 (by kernel_rfl)
theorem cZ:∃ n,Br Bq A9 n Unit AI 0 5 [.str [43],.agg [.bool true,.bool true,.sl 1 [] true]] ()=some (.jE [.agg [.bool false,.bool false,.sl 1 [.int .i64 (0)] false],.int .i64 (0)],[],()):=BW (n:=60) D7 (by kernel_rfl)
theorem cY:∃ n,Br Bq A9 n Unit AI 0 5 [.str [195,151],.agg [.bool true,.bool false,.jD]] ()=some (.jE [.agg [.bool false,.bool false,.sl 1 [.int .i64 (1)] false],.int .i64 (0)],[],()):=BW (n:=60) D7 (by kernel_rfl)
theorem cX:∃ n,Br Bq A9 n Unit AI 0 5 [.str [195,151],.agg [.bool true,.bool false,.sl 1 [] false]] ()=some (.jE [.agg [.bool false,.bool false,.sl 1 [.int .i64 (1)] false],.int .i64 (0)],[],()):=BW (n:=60) D7 (by kernel_rfl)
theorem cW:∃ n,Br Bq A9 n Unit AI 0 5 [.str [195,151],.agg [.bool true,.bool false,.sl 1 [] true]] ()=some (.jE [.agg [.bool false,.bool false,.sl 1 [.int .i64 (1)] false],.int .i64 (0)],[],()):=BW (n:=60) D7 (by kernel_rfl)
theorem cV:∃ n,Br Bq A9 n Unit AI 0 5 [.str [195,151],.agg [.bool true,.bool true,.jD]] ()=some (.jE [.agg [.bool false,.bool false,.sl 1 [.int .i64 (1)] false],.int .i64 (0)],[],()):=BW (n:=60) D7 (by kernel_rfl)
theorem cU:∃ n,Br Bq A9 n Unit AI 0 5 [.str [195,151],.agg [.bool true,.bool true,.sl 1 [] false]] ()=some (.jE [.agg [.bool false,.bool false,.sl 1 [.int .i64 (1)] false],.int .i64 (0)],[],()):=BW (n:=60) D7 (by kernel_rfl)
theorem cS:∃ n,Br Bq A9 n Unit AI 0 5 [.str [195,151],.agg [.bool true,.bool true,.sl 1 [] true]] ()=some (.jE [.agg [.bool false,.bool false,.sl 1 [.int .i64 (1)] false],.int .i64 (0)],[],()):=BW (n:=60) D7 (by kernel_rfl)
end Go.Ab.jF

