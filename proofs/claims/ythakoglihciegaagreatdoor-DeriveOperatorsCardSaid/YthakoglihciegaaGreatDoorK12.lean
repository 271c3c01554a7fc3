/- Part 12 of a proof: laws of a machine. -/
import Derived.Test.YthakoglihciegaaGreatDoorK08
import Derived.KernelRfl
import Derived.Test.YthakoglihciegaaGreatDoorK11
set_option linter.all false

namespace Go.Ab.jF
open Go Go.Ab
theorem cR:∃ n,Br Bq A9 n Unit AI 0 5 [.str [226,136,167],.agg [.bool true,.bool false,.jD]] ()=some (.jE [.agg [.bool false,.bool false,.sl 1 [.int .i64 (1)] false],.int .i64 (0)],[],()):=BW (n:=60) D7 (by kernel_rfl)
theorem cQ:∃ n,Br Bq A9 n Unit AI 0 5 [.str [226,136,167],.agg [.bool true,.bool false,.sl 1 [] false]] ()=some (.jE [.agg [.bool false,.bool false,.sl 1 [.int .i64 (1)] false],.int .i64 (0)],[],()):=BW (n:=60) D7 (by kernel_rfl)
theorem cP:∃ n,Br Bq A9 n Unit AI 0 5 [.str [226,136,167],.agg [.bool true,.bool false,.sl 1 [] true]] ()=some (.jE [.agg [.bool false,.bool false,.sl 1 [.int .i64 (1)] false],.int .i64 (0)],[],()):=BW (n:=60) D7 (by kernel_rfl)
theorem cN:∃ n,Br Bq A9 n Unit AI 0 5 [.str [226,136,167],.agg [.bool true,.bool true,.jD]] ()=some (.jE [.agg [.bool false,.bool false,.sl 1 [.int .i64 (1)] false],.int .i64 (0)],[],()):=BW (n:=60) D7 (by kernel_rfl)
theorem cM:∃ n,Br Bq A9 n Unit AI 0 5 [.str [226,136,167],.agg [.bool true,.bool true,.sl 1 [] false]] ()=some (.jE [.agg [.bool false,.bool false,.sl 1 [.int .i64 (1)] false],.int .i64 (0)],[],()):=BW (n:=60) D7 (by kernel_rfl)
theorem cL:∃ n,Br Bq A9 n Unit AI 0 5 [.str [226,136,167],.agg [.bool true,.bool true,.sl 1 [] true]] ()=some (.jE [.agg [.bool false,.bool false,.sl 1 [.int .i64 (1)] false],.int .i64 (0)],[],()):=BW (n:=60) D7 (by kernel_rfl)
theorem cK:∃ n,Br Bq A9 n Unit AI 0 5 [.str [226,136,168],.agg [.bool true,.bool false,.jD]] ()=some (.jE [.agg [.bool false,.bool false,.sl 1 [.int .i64 (0)] false],.int .i64 (0)],[],()):=BW (n:=60) D7 (by kernel_rfl)
theorem cJ:∃ n,Br Bq A9 n Unit AI 0 5 [.str [226,136,168],.agg [.bool true,.bool false,.sl 1 [] false]] ()=some (.jE [.agg [.bool false,.bool false,.sl 1 [.int .i64 (0)] false],.int .i64 (0)],[],()):=BW (n:=60) D7 (by kernel_rfl)
theorem cI:∃ n,Br Bq A9 n Unit AI 0 5 [.str [226,136,168],.agg [.bool true,.bool false,.sl 1 [] true]] ()=some (.jE [.agg [.bool false,.bool false,.sl 1 [.int .i64 (0)] false],.int .i64 (0)],[],()):=BW (n:=60) D7 (by kernel_rfl)
theorem cH:∃ n,Br Bq A9 n Unit AI 0 5 [.str [226,136,168],.agg [.bool true,.bool true,.jD]] ()=some (.jE [.agg [.bool false,.bool false,.sl 1 [.int .i64 (0)] false],.int .i64 (0)],[],()):=BW (n:=60) D7 (by kernel_rfl)
theorem cG:∃ n,Br Bq A9 n Unit AI 0 5 [.str [226,136,168],.agg [.bool true,.bool true,.sl 1 [] false]] ()=some (.jE [.agg [.bool false,.bool false,.sl 1 [.int .i64 (0)] false],.int .i64 (0)],[],()):=BW (n:=60) D7 (by kernel_rfl)
theorem cF:∃ n,Br Bq A9 n Unit AI 0 5 [.str [226,136,168],.agg [.bool true,.bool true,.sl 1 [] true]] ()=some (.jE [.agg [.bool false,.bool false,.sl 1 [.int .i64 (0)] false],.int .i64 (0)],[],()):=BW (n:=60) D7 (by kernel_rfl)
end Go.Ab.jF

