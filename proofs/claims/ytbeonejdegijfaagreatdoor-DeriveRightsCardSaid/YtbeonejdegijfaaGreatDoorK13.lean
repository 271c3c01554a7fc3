/-
  Part 13 of a proof: a machine of our own for the given program, its laws, and what it says of the program. Nothing here is a claim by itself.
-/
import Derived.Test.YtbeonejdegijfaaGreatDoorK09
import Derived.KernelRfl
import Derived.Test.YtbeonejdegijfaaGreatDoorK12
set_option linter.all false

namespace Go.Ab.Derive2
open Go Go.Ab
theorem aT:∃ n,Bc Bb A1 n Unit AD 0 19 [.str [226,136,167],.agg [.bool true,.bool false,.nilS]] ()=some (.tup [.agg [.bool false,.bool false,.sl 1 [.int .i64 (1)] false],.int .i64 (0)],[],()):=BI (n:=60) C6 (by kernel_rfl)
theorem aS:∃ n,Bc Bb A1 n Unit AD 0 19 [.str [226,136,167],.agg [.bool true,.bool false,.sl 1 [] false]] ()=some (.tup [.agg [.bool false,.bool false,.sl 1 [.int .i64 (1)] false],.int .i64 (0)],[],()):=BI (n:=60) C6 (by kernel_rfl)
theorem aR:∃ n,Bc Bb A1 n Unit AD 0 19 [.str [226,136,167],.agg [.bool true,.bool false,.sl 1 [] true]] ()=some (.tup [.agg [.bool false,.bool false,.sl 1 [.int .i64 (1)] false],.int .i64 (0)],[],()):=BI (n:=60) C6 (by kernel_rfl)
theorem aQ:∃ n,Bc Bb A1 n Unit AD 0 19 [.str [226,136,167],.agg [.bool true,.bool true,.nilS]] ()=some (.tup [.agg [.bool false,.bool false,.sl 1 [.int .i64 (1)] false],.int .i64 (0)],[],()):=BI (n:=60) C6 (by kernel_rfl)
theorem aP:∃ n,Bc Bb A1 n Unit AD 0 19 [.str [226,136,167],.agg [.bool true,.bool true,.sl 1 [] false]] ()=some (.tup [.agg [.bool false,.bool false,.sl 1 [.int .i64 (1)] false],.int .i64 (0)],[],()):=BI (n:=60) C6 (by kernel_rfl)
theorem aO:∃ n,Bc Bb A1 n Unit AD 0 19 [.str [226,136,167],.agg [.bool true,.bool true,.sl 1 [] true]] ()=some (.tup [.agg [.bool false,.bool false,.sl 1 [.int .i64 (1)] false],.int .i64 (0)],[],()):=BI (n:=60) C6 (by kernel_rfl)
theorem aM:∃ n,Bc Bb A1 n Unit AD 0 19 [.str [226,136,168],.agg [.bool true,.bool false,.nilS]] ()=some (.tup [.agg [.bool false,.bool false,.sl 1 [.int .i64 (0)] false],.int .i64 (0)],[],()):=BI (n:=60) C6 (by kernel_rfl)
theorem aL:∃ n,Bc Bb A1 n Unit AD 0 19 [.str [226,136,168],.agg [.bool true,.bool false,.sl 1 [] false]] ()=some (.tup [.agg [.bool false,.bool false,.sl 1 [.int .i64 (0)] false],.int .i64 (0)],[],()):=BI (n:=60) C6 (by kernel_rfl)
theorem aK:∃ n,Bc Bb A1 n Unit AD 0 19 [.str [226,136,168],.agg [.bool true,.bool false,.sl 1 [] true]] ()=some (.tup [.agg [.bool false,.bool false,.sl 1 [.int .i64 (0)] false],.int .i64 (0)],[],()):=BI (n:=60) C6 (by kernel_rfl)
theorem aJ:∃ n,Bc Bb A1 n Unit AD 0 19 [.str [226,136,168],.agg [.bool true,.bool true,.nilS]] ()=some (.tup [.agg [.bool false,.bool false,.sl 1 [.int .i64 (0)] false],.int .i64 (0)],[],()):=BI (n:=60) C6 (by kernel_rfl)
theorem aI:∃ n,Bc Bb A1 n Unit AD 0 19 [.str [226,136,168],.agg [.bool true,.bool true,.sl 1 [] false]] ()=some (.tup [.agg [.bool false,.bool false,.sl 1 [.int .i64 (0)] false],.int .i64 (0)],[],()):=BI (n:=60) C6 (by kernel_rfl)
theorem aH:∃ n,Bc Bb A1 n Unit AD 0 19 [.str [226,136,168],.agg [.bool true,.bool true,.sl 1 [] true]] ()=some (.tup [.agg [.bool false,.bool false,.sl 1 [.int .i64 (0)] false],.int .i64 (0)],[],()):=BI (n:=60) C6 (by kernel_rfl)
end Go.Ab.Derive2

