/-
  Part 12 of a proof: a machine of our own for the given program, its laws, and what it says of the program. Nothing here is a claim by itself.
-/
import Derived.Test.YtbeonejdegijfaaGreatDoorK09
import Derived.KernelRfl
import Derived.Test.YtbeonejdegijfaaGreatDoorK11
set_option linter.all false

namespace Go.Ab.Derive2
open Go Go.Ab
theorem bh:∃ n,Bc Bb A1 n Unit AD 0 19 [.str [43],.agg [.bool true,.bool false,.nilS]] ()=some (.tup [.agg [.bool false,.bool false,.sl 1 [.int .i64 (0)] false],.int .i64 (0)],[],()):=BI (n:=60) C6 (by kernel_rfl)
theorem bg:∃ n,Bc Bb A1 n Unit AD 0 19 [.str [43],.agg [.bool true,.bool false,.sl 1 [] false]] ()=some (.tup [.agg [.bool false,.bool false,.sl 1 [.int .i64 (0)] false],.int .i64 (0)],[],()):=BI (n:=60) C6 (by kernel_rfl)
theorem bf:∃ n,Bc Bb A1 n Unit AD 0 19 [.str [43],.agg [.bool true,.bool false,.sl 1 [] true]] ()=some (.tup [.agg [.bool false,.bool false,.sl 1 [.int .i64 (0)] false],.int .i64 (0)],[],()):=BI (n:=60) C6 (by kernel_rfl)
theorem be:∃ n,Bc Bb A1 n Unit AD 0 19 [.str [43],.agg [.bool true,.bool true,.nilS]] ()=some (.tup [.agg [.bool false,.bool false,.sl 1 [.int .i64 (0)] false],.int .i64 (0)],[],()):=BI (n:=60) C6 (by kernel_rfl)
theorem bc:∃ n,Bc Bb A1 n Unit AD 0 19 [.str [43],.agg [.bool true,.bool true,.sl 1 [] false]] ()=some (.tup [.agg [.bool false,.bool false,.sl 1 [.int .i64 (0)] false],.int .i64 (0)],[],()):=BI (n:=60) C6 (by kernel_rfl)
theorem ba:∃ n,Bc Bb A1 n Unit AD 0 19 [.str [43],.agg [.bool true,.bool true,.sl 1 [] true]] ()=some (.tup [.agg [.bool false,.bool false,.sl 1 [.int .i64 (0)] false],.int .i64 (0)],[],()):=BI (n:=60) C6 (by kernel_rfl)
theorem aZ:∃ n,Bc Bb A1 n Unit AD 0 19 [.str [195,151],.agg [.bool true,.bool false,.nilS]] ()=some (.tup [.agg [.bool false,.bool false,.sl 1 [.int .i64 (1)] false],.int .i64 (0)],[],()):=BI (n:=60) C6 (by kernel_rfl)
theorem aY:∃ n,Bc Bb A1 n Unit AD 0 19 [.str [195,151],.agg [.bool true,.bool false,.sl 1 [] false]] ()=some (.tup [.agg [.bool false,.bool false,.sl 1 [.int .i64 (1)] false],.int .i64 (0)],[],()):=BI (n:=60) C6 (by kernel_rfl)
theorem aX:∃ n,Bc Bb A1 n Unit AD 0 19 [.str [195,151],.agg [.bool true,.bool false,.sl 1 [] true]] ()=some (.tup [.agg [.bool false,.bool false,.sl 1 [.int .i64 (1)] false],.int .i64 (0)],[],()):=BI (n:=60) C6 (by kernel_rfl)
theorem aW:∃ n,Bc Bb A1 n Unit AD 0 19 [.str [195,151],.agg [.bool true,.bool true,.nilS]] ()=some (.tup [.agg [.bool false,.bool false,.sl 1 [.int .i64 (1)] false],.int .i64 (0)],[],()):=BI (n:=60) C6 (by kernel_rfl)
theorem aV:∃ n,Bc Bb A1 n Unit AD 0 19 [.str [195,151],.agg [.bool true,.bool true,.sl 1 [] false]] ()=some (.tup [.agg [.bool false,.bool false,.sl 1 [.int .i64 (1)] false],.int .i64 (0)],[],()):=BI (n:=60) C6 (by kernel_rfl)
theorem aU:∃ n,Bc Bb A1 n Unit AD 0 19 [.str [195,151],.agg [.bool true,.bool true,.sl 1 [] true]] ()=some (.tup [.agg [.bool false,.bool false,.sl 1 [.int .i64 (1)] false],.int .i64 (0)],[],()):=BI (n:=60) C6 (by kernel_rfl)
end Go.Ab.Derive2

