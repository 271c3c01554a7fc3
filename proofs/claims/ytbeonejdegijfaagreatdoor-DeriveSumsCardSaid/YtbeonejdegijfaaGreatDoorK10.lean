/-
  Part 10 of a proof: a machine of our own for the given program, its laws, and what it says of the program. Nothing here is a claim by itself.
-/
import Derived.Test.YtbeonejdegijfaaGreatDoorK09
import Derived.KernelRfl
set_option linter.all false

namespace Go.Ab.Derive2
open Go Go.Ab
theorem ev_shown:∃ n,qcp sp0 qjd n Unit qbc 0 11 [] ()=some (.bool true,[],()):=qcl (n:=60) Qne (by kernel_rfl)
theorem ev_sum0:∃ n,qcp sp0 qjd n Unit qbc 0 19 [.str [43],.agg [.bool true,.bool false,.nilS]] ()=some (.tup [.agg [.bool false,.bool false,.sl 1 [.int .i64 (0)] false],.int .i64 (0)],[],()):=qcl (n:=60) Qne (by kernel_rfl)
theorem ev_sum1:∃ n,qcp sp0 qjd n Unit qbc 0 19 [.str [43],.agg [.bool true,.bool false,.sl 1 [] false]] ()=some (.tup [.agg [.bool false,.bool false,.sl 1 [.int .i64 (0)] false],.int .i64 (0)],[],()):=qcl (n:=60) Qne (by kernel_rfl)
theorem ev_sum2:∃ n,qcp sp0 qjd n Unit qbc 0 19 [.str [43],.agg [.bool true,.bool false,.sl 1 [] true]] ()=some (.tup [.agg [.bool false,.bool false,.sl 1 [.int .i64 (0)] false],.int .i64 (0)],[],()):=qcl (n:=60) Qne (by kernel_rfl)
end Go.Ab.Derive2

