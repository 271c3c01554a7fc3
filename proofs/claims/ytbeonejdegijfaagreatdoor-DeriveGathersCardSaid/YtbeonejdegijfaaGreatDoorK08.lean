/-
  Part 8 of a proof: a machine of our own for the given program, its laws, and what it says of the program. Nothing here is a claim by itself.
-/
import Derived.Test.YtbeonejdegijfaaGreatDoorK07
import Derived.KernelRfl
set_option linter.all false

namespace Go.Ab.Derive
open Go Go.Ab
theorem ev_red : ∃ n, evalFn sp0 tab0 n Unit noHandler 0 19 [.str [45], .agg [.bool true, .bool false, .sl 1 [.int .i64 (1), .int .i64 (2), .int .i64 (3)] false]] () = some (.tup [.agg [.bool false, .bool false, .sl 1 [.int .i64 (2)] false], .int .i64 0], [], ()) := ev_known (n := 60) kn2_ok (by kernel_rfl)
theorem ev_scan : ∃ n, evalFn sp0 tab0 n Unit noHandler 0 21 [.str [43], .agg [.bool true, .bool false, .sl 1 [.int .i64 (1), .int .i64 (2), .int .i64 (3)] false]] () = some (.tup [.agg [.bool true, .bool false, .sl 1 [.int .i64 (1), .int .i64 (3), .int .i64 (6)] false], .int .i64 0], [], ()) := ev_known (n := 60) kn2_ok (by kernel_rfl)
theorem ev_each : ∃ n, evalFn sp0 tab0 n Unit noHandler 0 23 [.str [45], .agg [.bool true, .bool false, .sl 1 [.int .i64 (1), .int .i64 (2)] false]] () = some (.tup [.agg [.bool true, .bool false, .sl 1 [.int .i64 (-1), .int .i64 (-2)] false], .int .i64 0], [], ()) := ev_known (n := 60) kn2_ok (by kernel_rfl)
theorem ev_iota : ∃ n, evalFn sp0 tab0 n Unit noHandler 0 23 [.str [226, 141, 179], .agg [.bool true, .bool false, .sl 1 [.int .i64 (1), .int .i64 (2)] false]] () = some (.tup [.agg [.bool false, .bool false, .nilS], .int .i64 111], [], ()) := ev_known (n := 60) kn2_ok (by kernel_rfl)
theorem ev_pr1 : ∃ n, evalFn sp0 tab0 n Unit noHandler 0 34 [.agg [.bool false, .bool false, .sl 1 [.int .i64 (2)] false]] () = some (.str [50], [], ()) := ev_known (n := 60) kn2_ok (by kernel_rfl)
theorem ev_pr2 : ∃ n, evalFn sp0 tab0 n Unit noHandler 0 34 [.agg [.bool true, .bool false, .sl 1 [.int .i64 (1), .int .i64 (3), .int .i64 (6)] false]] () = some (.str [49, 32, 51, 32, 54], [], ()) := ev_known (n := 60) kn2_ok (by kernel_rfl)
theorem ev_pr3 : ∃ n, evalFn sp0 tab0 n Unit noHandler 0 34 [.agg [.bool true, .bool false, .sl 1 [.int .i64 (-1), .int .i64 (-2)] false]] () = some (.str [194, 175, 49, 32, 194, 175, 50], [], ()) := ev_known (n := 60) kn2_ok (by kernel_rfl)
end Go.Ab.Derive

