/-
  Part 7 of a proof: a machine of our own for the given program, its laws, and what it says of the program. Nothing here is a claim by itself.
-/
import Derived.Test.YtbeonejdegijfaaGreatDoorK06
import Derived.KernelRfl
set_option linter.all false

namespace Go.Ab.Derive
open Go Go.Ab
theorem ev_m0 : ∃ n, evalFn sp0 tab0 n Unit noHandler 0 13 [.str [45], .agg [.bool false, .bool false, .sl 1 [.int .i64 (1)] false]] () = some (.tup [.agg [.bool false, .bool false, .sl 1 [.int .i64 (-1)] false], .int .i64 0], [], ()) := ev_known (n := 60) kn1_ok (by kernel_rfl)
theorem ev_m1 : ∃ n, evalFn sp0 tab0 n Unit noHandler 0 13 [.str [45], .agg [.bool false, .bool false, .sl 1 [.int .i64 (2)] false]] () = some (.tup [.agg [.bool false, .bool false, .sl 1 [.int .i64 (-2)] false], .int .i64 0], [], ()) := ev_known (n := 60) kn1_ok (by kernel_rfl)
theorem ev_i0 : ∃ n, evalFn sp0 tab0 n Unit noHandler 0 13 [.str [226, 141, 179], .agg [.bool false, .bool false, .sl 1 [.int .i64 (1)] false]] () = some (.tup [.agg [.bool true, .bool false, .sl 1 [.int .i64 (1)] false], .int .i64 0], [], ()) := ev_known (n := 60) kn1_ok (by kernel_rfl)
theorem ev_i1 : ∃ n, evalFn sp0 tab0 n Unit noHandler 0 13 [.str [226, 141, 179], .agg [.bool false, .bool false, .sl 1 [.int .i64 (2)] false]] () = some (.tup [.agg [.bool true, .bool false, .sl 1 [.int .i64 (1), .int .i64 (2)] false], .int .i64 0], [], ()) := ev_known (n := 60) kn1_ok (by kernel_rfl)
theorem ev_d0 : ∃ n, evalFn sp0 tab0 n Unit noHandler 0 16 [.str [45], .agg [.bool false, .bool false, .sl 1 [.int .i64 (2)] false], .agg [.bool false, .bool false, .sl 1 [.int .i64 (3)] false]] () = some (.tup [.agg [.bool false, .bool false, .sl 1 [.int .i64 (-1)] false], .int .i64 0], [], ()) := ev_known (n := 60) kn1_ok (by kernel_rfl)
theorem ev_d1 : ∃ n, evalFn sp0 tab0 n Unit noHandler 0 16 [.str [45], .agg [.bool false, .bool false, .sl 1 [.int .i64 (1)] false], .agg [.bool false, .bool false, .sl 1 [.int .i64 (-1)] false]] () = some (.tup [.agg [.bool false, .bool false, .sl 1 [.int .i64 (2)] false], .int .i64 0], [], ()) := ev_known (n := 60) kn1_ok (by kernel_rfl)
theorem ev_d2 : ∃ n, evalFn sp0 tab0 n Unit noHandler 0 16 [.str [43], .agg [.bool false, .bool false, .sl 1 [.int .i64 (1)] false], .agg [.bool false, .bool false, .sl 1 [.int .i64 (2)] false]] () = some (.tup [.agg [.bool false, .bool false, .sl 1 [.int .i64 (3)] false], .int .i64 0], [], ()) := ev_known (n := 60) kn1_ok (by kernel_rfl)
theorem ev_d3 : ∃ n, evalFn sp0 tab0 n Unit noHandler 0 16 [.str [43], .agg [.bool false, .bool false, .sl 1 [.int .i64 (2)] false], .agg [.bool false, .bool false, .sl 1 [.int .i64 (3)] false]] () = some (.tup [.agg [.bool false, .bool false, .sl 1 [.int .i64 (5)] false], .int .i64 0], [], ()) := ev_known (n := 60) kn1_ok (by kernel_rfl)
theorem ev_d4 : ∃ n, evalFn sp0 tab0 n Unit noHandler 0 16 [.str [43], .agg [.bool false, .bool false, .sl 1 [.int .i64 (1)] false], .agg [.bool false, .bool false, .sl 1 [.int .i64 (5)] false]] () = some (.tup [.agg [.bool false, .bool false, .sl 1 [.int .i64 (6)] false], .int .i64 0], [], ()) := ev_known (n := 60) kn1_ok (by kernel_rfl)
theorem ev_p0 : ∃ n, evalFn sp0 tab0 n Unit noHandler 0 98 [.int .i64 (2)] () = some (.str [50], [], ()) := ev_known (n := 60) kn1_ok (by kernel_rfl)
theorem ev_p1 : ∃ n, evalFn sp0 tab0 n Unit noHandler 0 98 [.int .i64 (1)] () = some (.str [49], [], ()) := ev_known (n := 60) kn1_ok (by kernel_rfl)
theorem ev_p2 : ∃ n, evalFn sp0 tab0 n Unit noHandler 0 98 [.int .i64 (3)] () = some (.str [51], [], ()) := ev_known (n := 60) kn1_ok (by kernel_rfl)
theorem ev_p3 : ∃ n, evalFn sp0 tab0 n Unit noHandler 0 98 [.int .i64 (6)] () = some (.str [54], [], ()) := ev_known (n := 60) kn1_ok (by kernel_rfl)
theorem ev_p4 : ∃ n, evalFn sp0 tab0 n Unit noHandler 0 98 [.int .i64 (-1)] () = some (.str [194, 175, 49], [], ()) := ev_known (n := 60) kn1_ok (by kernel_rfl)
theorem ev_p5 : ∃ n, evalFn sp0 tab0 n Unit noHandler 0 98 [.int .i64 (-2)] () = some (.str [194, 175, 50], [], ()) := ev_known (n := 60) kn1_ok (by kernel_rfl)
def kn2 : Known :=
  (13, [.str [45], .agg [.bool false, .bool false, .sl 1 [.int .i64 (1)] false]], .tup [.agg [.bool false, .bool false, .sl 1 [.int .i64 (-1)] false], .int .i64 0]) ::
  (13, [.str [45], .agg [.bool false, .bool false, .sl 1 [.int .i64 (2)] false]], .tup [.agg [.bool false, .bool false, .sl 1 [.int .i64 (-2)] false], .int .i64 0]) ::
  (13, [.str [226, 141, 179], .agg [.bool false, .bool false, .sl 1 [.int .i64 (1)] false]], .tup [.agg [.bool true, .bool false, .sl 1 [.int .i64 (1)] false], .int .i64 0]) ::
  (13, [.str [226, 141, 179], .agg [.bool false, .bool false, .sl 1 [.int .i64 (2)] false]], .tup [.agg [.bool true, .bool false, .sl 1 [.int .i64 (1), .int .i64 (2)] false], .int .i64 0]) ::
  (16, [.str [45], .agg [.bool false, .bool false, .sl 1 [.int .i64 (2)] false], .agg [.bool false, .bool false, .sl 1 [.int .i64 (3)] false]], .tup [.agg [.bool false, .bool false, .sl 1 [.int .i64 (-1)] false], .int .i64 0]) ::
  (16, [.str [45], .agg [.bool false, .bool false, .sl 1 [.int .i64 (1)] false], .agg [.bool false, .bool false, .sl 1 [.int .i64 (-1)] false]], .tup [.agg [.bool false, .bool false, .sl 1 [.int .i64 (2)] false], .int .i64 0]) ::
  (16, [.str [43], .agg [.bool false, .bool false, .sl 1 [.int .i64 (1)] false], .agg [.bool false, .bool false, .sl 1 [.int .i64 (2)] false]], .tup [.agg [.bool false, .bool false, .sl 1 [.int .i64 (3)] false], .int .i64 0]) ::
  (16, [.str [43], .agg [.bool false, .bool false, .sl 1 [.int .i64 (2)] false], .agg [.bool false, .bool false, .sl 1 [.int .i64 (3)] false]], .tup [.agg [.bool false, .bool false, .sl 1 [.int .i64 (5)] false], .int .i64 0]) ::
  (16, [.str [43], .agg [.bool false, .bool false, .sl 1 [.int .i64 (1)] false], .agg [.bool false, .bool false, .sl 1 [.int .i64 (5)] false]], .tup [.agg [.bool false, .bool false, .sl 1 [.int .i64 (6)] false], .int .i64 0]) ::
  (98, [.int .i64 (2)], .str [50]) ::
  (98, [.int .i64 (1)], .str [49]) ::
  (98, [.int .i64 (3)], .str [51]) ::
  (98, [.int .i64 (6)], .str [54]) ::
  (98, [.int .i64 (-1)], .str [194, 175, 49]) ::
  (98, [.int .i64 (-2)], .str [194, 175, 50]) ::
  kn1
theorem kn2_ok : Rights sp0 tab0 kn2 := rights_cons ev_m0 <| rights_cons ev_m1 <| rights_cons ev_i0 <| rights_cons ev_i1 <| rights_cons ev_d0 <| rights_cons ev_d1 <| rights_cons ev_d2 <| rights_cons ev_d3 <| rights_cons ev_d4 <| rights_cons ev_p0 <| rights_cons ev_p1 <| rights_cons ev_p2 <| rights_cons ev_p3 <| rights_cons ev_p4 <| rights_cons ev_p5 <| kn1_ok
end Go.Ab.Derive

