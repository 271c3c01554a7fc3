/-
  Part 8 of a proof: a machine of our own for the given program, its laws, and what it says of the program. Nothing here is a claim by itself.
-/
import Derived.Test.YtfeimbgcjimjdaaGreatDoorK07
import Derived.KernelRfl
set_option linter.all false

namespace Go.Ab.Arrays
open Go Go.Ab
theorem ev_pr1 : ∃ n, evalFn sp0 tab0 n Unit noHandler 0 20 [.agg [.bool true, .bool false, .sl 1 [.int .i64 (11), .int .i64 (12), .int .i64 (13)] false]] () = some (.str [49, 49, 32, 49, 50, 32, 49, 51], [], ()) := ⟨60, by kernel_rfl⟩
theorem ev_pr2 : ∃ n, evalFn sp0 tab0 n Unit noHandler 0 20 [.agg [.bool true, .bool true, .sl 1 [.int .i64 (97), .int .i64 (39)] true]] () = some (.str [39, 97, 39, 39, 39], [], ()) := ⟨60, by kernel_rfl⟩
theorem ev_right : ∃ n, evalFn sp0 tab0 n Unit noHandler 0 12 [.agg [.bool true, .bool true, .sl 1 [.int .i64 (97), .int .i64 (39)] true]] () = some (.bool true, [], ()) := ⟨60, by kernel_rfl⟩
theorem ev_pr3 : ∃ n, evalFn sp0 tab0 n Unit noHandler 0 20 [.agg [.bool false, .bool false, .sl 1 [.int .i64 (-5)] false]] () = some (.str [194, 175, 53], [], ()) := ⟨60, by kernel_rfl⟩
def kn2 : Known :=
  (27, [.str [43], .int .i64 (1), .int .i64 (10)], .tup [.int .i64 (11), .int .i64 (0)]) ::
  (27, [.str [43], .int .i64 (2), .int .i64 (10)], .tup [.int .i64 (12), .int .i64 (0)]) ::
  (27, [.str [43], .int .i64 (3), .int .i64 (10)], .tup [.int .i64 (13), .int .i64 (0)]) ::
  (19, [.int .i64 (1), .str [49, 32, 50, 32, 51]], .tup [.agg [.bool true, .bool false, .sl 1 [.int .i64 (1), .int .i64 (2), .int .i64 (3)] false], .int .i64 (0)]) ::
  (19, [.int .i64 (2), .str [39, 97, 39, 39, 39]], .tup [.agg [.bool true, .bool true, .sl 1 [.int .i64 (97), .int .i64 (39)] false], .int .i64 (0)]) ::
  (20, [.agg [.bool true, .bool false, .sl 1 [.int .i64 (11), .int .i64 (12), .int .i64 (13)] false]], .str [49, 49, 32, 49, 50, 32, 49, 51]) ::
  (20, [.agg [.bool true, .bool true, .sl 1 [.int .i64 (97), .int .i64 (39)] true]], .str [39, 97, 39, 39, 39]) ::
  (12, [.agg [.bool true, .bool true, .sl 1 [.int .i64 (97), .int .i64 (39)] true]], .bool true) ::
  (20, [.agg [.bool false, .bool false, .sl 1 [.int .i64 (-5)] false]], .str [194, 175, 53]) ::
  kn1
theorem kn2_ok : Rights sp0 tab0 kn2 := rights_cons ev_n1 <| rights_cons ev_n2 <| rights_cons ev_n3 <| rights_cons ev_lit1 <| rights_cons ev_lit2 <| rights_cons ev_pr1 <| rights_cons ev_pr2 <| rights_cons ev_right <| rights_cons ev_pr3 <| kn1_ok
end Go.Ab.Arrays

