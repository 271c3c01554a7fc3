/-
  Part 7 of a proof: a machine of our own for the given program, its laws, and what it says of the program. Nothing here is a claim by itself.
-/
import Derived.Test.YtfeimbgcjimjdaaGreatDoorK05
import Derived.Test.YtfeimbgcjimjdaaGreatDoorK06
import Derived.KernelRfl
set_option linter.all false

namespace Go.Ab.Arrays
open Go Go.Ab
theorem ev_t44 : ∃ n, evalFn sp0 tab0 n Unit noHandler 0 44 [] () = some (.imap [.str [43], .fn 70 [], .str [45], .fn 71 [], .str [195, 151], .fn 72 [], .str [195, 183], .fn 73 [], .str [124], .fn 74 [], .str [226, 140, 136], .fn 75 [], .str [226, 140, 138], .fn 76 [], .str [61], .fn 77 [.ptr [.str [61]] 0], .str [226, 137, 160], .fn 77 [.ptr [.str [226, 137, 160]] 0], .str [60], .fn 77 [.ptr [.str [60]] 0], .str [62], .fn 77 [.ptr [.str [62]] 0], .str [226, 137, 164], .fn 77 [.ptr [.str [226, 137, 164]] 0], .str [226, 137, 165], .fn 77 [.ptr [.str [226, 137, 165]] 0], .str [226, 136, 167], .fn 79 [.ptr [.str [226, 136, 167]] 0], .str [226, 136, 168], .fn 79 [.ptr [.str [226, 136, 168]] 0]], [], ()) := ⟨60, by kernel_rfl⟩
def kn1 : Known :=
  (44, [], .imap [.str [43], .fn 70 [], .str [45], .fn 71 [], .str [195, 151], .fn 72 [], .str [195, 183], .fn 73 [], .str [124], .fn 74 [], .str [226, 140, 136], .fn 75 [], .str [226, 140, 138], .fn 76 [], .str [61], .fn 77 [.ptr [.str [61]] 0], .str [226, 137, 160], .fn 77 [.ptr [.str [226, 137, 160]] 0], .str [60], .fn 77 [.ptr [.str [60]] 0], .str [62], .fn 77 [.ptr [.str [62]] 0], .str [226, 137, 164], .fn 77 [.ptr [.str [226, 137, 164]] 0], .str [226, 137, 165], .fn 77 [.ptr [.str [226, 137, 165]] 0], .str [226, 136, 167], .fn 79 [.ptr [.str [226, 136, 167]] 0], .str [226, 136, 168], .fn 79 [.ptr [.str [226, 136, 168]] 0]]) ::
  []
theorem kn1_ok : Rights sp0 tab0 kn1 := rights_cons ev_t44 <| rights_nil
theorem ev_n1 : ∃ n, evalFn sp0 tab0 n Unit noHandler 0 27 [.str [43], .int .i64 (1), .int .i64 (10)] () = some (.tup [.int .i64 (11), .int .i64 (0)], [], ()) := ev_known (n := 60) kn1_ok (by kernel_rfl)
theorem ev_n2 : ∃ n, evalFn sp0 tab0 n Unit noHandler 0 27 [.str [43], .int .i64 (2), .int .i64 (10)] () = some (.tup [.int .i64 (12), .int .i64 (0)], [], ()) := ev_known (n := 60) kn1_ok (by kernel_rfl)
theorem ev_n3 : ∃ n, evalFn sp0 tab0 n Unit noHandler 0 27 [.str [43], .int .i64 (3), .int .i64 (10)] () = some (.tup [.int .i64 (13), .int .i64 (0)], [], ()) := ev_known (n := 60) kn1_ok (by kernel_rfl)
theorem ev_lit1 : ∃ n, evalFn sp0 tab0 n Unit noHandler 0 19 [.int .i64 (1), .str [49, 32, 50, 32, 51]] () = some (.tup [.agg [.bool true, .bool false, .sl 1 [.int .i64 (1), .int .i64 (2), .int .i64 (3)] false], .int .i64 (0)], [], ()) := ev_known (n := 60) kn1_ok (by kernel_rfl)
theorem ev_lit2 : ∃ n, evalFn sp0 tab0 n Unit noHandler 0 19 [.int .i64 (2), .str [39, 97, 39, 39, 39]] () = some (.tup [.agg [.bool true, .bool true, .sl 1 [.int .i64 (97), .int .i64 (39)] false], .int .i64 (0)], [], ()) := ev_known (n := 60) kn1_ok (by kernel_rfl)
end Go.Ab.Arrays

