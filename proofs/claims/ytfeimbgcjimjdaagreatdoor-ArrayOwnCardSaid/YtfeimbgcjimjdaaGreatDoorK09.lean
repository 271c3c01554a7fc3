/-
  Part 9 of a proof: a machine of our own for the given program, its laws, and what it says of the program. Nothing here is a claim by itself.
-/
import Derived.Test.YtfeimbgcjimjdaaGreatDoorK08
import Derived.KernelRfl
set_option linter.all false

namespace Go.Ab.Arrays
open Go Go.Ab
theorem ev_shown : ∃ n, evalFn sp0 tab0 n Unit noHandler 0 8 [] () = some (.bool true, [], ()) := ev_known (n := 60) kn2_ok (by kernel_rfl)
theorem shown_run : callO B0 .cl (.fn 8 []) [] = some (.bool true) := by
  obtain ⟨_, h⟩ := ev_shown
  exact call_eval (by decide) h rfl rfl
end Go.Ab.Arrays

