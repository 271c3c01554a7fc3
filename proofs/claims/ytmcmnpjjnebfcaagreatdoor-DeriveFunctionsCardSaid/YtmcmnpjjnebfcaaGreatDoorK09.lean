/-
  Part 9 of a proof: a machine of our own for the given program, its laws, and what it says of the program. Nothing here is a claim by itself.
-/
import Derived.Test.YtmcmnpjjnebfcaaGreatDoorK08
import Derived.KernelRfl
set_option linter.all false

namespace Go.Ab.Derive2
open Go Go.Ab
theorem ev_shown:∃ n,B1 BY By n Unit AP 0 4 [] ()=some (.bool true,[],()):=De (n:=60) knh_ok (by kernel_rfl)
end Go.Ab.Derive2

