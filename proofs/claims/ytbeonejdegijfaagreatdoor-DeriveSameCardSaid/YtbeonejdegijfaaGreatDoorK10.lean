/-
  Part 10 of a proof: a machine of our own for the given program, its laws, and what it says of the program. Nothing here is a claim by itself.
-/
import Derived.Test.YtbeonejdegijfaaGreatDoorK09
import Derived.KernelRfl
set_option linter.all false

namespace Go.Ab.Derive2
open Go Go.Ab
theorem ev_shown:∃ n,qcw sp0 qkj n Unit qbc 0 11 [] ()=some (.bool true,[],()):=qct (n:=60) knh_ok (by kernel_rfl)
end Go.Ab.Derive2

