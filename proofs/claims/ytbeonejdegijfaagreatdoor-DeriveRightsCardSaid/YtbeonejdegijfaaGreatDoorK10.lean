/-
  Part 10 of a proof: a machine of our own for the given program, its laws, and what it says of the program. Nothing here is a claim by itself.
-/
import Derived.Test.YtbeonejdegijfaaGreatDoorK09
import Derived.KernelRfl
set_option linter.all false

namespace Go.Ab.Derive2
open Go Go.Ab
theorem ev_shown:∃ n,Bc Bb A1 n Unit AD 0 11 [] ()=some (.bool true,[],()):=BI (n:=60) C6 (by kernel_rfl)
end Go.Ab.Derive2

