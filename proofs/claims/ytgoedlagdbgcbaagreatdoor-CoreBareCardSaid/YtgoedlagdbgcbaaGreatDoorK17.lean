/-
  Part 17 of a proof: a machine of our own for the given program, its laws, and what it says of the program. Nothing here is a claim by itself.
-/
import Derived.Test.YtgoedlagdbgcbaaGreatDoorK16
import Derived.KernelRfl
set_option linter.all false

namespace Go.Ab.Core
open Go Go.Ab
theorem ev_shown:∃ n,qbm sp0 qc7 n Unit qbe 0 8 [] ()=some (.bool true,[],()):=qbh (n:=400) kno_ok (by kernel_rfl)
end Go.Ab.Core

