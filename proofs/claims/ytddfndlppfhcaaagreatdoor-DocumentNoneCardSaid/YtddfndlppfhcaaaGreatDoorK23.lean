/-
  Part 23 of a proof: a machine of our own for the given program, its laws, and what it says of the program. Nothing here is a claim by itself.
-/
import Derived.Test.YtddfndlppfhcaaaGreatDoorK22
import Derived.KernelRfl
set_option linter.all false

namespace Go.Ab.DocNone
open Go Go.Ab
theorem ev_shown:∃ n,qbi sp0 qcl n Unit qba 0 4 [] ()=some (.bool true,[],()):=qbq (n:=400) knm_ok qbm (by kernel_rfl)
end Go.Ab.DocNone

