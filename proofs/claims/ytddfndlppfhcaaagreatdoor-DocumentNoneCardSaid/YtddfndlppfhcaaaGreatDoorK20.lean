/-
  Part 20 of a proof: a machine of our own for the given program, its laws, and what it says of the program. Nothing here is a claim by itself.
-/
import Derived.Test.YtddfndlppfhcaaaGreatDoorK18
import Derived.Test.YtddfndlppfhcaaaGreatDoorK19
import Derived.KernelRfl
set_option linter.all false

namespace Go.Ab.DocNone
open Go Go.Ab
def knk:qt9 :=
 c74_0 :: c74_1 :: c74_2 :: c74_3 :: c74_4 :: c74_5 :: knj
theorem qwt:ql3 sp0 qcl knk:=qbb e74_0<|qbb e74_1<|qbb e74_2<|qbb e74_3<|qbb e74_4<|qbb e74_5<|qwu
end Go.Ab.DocNone

