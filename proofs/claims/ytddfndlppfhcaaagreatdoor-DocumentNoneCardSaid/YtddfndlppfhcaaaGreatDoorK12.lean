/-
  Part 12 of a proof: a machine of our own for the given program, its laws, and what it says of the program. Nothing here is a claim by itself.
-/
import Derived.Test.YtddfndlppfhcaaaGreatDoorK09
import Derived.Test.YtddfndlppfhcaaaGreatDoorK10
import Derived.Test.YtddfndlppfhcaaaGreatDoorK11
import Derived.KernelRfl
set_option linter.all false

namespace Go.Ab.DocNone
open Go Go.Ab
def knh:qt9 :=
 Qnp :: Qno :: Qnn :: Qnm :: Qnl :: Qnk :: Qnj :: Qni :: Qnh :: Qng :: Qdi :: Qdh :: Qdg :: Qdf :: Qnf :: Qne :: Qnd :: Qnc :: Qnb :: knf
theorem qjg:ql3 sp0 qcl knh:=qbb e140_0<|qbb e140_1<|qbb e140_2<|qbb e140_3<|qbb e140_4<|qbb e140_5<|qbb e140_6<|qbb e140_7<|qbb e140_8<|qbb e140_9<|qbb e140_10<|qbb e140_11<|qbb e140_12<|qbb e140_13<|qbb e144_0<|qbb e144_1<|qbb e144_2<|qbb e144_3<|qbb e144_4<|qf8
end Go.Ab.DocNone

