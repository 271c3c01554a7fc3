/-
  Part 17 of a proof: a machine of our own for the given program, its laws, and what it says of the program. Nothing here is a claim by itself.
-/
import Derived.Test.YtddfndlppfhcaaaGreatDoorK14
import Derived.Test.YtddfndlppfhcaaaGreatDoorK15
import Derived.Test.YtddfndlppfhcaaaGreatDoorK16
import Derived.KernelRfl
set_option linter.all false

namespace Go.Ab.DocNone
open Go Go.Ab
def knj:qt9 :=
 c45_0 :: c45_1 :: c45_2 :: c45_3 :: c27_0 :: c27_1 :: c73_0 :: c73_1 :: c73_2 :: c73_3 :: c22_0 :: c22_1 :: c22_2 :: c22_3 :: c22_4 :: c22_5 :: c22_6 :: c22_7 :: c22_8 :: c22_9 :: Qm0 :: Qnx :: Qnw :: Qnv :: Qnu :: Qnt :: Qns :: Qnr :: Qnq :: Qn3 :: Qn2 :: Qn1 :: Qn0 :: Qnz :: Qny :: kni
theorem qwu:ql3 sp0 qcl knj:=qbb e45_0<|qbb e45_1<|qbb e45_2<|qbb e45_3<|qbb e27_0<|qbb e27_1<|qbb e73_0<|qbb e73_1<|qbb e73_2<|qbb e73_3<|qbb e22_0<|qbb e22_1<|qbb e22_2<|qbb e22_3<|qbb e22_4<|qbb e22_5<|qbb e22_6<|qbb e22_7<|qbb e22_8<|qbb e22_9<|qbb e22_10<|qbb e133_0<|qbb e133_1<|qbb e133_2<|qbb e133_3<|qbb e133_4<|qbb e133_5<|qbb e133_6<|qbb e133_7<|qbb e124_0<|qbb e124_1<|qbb e124_2<|qbb e124_3<|qbb e124_4<|qbb e124_5<|qc1
end Go.Ab.DocNone

