/-
  Part 7 of a proof: a machine of our own for the given program, its laws, and what it says of the program. Nothing here is a claim by itself.
-/
import Derived.Test.YtddfndlppfhcaaaGreatDoorK05
import Derived.Test.YtddfndlppfhcaaaGreatDoorK06
import Derived.KernelRfl
set_option linter.all false

namespace Go.Ab.DocNone
open Go Go.Ab
def Qna:FuncId×List PV×PV:=(192,[.int .i64 (1),.sl 1 [.str [195,151],.str [120],.str [195,183],.str [100],.str [226,140,136],.str [117],.str [226,140,138],.str [110]] false],.sl 3 [.agg [.str [195,151],.str [120],.int .i64 (1)],.agg [.str [195,183],.str [100],.int .i64 (1)],.agg [.str [226,140,136],.str [117],.int .i64 (1)],.agg [.str [226,140,138],.str [110],.int .i64 (1)]] false)
theorem e192_0:∃ n,qbi sp0 qcl n Unit qba 0 Qna.1 Qna.2.1 ()=some (Qna.2.2,[],()):=qbq (n:=400) qd6 qcv (by kernel_rfl)
def Qm9:FuncId×List PV×PV:=(192,[.int .i64 (1),.sl 1 [.str [226,137,160],.str [113]] false],.sl 3 [.agg [.str [226,137,160],.str [113],.int .i64 (1)]] false)
theorem e192_1:∃ n,qbi sp0 qcl n Unit qba 0 Qm9.1 Qm9.2.1 ()=some (Qm9.2.2,[],()):=qbq (n:=400) qd6 qcv (by kernel_rfl)
def Qm8:FuncId×List PV×PV:=(192,[.int .i64 (1),.sl 1 [.str [226,137,164],.str [108],.str [226,137,165],.str [103],.str [226,136,167],.str [97],.str [226,136,168],.str [111]] false],.sl 3 [.agg [.str [226,137,164],.str [108],.int .i64 (1)],.agg [.str [226,137,165],.str [103],.int .i64 (1)],.agg [.str [226,136,167],.str [97],.int .i64 (1)],.agg [.str [226,136,168],.str [111],.int .i64 (1)]] false)
theorem e192_2:∃ n,qbi sp0 qcl n Unit qba 0 Qm8.1 Qm8.2.1 ()=some (Qm8.2.2,[],()):=qbq (n:=400) qd6 qcv (by kernel_rfl)
def Qm7:FuncId×List PV×PV:=(192,[.int .i64 (1),.sl 1 [.str [226,141,180],.str [114],.str [226,141,179],.str [105]] false],.sl 3 [.agg [.str [226,141,180],.str [114],.int .i64 (1)],.agg [.str [226,141,179],.str [105],.int .i64 (1)]] false)
theorem e192_3:∃ n,qbi sp0 qcl n Unit qba 0 Qm7.1 Qm7.2.1 ()=some (Qm7.2.2,[],()):=qbq (n:=400) qd6 qcv (by kernel_rfl)
def Qm6:FuncId×List PV×PV:=(192,[.int .i64 (1),.sl 1 [.str [226,140,189],.str [116],.str [226,134,145],.str [107],.str [226,134,147],.str [106],.str [226,137,162],.str [109]] false],.sl 3 [.agg [.str [226,140,189],.str [116],.int .i64 (1)],.agg [.str [226,134,145],.str [107],.int .i64 (1)],.agg [.str [226,134,147],.str [106],.int .i64 (1)],.agg [.str [226,137,162],.str [109],.int .i64 (1)]] false)
theorem e192_4:∃ n,qbi sp0 qcl n Unit qba 0 Qm6.1 Qm6.2.1 ()=some (Qm6.2.2,[],()):=qbq (n:=400) qd6 qcv (by kernel_rfl)
def Qm5:FuncId×List PV×PV:=(192,[.int .i64 (2),.sl 1 [.str [194,168],.str [101],.str [226,141,168],.str [99]] false],.sl 3 [.agg [.str [194,168],.str [101],.int .i64 (2)],.agg [.str [226,141,168],.str [99],.int .i64 (2)]] false)
theorem e192_5:∃ n,qbi sp0 qcl n Unit qba 0 Qm5.1 Qm5.2.1 ()=some (Qm5.2.2,[],()):=qbq (n:=400) qd6 qcv (by kernel_rfl)
def Qm4:FuncId×List PV×PV:=(192,[.int .i64 (3),.sl 1 [.str [226,134,144],.str [115],.str [226,139,132],.str [122]] false],.sl 3 [.agg [.str [226,134,144],.str [115],.int .i64 (3)],.agg [.str [226,139,132],.str [122],.int .i64 (3)]] false)
theorem e192_6:∃ n,qbi sp0 qcl n Unit qba 0 Qm4.1 Qm4.2.1 ()=some (Qm4.2.2,[],()):=qbq (n:=400) qd6 qcv (by kernel_rfl)
def Qm3:FuncId×List PV×PV:=(192,[.int .i64 (4),.sl 1 [.str [226,141,186],.str [112],.str [226,141,181],.str [119]] false],.sl 3 [.agg [.str [226,141,186],.str [112],.int .i64 (4)],.agg [.str [226,141,181],.str [119],.int .i64 (4)]] false)
theorem e192_7:∃ n,qbi sp0 qcl n Unit qba 0 Qm3.1 Qm3.2.1 ()=some (Qm3.2.2,[],()):=qbq (n:=400) qd6 qcv (by kernel_rfl)
def Qm2:FuncId×List PV×PV:=(192,[.int .i64 (5),.sl 1 [.str [194,175],.str [104]] false],.sl 3 [.agg [.str [194,175],.str [104],.int .i64 (5)]] false)
theorem e192_8:∃ n,qbi sp0 qcl n Unit qba 0 Qm2.1 Qm2.2.1 ()=some (Qm2.2.2,[],()):=qbq (n:=400) qd6 qcv (by kernel_rfl)
def Qm1:FuncId×List PV×PV:=(192,[.int .i64 (6),.sl 1 [.str [226,141,157],.str [98]] false],.sl 3 [.agg [.str [226,141,157],.str [98],.int .i64 (6)]] false)
theorem e192_9:∃ n,qbi sp0 qcl n Unit qba 0 Qm1.1 Qm1.2.1 ()=some (Qm1.2.2,[],()):=qbq (n:=400) qd6 qcv (by kernel_rfl)
def knf:qt9 :=
 Qna :: Qm9 :: Qm8 :: Qm7 :: Qm6 :: Qm5 :: Qm4 :: Qm3 :: Qm2 :: Qm1 :: []
theorem qf8:ql3 sp0 qcl knf:=qbb e192_0<|qbb e192_1<|qbb e192_2<|qbb e192_3<|qbb e192_4<|qbb e192_5<|qbb e192_6<|qbb e192_7<|qbb e192_8<|qbb e192_9<|qd6
end Go.Ab.DocNone

