/-
  Part 7 of a proof: a machine of our own for the given program, its laws, and what it says of the program. Nothing here is a claim by itself.
-/
import Derived.Test.YtbeonejdegijfaaGreatDoorK05
import Derived.Test.YtbeonejdegijfaaGreatDoorK06
import Derived.KernelRfl
set_option linter.all false

namespace Go.Ab.Derive2
open Go Go.Ab
def c75_0:FuncId×List PV×PV:=(75,[],.imap [.str [43],.fn 132 [],.str [45],.fn 102 [],.str [195,151],.fn 133 [],.str [195,183],.fn 106 [],.str [124],.fn 134 [],.str [226,140,136],.fn 135 [],.str [226,140,138],.fn 136 [],.str [61],.fn 137 [.ptr [.str [61]] 0],.str [226,137,160],.fn 137 [.ptr [.str [226,137,160]] 0],.str [60],.fn 137 [.ptr [.str [60]] 0],.str [62],.fn 137 [.ptr [.str [62]] 0],.str [226,137,164],.fn 137 [.ptr [.str [226,137,164]] 0],.str [226,137,165],.fn 137 [.ptr [.str [226,137,165]] 0],.str [226,136,167],.fn 139 [.ptr [.str [226,136,167]] 0],.str [226,136,168],.fn 139 [.ptr [.str [226,136,168]] 0]])
theorem e75_0:∃ n,qcp sp0 qjd n Unit qbc 0 c75_0.1 c75_0.2.1 ()=some (c75_0.2.2,[],()):=qcl (n:=60) qpq (by kernel_rfl)
def c61_0:FuncId×List PV×PV:=(61,[],.imap [.str [43],.fn 100 [],.str [226,140,136],.fn 100 [],.str [226,140,138],.fn 100 [],.str [45],.fn 101 [],.str [195,151],.fn 103 [],.str [195,183],.fn 105 [],.str [126],.fn 107 [],.str [124],.fn 109 [.ptr [.fn 101 []] 0]])
theorem e61_0:∃ n,qcp sp0 qjd n Unit qbc 0 c61_0.1 c61_0.2.1 ()=some (c61_0.2.2,[],()):=qcl (n:=60) qpq (by kernel_rfl)
def c66_0:FuncId×List PV×PV:=(66,[],.imap [.str [226,141,180],.agg [.fn 111 [],.fn 112 []],.str [226,141,179],.agg [.fn 113 [],.fn 114 []],.str [44],.agg [.fn 115 [],.fn 118 []],.str [226,140,189],.agg [.fn 119 [],.fn 120 []],.str [226,134,145],.agg [.fn 121 [],.fn 122 []],.str [226,134,147],.agg [.nilF,.fn 123 []],.str [226,137,162],.agg [.fn 124 [],.fn 126 []]])
theorem e66_0:∃ n,qcp sp0 qjd n Unit qbc 0 c66_0.1 c66_0.2.1 ()=some (c66_0.2.2,[],()):=qcl (n:=60) qpq (by kernel_rfl)
def knf:Qfb :=
 c75_0 :: c61_0 :: c66_0 :: []
theorem qj8:qs1 sp0 qjd knf:=qby e75_0<|qby e61_0<|qby e66_0<|qpq
end Go.Ab.Derive2

