/-
  Part 6 of a proof: a machine of our own for the given program, its laws, and what it says of the program. Nothing here is a claim by itself.
-/
import Derived.Test.YtmcmnpjjnebfcaaGreatDoorK05
import Derived.KernelRfl
set_option linter.all false

namespace Go.Ab.Derive2
open Go Go.Ab
def QI:FuncId×List PV×PV:=(49,[],.imap [.str [43],.fn 107 [],.str [45],.fn 75 [],.str [195,151],.fn 108 [],.str [195,183],.fn 79 [],.str [124],.fn 109 [],.str [226,140,136],.fn 110 [],.str [226,140,138],.fn 111 [],.str [61],.fn 112 [.ptr [.str [61]] 0],.str [226,137,160],.fn 112 [.ptr [.str [226,137,160]] 0],.str [60],.fn 112 [.ptr [.str [60]] 0],.str [62],.fn 112 [.ptr [.str [62]] 0],.str [226,137,164],.fn 112 [.ptr [.str [226,137,164]] 0],.str [226,137,165],.fn 112 [.ptr [.str [226,137,165]] 0],.str [226,136,167],.fn 114 [.ptr [.str [226,136,167]] 0],.str [226,136,168],.fn 114 [.ptr [.str [226,136,168]] 0]])
theorem e75_0:∃ n,B1 BY By n Unit AP 0 QI.1 QI.2.1 ()=some (QI.2.2,[],()):=De (n:=60) OQ (by kernel_rfl)
def QK:FuncId×List PV×PV:=(34,[],.imap [.str [43],.fn 73 [],.str [226,140,136],.fn 73 [],.str [226,140,138],.fn 73 [],.str [45],.fn 74 [],.str [195,151],.fn 76 [],.str [195,183],.fn 78 [],.str [126],.fn 80 [],.str [124],.fn 82 [.ptr [.fn 74 []] 0]])
theorem e61_0:∃ n,B1 BY By n Unit AP 0 QK.1 QK.2.1 ()=some (QK.2.2,[],()):=De (n:=60) OQ (by kernel_rfl)
def QJ:FuncId×List PV×PV:=(39,[],.imap [.str [226,141,180],.agg [.fn 85 [],.fn 86 []],.str [226,141,179],.agg [.fn 87 [],.fn 88 []],.str [44],.agg [.fn 89 [],.fn 92 []],.str [226,140,189],.agg [.fn 93 [],.fn 94 []],.str [226,134,145],.agg [.fn 95 [],.fn 96 []],.str [226,134,147],.agg [.nilF,.fn 97 []],.str [226,137,162],.agg [.fn 98 [],.fn 100 []]])
theorem e66_0:∃ n,B1 BY By n Unit AP 0 QJ.1 QJ.2.1 ()=some (QJ.2.2,[],()):=De (n:=60) OQ (by kernel_rfl)
def knf:Kf :=
 QI :: QK :: QJ :: []
theorem FF:JZ BY By knf:=Dp e75_0<|Dp e61_0<|Dp e66_0<|OQ
end Go.Ab.Derive2

