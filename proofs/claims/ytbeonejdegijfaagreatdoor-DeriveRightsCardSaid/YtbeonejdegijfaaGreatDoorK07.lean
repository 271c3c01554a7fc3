/-
  Part 7 of a proof: a machine of our own for the given program, its laws, and what it says of the program. Nothing here is a claim by itself.
-/
import Derived.Test.YtbeonejdegijfaaGreatDoorK05
import Derived.Test.YtbeonejdegijfaaGreatDoorK06
import Derived.KernelRfl
set_option linter.all false

namespace Go.Ab.Derive2
open Go Go.Ab
def Q9:FuncId×List PV×PV:=(75,[],.imap [.str [43],.fn 132 [],.str [45],.fn 102 [],.str [195,151],.fn 133 [],.str [195,183],.fn 106 [],.str [124],.fn 134 [],.str [226,140,136],.fn 135 [],.str [226,140,138],.fn 136 [],.str [61],.fn 137 [.ptr [.str [61]] 0],.str [226,137,160],.fn 137 [.ptr [.str [226,137,160]] 0],.str [60],.fn 137 [.ptr [.str [60]] 0],.str [62],.fn 137 [.ptr [.str [62]] 0],.str [226,137,164],.fn 137 [.ptr [.str [226,137,164]] 0],.str [226,137,165],.fn 137 [.ptr [.str [226,137,165]] 0],.str [226,136,167],.fn 139 [.ptr [.str [226,136,167]] 0],.str [226,136,168],.fn 139 [.ptr [.str [226,136,168]] 0]])
theorem e75_0:∃ n,Bc Bb A1 n Unit AD 0 Q9.1 Q9.2.1 ()=some (Q9.2.2,[],()):=BI (n:=60) O6 (by kernel_rfl)
def Rb:FuncId×List PV×PV:=(61,[],.imap [.str [43],.fn 100 [],.str [226,140,136],.fn 100 [],.str [226,140,138],.fn 100 [],.str [45],.fn 101 [],.str [195,151],.fn 103 [],.str [195,183],.fn 105 [],.str [126],.fn 107 [],.str [124],.fn 109 [.ptr [.fn 101 []] 0]])
theorem e61_0:∃ n,Bc Bb A1 n Unit AD 0 Rb.1 Rb.2.1 ()=some (Rb.2.2,[],()):=BI (n:=60) O6 (by kernel_rfl)
def Ra:FuncId×List PV×PV:=(66,[],.imap [.str [226,141,180],.agg [.fn 111 [],.fn 112 []],.str [226,141,179],.agg [.fn 113 [],.fn 114 []],.str [44],.agg [.fn 115 [],.fn 118 []],.str [226,140,189],.agg [.fn 119 [],.fn 120 []],.str [226,134,145],.agg [.fn 121 [],.fn 122 []],.str [226,134,147],.agg [.nilF,.fn 123 []],.str [226,137,162],.agg [.fn 124 [],.fn 126 []]])
theorem e66_0:∃ n,Bc Bb A1 n Unit AD 0 Ra.1 Ra.2.1 ()=some (Ra.2.2,[],()):=BI (n:=60) O6 (by kernel_rfl)
def knf:J1 :=
 Q9 :: Rb :: Ra :: []
theorem Fk:JK Bb A1 knf:=CZ e75_0<|CZ e61_0<|CZ e66_0<|O6
end Go.Ab.Derive2

