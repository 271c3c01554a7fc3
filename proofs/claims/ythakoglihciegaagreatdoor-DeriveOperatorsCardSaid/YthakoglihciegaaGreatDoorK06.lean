/- Part 6 of a proof: laws of a machine. -/
import Derived.Test.YthakoglihciegaaGreatDoorK05
import Derived.KernelRfl
set_option linter.all false

namespace Go.Ab.jF
open Go Go.Ab
def R7:ja×jh×W:=(108,[],.ki [.str [43],.fn 138 [],.str [45],.fn 139 [],.str [195,151],.fn 140 [],.str [195,183],.fn 141 [],.str [124],.fn 142 [],.str [226,140,136],.fn 143 [],.str [226,140,138],.fn 144 [],.str [61],.fn 145 [.ptr [.str [61]] 0],.str [226,137,160],.fn 145 [.ptr [.str [226,137,160]] 0],.str [60],.fn 145 [.ptr [.str [60]] 0],.str [62],.fn 145 [.ptr [.str [62]] 0],.str [226,137,164],.fn 145 [.ptr [.str [226,137,164]] 0],.str [226,137,165],.fn 145 [.ptr [.str [226,137,165]] 0],.str [226,136,167],.fn 147 [.ptr [.str [226,136,167]] 0],.str [226,136,168],.fn 147 [.ptr [.str [226,136,168]] 0]])
theorem e75_0:∃ n,Br Bq A9 n Unit AI 0 R7.1 R7.2.1 ()=some (R7.2.2,[],()):=BW (n:=60) P3 (by kernel_rfl)
def R9:ja×jh×W:=(118,[],.ki [.str [43],.fn 170 [],.str [226,140,136],.fn 170 [],.str [226,140,138],.fn 170 [],.str [45],.fn 171 [],.str [195,151],.fn 172 [],.str [195,183],.fn 174 [],.str [126],.fn 175 [],.str [124],.fn 177 [.ptr [.fn 171 []] 0]])
theorem e61_0:∃ n,Br Bq A9 n Unit AI 0 R9.1 R9.2.1 ()=some (R9.2.2,[],()):=BW (n:=60) P3 (by kernel_rfl)
def R8:ja×jh×W:=(115,[],.ki [.str [226,141,180],.agg [.fn 152 [],.fn 153 []],.str [226,141,179],.agg [.fn 154 [],.fn 155 []],.str [44],.agg [.fn 156 [],.fn 159 []],.str [226,140,189],.agg [.fn 160 [],.fn 161 []],.str [226,134,145],.agg [.fn 162 [],.fn 163 []],.str [226,134,147],.agg [.jV,.fn 164 []],.str [226,137,162],.agg [.fn 165 [],.fn 167 []]])
theorem e66_0:∃ n,Br Bq A9 n Unit AI 0 R8.1 R8.2.1 ()=some (R8.2.2,[],()):=BW (n:=60) P3 (by kernel_rfl)
def knf:K2 :=
 R7 :: R9 :: R8 :: []
theorem Gs:KM Bq A9 knf:=D2 e75_0<|D2 e61_0<|D2 e66_0<|P3
end Go.Ab.jF

