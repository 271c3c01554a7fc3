/- Part 8 of a proof: laws of a machine. -/
import Derived.Test.YthakoglihciegaaGreatDoorK07
import Derived.KernelRfl
set_option linter.all false

namespace Go.Ab.jF
open Go Go.Ab
def Sg:ja×jh×W:=(5,[.str [45],.agg [.bool true,.bool false,.sl 1 [.int .i64 (1),.int .i64 (2),.int .i64 (3)] false]],.jE [.agg [.bool false,.bool false,.sl 1 [.int .i64 (2)] false],.int .i64 (0)])
theorem e19_0:∃ n,Br Bq A9 n Unit AI 0 Sg.1 Sg.2.1 ()=some (Sg.2.2,[],()):=BW (n:=60) KD (by kernel_rfl)
def Sf:ja×jh×W:=(8,[.str [43],.agg [.bool true,.bool false,.sl 1 [.int .i64 (1),.int .i64 (2),.int .i64 (3)] false]],.jE [.agg [.bool true,.bool false,.sl 1 [.int .i64 (1),.int .i64 (3),.int .i64 (6)] false],.int .i64 (0)])
theorem e21_0:∃ n,Br Bq A9 n Unit AI 0 Sf.1 Sf.2.1 ()=some (Sf.2.2,[],()):=BW (n:=60) KD (by kernel_rfl)
def Se:ja×jh×W:=(10,[.str [45],.agg [.bool true,.bool false,.sl 1 [.int .i64 (1),.int .i64 (2)] false]],.jE [.agg [.bool true,.bool false,.sl 1 [.int .i64 (-1),.int .i64 (-2)] false],.int .i64 (0)])
theorem e23_0:∃ n,Br Bq A9 n Unit AI 0 Se.1 Se.2.1 ()=some (Se.2.2,[],()):=BW (n:=60) KD (by kernel_rfl)
def Sd:ja×jh×W:=(10,[.str [226,141,179],.agg [.bool true,.bool false,.sl 1 [.int .i64 (1),.int .i64 (2)] false]],.jE [.agg [.bool false,.bool false,.jD],.int .i64 (111)])
theorem e23_1:∃ n,Br Bq A9 n Unit AI 0 Sd.1 Sd.2.1 ()=some (Sd.2.2,[],()):=BW (n:=60) KD (by kernel_rfl)
def Sc:ja×jh×W:=(14,[.agg [.bool false,.bool false,.sl 1 [.int .i64 (2)] false]],.str [50])
theorem e34_0:∃ n,Br Bq A9 n Unit AI 0 Sc.1 Sc.2.1 ()=some (Sc.2.2,[],()):=BW (n:=60) KD (by kernel_rfl)
def Sb:ja×jh×W:=(14,[.agg [.bool true,.bool false,.sl 1 [.int .i64 (1),.int .i64 (3),.int .i64 (6)] false]],.str [49,32,51,32,54])
theorem e34_1:∃ n,Br Bq A9 n Unit AI 0 Sb.1 Sb.2.1 ()=some (Sb.2.2,[],()):=BW (n:=60) KD (by kernel_rfl)
def Sa:ja×jh×W:=(14,[.agg [.bool true,.bool false,.sl 1 [.int .i64 (-1),.int .i64 (-2)] false]],.str [194,175,49,32,194,175,50])
theorem e34_2:∃ n,Br Bq A9 n Unit AI 0 Sa.1 Sa.2.1 ()=some (Sa.2.2,[],()):=BW (n:=60) KD (by kernel_rfl)
def knh:K2 :=
 Sg :: Sf :: Se :: Sd :: Sc :: Sb :: Sa :: kng
theorem D7:KM Bq A9 knh:=D2 e19_0<|D2 e21_0<|D2 e23_0<|D2 e23_1<|D2 e34_0<|D2 e34_1<|D2 e34_2<|KD
end Go.Ab.jF

