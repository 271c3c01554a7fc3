/- Part 7 of a proof: laws of a machine. -/
import Derived.Test.YthakoglihciegaaGreatDoorK06
import Derived.KernelRfl
set_option linter.all false

namespace Go.Ab.jF
open Go Go.Ab
def Sr:ja×jh×W:=(58,[.str [45],.agg [.bool false,.bool false,.sl 1 [.int .i64 (1)] false]],.jE [.agg [.bool false,.bool false,.sl 1 [.int .i64 (-1)] false],.int .i64 (0)])
theorem e13_0:∃ n,Br Bq A9 n Unit AI 0 Sr.1 Sr.2.1 ()=some (Sr.2.2,[],()):=BW (n:=60) Gs (by kernel_rfl)
def Sq:ja×jh×W:=(58,[.str [45],.agg [.bool false,.bool false,.sl 1 [.int .i64 (2)] false]],.jE [.agg [.bool false,.bool false,.sl 1 [.int .i64 (-2)] false],.int .i64 (0)])
theorem e13_1:∃ n,Br Bq A9 n Unit AI 0 Sq.1 Sq.2.1 ()=some (Sq.2.2,[],()):=BW (n:=60) Gs (by kernel_rfl)
def So:ja×jh×W:=(58,[.str [226,141,179],.agg [.bool false,.bool false,.sl 1 [.int .i64 (1)] false]],.jE [.agg [.bool true,.bool false,.sl 1 [.int .i64 (1)] false],.int .i64 (0)])
theorem e13_2:∃ n,Br Bq A9 n Unit AI 0 So.1 So.2.1 ()=some (So.2.2,[],()):=BW (n:=60) Gs (by kernel_rfl)
def Sn:ja×jh×W:=(58,[.str [226,141,179],.agg [.bool false,.bool false,.sl 1 [.int .i64 (2)] false]],.jE [.agg [.bool true,.bool false,.sl 1 [.int .i64 (1),.int .i64 (2)] false],.int .i64 (0)])
theorem e13_3:∃ n,Br Bq A9 n Unit AI 0 Sn.1 Sn.2.1 ()=some (Sn.2.2,[],()):=BW (n:=60) Gs (by kernel_rfl)
def Sm:ja×jh×W:=(53,[.str [45],.agg [.bool false,.bool false,.sl 1 [.int .i64 (2)] false],.agg [.bool false,.bool false,.sl 1 [.int .i64 (3)] false]],.jE [.agg [.bool false,.bool false,.sl 1 [.int .i64 (-1)] false],.int .i64 (0)])
theorem e16_0:∃ n,Br Bq A9 n Unit AI 0 Sm.1 Sm.2.1 ()=some (Sm.2.2,[],()):=BW (n:=60) Gs (by kernel_rfl)
def Sl:ja×jh×W:=(53,[.str [45],.agg [.bool false,.bool false,.sl 1 [.int .i64 (1)] false],.agg [.bool false,.bool false,.sl 1 [.int .i64 (-1)] false]],.jE [.agg [.bool false,.bool false,.sl 1 [.int .i64 (2)] false],.int .i64 (0)])
theorem e16_1:∃ n,Br Bq A9 n Unit AI 0 Sl.1 Sl.2.1 ()=some (Sl.2.2,[],()):=BW (n:=60) Gs (by kernel_rfl)
def Sk:ja×jh×W:=(53,[.str [43],.agg [.bool false,.bool false,.sl 1 [.int .i64 (1)] false],.agg [.bool false,.bool false,.sl 1 [.int .i64 (2)] false]],.jE [.agg [.bool false,.bool false,.sl 1 [.int .i64 (3)] false],.int .i64 (0)])
theorem e16_2:∃ n,Br Bq A9 n Unit AI 0 Sk.1 Sk.2.1 ()=some (Sk.2.2,[],()):=BW (n:=60) Gs (by kernel_rfl)
def Sj:ja×jh×W:=(53,[.str [43],.agg [.bool false,.bool false,.sl 1 [.int .i64 (2)] false],.agg [.bool false,.bool false,.sl 1 [.int .i64 (3)] false]],.jE [.agg [.bool false,.bool false,.sl 1 [.int .i64 (5)] false],.int .i64 (0)])
theorem e16_3:∃ n,Br Bq A9 n Unit AI 0 Sj.1 Sj.2.1 ()=some (Sj.2.2,[],()):=BW (n:=60) Gs (by kernel_rfl)
def Si:ja×jh×W:=(53,[.str [43],.agg [.bool false,.bool false,.sl 1 [.int .i64 (1)] false],.agg [.bool false,.bool false,.sl 1 [.int .i64 (5)] false]],.jE [.agg [.bool false,.bool false,.sl 1 [.int .i64 (6)] false],.int .i64 (0)])
theorem e16_4:∃ n,Br Bq A9 n Unit AI 0 Si.1 Si.2.1 ()=some (Si.2.2,[],()):=BW (n:=60) Gs (by kernel_rfl)
def R6:ja×jh×W:=(46,[.int .i64 (2)],.str [50])
theorem e98_0:∃ n,Br Bq A9 n Unit AI 0 R6.1 R6.2.1 ()=some (R6.2.2,[],()):=BW (n:=60) Gs (by kernel_rfl)
def R5:ja×jh×W:=(46,[.int .i64 (1)],.str [49])
theorem e98_1:∃ n,Br Bq A9 n Unit AI 0 R5.1 R5.2.1 ()=some (R5.2.2,[],()):=BW (n:=60) Gs (by kernel_rfl)
def R4:ja×jh×W:=(46,[.int .i64 (3)],.str [51])
theorem e98_2:∃ n,Br Bq A9 n Unit AI 0 R4.1 R4.2.1 ()=some (R4.2.2,[],()):=BW (n:=60) Gs (by kernel_rfl)
def R3:ja×jh×W:=(46,[.int .i64 (6)],.str [54])
theorem e98_3:∃ n,Br Bq A9 n Unit AI 0 R3.1 R3.2.1 ()=some (R3.2.2,[],()):=BW (n:=60) Gs (by kernel_rfl)
def R2:ja×jh×W:=(46,[.int .i64 (-1)],.str [194,175,49])
theorem e98_4:∃ n,Br Bq A9 n Unit AI 0 R2.1 R2.2.1 ()=some (R2.2.2,[],()):=BW (n:=60) Gs (by kernel_rfl)
def R1:ja×jh×W:=(46,[.int .i64 (-2)],.str [194,175,50])
theorem e98_5:∃ n,Br Bq A9 n Unit AI 0 R1.1 R1.2.1 ()=some (R1.2.2,[],()):=BW (n:=60) Gs (by kernel_rfl)
def kng:K2 :=
 Sr :: Sq :: So :: Sn :: Sm :: Sl :: Sk :: Sj :: Si :: R6 :: R5 :: R4 :: R3 :: R2 :: R1 :: knf
theorem KD:KM Bq A9 kng:=D2 e13_0<|D2 e13_1<|D2 e13_2<|D2 e13_3<|D2 e16_0<|D2 e16_1<|D2 e16_2<|D2 e16_3<|D2 e16_4<|D2 e98_0<|D2 e98_1<|D2 e98_2<|D2 e98_3<|D2 e98_4<|D2 e98_5<|Gs
end Go.Ab.jF

