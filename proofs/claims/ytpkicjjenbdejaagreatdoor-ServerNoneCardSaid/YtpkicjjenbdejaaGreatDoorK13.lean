/- Part 13 of a proof: laws of a machine. -/
import Derived.Test.YtpkicjjenbdejaaGreatDoorK12
import Derived.KernelRfl
set_option linter.all false

namespace Go.Ab.fC
open Go Go.Ab
def Qt:eU×fa×PV:=(352,[.str [49,43,50]],.fM [.str [],.int .i64 0])
theorem e352_0:∃ n,AI Ay Au n Unit Ar 0 Qt.1 Qt.2.1 ()=some (Qt.2.2,[],()):=AT (n:=400) IW Db (by kernel_rfl)
def Qq:eU×fa×PV:=(356,[.str []],.int .i64 0)
theorem e356_0:∃ n,AI Ay Au n Unit Ar 0 Qq.1 Qq.2.1 ()=some (Qq.2.2,[],()):=AT (n:=400) IW Db (by kernel_rfl)
end Go.Ab.fC
namespace Go.Ab.fC
open Go Go.Ab
def Qs:eU×fa×PV:=(352,[.str [43,50]],.fM [.str [43],.int .i64 1])
theorem e352_1:∃ n,AI Ay Au n Unit Ar 0 Qs.1 Qs.2.1 ()=some (Qs.2.2,[],()):=AT (n:=400) IW Db (by kernel_rfl)
def Qp:eU×fa×PV:=(356,[.str [43]],.int .i64 1)
theorem e356_1:∃ n,AI Ay Au n Unit Ar 0 Qp.1 Qp.2.1 ()=some (Qp.2.2,[],()):=AT (n:=400) IW Db (by kernel_rfl)
end Go.Ab.fC
namespace Go.Ab.fC
open Go Go.Ab
def Qr:eU×fa×PV:=(352,[.str [50]],.fM [.str [],.int .i64 0])
theorem e352_2:∃ n,AI Ay Au n Unit Ar 0 Qr.1 Qr.2.1 ()=some (Qr.2.2,[],()):=AT (n:=400) IW Db (by kernel_rfl)
end Go.Ab.fC
namespace Go.Ab.fC
open Go Go.Ab
def knh:EZ :=
 Qt :: Qs :: Qr :: Qq :: Qp :: It
theorem Bt:Ez Ay Au knh:=AW e352_0<|AW e352_1<|AW e352_2<|AW e356_0<|AW e356_1<|IW
end Go.Ab.fC

