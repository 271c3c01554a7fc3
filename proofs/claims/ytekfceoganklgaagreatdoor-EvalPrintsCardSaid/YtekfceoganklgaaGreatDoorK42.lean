/- Part 42 of a proof: laws of a machine. -/
import Derived.Test.YtekfceoganklgaaGreatDoorK41
import Derived.Test.YtekfceoganklgaaGreatDoorK39
import Derived.KernelRfl
set_option linter.all false

namespace Go.Ab.mm
open Go Go.Ab
def c25_0:Ap:=(25,[.sl 4 zk1 false,.int .i64 100],.mn zk145)
theorem e25_0:Aq c25_0:=Mo (n:=400) EY L9 (by kernel_rfl)
end Go.Ab.mm
namespace Go.Ab.mm
open Go Go.Ab
def c25_1:Ap:=(25,[.sl 4 zk69 false,.int .i64 1],.mn [.sl 5 [.agg zk79] false,.int .i64 0])
theorem e25_1:Aq c25_1:=Mo (n:=400) EY L9 (by kernel_rfl)
end Go.Ab.mm
namespace Go.Ab.mm
open Go Go.Ab
def c25_2:Ap:=(25,[.sl 4 zk69 false,.int .i64 3],.mn [.sl 5 [.agg zk64] false,.int .i64 0])
theorem e25_2:Aq c25_2:=Mo (n:=400) EY L9 (by kernel_rfl)
end Go.Ab.mm
namespace Go.Ab.mm
open Go Go.Ab
def knm:DS :=
 c25_0 :: c25_1 :: c25_2 :: knl
theorem SA:Dk BB Br knm:=Ao e25_0<|Ao e25_1<|Ao e25_2<|EY
end Go.Ab.mm
namespace Go.Ab.mm
open Go Go.Ab
def c10_0:Ap:=(10,[.str zk47,.int .i64 100],.mn zk145)
theorem e10_0:Aq c10_0:=Mo (n:=400) SA L9 (by kernel_rfl)
def c10_1:Ap:=(10,[.str P8,.int .i64 1],.mn [.sl 5 [.agg zk79] false,.int .i64 0])
theorem e10_1:Aq c10_1:=Mo (n:=400) SA L9 (by kernel_rfl)
def c10_2:Ap:=(10,[.str P8,.int .i64 3],.mn [.sl 5 [.agg zk64] false,.int .i64 0])
theorem e10_2:Aq c10_2:=Mo (n:=400) SA L9 (by kernel_rfl)
def knn:DS :=
 c10_0 :: c10_1 :: c10_2 :: knm
theorem knn_ok:Dk BB Br knn:=Ao e10_0<|Ao e10_1<|Ao e10_2<|SA
end Go.Ab.mm
namespace Go.Ab.mm
open Go Go.Ab
theorem zfN:∃ n,Ei BB Br n Unit AL 0 4 [] ()=some (.bool true,[],()):=Mo (n:=400) knn_ok L9 (by kernel_rfl)
end Go.Ab.mm

