/- Part 27 of a proof: laws of a machine. -/
import Derived.Test.YtekfceoganklgaaGreatDoorK21
import Derived.Test.YtekfceoganklgaaGreatDoorK22
import Derived.Test.YtekfceoganklgaaGreatDoorK23
import Derived.Test.YtekfceoganklgaaGreatDoorK24
import Derived.Test.YtekfceoganklgaaGreatDoorK25
import Derived.Test.YtekfceoganklgaaGreatDoorK26
import Derived.KernelRfl
set_option linter.all false

namespace Go.Ab.mm
open Go Go.Ab
def kni:DS :=
 zeo :: zet :: zey :: zeD :: zeI :: zeL :: zep :: zeu :: zez :: zeE :: ct :: cr :: cq :: cp :: co :: cn :: cm :: ck :: cj :: ci :: ch :: cg :: cf :: ce :: cd :: c73_0 :: c73_1 :: c73_2 :: c73_3 :: c73_4 :: c73_5 :: c73_6 :: c73_7 :: c73_8 :: c73_9 :: zeM :: zeq :: zev :: zeA :: zeF :: zeJ :: zeN :: zer :: zew :: zeB :: zeG :: zeK :: zeO :: zes :: zex :: zeC :: zeH :: knh
theorem BX:Dk BB Br kni:=Ao e162_0<|Ao e162_1<|Ao e162_2<|Ao e162_3<|Ao e162_4<|Ao e162_5<|Ao e162_6<|Ao e162_7<|Ao e162_8<|Ao e162_9<|Ao e162_10<|Ao e162_11<|Ao e162_12<|Ao e162_13<|Ao e162_14<|Ao e162_15<|Ao e162_16<|Ao e162_17<|Ao e162_18<|Ao e162_19<|Ao e162_20<|Ao e162_21<|Ao e162_22<|Ao e162_23<|Ao e162_24<|Ao e73_0<|Ao e73_1<|Ao e73_2<|Ao e73_3<|Ao e73_4<|Ao e73_5<|Ao e73_6<|Ao e73_7<|Ao e73_8<|Ao e73_9<|Ao e73_10<|Ao e73_11<|Ao e73_12<|Ao e73_13<|Ao e73_14<|Ao e73_15<|Ao e73_16<|Ao e73_17<|Ao e73_18<|Ao e73_19<|Ao e73_20<|Ao e73_21<|Ao e73_22<|Ao e73_23<|Ao e73_24<|Ao e73_25<|Ao e73_26<|Bg
end Go.Ab.mm

