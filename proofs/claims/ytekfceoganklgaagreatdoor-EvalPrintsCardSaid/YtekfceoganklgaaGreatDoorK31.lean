/- Part 31 of a proof: laws of a machine. -/
import Derived.Test.YtekfceoganklgaaGreatDoorK28
import Derived.Test.YtekfceoganklgaaGreatDoorK29
import Derived.Test.YtekfceoganklgaaGreatDoorK30
import Derived.KernelRfl
set_option linter.all false

namespace Go.Ab.mm
open Go Go.Ab
def knia:DS :=
 zeP :: zeT :: zeW :: zeQ :: zeU :: zeX :: zeR :: zeV :: zeY :: zeS :: cS :: cR :: cQ :: cP :: cO :: cN :: cM :: cL :: cK :: cJ :: cI :: cH :: cG :: cF :: cE :: cD :: cC :: cB :: cA :: cz :: cy :: cw :: cu :: kni
theorem Ff:Dk BB Br knia:=Ao e110_0<|Ao e110_1<|Ao e110_2<|Ao e110_3<|Ao e110_4<|Ao e110_5<|Ao e110_6<|Ao e110_7<|Ao e110_8<|Ao e110_9<|Ao e110_10<|Ao e110_11<|Ao e110_12<|Ao e110_13<|Ao e110_14<|Ao e110_15<|Ao e110_16<|Ao e110_17<|Ao e110_18<|Ao e110_19<|Ao e110_20<|Ao e110_21<|Ao e110_22<|Ao e110_23<|Ao e110_24<|Ao e110_25<|Ao e110_26<|Ao e110_27<|Ao e110_28<|Ao e110_29<|Ao e110_30<|Ao e110_31<|Ao e110_32<|BX
end Go.Ab.mm

