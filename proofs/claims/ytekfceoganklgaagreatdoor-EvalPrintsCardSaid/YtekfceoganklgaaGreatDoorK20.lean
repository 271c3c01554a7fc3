/- Part 20 of a proof: laws of a machine. -/
import Derived.Test.YtekfceoganklgaaGreatDoorK14
import Derived.Test.YtekfceoganklgaaGreatDoorK15
import Derived.Test.YtekfceoganklgaaGreatDoorK16
import Derived.Test.YtekfceoganklgaaGreatDoorK17
import Derived.Test.YtekfceoganklgaaGreatDoorK18
import Derived.Test.YtekfceoganklgaaGreatDoorK19
import Derived.KernelRfl
set_option linter.all false

namespace Go.Ab.mm
open Go Go.Ab
def knh:DS :=
 zd4 :: zd8 :: zec :: zeg :: zek :: zem :: zd5 :: zd9 :: zed :: zeh :: cc :: b9 :: b8 :: b7 :: bZ :: bY :: bX :: bW :: bU :: bT :: bS :: bR :: bQ :: bP :: zd6 :: zea :: zee :: zei :: zel :: zen :: zd7 :: zeb :: zef :: zej :: bO :: bN :: bM :: J5
theorem Bg:Dk BB Br knh:=Ao e244_0<|Ao e244_1<|Ao e244_2<|Ao e244_3<|Ao e244_4<|Ao e244_5<|Ao e244_6<|Ao e244_7<|Ao e244_8<|Ao e244_9<|Ao e244_10<|Ao e244_11<|Ao e244_12<|Ao e244_13<|Ao e244_14<|Ao e244_15<|Ao e244_16<|Ao e244_17<|Ao e244_18<|Ao e244_19<|Ao e244_20<|Ao e244_21<|Ao e244_22<|Ao e244_23<|Ao e248_0<|Ao e248_1<|Ao e248_2<|Ao e248_3<|Ao e248_4<|Ao e248_5<|Ao e248_6<|Ao e248_7<|Ao e248_8<|Ao e248_9<|Ao e248_10<|Ao e248_11<|Ao e248_12<|BG
end Go.Ab.mm

