/- Part 9 of a proof: laws of a machine. -/
import Derived.Test.YtekfceoganklgaaGreatDoorK05
import Derived.Test.YtekfceoganklgaaGreatDoorK08
import Derived.KernelRfl
set_option linter.all false

namespace Go.Ab.mm
open Go Go.Ab
def Aq (c:lL×lS×PV):Prop:=∃ n,Ei BB Br n Unit AL 0 c.1 c.2.1 ()=some (c.2.2,[],())
def Ga (c:lL×lY×lS×Ss×PV):Prop:=∀ fn,Br c.1=some fn->∃ n,Db (Cb BB Br n) n fn c.2.1 c.2.2.1=some (c.2.2.2.1.V,c.2.2.2.2)
abbrev Ap:=FuncId×lS×PV
abbrev F9:=FuncId×lY×lS×Ss×PV
abbrev Dc:l4:=[226,141,181]
abbrev zk0:lS:=[.agg [.int .i64 4,.str Dc,.sl 1 [] false],.agg [.int .i64 9,.str [61],.sl 1 [] false],.agg [.int .i64 1,.str [48],.sl 1 [] false],.agg [.int .i64 7,.str [],.sl 1 [.int .i64 0,.int .i64 1,.int .i64 2] false],.agg [.int .i64 1,.str [48],.sl 1 [] false],.agg [.int .i64 12,.str [],.sl 1 [.int .i64 3,.int .i64 4] false],.agg [.int .i64 4,.str Dc,.sl 1 [] false],.agg [.int .i64 9,.str [195,151],.sl 1 [] false],.agg [.int .i64 1,.str [50],.sl 1 [] false],.agg [.int .i64 7,.str [],.sl 1 [.int .i64 6,.int .i64 7,.int .i64 8] false],.agg [.int .i64 11,.str [],.sl 1 [.int .i64 5,.int .i64 9] false],.agg [.int .i64 8,.str [48],.sl 1 [.int .i64 10] false]]
abbrev K5:lS:=[.int .i64 5,.str [102],.str []]
abbrev FQ:l4:=[226,134,144]
abbrev Gw:lS:=[.int .i64 9,.str Dc,.str Dc]
abbrev Lt:lS:=[.int .i64 6,.str [61],.str [61]]
abbrev Gr:lS:=[.int .i64 3,.str [48],.str [48]]
abbrev FY:l4:=[226,139,132]
abbrev N6:lS:=[.int .i64 8,.str FY,.str FY]
abbrev N7:lS:=[.int .i64 6,.str [195,151],.str [195,151]]
abbrev KY:lS:=[.int .i64 3,.str [50],.str [50]]
abbrev zk6:lS:=[.agg K5,.agg [.int .i64 8,.str FQ,.str FQ],.agg [.int .i64 8,.str [123],.str [123]],.agg Gw,.agg Lt,.agg Gr,.agg [.int .i64 8,.str [58],.str [58]],.agg Gr,.agg N6,.agg Gw,.agg N7,.agg KY,.agg [.int .i64 8,.str [125],.str [125]]]
abbrev SU:lS:=[.int .i64 4,.str Dc,.sl 1 [] true]
abbrev ST:lS:=[.int .i64 1,.str [48],.sl 1 [] true]
abbrev SW:lS:=[.int .i64 7,.str [194,168],.str [194,168]]
abbrev CT:l4:=[226,141,179]
abbrev MH:lS:=[.agg K5,.agg SW,.agg [.int .i64 6,.str CT,.str CT],.agg [.int .i64 3,.str [51],.str [51]]]
abbrev yd:lS:=[.int .i64 10,.str [194,168],.sl 1 [.int .i64 0] false]
abbrev zk1:lS:=[.agg [.int .i64 0,.sl 3 zk6 false,.sl 3 [.agg SU,.agg [.int .i64 9,.str [61],.sl 1 [] true],.agg ST,.agg [.int .i64 7,.str [],.sl 1 [.int .i64 0,.int .i64 1,.int .i64 2] false],.agg ST,.agg [.int .i64 12,.str [],.sl 1 [.int .i64 3,.int .i64 4] false],.agg SU,.agg [.int .i64 9,.str [195,151],.sl 1 [] true],.agg [.int .i64 1,.str [50],.sl 1 [] true],.agg [.int .i64 7,.str [],.sl 1 [.int .i64 6,.int .i64 7,.int .i64 8] false],.agg [.int .i64 11,.str [],.sl 1 [.int .i64 5,.int .i64 9] false],.agg [.int .i64 8,.str [102],.sl 1 [.int .i64 10] false]] false,.int .i64 0],.agg [.int .i64 0,.sl 3 MH false,.sl 3 [.agg [.int .i64 14,.str [102],.sl 1 [] true],.agg yd,.agg [.int .i64 9,.str CT,.sl 1 [] true],.agg [.int .i64 1,.str [51],.sl 1 [] true],.agg [.int .i64 6,.str [],.sl 1 [.int .i64 2,.int .i64 3] false],.agg [.int .i64 6,.str [],.sl 1 [.int .i64 1,.int .i64 4] false]] false,.int .i64 0]]
abbrev zk2:lS:=[.agg [.int .i64 14,.str [48],.sl 1 [] false],.agg yd,.agg [.int .i64 9,.str CT,.sl 1 [] false],.agg [.int .i64 1,.str [51],.sl 1 [] false],.agg [.int .i64 6,.str [],.sl 1 [.int .i64 2,.int .i64 3] false],.agg [.int .i64 6,.str [],.sl 1 [.int .i64 1,.int .i64 4] false]]
abbrev zk3:lS:=[.agg [.int .i64 6,.str [43],.str [43]],.agg [.int .i64 7,.str [47],.str [47]],.agg [.int .i64 3,.str [49],.str [49]],.agg KY,.agg [.int .i64 3,.str [51],.str [51]]]
abbrev zk4:lS:=[.agg [.int .i64 4,.str Dc,.sl 1 [] false],.agg [.int .i64 9,.str [61],.sl 1 [] false],.agg [.int .i64 1,.str [48],.sl 1 [] false],.agg [.int .i64 7,.str [],.sl 1 [.int .i64 0,.int .i64 1,.int .i64 2] false],.agg [.int .i64 1,.str [48],.sl 1 [] false],.agg [.int .i64 12,.str [],.sl 1 [.int .i64 3,.int .i64 4] false],.agg [.int .i64 4,.str Dc,.sl 1 [] false],.agg [.int .i64 9,.str [195,151],.sl 1 [] false],.agg [.int .i64 1,.str [50],.sl 1 [] false],.agg [.int .i64 7,.str [],.sl 1 [.int .i64 6,.int .i64 7,.int .i64 8] false],.agg [.int .i64 11,.str [],.sl 1 [.int .i64 5,.int .i64 9] false],.agg [.int .i64 8,.str [102],.sl 1 [.int .i64 10] false]]
abbrev zk5:lS:=[.agg [.int .i64 4,.str Dc,.sl 1 [] false],.agg [.int .i64 9,.str [61],.sl 1 [] false],.agg [.int .i64 1,.str [48],.sl 1 [] false],.agg [.int .i64 7,.str [],.sl 1 [.int .i64 0,.int .i64 1,.int .i64 2] false],.agg [.int .i64 1,.str [48],.sl 1 [] false],.agg [.int .i64 12,.str [],.sl 1 [.int .i64 3,.int .i64 4] false],.agg [.int .i64 4,.str Dc,.sl 1 [] false],.agg [.int .i64 9,.str [195,151],.sl 1 [] false],.agg [.int .i64 1,.str [50],.sl 1 [] false],.agg [.int .i64 7,.str [],.sl 1 [.int .i64 6,.int .i64 7,.int .i64 8] false],.agg [.int .i64 11,.str [],.sl 1 [.int .i64 5,.int .i64 9] false]]
abbrev zk7:lS:=[.agg K5,.agg [.int .i64 8,.str FQ,.str FQ],.agg [.int .i64 8,.str [123],.str [123]],.agg Gw,.agg Lt,.agg Gr,.agg [.int .i64 8,.str [58],.str [58]],.agg Gr,.agg N6,.agg Gw,.agg N7,.agg KY,.agg [.int .i64 8,.str [125],.str [125]],.agg N6,.agg K5,.agg SW,.agg [.int .i64 6,.str CT,.str CT],.agg [.int .i64 3,.str [51],.str [51]]]
abbrev Fp:lS:=[.str [43],.str [],.int .i64 1]
abbrev Fm:lS:=[.str [45],.str [],.int .i64 1]
abbrev Fu:lS:=[.str [195,151],.str [120],.int .i64 1]
abbrev Ft:lS:=[.str [195,183],.str [100],.int .i64 1]
abbrev IK:l4:=[226,140,136]
abbrev Fx:lS:=[.str IK,.str [117],.int .i64 1]
abbrev IJ:l4:=[226,140,138]
abbrev Fw:lS:=[.str IJ,.str [110],.int .i64 1]
abbrev Fs:lS:=[.str [124],.str [],.int .i64 1]
abbrev Fq:lS:=[.str [61],.str [],.int .i64 1]
abbrev II:l4:=[226,137,160]
abbrev Fv:lS:=[.str II,.str [113],.int .i64 1]
abbrev Gp:lS:=[.str [60],.str [],.int .i64 1]
abbrev Gn:lS:=[.str [62],.str [],.int .i64 1]
abbrev JL:l4:=[226,137,164]
abbrev Gv:lS:=[.str JL,.str [108],.int .i64 1]
abbrev JK:l4:=[226,137,165]
abbrev Gu:lS:=[.str JK,.str [103],.int .i64 1]
abbrev JJ:l4:=[226,136,167]
abbrev Gs:lS:=[.str JJ,.str [97],.int .i64 1]
abbrev JI:l4:=[226,136,168]
abbrev Gt:lS:=[.str JI,.str [111],.int .i64 1]
abbrev Gq:lS:=[.str [126],.str [],.int .i64 1]
abbrev KZ:l4:=[226,141,180]
abbrev Hf:lS:=[.str KZ,.str [114],.int .i64 1]
abbrev He:lS:=[.str CT,.str [105],.int .i64 1]
abbrev Hc:lS:=[.str [44],.str [],.int .i64 1]
abbrev K3:l4:=[226,140,189]
abbrev Hj:lS:=[.str K3,.str [116],.int .i64 1]
abbrev K2:l4:=[226,134,145]
abbrev Hi:lS:=[.str K2,.str [107],.int .i64 1]
abbrev K1:l4:=[226,134,147]
abbrev Hh:lS:=[.str K1,.str [106],.int .i64 1]
abbrev K0:l4:=[226,137,162]
abbrev Hg:lS:=[.str K0,.str [109],.int .i64 1]
abbrev IW:lS:=[.str [47],.str [],.int .i64 2]
abbrev IV:lS:=[.str [92],.str [],.int .i64 2]
abbrev IX:lS:=[.str [194,168],.str [101],.int .i64 2]
abbrev Mr:l4:=[226,141,168]
abbrev IY:lS:=[.str Mr,.str [99],.int .i64 2]
abbrev I4:lS:=[.str FQ,.str [115],.int .i64 3]
abbrev IZ:lS:=[.str FY,.str [122],.int .i64 3]
abbrev Lp:lS:=[.str [58],.str [],.int .i64 3]
abbrev Lr:lS:=[.str [123],.str [],.int .i64 3]
abbrev Lq:lS:=[.str [125],.str [],.int .i64 3]
abbrev Lo:lS:=[.str [40],.str [],.int .i64 3]
abbrev Ln:lS:=[.str [41],.str [],.int .i64 3]
abbrev N5:l4:=[226,141,186]
abbrev Lv:lS:=[.str N5,.str [112],.int .i64 4]
abbrev Lu:lS:=[.str Dc,.str [119],.int .i64 4]
abbrev ye:lS:=[.str [194,175],.str [104],.int .i64 5]
abbrev SX:lS:=[.str [226,141,157],.str [98],.int .i64 6]
abbrev zk8:lS:=[.agg Fp,.agg Fm,.agg Fu,.agg Ft,.agg Fx,.agg Fw,.agg Fs,.agg Fq,.agg Fv,.agg Gp,.agg Gn,.agg Gv,.agg Gu,.agg Gs,.agg Gt,.agg Gq,.agg Hf,.agg He,.agg Hc,.agg Hj,.agg Hi,.agg Hh,.agg Hg,.agg IW,.agg IV,.agg IX,.agg IY,.agg I4,.agg IZ,.agg Lp,.agg Lr,.agg Lq,.agg Lo,.agg Ln,.agg Lv,.agg Lu,.agg ye,.agg SX]
abbrev Mq:l4:=[49,32,50,32,51]
abbrev zk9:lS:=[.agg [.int .i64 9,.str [43],.sl 1 [] false],.agg [.int .i64 10,.str [47],.sl 1 [.int .i64 0] false],.agg [.int .i64 1,.str Mq,.sl 1 [] false],.agg [.int .i64 6,.str [],.sl 1 [.int .i64 1,.int .i64 2] false]]
abbrev zk10:lS:=[.agg [.int .i64 14,.str [102],.sl 1 [] false],.agg yd,.agg [.int .i64 9,.str CT,.sl 1 [] false],.agg [.int .i64 1,.str [51],.sl 1 [] false],.agg [.int .i64 6,.str [],.sl 1 [.int .i64 2,.int .i64 3] false],.agg [.int .i64 6,.str [],.sl 1 [.int .i64 1,.int .i64 4] false]]
abbrev zk11:lS:=[.agg [.int .i64 4,.str Dc,.sl 1 [] false],.agg [.int .i64 9,.str [61],.sl 1 [] false],.agg [.int .i64 1,.str [48],.sl 1 [] false],.agg [.int .i64 7,.str [],.sl 1 [.int .i64 0,.int .i64 1,.int .i64 2] false],.agg [.int .i64 1,.str [48],.sl 1 [] false],.agg [.int .i64 12,.str [],.sl 1 [.int .i64 3,.int .i64 4] false]]
abbrev yf:lS:=[.agg [.int .i64 4,.str Dc,.sl 1 [] false],.agg [.int .i64 9,.str [195,151],.sl 1 [] false],.agg [.int .i64 1,.str [50],.sl 1 [] false],.agg [.int .i64 7,.str [],.sl 1 [.int .i64 0,.int .i64 1,.int .i64 2] false]]
abbrev GP:lS:=[.mJ,.str [48],.bool false,.bool false,.mu,.fn 119 [.ref (0,2) 0,.ref (0,3) 0]]
abbrev zk15:lS:=[.agg [.int .i64 9,.str [43],.sl 1 [] true],.agg [.int .i64 10,.str [47],.sl 1 [.int .i64 0] false],.agg [.int .i64 1,.str Mq,.sl 1 [] true],.agg [.int .i64 6,.str [],.sl 1 [.int .i64 1,.int .i64 2] false]]
abbrev zk17:lS:=[.agg [.int .i64 4,.str Dc,.sl 1 [] false],.agg [.int .i64 9,.str [61],.sl 1 [] false],.agg [.int .i64 1,.str [48],.sl 1 [] false],.agg [.int .i64 7,.str [],.sl 1 [.int .i64 0,.int .i64 1,.int .i64 2] false]]
abbrev FZ:lS:=[.sl 3 zk0 false,.int .i64 10,.mJ,.mu]
abbrev zk28:lS:=[.agg [.int .i64 9,.str CT,.sl 1 [] false],.agg [.int .i64 1,.str [51],.sl 1 [] false],.agg [.int .i64 6,.str [],.sl 1 [.int .i64 0,.int .i64 1] false]]
abbrev J2:lS:=[.bool false,.bool false,.sl 1 [.int .i64 2] true]
abbrev zk41:lS:=[.agg Gw,.agg N7,.agg KY]
abbrev Lw:lS:=[.bool false,.bool false,.sl 1 [.int .i64 3] true]
abbrev yg:lS:=[.bool true,.bool false,.sl 1 [.int .i64 1,.int .i64 2,.int .i64 3] false]
abbrev zk47:l4:=[102,226,134,144,123,226,141,181,61,48,58,48,226,139,132,226,141,181,195,151,50,125,226,139,132,102,194,168,226,141,179,51]
abbrev zk54:lS:=[.int .i64 0,.bool true,.bool true,.bool false,.sl 1 [.int .i64 2,.int .i64 4,.int .i64 6] false]
abbrev yh:lS:=[.bool false,.bool false,.sl 1 [.int .i64 1] true]
abbrev zk56:lS:=[.agg [.int .i64 6,.str [43],.str [43]],.agg [.int .i64 7,.str [47],.str [47]],.agg [.int .i64 3,.str [49],.str [49]],.agg [.int .i64 1,.str [32],.str []],.agg KY,.agg [.int .i64 1,.str [32],.str []],.agg [.int .i64 3,.str [51],.str [51]]]
abbrev yi:lS:=[.bool false,.bool false,.sl 1 [.int .i64 6] false]
abbrev zk63:lS:=[.bool true,.bool false,.sl 1 [.int .i64 2,.int .i64 4,.int .i64 6] false]
abbrev zk64:lS:=[.int .i64 0,.bool true,.bool false,.bool false,.sl 1 [.int .i64 6] false]
abbrev zk66:lS:=[.agg [.int .i64 9,.str [43],.sl 1 [] false],.agg [.int .i64 10,.str [47],.sl 1 [.int .i64 0] false]]
abbrev zk67:lS:=[.bool false,.bool false,.sl 1 [.int .i64 2] false]
abbrev zk68:lS:=[.bool false,.bool false,.sl 1 [.int .i64 4] false]
abbrev zk69:lS:=[.agg [.int .i64 0,.sl 3 zk3 false,.sl 3 zk15 false,.int .i64 0]]
abbrev zk72:lS:=[.agg [.int .i64 4,.str Dc,.mu]]
abbrev IU:lS:=[.str [],.int .i64 0]
abbrev yj:lS:=[.agg [.int .i64 1,.str [48],.mu]]
abbrev zk79:lS:=[.int .i64 121,.bool false,.bool false,.bool false,.mu]
abbrev zk80:lS:=[.int .i64 0,.bool false,.bool false,.bool false,.mu]
abbrev zk81:lS:=[.agg Gw,.agg Lt,.agg Gr,.agg [.int .i64 8,.str [58],.str [58]],.agg Gr]
abbrev zk83:lS:=[.agg [.int .i64 1,.str Mq,.mu]]
abbrev Hb:lS:=[.ref (0,4) 0]
abbrev zk85:lS:=[.agg [.bool false,.bool false,.sl 1 [.int .i64 0] false],.int .i64 0]
abbrev zk86:lS:=[.agg [.int .i64 9,.str [195,151],.mu]]
abbrev zk88:lS:=[.agg [.str [],.bool false],.bool false]
abbrev zk89:l4:=[226,134,144,123,226,141,181,61,48,58,48,226,139,132,226,141,181,195,151,50,125,226,139,132,102,194,168,226,141,179,51]
abbrev zk90:lS:=[.agg [.int .i64 14,.str [102],.sl 1 [] false],.agg yd]
abbrev zk91:lS:=[.agg [.int .i64 14,.str [48],.sl 1 [] false],.agg yd]
abbrev zk92:lS:=[.sl 3 zk0 false,.int .i64 10,.mJ,.arr (0,1) 3 0 1]
abbrev zk93:lS:=[.agg [.int .i64 1,.str [50],.mu]]
abbrev zk94:lS:=[.agg [.int .i64 9,.str CT,.mu]]
abbrev zk95:lS:=[.agg [.int .i64 9,.str [61],.mu]]
abbrev zk96:lS:=[.agg [.int .i64 1,.str [51],.mu]]
abbrev zk97:lS:=[.agg [.int .i64 9,.str [43],.mu]]
abbrev zk98:l4:=[123,226,141,181,61,48,58,48,226,139,132,226,141,181,195,151,50,125,226,139,132,102,194,168,226,141,179,51]
abbrev zk99:l4:=[226,141,181,61,48,58,48,226,139,132,226,141,181,195,151,50,125,226,139,132,102,194,168,226,141,179,51]
abbrev P9:lS:=[.sl 2 [] true,.bool true]
abbrev zdA:lS:=[.bool false,.bool false,.sl 1 [.int .i64 0] true]
abbrev zdB:lS:=[.sl 3 zk2 false,.int .i64 0,.ref (0,0) 0,.mu]
abbrev K4:lS:=[.ref (0,1) 0]
abbrev zk107:l4:=[61,48,58,48,226,139,132,226,141,181,195,151,50,125,226,139,132,102,194,168,226,141,179,51]
abbrev zk108:lS:=[.mJ,.str [48],.bool false,.bool false,.mu,.fn 119 [.ref (0,1) 0,.ref (0,2) 0]]
abbrev zk113:l4:=[48,58,48,226,139,132,226,141,181,195,151,50,125,226,139,132,102,194,168,226,141,179,51]
abbrev zdC:lS:=[.sl 1 [.sl 3 zk3 false] false,.int .i64 0]
abbrev zk115:l4:=[58,48,226,139,132,226,141,181,195,151,50,125,226,139,132,102,194,168,226,141,179,51]
abbrev P8:l4:=[43,47,49,32,50,32,51]
abbrev zk117:l4:=[48,226,139,132,226,141,181,195,151,50,125,226,139,132,102,194,168,226,141,179,51]
abbrev zk122:l4:=[226,139,132,226,141,181,195,151,50,125,226,139,132,102,194,168,226,141,179,51]
abbrev zdD:lS:=[.agg [.int .i64 14,.str [102],.mu]]
abbrev zdE:lS:=[.agg [.int .i64 14,.str [48],.mu]]
abbrev zk132:l4:=[226,141,181,195,151,50,125,226,139,132,102,194,168,226,141,179,51]
abbrev zk133:lS:=[.sl 3 zk0 false,.int .i64 10,.mJ,.sl 3 [.agg yh] false]
abbrev zk134:lS:=[.sl 3 zk0 false,.int .i64 10,.mJ,.sl 3 [.agg J2] false]
abbrev zk135:lS:=[.sl 3 zk0 false,.int .i64 10,.mJ,.sl 3 [.agg Lw] false]
abbrev zk136:lS:=[.sl 1 [.sl 3 zk6 false,.sl 3 MH false] false,.int .i64 0]
abbrev zk137:lS:=[.sl 1 [.int .i64 (-1),.int .i64 (-1)] false,.int .i64 0]
abbrev zk139:l4:=[195,151,50,125,226,139,132,102,194,168,226,141,179,51]
abbrev P7:lS:=[.ref (0,0) 0]
abbrev zk141:lS:=[.bool false,.bool false,.sl 1 [.int .i64 5] false]
abbrev zk142:lS:=[.agg [.int .i64 1,.str [32],.str []],.bool true]
abbrev zk143:lS:=[.sl 3 zk2 false,.int .i64 1,.ref (0,0) 0,.mu]
abbrev P6:lS:=[.int .i64 86]
abbrev zk145:lS:=[.sl 5 [.agg zk80,.agg zk54] false,.int .i64 86]
abbrev zk146:l4:=[50,125,226,139,132,102,194,168,226,141,179,51]
abbrev zdF:lS:=[.str [102],.bool true]
abbrev zk151:l4:=[125,226,139,132,102,194,168,226,141,179,51]
abbrev zk152:lS:=[.sl 1 [.int .i64 (-1)] false,.int .i64 0]
abbrev SV:lS:=[.int .i64 100]
abbrev zk154:l4:=[226,139,132,102,194,168,226,141,179,51]
def zdG:Ap:=(369,[.int .i64 1,.sl 1 [.str [195,151],.str [120],.str [195,183],.str [100],.str IK,.str [117],.str IJ,.str [110]] false],.sl 3 [.agg Fu,.agg Ft,.agg Fx,.agg Fw] false)
theorem e369_0:Aq zdG:=At (n:=400) Hp Eb (by kernel_rfl)
def zdH:Ap:=(369,[.int .i64 1,.sl 1 [.str II,.str [113]] false],.sl 3 [.agg Fv] false)
theorem e369_1:Aq zdH:=At (n:=400) Hp Eb (by kernel_rfl)
def zdI:Ap:=(369,[.int .i64 1,.sl 1 [.str JL,.str [108],.str JK,.str [103],.str JJ,.str [97],.str JI,.str [111]] false],.sl 3 [.agg Gv,.agg Gu,.agg Gs,.agg Gt] false)
theorem e369_2:Aq zdI:=At (n:=400) Hp Eb (by kernel_rfl)
def zdJ:Ap:=(369,[.int .i64 1,.sl 1 [.str K3,.str [116],.str K2,.str [107],.str K1,.str [106],.str K0,.str [109]] false],.sl 3 [.agg Hj,.agg Hi,.agg Hh,.agg Hg] false)
theorem e369_3:Aq zdJ:=At (n:=400) Hp Eb (by kernel_rfl)
def zdK:Ap:=(369,[.int .i64 1,.sl 1 [.str KZ,.str [114],.str CT,.str [105]] false],.sl 3 [.agg Hf,.agg He] false)
theorem e369_4:Aq zdK:=At (n:=400) Hp Eb (by kernel_rfl)
def zdL:Ap:=(369,[.int .i64 2,.sl 1 [.str [194,168],.str [101],.str Mr,.str [99]] false],.sl 3 [.agg IX,.agg IY] false)
theorem e369_5:Aq zdL:=At (n:=400) Hp Eb (by kernel_rfl)
def zdM:Ap:=(369,[.int .i64 3,.sl 1 [.str FQ,.str [115],.str FY,.str [122]] false],.sl 3 [.agg I4,.agg IZ] false)
theorem e369_6:Aq zdM:=At (n:=400) Hp Eb (by kernel_rfl)
def zdN:Ap:=(369,[.int .i64 4,.sl 1 [.str N5,.str [112],.str Dc,.str [119]] false],.sl 3 [.agg Lv,.agg Lu] false)
theorem e369_7:Aq zdN:=At (n:=400) Hp Eb (by kernel_rfl)
def zdO:Ap:=(369,[.int .i64 5,.sl 1 [.str [194,175],.str [104]] false],.sl 3 [.agg ye] false)
theorem e369_8:Aq zdO:=At (n:=400) Hp Eb (by kernel_rfl)
def zdP:Ap:=(369,[.int .i64 6,.sl 1 [.str [226,141,157],.str [98]] false],.sl 3 [.agg SX] false)
theorem e369_9:Aq zdP:=At (n:=400) Hp Eb (by kernel_rfl)
def knf:DS :=
 zdG :: zdH :: zdI :: zdJ :: zdK :: zdL :: zdM :: zdN :: zdO :: zdP :: []
theorem KK:Dk BB Br knf:=Ao e369_0<|Ao e369_1<|Ao e369_2<|Ao e369_3<|Ao e369_4<|Ao e369_5<|Ao e369_6<|Ao e369_7<|Ao e369_8<|Ao e369_9<|Hp
end Go.Ab.mm
namespace Go.Ab.mm
open Go Go.Ab
def zdQ:Ap:=(368,[.int .i64 1,.sl 1 [.str [124],.str [61]] false],.sl 3 [.agg Fs,.agg Fq] false)
theorem e368_0:Aq zdQ:=At (n:=400) KK Eb (by kernel_rfl)
def zdR:Ap:=(368,[.int .i64 1,.sl 1 [.str [126]] false],.sl 3 [.agg Gq] false)
theorem e368_1:Aq zdR:=At (n:=400) KK Eb (by kernel_rfl)
def zdS:Ap:=(368,[.int .i64 1,.sl 1 [.str [43],.str [45]] false],.sl 3 [.agg Fp,.agg Fm] false)
theorem e368_2:Aq zdS:=At (n:=400) KK Eb (by kernel_rfl)
def zdT:Ap:=(368,[.int .i64 1,.sl 1 [.str [44]] false],.sl 3 [.agg Hc] false)
theorem e368_3:Aq zdT:=At (n:=400) KK Eb (by kernel_rfl)
def zdU:Ap:=(368,[.int .i64 1,.sl 1 [.str [60],.str [62]] false],.sl 3 [.agg Gp,.agg Gn] false)
theorem e368_4:Aq zdU:=At (n:=400) KK Eb (by kernel_rfl)
def zdV:Ap:=(368,[.int .i64 2,.sl 1 [.str [47],.str [92]] false],.sl 3 [.agg IW,.agg IV] false)
theorem e368_5:Aq zdV:=At (n:=400) KK Eb (by kernel_rfl)
def zdW:Ap:=(368,[.int .i64 3,.sl 1 [.str [58],.str [123],.str [125],.str [40],.str [41]] false],.sl 3 [.agg Lp,.agg Lr,.agg Lq,.agg Lo,.agg Ln] false)
theorem e368_6:Aq zdW:=At (n:=400) KK Eb (by kernel_rfl)
def J5:DS :=
 zdQ :: zdR :: zdS :: zdT :: zdU :: zdV :: zdW :: knf
theorem BG:Dk BB Br J5:=Ao e368_0<|Ao e368_1<|Ao e368_2<|Ao e368_3<|Ao e368_4<|Ao e368_5<|Ao e368_6<|KK
end Go.Ab.mm
namespace Go.Ab.mm
open Go Go.Ab
def NY:F9:=(366,[.cells 0 K4,.cells 0 [.int .u32 0,.int .i32 1,.int .u32 0,.mu,.ni]],[.ref (0,0) 0],⟨73,[],73,[(0,[.cells 0 K4,.cells 0 [.int .u32 0,.int .i32 1,.int .u32 0,.arr (0,2) 3 0 38,.mp (2,0)],.arr 3 0 zk8]),(2,[.map [.str [43],.agg Fp,.str [45],.agg Fm,.str [195,151],.agg Fu,.str [195,183],.agg Ft,.str IK,.agg Fx,.str IJ,.agg Fw,.str [124],.agg Fs,.str [61],.agg Fq,.str II,.agg Fv,.str [60],.agg Gp,.str [62],.agg Gn,.str JL,.agg Gv,.str JK,.agg Gu,.str JJ,.agg Gs,.str JI,.agg Gt,.str [126],.agg Gq,.str KZ,.agg Hf,.str CT,.agg He,.str [44],.agg Hc,.str K3,.agg Hj,.str K2,.agg Hi,.str K1,.agg Hh,.str K0,.agg Hg,.str [47],.agg IW,.str [92],.agg IV,.str [194,168],.agg IX,.str Mr,.agg IY,.str FQ,.agg I4,.str FY,.agg IZ,.str [58],.agg Lp,.str [123],.agg Lr,.str [125],.agg Lq,.str [40],.agg Lo,.str [41],.agg Ln,.str N5,.agg Lv,.str Dc,.agg Lu,.str [194,175],.agg ye,.str [226,141,157],.agg SX]])],73,[(0,.arr (0,0) 1 0 0),(1,.arr (0,1) 1 0 0)]⟩,.mn [])
def Zy:Ss:=⟨73,[(0,.ref (0,0) 0)],73,[(0,[.cells 0 K4,.cells 0 [.int .u32 0,.int .i32 1,.int .u32 0,.arr (0,2) 3 0 9,.mp (2,0)],.arr 3 0 [.agg Fp,.agg Fm,.agg Fu,.agg Ft,.agg Fx,.agg Fw,.agg Fs,.agg Fq,.agg Fv]]),(2,[.map [.str [43],.agg Fp,.str [45],.agg Fm,.str [195,151],.agg Fu,.str [195,183],.agg Ft,.str IK,.agg Fx,.str IJ,.agg Fw,.str [124],.agg Fs,.str [61],.agg Fq,.str II,.agg Fv]])],73,[(0,.arr (0,0) 1 0 0),(1,.arr (0,1) 1 0 0)]⟩
def Zx:Ss:=⟨73,[(0,.ref (0,0) 0)],73,[(0,[.cells 0 K4,.cells 0 [.int .u32 0,.int .i32 1,.int .u32 0,.arr (0,2) 3 0 16,.mp (2,0)],.arr 3 0 [.agg Fp,.agg Fm,.agg Fu,.agg Ft,.agg Fx,.agg Fw,.agg Fs,.agg Fq,.agg Fv,.agg Gp,.agg Gn,.agg Gv,.agg Gu,.agg Gs,.agg Gt,.agg Gq]]),(2,[.map [.str [43],.agg Fp,.str [45],.agg Fm,.str [195,151],.agg Fu,.str [195,183],.agg Ft,.str IK,.agg Fx,.str IJ,.agg Fw,.str [124],.agg Fs,.str [61],.agg Fq,.str II,.agg Fv,.str [60],.agg Gp,.str [62],.agg Gn,.str JL,.agg Gv,.str JK,.agg Gu,.str JJ,.agg Gs,.str JI,.agg Gt,.str [126],.agg Gq]])],73,[(0,.arr (0,0) 1 0 0),(1,.arr (0,1) 1 0 0)]⟩
def Zw:Ss:=⟨73,[(0,.ref (0,0) 0)],73,[(0,[.cells 0 K4,.cells 0 [.int .u32 0,.int .i32 1,.int .u32 0,.arr (0,2) 3 0 23,.mp (2,0)],.arr 3 0 [.agg Fp,.agg Fm,.agg Fu,.agg Ft,.agg Fx,.agg Fw,.agg Fs,.agg Fq,.agg Fv,.agg Gp,.agg Gn,.agg Gv,.agg Gu,.agg Gs,.agg Gt,.agg Gq,.agg Hf,.agg He,.agg Hc,.agg Hj,.agg Hi,.agg Hh,.agg Hg]]),(2,[.map [.str [43],.agg Fp,.str [45],.agg Fm,.str [195,151],.agg Fu,.str [195,183],.agg Ft,.str IK,.agg Fx,.str IJ,.agg Fw,.str [124],.agg Fs,.str [61],.agg Fq,.str II,.agg Fv,.str [60],.agg Gp,.str [62],.agg Gn,.str JL,.agg Gv,.str JK,.agg Gu,.str JJ,.agg Gs,.str JI,.agg Gt,.str [126],.agg Gq,.str KZ,.agg Hf,.str CT,.agg He,.str [44],.agg Hc,.str K3,.agg Hj,.str K2,.agg Hi,.str K1,.agg Hh,.str K0,.agg Hg]])],73,[(0,.arr (0,0) 1 0 0),(1,.arr (0,1) 1 0 0)]⟩
def Zv:Ss:=⟨73,[(0,.ref (0,0) 0)],73,[(0,[.cells 0 K4,.cells 0 [.int .u32 0,.int .i32 1,.int .u32 0,.arr (0,2) 3 0 29,.mp (2,0)],.arr 3 0 [.agg Fp,.agg Fm,.agg Fu,.agg Ft,.agg Fx,.agg Fw,.agg Fs,.agg Fq,.agg Fv,.agg Gp,.agg Gn,.agg Gv,.agg Gu,.agg Gs,.agg Gt,.agg Gq,.agg Hf,.agg He,.agg Hc,.agg Hj,.agg Hi,.agg Hh,.agg Hg,.agg IW,.agg IV,.agg IX,.agg IY,.agg I4,.agg IZ]]),(2,[.map [.str [43],.agg Fp,.str [45],.agg Fm,.str [195,151],.agg Fu,.str [195,183],.agg Ft,.str IK,.agg Fx,.str IJ,.agg Fw,.str [124],.agg Fs,.str [61],.agg Fq,.str II,.agg Fv,.str [60],.agg Gp,.str [62],.agg Gn,.str JL,.agg Gv,.str JK,.agg Gu,.str JJ,.agg Gs,.str JI,.agg Gt,.str [126],.agg Gq,.str KZ,.agg Hf,.str CT,.agg He,.str [44],.agg Hc,.str K3,.agg Hj,.str K2,.agg Hi,.str K1,.agg Hh,.str K0,.agg Hg,.str [47],.agg IW,.str [92],.agg IV,.str [194,168],.agg IX,.str Mr,.agg IY,.str FQ,.agg I4,.str FY,.agg IZ]])],73,[(0,.arr (0,0) 1 0 0),(1,.arr (0,1) 1 0 0)]⟩
def Zu:Ss:=⟨73,[(0,.ref (0,0) 0)],73,[(0,[.cells 0 K4,.cells 0 [.int .u32 0,.int .i32 1,.int .u32 0,.arr (0,2) 3 0 36,.mp (2,0)],.arr 3 0 [.agg Fp,.agg Fm,.agg Fu,.agg Ft,.agg Fx,.agg Fw,.agg Fs,.agg Fq,.agg Fv,.agg Gp,.agg Gn,.agg Gv,.agg Gu,.agg Gs,.agg Gt,.agg Gq,.agg Hf,.agg He,.agg Hc,.agg Hj,.agg Hi,.agg Hh,.agg Hg,.agg IW,.agg IV,.agg IX,.agg IY,.agg I4,.agg IZ,.agg Lp,.agg Lr,.agg Lq,.agg Lo,.agg Ln,.agg Lv,.agg Lu]]),(2,[.map [.str [43],.agg Fp,.str [45],.agg Fm,.str [195,151],.agg Fu,.str [195,183],.agg Ft,.str IK,.agg Fx,.str IJ,.agg Fw,.str [124],.agg Fs,.str [61],.agg Fq,.str II,.agg Fv,.str [60],.agg Gp,.str [62],.agg Gn,.str JL,.agg Gv,.str JK,.agg Gu,.str JJ,.agg Gs,.str JI,.agg Gt,.str [126],.agg Gq,.str KZ,.agg Hf,.str CT,.agg He,.str [44],.agg Hc,.str K3,.agg Hj,.str K2,.agg Hi,.str K1,.agg Hh,.str K0,.agg Hg,.str [47],.agg IW,.str [92],.agg IV,.str [194,168],.agg IX,.str Mr,.agg IY,.str FQ,.agg I4,.str FY,.agg IZ,.str [58],.agg Lp,.str [123],.agg Lr,.str [125],.agg Lq,.str [40],.agg Lo,.str [41],.agg Ln,.str N5,.agg Lv,.str Dc,.agg Lu]])],73,[(0,.arr (0,0) 1 0 0),(1,.arr (0,1) 1 0 0)]⟩
def Zt:Ss:=⟨73,[(0,.ref (0,0) 0)],73,[(0,[.cells 0 K4,.cells 0 [.int .u32 0,.int .i32 1,.int .u32 0,.arr (0,2) 3 0 37,.mp (2,0)],.arr 3 0 [.agg Fp,.agg Fm,.agg Fu,.agg Ft,.agg Fx,.agg Fw,.agg Fs,.agg Fq,.agg Fv,.agg Gp,.agg Gn,.agg Gv,.agg Gu,.agg Gs,.agg Gt,.agg Gq,.agg Hf,.agg He,.agg Hc,.agg Hj,.agg Hi,.agg Hh,.agg Hg,.agg IW,.agg IV,.agg IX,.agg IY,.agg I4,.agg IZ,.agg Lp,.agg Lr,.agg Lq,.agg Lo,.agg Ln,.agg Lv,.agg Lu,.agg ye]]),(2,[.map [.str [43],.agg Fp,.str [45],.agg Fm,.str [195,151],.agg Fu,.str [195,183],.agg Ft,.str IK,.agg Fx,.str IJ,.agg Fw,.str [124],.agg Fs,.str [61],.agg Fq,.str II,.agg Fv,.str [60],.agg Gp,.str [62],.agg Gn,.str JL,.agg Gv,.str JK,.agg Gu,.str JJ,.agg Gs,.str JI,.agg Gt,.str [126],.agg Gq,.str KZ,.agg Hf,.str CT,.agg He,.str [44],.agg Hc,.str K3,.agg Hj,.str K2,.agg Hi,.str K1,.agg Hh,.str K0,.agg Hg,.str [47],.agg IW,.str [92],.agg IV,.str [194,168],.agg IX,.str Mr,.agg IY,.str FQ,.agg I4,.str FY,.agg IZ,.str [58],.agg Lp,.str [123],.agg Lr,.str [125],.agg Lq,.str [40],.agg Lo,.str [41],.agg Ln,.str N5,.agg Lv,.str Dc,.agg Lu,.str [194,175],.agg ye]])],73,[(0,.arr (0,0) 1 0 0),(1,.arr (0,1) 1 0 0)]⟩
end Go.Ab.mm

