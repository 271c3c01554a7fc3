/-
  Part 5 of a proof: a machine of our own for the given program, its laws, and what it says of the program. Nothing here is a claim by itself.
-/
import Derived.Test.YtbeonejdegijfaaGreatDoorK04
import Derived.Test.YtbeonejdegijfaaGreatDoorProg
import Derived.Test.YtbeonejdegijfaaGreatDoorK01
import Derived.KernelRfl
import Derived.IntWalk
import Derived.Lib.Replace
import Derived.Lib.ItoaNum
import Derived.Lib.Mul64
import Derived.Lib.EndianBits
set_option linter.all false

namespace Go.Ab
open Go
def Qt:EH:=Uh [1,2] 265
def Ot:Hint:=[(5,3,some [(7,1)],false)]
noncomputable def mkF (io shut leans:Bool) (gone:List Nat) (nt:Nat) (f:FuncId):At:={nt,code:=((Li Go.Proofs.Tryz.prog Qt (OR Ot Go.Proofs.Tryz.prog f) f).getD default).code,res:=((Li Go.Proofs.Tryz.prog Qt (OR Ot Go.Proofs.Tryz.prog f) f).getD default).res,io,shut,leans,gone}
theorem AM {io shut leans:Bool} {gone:List Nat} {nt:Nat} {f:FuncId} (h:(Li Go.Proofs.Tryz.prog Qt (OR Ot Go.Proofs.Tryz.prog f) f).map (·.nt)=some nt):Li Go.Proofs.Tryz.prog Qt (OR Ot Go.Proofs.Tryz.prog f) f=some {mkF io shut leans gone nt f with io:=false,shut:=false,leans:=false,gone:=[]}:=by
 obtain⟨fn,h1,rfl⟩:=bD.1 h;unfold mkF;rw[h1];have h2:=h1;unfold Li at h2;split at h2
 ·split at h2
  ·split at h2;·cases h2
   ·cases h2;rfl
  ·cases h2
 ·cases h2
noncomputable def QU:At:=mkF true true false [] 8 191
noncomputable def QS:At:=mkF true true false [] 6 203
noncomputable def QR:At:=mkF true true false [] 6 204
noncomputable def QQ:At:=mkF true true false [] 10 205
noncomputable def fn219:At:=mkF false true false [] 4 219
noncomputable def QV:At:=mkF true true false [] 28 177
noncomputable def QT:At:=mkF true true false [] 21 192
noncomputable def QW:At:=mkF true true false [] 12 176
noncomputable def QY:At:=mkF true true false [] 17 148
noncomputable def fn49:At:=mkF true true false [] 12 49
noncomputable def fn84:At:=mkF true true false [] 57 84
noncomputable def fn89:At:=mkF true true false [] 17 89
noncomputable def fn85:At:=mkF true true false [] 14 85
noncomputable def fn88:At:=mkF true true false [] 14 88
noncomputable def Ka:At:=mkF true true false [] 34 86
noncomputable def HJ:At:=mkF true true false [] 21 48
noncomputable def fn19:At:=mkF false true false [] 13 19
noncomputable def fn21:At:=mkF false true false [] 13 21
noncomputable def fn23:At:=mkF false true false [] 13 23
noncomputable def fn7:At:=mkF false true false [] 83 7
noncomputable def fn8:At:=mkF false true false [] 105 8
noncomputable def fn14:At:=mkF false true false [] 8 14
noncomputable def fn13:At:=mkF false true false [] 18 13
noncomputable def fn16:At:=mkF false true false [] 22 16
noncomputable def fn26:At:=mkF false true false [] 24 26
noncomputable def fn27:At:=mkF false true false [] 24 27
noncomputable def fn25:At:=mkF false true true [] 5 25
noncomputable def fn35:At:=mkF false true false [] 7 35
noncomputable def fn36:At:=mkF false true false [] 56 36
noncomputable def fn41:At:=mkF false true false [] 7 41
noncomputable def fn42:At:=mkF false true false [] 101 42
noncomputable def fn52:At:=mkF false true false [] 26 52
noncomputable def fn53:At:=mkF false true false [] 6 53
noncomputable def fn54:At:=mkF false true false [] 17 54
noncomputable def fn55:At:=mkF false true false [] 9 55
noncomputable def fn56:At:=mkF false true false [] 5 56
noncomputable def fn57:At:=mkF false true false [] 4 57
noncomputable def fn58:At:=mkF false true true [] 88 58
noncomputable def fn59:At:=mkF false true false [] 9 59
noncomputable def fn62:At:=mkF false true false [] 17 62
noncomputable def fn63:At:=mkF false true false [] 9 63
noncomputable def fn64:At:=mkF false true false [] 11 64
noncomputable def fn65:At:=mkF false true false [] 31 65
noncomputable def fn76:At:=mkF false true false [] 38 76
noncomputable def fn77:At:=mkF false true false [] 6 77
noncomputable def fn78:At:=mkF false true false [] 36 78
noncomputable def fn87:At:=mkF false true false [] 4 87
noncomputable def fn91:At:=mkF false true false [] 19 91
noncomputable def fn92:At:=mkF false true false [] 13 92
noncomputable def fn93:At:=mkF false true false [] 20 93
noncomputable def fn94:At:=mkF false true false [] 11 94
noncomputable def fn149:At:=mkF false true false [] 4 149
noncomputable def fn150:At:=mkF false true false [] 13 150
noncomputable def fn151:At:=mkF false true false [] 27 151
noncomputable def fn179:At:=mkF false true false [] 19 179
noncomputable def fn141:At:=mkF false true false [] 21 141
noncomputable def fn142:At:=mkF false true false [] 16 142
noncomputable def fn12:At:=mkF false true false [] 15 12
noncomputable def fn100:At:=mkF false true false [] 5 100
noncomputable def fn101:At:=mkF false true false [] 10 101
noncomputable def fn102:At:=mkF false true false [] 36 102
noncomputable def fn103:At:=mkF false true false [] 11 103
noncomputable def fn104:At:=mkF false true false [] 4 104
noncomputable def fn105:At:=mkF false true false [] 10 105
noncomputable def fn106:At:=mkF false true false [] 56 106
noncomputable def fn107:At:=mkF false true false [] 18 107
noncomputable def fn108:At:=mkF false true true [] 21 108
noncomputable def fn109:At:=mkF false true false [] 13 109
noncomputable def fn110:At:=mkF false true false [] 16 110
noncomputable def fn132:At:=mkF false true false [] 36 132
noncomputable def fn133:At:=mkF false true false [] 51 133
noncomputable def fn134:At:=mkF false true false [] 43 134
noncomputable def fn135:At:=mkF false true false [] 11 135
noncomputable def fn136:At:=mkF false true false [] 11 136
noncomputable def fn137:At:=mkF false true false [] 10 137
noncomputable def fn138:At:=mkF false true false [] 66 138
noncomputable def fn139:At:=mkF false true false [] 10 139
noncomputable def fn140:At:=mkF false true false [] 41 140
noncomputable def fn170:At:=mkF false true false [] 51 170
noncomputable def fn171:At:=mkF false true false [] 10 171
noncomputable def fn5:At:=mkF false true false [] 167 5
noncomputable def fn6:At:=mkF false true false [] 115 6
noncomputable def fn34:At:=mkF false true false [] 29 34
noncomputable def fn37:At:=mkF false true false [] 33 37
noncomputable def fn43:At:=mkF false true false [] 38 43
noncomputable def fn60:At:=mkF false true false [] 34 60
noncomputable def fn61:At:=mkF false true false [] 10 61
noncomputable def fn66:At:=mkF false true false [] 10 66
noncomputable def fn67:At:=mkF false true false [] 6 67
noncomputable def fn68:At:=mkF false true false [] 9 68
noncomputable def fn75:At:=mkF false true false [] 29 75
noncomputable def fn96:At:=mkF true false false [] 19 96
noncomputable def fn97:At:=mkF false true false [] 11 97
noncomputable def fn98:At:=mkF false true false [] 6 98
noncomputable def fn111:At:=mkF false true false [] 13 111
noncomputable def fn112:At:=mkF false true false [] 59 112
noncomputable def fn113:At:=mkF false true false [] 44 113
noncomputable def fn114:At:=mkF false true false [] 56 114
noncomputable def fn115:At:=mkF false true false [] 8 115
noncomputable def fn116:At:=mkF false true true [] 9 116
noncomputable def fn117:At:=mkF false false false [] 13 117
noncomputable def fn118:At:=mkF false true false [] 73 118
noncomputable def fn119:At:=mkF false true false [] 11 119
noncomputable def fn120:At:=mkF false true false [] 53 120
noncomputable def fn121:At:=mkF false true false [] 17 121
noncomputable def fn122:At:=mkF false true false [] 72 122
noncomputable def fn123:At:=mkF false true false [] 47 123
noncomputable def fn124:At:=mkF false true false [] 8 124
noncomputable def fn125:At:=mkF false true false [] 6 125
noncomputable def fn126:At:=mkF false true false [] 11 126
noncomputable def fn127:At:=mkF false true false [] 9 127
noncomputable def fn128:At:=mkF false true false [] 6 128
noncomputable def fn160:At:=mkF false true true [] 5 160
noncomputable def fn161:At:=mkF false true false [] 32 161
noncomputable def fn162:At:=mkF false true false [] 20 162
noncomputable def fn163:At:=mkF false true false [] 19 163
noncomputable def fn164:At:=mkF false true false [] 11 164
noncomputable def fn165:At:=mkF false false false [] 36 165
noncomputable def QX:At:=mkF true false false [] 28 166
noncomputable def fn167:At:=mkF false true false [] 4 167
noncomputable def fn168:At:=mkF false true false [] 19 168
noncomputable def fn178:At:=mkF false true false [] 15 178
noncomputable def fn185:At:=mkF false false false [] 25 185
noncomputable def fn195:At:=mkF false false false [] 30 195
noncomputable def fn190:At:=mkF false false false [] 27 190
noncomputable def fn9:At:=mkF false true false [] 68 9
noncomputable def fn10:At:=mkF false true false [] 55 10
noncomputable def fn11:At:=mkF false true false [] 62 11
noncomputable def fn18:At:=mkF false true false [] 24 18
noncomputable def fn29:At:=mkF false true false [] 11 29
noncomputable def fn31:At:=mkF false true false [] 22 31
noncomputable def fn33:At:=mkF false true false [] 27 33
noncomputable def A1:FuncId->Option At
 | 191=>some QU
 | 203=>some QS
 | 204=>some QR
 | 205=>some QQ
 | 219=>some fn219
 | 177=>some QV
 | 192=>some QT
 | 176=>some QW
 | 148=>some QY
 | 49=>some fn49
 | 84=>some fn84
 | 89=>some fn89
 | 85=>some fn85
 | 88=>some fn88
 | 86=>some Ka
 | 48=>some HJ
 | 19=>some fn19
 | 21=>some fn21
 | 23=>some fn23
 | 7=>some fn7
 | 8=>some fn8
 | 14=>some fn14
 | 13=>some fn13
 | 16=>some fn16
 | 26=>some fn26
 | 27=>some fn27
 | 25=>some fn25
 | 35=>some fn35
 | 36=>some fn36
 | 41=>some fn41
 | 42=>some fn42
 | 52=>some fn52
 | 53=>some fn53
 | 54=>some fn54
 | 55=>some fn55
 | 56=>some fn56
 | 57=>some fn57
 | 58=>some fn58
 | 59=>some fn59
 | 62=>some fn62
 | 63=>some fn63
 | 64=>some fn64
 | 65=>some fn65
 | 76=>some fn76
 | 77=>some fn77
 | 78=>some fn78
 | 87=>some fn87
 | 91=>some fn91
 | 92=>some fn92
 | 93=>some fn93
 | 94=>some fn94
 | 149=>some fn149
 | 150=>some fn150
 | 151=>some fn151
 | 179=>some fn179
 | 141=>some fn141
 | 142=>some fn142
 | 12=>some fn12
 | 100=>some fn100
 | 101=>some fn101
 | 102=>some fn102
 | 103=>some fn103
 | 104=>some fn104
 | 105=>some fn105
 | 106=>some fn106
 | 107=>some fn107
 | 108=>some fn108
 | 109=>some fn109
 | 110=>some fn110
 | 132=>some fn132
 | 133=>some fn133
 | 134=>some fn134
 | 135=>some fn135
 | 136=>some fn136
 | 137=>some fn137
 | 138=>some fn138
 | 139=>some fn139
 | 140=>some fn140
 | 170=>some fn170
 | 171=>some fn171
 | 5=>some fn5
 | 6=>some fn6
 | 34=>some fn34
 | 37=>some fn37
 | 43=>some fn43
 | 60=>some fn60
 | 61=>some fn61
 | 66=>some fn66
 | 67=>some fn67
 | 68=>some fn68
 | 75=>some fn75
 | 96=>some fn96
 | 97=>some fn97
 | 98=>some fn98
 | 111=>some fn111
 | 112=>some fn112
 | 113=>some fn113
 | 114=>some fn114
 | 115=>some fn115
 | 116=>some fn116
 | 117=>some fn117
 | 118=>some fn118
 | 119=>some fn119
 | 120=>some fn120
 | 121=>some fn121
 | 122=>some fn122
 | 123=>some fn123
 | 124=>some fn124
 | 125=>some fn125
 | 126=>some fn126
 | 127=>some fn127
 | 128=>some fn128
 | 160=>some fn160
 | 161=>some fn161
 | 162=>some fn162
 | 163=>some fn163
 | 164=>some fn164
 | 165=>some fn165
 | 166=>some QX
 | 167=>some fn167
 | 168=>some fn168
 | 178=>some fn178
 | 185=>some fn185
 | 195=>some fn195
 | 190=>some fn190
 | 9=>some fn9
 | 10=>some fn10
 | 11=>some fn11
 | 18=>some fn18
 | 29=>some fn29
 | 31=>some fn31
 | 33=>some fn33
 | _=>none
end Go.Ab


set_option maxRecDepth 100000
namespace Go.Ab
open Go
def rsh0:FuncId->Bq×Bool
 | 25=>(.cl,false)
 | 58=>(.cl,false)
 | 108=>(.cl,false)
 | 116=>(.cl,false)
 | 117=>(.own 1,true)
 | 160=>(.cl,false)
 | 165=>(.own 1,true)
 | 190=>(.own 1,true)
 | _=>(.cl,true)
def Og:BK:={args:=[.cv (.bool false),.fn 1000084 [.ref (0,0) 0]],ins:=[.cells 0 [.cv (.bool false),.cv (.bool false),.cv (.bool false),.cv (.bool false),.cv (.bool false),.cv (.bool false),.cv (.bool false),.cv (.bool false)]],res:=.tup [.cv (.bool false),.cv (.bool false)],outs:=[.cells 0 [.cv (.bool false),.cv (.bool false),.cv (.bool false),.cv (.bool false),.cv (.bool false),.cv (.bool false),.cv (.bool false),.cv (.bool false)]],news:=[],gone:=[]}
def Of:BK:={args:=[.cv (.bool false),.fn 85 [.ref (0,0) 0]],ins:=[.cells 104 [.ref (0,1) 0],.cells 0 [.cv (.bool false),.cv (.bool false),.cv (.bool false),.cv (.bool false),.cv (.bool false),.cv (.bool false),.cv (.bool false),.cv (.bool false)]],res:=.tup [.cv (.bool false),.cv (.bool false)],outs:=[.cells 104 [.ref (0,1) 0],.cells 0 [.cv (.bool false),.cv (.bool false),.cv (.bool false),.cv (.bool false),.cv (.bool false),.cv (.bool false),.cv (.bool false),.cv (.bool false)]],news:=[],gone:=[]}
def Oe:BK:={args:=[.cv (.bool false),.fn 88 [.ref (0,0) 0]],ins:=[.cells 104 [.ref (0,1) 0],.cells 0 [.cv (.bool false),.cv (.bool false),.cv (.bool false),.cv (.bool false),.cv (.bool false),.cv (.bool false),.cv (.bool false),.cv (.bool false)]],res:=.tup [.cv (.bool false),.cv (.bool false)],outs:=[.cells 104 [.ref (0,1) 0],.cells 0 [.cv (.bool false),.cv (.bool false),.cv (.bool false),.cv (.bool false),.cv (.bool false),.cv (.bool false),.cv (.bool false),.cv (.bool false)]],news:=[],gone:=[]}
def K8:List KV->List Aj->BK
 | [_,.fn 1000084 _],_=>Og
 | [_,.fn 85 _],_=>Of
 | _,_=>Oe
def Lr:BK:={args:=[.cv (.bool false)],ins:=[],res:=.agg [.fn 1000084 [.ref (1,1) 0],.fn 85 [.ref (1,0) 0],.fn 88 [.ref (1,0) 0]],outs:=[],news:=[.cells 104 [.ref (1,1) 0],.cells 0 [.cv (.bool false),.cv (.bool false),.cv (.bool false),.cv (.bool false),.cv (.bool false),.cv (.bool false),.cv (.bool false),.cv (.bool false)]],gone:=[]}
def shs49:List KV->List Aj->BK
 | _,_=>Lr
def HD:BK:={args:=[.ref (0,0) 0,.cv (.bool false)],ins:=[.cells 0 [.cv (.bool false),.cv (.bool false),.cv (.bool false),.cv (.bool false),.cv (.bool false),.cv (.bool false),.cv (.bool false),.cv (.bool false)]],res:=.tup [.cv (.bool false),.cv (.bool false)],outs:=[.cells 0 [.cv (.bool false),.cv (.bool false),.cv (.bool false),.cv (.bool false),.cv (.bool false),.cv (.bool false),.cv (.bool false),.cv (.bool false)]],news:=[],gone:=[]}
def Qy:List KV->List Aj->BK
 | _,_=>HD
def sh85:BK:={args:=[.cv (.bool false),.ref (0,0) 0],ins:=[.cells 104 [.ref (0,1) 0],.cells 0 [.cv (.bool false),.cv (.bool false),.cv (.bool false),.cv (.bool false),.cv (.bool false),.cv (.bool false),.cv (.bool false),.cv (.bool false)]],res:=.tup [.cv (.bool false),.cv (.bool false)],outs:=[.cells 104 [.ref (0,1) 0],.cells 0 [.cv (.bool false),.cv (.bool false),.cv (.bool false),.cv (.bool false),.cv (.bool false),.cv (.bool false),.cv (.bool false),.cv (.bool false)]],news:=[],gone:=[]}
def shs85:List KV->List Aj->BK
 | _,_=>sh85
def Od:BK:={args:=[.cv (.bool false),.cv (.bool false),.fn 1000084 [.ref (0,0) 0]],ins:=[.cells 0 [.cv (.bool false),.cv (.bool false),.cv (.bool false),.cv (.bool false),.cv (.bool false),.cv (.bool false),.cv (.bool false),.cv (.bool false)]],res:=.tup [.cv (.bool false),.cv (.bool false)],outs:=[.cells 0 [.cv (.bool false),.cv (.bool false),.cv (.bool false),.cv (.bool false),.cv (.bool false),.cv (.bool false),.cv (.bool false),.cv (.bool false)]],news:=[],gone:=[]}
def Oc:BK:={args:=[.cv (.bool false),.cv (.bool false),.fn 1000089 [.ref (0,0) 0]],ins:=[.cells 0 [.cv (.bool false),.cv (.bool false),.cv (.bool false),.cv (.bool false),.cv (.bool false),.cv (.bool false),.cv (.bool false),.cv (.bool false)]],res:=.tup [.cv (.bool false),.cv (.bool false)],outs:=[.cells 0 [.cv (.bool false),.cv (.bool false),.cv (.bool false),.cv (.bool false),.cv (.bool false),.cv (.bool false),.cv (.bool false),.cv (.bool false)]],news:=[],gone:=[]}
def ME:List KV->List Aj->BK
 | [_,_,.fn 1000084 _],_=>Od
 | _,_=>Oc
def sh88:BK:={args:=[.cv (.bool false),.ref (0,0) 0],ins:=[.cells 104 [.ref (0,1) 0],.cells 0 [.cv (.bool false),.cv (.bool false),.cv (.bool false),.cv (.bool false),.cv (.bool false),.cv (.bool false),.cv (.bool false),.cv (.bool false)]],res:=.tup [.cv (.bool false),.cv (.bool false)],outs:=[.cells 104 [.ref (0,1) 0],.cells 0 [.cv (.bool false),.cv (.bool false),.cv (.bool false),.cv (.bool false),.cv (.bool false),.cv (.bool false),.cv (.bool false),.cv (.bool false)]],news:=[],gone:=[]}
def shs88:List KV->List Aj->BK
 | _,_=>sh88
def sh89:BK:={args:=[.ref (0,0) 0,.cv (.bool false)],ins:=[.cells 0 [.cv (.bool false),.cv (.bool false),.cv (.bool false),.cv (.bool false),.cv (.bool false),.cv (.bool false),.cv (.bool false),.cv (.bool false)]],res:=.tup [.cv (.bool false),.cv (.bool false)],outs:=[.cells 0 [.cv (.bool false),.cv (.bool false),.cv (.bool false),.cv (.bool false),.cv (.bool false),.cv (.bool false),.cv (.bool false),.cv (.bool false)]],news:=[],gone:=[]}
def shs89:List KV->List Aj->BK
 | _,_=>sh89
def sh96:BK:={args:=[],ins:=[],res:=.un,outs:=[],news:=[],gone:=[]}
def shs96:List KV->List Aj->BK
 | _,_=>sh96
def OI:BK:={args:=[.ref (0,0) 0],ins:=[.cells 0 [.cv (.bool false),.cv (.bool false),.cv (.bool false),.cv (.bool false),.cv (.bool false),.cv (.bool false),.cv (.bool false),.cv (.bool false)]],res:=.tup [.cv (.bool false),.cv (.bool false)],outs:=[.cells 0 [.cv (.bool false),.cv (.bool false),.cv (.bool false),.cv (.bool false),.cv (.bool false),.cv (.bool false),.cv (.bool false),.cv (.bool false)]],news:=[],gone:=[]}
def TW:List KV->List Aj->BK
 | _,_=>OI
def OH:BK:={args:=[.arr (0,0) 1 0 0],ins:=[.arr 1 0 []],res:=.tup [],outs:=[.arr 1 0 []],news:=[],gone:=[]}
def TV:List KV->List Aj->BK
 | _,_=>OH
def OG:BK:={args:=[.ref (0,1) 0,.fn 177 [.ref (0,0) 0]],ins:=[.cells 0 [.ref (0,1) 0],.cells 0 [.cv (.bool false),.cv (.bool false),.cv (.bool false),.cv (.bool false),.cv (.bool false),.cv (.bool false),.cv (.bool false),.cv (.bool false)]],res:=.tup [],outs:=[.cells 0 [.ref (0,1) 0],.cells 0 [.cv (.bool false),.cv (.bool false),.cv (.bool false),.cv (.bool false),.cv (.bool false),.cv (.bool false),.cv (.bool false),.cv (.bool false)]],news:=[],gone:=[]}
def TU:List KV->List Aj->BK
 | _,_=>OG
def OF:BK:={args:=[.ref (0,0) 0],ins:=[.cells 0 [.ref (0,1) 0],.cells 0 [.cv (.bool false),.cv (.bool false),.cv (.bool false),.cv (.bool false),.cv (.bool false),.cv (.bool false),.cv (.bool false),.cv (.bool false)]],res:=.tup [],outs:=[.cells 0 [.ref (0,1) 0],.cells 0 [.cv (.bool false),.cv (.bool false),.cv (.bool false),.cv (.bool false),.cv (.bool false),.cv (.bool false),.cv (.bool false),.cv (.bool false)]],news:=[],gone:=[]}
def TT:List KV->List Aj->BK
 | _,_=>OF
def MG:BK:={args:=[.ref (0,0) 0],ins:=[.cells 0 [.cv (.bool false),.cv (.bool false),.cv (.bool false),.cv (.bool false),.cv (.bool false),.cv (.bool false),.cv (.bool false),.cv (.bool false)]],res:=.cv (.bool false),outs:=[.cells 0 [.cv (.bool false),.cv (.bool false),.cv (.bool false),.cv (.bool false),.cv (.bool false),.cv (.bool false),.cv (.bool false),.cv (.bool false)]],news:=[],gone:=[]}
def TS:List KV->List Aj->BK
 | _,_=>MG
def OE:BK:={args:=[.ref (0,1) 0,.fn 177 [.ref (0,0) 0]],ins:=[.cells 0 [.ref (0,1) 0],.cells 0 [.cv (.bool false),.cv (.bool false),.cv (.bool false),.cv (.bool false),.cv (.bool false),.cv (.bool false),.cv (.bool false),.cv (.bool false)]],res:=.tup [],outs:=[.cells 0 [.ref (0,1) 0],.cells 0 [.cv (.bool false),.cv (.bool false),.cv (.bool false),.cv (.bool false),.cv (.bool false),.cv (.bool false),.cv (.bool false),.cv (.bool false)]],news:=[],gone:=[]}
def TR:List KV->List Aj->BK
 | _,_=>OE
def OD:BK:={args:=[.ref (0,0) 1],ins:=[.cells 0 [.cv (.bool false),.cv (.bool false),.cv (.bool false),.cv (.bool false),.cv (.bool false),.cv (.bool false),.cv (.bool false),.cv (.bool false)]],res:=.tup [],outs:=[.cells 0 [.cv (.bool false),.cv (.bool false),.cv (.bool false),.cv (.bool false),.cv (.bool false),.cv (.bool false),.cv (.bool false),.cv (.bool false)]],news:=[],gone:=[]}
def TQ:List KV->List Aj->BK
 | _,_=>OD
def MF:BK:={args:=[.ref (0,0) 1],ins:=[.cells 0 [.cv (.bool false),.cv (.bool false),.cv (.bool false),.cv (.bool false),.cv (.bool false),.cv (.bool false),.cv (.bool false),.cv (.bool false)]],res:=.tup [],outs:=[.cells 0 [.cv (.bool false),.cv (.bool false),.cv (.bool false),.cv (.bool false),.cv (.bool false),.cv (.bool false),.cv (.bool false),.cv (.bool false)]],news:=[],gone:=[]}
def TP:List KV->List Aj->BK
 | _,_=>MF
def OC:BK:={args:=[.ref (0,0) 0,.cv (.bool false)],ins:=[.cells 0 [.cv (.bool false),.cv (.bool false),.cv (.bool false),.cv (.bool false),.cv (.bool false),.cv (.bool false),.cv (.bool false),.cv (.bool false)]],res:=.tup [],outs:=[.cells 0 [.cv (.bool false),.cv (.bool false),.cv (.bool false),.cv (.bool false),.cv (.bool false),.cv (.bool false),.cv (.bool false),.cv (.bool false)]],news:=[],gone:=[]}
def TO:List KV->List Aj->BK
 | _,_=>OC
def iof0:FuncId->Option (List KV->List Aj->BK)
 | 48=>some K8
 | 49=>some shs49
 | 84=>some Qy
 | 85=>some shs85
 | 86=>some ME
 | 88=>some shs88
 | 89=>some shs89
 | 96=>some shs96
 | 148=>some TW
 | 166=>some TV
 | 176=>some TU
 | 177=>some TT
 | 191=>some TS
 | 192=>some TR
 | 203=>some TQ
 | 204=>some TP
 | 205=>some TO
 | _=>none
def AI (b:KB) (dsh:Nat->Bq):Dx:={b,rsh:=rsh0,spF:=fun f=>f==95||f==159||f==157||f==158||f==156||f==99||f==202||f==218||f==216||f==217||f==190,asT:=fun f p=>if f=95/\p=126 then some (124,1) else if f=95/\p=146 then some (145,1) else if f=95/\p=154 then some (153,1) else if f=95/\p=182 then some (143,1) else none,dsh,ioF:=iof0,spK:=fun f=>if f=202 then some (kLoad .u32) else if f=218 then some (Uf .u32) else if f=216 then some (QN .i32 0 1) else if f=217 then some (QN .i32 1 0) else none,flatF:=fun f=>f==204||f==205}
theorem run191 (B:KB) (x0:PV) (x1:PV) (x2:PV) (x3:PV) (x4:PV) (x5:PV) (x6:PV) (x7:PV) :
  CG (AI B (fun _=>.cl)) QU MG [x0,x1,x2,x3,x4,x5,x6,x7] =
  Ae (IA .u32 x0) (Ac (Ad (.bin .neq .num true (.c x0) (.c (.int .u32 0)))) (fun z1=>some [z1,x0,x1,x2,x3,x4,x5,x6,x7])):=by kernel_rfl
theorem run203 (B:KB) (x0:PV) (x1:PV) (x2:PV) (x3:PV) (x4:PV) (x5:PV) (x6:PV) (x7:PV) :
  CG (AI B (fun _=>.cl)) QS OD [x0,x1,x2,x3,x4,x5,x6,x7] =
  Ae (Oq .i32 0 x1) (some [x0,.int .i32 1,x2,x3,x4,x5,x6,x7]):=by kernel_rfl
theorem run204 (B:KB) (x0:PV) (x1:PV) (x2:PV) (x3:PV) (x4:PV) (x5:PV) (x6:PV) (x7:PV) :
  CG (AI B (fun _=>.cl)) QR MF [x0,x1,x2,x3,x4,x5,x6,x7] =
  Ae (Oq .i32 1 x1) (some [x0,.int .i32 0,x2,x3,x4,x5,x6,x7]):=by kernel_rfl
theorem run205 (B:KB) (x0:PV) (x1:PV) (x2:PV) (x3:PV) (x4:PV) (x5:PV) (x6:PV) (x7:PV) (x8:PV) :
  CG (AI B (fun _=>.cl)) QQ OC [x0,x1,x2,x3,x4,x5,x6,x7,x8] =
  Ac (Al B .cl (.fn 219 []) [x0]) (fun z1=>Ae (BG (IA .u32 x1) (IA .u32 z1)) (some [z1,x2,x3,x4,x5,x6,x7,x8])):=by kernel_rfl
theorem run219 (B:KB) {E:Type} (h:Ay E) (dep:Nat) (e:E) (x0:PV) :
  AR (AI B (fun _=>.cl)) fn219 (.cl) h dep [.cv x0] e =
  Ar x0 (some (.int .u32 1,e)) (some (.int .u32 0,e)):=by kernel_rfl
theorem run177 (B:KB) (x0:PV) (x1:PV) (x2:PV) (x3:PV) (x4:PV) (x5:PV) (x6:PV) (x7:PV) :
  CG (AI B (fun _=>.cl)) QV OF [x0,x1,x2,x3,x4,x5,x6,x7] =
  Ac (Al B .cl (.fn 178 []) [x3]) (fun z1=>Ac (Ad (.extract 0 (.c z1))) (fun z2=>Ac (Ad (.extract 1 (.c z1))) (fun z3=>Ae (AY 1 [z2]) (Ac (Ad (.un
  .not (.c z3))) (fun z4=>Ar z4 (Ac (Ad (.build [.int .i64 0] [(0,(1,.c (.int .i64 102)))])) (fun z5=>Ae (AF (.iface 124 z5) 1) (some [x0,x1,x2,x3,.bool
  false,.bool false,.nilS,Ah (.iface 124 z5) 0]))) none))))):=by kernel_rfl
theorem run192 (B:KB) (x0:PV) (x1:PV) (x2:PV) (x3:PV) (x4:PV) (x5:PV) (x6:PV) (x7:PV) :
  CG (AI B (fun _=>.cl)) QT OE [x0,x1,x2,x3,x4,x5,x6,x7] =
  Ac (Bx B OD 203 [x0,x1,x2,x3,x4,x5,x6,x7]) (fun z1=>Ac (Bx B MG 191 [Aa z1 0,Aa z1 1,Aa z1 2,Aa z1 3,Aa z1 4,Aa z1 5,Aa z1 6,
  Aa z1 7]) (fun z2=>Ac (Ad (.un .not (.c (Aa z2 0)))) (fun z3=>Ar z3 (Ac (Bx B OF 177 [Aa z2 1,Aa z2 2,
  Aa z2 3,Aa z2 4,Aa z2 5,Aa z2 6,Aa z2 7,Aa z2 8]) (fun z4=>Ac (Bx B OC 205 [.bool true,Aa z4 0,Aa z4 1,Aa z4 2,Aa z4 3,Aa z4 4,
  Aa z4 5,Aa z4 6,Aa z4 7]) (fun z5=>Ac (Bx B MF 204 [Aa z5 0,Aa z5 1,Aa z5 2,Aa z5 3,Aa z5 4,Aa z5 5,Aa z5 6,Aa z5 7]) (fun z6=>some [Aa
  z6 0,Aa z6 1,Aa z6 2,Aa z6 3,Aa z6 4,Aa z6 5,Aa z6 6,Aa z6 7])))) (Ac (Bx B MF 204 [Aa z2 1,Aa z2 2,Aa z2 3,Aa z2 4,Aa z2 5,Aa z2 6,Aa
  z2 7,Aa z2 8]) (fun z7=>some [Aa z7 0,Aa z7 1,Aa z7 2,Aa z7 3,Aa z7 4,Aa z7 5,Aa z7 6,Aa z7 7]))))):=by kernel_rfl
theorem run176 (B:KB) (x0:PV) (x1:PV) (x2:PV) (x3:PV) (x4:PV) (x5:PV) (x6:PV) (x7:PV) :
  CG (AI B (fun _=>.cl)) QW OG [x0,x1,x2,x3,x4,x5,x6,x7] =
  Ac (Bx B MG 191 [x0,x1,x2,x3,x4,x5,x6,x7]) (fun z1=>Ac (Ad (.un .not (.c (Aa z1 0)))) (fun z2=>Ar z2 (Ac (Bx B OE 192 [Aa z1 1,Aa z1 2,Aa z1 3,Aa z1 4,Aa z1 5,Aa z1 6,Aa z1 7,Aa z1 8]) (fun z3=>some [Aa z3 0,Aa z3
  1,Aa z3 2,Aa z3 3,Aa z3 4,Aa z3 5,Aa z3 6,Aa z3 7])) (some [Aa z1 1,Aa z1 2,Aa z1 3,Aa z1 4,Aa z1 5,Aa z1 6,Aa z1 7,Aa z1 8]))):=by kernel_rfl
theorem run148 (B:KB) (x0:PV) (x1:PV) (x2:PV) (x3:PV) (x4:PV) (x5:PV) (x6:PV) (x7:PV) :
  CG (AI B (fun _=>.cl)) QY OI [x0,x1,x2,x3,x4,x5,x6,x7] =
  Ac (Bx B OG 176 [x0,x1,x2,x3,x4,x5,x6,x7]) (fun z1=>some [.agg [Aa z1 4,Aa z1 5,
  Aa z1 6],Aa z1 7,Aa z1 0,Aa z1 1,Aa z1 2,Aa z1 3,Aa z1 4,Aa z1 5,Aa z1 6,Aa z1 7]):=by kernel_rfl
theorem run49 (B:KB) (x0:PV) :
  CG (AI B (fun _=>.cl)) fn49 Lr [x0] =
  Ae (AF x0 1) (some [.int .u32 0,.int .i32 0,.int .u32 0,Ah x0 0,.bool false,.bool false,.nilS,.nilI]):=by kernel_rfl
theorem run84 (B:KB) (x0:PV) (x1:PV) (x2:PV) (x3:PV) (x4:PV) (x5:PV) (x6:PV) (x7:PV) (x8:PV) :
  CG (AI B (fun _=>.cl)) fn84 HD [x0,x1,x2,x3,x4,x5,x6,x7,x8] =
  Ae (A3 x0) (Ac (Am x0 2 1 false) (fun z1=>Ac (Ad (.len .slice (.c z1))) (fun z2=>Ac (Ad (.bin .eql .num true (.c z2) (.c (.int .i64 0)))) (fun z3=>Ar
  z3 (Ac (Bx B OI 148 [x1,x2,x3,x4,x5,x6,x7,x8]) (fun z4=>Ae (AF (Aa z4 0) 3) (Ae (AF (Aa z4 1) 1) (some
  [.agg [Ah (Aa z4 0) 0,Ah (Aa z4 0) 1,Ah (Aa z4 0) 2],Ah (Aa z4 1) 0,Aa z4 2,Aa z4 3,Aa z4 4,Aa z4 5,Aa z4 6,Aa z4 7,Aa z4 8,Aa z4 9])))) (Ac
  (Am x0 0 3 true) (fun z5=>Ac (Ad (.build [.bool false,.bool false,.nilS] [(0,(3,.c z5))])) (fun z6=>Ac (Al B .cl (.fn 57 []) [z6]) (fun z7=>Ac (Al B
  .cl (.fn 56 []) [z7]) (fun z8=>Ac (Ad (.len .slice (.c z8))) (fun z9=>Ac (Ad (.bin .sub .num true (.c z9) (.c (.int .i64 1)))) (fun z10=>Ac (Ad (.idxAddr 3
  (.c z8) (.c z10))) (fun z11=>Ac (Ad (.load 3 true (.c z11))) (fun z12=>Ae (AF z12 3) (Ac (Ad (.len .slice (.c z8))) (fun z13=>Ac (Ad (.bin .sub .num
  true (.c z13) (.c (.int .i64 1)))) (fun z14=>Ac (Ad (.slice 3 (.c z8) none (some (.c z14)) none)) (fun z15=>Ac (Al B .cl (.fn 149 []) [z15]) (fun z16=>Ac
  (CP B (DC 0 (fun z17=>fun z18=>fun z19=>none) (fun z20=>fun z21=>fun z22=>Ae (DQ z21 2) (Ae (AF (Aa z21 1) 3) (Ac (Al B .cl (.fn 16 [])
  [Aa z20 4,.agg [Ah (Aa z21 1) 0,Ah (Aa z21 1) 1,Ah (Aa z21 1) 2],.agg [Aa z20 13,Aa z20 14,Aa z20 15]]) (fun z23=>Ac (Ad (.extract 0 (.c z23))) (fun
  z24=>Ac (Ad (.extract 1 (.c z23))) (fun z25=>Ac (Al B .cl (.fn 150 []) [z24,z25]) (fun z26=>Ac (Ad (.extract 0 (.c z26))) (fun z27=>Ac (Ad
  (.extract 1 (.c z26))) (fun z28=>Ae (AF z27 3) (Ac (Ad (.bin .neq .iface true (.c z28) (.c .nilI))) (fun z29=>Ar z29 (Ae (AF z28 1) (some (false,([Aa
  z20 0,Aa z20 1,Aa z20 2,Aa z20 3,Aa z20 4,Aa z20 5,Aa z20 6,Aa z20 7,Aa z20 8,.bool false,.bool false,.nilS,Ah z28 0,Aa z20 13,Aa z20 14,Aa z20 15],
  (some .ret,z22))))) (some (true,([Aa z20 0,Aa z20 1,Aa z20 2,Aa z20 3,Aa z20 4,Aa z20 5,Aa z20 6,Aa z20 7,Aa z20 8,Aa z20 9,Aa z20 10,Aa z20 11,Aa z20
  12,Ah z27 0,Ah z27 1,Ah z27 2],(none,z22)))))))))))))))) 0 z16 ([z16,x1,x2,x3,x4,x5,x6,x7,x8,.bool false,.bool false,.nilS,.nilI,Ah z12 0,Ah z12
  1,Ah z12 2],(none,()))) (fun z30=>B9 (F8 z30.2.1) (Ae (AF .nilI 1) (some [.agg [Aa z30.1 13,Aa z30.1 14,Aa z30.1 15],Ah .nilI 0,Aa z30.1 1,Aa
  z30.1 2,Aa z30.1 3,Aa z30.1 4,Aa z30.1 5,Aa z30.1 6,Aa z30.1 7,Aa z30.1 8])) (B9 (GF z30.2.1) (some [.agg [Aa z30.1 9,Aa z30.1 10,Aa z30.1 11],Aa z30.1 12,
  Aa z30.1 1,Aa z30.1 2,Aa z30.1 3,Aa z30.1 4,Aa z30.1 5,Aa z30.1 6,Aa z30.1 7,Aa z30.1 8]) none)))))))))))))))))))):=by kernel_rfl
theorem run89 (B:KB) (x0:PV) (x1:PV) (x2:PV) (x3:PV) (x4:PV) (x5:PV) (x6:PV) (x7:PV) (x8:PV) :
  CG (AI B (fun _=>.cl)) fn89 sh89 [x0,x1,x2,x3,x4,x5,x6,x7,x8] =
  Ae (A3 x0) (Ac (Am x0 0 3 true) (fun z1=>Ac (Al B .cl (.fn 13 []) [x4,z1]) (fun z2=>Ac (Ad (.extract 0 (.c z2))) (fun z3=>Ac (Ad (.extract 1 (.c
  z2))) (fun z4=>Ac (Al B .cl (.fn 150 []) [z3,z4]) (fun z5=>Ac (Ad (.extract 0 (.c z5))) (fun z6=>Ac (Ad (.extract 1 (.c z5))) (fun z7=>Ae (AF z6
  3) (some [.agg [Ah z6 0,Ah z6 1,Ah z6 2],z7,x1,x2,x3,x4,x5,x6,x7,x8]))))))))):=by kernel_rfl
theorem run85 (B:KB) (x0:PV) (x1:PV) (x2:PV) (x3:PV) (x4:PV) (x5:PV) (x6:PV) (x7:PV) (x8:PV) :
  CG (AI B (fun _=>.cl)) fn85 sh85 [x0,x1,x2,x3,x4,x5,x6,x7,x8] =
  Ae (A3 x0) (Ac (Am x0 0 3 true) (fun z1=>Ac (Am x0 0 3 true) (fun z2=>Ac (Ad (.build [.bool false,.bool false,.nilS] [(0,(3,.c z2))])) (fun z3=>Ac
  (Al B .cl (.fn 87 []) [z3]) (fun z4=>Ac (Bx B Od 86 [z1,z4,x1,x2,x3,x4,x5,
  x6,x7,x8]) (fun z5=>Ae (AF (Aa z5 0) 3) (some [.agg [Ah (Aa z5 0) 0,Ah (Aa z5 0) 1,Ah (Aa z5 0) 2],Aa z5 1,Aa z5 2,Aa z5 3,Aa z5 4,Aa z5 5,Aa
  z5 6,Aa z5 7,Aa z5 8,Aa z5 9]))))))):=by kernel_rfl
theorem run88 (B:KB) (x0:PV) (x1:PV) (x2:PV) (x3:PV) (x4:PV) (x5:PV) (x6:PV) (x7:PV) (x8:PV) :
  CG (AI B (fun _=>.cl)) fn88 sh88 [x0,x1,x2,x3,x4,x5,x6,x7,x8] =
  Ae (A3 x0) (Ac (Am x0 0 3 true) (fun z1=>Ac (Am x0 0 3 true) (fun z2=>Ac (Ad (.build [.bool false,.bool false,.nilS] [(0,(3,.c z2))])) (fun z3=>Ac
  (Al B .cl (.fn 57 []) [z3]) (fun z4=>Ac (Bx B Oc 86 [z1,z4,x1,x2,x3,x4,x5,
  x6,x7,x8]) (fun z5=>Ae (AF (Aa z5 0) 3) (some [.agg [Ah (Aa z5 0) 0,Ah (Aa z5 0) 1,Ah (Aa z5 0) 2],Aa z5 1,Aa z5 2,Aa z5 3,Aa z5 4,Aa z5 5,Aa
  z5 6,Aa z5 7,Aa z5 8,Aa z5 9]))))))):=by kernel_rfl
theorem run86_0 (B:KB) (x0:PV) (x1:PV) (x2:PV) (x3:PV) (x4:PV) (x5:PV) (x6:PV) (x7:PV) (x8:PV) (x9:PV) :
  CG (AI B (fun _=>.cl)) Ka Od [x0,x1,x2,x3,x4,x5,x6,x7,x8,x9] =
  Ae (A3 x0) (Ac (CP B (DC 0 (fun z1=>fun z2=>fun z3=>none) (fun z4=>fun z5=>fun z6=>Ae (DQ z5 1) (Ae (AF (Aa z5 0) 3) (Ac (Bx B HD 84 [.agg [Ah (Aa z5 0) 0,Ah (Aa z5 0) 1,Ah (Aa z5 0) 2],Aa z4 1,Aa z4 2,Aa z4 3,Aa z4 4,Aa z4
  5,Aa z4 6,Aa z4 7,Aa z4 8]) (fun z7=>Ae (AF (Aa z7 0) 3) (Ac (Ad (.bin .neq .iface true (.c (Aa z7 1)) (.c .nilI))) (fun z8=>Ar z8 (Ae (AF (Aa z7
  1) 1) (some (false,([Aa z4 0,Aa z7 2,Aa z7 3,Aa z7 4,Aa z7 5,Aa z7 6,Aa z7 7,Aa z7 8,Aa z7 9,Aa z4 9,.bool false,.bool false,.nilS,Ah (Aa z7 1) 0,nI
  (An (Aa z4 14)),.sl 3 (Av (Aa z4 15)) false],(some .ret,z6))))) (Ae (AY 3 [.agg [Ah (Aa z7 0) 0,Ah (Aa z7 0) 1,Ah (Aa z7 0) 2]]) (Ae (AO (AG 0
  (Ai [.agg [Ah (Aa z7 0) 0,Ah (Aa z7 0) 1,Ah (Aa z7 0) 2]])) (Ai [.agg [Ah (Aa z7 0) 0,Ah (Aa z7 0) 1,Ah (Aa z7 0) 2]])) (Ae (BG (AO (An (Aa
  z4 14)) (Ai (Av (Aa z4 15)))) (AO (AG (An (Aa z4 14)) (Ai (AE (Ai [.agg [Ah (Aa z7 0) 0,Ah (Aa z7 0) 1,Ah (Aa z7 0) 2]]) (AS 0 [.agg [Ah
  (Aa z7 0) 0,Ah (Aa z7 0) 1,Ah (Aa z7 0) 2]])))) 2147483648)) (some (true,([Aa z4 0,Aa z7 2,Aa z7 3,Aa z7 4,Aa z7 5,Aa z7 6,Aa z7 7,Aa z7 8,Aa z7 9,Aa
  z4 9,Aa z4 10,Aa z4 11,Aa z4 12,Aa z4 13,nI (AG (An (Aa z4 14)) (Ai (AE (Ai [.agg [Ah (Aa z7 0) 0,Ah (Aa z7 0) 1,Ah (Aa z7 0) 2]]) (AS 0 [.agg
  [Ah (Aa z7 0) 0,Ah (Aa z7 0) 1,Ah (Aa z7 0) 2]])))),.sl 3 (BC (AE (An (Aa z4 14)) (Av (Aa z4 15))) (AE (Ai [.agg [Ah (Aa z7 0) 0,Ah (Aa z7
  0) 1,Ah (Aa z7 0) 2]]) (AS 0 [.agg [Ah (Aa z7 0) 0,Ah (Aa z7 0) 1,Ah (Aa z7 0) 2]]))) false],(none,z6)))))))))))))) 0 x1 ([x1,x2,x3,x4,x5,x6,x7,x8,
  x9,x0,.bool false,.bool false,.nilS,.nilI,nI 0,.sl 3 [] false],(none,()))) (fun z9=>B9 (F8 z9.2.1) (Ac (Am (Aa z9.1 9) 0 3 true) (fun z10=>Ac (Ad
  (.build [.bool false,.bool false,.nilS] [(0,(3,.c z10))])) (fun z11=>Ac (Bs B .cl false 58 [z11,AN 3 3 (Av (Aa z9.1 15)) 0 (An (Aa z9.1 14))]) (fun z12 =>
  Ac (Ad (.extract 0 (.c z12))) (fun z13=>Ac (Ad (.extract 1 (.c z12))) (fun z14=>Ae (AF z13 3) (Ae (AF z14 1) (some [.agg [Ah z13 0,Ah z13 1,
  Ah z13 2],Ah z14 0,Aa z9.1 1,Aa z9.1 2,Aa z9.1 3,Aa z9.1 4,Aa z9.1 5,Aa z9.1 6,Aa z9.1 7,Aa z9.1 8])))))))) (B9 (GF z9.2.1) (some [.agg [Aa z9.1 10,
  Aa z9.1 11,Aa z9.1 12],Aa z9.1 13,Aa z9.1 1,Aa z9.1 2,Aa z9.1 3,Aa z9.1 4,Aa z9.1 5,Aa z9.1 6,Aa z9.1 7,Aa z9.1 8]) none))):=by kernel_rfl
theorem run86_1 (B:KB) (x0:PV) (x1:PV) (x2:PV) (x3:PV) (x4:PV) (x5:PV) (x6:PV) (x7:PV) (x8:PV) (x9:PV) :
  CG (AI B (fun _=>.cl)) Ka Oc [x0,x1,x2,x3,x4,x5,x6,x7,x8,x9] =
  Ae (A3 x0) (Ac (CP B (DC 0 (fun z1=>fun z2=>fun z3=>none) (fun z4=>fun z5=>fun z6=>Ae (DQ z5 1) (Ae (AF (Aa z5 0) 3) (Ac (Bx B sh89 89 [.agg [Ah (Aa z5 0) 0,Ah (Aa z5 0) 1,Ah (Aa z5 0) 2],Aa z4 1,Aa z4 2,Aa z4 3,Aa z4 4,Aa z4
  5,Aa z4 6,Aa z4 7,Aa z4 8]) (fun z7=>Ae (AF (Aa z7 0) 3) (Ac (Ad (.bin .neq .iface true (.c (Aa z7 1)) (.c .nilI))) (fun z8=>Ar z8 (Ae (AF (Aa z7
  1) 1) (some (false,([Aa z4 0,Aa z7 2,Aa z7 3,Aa z7 4,Aa z7 5,Aa z7 6,Aa z7 7,Aa z7 8,Aa z7 9,Aa z4 9,.bool false,.bool false,.nilS,Ah (Aa z7 1) 0,nI
  (An (Aa z4 14)),.sl 3 (Av (Aa z4 15)) false],(some .ret,z6))))) (Ae (AY 3 [.agg [Ah (Aa z7 0) 0,Ah (Aa z7 0) 1,Ah (Aa z7 0) 2]]) (Ae (AO (AG 0
  (Ai [.agg [Ah (Aa z7 0) 0,Ah (Aa z7 0) 1,Ah (Aa z7 0) 2]])) (Ai [.agg [Ah (Aa z7 0) 0,Ah (Aa z7 0) 1,Ah (Aa z7 0) 2]])) (Ae (BG (AO (An (Aa
  z4 14)) (Ai (Av (Aa z4 15)))) (AO (AG (An (Aa z4 14)) (Ai (AE (Ai [.agg [Ah (Aa z7 0) 0,Ah (Aa z7 0) 1,Ah (Aa z7 0) 2]]) (AS 0 [.agg [Ah
  (Aa z7 0) 0,Ah (Aa z7 0) 1,Ah (Aa z7 0) 2]])))) 2147483648)) (some (true,([Aa z4 0,Aa z7 2,Aa z7 3,Aa z7 4,Aa z7 5,Aa z7 6,Aa z7 7,Aa z7 8,Aa z7 9,Aa
  z4 9,Aa z4 10,Aa z4 11,Aa z4 12,Aa z4 13,nI (AG (An (Aa z4 14)) (Ai (AE (Ai [.agg [Ah (Aa z7 0) 0,Ah (Aa z7 0) 1,Ah (Aa z7 0) 2]]) (AS 0 [.agg
  [Ah (Aa z7 0) 0,Ah (Aa z7 0) 1,Ah (Aa z7 0) 2]])))),.sl 3 (BC (AE (An (Aa z4 14)) (Av (Aa z4 15))) (AE (Ai [.agg [Ah (Aa z7 0) 0,Ah (Aa z7
  0) 1,Ah (Aa z7 0) 2]]) (AS 0 [.agg [Ah (Aa z7 0) 0,Ah (Aa z7 0) 1,Ah (Aa z7 0) 2]]))) false],(none,z6)))))))))))))) 0 x1 ([x1,x2,x3,x4,x5,x6,x7,x8,
  x9,x0,.bool false,.bool false,.nilS,.nilI,nI 0,.sl 3 [] false],(none,()))) (fun z9=>B9 (F8 z9.2.1) (Ac (Am (Aa z9.1 9) 0 3 true) (fun z10=>Ac (Ad
  (.build [.bool false,.bool false,.nilS] [(0,(3,.c z10))])) (fun z11=>Ac (Bs B .cl false 58 [z11,AN 3 3 (Av (Aa z9.1 15)) 0 (An (Aa z9.1 14))]) (fun z12 =>
  Ac (Ad (.extract 0 (.c z12))) (fun z13=>Ac (Ad (.extract 1 (.c z12))) (fun z14=>Ae (AF z13 3) (Ae (AF z14 1) (some [.agg [Ah z13 0,Ah z13 1,
  Ah z13 2],Ah z14 0,Aa z9.1 1,Aa z9.1 2,Aa z9.1 3,Aa z9.1 4,Aa z9.1 5,Aa z9.1 6,Aa z9.1 7,Aa z9.1 8])))))))) (B9 (GF z9.2.1) (some [.agg [Aa z9.1 10,
  Aa z9.1 11,Aa z9.1 12],Aa z9.1 13,Aa z9.1 1,Aa z9.1 2,Aa z9.1 3,Aa z9.1 4,Aa z9.1 5,Aa z9.1 6,Aa z9.1 7,Aa z9.1 8]) none))):=by kernel_rfl
theorem run48_0 (B:KB) (x0:PV) (x1:PV) (x2:PV) (x3:PV) (x4:PV) (x5:PV) (x6:PV) (x7:PV) (x8:PV) :
  CG (AI B (fun _=>.cl)) HJ Og [x0,x1,x2,x3,x4,x5,x6,x7,x8] =
  Ae (A3 x0) (Ac (Am x0 0 3 true) (fun z1=>Ac (Al B .cl (.fn 27 []) [z1]) (fun z2=>Ac (Ad (.un .not (.c z2))) (fun z3=>Ar z3 (some [.agg [.bool false,
  .bool false,.nilS],.int .i64 114,x1,x2,x3,x4,x5,x6,x7,x8]) (Ac (Am x0 0 3 true) (fun z4=>Ac (Bx B HD
  84 [z4,x1,x2,x3,x4,x5,x6,x7,x8]) (fun z5=>Ae (AF (Aa z5 0) 3) (Ac (Al B .cl (.fn 59 []) [Aa z5 1]) (fun z6=>some [.agg [Ah (Aa z5 0) 0,Ah (Aa z5
  0) 1,Ah (Aa z5 0) 2],z6,Aa z5 2,Aa z5 3,Aa z5 4,Aa z5 5,Aa z5 6,Aa z5 7,Aa z5 8,Aa z5 9]))))))))):=by kernel_rfl
theorem run48_1 (B:KB) (x0:PV) (x1:PV) (x2:PV) (x3:PV) (x4:PV) (x5:PV) (x6:PV) (x7:PV) (x8:PV) :
  CG (AI B (fun _=>.cl)) HJ Of [x0,x1,x2,x3,x4,x5,x6,x7,x8] =
  Ae (A3 x0) (Ac (Am x0 0 3 true) (fun z1=>Ac (Al B .cl (.fn 27 []) [z1]) (fun z2=>Ac (Ad (.un .not (.c z2))) (fun z3=>Ar z3 (some [.agg [.bool false,
  .bool false,.nilS],.int .i64 114,x1,x2,x3,x4,x5,x6,x7,x8]) (Ac (Am x0 0 3 true) (fun z4=>Ac (Bx B sh85 85 [z4,x1,x2,x3,x4,x5,x6,x7,x8]) (fun z5=>Ae (AF (Aa z5 0) 3) (Ac (Al B .cl (.fn 59 []) [Aa z5 1])
  (fun z6=>some [.agg [Ah (Aa z5 0) 0,Ah (Aa z5 0) 1,Ah (Aa z5 0) 2],z6,Aa z5 2,Aa z5 3,Aa z5 4,Aa z5 5,Aa z5 6,Aa z5 7,Aa z5 8,Aa z5 9]))))))))):=by kernel_rfl
theorem run48_2 (B:KB) (x0:PV) (x1:PV) (x2:PV) (x3:PV) (x4:PV) (x5:PV) (x6:PV) (x7:PV) (x8:PV) :
  CG (AI B (fun _=>.cl)) HJ Oe [x0,x1,x2,x3,x4,x5,x6,x7,x8] =
  Ae (A3 x0) (Ac (Am x0 0 3 true) (fun z1=>Ac (Al B .cl (.fn 27 []) [z1]) (fun z2=>Ac (Ad (.un .not (.c z2))) (fun z3=>Ar z3 (some [.agg [.bool false,
  .bool false,.nilS],.int .i64 114,x1,x2,x3,x4,x5,x6,x7,x8]) (Ac (Am x0 0 3 true) (fun z4=>Ac (Bx B sh88 88 [z4,x1,x2,x3,x4,x5,x6,x7,x8]) (fun z5=>Ae (AF (Aa z5 0) 3) (Ac (Al B .cl (.fn 59 []) [Aa z5 1])
  (fun z6=>some [.agg [Ah (Aa z5 0) 0,Ah (Aa z5 0) 1,Ah (Aa z5 0) 2],z6,Aa z5 2,Aa z5 3,Aa z5 4,Aa z5 5,Aa z5 6,Aa z5 7,Aa z5 8,Aa z5 9]))))))))):=by kernel_rfl
theorem run19 (B:KB) {E:Type} (h:Ay E) (dep:Nat) (e:E) (x0:PV) (x1:PV) :
  AR (AI B (fun _=>.cl)) fn19 (.cl) h dep [.cv x0,.cv x1] e =
  Ae (A3 x1) (Ac (Am x1 0 3 true) (fun z1=>Ac (Bx B Lr 49 [x0]) (fun z2=>Ac (Bx B Og 48 [z1,Aa z2 0,Aa z2 1,Aa z2 2,Aa z2 3,
  Aa z2 4,Aa z2 5,Aa z2 6,Aa z2 7]) (fun z3=>Ae (AF (Aa z3 0) 3) (some (.tup [.agg [Ah (Aa z3 0) 0,Ah (Aa z3 0) 1,Ah (Aa z3 0) 2],Aa z3 1],e)))))):=by kernel_rfl
theorem run21 (B:KB) {E:Type} (h:Ay E) (dep:Nat) (e:E) (x0:PV) (x1:PV) :
  AR (AI B (fun _=>.cl)) fn21 (.cl) h dep [.cv x0,.cv x1] e =
  Ae (A3 x1) (Ac (Am x1 0 3 true) (fun z1=>Ac (Bx B Lr 49 [x0]) (fun z2=>Ac (Bx B Of
  48 [z1,Aa z2 0,Aa z2 1,Aa z2 2,Aa z2 3,Aa z2 4,Aa z2 5,Aa z2 6,Aa z2 7]) (fun z3=>Ae (AF (Aa z3 0) 3) (some (.tup [.agg [Ah (Aa z3 0) 0,Ah (Aa z3
  0) 1,Ah (Aa z3 0) 2],Aa z3 1],e)))))):=by kernel_rfl
theorem run23 (B:KB) {E:Type} (h:Ay E) (dep:Nat) (e:E) (x0:PV) (x1:PV) :
  AR (AI B (fun _=>.cl)) fn23 (.cl) h dep [.cv x0,.cv x1] e =
  Ae (A3 x1) (Ac (Am x1 0 3 true) (fun z1=>Ac (Bx B Lr 49 [x0]) (fun z2=>Ac (Bx B Oe
  48 [z1,Aa z2 0,Aa z2 1,Aa z2 2,Aa z2 3,Aa z2 4,Aa z2 5,Aa z2 6,Aa z2 7]) (fun z3=>Ae (AF (Aa z3 0) 3) (some (.tup [.agg [Ah (Aa z3 0) 0,Ah (Aa z3
  0) 1,Ah (Aa z3 0) 2],Aa z3 1],e)))))):=by kernel_rfl
theorem run14 (B:KB) {E:Type} (h:Ay E) (dep:Nat) (e:E) (x0:PV) :
  AR (AI B (fun _=>.cl)) fn14 (.cl) h dep [.cv x0] e =
  Ac (Ad (.len .str (.c x0))) (fun z1=>Ac (Ad (.minmax false [.c z1,.c (.int .i64 20)])) (fun z2=>Ac (Ad (.strSlice (.c x0) none (some (.c z2)))) (fun z3 =>
  some (z3,e)))):=by kernel_rfl
theorem run13 (B:KB) {E:Type} (h:Ay E) (dep:Nat) (e:E) (x0:PV) (x1:PV) :
  AR (AI B (fun _=>.cl)) fn13 (.cl) h dep [.cv x0,.cv x1] e =
  Ae (A3 x1) (Ac (Al B .cl (.fn 35 []) [x0]) (fun z1=>Ar z1 (Ac (Am x1 0 3 true) (fun z2=>Ac (Al B .cl (.fn 36 []) [x0,z2]) (fun z3=>Ac (Ad
  (.extract 0 (.c z3))) (fun z4=>Ac (Ad (.extract 1 (.c z3))) (fun z5=>Ae (AF z4 3) (some (.tup [.agg [Ah z4 0,Ah z4 1,Ah z4 2],z5],e))))))) (Ac
  (Am x1 0 3 true) (fun z6=>Ac (Al B .cl (.fn 37 []) [x0,z6]) (fun z7=>Ac (Ad (.extract 0 (.c z7))) (fun z8=>Ac (Ad (.extract 1 (.c z7))) (fun z9=>Ae
  (AF z8 3) (some (.tup [.agg [Ah z8 0,Ah z8 1,Ah z8 2],z9],e))))))))):=by kernel_rfl
theorem run16 (B:KB) {E:Type} (h:Ay E) (dep:Nat) (e:E) (x0:PV) (x1:PV) (x2:PV) :
  AR (AI B (fun _=>.cl)) fn16 (.cl) h dep [.cv x0,.cv x1,.cv x2] e =
  Ae (A3 x1) (Ae (A3 x2) (Ac (Al B .cl (.fn 41 []) [x0]) (fun z1=>Ar z1 (Ac (Am x1 0 3 true) (fun z2=>Ac (Am x2 0 3 true) (fun z3=>Ac (Al B .cl
  (.fn 42 []) [x0,z2,z3]) (fun z4=>Ac (Ad (.extract 0 (.c z4))) (fun z5=>Ac (Ad (.extract 1 (.c z4))) (fun z6=>Ae (AF z5 3) (some (.tup [.agg [Ah z5 0,
  Ah z5 1,Ah z5 2],z6],e)))))))) (Ac (Am x1 0 3 true) (fun z7=>Ac (Am x2 0 3 true) (fun z8=>Ac (Al B .cl (.fn 43 []) [x0,z7,z8]) (fun z9=>Ac
  (Ad (.extract 0 (.c z9))) (fun z10=>Ac (Ad (.extract 1 (.c z9))) (fun z11=>Ae (AF z10 3) (some (.tup [.agg [Ah z10 0,Ah z10 1,Ah z10 2],z11],
  e))))))))))):=by kernel_rfl
theorem run26 (B:KB) {E:Type} (h:Ay E) (dep:Nat) (e:E) (x0:PV) (x1:PV) :
  AR (AI B (fun _=>.cl)) fn26 (.cl) h dep [.cv x0,.cv x1] e =
  Ae (A3 x0) (Ae (A3 x1) (Ac (Am x0 0 1 false) (fun z1=>Ac (Am x1 0 1 false) (fun z2=>Ac (Ad (.bin .eql .bool false (.c z1) (.c z2))) (fun z3=>Ar z3
  (Ac (Am x0 1 1 false) (fun z4=>Ac (Am x1 1 1 false) (fun z5=>Ac (Ad (.bin .eql .bool false (.c z4) (.c z5))) (fun z6=>Ar z6 (Ac (Am x0 2 1 false) (fun
  z7=>Ac (Am x1 2 1 false) (fun z8=>Ac (Al B .cl (.fn 52 []) [z7,z8]) (fun z9=>some (z9,e))))) (some (.bool false,e)))))) (some (.bool false,e))))))):=by kernel_rfl
theorem run27 (B:KB) {E:Type} (h:Ay E) (dep:Nat) (e:E) (x0:PV) :
  AR (AI B (fun _=>.cl)) fn27 (.cl) h dep [.cv x0] e =
  Ae (A3 x0) (Ac (Am x0 1 1 false) (fun z1=>Ar z1 (Ac (Am x0 2 1 false) (fun z2=>Ac (Al B .cl (.fn 55 []) [z2,.fn 53 []]) (fun z3=>Ar z3 (some (.bool
  false,e)) (Ac (Am x0 0 1 false) (fun z4=>Ar z4 (Ac (Am x0 2 1 false) (fun z5=>Ac (Ad (.len .slice (.c z5))) (fun z6=>Ac (Ad (.bin .leq .num true (.c
  z6) (.c (.int .i64 200)))) (fun z7=>some (z7,e))))) (Ac (Am x0 2 1 false) (fun z8=>Ac (Ad (.len .slice (.c z8))) (fun z9=>Ac (Ad (.bin .eql .num true (.c
  z9) (.c (.int .i64 1)))) (fun z10=>some (z10,e)))))))))) (Ac (Am x0 0 1 false) (fun z11=>Ar z11 (Ac (Am x0 2 1 false) (fun z12=>Ac (Ad (.len .slice (.c
  z12))) (fun z13=>Ac (Ad (.bin .leq .num true (.c z13) (.c (.int .i64 200)))) (fun z14=>some (z14,e))))) (Ac (Am x0 2 1 false) (fun z15=>Ac (Ad (.len .slice
  (.c z15))) (fun z16=>Ac (Ad (.bin .eql .num true (.c z16) (.c (.int .i64 1)))) (fun z17=>some (z17,e))))))))):=by kernel_rfl
theorem run35 (B:KB) {E:Type} (h:Ay E) (dep:Nat) (e:E) (x0:PV) :
  AR (AI B (fun _=>.cl)) fn35 (.cl) h dep [.cv x0] e =
  Ac (Al B .cl (.fn 61 []) []) (fun z1=>Ac (Ad (.lookup .str .nilF false (.c z1) (.c x0))) (fun z2=>Ac (Ad (.bin .neq .func true (.c z2) (.c .nilF))) (fun z3 =>
  some (z3,e)))):=by kernel_rfl
theorem run36 (B:KB) {E:Type} (h:Ay E) (dep:Nat) (e:E) (x0:PV) (x1:PV) :
  AR (AI B (fun _=>.cl)) fn36 (.cl) h dep [.cv x0,.cv x1] e =
  Ae (A3 x1) (Ac (Am x1 0 3 true) (fun z1=>Ae (AY 3 [z1]) (Ac (Bs B .cl true 62 [AN 3 3 [z1] 0 (Ai [z1])]) (fun z2=>Ac (Ad (.bin .neq .iface true (.c
  z2) (.c .nilI))) (fun z3=>Ar z3 (Ac (Al B .cl (.fn 63 []) [z2]) (fun z4=>some (.tup [.agg [.bool false,.bool false,.nilS],z4],e))) (Ac (Al B .cl (.fn 35 [])
  [x0]) (fun z5=>Ac (Ad (.un .not (.c z5))) (fun z6=>Ar z6 (some (.tup [.agg [.bool false,.bool false,.nilS],.int .i64 102],e)) (Ac (Am x1 0 3 true) (fun z7 =>
  Ac (Al B .cl (.fn 64 []) [z7]) (fun z8=>Ar z8 (some (.tup [.agg [.bool false,.bool false,.nilS],.int .i64 102],e)) (Ac (Am x1 0 1 false) (fun z9=>Ac (Ad
  (.build [.bool false,.bool false,.nilS] [(0,(1,.c z9))])) (fun z10=>Ae (AF z10 3) (Ac (Am x1 2 1 false) (fun z11=>Ac (Ad (.len .slice (.c z11))) (fun z12
  => DY (Ah z10 2) (Ae (Bp [x0,z11,z12,.int .i64 0]) (BL (fun z13=>Ac (Ad (.bin .lss .num false (.c (Aa z13.1 3)) (.c (Aa z13.1 2)))) (fun z14=>Ar z14
  (Ac (Ad (.idxAddr 1 (.c (Aa z13.1 1)) (.c (Aa z13.1 3)))) (fun z15=>Ac (Ad (.load 1 false (.c z15))) (fun z16=>Ac (Al B .cl (.fn 65 []) [Aa z13.1 0,z16])
  (fun z17=>Ac (Ad (.extract 0 (.c z17))) (fun z18=>Ac (Ad (.extract 1 (.c z17))) (fun z19=>Ac (Ad (.bin .neq .num true (.c z19) (.c (.int .i64 0)))) (fun z20
  => Ar z20 (Ac (some (.tup [.agg [.bool false,.bool false,.nilS],z19],z13.2)) (fun z21=>some (.inr z21))) (Ae (AY 1 [z18]) (Ae (AO (AG 0 (Ai [z18])) (Ai
  [z18])) (Ae (BG (AO (An (Aa z13.1 9)) (Ai (Av (Aa z13.1 10)))) (AO (AG (An (Aa z13.1 9)) (Ai (AE (Ai [z18]) (AS 0 [z18])))) 2147483648)) (Ac
  (Ad (.bin .add .num true (.c (Aa z13.1 3)) (.c (.int .i64 1)))) (fun z22=>some (.inl ([Aa z13.1 0,Aa z13.1 1,Aa z13.1 2,z22,Aa z13.1 4,Aa z13.1 5,Aa z13.1 6,Aa
  z13.1 7,Aa z13.1 8,nI (AG (An (Aa z13.1 9)) (Ai (AE (Ai [z18]) (AS 0 [z18])))),.sl 1 (BC (AE (An (Aa z13.1 9)) (Av (Aa z13.1 10))) (AE (Ai
  [z18]) (AS 0 [z18]))) false],z13.2)))))))))))))) (Ac (Ae (Bl (.tup [.agg [Aa z13.1 7,Aa z13.1 8,AN 1 1 (Av (Aa z13.1 10)) 0 (An (Aa z13.1 9))],.int .i64
  0])) (some (.tup [.agg [Aa z13.1 7,Aa z13.1 8,AN 1 1 (Av (Aa z13.1 10)) 0 (An (Aa z13.1 9))],.int .i64 0],z13.2))) (fun z23=>some (.inr z23))))) ([x0,z11,z12,
  .int .i64 0,.bool false,.bool false,.nilS,Ah z10 0,Ah z10 1,nI 0,.sl 1 [] false],e)))))))))))))))))))):=by kernel_rfl
theorem run41 (B:KB) {E:Type} (h:Ay E) (dep:Nat) (e:E) (x0:PV) :
  AR (AI B (fun _=>.cl)) fn41 (.cl) h dep [.cv x0] e =
  Ac (Al B .cl (.fn 75 []) []) (fun z1=>Ac (Ad (.lookup .str .nilF false (.c z1) (.c x0))) (fun z2=>Ac (Ad (.bin .neq .func true (.c z2) (.c .nilF))) (fun z3 =>
  some (z3,e)))):=by kernel_rfl
theorem run42 (B:KB) {E:Type} (h:Ay E) (dep:Nat) (e:E) (x0:PV) (x1:PV) (x2:PV) :
  AR (AI B (fun _=>.cl)) fn42 (.cl) h dep [.cv x0,.cv x1,.cv x2] e =
  Ae (A3 x0) (Ae (A3 x1) (Ae (A3 x2) (Ac (Am x1 0 3 true) (fun z1=>Ac (Am x2 0 3 true) (fun z2=>Ac (Ad (.build [.bool false,.bool false,.nilS,.bool
  false,.bool false,.nilS] [(0,(3,.c z1)),(3,(3,.c z2))])) (fun z3=>Ae (AF z3 6) (Ac (Am x1 0 3 true) (fun z4=>Ac (Am x2 0 3 true) (fun z5=>Ae (AY
  3 [z4,z5]) (Ac (Bs B .cl true 62 [AN 3 3 [z4,z5] 0 (Ai [z4,z5])]) (fun z6=>Ac (Ad (.bin .neq .iface true (.c z6) (.c .nilI))) (fun z7=>Ar z7 (Ac (Al B
  .cl (.fn 63 []) [z6]) (fun z8=>Ae (AF z8 1) (some (.tup [.agg [.bool false,.bool false,.nilS],Ah z8 0],e)))) (Ac (Am x0 0 1 false) (fun z9=>Ac (Al B
  .cl (.fn 41 []) [z9]) (fun z10=>Ac (Ad (.un .not (.c z10))) (fun z11=>Ar z11 (Ae (AF (.int .i64 102) 1) (some (.tup [.agg [.bool false,.bool false,.nilS],
  Ah (.int .i64 102) 0],e))) (Ac (Al B .cl (.fn 76 []) [.agg [Ah z3 0,Ah z3 1,Ah z3 2,Ah z3 3,Ah z3 4,Ah z3 5]]) (fun z12=>Ac (Ad (.extract 0
  (.c z12))) (fun z13=>Ac (Ad (.extract 1 (.c z12))) (fun z14=>Ac (Am x0 0 1 false) (fun z15=>Ac (Ad (.bin .eql .str true (.c z15) (.c (.str [61])))) (fun z16
  => Ar z16 (Ac (Ad (.bin .neq .iface true (.c z14) (.c .nilI))) (fun z17=>Ar z17 (Ac (Al B .cl (.fn 63 []) [z14]) (fun z18=>Ae (AF z18 1) (some (.tup
  [.agg [.bool false,.bool false,.nilS],Ah z18 0],e)))) (Ac (Am x1 0 1 false) (fun z19=>Ar z19 (Ac (Ad (.build [.bool false,.bool false,.nilS] [(0,(1,.c
  (.bool true)))])) (fun z20=>Ae (AF z20 3) (Ac (Al B .cl (.fn 77 []) [.agg [Ah z3 0,Ah z3 1,Ah z3 2,Ah z3 3,Ah z3 4,Ah z3 5],z13]) (fun z21 =>
  DY (Ah z20 2) (Ac (CP B (DC dep h (fun z22=>fun z23=>fun z24=>Ae (DQ z23 2) (Ac (Ar (Aa z22 8) (Ac (Am (Aa z22 2) 1 1 false) (fun z25 =>
  Ac (Am (Aa z22 3) 1 1 false) (fun z26=>Ac (Ad (.bin .neq .bool false (.c z25) (.c z26))) (fun z27=>some z27)))) (some (.bool false))) (fun z28=>Ar z28 (Ac
  (Am (Aa z22 1) 0 1 false) (fun z29=>Ac (Al B .cl (.fn 78 []) [z29,.int .i64 0,.int .i64 1]) (fun z30=>Ac (Ad (.extract 0 (.c z30))) (fun z31=>Ac (Ad
  (.extract 1 (.c z30))) (fun z32=>Ac (Ad (.bin .neq .num true (.c z32) (.c (.int .i64 0)))) (fun z33=>Ar z33 (Ae (AF z32 1) (some (false,([Aa z22 0,Aa z22 1,
  Aa z22 2,Aa z22 3,.bool false,.bool false,.nilS,Ah z32 0,Aa z22 8,Aa z22 9,Aa z22 10,nI (An (Aa z22 11)),.sl 1 (Av (Aa z22 12)) false],(some .ret,
  z24))))) (Ae (AY 1 [z31]) (Ae (AO (AG 0 (Ai [z31])) (Ai [z31])) (Ae (BG (AO (An (Aa z22 11)) (Ai (Av (Aa z22 12)))) (AO (AG (An (Aa z22 11))
  (Ai (AE (Ai [z31]) (AS 0 [z31])))) 2147483648)) (some (true,([Aa z22 0,Aa z22 1,Aa z22 2,Aa z22 3,Aa z22 4,Aa z22 5,Aa z22 6,Aa z22 7,Aa z22 8,Aa z22
  9,Aa z22 10,nI (AG (An (Aa z22 11)) (Ai (AE (Ai [z31]) (AS 0 [z31])))),.sl 1 (BC (AE (An (Aa z22 11)) (Av (Aa z22 12))) (AE (Ai [z31]) (AS 0
  [z31]))) false],(none,z24))))))))))))) (Ac (Am (Aa z22 1) 0 1 false) (fun z34=>Ac (Al B .cl (.fn 78 []) [z34,Aa z23 0,Aa z23 1]) (fun z35=>Ac (Ad
  (.extract 0 (.c z35))) (fun z36=>Ac (Ad (.extract 1 (.c z35))) (fun z37=>Ac (Ad (.bin .neq .num true (.c z37) (.c (.int .i64 0)))) (fun z38=>Ar z38 (Ae
  (AF z37 1) (some (false,([Aa z22 0,Aa z22 1,Aa z22 2,Aa z22 3,.bool false,.bool false,.nilS,Ah z37 0,Aa z22 8,Aa z22 9,Aa z22 10,nI (An (Aa z22 11)),
  .sl 1 (Av (Aa z22 12)) false],(some .ret,z24))))) (Ae (AY 1 [z36]) (Ae (AO (AG 0 (Ai [z36])) (Ai [z36])) (Ae (BG (AO (An (Aa z22 11)) (Ai (Av
  (Aa z22 12)))) (AO (AG (An (Aa z22 11)) (Ai (AE (Ai [z36]) (AS 0 [z36])))) 2147483648)) (some (true,([Aa z22 0,Aa z22 1,Aa z22 2,Aa z22 3,Aa z22 4,Aa
  z22 5,Aa z22 6,Aa z22 7,Aa z22 8,Aa z22 9,Aa z22 10,nI (AG (An (Aa z22 11)) (Ai (AE (Ai [z36]) (AS 0 [z36])))),.sl 1 (BC (AE (An (Aa z22 11))
  (Av (Aa z22 12))) (AE (Ai [z36]) (AS 0 [z36]))) false],(none,z24))))))))))))))))) dep z21 ([z21,x0,x1,x2,.bool false,.bool false,.nilS,.int .i64 0,.bool
  true,Ah z20 0,Ah z20 1,nI 0,.sl 1 [] false],(none,e))) (fun z39=>B9 (F8 z39.2.1) (Ae (AF (.int .i64 0) 1) (Ae (Bl (.tup [.agg [Aa z39.1 9,Aa z39.1
  10,AN 1 1 (Av (Aa z39.1 12)) 0 (An (Aa z39.1 11))],Ah (.int .i64 0) 0])) (some (.tup [.agg [Aa z39.1 9,Aa z39.1 10,AN 1 1 (Av (Aa z39.1 12)) 0 (An (Aa
  z39.1 11))],Ah (.int .i64 0) 0],z39.2.2)))) (B9 (GF z39.2.1) (some (.tup [.agg [Aa z39.1 4,Aa z39.1 5,Aa z39.1 6],Aa z39.1 7],z39.2.2)) none))))))) (Ac (Am
  x2 0 1 false) (fun z40=>Ac (Ad (.build [.bool false,.bool false,.nilS] [(0,(1,.c z40))])) (fun z41=>Ae (AF z41 3) (Ac (Al B .cl (.fn 77 []) [.agg [Ah
  z3 0,Ah z3 1,Ah z3 2,Ah z3 3,Ah z3 4,Ah z3 5],z13]) (fun z42=>DY (Ah z41 2) (Ac (CP B (DC dep h (fun z43=>fun z44=>fun z45=>Ae
  (DQ z44 2) (Ac (Ar (Aa z43 8) (Ac (Am (Aa z43 2) 1 1 false) (fun z46=>Ac (Am (Aa z43 3) 1 1 false) (fun z47=>Ac (Ad (.bin .neq .bool false (.c z46)
  (.c z47))) (fun z48=>some z48)))) (some (.bool false))) (fun z49=>Ar z49 (Ac (Am (Aa z43 1) 0 1 false) (fun z50=>Ac (Al B .cl (.fn 78 []) [z50,.int .i64 0,
  .int .i64 1]) (fun z51=>Ac (Ad (.extract 0 (.c z51))) (fun z52=>Ac (Ad (.extract 1 (.c z51))) (fun z53=>Ac (Ad (.bin .neq .num true (.c z53) (.c (.int .i64
  0)))) (fun z54=>Ar z54 (Ae (AF z53 1) (some (false,([Aa z43 0,Aa z43 1,Aa z43 2,Aa z43 3,.bool false,.bool false,.nilS,Ah z53 0,Aa z43 8,Aa z43 9,Aa
  z43 10,nI (An (Aa z43 11)),.sl 1 (Av (Aa z43 12)) false],(some .ret,z45))))) (Ae (AY 1 [z52]) (Ae (AO (AG 0 (Ai [z52])) (Ai [z52])) (Ae (BG (AO (An
  (Aa z43 11)) (Ai (Av (Aa z43 12)))) (AO (AG (An (Aa z43 11)) (Ai (AE (Ai [z52]) (AS 0 [z52])))) 2147483648)) (some (true,([Aa z43 0,Aa z43 1,Aa z43 2,
  Aa z43 3,Aa z43 4,Aa z43 5,Aa z43 6,Aa z43 7,Aa z43 8,Aa z43 9,Aa z43 10,nI (AG (An (Aa z43 11)) (Ai (AE (Ai [z52]) (AS 0 [z52])))),.sl 1 (BC
  (AE (An (Aa z43 11)) (Av (Aa z43 12))) (AE (Ai [z52]) (AS 0 [z52]))) false],(none,z45))))))))))))) (Ac (Am (Aa z43 1) 0 1 false) (fun z55=>Ac (Al
  B .cl (.fn 78 []) [z55,Aa z44 0,Aa z44 1]) (fun z56=>Ac (Ad (.extract 0 (.c z56))) (fun z57=>Ac (Ad (.extract 1 (.c z56))) (fun z58=>Ac (Ad (.bin .neq
  .num true (.c z58) (.c (.int .i64 0)))) (fun z59=>Ar z59 (Ae (AF z58 1) (some (false,([Aa z43 0,Aa z43 1,Aa z43 2,Aa z43 3,.bool false,.bool false,.nilS,
  Ah z58 0,Aa z43 8,Aa z43 9,Aa z43 10,nI (An (Aa z43 11)),.sl 1 (Av (Aa z43 12)) false],(some .ret,z45))))) (Ae (AY 1 [z57]) (Ae (AO (AG 0 (Ai
  [z57])) (Ai [z57])) (Ae (BG (AO (An (Aa z43 11)) (Ai (Av (Aa z43 12)))) (AO (AG (An (Aa z43 11)) (Ai (AE (Ai [z57]) (AS 0 [z57])))) 2147483648))
  (some (true,([Aa z43 0,Aa z43 1,Aa z43 2,Aa z43 3,Aa z43 4,Aa z43 5,Aa z43 6,Aa z43 7,Aa z43 8,Aa z43 9,Aa z43 10,nI (AG (An (Aa z43 11)) (Ai (AE
  (Ai [z57]) (AS 0 [z57])))),.sl 1 (BC (AE (An (Aa z43 11)) (Av (Aa z43 12))) (AE (Ai [z57]) (AS 0 [z57]))) false],(none,z45))))))))))))))))) dep z42
  ([z42,x0,x1,x2,.bool false,.bool false,.nilS,.int .i64 0,.bool true,Ah z41 0,Ah z41 1,nI 0,.sl 1 [] false],(none,e))) (fun z60=>B9 (F8 z60.2.1) (Ae
  (AF (.int .i64 0) 1) (Ae (Bl (.tup [.agg [Aa z60.1 9,Aa z60.1 10,AN 1 1 (Av (Aa z60.1 12)) 0 (An (Aa z60.1 11))],Ah (.int .i64 0) 0])) (some (.tup [.agg
  [Aa z60.1 9,Aa z60.1 10,AN 1 1 (Av (Aa z60.1 12)) 0 (An (Aa z60.1 11))],Ah (.int .i64 0) 0],z60.2.2)))) (B9 (GF z60.2.1) (some (.tup [.agg [Aa z60.1 4,Aa
  z60.1 5,Aa z60.1 6],Aa z60.1 7],z60.2.2)) none)))))))))))) (Ac (Am x0 0 1 false) (fun z61=>Ac (Ad (.bin .eql .str true (.c z61) (.c (.str [226,137,160])))) (fun
  z62=>Ae (AF z62 1) (Ac (Ad (.bin .neq .iface true (.c z14) (.c .nilI))) (fun z63=>Ar z63 (Ac (Al B .cl (.fn 63 []) [z14]) (fun z64=>Ae (AF z64 1)
  (some (.tup [.agg [.bool false,.bool false,.nilS],Ah z64 0],e)))) (Ac (Ad (.un .not (.c (Ah z62 0)))) (fun z65=>Ar z65 (Ac (Am x1 0 3 true) (fun z66 =>
  Ac (Al B .cl (.fn 64 []) [z66]) (fun z67=>Ar z67 (Ae (AF (.int .i64 102) 1) (some (.tup [.agg [.bool false,.bool false,.nilS],Ah (.int .i64 102) 0],e)))
  (Ac (Am x2 0 3 true) (fun z68=>Ac (Al B .cl (.fn 64 []) [z68]) (fun z69=>Ar z69 (Ae (AF (.int .i64 102) 1) (some (.tup [.agg [.bool false,.bool false,
  .nilS],Ah (.int .i64 102) 0],e))) (Ac (Am x1 0 1 false) (fun z70=>Ar z70 (Ac (Ad (.build [.bool false,.bool false,.nilS] [(0,(1,.c (.bool true)))])) (fun
  z71=>Ae (AF z71 3) (Ac (Al B .cl (.fn 77 []) [.agg [Ah z3 0,Ah z3 1,Ah z3 2,Ah z3 3,Ah z3 4,Ah z3 5],z13]) (fun z72=>DY (Ah z71 2)
  (Ac (CP B (DC dep h (fun z73=>fun z74=>fun z75=>Ae (DQ z74 2) (Ac (Ar (Aa z73 8) (Ac (Am (Aa z73 2) 1 1 false) (fun z76=>Ac (Am (Aa z73
  3) 1 1 false) (fun z77=>Ac (Ad (.bin .neq .bool false (.c z76) (.c z77))) (fun z78=>some z78)))) (some (.bool false))) (fun z79=>Ar z79 (Ac (Am (Aa z73 1) 0 1
  false) (fun z80=>Ac (Al B .cl (.fn 78 []) [z80,.int .i64 0,.int .i64 1]) (fun z81=>Ac (Ad (.extract 0 (.c z81))) (fun z82=>Ac (Ad (.extract 1 (.c z81)))
  (fun z83=>Ac (Ad (.bin .neq .num true (.c z83) (.c (.int .i64 0)))) (fun z84=>Ar z84 (Ae (AF z83 1) (some (false,([Aa z73 0,Aa z73 1,Aa z73 2,Aa z73 3,
  .bool false,.bool false,.nilS,Ah z83 0,Aa z73 8,Aa z73 9,Aa z73 10,nI (An (Aa z73 11)),.sl 1 (Av (Aa z73 12)) false],(some .ret,z75))))) (Ae (AY 1
  [z82]) (Ae (AO (AG 0 (Ai [z82])) (Ai [z82])) (Ae (BG (AO (An (Aa z73 11)) (Ai (Av (Aa z73 12)))) (AO (AG (An (Aa z73 11)) (Ai (AE (Ai [z82])
  (AS 0 [z82])))) 2147483648)) (some (true,([Aa z73 0,Aa z73 1,Aa z73 2,Aa z73 3,Aa z73 4,Aa z73 5,Aa z73 6,Aa z73 7,Aa z73 8,Aa z73 9,Aa z73 10,nI (AG
  (An (Aa z73 11)) (Ai (AE (Ai [z82]) (AS 0 [z82])))),.sl 1 (BC (AE (An (Aa z73 11)) (Av (Aa z73 12))) (AE (Ai [z82]) (AS 0 [z82]))) false],(none,
  z75))))))))))))) (Ac (Am (Aa z73 1) 0 1 false) (fun z85=>Ac (Al B .cl (.fn 78 []) [z85,Aa z74 0,Aa z74 1]) (fun z86=>Ac (Ad (.extract 0 (.c z86))) (fun
  z87=>Ac (Ad (.extract 1 (.c z86))) (fun z88=>Ac (Ad (.bin .neq .num true (.c z88) (.c (.int .i64 0)))) (fun z89=>Ar z89 (Ae (AF z88 1) (some (false,
  ([Aa z73 0,Aa z73 1,Aa z73 2,Aa z73 3,.bool false,.bool false,.nilS,Ah z88 0,Aa z73 8,Aa z73 9,Aa z73 10,nI (An (Aa z73 11)),.sl 1 (Av (Aa z73 12))
  false],(some .ret,z75))))) (Ae (AY 1 [z87]) (Ae (AO (AG 0 (Ai [z87])) (Ai [z87])) (Ae (BG (AO (An (Aa z73 11)) (Ai (Av (Aa z73 12)))) (AO (AG
  (An (Aa z73 11)) (Ai (AE (Ai [z87]) (AS 0 [z87])))) 2147483648)) (some (true,([Aa z73 0,Aa z73 1,Aa z73 2,Aa z73 3,Aa z73 4,Aa z73 5,Aa z73 6,Aa z73 7,
  Aa z73 8,Aa z73 9,Aa z73 10,nI (AG (An (Aa z73 11)) (Ai (AE (Ai [z87]) (AS 0 [z87])))),.sl 1 (BC (AE (An (Aa z73 11)) (Av (Aa z73 12))) (AE
  (Ai [z87]) (AS 0 [z87]))) false],(none,z75))))))))))))))))) dep z72 ([z72,x0,x1,x2,.bool false,.bool false,.nilS,.int .i64 0,Ah z62 0,Ah z71 0,Ah z71 1,
  nI 0,.sl 1 [] false],(none,e))) (fun z90=>B9 (F8 z90.2.1) (Ae (AF (.int .i64 0) 1) (Ae (Bl (.tup [.agg [Aa z90.1 9,Aa z90.1 10,AN 1 1 (Av (Aa z90.1
  12)) 0 (An (Aa z90.1 11))],Ah (.int .i64 0) 0])) (some (.tup [.agg [Aa z90.1 9,Aa z90.1 10,AN 1 1 (Av (Aa z90.1 12)) 0 (An (Aa z90.1 11))],Ah (.int .i64 0)
  0],z90.2.2)))) (B9 (GF z90.2.1) (some (.tup [.agg [Aa z90.1 4,Aa z90.1 5,Aa z90.1 6],Aa z90.1 7],z90.2.2)) none))))))) (Ac (Am x2 0 1 false) (fun z91=>Ac
  (Ad (.build [.bool false,.bool false,.nilS] [(0,(1,.c z91))])) (fun z92=>Ae (AF z92 3) (Ac (Al B .cl (.fn 77 []) [.agg [Ah z3 0,Ah z3 1,Ah z3 2,
  Ah z3 3,Ah z3 4,Ah z3 5],z13]) (fun z93=>DY (Ah z92 2) (Ac (CP B (DC dep h (fun z94=>fun z95=>fun z96=>Ae (DQ z95 2) (Ac (Ar (Aa
  z94 8) (Ac (Am (Aa z94 2) 1 1 false) (fun z97=>Ac (Am (Aa z94 3) 1 1 false) (fun z98=>Ac (Ad (.bin .neq .bool false (.c z97) (.c z98))) (fun z99=>some
  z99)))) (some (.bool false))) (fun z100=>Ar z100 (Ac (Am (Aa z94 1) 0 1 false) (fun z101=>Ac (Al B .cl (.fn 78 []) [z101,.int .i64 0,.int .i64 1]) (fun z102 =>
  Ac (Ad (.extract 0 (.c z102))) (fun z103=>Ac (Ad (.extract 1 (.c z102))) (fun z104=>Ac (Ad (.bin .neq .num true (.c z104) (.c (.int .i64 0)))) (fun z105 =>
  Ar z105 (Ae (AF z104 1) (some (false,([Aa z94 0,Aa z94 1,Aa z94 2,Aa z94 3,.bool false,.bool false,.nilS,Ah z104 0,Aa z94 8,Aa z94 9,Aa z94 10,nI
  (An (Aa z94 11)),.sl 1 (Av (Aa z94 12)) false],(some .ret,z96))))) (Ae (AY 1 [z103]) (Ae (AO (AG 0 (Ai [z103])) (Ai [z103])) (Ae (BG (AO (An (Aa
  z94 11)) (Ai (Av (Aa z94 12)))) (AO (AG (An (Aa z94 11)) (Ai (AE (Ai [z103]) (AS 0 [z103])))) 2147483648)) (some (true,([Aa z94 0,Aa z94 1,Aa z94 2,
  Aa z94 3,Aa z94 4,Aa z94 5,Aa z94 6,Aa z94 7,Aa z94 8,Aa z94 9,Aa z94 10,nI (AG (An (Aa z94 11)) (Ai (AE (Ai [z103]) (AS 0 [z103])))),.sl 1 (BC
  (AE (An (Aa z94 11)) (Av (Aa z94 12))) (AE (Ai [z103]) (AS 0 [z103]))) false],(none,z96))))))))))))) (Ac (Am (Aa z94 1) 0 1 false) (fun z106=>Ac
  (Al B .cl (.fn 78 []) [z106,Aa z95 0,Aa z95 1]) (fun z107=>Ac (Ad (.extract 0 (.c z107))) (fun z108=>Ac (Ad (.extract 1 (.c z107))) (fun z109=>Ac (Ad
  (.bin .neq .num true (.c z109) (.c (.int .i64 0)))) (fun z110=>Ar z110 (Ae (AF z109 1) (some (false,([Aa z94 0,Aa z94 1,Aa z94 2,Aa z94 3,.bool false,.bool
  false,.nilS,Ah z109 0,Aa z94 8,Aa z94 9,Aa z94 10,nI (An (Aa z94 11)),.sl 1 (Av (Aa z94 12)) false],(some .ret,z96))))) (Ae (AY 1 [z108]) (Ae (AO
  (AG 0 (Ai [z108])) (Ai [z108])) (Ae (BG (AO (An (Aa z94 11)) (Ai (Av (Aa z94 12)))) (AO (AG (An (Aa z94 11)) (Ai (AE (Ai [z108]) (AS 0
  [z108])))) 2147483648)) (some (true,([Aa z94 0,Aa z94 1,Aa z94 2,Aa z94 3,Aa z94 4,Aa z94 5,Aa z94 6,Aa z94 7,Aa z94 8,Aa z94 9,Aa z94 10,nI (AG (An (Aa
  z94 11)) (Ai (AE (Ai [z108]) (AS 0 [z108])))),.sl 1 (BC (AE (An (Aa z94 11)) (Av (Aa z94 12))) (AE (Ai [z108]) (AS 0 [z108]))) false],(none,
  z96))))))))))))))))) dep z93 ([z93,x0,x1,x2,.bool false,.bool false,.nilS,.int .i64 0,Ah z62 0,Ah z92 0,Ah z92 1,nI 0,.sl 1 [] false],(none,e))) (fun z111 =>
  B9 (F8 z111.2.1) (Ae (AF (.int .i64 0) 1) (Ae (Bl (.tup [.agg [Aa z111.1 9,Aa z111.1 10,AN 1 1 (Av (Aa z111.1 12)) 0 (An (Aa z111.1 11))],Ah (.int
  .i64 0) 0])) (some (.tup [.agg [Aa z111.1 9,Aa z111.1 10,AN 1 1 (Av (Aa z111.1 12)) 0 (An (Aa z111.1 11))],Ah (.int .i64 0) 0],z111.2.2)))) (B9 (GF
  z111.2.1) (some (.tup [.agg [Aa z111.1 4,Aa z111.1 5,Aa z111.1 6],Aa z111.1 7],z111.2.2)) none)))))))))))))))) (Ac (Am x1 0 1 false) (fun z112=>Ar z112 (Ac
  (Ad (.build [.bool false,.bool false,.nilS] [(0,(1,.c (.bool true)))])) (fun z113=>Ae (AF z113 3) (Ac (Al B .cl (.fn 77 []) [.agg [Ah z3 0,Ah z3 1,
  Ah z3 2,Ah z3 3,Ah z3 4,Ah z3 5],z13]) (fun z114=>DY (Ah z113 2) (Ac (CP B (DC dep h (fun z115=>fun z116=>fun z117=>Ae (DQ z116 2)
  (Ac (Ar (Aa z115 8) (Ac (Am (Aa z115 2) 1 1 false) (fun z118=>Ac (Am (Aa z115 3) 1 1 false) (fun z119=>Ac (Ad (.bin .neq .bool false (.c z118) (.c
  z119))) (fun z120=>some z120)))) (some (.bool false))) (fun z121=>Ar z121 (Ac (Am (Aa z115 1) 0 1 false) (fun z122=>Ac (Al B .cl (.fn 78 []) [z122,.int .i64 0,
  .int .i64 1]) (fun z123=>Ac (Ad (.extract 0 (.c z123))) (fun z124=>Ac (Ad (.extract 1 (.c z123))) (fun z125=>Ac (Ad (.bin .neq .num true (.c z125) (.c (.int
  .i64 0)))) (fun z126=>Ar z126 (Ae (AF z125 1) (some (false,([Aa z115 0,Aa z115 1,Aa z115 2,Aa z115 3,.bool false,.bool false,.nilS,Ah z125 0,Aa z115 8,
  Aa z115 9,Aa z115 10,nI (An (Aa z115 11)),.sl 1 (Av (Aa z115 12)) false],(some .ret,z117))))) (Ae (AY 1 [z124]) (Ae (AO (AG 0 (Ai [z124])) (Ai [z124]))
  (Ae (BG (AO (An (Aa z115 11)) (Ai (Av (Aa z115 12)))) (AO (AG (An (Aa z115 11)) (Ai (AE (Ai [z124]) (AS 0 [z124])))) 2147483648)) (some (true,([Aa
  z115 0,Aa z115 1,Aa z115 2,Aa z115 3,Aa z115 4,Aa z115 5,Aa z115 6,Aa z115 7,Aa z115 8,Aa z115 9,Aa z115 10,nI (AG (An (Aa z115 11)) (Ai (AE (Ai
  [z124]) (AS 0 [z124])))),.sl 1 (BC (AE (An (Aa z115 11)) (Av (Aa z115 12))) (AE (Ai [z124]) (AS 0 [z124]))) false],(none,z117))))))))))))) (Ac (Am
  (Aa z115 1) 0 1 false) (fun z127=>Ac (Al B .cl (.fn 78 []) [z127,Aa z116 0,Aa z116 1]) (fun z128=>Ac (Ad (.extract 0 (.c z128))) (fun z129=>Ac (Ad
  (.extract 1 (.c z128))) (fun z130=>Ac (Ad (.bin .neq .num true (.c z130) (.c (.int .i64 0)))) (fun z131=>Ar z131 (Ae (AF z130 1) (some (false,([Aa z115 0,Aa
  z115 1,Aa z115 2,Aa z115 3,.bool false,.bool false,.nilS,Ah z130 0,Aa z115 8,Aa z115 9,Aa z115 10,nI (An (Aa z115 11)),.sl 1 (Av (Aa z115 12)) false],
  (some .ret,z117))))) (Ae (AY 1 [z129]) (Ae (AO (AG 0 (Ai [z129])) (Ai [z129])) (Ae (BG (AO (An (Aa z115 11)) (Ai (Av (Aa z115 12)))) (AO (AG (An
  (Aa z115 11)) (Ai (AE (Ai [z129]) (AS 0 [z129])))) 2147483648)) (some (true,([Aa z115 0,Aa z115 1,Aa z115 2,Aa z115 3,Aa z115 4,Aa z115 5,Aa z115 6,Aa
  z115 7,Aa z115 8,Aa z115 9,Aa z115 10,nI (AG (An (Aa z115 11)) (Ai (AE (Ai [z129]) (AS 0 [z129])))),.sl 1 (BC (AE (An (Aa z115 11)) (Av (Aa z115
  12))) (AE (Ai [z129]) (AS 0 [z129]))) false],(none,z117))))))))))))))))) dep z114 ([z114,x0,x1,x2,.bool false,.bool false,.nilS,.int .i64 0,Ah z62 0,Ah
  z113 0,Ah z113 1,nI 0,.sl 1 [] false],(none,e))) (fun z132=>B9 (F8 z132.2.1) (Ae (AF (.int .i64 0) 1) (Ae (Bl (.tup [.agg [Aa z132.1 9,Aa z132.1 10,
  AN 1 1 (Av (Aa z132.1 12)) 0 (An (Aa z132.1 11))],Ah (.int .i64 0) 0])) (some (.tup [.agg [Aa z132.1 9,Aa z132.1 10,AN 1 1 (Av (Aa z132.1 12)) 0 (An (Aa
  z132.1 11))],Ah (.int .i64 0) 0],z132.2.2)))) (B9 (GF z132.2.1) (some (.tup [.agg [Aa z132.1 4,Aa z132.1 5,Aa z132.1 6],Aa z132.1 7],z132.2.2)) none)))))))
  (Ac (Am x2 0 1 false) (fun z133=>Ac (Ad (.build [.bool false,.bool false,.nilS] [(0,(1,.c z133))])) (fun z134=>Ae (AF z134 3) (Ac (Al B .cl (.fn 77
  []) [.agg [Ah z3 0,Ah z3 1,Ah z3 2,Ah z3 3,Ah z3 4,Ah z3 5],z13]) (fun z135=>DY (Ah z134 2) (Ac (CP B (DC dep h (fun z136=>fun z137 =>
  fun z138=>Ae (DQ z137 2) (Ac (Ar (Aa z136 8) (Ac (Am (Aa z136 2) 1 1 false) (fun z139=>Ac (Am (Aa z136 3) 1 1 false) (fun z140=>Ac (Ad (.bin
  .neq .bool false (.c z139) (.c z140))) (fun z141=>some z141)))) (some (.bool false))) (fun z142=>Ar z142 (Ac (Am (Aa z136 1) 0 1 false) (fun z143=>Ac (Al B .cl
  (.fn 78 []) [z143,.int .i64 0,.int .i64 1]) (fun z144=>Ac (Ad (.extract 0 (.c z144))) (fun z145=>Ac (Ad (.extract 1 (.c z144))) (fun z146=>Ac (Ad (.bin
  .neq .num true (.c z146) (.c (.int .i64 0)))) (fun z147=>Ar z147 (Ae (AF z146 1) (some (false,([Aa z136 0,Aa z136 1,Aa z136 2,Aa z136 3,.bool false,.bool
  false,.nilS,Ah z146 0,Aa z136 8,Aa z136 9,Aa z136 10,nI (An (Aa z136 11)),.sl 1 (Av (Aa z136 12)) false],(some .ret,z138))))) (Ae (AY 1 [z145]) (Ae
  (AO (AG 0 (Ai [z145])) (Ai [z145])) (Ae (BG (AO (An (Aa z136 11)) (Ai (Av (Aa z136 12)))) (AO (AG (An (Aa z136 11)) (Ai (AE (Ai [z145]) (AS 0
  [z145])))) 2147483648)) (some (true,([Aa z136 0,Aa z136 1,Aa z136 2,Aa z136 3,Aa z136 4,Aa z136 5,Aa z136 6,Aa z136 7,Aa z136 8,Aa z136 9,Aa z136 10,nI (AG
  (An (Aa z136 11)) (Ai (AE (Ai [z145]) (AS 0 [z145])))),.sl 1 (BC (AE (An (Aa z136 11)) (Av (Aa z136 12))) (AE (Ai [z145]) (AS 0 [z145]))) false],
  (none,z138))))))))))))) (Ac (Am (Aa z136 1) 0 1 false) (fun z148=>Ac (Al B .cl (.fn 78 []) [z148,Aa z137 0,Aa z137 1]) (fun z149=>Ac (Ad (.extract 0 (.c
  z149))) (fun z150=>Ac (Ad (.extract 1 (.c z149))) (fun z151=>Ac (Ad (.bin .neq .num true (.c z151) (.c (.int .i64 0)))) (fun z152=>Ar z152 (Ae (AF z151
  1) (some (false,([Aa z136 0,Aa z136 1,Aa z136 2,Aa z136 3,.bool false,.bool false,.nilS,Ah z151 0,Aa z136 8,Aa z136 9,Aa z136 10,nI (An (Aa z136 11)),.sl
  1 (Av (Aa z136 12)) false],(some .ret,z138))))) (Ae (AY 1 [z150]) (Ae (AO (AG 0 (Ai [z150])) (Ai [z150])) (Ae (BG (AO (An (Aa z136 11)) (Ai (Av
  (Aa z136 12)))) (AO (AG (An (Aa z136 11)) (Ai (AE (Ai [z150]) (AS 0 [z150])))) 2147483648)) (some (true,([Aa z136 0,Aa z136 1,Aa z136 2,Aa z136 3,Aa z136
  4,Aa z136 5,Aa z136 6,Aa z136 7,Aa z136 8,Aa z136 9,Aa z136 10,nI (AG (An (Aa z136 11)) (Ai (AE (Ai [z150]) (AS 0 [z150])))),.sl 1 (BC (AE (An
  (Aa z136 11)) (Av (Aa z136 12))) (AE (Ai [z150]) (AS 0 [z150]))) false],(none,z138))))))))))))))))) dep z135 ([z135,x0,x1,x2,.bool false,.bool false,.nilS,
  .int .i64 0,Ah z62 0,Ah z134 0,Ah z134 1,nI 0,.sl 1 [] false],(none,e))) (fun z153=>B9 (F8 z153.2.1) (Ae (AF (.int .i64 0) 1) (Ae (Bl (.tup [.agg
  [Aa z153.1 9,Aa z153.1 10,AN 1 1 (Av (Aa z153.1 12)) 0 (An (Aa z153.1 11))],Ah (.int .i64 0) 0])) (some (.tup [.agg [Aa z153.1 9,Aa z153.1 10,AN 1 1 (Av
  (Aa z153.1 12)) 0 (An (Aa z153.1 11))],Ah (.int .i64 0) 0],z153.2.2)))) (B9 (GF z153.2.1) (some (.tup [.agg [Aa z153.1 4,Aa z153.1 5,Aa z153.1 6],Aa z153.1
  7],z153.2.2)) none))))))))))))))))))))))))))))))))))))))):=by kernel_rfl
theorem run52 (B:KB) {E:Type} (h:Ay E) (dep:Nat) (e:E) (x0:PV) (x1:PV) :
  AR (AI B (fun _=>.cl)) fn52 (.cl) h dep [.cv x0,.cv x1] e =
  Ac (Ad (.len .slice (.c x0))) (fun z1=>Ac (Ad (.len .slice (.c x1))) (fun z2=>Ac (Ad (.bin .neq .num false (.c z1) (.c z2))) (fun z3=>Ar z3 (some (.bool
  false,e)) (Ac (Ad (.len .slice (.c x0))) (fun z4=>Ae (Bp [x0,x1,z4,.int .i64 0]) (BL (fun z5=>Ac (Ad (.bin .lss .num false (.c (Aa z5.1 3)) (.c (Aa
  z5.1 2)))) (fun z6=>Ar z6 (Ac (Ad (.idxAddr 1 (.c (Aa z5.1 0)) (.c (Aa z5.1 3)))) (fun z7=>Ac (Ad (.load 1 false (.c z7))) (fun z8=>Ac (Ad (.idxAddr 1
  (.c (Aa z5.1 1)) (.c (Aa z5.1 3)))) (fun z9=>Ac (Ad (.load 1 false (.c z9))) (fun z10=>Ac (Ad (.bin .neq .num false (.c z8) (.c z10))) (fun z11=>Ar z11 (Ac
  (some (.bool false,z5.2)) (fun z12=>some (.inr z12))) (Ac (Ad (.bin .add .num true (.c (Aa z5.1 3)) (.c (.int .i64 1)))) (fun z13=>some (.inl ([Aa z5.1 0,Aa z5.1 1,
  Aa z5.1 2,z13],z5.2)))))))))) (Ac (some (.bool true,z5.2)) (fun z14=>some (.inr z14))))) ([x0,x1,z4,.int .i64 0],e))))))):=by kernel_rfl
theorem run53 (B:KB) {E:Type} (h:Ay E) (dep:Nat) (e:E) (x0:PV) :
  AR (AI B (fun _=>.cl)) fn53 (.cl) h dep [.cv x0] e =
  Ac (Al B .cl (.fn 54 []) [x0]) (fun z1=>Ac (Ad (.un .not (.c z1))) (fun z2=>some (z2,e))):=by kernel_rfl
theorem run54 (B:KB) {E:Type} (h:Ay E) (dep:Nat) (e:E) (x0:PV) :
  AR (AI B (fun _=>.cl)) fn54 (.cl) h dep [.cv x0] e =
  Ac (Ac (Ad (.bin .geq .num true (.c x0) (.c (.int .i64 0)))) (fun z1=>Ar z1 (Ac (Ad (.bin .leq .num true (.c x0) (.c (.int .i64 1114111)))) (fun z2=>Ar z2
  (Ac (Ad (.bin .lss .num true (.c x0) (.c (.int .i64 55296)))) (fun z3=>Ar z3 (some (.bool true)) (Ac (Ad (.bin .gtr .num true (.c x0) (.c (.int .i64 57343)))) (fun
  z4=>some z4)))) (some (.bool false)))) (some (.bool false)))) (fun z5=>some (z5,e)):=by kernel_rfl
theorem run55 (B:KB) {E:Type} (h:Ay E) (dep:Nat) (e:E) (x0:PV) (x1:PV) :
  AR (AI B (fun _=>.cl)) fn55 (.cl) h dep [.cv x0,.cv x1] e =
  Ac (Al B .cl (.fn 91 []) [x0,x1]) (fun z1=>Ac (Ad (.bin .geq .num true (.c z1) (.c (.int .i64 0)))) (fun z2=>some (z2,e))):=by kernel_rfl
theorem run56 (B:KB) {E:Type} (h:Ay E) (dep:Nat) (e:E) (x0:PV) :
  AR (AI B (fun _=>.cl)) fn56 (.cl) h dep [.cv x0] e =
  Ac (Al B .cl (.fn 92 []) [.nilS,x0]) (fun z1=>some (z1,e)):=by kernel_rfl
theorem run57 (B:KB) {E:Type} (h:Ay E) (dep:Nat) (e:E) (x0:PV) :
  AR (AI B (fun _=>.cl)) fn57 (.cl) h dep [.cv x0] e =
  Ae (A3 x0) (Ae (Bl (.fn 93 [FN (CH x0) 0])) (some (.fn 93 [FN (CH x0) 0],e))):=by kernel_rfl
theorem run58 (B:KB) {E:Type} (h:Ay E) (dep:Nat) (e:E) (x0:PV) (x1:PV) :
  AR (AI B (fun _=>.cl)) fn58 (.cl) h dep [.cv x0,.cv x1] e =
  Ae (A3 x0) (Ac (Am x0 0 1 false) (fun z1=>Ac (Am x0 1 1 false) (fun z2=>Ac (Ad (.build [.bool false,.bool false,.nilS] [(0,(1,.c z1)),(1,(1,.c
  z2))])) (fun z3=>Ae (AF z3 3) (Ac (Ad (.len .slice (.c x1))) (fun z4=>DY (Ah z3 2) (Ae (Bp [x1,.bool false,.bool false,x1,z4,.int .i64 0]) (BL
  (fun z5=>Ac (Ad (.bin .lss .num false (.c (Aa z5.1 5)) (.c (Aa z5.1 4)))) (fun z6=>Ar z6 (Ac (Ad (.idxAddr 3 (.c (Aa z5.1 3)) (.c (Aa z5.1 5)))) (fun z7 =>
  Ac (Ad (.load 3 true (.c z7))) (fun z8=>Ae (AF z8 3) (Ac (Al B .cl (.fn 27 []) [.agg [Ah z8 0,Ah z8 1,Ah z8 2]]) (fun z9=>Ac (Ad (.un .not
  (.c z9))) (fun z10=>Ar z10 (Ac (Ad (.build [.int .i64 0] [(0,(1,.c (.int .i64 114)))])) (fun z11=>Ac (some (.tup [.agg [.bool false,.bool false,.nilS],.iface
  124 z11],z5.2)) (fun z12=>some (.inr z12)))) (Ar (Aa z5.1 1) (Ar (Aa z5.1 2) (Ac (Ad (.idxAddr 3 (.c (Aa z5.1 0)) (.c (.int .i64 0)))) (fun z13=>Ac (Ad
  (.fieldAddr 1 (.c z13))) (fun z14=>Ac (Ad (.load 1 false (.c z14))) (fun z15=>Ae (AF z15 1) (Ac (Ia 1 (Ah z8 2)) (fun z16=>Ae (BG (AO (An (Aa
  z5.1 12)) (Ai (Av (Aa z5.1 13)))) (AO (AG (An (Aa z5.1 12)) (Ai z16)) 2147483648)) (Ac (Ad (.bin .add .num true (.c (Aa z5.1 5)) (.c (.int .i64 1)))) (fun z17
  => some (.inl ([Aa z5.1 0,.bool true,.bool true,Aa z5.1 3,Aa z5.1 4,z17,Aa z5.1 6,Aa z5.1 7,Aa z5.1 8,Aa z5.1 9,Aa z5.1 10,Ah z15 0,nI (AG (An (Aa z5.1
  12)) (Ai z16)),.sl 1 (BC (AE (An (Aa z5.1 12)) (Av (Aa z5.1 13))) z16) false],z5.2)))))))))) (Ac (Ad (.idxAddr 3 (.c (Aa z5.1 0)) (.c (.int .i64 0)))) (fun
  z18=>Ac (Ad (.fieldAddr 1 (.c z18))) (fun z19=>Ac (Ad (.load 1 false (.c z19))) (fun z20=>Ac (Ad (.bin .neq .bool false (.c (Ah z8 1)) (.c z20))) (fun
  z21=>Ac (Ad (.idxAddr 3 (.c (Aa z5.1 0)) (.c (.int .i64 0)))) (fun z22=>Ac (Ad (.fieldAddr 1 (.c z22))) (fun z23=>Ac (Ad (.load 1 false (.c z23))) (fun z24
  => Ae (AF z24 1) (Ac (Ia 1 (Ah z8 2)) (fun z25=>Ae (BG (AO (An (Aa z5.1 12)) (Ai (Av (Aa z5.1 13)))) (AO (AG (An (Aa z5.1 12)) (Ai z25))
  2147483648)) (Ac (Ad (.bin .add .num true (.c (Aa z5.1 5)) (.c (.int .i64 1)))) (fun z26=>some (.inl ([Aa z5.1 0,.bool true,z21,Aa z5.1 3,Aa z5.1 4,z26,Aa z5.1
  6,Aa z5.1 7,Aa z5.1 8,Aa z5.1 9,Aa z5.1 10,Ah z24 0,nI (AG (An (Aa z5.1 12)) (Ai z25)),.sl 1 (BC (AE (An (Aa z5.1 12)) (Av (Aa z5.1 13))) z25)
  false],z5.2))))))))))))))) (Ar (Aa z5.1 2) (Ac (Ad (.idxAddr 3 (.c (Aa z5.1 0)) (.c (.int .i64 0)))) (fun z27=>Ac (Ad (.fieldAddr 1 (.c z27))) (fun z28=>Ac
  (Ad (.load 1 false (.c z28))) (fun z29=>Ae (AF z29 1) (Ac (Ia 1 (Ah z8 2)) (fun z30=>Ae (BG (AO (An (Aa z5.1 12)) (Ai (Av (Aa z5.1 13))))
  (AO (AG (An (Aa z5.1 12)) (Ai z30)) 2147483648)) (Ac (Ad (.bin .add .num true (.c (Aa z5.1 5)) (.c (.int .i64 1)))) (fun z31=>some (.inl ([Aa z5.1 0,Ah z8 0,
  .bool true,Aa z5.1 3,Aa z5.1 4,z31,Aa z5.1 6,Aa z5.1 7,Aa z5.1 8,Aa z5.1 9,Aa z5.1 10,Ah z29 0,nI (AG (An (Aa z5.1 12)) (Ai z30)),.sl 1 (BC (AE
  (An (Aa z5.1 12)) (Av (Aa z5.1 13))) z30) false],z5.2)))))))))) (Ac (Ad (.idxAddr 3 (.c (Aa z5.1 0)) (.c (.int .i64 0)))) (fun z32=>Ac (Ad (.fieldAddr 1 (.c
  z32))) (fun z33=>Ac (Ad (.load 1 false (.c z33))) (fun z34=>Ac (Ad (.bin .neq .bool false (.c (Ah z8 1)) (.c z34))) (fun z35=>Ac (Ad (.idxAddr 3 (.c (Aa
  z5.1 0)) (.c (.int .i64 0)))) (fun z36=>Ac (Ad (.fieldAddr 1 (.c z36))) (fun z37=>Ac (Ad (.load 1 false (.c z37))) (fun z38=>Ae (AF z38 1) (Ac (Ia 1
  (Ah z8 2)) (fun z39=>Ae (BG (AO (An (Aa z5.1 12)) (Ai (Av (Aa z5.1 13)))) (AO (AG (An (Aa z5.1 12)) (Ai z39)) 2147483648)) (Ac (Ad (.bin .add .num
  true (.c (Aa z5.1 5)) (.c (.int .i64 1)))) (fun z40=>some (.inl ([Aa z5.1 0,Ah z8 0,z35,Aa z5.1 3,Aa z5.1 4,z40,Aa z5.1 6,Aa z5.1 7,Aa z5.1 8,Aa z5.1 9,Aa
  z5.1 10,Ah z38 0,nI (AG (An (Aa z5.1 12)) (Ai z39)),.sl 1 (BC (AE (An (Aa z5.1 12)) (Av (Aa z5.1 13))) z39) false],z5.2)))))))))))))))))))))) (Ac
  (Ar (Aa z5.1 1) (Ac (Ad (.build [.int .i64 0] [(0,(1,.c (.int .i64 111)))])) (fun z41=>some (.tup [.agg [.bool false,.bool false,.nilS],.iface 124 z41],z5.2)))
  (Ar (Aa z5.1 2) (Ac (Ad (.build [.int .i64 0] [(0,(1,.c (.int .i64 102)))])) (fun z42=>some (.tup [.agg [.bool false,.bool false,.nilS],.iface 124 z42],z5.2)))
  (Ac (Ac (Am (Aa z5.1 6) 0 1 false) (fun z43=>Ac (Ad (.un .not (.c z43))) (fun z44=>Ar z44 (Ac (Ad (.len .slice (.c (Aa z5.1 0)))) (fun z45=>Ac
  (Ad (.bin .neq .num true (.c z45) (.c (.int .i64 1)))) (fun z46=>some z46))) (some (.bool false))))) (fun z47=>Ar z47 (Ac (Ad (.build [.int .i64 0] [(0,(1,.c (.int
  .i64 111)))])) (fun z48=>some (.tup [.agg [.bool false,.bool false,.nilS],.iface 124 z48],z5.2))) (Ac (Ad (.len .slice (.c (Aa z5.1 0)))) (fun z49=>Ac (Ad
  (.bin .gtr .num true (.c z49) (.c (.int .i64 200)))) (fun z50=>Ar z50 (Ac (Ad (.build [.int .i64 0] [(0,(1,.c (.int .i64 113)))])) (fun z51=>some (.tup [.agg [.bool
  false,.bool false,.nilS],.iface 124 z51],z5.2))) (Ae (Bl (.tup [.agg [Aa z5.1 10,Aa z5.1 11,AN 1 1 (Av (Aa z5.1 13)) 0 (An (Aa z5.1 12))],.nilI])) (some (.tup
  [.agg [Aa z5.1 10,Aa z5.1 11,AN 1 1 (Av (Aa z5.1 13)) 0 (An (Aa z5.1 12))],.nilI],z5.2)))))))))) (fun z52=>some (.inr z52))))) ([x1,.bool false,.bool false,x1,
  z4,.int .i64 0,x0,.bool false,.bool false,.nilS,Ah z3 0,Ah z3 1,nI 0,.sl 1 [] false],e))))))))):=by kernel_rfl
theorem run59 (B:KB) {E:Type} (h:Ay E) (dep:Nat) (e:E) (x0:PV) :
  AR (AI B (fun _=>.cl)) fn59 (.cl) h dep [.cv x0] e =
  Ae (Fz 1 1) (asP 124 x0 (fun z1=>Ae (AF z1 1) (Ac (Am z1 0 1 false) (fun z2=>some (z2,e)))) (some (.int .i64 0,e))):=by kernel_rfl
theorem run62 (B:KB) {E:Type} (h:Ay E) (dep:Nat) (e:E) (x0:PV) :
  AR (AI B (fun _=>.cl)) fn62 (.cl) h dep [.cv x0] e =
  Ac (Ad (.len .slice (.c x0))) (fun z1=>Ae (Bp [x0,z1,.int .i64 0]) (BL (fun z2=>Ac (Ad (.bin .lss .num false (.c (Aa z2.1 2)) (.c (Aa z2.1 1)))) (fun
  z3=>Ar z3 (Ac (Ad (.idxAddr 3 (.c (Aa z2.1 0)) (.c (Aa z2.1 2)))) (fun z4=>Ac (Ad (.load 3 true (.c z4))) (fun z5=>Ae (AF z5 3) (Ac (Al B .cl
  (.fn 27 []) [.agg [Ah z5 0,Ah z5 1,Ah z5 2]]) (fun z6=>Ac (Ad (.un .not (.c z6))) (fun z7=>Ar z7 (Ac (Ad (.build [.int .i64 0] [(0,(1,.c (.int .i64
  114)))])) (fun z8=>Ac (some (.iface 145 z8,z2.2)) (fun z9=>some (.inr z9)))) (Ac (Ad (.bin .add .num true (.c (Aa z2.1 2)) (.c (.int .i64 1)))) (fun z10=>some
  (.inl ([Aa z2.1 0,Aa z2.1 1,z10],z2.2)))))))))) (Ac (some (.nilI,z2.2)) (fun z11=>some (.inr z11))))) ([x0,z1,.int .i64 0],e))):=by kernel_rfl
theorem run63 (B:KB) {E:Type} (h:Ay E) (dep:Nat) (e:E) (x0:PV) :
  AR (AI B (fun _=>.cl)) fn63 (.cl) h dep [.cv x0] e =
  Ae (Fz 1 1) (asP 145 x0 (fun z1=>Ae (AF z1 1) (Ac (Am z1 0 1 false) (fun z2=>some (z2,e)))) (some (.int .i64 0,e))):=by kernel_rfl
theorem run64 (B:KB) {E:Type} (h:Ay E) (dep:Nat) (e:E) (x0:PV) :
  AR (AI B (fun _=>.cl)) fn64 (.cl) h dep [.cv x0] e =
  Ae (A3 x0) (Ac (Ac (Am x0 1 1 false) (fun z1=>Ar z1 (Ac (Am x0 2 1 false) (fun z2=>Ac (Ad (.len .slice (.c z2))) (fun z3=>Ac (Ad (.bin .gtr
  .num true (.c z3) (.c (.int .i64 0)))) (fun z4=>some z4)))) (some (.bool false)))) (fun z5=>some (z5,e))):=by kernel_rfl
theorem run65 (B:KB) {E:Type} (h:Ay E) (dep:Nat) (e:E) (x0:PV) (x1:PV) :
  AR (AI B (fun _=>.cl)) fn65 (.cl) h dep [.cv x0,.cv x1] e =
  Ac (Al B .cl (.fn 61 []) []) (fun z1=>Ac (Ad (.lookup .str .nilF true (.c z1) (.c x0))) (fun z2=>Ac (Ad (.extract 0 (.c z2))) (fun z3=>Ac (Ad
  (.extract 1 (.c z2))) (fun z4=>Ac (Ad (.un .not (.c z4))) (fun z5=>Ar z5 (Ac (Ad (.build [.str []] [(0,(1,.c x0))])) (fun z6=>Ac (Al B .cl (.fn 110 [])
  [.iface 143 z6]) (fun z7=>some (.tup [.int .i64 0,z7],e)))) (Ac (Al B .cl z3 [x1]) (fun z8=>Ac (Ad (.extract 0 (.c z8))) (fun z9=>Ac (Ad (.extract 1 (.c
  z8))) (fun z10=>Ac (Al B .cl (.fn 110 []) [z10]) (fun z11=>some (.tup [z9,z11],e))))))))))):=by kernel_rfl
theorem run76 (B:KB) {E:Type} (h:Ay E) (dep:Nat) (e:E) (x0:PV) :
  AR (AI B (fun _=>.cl)) fn76 (.cl) h dep [.cv x0] e =
  Ae (A3 x0) (Ac (Ac (Am x0 0 1 false) (fun z1=>Ar z1 (Ac (Am x0 3 1 false) (fun z2=>Ar z2 (Ac (Am x0 2 1 false) (fun z3=>Ac (Ad (.len .slice
  (.c z3))) (fun z4=>Ac (Am x0 5 1 false) (fun z5=>Ac (Ad (.len .slice (.c z5))) (fun z6=>Ac (Ad (.bin .neq .num false (.c z4) (.c z6))) (fun z7=>some
  z7)))))) (some (.bool false)))) (some (.bool false)))) (fun z8=>Ar z8 (Ac (Ad (.build [.int .i64 0] [(0,(1,.c (.int .i64 110)))])) (fun z9=>some (.tup [.int .i64 0,
  .iface 145 z9],e))) (Ac (Am x0 0 1 false) (fun z10=>Ar z10 (Ac (Am x0 2 1 false) (fun z11=>Ac (Ad (.len .slice (.c z11))) (fun z12=>some (.tup [z12,
  .nilI],e)))) (Ac (Am x0 5 1 false) (fun z13=>Ac (Ad (.len .slice (.c z13))) (fun z14=>some (.tup [z14,.nilI],e)))))))):=by kernel_rfl
theorem run77 (B:KB) {E:Type} (h:Ay E) (dep:Nat) (e:E) (x0:PV) (x1:PV) :
  AR (AI B (fun _=>.cl)) fn77 (.cl) h dep [.cv x0,.cv x1] e =
  Ae (A3 x0) (Ae (A3 x1) (Ae (Bl (.fn 141 [FN (CH x1) 0,FN (CH x0) 0])) (some (.fn 141 [FN (CH x1) 0,FN (CH x0) 0],e)))):=by kernel_rfl
theorem run78 (B:KB) {E:Type} (h:Ay E) (dep:Nat) (e:E) (x0:PV) (x1:PV) (x2:PV) :
  AR (AI B (fun _=>.cl)) fn78 (.cl) h dep [.cv x0,.cv x1,.cv x2] e =
  Ac (Al B .cl (.fn 75 []) []) (fun z1=>Ac (Ad (.lookup .str .nilF true (.c z1) (.c x0))) (fun z2=>Ac (Ad (.extract 0 (.c z2))) (fun z3=>Ac (Ad
  (.extract 1 (.c z2))) (fun z4=>Ac (Ad (.un .not (.c z4))) (fun z5=>Ar z5 (Ac (Ad (.build [.str []] [(0,(1,.c x0))])) (fun z6=>Ac (Al B .cl (.fn 110 [])
  [.iface 143 z6]) (fun z7=>some (.tup [.int .i64 0,z7],e)))) (Ac (Ad (.build [.int .i64 0,.int .i64 0] [(0,(1,.c x1)),(1,(1,.c x2))])) (fun z8=>Ac (Ad
  (.build [.int .i64 0,.int .i64 0] [(0,(2,.c z8))])) (fun z9=>Ac (Al B .cl z3 [z9]) (fun z10=>Ac (Ad (.extract 0 (.c z10))) (fun z11=>Ac (Ad (.extract 1
  (.c z10))) (fun z12=>Ac (Al B .cl (.fn 110 []) [z12]) (fun z13=>some (.tup [z11,z13],e))))))))))))):=by kernel_rfl
theorem run87 (B:KB) {E:Type} (h:Ay E) (dep:Nat) (e:E) (x0:PV) :
  AR (AI B (fun _=>.cl)) fn87 (.cl) h dep [.cv x0] e =
  Ae (A3 x0) (Ae (Bl (.fn 151 [FN (CH x0) 0])) (some (.fn 151 [FN (CH x0) 0],e))):=by kernel_rfl
theorem run91 (B:KB) {E:Type} (h:Ay E) (dep:Nat) (e:E) (x0:PV) (x1:PV) :
  AR (AI B (fun _=>.cl)) fn91 (.cl) h dep [.cv x0,.cv x1] e =
  Ac (Ad (.len .slice (.c x0))) (fun z1=>Ae (Bp [x0,x1,z1,.int .i64 0]) (BL (fun z2=>Ac (Ad (.bin .lss .num false (.c (Aa z2.1 3)) (.c (Aa z2.1 2))))
  (fun z3=>Ar z3 (Ac (Ad (.idxAddr 1 (.c (Aa z2.1 0)) (.c (Aa z2.1 3)))) (fun z4=>Ac (Ad (.load 1 false (.c z4))) (fun z5=>Ac (Al B .cl (Aa z2.1 1) [z5])
  (fun z6=>Ar z6 (Ac (some (Aa z2.1 3,z2.2)) (fun z7=>some (.inr z7))) (Ac (Ad (.bin .add .num true (.c (Aa z2.1 3)) (.c (.int .i64 1)))) (fun z8=>some (.inl
  ([Aa z2.1 0,Aa z2.1 1,Aa z2.1 2,z8],z2.2)))))))) (Ac (some (.int .i64 (-1),z2.2)) (fun z9=>some (.inr z9))))) ([x0,x1,z1,.int .i64 0],e))):=by kernel_rfl
theorem run92 (B:KB) {E:Type} (h:Ay E) (dep:Nat) (e:E) (x0:PV) :
  AR (AI B (fun _=>.cl)) fn92 (.cl) h dep [.nils,.cv x0] e =
  Ac (CP B (DC dep h (fun z1=>fun z2=>fun z3=>Ae (DQ z2 1) (Ae (AF (Aa z2 0) 3) (Ae (AY 3 [.agg [Ah (Aa z2 0) 0,Ah (Aa z2 0) 1,Ah
  (Aa z2 0) 2]]) (Ae (AO (AG 0 (Ai [.agg [Ah (Aa z2 0) 0,Ah (Aa z2 0) 1,Ah (Aa z2 0) 2]])) (Ai [.agg [Ah (Aa z2 0) 0,Ah (Aa z2 0) 1,Ah (Aa z2 0)
  2]])) (Ae (BG (AO (An (Aa z1 2)) (Ai (Av (Aa z1 3)))) (AO (AG (An (Aa z1 2)) (Ai (AE (Ai [.agg [Ah (Aa z2 0) 0,Ah (Aa z2 0) 1,Ah (Aa z2 0)
  2]]) (AS 0 [.agg [Ah (Aa z2 0) 0,Ah (Aa z2 0) 1,Ah (Aa z2 0) 2]])))) 2147483648)) (some (true,([Aa z1 0,Aa z1 1,nI (AG (An (Aa z1 2)) (Ai (AE (Ai
  [.agg [Ah (Aa z2 0) 0,Ah (Aa z2 0) 1,Ah (Aa z2 0) 2]]) (AS 0 [.agg [Ah (Aa z2 0) 0,Ah (Aa z2 0) 1,Ah (Aa z2 0) 2]])))),.sl 3 (BC (AE (An (Aa
  z1 2)) (Av (Aa z1 3))) (AE (Ai [.agg [Ah (Aa z2 0) 0,Ah (Aa z2 0) 1,Ah (Aa z2 0) 2]]) (AS 0 [.agg [Ah (Aa z2 0) 0,Ah (Aa z2 0) 1,Ah (Aa z2
  0) 2]]))) false],(none,z3)))))))))) dep x0 ([.nilS,x0,nI 0,.sl 3 [] false],(none,e))) (fun z4=>B9 (F8 z4.2.1) (Ae (Bl (AN 3 3 (Av (Aa z4.1 3)) 0 (An (Aa
  z4.1 2)))) (some (AN 3 3 (Av (Aa z4.1 3)) 0 (An (Aa z4.1 2)),z4.2.2))) (B9 (GF z4.2.1) (some (Aa z4.1 0,z4.2.2)) none)):=by kernel_rfl
theorem run93 (B:KB) {E:Type} (h:Ay E) (dep:Nat) (e:E) (x0:Nat) (x1:PV) :
  AR (AI B (fun _=>.cl)) fn93 (.cl) h dep [.yld x0,.cv x1] e =
  Ac (Ad (.fieldAddr 0 (.c x1))) (fun z1=>Ac (Ad (.fieldAddr 2 (.c z1))) (fun z2=>Ac (Ad (.load 1 false (.c z2))) (fun z3=>Ac (Ad (.len .slice (.c z3)))
  (fun z4=>Ae (Bp [nI x0,x1,z3,z4,.int .i64 0]) (BL (fun z5=>Ac (Ad (.bin .lss .num false (.c (Aa z5.1 4)) (.c (Aa z5.1 3)))) (fun z6=>Ar z6 (Ac
  (Ad (.idxAddr 1 (.c (Aa z5.1 2)) (.c (Aa z5.1 4)))) (fun z7=>Ac (Ad (.load 1 false (.c z7))) (fun z8=>Ac (Ad (.load 3 true (.c (Aa z5.1 1)))) (fun z9=>Ac
  (Al B .cl (.fn 94 []) [z9,z8]) (fun z10=>Ac (h (An (Aa z5.1 0)) [z10] z5.2) (fun z11=>Ac (Ad (.un .not (.c (.bool z11.1)))) (fun z12=>Ar z12 (Ac (some
  (.tup [],z11.2)) (fun z13=>some (.inr z13))) (Ac (Ad (.bin .add .num true (.c (Aa z5.1 4)) (.c (.int .i64 1)))) (fun z14=>some (.inl ([nI (An (Aa z5.1 0)),Aa z5.1
  1,Aa z5.1 2,Aa z5.1 3,z14],z11.2))))))))))) (Ac (some (.tup [],z5.2)) (fun z15=>some (.inr z15))))) ([nI x0,x1,z3,z4,.int .i64 0],e)))))):=by kernel_rfl
theorem run94 (B:KB) {E:Type} (h:Ay E) (dep:Nat) (e:E) (x0:PV) (x1:PV) :
  AR (AI B (fun _=>.cl)) fn94 (.cl) h dep [.cv x0,.cv x1] e =
  Ae (A3 x0) (Ac (Am x0 1 1 false) (fun z1=>Ae (AY 1 [x1]) (Ae (AF z1 1) (Ae (Bl (.agg [.bool false,Ah z1 0,AN 1 1 [x1] 0 (Ai [x1])])) (some (.agg
  [.bool false,Ah z1 0,AN 1 1 [x1] 0 (Ai [x1])],e)))))):=by kernel_rfl
theorem run149 (B:KB) {E:Type} (h:Ay E) (dep:Nat) (e:E) (x0:PV) :
  AR (AI B (fun _=>.cl)) fn149 (.cl) h dep [.cv x0] e =
  Ae (A3 x0) (Ae (Bl (.fn 179 [FN (CH x0) 0])) (some (.fn 179 [FN (CH x0) 0],e))):=by kernel_rfl
theorem run150 (B:KB) {E:Type} (h:Ay E) (dep:Nat) (e:E) (x0:PV) (x1:PV) :
  AR (AI B (fun _=>.cl)) fn150 (.cl) h dep [.cv x0,.cv x1] e =
  Ae (A3 x0) (Ac (Ad (.bin .neq .num true (.c x1) (.c (.int .i64 0)))) (fun z1=>Ar z1 (Ac (Ad (.build [.int .i64 0] [(0,(1,.c x1))])) (fun z2=>some (.tup
  [.agg [.bool false,.bool false,.nilS],.iface 124 z2],e))) (Ac (Am x0 0 3 true) (fun z3=>Ae (AF z3 3) (some (.tup [.agg [Ah z3 0,Ah z3 1,Ah z3 2],
  .nilI],e)))))):=by kernel_rfl
theorem run151 (B:KB) {E:Type} (h:Ay E) (dep:Nat) (e:E) (x0:Nat) (x1:PV) :
  AR (AI B (fun _=>.cl)) fn151 (.cl) h dep [.yld x0,.cv x1] e =
  Ac (Ad (.fieldAddr 0 (.c x1))) (fun z1=>Ac (Ad (.fieldAddr 2 (.c z1))) (fun z2=>Ac (Ad (.load 1 false (.c z2))) (fun z3=>Ac (Ad (.len .slice (.c z3)))
  (fun z4=>Ae (Bp [nI x0,x1,z4,.int .i64 0]) (BL (fun z5=>Ac (Ad (.bin .lss .num false (.c (Aa z5.1 3)) (.c (Aa z5.1 2)))) (fun z6=>Ar z6 (Ac (Ad
  (.fieldAddr 0 (.c (Aa z5.1 1)))) (fun z7=>Ac (Ad (.fieldAddr 1 (.c z7))) (fun z8=>Ac (Ad (.load 1 false (.c z8))) (fun z9=>Ac (Ad (.fieldAddr 0 (.c (Aa
  z5.1 1)))) (fun z10=>Ac (Ad (.fieldAddr 2 (.c z10))) (fun z11=>Ac (Ad (.load 1 false (.c z11))) (fun z12=>Ac (Ad (.bin .add .num true (.c (Aa z5.1 3)) (.c
  (.int .i64 1)))) (fun z13=>Ac (Ad (.bin .add .num true (.c (Aa z5.1 3)) (.c (.int .i64 1)))) (fun z14=>Ac (Ad (.slice 1 (.c z12) none (some (.c z13)) (some (.c
  z14)))) (fun z15=>Ac (Ad (.build [.bool false,.bool false,.nilS] [(0,(1,.c (.bool true))),(1,(1,.c z9)),(2,(1,.c z15))])) (fun z16=>Ac (h (An (Aa z5.1 0))
  [z16] z5.2) (fun z17=>Ac (Ad (.un .not (.c (.bool z17.1)))) (fun z18=>Ar z18 (Ac (some (.tup [],z17.2)) (fun z19=>some (.inr z19))) (Ac (Ad (.bin .add .num
  true (.c (Aa z5.1 3)) (.c (.int .i64 1)))) (fun z20=>some (.inl ([nI (An (Aa z5.1 0)),Aa z5.1 1,Aa z5.1 2,z20],z17.2))))))))))))))))) (Ac (some (.tup [],z5.2)) (fun
  z21=>some (.inr z21))))) ([nI x0,x1,z4,.int .i64 0],e)))))):=by kernel_rfl
theorem run179 (B:KB) {E:Type} (h:Ay E) (dep:Nat) (e:E) (x0:Nat) (x1:PV) :
  AR (AI B (fun _=>.cl)) fn179 (.cl) h dep [.yld x0,.cv x1] e =
  Ac (Ad (.load 1 false (.c x1))) (fun z1=>Ac (Ad (.len .slice (.c z1))) (fun z2=>Ac (Ad (.bin .sub .num true (.c z2) (.c (.int .i64 1)))) (fun z3=>Ae
  (Bp [nI x0,x1,z3]) (BL (fun z4=>Ac (Ad (.bin .geq .num true (.c (Aa z4.1 2)) (.c (.int .i64 0)))) (fun z5=>Ar z5 (Ac (Ad (.load 1 false (.c (Aa z4.1
  1)))) (fun z6=>Ac (Ad (.idxAddr 3 (.c z6) (.c (Aa z4.1 2)))) (fun z7=>Ac (Ad (.load 3 true (.c z7))) (fun z8=>Ac (h (An (Aa z4.1 0)) [Aa z4.1 2,z8] z4.2)
  (fun z9=>Ac (Ad (.un .not (.c (.bool z9.1)))) (fun z10=>Ar z10 (Ac (some (.tup [],z9.2)) (fun z11=>some (.inr z11))) (Ac (Ad (.bin .sub .num true (.c (Aa
  z4.1 2)) (.c (.int .i64 1)))) (fun z12=>some (.inl ([nI (An (Aa z4.1 0)),Aa z4.1 1,z12],z9.2)))))))))) (Ac (some (.tup [],z4.2)) (fun z13=>some (.inr z13))))) ([nI
  x0,x1,z3],e))))):=by kernel_rfl
theorem run141 (B:KB) {E:Type} (h:Ay E) (dep:Nat) (e:E) (x0:Nat) (x1:PV) (x2:PV) :
  AR (AI B (fun _=>.cl)) fn141 (.cl) h dep [.yld x0,.cv x1,.cv x2] e =
  Ac (Ad (.load 1 false (.c x1))) (fun z1=>Ae (Bp [nI x0,x2,z1,.int .i64 0]) (BL (fun z2=>Ac (Ad (.bin .lss .num false (.c (Aa z2.1 3)) (.c (Aa z2.1
  2)))) (fun z3=>Ar z3 (Ac (Ad (.fieldAddr 0 (.c (Aa z2.1 1)))) (fun z4=>Ac (Ad (.load 3 true (.c z4))) (fun z5=>Ac (Al B .cl (.fn 142 []) [z5,Aa z2.1
  3]) (fun z6=>Ac (Ad (.fieldAddr 3 (.c (Aa z2.1 1)))) (fun z7=>Ac (Ad (.load 3 true (.c z7))) (fun z8=>Ac (Al B .cl (.fn 142 []) [z8,Aa z2.1 3]) (fun z9
  => Ac (h (An (Aa z2.1 0)) [z6,z9] z2.2) (fun z10=>Ac (Ad (.un .not (.c (.bool z10.1)))) (fun z11=>Ar z11 (Ac (some (.tup [],z10.2)) (fun z12=>some (.inr
  z12))) (Ac (Ad (.bin .add .num true (.c (Aa z2.1 3)) (.c (.int .i64 1)))) (fun z13=>some (.inl ([nI (An (Aa z2.1 0)),Aa z2.1 1,Aa z2.1 2,z13],z10.2)))))))))))))
  (Ac (some (.tup [],z2.2)) (fun z14=>some (.inr z14))))) ([nI x0,x2,z1,.int .i64 0],e))):=by kernel_rfl
theorem run142 (B:KB) {E:Type} (h:Ay E) (dep:Nat) (e:E) (x0:PV) (x1:PV) :
  AR (AI B (fun _=>.cl)) fn142 (.cl) h dep [.cv x0,.cv x1] e =
  Ae (A3 x0) (Ac (Am x0 0 1 false) (fun z1=>Ar z1 (Ac (Am x0 2 1 false) (fun z2=>Ac (Ad (.idxAddr 1 (.c z2) (.c x1))) (fun z3=>Ac (Ad (.load 1 false
  (.c z3))) (fun z4=>some (z4,e))))) (Ac (Am x0 2 1 false) (fun z5=>Ac (Ad (.idxAddr 1 (.c z5) (.c (.int .i64 0)))) (fun z6=>Ac (Ad (.load 1 false (.c z6)))
  (fun z7=>some (z7,e))))))):=by kernel_rfl
theorem run100 (B:KB) {E:Type} (h:Ay E) (dep:Nat) (e:E) (x0:PV) :
  AR (AI B (fun _=>.cl)) fn100 (.cl) h dep [.cv x0] e =
  some (.tup [x0,.nilI],e):=by kernel_rfl
theorem run101 (B:KB) {E:Type} (h:Ay E) (dep:Nat) (e:E) (x0:PV) :
  AR (AI B (fun _=>.cl)) fn101 (.cl) h dep [.cv x0] e =
  Ac (Ad (.build [.int .i64 0,.int .i64 0] [(0,(1,.c (.int .i64 0))),(1,(1,.c x0))])) (fun z1=>Ac (Ad (.build [.int .i64 0,.int .i64 0] [(0,(2,.c z1))])) (fun
  z2=>Ac (Al B .cl (.fn 102 []) [z2]) (fun z3=>Ac (Ad (.extract 0 (.c z3))) (fun z4=>Ac (Ad (.extract 1 (.c z3))) (fun z5=>some (.tup [z4,z5],e)))))):=by kernel_rfl
theorem run102 (B:KB) {E:Type} (h:Ay E) (dep:Nat) (e:E) (x0:PV) :
  AR (AI B (fun _=>.cl)) fn102 (.cl) h dep [.cv x0] e =
  Ae (A3 x0) (Ac (Am x0 0 1 false) (fun z1=>Ac (Am x0 1 1 false) (fun z2=>Ac (Ad (.bin .sub .num false (.c z1) (.c z2))) (fun z3=>Ac (Ad (.load 1
  false (.c (.ptr [.glob 1 265] 0)))) (fun z4=>Ac (Am x0 0 1 false) (fun z5=>Ac (Ad (.bin .lss .num true (.c z5) (.c (.int .i64 0)))) (fun z6=>Ac (Am x0 1 1
  false) (fun z7=>Ac (Ad (.bin .lss .num true (.c z7) (.c (.int .i64 0)))) (fun z8=>Ac (Ad (.bin .eql .bool false (.c z6) (.c z8))) (fun z9=>Ar z9 (Ae (AY 1
  [.bool true]) (Ac (Bs B .cl false 108 [z3,z4,AN 1 1 [.bool true] 0 (Ai [.bool true])]) (fun z10=>Ac (Ad (.extract 0 (.c z10))) (fun z11=>Ac (Ad (.extract
  1 (.c z10))) (fun z12=>some (.tup [z11,z12],e)))))) (Ac (Ad (.bin .lss .num true (.c z3) (.c (.int .i64 0)))) (fun z13=>Ac (Am x0 0 1 false) (fun z14=>Ac
  (Ad (.bin .lss .num true (.c z14) (.c (.int .i64 0)))) (fun z15=>Ac (Ad (.bin .eql .bool false (.c z13) (.c z15))) (fun z16=>Ae (AY 1 [z16]) (Ac (Bs B .cl
  false 108 [z3,z4,AN 1 1 [z16] 0 (Ai [z16])]) (fun z17=>Ac (Ad (.extract 0 (.c z17))) (fun z18=>Ac (Ad (.extract 1 (.c z17))) (fun z19=>some (.tup [z18,z19],
  e)))))))))))))))))))):=by kernel_rfl
theorem run103 (B:KB) {E:Type} (h:Ay E) (dep:Nat) (e:E) (x0:PV) :
  AR (AI B (fun _=>.cl)) fn103 (.cl) h dep [.cv x0] e =
  Ac (Ad (.bin .gtr .num true (.c x0) (.c (.int .i64 0)))) (fun z1=>Ac (Al B .cl (.fn 104 []) [z1]) (fun z2=>Ac (Ad (.bin .lss .num true (.c x0) (.c (.int .i64
  0)))) (fun z3=>Ac (Al B .cl (.fn 104 []) [z3]) (fun z4=>Ac (Ad (.bin .sub .num false (.c z2) (.c z4))) (fun z5=>some (.tup [z5,.nilI],e)))))):=by kernel_rfl
theorem run104 (B:KB) {E:Type} (h:Ay E) (dep:Nat) (e:E) (x0:PV) :
  AR (AI B (fun _=>.cl)) fn104 (.cl) h dep [.cv x0] e =
  Ar x0 (some (.int .i64 1,e)) (some (.int .i64 0,e)):=by kernel_rfl
theorem run105 (B:KB) {E:Type} (h:Ay E) (dep:Nat) (e:E) (x0:PV) :
  AR (AI B (fun _=>.cl)) fn105 (.cl) h dep [.cv x0] e =
  Ac (Ad (.build [.int .i64 0,.int .i64 0] [(0,(1,.c (.int .i64 1))),(1,(1,.c x0))])) (fun z1=>Ac (Ad (.build [.int .i64 0,.int .i64 0] [(0,(2,.c z1))])) (fun
  z2=>Ac (Al B .cl (.fn 106 []) [z2]) (fun z3=>Ac (Ad (.extract 0 (.c z3))) (fun z4=>Ac (Ad (.extract 1 (.c z3))) (fun z5=>some (.tup [z4,z5],e)))))):=by kernel_rfl
theorem run106 (B:KB) {E:Type} (h:Ay E) (dep:Nat) (e:E) (x0:PV) :
  AR (AI B (fun _=>.cl)) fn106 (.cl) h dep [.cv x0] e =
  Ae (A3 x0) (Ac (Am x0 1 1 false) (fun z1=>Ac (Ad (.bin .eql .num true (.c z1) (.c (.int .i64 0)))) (fun z2=>Ar z2 (Ac (Ad (.load 1 false (.c (.ptr [.glob
  2 265] 0)))) (fun z3=>Ac (Am x0 0 1 false) (fun z4=>Ac (Ad (.bin .eql .num true (.c z4) (.c (.int .i64 0)))) (fun z5=>Ae (AY 1 [z5]) (Ac (Bs B .cl false
  108 [.int .i64 1,z3,AN 1 1 [z5] 0 (Ai [z5])]) (fun z6=>Ac (Ad (.extract 0 (.c z6))) (fun z7=>Ac (Ad (.extract 1 (.c z6))) (fun z8=>some (.tup [z7,z8],
  e))))))))) (Ac (Am x0 1 1 false) (fun z9=>Ac (Ad (.bin .eql .num true (.c z9) (.c (.int .i64 (-1))))) (fun z10=>Ar z10 (Ac (Am x0 0 1 false) (fun z11=>Ac
  (Ad (.un .neg (.c z11))) (fun z12=>Ac (Ad (.load 1 false (.c (.ptr [.glob 1 265] 0)))) (fun z13=>Ac (Am x0 0 1 false) (fun z14=>Ac (Ad (.bin .neq .num
  true (.c z14) (.c (.int .i64 (-9223372036854775808))))) (fun z15=>Ae (AY 1 [z15]) (Ac (Bs B .cl false 108 [z12,z13,AN 1 1 [z15] 0 (Ai [z15])]) (fun z16=>Ac
  (Ad (.extract 0 (.c z16))) (fun z17=>Ac (Ad (.extract 1 (.c z16))) (fun z18=>some (.tup [z17,z18],e))))))))))) (Ac (Am x0 0 1 false) (fun z19=>Ac (Am x0
  1 1 false) (fun z20=>Ac (Ad (.bin .quo .num false (.c z19) (.c z20))) (fun z21=>Ac (Ad (.load 1 false (.c (.ptr [.glob 2 265] 0)))) (fun z22=>Ac (Am x0 0 1
  false) (fun z23=>Ac (Am x0 1 1 false) (fun z24=>Ac (Ad (.bin .rem .num false (.c z23) (.c z24))) (fun z25=>Ac (Ad (.bin .eql .num true (.c z25) (.c (.int
  .i64 0)))) (fun z26=>Ae (AY 1 [z26]) (Ac (Bs B .cl false 108 [z21,z22,AN 1 1 [z26] 0 (Ai [z26])]) (fun z27=>Ac (Ad (.extract 0 (.c z27))) (fun z28 =>
  Ac (Ad (.extract 1 (.c z27))) (fun z29=>some (.tup [z28,z29],e)))))))))))))))))))):=by kernel_rfl
theorem run107 (B:KB) {E:Type} (h:Ay E) (dep:Nat) (e:E) (x0:PV) :
  AR (AI B (fun _=>.cl)) fn107 (.cl) h dep [.cv x0] e =
  Ac (Ad (.bin .sub .num true (.c (.int .i64 1)) (.c x0))) (fun z1=>Ac (Ad (.build [.str []] [(0,(1,.c (.str [126])))])) (fun z2=>Ac (Ad (.bin .eql .num true
  (.c x0) (.c (.int .i64 0)))) (fun z3=>Ar z3 (Ae (AY 1 [.bool true]) (Ac (Bs B .cl false 108 [z1,.iface 143 z2,AN 1 1 [.bool true] 0 (Ai [.bool true])]) (fun z4
  => Ac (Ad (.extract 0 (.c z4))) (fun z5=>Ac (Ad (.extract 1 (.c z4))) (fun z6=>some (.tup [z5,z6],e)))))) (Ac (Ad (.bin .eql .num true (.c x0) (.c (.int
  .i64 1)))) (fun z7=>Ae (AY 1 [z7]) (Ac (Bs B .cl false 108 [z1,.iface 143 z2,AN 1 1 [z7] 0 (Ai [z7])]) (fun z8=>Ac (Ad (.extract 0 (.c z8))) (fun z9 =>
  Ac (Ad (.extract 1 (.c z8))) (fun z10=>some (.tup [z9,z10],e)))))))))):=by kernel_rfl
theorem run108 (B:KB) {E:Type} (h:Ay E) (dep:Nat) (e:E) (x0:PV) (x1:PV) (x2:PV) :
  AR (AI B (fun _=>.cl)) fn108 (.cl) h dep [.cv x0,.cv x1,.cv x2] e =
  Ac (Ad (.len .slice (.c x2))) (fun z1=>Ae (Bp [x0,x1,x2,z1,.int .i64 0]) (BL (fun z2=>Ac (Ad (.bin .lss .num false (.c (Aa z2.1 4)) (.c (Aa z2.1
  3)))) (fun z3=>Ar z3 (Ac (Ad (.idxAddr 1 (.c (Aa z2.1 2)) (.c (Aa z2.1 4)))) (fun z4=>Ac (Ad (.load 1 false (.c z4))) (fun z5=>Ac (Ad (.un .not (.c
  z5))) (fun z6=>Ar z6 (Ac (some (.tup [.int .i64 0,Aa z2.1 1],z2.2)) (fun z7=>some (.inr z7))) (Ac (Ad (.bin .add .num true (.c (Aa z2.1 4)) (.c (.int .i64 1))))
  (fun z8=>some (.inl ([Aa z2.1 0,Aa z2.1 1,Aa z2.1 2,Aa z2.1 3,z8],z2.2)))))))) (Ac (some (.tup [Aa z2.1 0,.nilI],z2.2)) (fun z9=>some (.inr z9))))) ([x0,x1,x2,
  z1,.int .i64 0],e))):=by kernel_rfl
theorem run109 (B:KB) {E:Type} (h:Ay E) (dep:Nat) (e:E) (x0:PV) (x1:PV) :
  AR (AI B (fun _=>.cl)) fn109 (.cl) h dep [.cv x0,.cv x1] e =
  Ac (Ad (.bin .lss .num true (.c x0) (.c (.int .i64 0)))) (fun z1=>Ar z1 (Ac (Ad (.load 1 false (.c x1))) (fun z2=>Ac (Al B .cl z2 [x0]) (fun z3=>Ac
  (Ad (.extract 0 (.c z3))) (fun z4=>Ac (Ad (.extract 1 (.c z3))) (fun z5=>some (.tup [z4,z5],e)))))) (some (.tup [x0,.nilI],e))):=by kernel_rfl
theorem run110 (B:KB) {E:Type} (h:Ay E) (dep:Nat) (e:E) (x0:PV) :
  AR (AI B (fun _=>.cl)) fn110 (.cl) h dep [.cv x0] e =
  Ac (Ad (.load 1 false (.c (.ptr [.glob 1 265] 0)))) (fun z1=>Ac (Al B .cl (.fn 159 []) [x0,z1]) (fun z2=>Ar z2 (some (.int .i64 100,e)) (Ac (Ad (.load 1
  false (.c (.ptr [.glob 2 265] 0)))) (fun z3=>Ac (Al B .cl (.fn 159 []) [x0,z3]) (fun z4=>Ar z4 (some (.int .i64 101,e)) (Ae (Fz 1 1) (asP 143 x0 (fun z5=>Ae
  (AF z5 1) (some (.int .i64 102,e))) (some (.int .i64 0,e))))))))):=by kernel_rfl
theorem run132 (B:KB) {E:Type} (h:Ay E) (dep:Nat) (e:E) (x0:PV) :
  AR (AI B (fun _=>.cl)) fn132 (.cl) h dep [.cv x0] e =
  Ae (A3 x0) (Ac (Am x0 0 1 false) (fun z1=>Ac (Am x0 1 1 false) (fun z2=>Ac (Ad (.bin .add .num false (.c z1) (.c z2))) (fun z3=>Ac (Ad (.load 1
  false (.c (.ptr [.glob 1 265] 0)))) (fun z4=>Ac (Am x0 0 1 false) (fun z5=>Ac (Ad (.bin .lss .num true (.c z5) (.c (.int .i64 0)))) (fun z6=>Ac (Am x0 1 1
  false) (fun z7=>Ac (Ad (.bin .lss .num true (.c z7) (.c (.int .i64 0)))) (fun z8=>Ac (Ad (.bin .neq .bool false (.c z6) (.c z8))) (fun z9=>Ar z9 (Ae (AY 1
  [.bool true]) (Ac (Bs B .cl false 108 [z3,z4,AN 1 1 [.bool true] 0 (Ai [.bool true])]) (fun z10=>Ac (Ad (.extract 0 (.c z10))) (fun z11=>Ac (Ad (.extract
  1 (.c z10))) (fun z12=>some (.tup [z11,z12],e)))))) (Ac (Ad (.bin .lss .num true (.c z3) (.c (.int .i64 0)))) (fun z13=>Ac (Am x0 0 1 false) (fun z14=>Ac
  (Ad (.bin .lss .num true (.c z14) (.c (.int .i64 0)))) (fun z15=>Ac (Ad (.bin .eql .bool false (.c z13) (.c z15))) (fun z16=>Ae (AY 1 [z16]) (Ac (Bs B .cl
  false 108 [z3,z4,AN 1 1 [z16] 0 (Ai [z16])]) (fun z17=>Ac (Ad (.extract 0 (.c z17))) (fun z18=>Ac (Ad (.extract 1 (.c z17))) (fun z19=>some (.tup [z18,z19],
  e)))))))))))))))))))):=by kernel_rfl
theorem run133 (B:KB) {E:Type} (h:Ay E) (dep:Nat) (e:E) (x0:PV) :
  AR (AI B (fun _=>.cl)) fn133 (.cl) h dep [.cv x0] e =
  Ae (A3 x0) (Ac (Am x0 0 1 false) (fun z1=>Ac (Al B .cl (.fn 171 []) [z1]) (fun z2=>Ac (Am x0 1 1 false) (fun z3=>Ac (Al B .cl (.fn 171 []) [z3])
  (fun z4=>Ac (Al B .cl (.fn 170 []) [z2,z4]) (fun z5=>Ac (Ad (.extract 0 (.c z5))) (fun z6=>Ac (Ad (.extract 1 (.c z5))) (fun z7=>Ac (Am x0 0 1
  false) (fun z8=>Ac (Ad (.bin .lss .num true (.c z8) (.c (.int .i64 0)))) (fun z9=>Ac (Am x0 1 1 false) (fun z10=>Ac (Ad (.bin .lss .num true (.c z10) (.c
  (.int .i64 0)))) (fun z11=>Ac (Ad (.bin .neq .bool false (.c z9) (.c z11))) (fun z12=>Ac (Ad (.conv .i64 (.c z7))) (fun z13=>Ar z12 (Ac (Ad (.un .neg (.c
  z13))) (fun z14=>Ac (Ad (.load 1 false (.c (.ptr [.glob 1 265] 0)))) (fun z15=>Ac (Ad (.bin .eql .num true (.c z6) (.c (.int .u64 0)))) (fun z16=>Ac (Ad
  (.bin .leq .num true (.c z7) (.c (.int .u64 9223372036854775807)))) (fun z17=>Ar z17 (Ae (AY 1 [z16,.bool true]) (Ac (Bs B .cl false 108 [z14,z15,AN 1 1 [z16,
  .bool true] 0 (Ai [z16,.bool true])]) (fun z18=>Ac (Ad (.extract 0 (.c z18))) (fun z19=>Ac (Ad (.extract 1 (.c z18))) (fun z20=>some (.tup [z19,z20],e))))))
  (Ar z12 (Ac (Ad (.bin .eql .num true (.c z7) (.c (.int .u64 9223372036854775808)))) (fun z21=>Ae (AY 1 [z16,z21]) (Ac (Bs B .cl false 108 [z14,z15,AN 1 1
  [z16,z21] 0 (Ai [z16,z21])]) (fun z22=>Ac (Ad (.extract 0 (.c z22))) (fun z23=>Ac (Ad (.extract 1 (.c z22))) (fun z24=>some (.tup [z23,z24],e))))))) (Ae
  (AY 1 [z16,.bool false]) (Ac (Bs B .cl false 108 [z14,z15,AN 1 1 [z16,.bool false] 0 (Ai [z16,.bool false])]) (fun z25=>Ac (Ad (.extract 0 (.c z25))) (fun
  z26=>Ac (Ad (.extract 1 (.c z25))) (fun z27=>some (.tup [z26,z27],e)))))))))))) (Ac (Ad (.load 1 false (.c (.ptr [.glob 1 265] 0)))) (fun z28=>Ac (Ad
  (.bin .eql .num true (.c z6) (.c (.int .u64 0)))) (fun z29=>Ac (Ad (.bin .leq .num true (.c z7) (.c (.int .u64 9223372036854775807)))) (fun z30=>Ar z30 (Ae (AY 1
  [z29,.bool true]) (Ac (Bs B .cl false 108 [z13,z28,AN 1 1 [z29,.bool true] 0 (Ai [z29,.bool true])]) (fun z31=>Ac (Ad (.extract 0 (.c z31))) (fun z32=>Ac
  (Ad (.extract 1 (.c z31))) (fun z33=>some (.tup [z32,z33],e)))))) (Ar z12 (Ac (Ad (.bin .eql .num true (.c z7) (.c (.int .u64 9223372036854775808)))) (fun z34 =>
  Ae (AY 1 [z29,z34]) (Ac (Bs B .cl false 108 [z13,z28,AN 1 1 [z29,z34] 0 (Ai [z29,z34])]) (fun z35=>Ac (Ad (.extract 0 (.c z35))) (fun z36=>Ac (Ad
  (.extract 1 (.c z35))) (fun z37=>some (.tup [z36,z37],e))))))) (Ae (AY 1 [z29,.bool false]) (Ac (Bs B .cl false 108 [z13,z28,AN 1 1 [z29,.bool false] 0 (Ai
  [z29,.bool false])]) (fun z38=>Ac (Ad (.extract 0 (.c z38))) (fun z39=>Ac (Ad (.extract 1 (.c z38))) (fun z40=>some (.tup [z39,z40],e))))))))))))))))))))))))):=by kernel_rfl
theorem run134 (B:KB) {E:Type} (h:Ay E) (dep:Nat) (e:E) (x0:PV) :
  AR (AI B (fun _=>.cl)) fn134 (.cl) h dep [.cv x0] e =
  Ae (A3 x0) (Ac (Am x0 0 1 false) (fun z1=>Ac (Ad (.bin .eql .num true (.c z1) (.c (.int .i64 0)))) (fun z2=>Ar z2 (Ac (Am x0 1 1 false) (fun z3=>some
  (.tup [z3,.nilI],e))) (Ac (Am x0 0 1 false) (fun z4=>Ac (Ad (.bin .eql .num true (.c z4) (.c (.int .i64 (-1))))) (fun z5=>Ar z5 (some (.tup [.int .i64 0,.nilI],
  e)) (Ac (Am x0 1 1 false) (fun z6=>Ac (Am x0 0 1 false) (fun z7=>Ac (Ad (.bin .rem .num false (.c z6) (.c z7))) (fun z8=>Ae (Bp [z8,.int .i64 0])
  (BL (fun z9=>Ac (Ad (.bin .lss .num true (.c (Aa z9.1 1)) (.c (.int .i64 1)))) (fun z10=>Ar z10 (Ac (Ac (Ad (.bin .eql .num true (.c (Aa z9.1 0)) (.c
  (.int .i64 0)))) (fun z11=>Ar z11 (some (.bool true)) (Ac (Ad (.bin .lss .num true (.c (Aa z9.1 0)) (.c (.int .i64 0)))) (fun z12=>Ac (Am (Aa z9.1 2) 0 1 false)
  (fun z13=>Ac (Ad (.bin .lss .num true (.c z13) (.c (.int .i64 0)))) (fun z14=>Ac (Ad (.bin .eql .bool false (.c z12) (.c z14))) (fun z15=>some z15))))))) (fun z16
  => Ar z16 (Ac (some (.tup [Aa z9.1 0,.nilI],z9.2)) (fun z17=>some (.inr z17))) (Ac (Am (Aa z9.1 2) 0 1 false) (fun z18=>Ac (Ad (.bin .add .num false (.c
  (Aa z9.1 0)) (.c z18))) (fun z19=>Ac (Ad (.bin .add .num true (.c (Aa z9.1 1)) (.c (.int .i64 1)))) (fun z20=>some (.inl ([z19,z20,Aa z9.1 2],z9.2)))))))) (Ac
  (some (.tup [Aa z9.1 0,.nilI],z9.2)) (fun z21=>some (.inr z21))))) ([z8,.int .i64 0,x0],e)))))))))))):=by kernel_rfl
theorem run135 (B:KB) {E:Type} (h:Ay E) (dep:Nat) (e:E) (x0:PV) :
  AR (AI B (fun _=>.cl)) fn135 (.cl) h dep [.cv x0] e =
  Ae (A3 x0) (Ac (Am x0 0 1 false) (fun z1=>Ac (Am x0 1 1 false) (fun z2=>Ac (Ad (.minmax true [.c z1,.c z2])) (fun z3=>some (.tup [z3,.nilI],e))))):=by kernel_rfl
theorem run136 (B:KB) {E:Type} (h:Ay E) (dep:Nat) (e:E) (x0:PV) :
  AR (AI B (fun _=>.cl)) fn136 (.cl) h dep [.cv x0] e =
  Ae (A3 x0) (Ac (Am x0 0 1 false) (fun z1=>Ac (Am x0 1 1 false) (fun z2=>Ac (Ad (.minmax false [.c z1,.c z2])) (fun z3=>some (.tup [z3,.nilI],e))))):=by kernel_rfl
theorem run137 (B:KB) {E:Type} (h:Ay E) (dep:Nat) (e:E) (x0:PV) (x1:PV) :
  AR (AI B (fun _=>.cl)) fn137 (.cl) h dep [.cv x0,.cv x1] e =
  Ae (A3 x0) (Ac (Am x0 0 2 true) (fun z1=>Ac (Ad (.load 1 false (.c x1))) (fun z2=>Ac (Al B .cl (.fn 138 []) [z1,z2]) (fun z3=>Ac (Ad (.extract 0
  (.c z3))) (fun z4=>Ac (Ad (.extract 1 (.c z3))) (fun z5=>some (.tup [z4,z5],e))))))):=by kernel_rfl
theorem Mk (B:KB) {E:Type} (h:Ay E) (dep:Nat) (e:E) (x0:PV) (x1:PV) :
  AR (AI B (fun _=>.cl)) fn138 (.cl) h dep [.cv x0,.cv x1] e =
  Ae (A3 x0) (Ac (Ad (.bin .eql .str true (.c x1) (.c (.str [226,137,160])))) (fun z1=>Ar z1 (Ac (Am x0 0 1 false) (fun z2=>Ac (Am x0 1 1 false) (fun z3
  => Ac (Ad (.bin .neq .num false (.c z2) (.c z3))) (fun z4=>Ac (Al B .cl (.fn 104 []) [z4]) (fun z5=>some (.tup [z5,.nilI],e)))))) (Ac (Ad (.bin .eql .str
  true (.c x1) (.c (.str [226,137,164])))) (fun z6=>Ar z6 (Ac (Am x0 0 1 false) (fun z7=>Ac (Am x0 1 1 false) (fun z8=>Ac (Ad (.bin .eql .num false (.c z7)
  (.c z8))) (fun z9=>Ac (Al B .cl (.fn 104 []) [z9]) (fun z10=>Ac (Am x0 0 1 false) (fun z11=>Ac (Am x0 1 1 false) (fun z12=>Ac (Ad (.bin .lss .num
  false (.c z11) (.c z12))) (fun z13=>Ac (Al B .cl (.fn 104 []) [z13]) (fun z14=>Ac (Ad (.bin .or .num false (.c z10) (.c z14))) (fun z15=>some (.tup [z15,.nilI],
  e))))))))))) (Ac (Ad (.bin .eql .str true (.c x1) (.c (.str [60])))) (fun z16=>Ar z16 (Ac (Am x0 0 1 false) (fun z17=>Ac (Am x0 1 1 false) (fun z18=>Ac
  (Ad (.bin .lss .num false (.c z17) (.c z18))) (fun z19=>Ac (Al B .cl (.fn 104 []) [z19]) (fun z20=>Ac (Ad (.bin .or .num false (.c (.int .i64 0)) (.c z20))) (fun
  z21=>some (.tup [z21,.nilI],e))))))) (Ac (Ad (.bin .eql .str true (.c x1) (.c (.str [61])))) (fun z22=>Ar z22 (Ar z22 (Ac (Am x0 0 1 false) (fun z23=>Ac
  (Am x0 1 1 false) (fun z24=>Ac (Ad (.bin .eql .num false (.c z23) (.c z24))) (fun z25=>Ac (Al B .cl (.fn 104 []) [z25]) (fun z26=>Ac (Ad (.bin .eql .str
  true (.c x1) (.c (.str [61])))) (fun z27=>Ar z27 (some (.tup [z26,.nilI],e)) (Ac (Am x0 0 1 false) (fun z28=>Ac (Am x0 1 1 false) (fun z29=>Ac (Ad (.bin
  .gtr .num false (.c z28) (.c z29))) (fun z30=>Ac (Al B .cl (.fn 104 []) [z30]) (fun z31=>Ac (Ad (.bin .or .num false (.c z26) (.c z31))) (fun z32=>some (.tup
  [z32,.nilI],e))))))))))))) (Ac (Ad (.bin .eql .str true (.c x1) (.c (.str [62])))) (fun z33=>Ar z33 (Ac (Am x0 0 1 false) (fun z34=>Ac (Am x0 1 1 false)
  (fun z35=>Ac (Ad (.bin .gtr .num false (.c z34) (.c z35))) (fun z36=>Ac (Al B .cl (.fn 104 []) [z36]) (fun z37=>Ac (Ad (.bin .or .num false (.c (.int .i64
  0)) (.c z37))) (fun z38=>some (.tup [z38,.nilI],e))))))) (some (.tup [.int .i64 0,.nilI],e))))) (Ac (Ad (.bin .eql .str true (.c x1) (.c (.str [226,137,165])))) (fun
  z39=>Ar z39 (Ac (Am x0 0 1 false) (fun z40=>Ac (Am x0 1 1 false) (fun z41=>Ac (Ad (.bin .eql .num false (.c z40) (.c z41))) (fun z42=>Ac (Al B .cl
  (.fn 104 []) [z42]) (fun z43=>Ac (Ad (.bin .eql .str true (.c x1) (.c (.str [61])))) (fun z44=>Ar z44 (some (.tup [z43,.nilI],e)) (Ac (Am x0 0 1 false) (fun z45
  => Ac (Am x0 1 1 false) (fun z46=>Ac (Ad (.bin .gtr .num false (.c z45) (.c z46))) (fun z47=>Ac (Al B .cl (.fn 104 []) [z47]) (fun z48=>Ac (Ad (.bin
  .or .num false (.c z43) (.c z48))) (fun z49=>some (.tup [z49,.nilI],e))))))))))))) (Ac (Ad (.bin .eql .str true (.c x1) (.c (.str [62])))) (fun z50=>Ar z50 (Ac
  (Am x0 0 1 false) (fun z51=>Ac (Am x0 1 1 false) (fun z52=>Ac (Ad (.bin .gtr .num false (.c z51) (.c z52))) (fun z53=>Ac (Al B .cl (.fn 104 []) [z53]) (fun
  z54=>Ac (Ad (.bin .or .num false (.c (.int .i64 0)) (.c z54))) (fun z55=>some (.tup [z55,.nilI],e))))))) (some (.tup [.int .i64 0,.nilI],e)))))))))))))):=by kernel_rfl
theorem run139 (B:KB) {E:Type} (h:Ay E) (dep:Nat) (e:E) (x0:PV) (x1:PV) :
  AR (AI B (fun _=>.cl)) fn139 (.cl) h dep [.cv x0,.cv x1] e =
  Ae (A3 x0) (Ac (Am x0 0 2 true) (fun z1=>Ac (Ad (.load 1 false (.c x1))) (fun z2=>Ac (Al B .cl (.fn 140 []) [z1,z2]) (fun z3=>Ac (Ad (.extract 0
  (.c z3))) (fun z4=>Ac (Ad (.extract 1 (.c z3))) (fun z5=>some (.tup [z4,z5],e))))))):=by kernel_rfl
theorem run140 (B:KB) {E:Type} (h:Ay E) (dep:Nat) (e:E) (x0:PV) (x1:PV) :
  AR (AI B (fun _=>.cl)) fn140 (.cl) h dep [.cv x0,.cv x1] e =
  Ae (A3 x0) (Ac (Am x0 0 1 false) (fun z1=>Ac (Am x0 1 1 false) (fun z2=>Ac (Ad (.bin .and .num false (.c z1) (.c z2))) (fun z3=>Ac (Ad (.bin .eql
  .str true (.c x1) (.c (.str [226,136,168])))) (fun z4=>Ar z4 (Ac (Am x0 0 1 false) (fun z5=>Ac (Am x0 1 1 false) (fun z6=>Ac (Ad (.bin .or .num false (.c
  z5) (.c z6))) (fun z7=>Ac (Ad (.build [.str []] [(0,(1,.c x1))])) (fun z8=>Ac (Am x0 0 1 false) (fun z9=>Ac (Ad (.bin .shr .num true (.c z9) (.c (.int .u64
  1)))) (fun z10=>Ac (Ad (.bin .eql .num true (.c z10) (.c (.int .i64 0)))) (fun z11=>Ac (Am x0 1 1 false) (fun z12=>Ac (Ad (.bin .shr .num true (.c z12) (.c
  (.int .u64 1)))) (fun z13=>Ac (Ad (.bin .eql .num true (.c z13) (.c (.int .i64 0)))) (fun z14=>Ae (AY 1 [z11,z14]) (Ac (Bs B .cl false 108 [z7,.iface 143 z8,
  AN 1 1 [z11,z14] 0 (Ai [z11,z14])]) (fun z15=>Ac (Ad (.extract 0 (.c z15))) (fun z16=>Ac (Ad (.extract 1 (.c z15))) (fun z17=>some (.tup [z16,z17],
  e)))))))))))))))) (Ac (Ad (.build [.str []] [(0,(1,.c x1))])) (fun z18=>Ac (Am x0 0 1 false) (fun z19=>Ac (Ad (.bin .shr .num true (.c z19) (.c (.int .u64
  1)))) (fun z20=>Ac (Ad (.bin .eql .num true (.c z20) (.c (.int .i64 0)))) (fun z21=>Ac (Am x0 1 1 false) (fun z22=>Ac (Ad (.bin .shr .num true (.c z22) (.c
  (.int .u64 1)))) (fun z23=>Ac (Ad (.bin .eql .num true (.c z23) (.c (.int .i64 0)))) (fun z24=>Ae (AY 1 [z21,z24]) (Ac (Bs B .cl false 108 [z3,.iface 143
  z18,AN 1 1 [z21,z24] 0 (Ai [z21,z24])]) (fun z25=>Ac (Ad (.extract 0 (.c z25))) (fun z26=>Ac (Ad (.extract 1 (.c z25))) (fun z27=>some (.tup [z26,z27],
  e)))))))))))))))))):=by kernel_rfl
theorem run170 (B:KB) {E:Type} (h:Ay E) (dep:Nat) (e:E) (x0:PV) (x1:PV) :
  AR (AI B (fun _=>.cl)) fn170 (.cl) h dep [.cv x0,.cv x1] e =
  Ac (Ad (.bin .and .num true (.c x0) (.c (.int .u64 4294967295)))) (fun z1=>Ac (Ad (.bin .shr .num true (.c x0) (.c (.int .u64 32)))) (fun z2=>Ac (Ad (.bin
  .and .num true (.c x1) (.c (.int .u64 4294967295)))) (fun z3=>Ac (Ad (.bin .shr .num true (.c x1) (.c (.int .u64 32)))) (fun z4=>Ac (Ad (.bin .mul .num false (.c
  z1) (.c z3))) (fun z5=>Ac (Ad (.bin .mul .num false (.c z2) (.c z3))) (fun z6=>Ac (Ad (.bin .shr .num true (.c z5) (.c (.int .u64 32)))) (fun z7=>Ac (Ad
  (.bin .add .num false (.c z6) (.c z7))) (fun z8=>Ac (Ad (.bin .and .num true (.c z8) (.c (.int .u64 4294967295)))) (fun z9=>Ac (Ad (.bin .shr .num true (.c z8) (.c
  (.int .u64 32)))) (fun z10=>Ac (Ad (.bin .mul .num false (.c z1) (.c z4))) (fun z11=>Ac (Ad (.bin .add .num false (.c z9) (.c z11))) (fun z12=>Ac (Ad (.bin
  .mul .num false (.c z2) (.c z4))) (fun z13=>Ac (Ad (.bin .add .num false (.c z13) (.c z10))) (fun z14=>Ac (Ad (.bin .shr .num true (.c z12) (.c (.int .u64 32))))
  (fun z15=>Ac (Ad (.bin .add .num false (.c z14) (.c z15))) (fun z16=>Ac (Ad (.bin .mul .num false (.c x0) (.c x1))) (fun z17=>some (.tup [z16,z17],
  e)))))))))))))))))):=by kernel_rfl
theorem run171 (B:KB) {E:Type} (h:Ay E) (dep:Nat) (e:E) (x0:PV) :
  AR (AI B (fun _=>.cl)) fn171 (.cl) h dep [.cv x0] e =
  Ac (Ad (.bin .lss .num true (.c x0) (.c (.int .i64 0)))) (fun z1=>Ar z1 (Ac (Ad (.conv .u64 (.c x0))) (fun z2=>Ac (Ad (.un .neg (.c z2))) (fun z3=>some
  (z3,e)))) (Ac (Ad (.conv .u64 (.c x0))) (fun z4=>some (z4,e)))):=by kernel_rfl
end Go.Ab


set_option maxRecDepth 100000
namespace Go.Ab
open Go
theorem run43 (B:KB) {E:Type} (h:Ay E) (dep:Nat) (e:E) (x0:PV) (x1:PV) (x2:PV) :
  AR (AI B (fun _=>.cl)) fn43 (.cl) h dep [.cv x0,.cv x1,.cv x2] e =
  Ae (A3 x1) (Ae (A3 x2) (Ac (Al B .cl (.fn 66 []) []) (fun z1=>Ac (Ad (.lookup .str (.agg [.nilF,.nilF]) false (.c z1) (.c x0))) (fun z2=>Ae (AF z2
  2) (Ac (Am x1 0 3 true) (fun z3=>Ac (Am x2 0 3 true) (fun z4=>Ae (AY 3 [z3,z4]) (Ac (Bs B .cl true 67 [AN 3 3 [z3,z4] 0 (Ai [z3,z4])]) (fun z5 =>
  Ac (Ad (.un .not (.c z5))) (fun z6=>Ar z6 (some (.tup [.agg [.bool false,.bool false,.nilS],.int .i64 114],e)) (Ac (Ad (.bin .eql .func true (.c (Ah z2 1))
  (.c .nilF))) (fun z7=>Ar z7 (some (.tup [.agg [.bool false,.bool false,.nilS],.int .i64 102],e)) (Ac (Am x2 0 3 true) (fun z8=>Ac (Am x1 0 3 true) (fun z9 =>
  Ac (Ad (.build [.bool false,.bool false,.nilS,.bool false,.bool false,.nilS] [(0,(3,.c z8)),(3,(3,.c z9))])) (fun z10=>Ac (Al B .cl (Ah z2 1) [z10]) (fun
  z11=>Ac (Ad (.extract 0 (.c z11))) (fun z12=>Ac (Ad (.extract 1 (.c z11))) (fun z13=>Ae (AF z12 3) (Ac (Al B .cl (.fn 68 []) [z13]) (fun z14=>some
  (.tup [.agg [Ah z12 0,Ah z12 1,Ah z12 2],z14],e)))))))))))))))))))))):=by kernel_rfl
theorem run67 (B:KB) {E:Type} (h:Ay E) (dep:Nat) (e:E) (x0:PV) :
  AR (AI B (fun _=>.cl)) fn67 (.cl) h dep [.cv x0] e =
  Ac (Al B .cl (.fn 127 []) [x0,.fn 128 []]) (fun z1=>Ac (Ad (.un .not (.c z1))) (fun z2=>some (z2,e))):=by kernel_rfl
theorem run68 (B:KB) {E:Type} (h:Ay E) (dep:Nat) (e:E) (x0:PV) :
  AR (AI B (fun _=>.cl)) fn68 (.cl) h dep [.cv x0] e =
  Ae (Fz 1 1) (asP 153 x0 (fun z1=>Ae (AF z1 1) (Ac (Am z1 0 1 false) (fun z2=>some (z2,e)))) (some (.int .i64 0,e))):=by kernel_rfl
theorem run118 (B:KB) {E:Type} (h:Ay E) (dep:Nat) (e:E) (x0:PV) :
  AR (AI B (fun _=>.cl)) fn118 (.cl) h dep [.cv x0] e =
  Ae (A3 x0) (Ac (Ac (Am x0 5 1 false) (fun z1=>Ac (Ad (.len .slice (.c z1))) (fun z2=>Ac (Ad (.bin .gtr .num true (.c z2) (.c (.int .i64 0)))) (fun z3 =>
  Ar z3 (Ac (Am x0 2 1 false) (fun z4=>Ac (Ad (.len .slice (.c z4))) (fun z5=>Ac (Ad (.bin .gtr .num true (.c z5) (.c (.int .i64 0)))) (fun z6=>Ar z6
  (Ac (Am x0 4 1 false) (fun z7=>Ac (Am x0 1 1 false) (fun z8=>Ac (Ad (.bin .neq .bool false (.c z7) (.c z8))) (fun z9=>some z9)))) (some (.bool false))))))
  (some (.bool false)))))) (fun z10=>Ar z10 (Ac (Ad (.build [.int .i64 0] [(0,(1,.c (.int .i64 102)))])) (fun z11=>some (.tup [.agg [.bool false,.bool false,.nilS],
  .iface 153 z11],e))) (Ac (Am x0 5 1 false) (fun z12=>Ac (Ad (.len .slice (.c z12))) (fun z13=>Ac (Am x0 2 1 false) (fun z14=>Ac (Ad (.len .slice (.c
  z14))) (fun z15=>Ac (Ad (.bin .add .num false (.c z13) (.c z15))) (fun z16=>Ac (Ad (.bin .gtr .num true (.c z16) (.c (.int .i64 200)))) (fun z17=>Ar z17 (Ac
  (Ad (.build [.int .i64 0] [(0,(1,.c (.int .i64 113)))])) (fun z18=>some (.tup [.agg [.bool false,.bool false,.nilS],.iface 153 z18],e))) (Ac (Am x0 3 3 true) (fun
  z19=>Ac (Al B .cl (.fn 164 []) [z19]) (fun z20=>Ar z20 (Ac (Am x0 5 1 false) (fun z21=>Ac (Am x0 2 1 false) (fun z22=>Ae (AY 1 [z21,z22]) (Ac
  (Bs B (.own 1) true 165 [AN 1 1 [z21,z22] 0 (Ai [z21,z22])]) (fun z23=>Ae (Bl (.tup [.agg [.bool true,.bool true,AN 1 1 (Av z23) 0 (Ai (Av z23))],
  .nilI])) (some (.tup [.agg [.bool true,.bool true,AN 1 1 (Av z23) 0 (Ai (Av z23))],.nilI],e))))))) (Ac (Am x0 0 3 true) (fun z24=>Ac (Al B .cl (.fn 164
  []) [z24]) (fun z25=>Ar z25 (Ac (Am x0 5 1 false) (fun z26=>Ac (Am x0 2 1 false) (fun z27=>Ae (AY 1 [z26,z27]) (Ac (Bs B (.own 1) true 165 [AN 1 1
  [z26,z27] 0 (Ai [z26,z27])]) (fun z28=>Ae (Bl (.tup [.agg [.bool true,.bool true,AN 1 1 (Av z28) 0 (Ai (Av z28))],.nilI])) (some (.tup [.agg [.bool true,
  .bool true,AN 1 1 (Av z28) 0 (Ai (Av z28))],.nilI],e))))))) (Ac (Am x0 4 1 false) (fun z29=>Ar z29 (Ac (Am x0 1 1 false) (fun z30=>Ac (Am x0 5 1
  false) (fun z31=>Ac (Am x0 2 1 false) (fun z32=>Ae (AY 1 [z31,z32]) (Ac (Bs B (.own 1) true 165 [AN 1 1 [z31,z32] 0 (Ai [z31,z32])]) (fun z33=>Ae
  (AF z30 1) (Ae (Bl (.tup [.agg [.bool true,Ah z30 0,AN 1 1 (Av z33) 0 (Ai (Av z33))],.nilI])) (some (.tup [.agg [.bool true,Ah z30 0,AN 1 1 (Av
  z33) 0 (Ai (Av z33))],.nilI],e))))))))) (Ac (Am x0 5 1 false) (fun z34=>Ac (Am x0 2 1 false) (fun z35=>Ae (AY 1 [z34,z35]) (Ac (Bs B (.own 1) true
  165 [AN 1 1 [z34,z35] 0 (Ai [z34,z35])]) (fun z36=>Ae (Bl (.tup [.agg [.bool true,.bool false,AN 1 1 (Av z36) 0 (Ai (Av z36))],.nilI])) (some (.tup [.agg
  [.bool true,.bool false,AN 1 1 (Av z36) 0 (Ai (Av z36))],.nilI],e)))))))))))))))))))))))):=by kernel_rfl
theorem run127 (B:KB) {E:Type} (h:Ay E) (dep:Nat) (e:E) (x0:PV) (x1:PV) :
  AR (AI B (fun _=>.cl)) fn127 (.cl) h dep [.cv x0,.cv x1] e =
  Ac (Al B .cl (.fn 168 []) [x0,x1]) (fun z1=>Ac (Ad (.bin .geq .num true (.c z1) (.c (.int .i64 0)))) (fun z2=>some (z2,e))):=by kernel_rfl
theorem run128 (B:KB) {E:Type} (h:Ay E) (dep:Nat) (e:E) (x0:PV) :
  AR (AI B (fun _=>.cl)) fn128 (.cl) h dep [.cv x0] e =
  Ae (A3 x0) (Ac (Am x0 0 3 true) (fun z1=>Ac (Al B .cl (.fn 27 []) [z1]) (fun z2=>Ac (Ad (.un .not (.c z2))) (fun z3=>some (z3,e))))):=by kernel_rfl
theorem run164 (B:KB) {E:Type} (h:Ay E) (dep:Nat) (e:E) (x0:PV) :
  AR (AI B (fun _=>.cl)) fn164 (.cl) h dep [.cv x0] e =
  Ae (A3 x0) (Ac (Ac (Am x0 1 1 false) (fun z1=>Ar z1 (Ac (Am x0 2 1 false) (fun z2=>Ac (Ad (.len .slice (.c z2))) (fun z3=>Ac (Ad (.bin .gtr
  .num true (.c z3) (.c (.int .i64 0)))) (fun z4=>some z4)))) (some (.bool false)))) (fun z5=>some (z5,e))):=by kernel_rfl
theorem run165 (B:KB) {E:Type} (h:Ay E) (dep:Nat) (e:E) (x0:PV) :
  AR (AI B (fun _=>.cl)) fn165 (.own 1) h dep [.cv x0] e =
  Ac (Ad (.len .slice (.c x0))) (fun z1=>Ae (Bp [x0,.int .i64 0,x0,z1,.int .i64 0]) (BL (fun z2=>Ac (Ad (.bin .lss .num false (.c (Aa z2.1 4)) (.c (Aa
  z2.1 3)))) (fun z3=>Ar z3 (Ac (Ad (.idxAddr 1 (.c (Aa z2.1 2)) (.c (Aa z2.1 4)))) (fun z4=>Ac (Ad (.load 1 false (.c z4))) (fun z5=>Ac (Ad (.len .slice
  (.c z5))) (fun z6=>Ac (Ad (.bin .add .num false (.c (Aa z2.1 1)) (.c z6))) (fun z7=>Ac (Ad (.bin .lss .num true (.c z7) (.c (.int .i64 0)))) (fun z8=>Ar z8
  none (Ac (Ad (.bin .add .num true (.c (Aa z2.1 4)) (.c (.int .i64 1)))) (fun z9=>some (.inl ([Aa z2.1 0,z7,Aa z2.1 2,Aa z2.1 3,z9],z2.2)))))))))) (Ac (Ac
  (Al B (.own 1) (.fn 190 []) [.nilS,Aa z2.1 1]) (fun z10=>Ac (Ad (.len .slice (.c (Aa z2.1 0)))) (fun z11=>Ae (Bp [nI (Ai (Av z10)),Aa z2.1 0,z11,
  .int .i64 0]) (BL (fun z12=>Ac (Ad (.bin .lss .num false (.c (Aa z12.1 3)) (.c (Aa z12.1 2)))) (fun z13=>Ar z13 (Ac (Ad (.idxAddr 1 (.c (Aa z12.1 1)) (.c
  (Aa z12.1 3)))) (fun z14=>Ac (Ad (.load 1 false (.c z14))) (fun z15=>Ac (Ia 1 z15) (fun z16=>Ae (BG (AO (An (Aa z12.1 0)) (Ai (Av (Aa z12.1 4))))
  (AO (AG (An (Aa z12.1 0)) (Ai z16)) 2147483648)) (Ac (Ad (.bin .add .num true (.c (Aa z12.1 3)) (.c (.int .i64 1)))) (fun z17=>some (.inl ([nI (AG (An (Aa
  z12.1 0)) (Ai z16)),Aa z12.1 1,Aa z12.1 2,z17,.sl 1 (BC (AE (An (Aa z12.1 0)) (Av (Aa z12.1 4))) z16) false],z12.2)))))))) (Ac (Ae (Fz (An (Aa z12.1
  0)) (Ai (Av (Aa z12.1 4)))) (some (.sl 1 (Av (Aa z12.1 4)) false,z12.2))) (fun z18=>some (.inr z18))))) ([nI (Ai (Av z10)),Aa z2.1 0,z11,.int .i64 0,.sl 1
  (Av z10) false],z2.2))))) (fun z19=>some (.inr z19))))) ([x0,.int .i64 0,x0,z1,.int .i64 0],e))):=by kernel_rfl
theorem run168 (B:KB) {E:Type} (h:Ay E) (dep:Nat) (e:E) (x0:PV) (x1:PV) :
  AR (AI B (fun _=>.cl)) fn168 (.cl) h dep [.cv x0,.cv x1] e =
  Ac (Ad (.len .slice (.c x0))) (fun z1=>Ae (Bp [x0,x1,z1,.int .i64 0]) (BL (fun z2=>Ac (Ad (.bin .lss .num false (.c (Aa z2.1 3)) (.c (Aa z2.1 2))))
  (fun z3=>Ar z3 (Ac (Ad (.idxAddr 3 (.c (Aa z2.1 0)) (.c (Aa z2.1 3)))) (fun z4=>Ac (Ad (.load 3 true (.c z4))) (fun z5=>Ac (Al B .cl (Aa z2.1 1) [z5])
  (fun z6=>Ar z6 (Ac (some (Aa z2.1 3,z2.2)) (fun z7=>some (.inr z7))) (Ac (Ad (.bin .add .num true (.c (Aa z2.1 3)) (.c (.int .i64 1)))) (fun z8=>some (.inl
  ([Aa z2.1 0,Aa z2.1 1,Aa z2.1 2,z8],z2.2)))))))) (Ac (some (.int .i64 (-1),z2.2)) (fun z9=>some (.inr z9))))) ([x0,x1,z1,.int .i64 0],e))):=by kernel_rfl
end Go.Ab


namespace Go.Ab.Derive2
open Go Go.Ab
def ps0:List (Nat×Nat):=[(126,124),(146,145),(154,153),(182,143)]
def Bb (g:FuncId) (σ:Nm->Option Ob) (vs:List PV):Option AK :=
 if g=95 then Ib ps0 σ vs
 else if g=159 then spIsG [1,2] 265 [143] vs
 else if g=190 then Qc vs
 else if g=157 then TM vs
 else if g=158 then spFmt vs
 else if g=156 then NO 130 σ vs
 else if g=99 then OA 130 5 σ vs
 else if g=202 then KL .u32 σ vs
 else if g=218 then Ky .u32 σ vs
 else if g=216 then Ju .i32 0 1 σ vs
 else if g=217 then Ju .i32 1 0 σ vs
 else none
noncomputable def B0:KB:={sp:=Bb,L:=XL Bb A1,I:=QH Bb A1,isIo:=EU A1,leans:=F4 A1}
end Go.Ab.Derive2


namespace Go.Ab.Derive2
open Go Go.Ab
def JZ (g:FuncId):Prop:=g≠95/\g≠159/\g≠190/\g≠157/\g≠158/\g≠156/\g≠99/\g≠202/\g≠218/\g≠216/\g≠217
instance (g:FuncId):Decidable (JZ g):=by unfold JZ;infer_instance
theorem NN {g:FuncId} (h:JZ g) (σ:Nm->Option Ob) (vs:List PV):Bb g σ vs=none:=by
 unfold Bb;rw[if_neg h.1,if_neg h.2.1,if_neg h.2.2.1,if_neg h.2.2.2.1,if_neg h.2.2.2.2.1,if_neg h.2.2.2.2.2.1,if_neg h.2.2.2.2.2.2.1,if_neg h.2.2.2.2.2.2.2.1,if_neg h.2.2.2.2.2.2.2.2.1,if_neg h.2.2.2.2.2.2.2.2.2.1,if_neg h.2.2.2.2.2.2.2.2.2.2]
set_option maxHeartbeats 2000000 in
theorem Xw (g:FuncId):JJ (Bb g):=by
 intro σ σ' vs h;unfold Bb;split;·exact as_here ps0 σ σ' vs h
 split;·rfl
 split;·rfl
 split;·rfl
 split;·rfl
 split;·exact bp 130 σ σ' vs h
 split;·exact str_here 130 5 σ σ' vs h
 split;·exact load_here .u32 σ σ' vs h
 split;·exact ZG .u32 σ σ' vs h
 split;·exact VN .i32 0 1 σ σ' vs h
 split;·exact VN .i32 1 0 σ σ' vs h
 rfl
theorem Ty:∀ g,(iof0 g).isSome=EU A1 g:=by
 intro g;unfold iof0 EU;split;·rfl
 ·rfl
 ·rfl
 ·rfl
 ·rfl
 ·rfl
 ·rfl
 ·rfl
 ·rfl
 ·rfl
 ·rfl
 ·rfl
 ·rfl
 ·rfl
 ·rfl
 ·rfl
 ·rfl
 ·rename_i h0 h1 h2 h3 h4 h5 h6 h7 h8 h9 h10 h11 h12 h13 h14 h15 h16;split
  ·rename_i fn ht;unfold A1 at ht;split at ht
   all_goals first | (exact (h0 rfl).elim) | (exact (h1 rfl).elim) | (exact (h2 rfl).elim) | (exact (h3 rfl).elim) | (exact (h4 rfl).elim) | (exact (h5 rfl).elim) | (exact (h6 rfl).elim) | (exact (h7 rfl).elim) | (exact (h8 rfl).elim) | (exact (h9 rfl).elim) | (exact (h10 rfl).elim) | (exact (h11 rfl).elim) | (exact (h12 rfl).elim) | (exact (h13 rfl).elim) | (exact (h14 rfl).elim) | (exact (h15 rfl).elim) | (exact (h16 rfl).elim) | (cases ht;done) | (cases ht;rfl)
  ·rfl
theorem B8 (d:Nat->Bq):DJ (AI B0 d) A1 where
 L:=rfl
 I:=rfl
 isIo:=rfl
 leans:=rfl
 flat g h:=by simp only[AI,dZ,beq_iff_eq] at h;rcases h with rfl | rfl<;>kernel_rfl
 ioF g:=Ty g
 ioP g P h:=by
  simp only[AI,iof0] at h;split at h;·cases h;exact⟨HJ,rfl,by decide,fun xs os=>by show (K8 xs os).args.length<=_/\(K8 xs os).ins.length<=_;unfold K8;split<;>exact⟨bJ rfl,bJ rfl⟩⟩
  ·cases h;exact⟨fn49,rfl,by decide,fun xs os=>⟨bJ rfl,bJ rfl⟩⟩
  ·cases h;exact⟨fn84,rfl,by decide,fun xs os=>⟨bJ rfl,bJ rfl⟩⟩
  ·cases h;exact⟨fn85,rfl,by decide,fun xs os=>⟨bJ rfl,bJ rfl⟩⟩
  ·cases h;exact⟨Ka,rfl,by decide,fun xs os=>by show (ME xs os).args.length<=_/\(ME xs os).ins.length<=_;unfold ME;split<;>exact⟨bJ rfl,bJ rfl⟩⟩
  ·cases h;exact⟨fn88,rfl,by decide,fun xs os=>⟨bJ rfl,bJ rfl⟩⟩
  ·cases h;exact⟨fn89,rfl,by decide,fun xs os=>⟨bJ rfl,bJ rfl⟩⟩
  ·cases h;exact⟨fn96,rfl,by decide,fun xs os=>⟨bJ rfl,bJ rfl⟩⟩
  ·cases h;exact⟨QY,rfl,by decide,fun xs os=>⟨bJ rfl,bJ rfl⟩⟩
  ·cases h;exact⟨QX,rfl,by decide,fun xs os=>⟨bJ rfl,bJ rfl⟩⟩
  ·cases h;exact⟨QW,rfl,by decide,fun xs os=>⟨bJ rfl,bJ rfl⟩⟩
  ·cases h;exact⟨QV,rfl,by decide,fun xs os=>⟨bJ rfl,bJ rfl⟩⟩
  ·cases h;exact⟨QU,rfl,by decide,fun xs os=>⟨bJ rfl,bJ rfl⟩⟩
  ·cases h;exact⟨QT,rfl,by decide,fun xs os=>⟨bJ rfl,bJ rfl⟩⟩
  ·cases h;exact⟨QS,rfl,by decide,fun xs os=>⟨bJ rfl,bJ rfl⟩⟩
  ·cases h;exact⟨QR,rfl,by decide,fun xs os=>⟨bJ rfl,bJ rfl⟩⟩
  ·cases h;exact⟨QQ,rfl,by decide,fun xs os=>⟨bJ rfl,bJ rfl⟩⟩
  ·cases h
 spF g h σ vs:=by
  simp only[AI,dJ,beq_eq_false_iff_ne] at h;obtain⟨⟨⟨⟨⟨⟨⟨⟨⟨⟨h0,h1⟩,h2⟩,h3⟩,h4⟩,h5⟩,h6⟩,h7⟩,h8⟩,h9⟩,h10⟩:=h;exact NN ⟨h0,h1,h10,h2,h3,h4,h5,h6,h7,h8,h9⟩ σ vs
 loc g σ vs hv:=cfg_loc Xw g σ vs hv
 spK g s h σ xs out hx hσ hs:=by
  simp only[AI] at h;split at h;·rename_i hg;subst hg;cases h;exact kLoad_ok hs
  split at h;·rename_i hg;subst hg;cases h;exact kStore_ok hσ hs
  split at h;·rename_i hg;subst hg;cases h;exact W1 hσ hs
  split at h;·rename_i hg;subst hg;cases h;exact W1 hσ hs
  cases h
 asOk g p t n h σ nm ty cs h1 h2:=by
  have e:∀ σ vs,Bb 95 σ vs=Ib ps0 σ vs:=fun _ _=>rfl;simp only[AI] at h;split at h
  ·rename_i hc;obtain⟨rfl,rfl⟩:=hc;cases h;exact Qw (ps:=ps0) (p:=126) (t:=124) rfl h1 h2
  split at h
  ·rename_i hc;obtain⟨rfl,rfl⟩:=hc;cases h;exact Qw (ps:=ps0) (p:=146) (t:=145) rfl h1 h2
  split at h
  ·rename_i hc;obtain⟨rfl,rfl⟩:=hc;cases h;exact Qw (ps:=ps0) (p:=154) (t:=153) rfl h1 h2
  split at h
  ·rename_i hc;obtain⟨rfl,rfl⟩:=hc;cases h;exact Qw (ps:=ps0) (p:=182) (t:=143) rfl h1 h2
  cases h
theorem call {d:Nat->Bq} {g:FuncId} {fn:At} {sh:Bq} {args:List PV} {u:PV} (ht:A1 g=some fn) (hg:JZ g) (ha:Ao args=true) (hl:Nat.ble args.length fn.nt=true)
  (hr:AR (AI B0 d) fn sh AD 0 (args.map KV.cv) ()=some (u,())) (hio:fn.io=false:=by rfl) (hb:Nat.blt g CQ=true:=by rfl):Al B0 sh (.fn g []) args=some u:=by
 refine UY (B8 d) ht (cap:=[]) (by simpa using ha) (by simpa using bJ hl) (NN hg (fun _=>none) _) ?_ hio hb;simpa using hr
theorem callK {d:Nat->Bq} {g:FuncId} {fn:At} {sh:Bq} {args:List PV} {xs:List KV} {u:PV} (ht:A1 g=some fn) (hg:JZ g) (hx:A4 xs) (hun:∀ x∈xs,EF x=false) (hpv:AJ xs=args) (hl:Nat.ble xs.length fn.nt=true)
  (hr:AR (AI B0 d) fn sh AD 0 xs ()=some (u,())) (hio:fn.io=false:=by rfl) (hb:Nat.blt g CQ=true:=by rfl):Al B0 sh (.fn g []) args=some u :=
 YP (B8 d) ht hx hun hpv (bJ hl) (NN hg (fun _=>none) _) hr hio hb
theorem Cv {g:FuncId} {n:Nat} {args:List PV} {u:PV} (hg:JZ g) (h:Bc Bb A1 n Unit AD 0 g args ()=some (u,[],())) (hu:okV u=true) (hio:EU A1 g=false) (hb:Nat.blt g CQ=true:=by rfl):Al B0 .cl (.fn g []) args=some u:=by
 have hid:AW g=g:=by simp[AW,hb]
 have hfa:Bv g args []=args:=by simp[Bv,hb]
 obtain⟨e2,_,h2⟩:=Sm n Unit Unit (fun _ _=>True) AD (fun _=>AD) (fun _ _ _ _ _ _ _ h=>by cases h) 0 g args () () trivial _ _ _ h;have hL:B0.L Unit AD 0 g args ()=some (u,[],()):=Jy h2;have hI:B0.isIo g=false:=hio;have hs:B0.sp g (fun _=>none) args=none:=NN hg _ _;unfold Al;simp[hid,hfa,spO,hs,hI,hL,DW,Ct,hu,Ae]
end Go.Ab.Derive2


namespace Go.Ab.Derive2
open Go Go.Ab
theorem EJ {n:Int} (h1 : -9223372036854775808<=n) (h2:n<=9223372036854775807):IntKind.i64.wrap n=n:=IntWalk.i64_in _ ⟨h1,h2⟩
def I (n:Int):PV:=.int .i64 n
def As (l:List Int):List PV:=l.map I
theorem BS (l:List Int):(As l).length=l.length:=by simp[As]
theorem W8 {l:List Int} {i:Nat} (h:i < l.length):(As l)[i]?=some (I l[i]):=by simp[As,h]
theorem LI (l:List Int) (k:Nat):(As l).take k=As (l.take k):=by simp[As,List.map_take]
theorem Wj (l:List Int) (k:Nat):(As l).drop k=As (l.drop k):=by simp[As,List.map_drop]
theorem W9 (l m:List Int):As l++As m=As (l++m):=by simp[As]
theorem FW (l:List Int):Ao (As l)=true:=by
 induction l with
 | nil=>rfl
 | cons a l ih=>simpa[As,Ao,okV,I] using ih
inductive A5:PV->List Int->Prop
 | nil:A5 .nilS []
 | sl (l:List Int) (f:Bool):A5 (.sl 1 (As l) f) l
theorem A5.ok {v:PV} {l:List Int} (h:A5 v l):okV v=true:=by
 cases h with
 | nil=>rfl
 | sl f=>simp[okV,FW]
theorem A5.cells {v:PV} {l:List Int} (h:A5 v l):v.cells=[v]:=by cases h<;>rfl
theorem A5.val {v:PV} {l:List Int} (h:A5 v l):v.isVal=true:=by cases h<;>rfl
theorem A5.cell {v:PV} {l:List Int} (h:A5 v l):v.isCell=true:=by cases h<;>rfl
theorem A5.und {v:PV} {l:List Int} (h:A5 v l):Gy v=false:=by cases h<;>rfl
theorem A5.len {v:PV} {l:List Int} (h:A5 v l):Ad (.len .slice (.c v))=some (I l.length):=by
 cases h with
 | nil=>rfl
 | sl f=>rw[Hl,BS];rfl
theorem A5.idx {v:PV} {l:List Int} (h:A5 v l) {i:Nat} (hi:i < l.length):Ad (.idxAddr 1 (.c v) (.c (I i)))=some (.ptr [I l[i]] 0):=by
 cases h with
 | nil=>simp at hi
 | sl f=>exact Nl (by omega) (W8 hi)
theorem A5.elems {v:PV} {l:List Int} (h:A5 v l):Ia 1 v=some (As l):=by
 cases h with
 | nil=>rfl
 | sl f=>simp[Ia,Go.Ab.elems,AC]
theorem A5.hi {v:PV} {l:List Int} (h:A5 v l) {k:Nat} (hk:k<=l.length):∃ u,Ad (.slice 1 (.c v) none (some (.c (I k))) none)=some u/\A5 u (l.take k):=by
 cases h with
 | nil =>
  have:k=0:=by simpa using hk
  subst this;exact⟨.nilS,by simp[Ad,exec,RX.ev,B6,Cn,CS,AC,I,EP],.nil⟩
 | sl _ f =>
  have hk':k<=(As l).length:=by rw[BS];exact hk
  refine⟨.sl 1 (As (l.take k)) (f&&k==(As l).length),?_,.sl _ _⟩;simp[Ad,exec,RX.ev,B6,Cn,CS,AC,I,hk',LI,EP]
@[simp] theorem H6 (n:Int):Ad (.load 1 false (.c (.ptr [I n] 0)))=some (I n):=rfl
@[simp] theorem Bf {c:TC} {b:Bool} (a n:Int):Ad (.bin .lss c b (.c (I a)) (.c (I n)))=some (.bool (decide (a < n))):=pure_lss a n
@[simp] theorem Fw {c:TC} {b:Bool} (a n:Int):Ad (.bin .eql c b (.c (I a)) (.c (I n)))=some (.bool (a==n)):=WN a n
@[simp] theorem G9 {c:TC} {b:Bool} (a n:Int):Ad (.bin .neq c b (.c (I a)) (.c (I n)))=some (.bool (a != n)):=WK a n
@[simp] theorem CU {c:TC} {b:Bool} (a n:Int):Ad (.bin .add c b (.c (I a)) (.c (I n)))=some (I (IntKind.i64.wrap (a+n))):=ND a n
@[simp] theorem IR {c:TC} {b:Bool} (a n:Int):Ad (.bin .sub c b (.c (I a)) (.c (I n)))=some (I (IntKind.i64.wrap (a - n))):=pure_sub a n
@[simp] theorem Ih {c:TC} {b:Bool} (a n:Int):Ad (.bin .geq c b (.c (I a)) (.c (I n)))=some (.bool (decide (n<=a))):=pure_geq a n
@[simp] theorem I_leq {c:TC} {b:Bool} (a n:Int):Ad (.bin .leq c b (.c (I a)) (.c (I n)))=some (.bool (decide (a<=n))):=WM a n
@[simp] theorem Fv {c:TC} {b:Bool} (a n:Int):Ad (.bin .gtr c b (.c (I a)) (.c (I n)))=some (.bool (decide (n < a))):=pure_gtr a n
theorem A7 (n:Int):PV.int .i64 n=I n:=rfl
@[simp] theorem okV_I (n:Int):okV (I n)=true:=rfl
@[simp] theorem cells_I (n:Int):(I n).cells=[I n]:=rfl
@[simp] theorem isUndef_I (n:Int):Gy (I n)=false:=rfl
@[simp] theorem isVal_I (n:Int):(I n).isVal=true:=rfl
@[simp] theorem isCell_I (n:Int):(I n).isCell=true:=rfl
@[simp] theorem ER (n:Int):An (I n)=n.toNat:=rfl
theorem ED {i:Nat} (h:i < 9223372036854775807):IntKind.i64.wrap ((i:Int)+1)=((i+1:Nat):Int):=by rw[EJ (by omega) (by omega)];omega
structure Af where
 li:Bool
 ru:Bool
 n:List Int
inductive AL:PV->Af->Prop
 | mk (li ru:Bool) (x:PV) (l:List Int) (h:A5 x l):AL (.agg [.bool li,.bool ru,x]) ⟨li,ru,l⟩
theorem AL.ok {v:PV} {a:Af} (h:AL v a):okV v=true:=by
 obtain⟨li,ru,x,l,h⟩:=h;simp[okV,Ao,h.ok]
theorem AL.get {v:PV} {a:Af} (h:AL v a):∃ x,v=.agg [.bool a.li,.bool a.ru,x]/\A5 x a.n:=by
 obtain⟨li,ru,x,l,h⟩:=h;exact⟨x,rfl,h⟩
def AZ:Af:=⟨false,false,[]⟩
theorem B2:AL (.agg [.bool false,.bool false,.nilS]) AZ:=.mk _ _ _ _ .nil
@[simp] theorem Dh (cs:List PV):A3 (.agg cs)=(PV.agg cs).isVal:=rfl
theorem BU {a b c:PV} (ha:a.isCell=true) (hb:b.isCell=true) (hc:c.isCell=true):(PV.agg [a,b,c]).isVal=true:=by simp[PV.isVal,ha,hb,hc]
theorem GC (a b c:PV):BE [a,b,c] 0 1 false=some a:=rfl
theorem GB (a b c:PV):BE [a,b,c] 1 1 false=some b:=rfl
theorem Gc (a b c:PV):BE [a,b,c] 2 1 false=some c:=rfl
theorem H5 (a b c:PV):BE [a,b,c] 0 3 true=some (.agg [a,b,c]):=rfl
theorem build3 {z a b c:PV} (ha:a.cells=[a]) (hb:b.cells=[b]) (hc:c.cells=[c]) (va:a.isVal=true) (vb:b.isVal=true) (vc:c.isVal=true) (x y:PV) :
  Ad (.build [x,y,z] [(0,(1,.c a)),(1,(1,.c b)),(2,(1,.c c))])=some (.agg [a,b,c]):=by
 simp[Ad,exec,DS,RX.ev,ha,hb,hc,va,vb,vc,splice,AC]
theorem Ks {a b c:PV} (h:(PV.agg [a,b,c]).isVal=true):AF (.agg [a,b,c]) 3=true:=by simp[AF,h]
@[simp] theorem Ho (a b c:PV):Ah (.agg [a,b,c]) 0=a:=rfl
@[simp] theorem HW (a b c:PV):Ah (.agg [a,b,c]) 1=b:=rfl
@[simp] theorem HV (a b c:PV):Ah (.agg [a,b,c]) 2=c:=rfl
theorem XJ {n:Nat} (k:Nat) (c:Int) (hc:c=k):Ad (.minmax false [.c (I n),.c (.int .i64 c)])=some (I (min n k:Nat)):=by
 subst hc;simp only[Ad,exec,bz,bC,RX.ev,H9,I];by_cases h:n<=k
 ·have:¬ (k:Int) < (n:Int):=by omega
  simp[this,cq h,AC]
 ·have:(k:Int) < (n:Int):=by omega
  simp[this,eM (by omega:k<=n),AC]
theorem short_run (s:List UInt8):Al B0 .cl (.fn 14 []) [.str s]=some (.str (s.take 20)):=by
 refine call (d:=fun _=>.cl) rfl (by decide) rfl rfl ?_;rw[bz,bC,run14];simp only[pure_lens,Ap];rw[A7,XJ 20 20 rfl];simp only[Ap,I];rw[pure_ssl2 (by omega)];simp only[Ap];congr 3;rcases Nat.le_total s.length 20 with h | h;·rw[cq h,dN,b8 h]
 ·rw[eM h]
def Hf (n:Int):Bool:=decide (0<=n)&&(decide (n<=1114111)&&(decide (n < 55296)||decide (57343 < n)))
theorem rune_run (n:Int):Al B0 .cl (.fn 54 []) [I n]=some (.bool (Hf n)):=by
 refine call (d:=fun _=>.cl) rfl (by decide) rfl rfl ?_;rw[bz,bC,run54];simp only[A7,Ih,I_leq,Bf,Fv,Ap,AA];unfold Hf;by_cases h1:0<=n<;>by_cases h2:n<=1114111<;>by_cases h3:n < 55296<;>simp[h1,h2,h3]
theorem other_run (n:Int):Al B0 .cl (.fn 53 []) [I n]=some (.bool (!Hf n)):=by
 refine call (d:=fun _=>.cl) rfl (by decide) rfl rfl ?_;rw[bz,bC,run53,rune_run];simp
def De (p:Int->Bool) (i:Nat):List Int->Int
 | [] => -1
 | x :: l=>if p x then (i:Int) else De p (i+1) l
theorem idxP_any (p:Int->Bool):∀ (l:List Int) (i:Nat),decide (0<=De p i l)=l.any p:=by
 intro l;induction l with
 | nil=>intro i;rfl
 | cons x l ih =>
  intro i;simp only[De,List.any_cons];by_cases hx:p x=true
  ·simp[hx]
  ·have:=ih (i+1);simp only[hx,bA,if_false,this];simp[hx]
theorem LK {α:Type} {l:List α} {i:Nat} (h:i < l.length):l.drop i=l[i] :: l.drop (i+1):=by rw[cZ h]
theorem index_run {v f:PV} {l:List Int} {p:Int->Bool} (hv:A5 v l) (hl:l.length<=1000000) (hf:okV f=true) (hu:Gy f=false) (hp:∀ n∈l,Al B0 .cl f [I n]=some (.bool (p n))) :
  Al B0 .cl (.fn 91 []) [v,f]=some (I (De p 0 l)):=by
 refine call (d:=fun _=>.cl) rfl (by decide) (by simp[Ao,hv.ok,hf]) rfl ?_;rw[bz,bz,bC,run91,hv.len];simp only[Ap];have h0:Bp [v,f,I l.length,.int .i64 0]=true:=by simp[Bp,hv.und,hu,A7]
 rw[h0,AH]
 have key:∀ m i,i+m=l.length->BL (fun z2=>Ac (Ad (.bin .lss .num false (.c (Aa z2.1 3)) (.c (Aa z2.1 2)))) (fun z3=>Ar z3 (Ac (Ad (.idxAddr 1 (.c (Aa z2.1 0)) (.c (Aa z2.1 3)))) (fun z4=>Ac (Ad (.load 1 false (.c z4))) (fun z5=>Ac (Al B0 .cl (Aa z2.1 1) [z5]) (fun z6=>Ar z6 (Ac (some (Aa z2.1 3,z2.2)) (fun z7=>some (.inr z7))) (Ac (Ad (.bin .add .num true (.c (Aa z2.1 3)) (.c (.int .i64 1)))) (fun z8=>some (.inl ([Aa z2.1 0,Aa z2.1 1,Aa z2.1 2,z8],z2.2)))))))) (Ac (some (.int .i64 (-1),z2.2)) (fun z9=>some (.inr z9))))) (([v,f,I l.length,I i],()):List PV×Unit)=some (I (De p i (l.drop i)),()):=by
  intro m;induction m with
  | zero =>
   intro i hi;refine Cj ?_;have:i=l.length:=by omega
   subst this;simp[De];rfl
  | succ m ih =>
   intro i hi;have hlt:i < l.length:=by omega
   rw[LK hlt];by_cases hpx:p l[i]=true
   ·refine Cj ?_;simp only[Be,Bd,Bj,Bu,Bf,Ap,AA];rw[if_pos (by simpa using hlt),hv.idx hlt];simp[hp _ (dk hlt),hpx,De]
   ·rw[D4 (s':=([v,f,I l.length,I ((i+1:Nat):Int)],()))]
    ·rw[ih (i+1) (by omega)];simp[De,hpx]
    ·simp only[Be,Bd,Bj,Bu,Bf,Ap,AA];rw[if_pos (by simpa using hlt),hv.idx hlt];simp[hp _ (dk hlt),hpx,A7,ED (by omega:i < 9223372036854775807)]
 have:=key l.length 0 (by omega);simpa[A7] using this
theorem any_run {v f:PV} {l:List Int} {p:Int->Bool} (hv:A5 v l) (hl:l.length<=1000000) (hf:okV f=true) (hu:Gy f=false) (hp:∀ n∈l,Al B0 .cl f [I n]=some (.bool (p n))) :
  Al B0 .cl (.fn 55 []) [v,f]=some (.bool (l.any p)):=by
 refine call (d:=fun _=>.cl) rfl (by decide) (by simp[Ao,hv.ok,hf]) rfl ?_;rw[bz,bz,bC,run55,index_run hv hl hf hu hp];simp only[Ap,A7,Ih,idxP_any]
def Af.right (a:Af):Bool:=!(a.ru&&a.n.any fun n=>!Hf n)&&(if a.li then decide (a.n.length<=200) else decide (a.n.length=1))
theorem HS {v:PV} {a:Af} (h:AL v a) (hl:a.n.length<=1000000):Al B0 .cl (.fn 27 []) [v]=some (.bool a.right):=by
 obtain⟨x,rfl,hx⟩:=h.get;refine call (d:=fun _=>.cl) rfl (by decide) (by simp[Ao,h.ok]) rfl ?_;rw[bz,bC,run27,Dh,BU rfl rfl hx.cell,AH];have ha:=any_run (f:=.fn 53 []) (p:=fun n=>!Hf n) hx hl rfl rfl fun n _=>other_run n;simp only[BP,BH,GC,GB,Gc,Ap,hx.len,ha,AA,A7,I_leq,Fw];unfold Af.right
 have e1:decide ((a.n.length:Int)<=200)=decide (a.n.length<=200):=by
  by_cases h:a.n.length<=200
  ·simp[h];omega
  ·have:¬ (a.n.length:Int)<=200:=by omega
   simp[h,this]
 have e2:((a.n.length:Int)==1)=decide (a.n.length=1):=by
  by_cases h:a.n.length=1
  ·simp[h]
  ·have:¬ (a.n.length:Int)=1:=by omega
   simp[h,this]
 rw[e1,e2];cases a.ru<;>cases a.li<;>cases a.n.any (fun n=>!Hf n)<;>simp
def eqL:List Int->List Int->Bool
 | [],[]=>true
 | x :: xs,y :: ys=>x==y&&eqL xs ys
 | _,_=>false
theorem eqL_iff:∀ (a b:List Int),eqL a b=true↔a=b:=by
 intro a;induction a with
 | nil=>intro b;cases b<;>simp[eqL]
 | cons x a ih=>intro b;cases b<;>simp[eqL,ih]
theorem equal_run {v u:PV} {l m:List Int} (hv:A5 v l) (hu:A5 u m) (hl:l.length<=1000000) (hm:m.length<=1000000):Al B0 .cl (.fn 52 []) [v,u]=some (.bool (eqL l m)):=by
 refine call (d:=fun _=>.cl) rfl (by decide) (by simp[Ao,hv.ok,hu.ok]) rfl ?_;rw[bz,bz,bC,run52,hv.len,hu.len];simp only[Ap,G9,AA];by_cases hlm:l.length=m.length
 ·have h1:(((l.length:Int) != (m.length:Int))=true)↔False:=by simp[hlm]
  simp only[h1,if_false];have h0:Bp [v,u,I l.length,.int .i64 0]=true:=by simp[Bp,hv.und,hu.und,A7]
  rw[h0,AH]
  have key:∀ k i,i+k=l.length->BL (fun z5=>Ac (Ad (.bin .lss .num false (.c (Aa z5.1 3)) (.c (Aa z5.1 2)))) (fun z6=>Ar z6 (Ac (Ad (.idxAddr 1 (.c (Aa z5.1 0)) (.c (Aa z5.1 3)))) (fun z7=>Ac (Ad (.load 1 false (.c z7))) (fun z8=>Ac (Ad (.idxAddr 1 (.c (Aa z5.1 1)) (.c (Aa z5.1 3)))) (fun z9=>Ac (Ad (.load 1 false (.c z9))) (fun z10=>Ac (Ad (.bin .neq .num false (.c z8) (.c z10))) (fun z11=>Ar z11 (Ac (some (PV.bool false,z5.2)) (fun z12=>some (.inr z12))) (Ac (Ad (.bin .add .num true (.c (Aa z5.1 3)) (.c (.int .i64 1)))) (fun z13=>some (.inl ([Aa z5.1 0,Aa z5.1 1,Aa z5.1 2,z13],z5.2)))))))))) (Ac (some (PV.bool true,z5.2)) (fun z14=>some (.inr z14))))) (([v,u,I l.length,I i],()):List PV×Unit)=some (.bool (eqL (l.drop i) (m.drop i)),()):=by
   intro k;induction k with
   | zero =>
    intro i hi;refine Cj ?_;have h2:l.drop i=[]:=dC (by omega);have h3:m.drop i=[]:=dC (by omega);have:¬ (i < l.length):=by omega
    simp[h2,h3,eqL,this]
   | succ k ih =>
    intro i hi;have hlt:i < l.length:=by omega
    have hlt':i < m.length:=by omega
    rw[LK hlt,LK hlt'];by_cases hx:l[i]=m[i]
    ·rw[D4 (s':=([v,u,I l.length,I ((i+1:Nat):Int)],()))]
     ·rw[ih (i+1) (by omega)];simp[eqL,hx]
     ·simp only[Be,Bd,Bj,Bu,Bf,Ap,AA];rw[if_pos (by simpa using hlt),hv.idx hlt,hu.idx hlt'];simp[hx,A7,ED (by omega:i < 9223372036854775807)]
    ·refine Cj ?_;simp only[Be,Bd,Bj,Bu,Bf,Ap,AA];rw[if_pos (by simpa using hlt),hv.idx hlt,hu.idx hlt'];simp[hx,eqL]
  have:=key l.length 0 (by omega);simpa[A7] using this
 ·have:¬ (l.length:Int)=(m.length:Int):=by omega
  have h2:eqL l m=false:=by
   cases he:eqL l m with
   | false=>rfl
   | true=>exact absurd (congrArg List.length ((eqL_iff l m).1 he)) hlm
  simp[this,h2]
def Af.same (a b:Af):Bool:=a.li==b.li&&(a.ru==b.ru&&eqL a.n b.n)
theorem same_run {v u:PV} {a b:Af} (hv:AL v a) (hu:AL u b) (ha:a.n.length<=1000000) (hb:b.n.length<=1000000):Al B0 .cl (.fn 26 []) [v,u]=some (.bool (a.same b)):=by
 obtain⟨x,rfl,hx⟩:=hv.get;obtain⟨y,rfl,hy⟩:=hu.get;refine call (d:=fun _=>.cl) rfl (by decide) (by simp[Ao,hv.ok,hu.ok]) rfl ?_;rw[bz,bz,bC,run26,Dh,Dh,BU rfl rfl hx.cell,BU rfl rfl hy.cell,AH,AH];simp only[BP,BH,GC,GB,Gc,Ap,LS,AA,equal_run hx hy ha hb];unfold Af.same;cases (a.li==b.li)<;>cases (a.ru==b.ru)<;>simp
end Go.Ab.Derive2


namespace Go.Ab.Derive2
open Go Go.Ab
theorem lendN {g:FuncId} {fn:At} {fr:Bool} {args:List PV} {u:PV} {d:Nat->Bq} (ht:A1 g=some fn) (ha:Ao args=true) (hl:Nat.ble args.length fn.nt=true)
  (hr:AR (AI B0 d) fn .cl AD 0 (args.map KV.cv) ()=some (u,())) (hfr:(u.free&&!F4 A1 g)=fr):Bs B0 .cl fr g args=some u :=
 RU (B8 d) ht ha (bJ hl) hr hfr
inductive NE where
 | ok | over | div
 | dom (g:List UInt8)
def NE.pv:NE->PV
 | .ok=>.nilI
 | .over=>.glob 1 265
 | .div=>.glob 2 265
 | .dom g=>.iface 143 (.agg [.str g])
def NE.no:NE->Int
 | .ok=>0
 | .over=>100
 | .div=>101
 | .dom _=>102
theorem NE.okV (e:NE):okV e.pv=true:=by cases e<;>rfl
theorem NE.und (e:NE):Gy e.pv=false:=by cases e<;>rfl
theorem is_over (e:NE):Al B0 .cl (.fn 159 []) [e.pv,.glob 1 265]=some (.bool (match e with | .over=>true | _=>false)):=by
 refine VE (B8 fun _=>.cl) ?_ rfl;cases e<;>rfl
theorem is_div (e:NE):Al B0 .cl (.fn 159 []) [e.pv,.glob 2 265]=some (.bool (match e with | .div=>true | _=>false)):=by
 refine VE (B8 fun _=>.cl) ?_ rfl;cases e<;>rfl
theorem Pm (e:NE):Al B0 .cl (.fn 110 []) [e.pv]=some (I e.no):=by
 refine call (d:=fun _=>.cl) rfl (by decide) (by simp[Ao,NE.okV]) rfl ?_;rw[bz,bC,run110];simp only[show Ad (.load 1 false (.c (.ptr [.glob 1 265] 0)))=some (.glob 1 265) from rfl,show Ad (.load 1 false (.c (.ptr [.glob 2 265] 0)))=some (.glob 2 265) from rfl,Ap,is_over,is_div,AA];cases e<;>rfl
def BW (r:Int×NE):PV:=.tup [I r.1,r.2.pv]
def Ik (b:Bool) (n:Int) (e:NE):Int×NE:=if b then (n,.ok) else (0,e)
theorem Fi (r:Int×NE):Ad (.extract 0 (.c (BW r)))=some (I r.1):=rfl
theorem Fh (r:Int×NE):Ad (.extract 1 (.c (BW r)))=some r.2.pv:=rfl
theorem MJ (n:Int) (e:NE) (b:Bool):Bs B0 .cl false 108 [I n,e.pv,.sl 1 [.bool b] false]=some (BW (Ik b n e)):=by
 refine lendN (d:=fun _=>.cl) rfl (by simp[Ao,NE.okV,okV]) rfl ?_ (by rw[show F4 A1 108=true from rfl,ce,Bool.and_false]);rw[bz,bz,bz,bC,run108,Hl];simp only[Ap];rw[show Bp [I n,e.pv,.sl 1 [.bool b] false,.int .i64 (([PV.bool b].length:Nat):Int),.int .i64 0]=true by simp only[Bp,cS,NE.und];rfl,AH];cases b with
 | false=>exact Cj rfl
 | true =>
  rw[D4 (s':=([I n,e.pv,.sl 1 [.bool true] false,I 1,I 1],()))];·exact Cj rfl
  ·rfl
theorem must2 (n:Int) (e:NE) (b c:Bool):Bs B0 .cl false 108 [I n,e.pv,.sl 1 [.bool b,.bool c] false]=some (BW (Ik (b&&c) n e)):=by
 refine lendN (d:=fun _=>.cl) rfl (by simp[Ao,NE.okV,okV]) rfl ?_ (by rw[show F4 A1 108=true from rfl,ce,Bool.and_false]);rw[bz,bz,bz,bC,run108,Hl];simp only[Ap];rw[show Bp [I n,e.pv,.sl 1 [.bool b,.bool c] false,.int .i64 (([PV.bool b,.bool c].length:Nat):Int),.int .i64 0]=true by simp only[Bp,cS,NE.und];rfl,AH];cases b with
 | false=>exact Cj rfl
 | true =>
  rw[D4 (s':=([I n,e.pv,.sl 1 [.bool true,.bool c] false,I 2,I 1],()))]
  ·cases c with
   | false=>exact Cj rfl
   | true =>
    rw[D4 (s':=([I n,e.pv,.sl 1 [.bool true,.bool true] false,I 2,I 2],()))];·exact Cj rfl
    ·rfl
  ·rfl
def Ce (x y:Int):PV:=.agg [I x,I y]
def i64 (n:Int):Int:=IntKind.i64.wrap n
theorem Fd (x y:Int):A3 (Ce x y)=true:=rfl
theorem Fs (x y:Int):Am (Ce x y) 0 1 false=some (I x):=rfl
theorem Gf (x y:Int):Am (Ce x y) 1 1 false=some (I y):=rfl
theorem two_a (x y:Int):Am (Ce x y) 0 2 true=some (Ce x y):=rfl
theorem Nq:Ad (.load 1 false (.c (.ptr [.glob 1 265] 0)))=some NE.over.pv:=rfl
theorem load_div:Ad (.load 1 false (.c (.ptr [.glob 2 265] 0)))=some NE.div.pv:=rfl
theorem L5 (b:Bool):AY 1 [.bool b]=true:=rfl
theorem S2 (b c:Bool):AY 1 [.bool b,.bool c]=true:=rfl
theorem MD (b:Bool):AN 1 1 [.bool b] 0 (Ai [.bool b])=.sl 1 [.bool b] false:=rfl
theorem TN (b c:Bool):AN 1 1 [.bool b,.bool c] 0 (Ai [.bool b,.bool c])=.sl 1 [.bool b,.bool c] false:=rfl
def nAdd (x y:Int):Int×NE :=
 let s:=i64 (x+y)
 Ik (!(decide (x < 0)==decide (y < 0))||(decide (s < 0)==decide (x < 0))) s .over
def QE (x y:Int):Int×NE :=
 let s:=i64 (x - y)
 Ik ((decide (x < 0)==decide (y < 0))||(decide (s < 0)==decide (x < 0))) s .over
theorem add_run (x y:Int):Al B0 .cl (.fn 132 []) [Ce x y]=some (BW (nAdd x y)):=by
 refine call (d:=fun _=>.cl) rfl (by decide) rfl rfl ?_;rw[bz,bC,run132,Fd,AH];simp only[Fs,Gf,Ap,CU,A7,Bf,Jg,LS,AA,Nq,L5,AH,MD,MJ,Fi,Fh];unfold nAdd i64;cases decide (x < 0)<;>cases decide (y < 0)<;>rfl
theorem PD (x y:Int):Al B0 .cl (.fn 102 []) [Ce x y]=some (BW (QE x y)):=by
 refine call (d:=fun _=>.cl) rfl (by decide) rfl rfl ?_;rw[bz,bC,run102,Fd,AH];simp only[Fs,Gf,Ap,IR,A7,Bf,Jg,LS,AA,Nq,L5,AH,MD,MJ,Fi,Fh];unfold QE i64;cases decide (x < 0)<;>cases decide (y < 0)<;>rfl
def NW (x y:Int):Int×NE :=
 if y=0 then Ik (x==0) 1 .div
 else if y = -1 then Ik (x != -9223372036854775808) (i64 (0 - x)) .over
 else Ik (x.tmod y==0) (i64 (x.tdiv y)) .div
theorem I_neg (x:Int):Ad (.un .neg (.c (I x)))=some (I (i64 (0 - x))):=rfl
theorem Vz (x y:Int):Al B0 .cl (.fn 106 []) [Ce x y]=some (BW (NW x y)):=by
 refine call (d:=fun _=>.cl) rfl (by decide) rfl rfl ?_;rw[bz,bC,run106,Fd,AH];simp only[Fs,Gf,Ap,A7,Fw,G9,AA,Nq,load_div,L5,AH,MD,MJ,Fi,Fh];unfold NW;by_cases h0:y=0
 ·subst h0;simp only[beq_self_eq_true,if_true];rfl
 ·have e0:((y==0)=true)↔False:=by simp[h0]
  simp only[e0,if_false,h0];by_cases h1:y = -1
  ·subst h1;simp only[beq_self_eq_true,if_true,I_neg,Ap,L5,AH,MD,MJ,Fi,Fh];rfl
  ·have e1:((y == -1)=true)↔False:=by simp[h1]
   simp only[e1,if_false,h1];rw[I,I,pure_quo _ _ h0,NC _ _ h0];simp only[Ap,A7,Fw,L5,AH,MD,MJ,Fi,Fh];rfl
def S5 (x y:Int):Int :=
 if x=0 then y else if x = -1 then 0
 else if (y.tmod x==0)||(decide (y.tmod x < 0)==decide (x < 0)) then y.tmod x else i64 (y.tmod x+x)
theorem YZ (x y:Int):Al B0 .cl (.fn 134 []) [Ce x y]=some (BW (S5 x y,.ok)):=by
 refine call (d:=fun _=>.cl) rfl (by decide) rfl rfl ?_;rw[bz,bC,run134,Fd,AH];simp only[Fs,Gf,Ap,A7,Fw,AA];unfold S5;by_cases h0:x=0
 ·subst h0;simp only[beq_self_eq_true,if_true];rfl
 ·have e0:((x==0)=true)↔False:=by simp[h0]
  simp only[e0,if_false,h0];by_cases h1:x = -1
  ·subst h1;simp only[beq_self_eq_true,if_true];rfl
  ·have e1:((x == -1)=true)↔False:=by simp[h1]
   simp only[e1,if_false,h1];rw[show Ad (.bin .rem .num false (.c (I y)) (.c (I x)))=some (I (y.tmod x)) from NC _ _ h0];simp only[Ap];rw[show Bp [I (y.tmod x),I 0]=true from rfl,AH];generalize y.tmod x=r;by_cases hc:((r==0)||(decide (r < 0)==decide (x < 0)))=true
   ·rw[if_pos hc];refine Cj ?_;simp only[Be,Bd,Bj,A7,Bf,Fw,Ap,AA,Fs,LS];cases hr:(r==0) with
    | true=>rfl
    | false =>
     simp only[hr,cU] at hc;simp only[hc,bA,if_false,Ap,AA,if_true];rfl
   ·rw[if_neg hc];rw[D4 (s':=([I (i64 (r+x)),I 1,Ce x y],()))];·exact Cj rfl
    ·simp only[Be,Bd,Bj,A7,Bf,Fw,Ap,AA,Fs,LS];simp only[dZ,not_or,eR] at hc;simp only[hc.1,hc.2,bA,if_false,Ap,AA,CU];rfl
def u64 (n:Int):PV:=.int .u64 n
def G5 (x:Int):Int:=if x < 0 then IntKind.u64.wrap (0 - IntKind.u64.wrap x) else IntKind.u64.wrap x
theorem PE (x:Int):Al B0 .cl (.fn 171 []) [I x]=some (u64 (G5 x)):=by
 refine call (d:=fun _=>.cl) rfl (by decide) rfl rfl ?_;rw[bz,bC,run171];simp only[A7,Bf,Ap,AA,show Ad (.conv .u64 (.c (I x)))=some (.int .u64 (IntKind.u64.wrap x)) from rfl,WL];unfold G5;by_cases h:x < 0<;>simp[h]<;>rfl
theorem Ip (n:Nat) (h:n < 18446744073709551616):IntKind.u64.wrap (n:Int)=n:=by rw[IntKind.wrap_u64];omega
theorem V6 (x:Int):∃ n:Nat,G5 x=n/\n < 18446744073709551616:=by
 unfold G5;refine⟨(if x < 0 then IntKind.u64.wrap (0 - IntKind.u64.wrap x) else IntKind.u64.wrap x).toNat,?_,?_⟩<;>(simp only[IntKind.wrap_u64];split<;>omega)
theorem and32 (n:Nat) (h:n < 18446744073709551616):Ad (.bin .and .num true (.c (.int .u64 (n:Int))) (.c (.int .u64 4294967295)))=some (.int .u64 ((n%4294967296:Nat):Int)):=by
 have e:(BitVec.ofInt 64 (n:Int) &&& BitVec.ofInt 64 4294967295).toNat=n%4294967296:=by
  rw[BitVec.toNat_and];have h1:(BitVec.ofInt 64 (n:Int)).toNat=n:=by rw[BitVec.toNat_ofInt];omega
  have h2:(BitVec.ofInt 64 (4294967295:Int)).toNat=2 ^ 32 - 1:=by rw[BitVec.toNat_ofInt];rfl
  rw[h1,h2,Nat.and_two_pow_sub_one_eq_mod]
 rw[show Ad (.bin .and .num true (.c (.int .u64 (n:Int))) (.c (.int .u64 4294967295)))=some (.int .u64 (IntKind.u64.wrap (((BitVec.ofInt 64 (n:Int) &&& BitVec.ofInt 64 4294967295).toNat:Nat):Int))) from rfl,e,Ip _ (by omega)]
theorem Qz (n:Nat):Ad (.bin .shr .num true (.c (.int .u64 (n:Int))) (.c (.int .u64 32)))=some (.int .u64 ((n / 4294967296:Nat):Int)):=by
 have e:(n:Int).fdiv (2 ^ (min (32:Int).toNat 64))=((n / 4294967296:Nat):Int):=by
  rw[show (2:Int) ^ (min (32:Int).toNat 64)=4294967296 from rfl,Int.fdiv_eq_ediv_of_nonneg _ (by decide)];omega
 rw[show Ad (.bin .shr .num true (.c (.int .u64 (n:Int))) (.c (.int .u64 32)))=some (.int .u64 ((n:Int).fdiv (2 ^ (min (32:Int).toNat 64)))) from rfl,e]
theorem mul64_run (a b:Nat) (ha:a < 18446744073709551616) (hb:b < 18446744073709551616) :
  Al B0 .cl (.fn 170 []) [u64 a,u64 b]=some (.tup [u64 ((a*b / 18446744073709551616:Nat):Int),u64 ((a*b%18446744073709551616:Nat):Int)]):=by
 refine call (d:=fun _=>.cl) rfl (by decide) rfl rfl ?_;rw[bz,bz,bC,run170];obtain⟨h1,h2,h3,h4⟩:=Lib.mul64_hi a b ha hb;have c1:∀ (m n:Nat),((m:Int)*(n:Int))=((m*n:Nat):Int):=fun m n=>by simp
 have c2:∀ (m n:Nat),((m:Int)+(n:Int))=((m+n:Nat):Int):=fun m n=>by simp
 have ka:=Lib.half_mul_le (a:=a / 4294967296) (b:=b / 4294967296) (by omega) (by omega);have kb:=Lib.half_mul_le (a:=a / 4294967296) (b:=b%4294967296) (by omega) (by omega);have kc:=Lib.half_mul_le (a:=a%4294967296) (b:=b / 4294967296) (by omega) (by omega);simp only[u64,and32 _ ha,and32 _ hb,Qz,Ap,PG,ND,c1,c2];rw[Ip _ h1,Ip (a / 4294967296*(b%4294967296)) (by omega)];simp only[Qz,Ap,PG,ND,c1,c2];rw[Ip _ h2];simp only[and32 _ h2,Qz,Ap,PG,ND,c1,c2];rw[Ip (a%4294967296*(b / 4294967296)) (by omega)];simp only[c2];rw[Ip _ h3,Ip (a / 4294967296*(b / 4294967296)) (by omega)];simp only[Qz,Ap,PG,ND,c1,c2]
 have h5:a*b / 18446744073709551616 < 18446744073709551616:=by
  refine Nat.div_lt_of_lt_mul ?_;exact Nat.mul_lt_mul'' ha hb
 rw[Ip (a / 4294967296*(b / 4294967296)+(a / 4294967296*(b%4294967296)+a%4294967296*(b%4294967296) / 4294967296) / 4294967296) (by omega)];simp only[c2];have e:IntKind.u64.wrap ((a*b:Nat):Int)=((a*b%18446744073709551616:Nat):Int):=by rw[IntKind.wrap_u64];omega
 rw[h4,Ip _ h5,e]
def nTim (hi lo:Nat) (x y:Int):Int×NE :=
 let below:=!(decide (x < 0)==decide (y < 0))
 let v:=i64 (lo:Int)
 Ik (decide (hi=0)&&(decide (lo<=9223372036854775807)||below&&decide (lo=9223372036854775808))) (if below then i64 (0 - v) else v) .over
def nTimes (x y:Int):Int×NE:=nTim ((G5 x).toNat*(G5 y).toNat / 18446744073709551616) ((G5 x).toNat*(G5 y).toNat%18446744073709551616) x y
theorem times_aux (hi lo:Nat) (x y:Int) (hs1:Al B0 .cl (.fn 171 []) [I x]=some (u64 (G5 x))) (hs2:Al B0 .cl (.fn 171 []) [I y]=some (u64 (G5 y)))
  (hm:Al B0 .cl (.fn 170 []) [u64 (G5 x),u64 (G5 y)]=some (.tup [u64 hi,u64 lo])):Al B0 .cl (.fn 133 []) [Ce x y]=some (BW (nTim hi lo x y)):=by
 refine call (d:=fun _=>.cl) rfl (by decide) rfl rfl ?_;rw[bz,bC,run133,Fd,AH];simp only[u64] at hs1 hs2 hm;simp only[Fs,Gf,Ap,hs1,hs2,hm,B3,bX,bY,A7,Bf,Jg,u64,pure_conv,AA,WN,WM];unfold nTim;have e1:((hi:Int)==0)=decide (hi=0):=by by_cases h:hi=0<;>simp[h]
 have e2:decide ((lo:Int)<=9223372036854775807)=decide (lo<=9223372036854775807):=by by_cases h:lo<=9223372036854775807<;>simp[h]<;>omega
 have e3:((lo:Int)==9223372036854775808)=decide (lo=9223372036854775808):=by by_cases h:lo=9223372036854775808<;>simp[h];omega
 rw[e1,e2,e3];generalize decide (hi=0)=p1;generalize decide (lo<=9223372036854775807)=p2;generalize decide (lo=9223372036854775808)=p3;cases hb':!(decide (x < 0)==decide (y < 0)) with
 | false =>
  simp only[bA,if_false,Nq,Ap,A7,ep,Bool.or_false];cases p2<;>simp only[bA,if_false,if_true,S2,AH,TN,Ap,must2,Fi,Fh]<;>rfl
 | true =>
  simp only[if_true,I_neg,Nq,Ap,A7,cN];cases p2<;>simp only[bA,if_false,if_true,I_neg,S2,AH,TN,Ap,must2,Fi,Fh,cU,d7]<;>rfl
theorem times_run (x y:Int):Al B0 .cl (.fn 133 []) [Ce x y]=some (BW (nTimes x y)):=by
 obtain⟨a,ha,hal⟩:=V6 x;obtain⟨b,hb,hbl⟩:=V6 y;have hm:=mul64_run a b hal hbl;refine times_aux _ _ x y (PE x) (PE y) ?_;rw[ha,hb,hm];rfl
end Go.Ab.Derive2


namespace Go.Ab.Derive2
open Go Go.Ab
theorem callC {d:Nat->Bq} {g:FuncId} {fn:At} {sh:Bq} {args cap:List PV} {u:PV} (ht:A1 g=some fn) (hg:JZ g) (ha:Ao (args++cap)=true) (hl:Nat.ble (args++cap).length fn.nt=true)
  (hr:AR (AI B0 d) fn sh AD 0 ((args++cap).map KV.cv) ()=some (u,())) (hio:fn.io=false:=by rfl) (hb:Nat.blt g CQ=true:=by rfl):Al B0 sh (.fn g cap) args=some u :=
 UY (B8 d) ht ha (bJ hl) (NN hg (fun _=>none) _) hr hio hb
def E6:List UInt8:=[43]
def J4:List UInt8:=[45]
def FP:List UInt8:=[195,151]
def J8:List UInt8:=[195,183]
def J5:List UInt8:=[124]
def J7:List UInt8:=[226,140,136]
def J6:List UInt8:=[226,140,138]
def FS:List UInt8:=[61]
def gNe:List UInt8:=[226,137,160]
def gLt:List UInt8:=[60]
def gGt:List UInt8:=[62]
def gLe:List UInt8:=[226,137,164]
def gGe:List UInt8:=[226,137,165]
def HI:List UInt8:=[226,136,167]
def gOr:List UInt8:=[226,136,168]
def gNot:List UInt8:=[126]
def FQ (b:Bool):Int:=if b then 1 else 0
theorem KI (b:Bool):Al B0 .cl (.fn 104 []) [.bool b]=some (I (FQ b)):=by
 refine call (d:=fun _=>.cl) rfl (by decide) rfl rfl ?_;rw[bz,bC,run104];cases b<;>rfl
theorem XE (a b:Bool):Ad (.bin .or .num false (.c (I (FQ a))) (.c (I (FQ b))))=some (I (FQ (a||b))):=by cases a<;>cases b<;>rfl
theorem XD (b:Bool):Ad (.bin .or .num false (.c (I 0)) (.c (I (FQ b))))=some (I (FQ b)):=by cases b<;>rfl
theorem MS (a:List UInt8):Ad (.bin .eql .str true (.c (.str a)) (.c (.str a)))=some (.bool true):=by rw[PH];simp
theorem FK {a b:List UInt8} (h:Nat.beq a.length b.length=false\/(a==b)=false):Ad (.bin .eql .str true (.c (.str a)) (.c (.str b)))=some (.bool false):=by
 rw[PH];rcases h with h | h
 ·have:¬ a=b:=fun e=>by subst e;simp at h
  simp[this]
 ·rw[h]
def Ls (g:List UInt8) (x y:Int):Bool :=
 if g=FS then x==y else if g=gNe then x != y else if g=gLt then decide (x < y) else if g=gGt then decide (y < x)
 else if g=gLe then (x==y||decide (x < y)) else (x==y||decide (y < x))
theorem cmp_eq (x y:Int):Al B0 .cl (.fn 138 []) [Ce x y,.str FS]=some (BW (FQ (Ls FS x y),.ok)):=by
 refine call (d:=fun _=>.cl) rfl (by decide) rfl rfl ?_;rw[bz,bz,bC,Mk,Fd,AH,FS];simp only[MS,FK (a:=[61]) (b:=[226,137,160]) (.inr rfl),FK (a:=[61]) (b:=[226,137,164]) (.inr rfl),FK (a:=[61]) (b:=[60]) (.inr rfl),Ap,Jd,Kj,Fs,Gf,Fw,KI];rfl
theorem cmp_ne (x y:Int):Al B0 .cl (.fn 138 []) [Ce x y,.str gNe]=some (BW (FQ (Ls gNe x y),.ok)):=by
 refine call (d:=fun _=>.cl) rfl (by decide) rfl rfl ?_;rw[bz,bz,bC,Mk,Fd,AH,gNe];simp only[MS,Ap,Jd,Fs,Gf,G9,KI];rfl
theorem cmp_lt (x y:Int):Al B0 .cl (.fn 138 []) [Ce x y,.str gLt]=some (BW (FQ (Ls gLt x y),.ok)):=by
 refine call (d:=fun _=>.cl) rfl (by decide) rfl rfl ?_;rw[bz,bz,bC,Mk,Fd,AH,gLt];simp only[MS,FK (a:=[60]) (b:=[226,137,160]) (.inr rfl),FK (a:=[60]) (b:=[226,137,164]) (.inr rfl),Ap,Jd,Kj,Fs,Gf,Bf,KI,A7,XD];rfl
theorem cmp_le (x y:Int):Al B0 .cl (.fn 138 []) [Ce x y,.str gLe]=some (BW (FQ (Ls gLe x y),.ok)):=by
 refine call (d:=fun _=>.cl) rfl (by decide) rfl rfl ?_;rw[bz,bz,bC,Mk,Fd,AH,gLe];simp only[MS,FK (a:=[226,137,164]) (b:=[226,137,160]) (.inr rfl),Ap,Jd,Kj,Fs,Gf,Bf,Fw,KI,XE];rfl
theorem cmp_gt (x y:Int):Al B0 .cl (.fn 138 []) [Ce x y,.str gGt]=some (BW (FQ (Ls gGt x y),.ok)):=by
 refine call (d:=fun _=>.cl) rfl (by decide) rfl rfl ?_;rw[bz,bz,bC,Mk,Fd,AH,gGt];simp only[MS,FK (a:=[62]) (b:=[226,137,160]) (.inr rfl),FK (a:=[62]) (b:=[226,137,164]) (.inr rfl),FK (a:=[62]) (b:=[60]) (.inr rfl),FK (a:=[62]) (b:=[61]) (.inr rfl),FK (a:=[62]) (b:=[226,137,165]) (.inr rfl),Ap,Jd,Kj,Fs,Gf,Fv,KI,A7,XD];rfl
theorem cmp_ge (x y:Int):Al B0 .cl (.fn 138 []) [Ce x y,.str gGe]=some (BW (FQ (Ls gGe x y),.ok)):=by
 refine call (d:=fun _=>.cl) rfl (by decide) rfl rfl ?_;rw[bz,bz,bC,Mk,Fd,AH,gGe];simp only[MS,FK (a:=[226,137,165]) (b:=[226,137,160]) (.inr rfl),FK (a:=[226,137,165]) (b:=[226,137,164]) (.inr rfl),FK (a:=[226,137,165]) (b:=[60]) (.inr rfl),FK (a:=[226,137,165]) (b:=[61]) (.inr rfl),Ap,Jd,Kj,Fs,Gf,Fv,Fw,KI,XE];rfl
theorem LX {g:List UInt8} {x y:Int} {r:Int×NE} (h:Al B0 .cl (.fn 138 []) [Ce x y,.str g]=some (BW r)):Al B0 .cl (.fn 137 [.ptr [.str g] 0]) [Ce x y]=some (BW r):=by
 refine callC (d:=fun _=>.cl) rfl (by decide) rfl rfl ?_;simp only[dR,cE,bz,bC];rw[run137,Fd,AH];simp only[two_a,Ap,Nk,LY,h,Fi,Fh];rfl
def andI (x y:Int):Int:=IntKind.i64.wrap (BitVec.ofInt 64 x &&& BitVec.ofInt 64 y).toNat
def orI (x y:Int):Int:=IntKind.i64.wrap (BitVec.ofInt 64 x ||| BitVec.ofInt 64 y).toNat
theorem and_run (x y:Int):Ad (.bin .and .num false (.c (I x)) (.c (I y)))=some (I (andI x y)):=rfl
theorem or_run (x y:Int):Ad (.bin .or .num false (.c (I x)) (.c (I y)))=some (I (orI x y)):=rfl
theorem shr1 (x:Int):Ad (.bin .shr .num true (.c (I x)) (.c (.int .u64 1)))=some (I (x.fdiv 2)):=rfl
theorem P9 (g:List UInt8):Ad (.build [.str []] [(0,(1,.c (.str g)))])=some (.agg [.str g]):=rfl
def Qk (g:List UInt8) (x y:Int):Int×NE:=Ik ((x.fdiv 2==0)&&(y.fdiv 2==0)) (if g=gOr then orI x y else andI x y) (.dom g)
theorem logic_run (g:List UInt8) (x y:Int):Al B0 .cl (.fn 140 []) [Ce x y,.str g]=some (BW (Qk g x y)):=by
 refine call (d:=fun _=>.cl) rfl (by decide) rfl rfl ?_;rw[bz,bz,bC,run140,Fd,AH];simp only[Fs,Gf,Ap,and_run,or_run,shr1,A7,Fw,PH,AA,P9,S2,AH,TN,show PV.iface 143 (.agg [.str g])=(NE.dom g).pv from rfl,must2,Fi,Fh];unfold Qk;by_cases h:g=gOr
 ·subst h;rfl
 ·have:(g==[226,136,168])=false:=by simpa[gOr] using h
  simp only[this,h,bA,if_false];rfl
theorem VB (g:List UInt8) (x y:Int):Al B0 .cl (.fn 139 [.ptr [.str g] 0]) [Ce x y]=some (BW (Qk g x y)):=by
 refine callC (d:=fun _=>.cl) rfl (by decide) rfl rfl ?_;simp only[dR,cE,bz,bC];rw[run139,Fd,AH];simp only[two_a,Ap,Nk,LY,logic_run,Fi,Fh];rfl
theorem max_run (x y:Int):Al B0 .cl (.fn 135 []) [Ce x y]=some (BW (max x y,.ok)):=by
 refine call (d:=fun _=>.cl) rfl (by decide) rfl rfl ?_;rw[bz,bC,run135,Fd,AH];simp only[Fs,Gf,Ap,Ad,exec,bz,bC,RX.ev,H9,I];by_cases h:y>x
 ·simp[h,Int.max_eq_right (by omega:x<=y)];rfl
 ·simp[h,Int.max_eq_left (by omega:y<=x)];rfl
theorem min_run' (x y:Int):Al B0 .cl (.fn 136 []) [Ce x y]=some (BW (min x y,.ok)):=by
 refine call (d:=fun _=>.cl) rfl (by decide) rfl rfl ?_;rw[bz,bC,run136,Fd,AH];simp only[Fs,Gf,Ap,Ad,exec,bz,bC,RX.ev,H9,I];by_cases h:y < x
 ·simp[h,Int.min_eq_right (by omega:y<=x)];rfl
 ·simp[h,Int.min_eq_left (by omega:x<=y)];rfl
def G7:PV:=.imap [.str E6,.fn 132 [],.str J4,.fn 102 [],.str FP,.fn 133 [],.str J8,.fn 106 [],.str J5,.fn 134 [],
 .str J7,.fn 135 [],.str J6,.fn 136 [],
 .str FS,.fn 137 [.ptr [.str FS] 0],.str gNe,.fn 137 [.ptr [.str gNe] 0],.str gLt,.fn 137 [.ptr [.str gLt] 0],.str gGt,.fn 137 [.ptr [.str gGt] 0],.str gLe,.fn 137 [.ptr [.str gLe] 0],.str gGe,.fn 137 [.ptr [.str gGe] 0],
 .str HI,.fn 139 [.ptr [.str HI] 0],.str gOr,.fn 139 [.ptr [.str gOr] 0]]
theorem Ws:Al B0 .cl (.fn 75 []) []=some G7:=Cv (n:=60) (by decide) (by kernel_rfl) rfl rfl
theorem B4 {g x:List UInt8} {v:PV} {es:List PV} (h:¬ g=x):Dc (.str g) (.str x :: v :: es)=Dc (.str g) es:=by
 have:(g==x)=false:=by simp[h]
 simp[Dc,IK,this]
theorem Do {g:List UInt8} {v:PV} {es:List PV}:Dc (.str g) (.str g :: v :: es)=some (some v):=by simp[Dc,IK]
def H8 (g:List UInt8):Bool:=[E6,J4,FP,J8,J5,J7,J6,FS,gNe,gLt,gGt,gLe,gGe,HI,gOr].contains g
def nDy (g:List UInt8) (x y:Int):Int×NE :=
 if g=E6 then nAdd x y else if g=J4 then QE x y else if g=FP then nTimes x y else if g=J8 then NW x y else if g=J5 then (S5 x y,.ok)
 else if g=J7 then (max x y,.ok) else if g=J6 then (min x y,.ok)
 else if g=FS\/g=gNe\/g=gLt\/g=gGt\/g=gLe\/g=gGe then (FQ (Ls g x y),.ok)
 else if g=HI\/g=gOr then Qk g x y else (0,.dom g)
theorem X1 (g:List UInt8):(∃ f,Dc (.str g) (match G7 with | .imap es=>es | _=>[])=some (some f)/\H8 g=true/\(∀ x y,Al B0 .cl f [Ce x y]=some (BW (nDy g x y)))/\okV f=true/\∃ k c,f=.fn k c)
  \/ (Dc (.str g) (match G7 with | .imap es=>es | _=>[])=some none/\H8 g=false/\∀ x y,nDy g x y=(0,.dom g)):=by
 unfold G7;dsimp only
 by_cases h1:g=E6
 ·subst h1;exact .inl ⟨_,Do,rfl,fun x y=>add_run x y,rfl,_,_,rfl⟩
 rw[B4 h1];by_cases h2:g=J4
 ·subst h2;exact .inl ⟨_,Do,rfl,fun x y=>PD x y,rfl,_,_,rfl⟩
 rw[B4 h2];by_cases h3:g=FP
 ·subst h3;exact .inl ⟨_,Do,rfl,fun x y=>times_run x y,rfl,_,_,rfl⟩
 rw[B4 h3];by_cases h4:g=J8
 ·subst h4;exact .inl ⟨_,Do,rfl,fun x y=>Vz x y,rfl,_,_,rfl⟩
 rw[B4 h4];by_cases h5:g=J5
 ·subst h5;exact .inl ⟨_,Do,rfl,fun x y=>YZ x y,rfl,_,_,rfl⟩
 rw[B4 h5];by_cases h6:g=J7
 ·subst h6;exact .inl ⟨_,Do,rfl,fun x y=>max_run x y,rfl,_,_,rfl⟩
 rw[B4 h6];by_cases h7:g=J6
 ·subst h7;exact .inl ⟨_,Do,rfl,fun x y=>min_run' x y,rfl,_,_,rfl⟩
 rw[B4 h7];by_cases h8:g=FS
 ·subst h8;exact .inl ⟨_,Do,rfl,fun x y=>LX (cmp_eq x y),rfl,_,_,rfl⟩
 rw[B4 h8];by_cases h9:g=gNe
 ·subst h9;exact .inl ⟨_,Do,rfl,fun x y=>LX (cmp_ne x y),rfl,_,_,rfl⟩
 rw[B4 h9];by_cases h10:g=gLt
 ·subst h10;exact .inl ⟨_,Do,rfl,fun x y=>LX (cmp_lt x y),rfl,_,_,rfl⟩
 rw[B4 h10];by_cases h11:g=gGt
 ·subst h11;exact .inl ⟨_,Do,rfl,fun x y=>LX (cmp_gt x y),rfl,_,_,rfl⟩
 rw[B4 h11];by_cases h12:g=gLe
 ·subst h12;exact .inl ⟨_,Do,rfl,fun x y=>LX (cmp_le x y),rfl,_,_,rfl⟩
 rw[B4 h12];by_cases h13:g=gGe
 ·subst h13;exact .inl ⟨_,Do,rfl,fun x y=>LX (cmp_ge x y),rfl,_,_,rfl⟩
 rw[B4 h13];by_cases h14:g=HI
 ·subst h14;exact .inl ⟨_,Do,rfl,fun x y=>VB HI x y,rfl,_,_,rfl⟩
 rw[B4 h14];by_cases h15:g=gOr
 ·subst h15;exact .inl ⟨_,Do,rfl,fun x y=>VB gOr x y,rfl,_,_,rfl⟩
 rw[B4 h15];refine .inr ⟨rfl,?_,fun x y=>?_⟩;·simp[H8,h1,h2,h3,h4,h5,h6,h7,h8,h9,h10,h11,h12,h13,h14,h15]
 ·simp[nDy,h1,h2,h3,h4,h5,h6,h7,h8,h9,h10,h11,h12,h13,h14,h15]
theorem Te (g:List UInt8):Al B0 .cl (.fn 41 []) [.str g]=some (.bool (H8 g)):=by
 refine call (d:=fun _=>.cl) rfl (by decide) rfl rfl ?_;rw[bz,bC,run41,Ws];simp only[Ap];rcases X1 g with ⟨f,h1,h2,_,_,k,c,rfl⟩ | ⟨h1,h2,_⟩
 ·rw[h2,show Ad (.lookup .str .nilF false (.c G7) (.c (.str g)))=some (.fn k c) by unfold G7 at h1 |-;simp only[Ad,exec,RX.ev];rw[h1];rfl];rfl
 ·rw[h2,show Ad (.lookup .str .nilF false (.c G7) (.c (.str g)))=some .nilF by unfold G7 at h1 |-;simp only[Ad,exec,RX.ev];rw[h1];rfl];rfl
theorem dy_run (g:List UInt8) (x y:Int):Al B0 .cl (.fn 78 []) [.str g,I x,I y]=some (.tup [I (nDy g x y).1,I (nDy g x y).2.no]):=by
 refine call (d:=fun _=>.cl) rfl (by decide) rfl rfl ?_;rw[bz,bz,bz,bC,run78,Ws];simp only[Ap];rcases X1 g with ⟨f,h1,h2,h3,_,k,c,rfl⟩ | ⟨h1,h2,h3⟩
 ·rw[show Ad (.lookup .str .nilF true (.c G7) (.c (.str g)))=some (.tup [.fn k c,.bool true]) by unfold G7 at h1 |-;simp only[Ad,exec,RX.ev];rw[h1];rfl];simp only[Ap,B3,bX,bY,Cl,ce,Kj];rw[show Ad (.build [.int .i64 0,.int .i64 0] [(0,(1,.c (I x))),(1,(1,.c (I y)))])=some (Ce x y) from rfl];simp only[Ap];rw[show Ad (.build [.int .i64 0,.int .i64 0] [(0,(2,.c (Ce x y)))])=some (Ce x y) from rfl];simp only[Ap,h3,Fi,Fh,Pm]
 ·rw[show Ad (.lookup .str .nilF true (.c G7) (.c (.str g)))=some (.tup [.nilF,.bool false]) by unfold G7 at h1 |-;simp only[Ad,exec,RX.ev];rw[h1];rfl];simp only[Ap,B3,bX,bY,Cl,ck,Jd,P9,show PV.iface 143 (.agg [.str g])=(NE.dom g).pv from rfl,Pm,h3];rfl
def nNeg (y:Int):Int×NE:=QE 0 y
def nSign (y:Int):Int:=i64 (FQ (decide (0 < y)) - FQ (decide (y < 0)))
def nNot (y:Int):Int×NE:=Ik ((y==0)||(y==1)) (i64 (1 - y)) (.dom gNot)
theorem SW (y:Int):Al B0 .cl (.fn 100 []) [I y]=some (BW (y,.ok)):=by
 refine call (d:=fun _=>.cl) rfl (by decide) rfl rfl ?_;rw[bz,bC,run100];rfl
theorem XH (y:Int):Al B0 .cl (.fn 101 []) [I y]=some (BW (nNeg y)):=by
 refine call (d:=fun _=>.cl) rfl (by decide) rfl rfl ?_;rw[bz,bC,run101];rw[show Ad (.build [.int .i64 0,.int .i64 0] [(0,(1,.c (.int .i64 0))),(1,(1,.c (I y)))])=some (Ce 0 y) from rfl];simp only[Ap];rw[show Ad (.build [.int .i64 0,.int .i64 0] [(0,(2,.c (Ce 0 y)))])=some (Ce 0 y) from rfl];simp only[Ap,PD,Fi,Fh];rfl
theorem sign_run (y:Int):Al B0 .cl (.fn 103 []) [I y]=some (BW (nSign y,.ok)):=by
 refine call (d:=fun _=>.cl) rfl (by decide) rfl rfl ?_;rw[bz,bC,run103];simp only[A7,Fv,Bf,Ap,KI,IR];rfl
theorem recip_run (y:Int):Al B0 .cl (.fn 105 []) [I y]=some (BW (NW 1 y)):=by
 refine call (d:=fun _=>.cl) rfl (by decide) rfl rfl ?_;rw[bz,bC,run105];rw[show Ad (.build [.int .i64 0,.int .i64 0] [(0,(1,.c (.int .i64 1))),(1,(1,.c (I y)))])=some (Ce 1 y) from rfl];simp only[Ap];rw[show Ad (.build [.int .i64 0,.int .i64 0] [(0,(2,.c (Ce 1 y)))])=some (Ce 1 y) from rfl];simp only[Ap,Vz,Fi,Fh];rfl
theorem not_run (y:Int):Al B0 .cl (.fn 107 []) [I y]=some (BW (nNot y)):=by
 refine call (d:=fun _=>.cl) rfl (by decide) rfl rfl ?_;rw[bz,bC,run107];simp only[A7,IR,Fw,Ap,P9,AA,L5,AH,MD,show PV.iface 143 (.agg [.str [126]])=(NE.dom gNot).pv from rfl,MJ,Fi,Fh];unfold nNot;cases y==0<;>rfl
def nAbs (y:Int):Int×NE:=if y < 0 then nNeg y else (y,.ok)
theorem abs_run (y:Int):Al B0 .cl (.fn 109 [.ptr [.fn 101 []] 0]) [I y]=some (BW (nAbs y)):=by
 refine callC (d:=fun _=>.cl) rfl (by decide) rfl rfl ?_;simp only[dR,cE,bz,bC];rw[run109];simp only[A7,Bf,Ap,AA,Nk,LY,XH,Fi,Fh];unfold nAbs;by_cases h:y < 0<;>simp[h]<;>rfl
def G0:PV:=.imap [.str E6,.fn 100 [],.str J7,.fn 100 [],.str J6,.fn 100 [],.str J4,.fn 101 [],.str FP,.fn 103 [],.str J8,.fn 105 [],.str gNot,.fn 107 [],
 .str J5,.fn 109 [.ptr [.fn 101 []] 0]]
theorem Vf:Al B0 .cl (.fn 61 []) []=some G0:=Cv (n:=60) (by decide) (by kernel_rfl) rfl rfl
def H0 (g:List UInt8):Bool:=[E6,J7,J6,J4,FP,J8,gNot,J5].contains g
def E4 (g:List UInt8) (y:Int):Int×NE :=
 if g=E6 then (y,.ok) else if g=J7 then (y,.ok) else if g=J6 then (y,.ok) else if g=J4 then nNeg y else if g=FP then (nSign y,.ok) else if g=J8 then NW 1 y else if g=gNot then nNot y
 else if g=J5 then nAbs y else (0,.dom g)
theorem WT (g:List UInt8):(∃ f,Dc (.str g) (match G0 with | .imap es=>es | _=>[])=some (some f)/\H0 g=true/\(∀ y,Al B0 .cl f [I y]=some (BW (E4 g y)))/\okV f=true/\∃ k c,f=.fn k c)
  \/ (Dc (.str g) (match G0 with | .imap es=>es | _=>[])=some none/\H0 g=false/\∀ y,E4 g y=(0,.dom g)):=by
 unfold G0;dsimp only
 by_cases h1:g=E6
 ·subst h1;exact .inl ⟨_,Do,rfl,fun y=>SW y,rfl,_,_,rfl⟩
 rw[B4 h1];by_cases h2:g=J7
 ·subst h2;exact .inl ⟨_,Do,rfl,fun y=>SW y,rfl,_,_,rfl⟩
 rw[B4 h2];by_cases h3:g=J6
 ·subst h3;exact .inl ⟨_,Do,rfl,fun y=>SW y,rfl,_,_,rfl⟩
 rw[B4 h3];by_cases h4:g=J4
 ·subst h4;exact .inl ⟨_,Do,rfl,fun y=>XH y,rfl,_,_,rfl⟩
 rw[B4 h4];by_cases h5:g=FP
 ·subst h5;exact .inl ⟨_,Do,rfl,fun y=>sign_run y,rfl,_,_,rfl⟩
 rw[B4 h5];by_cases h6:g=J8
 ·subst h6;exact .inl ⟨_,Do,rfl,fun y=>recip_run y,rfl,_,_,rfl⟩
 rw[B4 h6];by_cases h7:g=gNot
 ·subst h7;exact .inl ⟨_,Do,rfl,fun y=>not_run y,rfl,_,_,rfl⟩
 rw[B4 h7];by_cases h8:g=J5
 ·subst h8;exact .inl ⟨_,Do,rfl,fun y=>abs_run y,rfl,_,_,rfl⟩
 rw[B4 h8];refine .inr ⟨rfl,?_,fun y=>?_⟩;·simp[H0,h1,h2,h3,h4,h5,h6,h7,h8]
 ·simp[E4,h1,h2,h3,h4,h5,h6,h7,h8]
theorem SE (g:List UInt8):Al B0 .cl (.fn 35 []) [.str g]=some (.bool (H0 g)):=by
 refine call (d:=fun _=>.cl) rfl (by decide) rfl rfl ?_;rw[bz,bC,run35,Vf];simp only[Ap];rcases WT g with ⟨f,h1,h2,_,_,k,c,rfl⟩ | ⟨h1,h2,_⟩
 ·rw[h2,show Ad (.lookup .str .nilF false (.c G0) (.c (.str g)))=some (.fn k c) by unfold G0 at h1 |-;simp only[Ad,exec,RX.ev];rw[h1];rfl];rfl
 ·rw[h2,show Ad (.lookup .str .nilF false (.c G0) (.c (.str g)))=some .nilF by unfold G0 at h1 |-;simp only[Ad,exec,RX.ev];rw[h1];rfl];rfl
theorem mon_run (g:List UInt8) (y:Int):Al B0 .cl (.fn 65 []) [.str g,I y]=some (.tup [I (E4 g y).1,I (E4 g y).2.no]):=by
 refine call (d:=fun _=>.cl) rfl (by decide) rfl rfl ?_;rw[bz,bz,bC,run65,Vf];simp only[Ap];rcases WT g with ⟨f,h1,h2,h3,_,k,c,rfl⟩ | ⟨h1,h2,h3⟩
 ·rw[show Ad (.lookup .str .nilF true (.c G0) (.c (.str g)))=some (.tup [.fn k c,.bool true]) by unfold G0 at h1 |-;simp only[Ad,exec,RX.ev];rw[h1];rfl];simp only[Ap,B3,bX,bY,Cl,ce,Kj,h3,Fi,Fh,Pm]
 ·rw[show Ad (.lookup .str .nilF true (.c G0) (.c (.str g)))=some (.tup [.nilF,.bool false]) by unfold G0 at h1 |-;simp only[Ad,exec,RX.ev];rw[h1];rfl];simp only[Ap,B3,bX,bY,Cl,ck,Jd,P9,show PV.iface 143 (.agg [.str g])=(NE.dom g).pv from rfl,Pm,h3];rfl
end Go.Ab.Derive2


namespace Go.Ab
theorem loop_inv {σ ρ α:Type} {step:σ->Option (Sum σ ρ)} (st:Nat->α->σ) (n:Nat) (P:Nat->α->Prop) (Q:ρ->Prop)
  (hs:∀ i a,i < n->P i a->(∃ a',step (st i a)=some (.inl (st (i+1) a'))/\P (i+1) a')\/∃ r,step (st i a)=some (.inr r)/\Q r)
  (he:∀ a,P n a->∃ r,step (st n a)=some (.inr r)/\Q r) {a0:α} (h0:P 0 a0):∃ r,BL step (st 0 a0)=some r/\Q r:=by
 have key:∀ m i a,i+m=n->P i a->∃ r,BL step (st i a)=some r/\Q r:=by
  intro m;induction m with
  | zero =>
   intro i a hi hp;obtain rfl:i=n:=by omega
   obtain⟨r,h1,h2⟩:=he a hp;exact⟨r,Cj h1,h2⟩
  | succ m ih =>
   intro i a hi hp;rcases hs i a (by omega) hp with ⟨a',h1,h2⟩ | ⟨r,h1,h2⟩;·rw[D4 h1];exact ih _ _ (by omega) h2
   ·exact⟨r,Cj h1,h2⟩
 exact key n 0 a0 (by omega) h0
theorem VJ {E α:Type} {h:Ay E} {d:Nat} (st:Nat->α->E) (l:List (List PV)) (P:Nat->α->Prop) (Q:E->Prop)
  (hs:∀ i a (hi:i < l.length),P i a->(∃ a',h d l[i] (st i a)=some (true,st (i+1) a')/\P (i+1) a')\/∃ e',h d l[i] (st i a)=some (false,e')/\Q e')
  (he:∀ a,P l.length a->Q (st l.length a)) {a0:α} (h0:P 0 a0):∃ e',Dn h d l (st 0 a0)=some e'/\Q e':=by
 have key:∀ m i a,i+m=l.length->P i a->∃ e',Dn h d (l.drop i) (st i a)=some e'/\Q e':=by
  intro m;induction m with
  | zero =>
   intro i a hi hp;obtain rfl:i=l.length:=by omega
   rw[dC (bF _)];exact⟨_,rfl,he a hp⟩
  | succ m ih =>
   intro i a hi hp;have hlt:i < l.length:=by omega
   rw[cZ hlt];rcases hs i a hlt hp with ⟨a',h1,h2⟩ | ⟨e',h1,h2⟩;·simp only[Dn,h1];exact ih _ _ (by omega) h2
   ·simp only[Dn,h1];exact⟨_,rfl,h2⟩
 exact key l.length 0 a0 (by omega) h0
theorem yield_run {E:Type} {h:Ay E} {d:Nat} (st:Nat->E) (l:List (List PV)) (hs:∀ i (hi:i < l.length),h d l[i] (st i)=some (true,st (i+1))):Dn h d l (st 0)=some (st l.length):=by
 obtain⟨e,h1,h2⟩:=VJ (α:=Unit) (h:=h) (d:=d) (fun i _=>st i) l (fun _ _=>True) (fun e=>e=st l.length) (fun i _ hi _=>.inl ⟨(),hs i hi,trivial⟩) (fun _ _=>rfl) (a0:=()) trivial;rw[h1,h2]
theorem Z1 {E β:Type} {B:KB} {h:Ay E} {dep:Nat} {f:PV} {e:E} {K:E->Option β} {r:β} (e':E) (h1:CP B h dep f e=some e') (h2:K e'=some r):Ac (CP B h dep f e) K=some r:=by
 rw[h1];exact h2
theorem Sb {E ρ:Type} {step:List PV×E->Option (Sum (List PV×E) ρ)} {h:Ay E} {d:Nat} (st:Nat->List PV) (l:List (List PV)) (fin:E->ρ)
  (hs:∀ i (hi:i < l.length) e e',h d l[i] e=some (true,e')->step (st i,e)=some (.inl (st (i+1),e')))
  (hf:∀ i (hi:i < l.length) e e',h d l[i] e=some (false,e')->step (st i,e)=some (.inr (fin e')))
  (he:∀ e,step (st l.length,e)=some (.inr (fin e))) {e e':E} (hy:Dn h d l e=some e'):BL step (st 0,e)=some (fin e'):=by
 have key:∀ m i e,i+m=l.length->Dn h d (l.drop i) e=some e'->BL step (st i,e)=some (fin e'):=by
  intro m;induction m with
  | zero =>
   intro i e hi hq;obtain rfl:i=l.length:=by omega
   rw[dC (bF _)] at hq;rw[<-dp hq];exact Cj (he e)
  | succ m ih =>
   intro i e hi hq;have hlt:i < l.length:=by omega
   rw[cZ hlt] at hq;simp only[Dn] at hq;split at hq
   ·rename_i e1 hh;rw[D4 (hs i hlt e e1 hh)];exact ih _ _ (by omega) hq
   ·rename_i e1 hh;rw[<-dp hq];exact Cj (hf i hlt e e1 hh)
   ·cases hq
 exact key l.length 0 e (by omega) hy
@[simp] theorem Ie (a0 a1 a2 a3 a4 a5 a6 a7 a8 x:PV) (l:List PV):Aa (a0 :: a1 :: a2 :: a3 :: a4 :: a5 :: a6 :: a7 :: a8 :: x :: l) 9=x:=rfl
@[simp] theorem KS (a0 a1 a2 a3 a4 a5 a6 a7 a8 a9 x:PV) (l:List PV):Aa (a0 :: a1 :: a2 :: a3 :: a4 :: a5 :: a6 :: a7 :: a8 :: a9 :: x :: l) 10=x:=rfl
@[simp] theorem KR (a0 a1 a2 a3 a4 a5 a6 a7 a8 a9 a10 x:PV) (l:List PV):Aa (a0 :: a1 :: a2 :: a3 :: a4 :: a5 :: a6 :: a7 :: a8 :: a9 :: a10 :: x :: l) 11=x:=rfl
@[simp] theorem KQ (a0 a1 a2 a3 a4 a5 a6 a7 a8 a9 a10 a11 x:PV) (l:List PV):Aa (a0 :: a1 :: a2 :: a3 :: a4 :: a5 :: a6 :: a7 :: a8 :: a9 :: a10 :: a11 :: x :: l) 12=x:=rfl
@[simp] theorem KP (a0 a1 a2 a3 a4 a5 a6 a7 a8 a9 a10 a11 a12 x:PV) (l:List PV):Aa (a0 :: a1 :: a2 :: a3 :: a4 :: a5 :: a6 :: a7 :: a8 :: a9 :: a10 :: a11 :: a12 :: x :: l) 13=x:=rfl
end Go.Ab


namespace Go.Ab.Derive2
open Go Go.Ab
inductive D1:List PV->List Af->Prop
 | nil:D1 [] []
 | cons {v:PV} {a:Af} {vs:List PV} {l:List Af}:AL v a->D1 vs l->D1 (v :: vs) (a :: l)
theorem D1.ok {vs:List PV} {l:List Af} (h:D1 vs l):Ao vs=true:=by
 induction h with
 | nil=>rfl
 | cons h _ ih=>simp[Ao,h.ok,ih]
theorem D1.len {vs:List PV} {l:List Af} (h:D1 vs l):vs.length=l.length:=by
 induction h with
 | nil=>rfl
 | cons h _ ih=>simp[ih]
theorem D1.get {vs:List PV} {l:List Af} (h:D1 vs l):∀ i (hi:i < l.length),∃ v,vs[i]?=some v/\AL v l[i]:=by
 induction h with
 | nil=>intro i hi;simp at hi
 | cons h _ ih =>
  intro i hi;cases i with
  | zero=>exact⟨_,rfl,h⟩
  | succ i=>exact ih i (by simpa using hi)
theorem Hy {xs:List PV} {j:Nat} {f:Bool} {a b c:PV} (h:xs[j]?=some (.agg [a,b,c])):Ad (.idxAddr 3 (.c (.sl 3 xs f)) (.c (I j)))=some (.ptr [a,b,c] 0):=by
 rw[I,Nl (by omega) h];rfl
theorem Hx (a b c:PV):Ad (.load 3 true (.c (.ptr [a,b,c] 0)))=some (.agg [a,b,c]):=rfl
theorem Q0 (a b c:PV):Ad (.fieldAddr 0 (.c (.ptr [a,b,c] 0)))=some (.ptr [a,b,c] 0):=rfl
theorem fa3_1 (a b c:PV):Ad (.fieldAddr 1 (.c (.ptr [a,b,c] 0)))=some (.ptr [a,b,c] 1):=rfl
theorem QZ (a b c:PV):Ad (.fieldAddr 2 (.c (.ptr [a,b,c] 0)))=some (.ptr [a,b,c] 2):=rfl
theorem ld3_1 (a b c:PV):Ad (.load 1 false (.c (.ptr [a,b,c] 1)))=some b:=rfl
theorem QI (a b c:PV):Ad (.load 1 false (.c (.ptr [a,b,c] 2)))=some c:=rfl
theorem okC_b (b:Bool):AF (.bool b) 1=true:=rfl
theorem cellP_b (b:Bool):Ah (.bool b) 0=.bool b:=rfl
theorem bV {α β:Type} (a:α) (f:α->Option β):Ac (some a) f=f a:=cK rfl rfl
theorem cT {β:Type} (a:Option β):Ae true a=a:=cK rfl rfl
theorem iD (n:Int):PV.int .i64 n=I n:=cK rfl rfl
theorem V3 {a:Af} {x:PV} (h:A5 x a.n):AF (.agg [.bool a.li,.bool a.ru,x]) 3=true:=Ks (BU rfl rfl h.cell)
theorem KK {a:Af} {x:PV} (h:A5 x a.n):A3 (.agg [.bool a.li,.bool a.ru,x])=true:=BU rfl rfl h.cell
inductive IsB:PV->List Af->Prop
 | nil:IsB .nilS []
 | sl {vs:List PV} {l:List Af} (f:Bool) (h:D1 vs l):IsB (.sl 3 vs f) l
theorem IsB.ok {v:PV} {l:List Af} (h:IsB v l):okV v=true:=by
 cases h with
 | nil=>rfl
 | sl f h=>simp[okV,h.ok]
theorem IsB.und {v:PV} {l:List Af} (h:IsB v l):Gy v=false:=by cases h<;>rfl
theorem IsB.len {v:PV} {l:List Af} (h:IsB v l):Ad (.len .slice (.c v))=some (I l.length):=by
 cases h with
 | nil=>rfl
 | sl f h=>rw[Hl,h.len];rfl
theorem IsB.idx {v:PV} {l:List Af} (h:IsB v l) {i:Nat} (hi:i < l.length):∃ x,Ad (.idxAddr 3 (.c v) (.c (I i)))=some (.ptr [.bool l[i].li,.bool l[i].ru,x] 0)/\A5 x l[i].n:=by
 cases h with
 | nil=>simp at hi
 | sl f h =>
  obtain⟨u,h1,h2⟩:=h.get i hi;obtain⟨x,rfl,hx⟩:=h2.get;exact⟨x,Hy h1,hx⟩
theorem D1.snoc {vs:List PV} {l:List Af} (h:D1 vs l) {v:PV} {a:Af} (ha:AL v a):D1 (vs++[v]) (l++[a]):=by
 induction h with
 | nil=>exact .cons ha .nil
 | cons h1 _ ih=>exact .cons h1 ih
def CB (ru:Bool) (n:Int):Af:=⟨false,ru,[n]⟩
def CW (ru:Bool) (n:Int):PV:=.agg [.bool false,.bool ru,.sl 1 [I n] false]
theorem Qq (ru:Bool) (n:Int):AL (CW ru n) (CB ru n):=.mk _ _ _ _ (.sl [n] false)
theorem KE (n:Int):AY 1 [I n]=true:=rfl
theorem P3 (ru:Bool):∀ l:List Int,D1 (l.map (CW ru)) (l.map (CB ru))
 | []=>.nil
 | n :: l=>.cons (Qq ru n) (P3 ru l)
end Go.Ab.Derive2


namespace Go.Ab.Derive2
open Go Go.Ab
theorem XF {v:PV} {a:Af} (h:AL v a) (n:Int):Al B0 .cl (.fn 94 []) [v,I n]=some (CW a.ru n):=by
 obtain⟨x,rfl,hx⟩:=h.get;refine call (d:=fun _=>.cl) rfl (by decide) (by simp[Ao,h.ok]) rfl ?_;rw[bz,bz,bC,run94,KK hx,cT];rfl
theorem Ru {a:Af} {x:PV} (h:A5 x a.n):Ad (.build [.bool false,.bool false,.nilS] [(0,(3,.c (.agg [.bool a.li,.bool a.ru,x])))])=some (.agg [.bool a.li,.bool a.ru,x]):=by
 have:=BU (a:=.bool a.li) (b:=.bool a.ru) rfl rfl h.cell;simp[Ad,exec,DS,RX.ev,this,splice,AC,PV.cells]
theorem W2 {a:Af} {x:PV} (h:A5 x a.n):Al B0 .cl (.fn 57 []) [.agg [.bool a.li,.bool a.ru,x]]=some (.fn 93 [.ptr [.bool a.li,.bool a.ru,x] 0]):=by
 refine call (d:=fun _=>.cl) rfl (by decide) (by simp[Ao,okV,h.ok]) rfl ?_;rw[bz,bC,run57,KK h,cT];have:Bl (.fn 93 [.ptr [.bool a.li,.bool a.ru,x] 0])=true:=by simp[Bl,okV,Ao,h.ok]
 show Ae (Bl (.fn 93 [.ptr [.bool a.li,.bool a.ru,x] 0])) _=_;rw[this];rfl
theorem UO {E:Type} (h:Ay E) (dep:Nat) {a:Af} {x:PV} (hx:A5 x a.n) (hl:a.n.length<=1000000) {e e':E} (hy:Dn h dep (a.n.map fun n=>[CW a.ru n]) e=some e') :
  CP B0 h dep (.fn 93 [.ptr [.bool a.li,.bool a.ru,x] 0]) e=some e':=by
 refine OV (B8 fun _=>.cl) (g:=93) (fn:=fn93) rfl (by simp[Ao,okV,hx.ok]) (bJ rfl) (u:=.tup []) ?_;simp only[bz,bC];rw[run93,Q0,bV,QZ,bV,QI,bV,hx.len,bV,show Bp [nI dep,.ptr [.bool a.li,.bool a.ru,x] 0,x,I a.n.length,.int .i64 0]=true by simp only[Bp,cS,hx.und];rfl,cT];have hA:AL (.agg [.bool a.li,.bool a.ru,x]) a:=.mk _ _ _ _ hx;have l3:Ad (.load 3 true (.c (.ptr [.bool a.li,.bool a.ru,x] 0)))=some (.agg [.bool a.li,.bool a.ru,x]):=rfl;refine (Sb (h:=h) (d:=dep) (fun i=>[nI dep,.ptr [.bool a.li,.bool a.ru,x] 0,x,I a.n.length,I i]) (a.n.map fun n=>[CW a.ru n]) (fun e=>(PV.tup [],e)) ?_ ?_ ?_ hy)
 ·intro i hi e e' hq;rw[bS] at hi;rw[dT] at hq;simp only[Be,Bd,Bj,Bu,Ci,Bf,bV,AA];rw[if_pos (by simpa using hi),hx.idx hi];simp only[bV,H6,l3,XF hA,Er,Ej,ER,b9,hq,Cl,ce,AA,bA,if_false,iD,CU,ED (by omega:i < 9223372036854775807)]
 ·intro i hi e e' hq;rw[bS] at hi;rw[dT] at hq;simp only[Be,Bd,Bj,Bu,Ci,Bf,bV,AA];rw[if_pos (by simpa using hi),hx.idx hi];simp only[bV,H6,l3,XF hA,Er,Ej,ER,b9,hq,Cl,ck,AA,if_true]
 ·intro e;rw[bS];simp only[Be,Bd,Bj,Bu,Ci,Bf,bV,AA,Int.lt_irrefl,decide_false,bA,if_false]
theorem slO_3 (vs:List PV):AN 3 3 vs 0 vs.length=.sl 3 vs false:=by
 unfold AN;rw[if_pos ⟨rfl,by omega⟩,cI,b8 (bF _)]
theorem slO_1 (l:List Int):AN 1 1 (As l) 0 l.length=.sl 1 (As l) false:=by
 unfold AN;rw[if_pos ⟨rfl,by rw[BS];omega⟩,cI,b8 (by rw[BS];exact bF _)]
theorem Zv {f:PV} {l:List Af} {vs:List PV} (hf:okV f=true) (hv:D1 vs l) (hl:l.length<=1000000)
  (hr:∀ {E:Type} (h:Ay E) {e e':E},Dn h 0 (vs.map fun v=>[v]) e=some e'->CP B0 h 0 f e=some e') :
  Al B0 .cl (.fn 56 []) [f]=some (.sl 3 vs false):=by
 refine call (d:=fun _=>.cl) rfl (by decide) (by simp[Ao,hf]) rfl ?_;rw[bz,bC,run56]
 have h1:Al B0 .cl (.fn 92 []) [.nilS,f]=some (.sl 3 vs false):=by
  refine callK (d:=fun _=>.cl) (xs:=[.nils,.cv f]) rfl (by decide) ⟨trivial,hf,trivial⟩ (by intro x hx;simp at hx;rcases hx with rfl | rfl<;>rfl) rfl rfl ?_
  rw[run92];have hlen:=hv.len;refine Z1 (([.nilS,f,nI vs.length,.sl 3 vs false],(none,())):Hj Unit) (hr _ ?_) ?_
  ·refine (yield_run (fun i=>(([.nilS,f,nI i,.sl 3 (vs.take i) false],(none,())):Hj Unit)) _ fun i hi=>?_).trans ?_
   ·rw[bS] at hi;rw[dT];obtain⟨v,h3,h4⟩:=hv.get i (by omega);rw[bN hi] at h3;obtain⟨x,hx,hx2⟩:=h4.get;have hvi:vs[i]=.agg [.bool l[i].li,.bool l[i].ru,x]:=(dp h3).trans hx;simp only[DC,if_true,Be,Bd,Bj,Bu,hvi];rw[show DQ [PV.agg [.bool l[i].li,.bool l[i].ru,x]] 1=true by simp[DQ,Ao,okV,hx2.ok],cT,V3 hx2,cT];simp only[Ho,HW,HV];rw[show AY 3 [PV.agg [.bool l[i].li,.bool l[i].ru,x]]=true by simp[AY,PV.isVal,PV.isCell,hx2.cell,PV.cells],cT];simp only[Mg,PZ,Mr,Er,Ej,b9,Co,ST,Tj,TI,KJ,List.length_singleton,cI,eE,ew,cR,cq (Nat.le_of_lt hi)];rw[show decide (0+1<=1)=true from rfl,cT,show (decide (i<=i)&&decide (i+1<=2147483648))=true by simp;omega,cT,cz,Nat.min_self,<-hvi,List.take_append_getElem hi]
   ·rw[bS,b8 (bF _)]
  ·simp only[Bj,Bu,Co,Er,Ej,b9,slO_3];rw[show Bl (.sl 3 vs false)=true by simp[Bl,okV,hv.ok]];rfl
 rw[h1];rfl
def Cc (c:Int):PV:=if c=0 then .nilI else .iface 124 (.agg [I c])
theorem errD_ok (c:Int):okV (Cc c)=true:=by unfold Cc;split<;>rfl
theorem Ti (c:Int):Ad (.bin .neq .iface true (.c (Cc c)) (.c .nilI))=some (.bool (decide (c≠0))):=by
 unfold Cc;by_cases h:c=0<;>simp[h]<;>rfl
theorem SO (c:Int):Al B0 .cl (.fn 59 []) [Cc c]=some (I c):=by
 refine call (d:=fun _=>.cl) rfl (by decide) (by simp[Ao,errD_ok]) rfl ?_;rw[bz,bC,run59];unfold Cc;by_cases h:c=0
 ·subst h;rfl
 ·simp only[h,if_false];rfl
def Dy (l:List Af):Af:=l.headD AZ
def DK (li:Bool) (l:List Af):Int :=
 if l.all Af.right=false then 114 else if l.any Af.li then 111 else if l.any (fun a=>a.ru != (Dy l).ru) then 102
 else if li=false/\l.length≠1 then 111 else if 200 < l.length then 113 else 0
def Cd (l:List Af):List Int:=l.flatMap Af.n
def E5 (li ru:Bool) (l:List Af):Af:=if DK li l=0 then ⟨li,if l.length=0 then ru else (Dy l).ru,Cd l⟩ else AZ
theorem SY {a:Af} (h:a.right=true):a.n.length<=200:=by
 unfold Af.right at h;simp only[bB] at h;cases hl:a.li with
 | true=>simpa[hl] using h.2
 | false=>simp[hl] at h;omega
theorem catA_len {l:List Af} (h:∀ a∈l,a.right=true):(Cd l).length<=200*l.length:=by
 induction l with
 | nil=>simp[Cd]
 | cons a l ih =>
  have h1:=SY (h a bT);have h2:=ih fun b hb=>h b (bM _ hb);simp only[Cd,cH,cm,cA] at h2 |-;omega
theorem Ng {α:Type} {l:List α} {i:Nat} (h:i < l.length):l.take (i+1)=l.take i++[l[i]]:=(List.take_append_getElem h).symm
theorem Wx {l:List Af} {i:Nat} (h:i < l.length):Cd (l.take (i+1))=Cd (l.take i)++l[i].n:=by unfold Cd;rw[Ng h,List.flatMap_append];simp only[cH,eQ,dB]
theorem Jn {p:Af->Bool} {l:List Af} {i:Nat} (h:i < l.length):(l.take (i+1)).any p=((l.take i).any p||p l[i]):=by rw[Ng h,List.any_append];simp only[List.any_cons,List.any_nil,Bool.or_false]
theorem hd_get {l:List Af} (h:0 < l.length):Dy l=l[0]:=by
 cases l with
 | nil=>simp at h
 | cons a l=>rfl
theorem not_all {l:List Af} {i:Nat} (h:i < l.length) (hr:l[i].right=false):l.all Af.right=false:=by
 cases hq:l.all Af.right with
 | false=>rfl
 | true=>rw[bP.1 hq _ (dk h)] at hr;cases hr
theorem gat_not {li ru:Bool} {l:List Af} (h:l.all Af.right=false):DK li l=114/\E5 li ru l=AZ:=by
 have e:DK li l=114:=by unfold DK;rw[if_pos h]
 exact⟨e,by unfold E5;rw[e];rfl⟩
theorem XT {li ru:Bool} {l:List Af} (h:DK li l≠0):E5 li ru l=AZ:=by unfold E5;rw[if_neg h]
theorem build_lr (b c:Bool):Ad (.build [.bool false,.bool false,.nilS] [(0,(1,.c (.bool b))),(1,(1,.c (.bool c)))])=some (.agg [.bool b,.bool c,.nilS]):=rfl
theorem okC_lr (b c:Bool):AF (.agg [.bool b,.bool c,.nilS]) 3=true:=rfl
theorem Mz:Ad (.build [.bool false,.bool false,.nilS] [])=some (.agg [.bool false,.bool false,.nilS]):=rfl
theorem Qv (c:Int):Ad (.build [.int .i64 0] [(0,(1,.c (.int .i64 c)))])=some (.agg [I c]):=rfl
theorem UQ {v u:PV} {is:Af} {l:List Af} (hv:AL v is) (hu:IsB u l) (hl:l.length<=1000000) (hs:∀ a∈l,a.n.length<=1000000) :
  ∃ w,Bs B0 .cl false 58 [v,u]=some (.tup [w,Cc (DK is.li l)])/\AL w (E5 is.li is.ru l):=by
 obtain⟨x,rfl,hx⟩:=hv.get
 suffices key:∃ r,AR (AI B0 (fun _=>.cl)) fn58 (.cl) AD 0 [.cv (.agg [.bool is.li,.bool is.ru,x]),.cv u] ()=some r/\∃ w,r=(.tup [w,Cc (DK is.li l)],())/\AL w (E5 is.li is.ru l) by
  obtain⟨r,h1,w,rfl,h2⟩:=key;exact⟨w,RU (B8 fun _=>.cl) (fn:=fn58) rfl (by simp[Ao,okV,hv.ok,hu.ok,hx.ok]) (bJ rfl) h1 (by rw[show F4 A1 58=true from rfl,ce,Bool.and_false]),h2⟩
 rw[run58,KK hx,cT];simp only[BP,BH,GC,GB,bV,build_lr,okC_lr,cT,hu.len,Ho,HW,HV];unfold DY;dsimp only
 rw[show Bp [u,.bool false,.bool false,u,I l.length,.int .i64 0]=true by simp only[Bp,cS,hu.und];rfl,cT];have hI:∀ i (hi:i < l.length),∃ y,Ad (.idxAddr 3 (.c u) (.c (I i)))=some (.ptr [.bool l[i].li,.bool l[i].ru,y] 0)/\A5 y l[i].n:=fun i hi=>hu.idx hi;refine loop_inv (α:=Unit) (fun i _=>(([u,.bool ((l.take i).any Af.li),.bool ((l.take i).any fun a=>a.ru != (Dy l).ru),u,I l.length,I i,.agg [.bool is.li,.bool is.ru,x],.bool false,.bool false,.nilS,.bool is.li,.bool (if i=0 then is.ru else (Dy l).ru),nI (Cd (l.take i)).length,.sl 1 (As (Cd (l.take i))) false],()):List PV×Unit)) l.length (fun i _=>∀ a∈l.take i,a.right=true) _ ?_ ?_ (by simp) (a0:=())
 ·intro i _ hi hp;obtain⟨y,h1,h2⟩:=hI i hi;obtain⟨y0,h3,h4⟩:=hI 0 (by omega);have hR:=HS (.mk _ _ _ _ h2:AL (.agg [.bool l[i].li,.bool l[i].ru,y]) l[i]) (hs _ (dk hi));have hcl:=catA_len hp;have hcl:(Cd (l.take i)).length<=200*i:=by simpa[cq (Nat.le_of_lt hi)] using hcl
  have e0:l[0].ru=(Dy l).ru:=by rw[hd_get (by omega)]
  simp only[Be,Bd,Bj,Bu,Ci,DI,Bf,bV,AA];rw[if_pos (by simpa using hi),h1];rw[show Ad (.idxAddr 3 (.c u) (.c (.int .i64 0)))=_ from h3];simp only[bV,show ∀ a b c:PV,Ad (.load 3 true (.c (.ptr [a,b,c] 0)))=some (.agg [a,b,c]) from fun _ _ _=>rfl,V3 h2,cT,Ho,HW,HV,hR,Cl,AA];cases hr:l[i].right with
  | false =>
   right;simp only[ck,if_true];obtain⟨g1,g2⟩:=gat_not (li:=is.li) (ru:=is.ru) (not_all hi hr);rw[Qv,bV];exact⟨_,rfl,_,by rw[g1];rfl,by rw[g2];exact B2⟩
  | true =>
   left;refine⟨(),?_,?_⟩
   ·have hn:=SY hr;simp only[ce,bA,if_false,fa3_1,bV,ld3_1,okC_b,cellP_b,cT,Jg,h2.elems,CU,iD,ED (by omega:i < 9223372036854775807)]
    have hw:BG (AO (An (Aa [u,.bool ((l.take i).any Af.li),.bool ((l.take i).any fun a=>a.ru != (Dy l).ru),u,I l.length,I i,.agg [.bool is.li,.bool is.ru,x],.bool false,.bool false,.nilS,.bool is.li,.bool (if i=0 then is.ru else (Dy l).ru),nI (Cd (l.take i)).length,.sl 1 (As (Cd (l.take i))) false] 12)) (Ai (Av (Aa [u,.bool ((l.take i).any Af.li),.bool ((l.take i).any fun a=>a.ru != (Dy l).ru),u,I l.length,I i,.agg [.bool is.li,.bool is.ru,x],.bool false,.bool false,.nilS,.bool is.li,.bool (if i=0 then is.ru else (Dy l).ru),nI (Cd (l.take i)).length,.sl 1 (As (Cd (l.take i))) false] 13)))) (AO (AG (An (Aa [u,.bool ((l.take i).any Af.li),.bool ((l.take i).any fun a=>a.ru != (Dy l).ru),u,I l.length,I i,.agg [.bool is.li,.bool is.ru,x],.bool false,.bool false,.nilS,.bool is.li,.bool (if i=0 then is.ru else (Dy l).ru),nI (Cd (l.take i)).length,.sl 1 (As (Cd (l.take i))) false] 12)) (Ai (As l[i].n))) 2147483648)=true:=by
     show BG (AO (An (nI (Cd (l.take i)).length)) (As (Cd (l.take i))).length) (AO (AG (An (nI (Cd (l.take i)).length)) (As l[i].n).length) 2147483648)=true;simp only[Er,Ej,b9,Mr,KJ,Mg,BS,decide_eq_true_eq,bB];omega
    rw[hw]
    have e1:nI (AG (An (nI (Cd (l.take i)).length)) (Ai (As l[i].n)))=nI (Cd (l.take (i+1))).length:=by
     rw[Wx hi];simp[BS]
    have e2:(PV.sl 1 (BC (AE (An (nI (Cd (l.take i)).length)) (As (Cd (l.take i)))) (As l[i].n)) false)=.sl 1 (As (Cd (l.take (i+1)))) false:=by
     rw[Wx hi];simp[LI,W9]
    have e3:(if i+1=0 then is.ru else (Dy l).ru)=(Dy l).ru:=if_neg (by omega)
    have fin:∀ b c:Bool,b=(l.take (i+1)).any Af.li->c=((l.take (i+1)).any fun a=>a.ru != (Dy l).ru) ->
      (some (Sum.inl (([u,.bool b,.bool c,u,I l.length,I ((i+1:Nat):Int),.agg [.bool is.li,.bool is.ru,x],.bool false,.bool false,.nilS,.bool is.li,.bool l[0].ru,nI (AG (An (nI (Cd (l.take i)).length)) (Ai (As l[i].n))),.sl 1 (BC (AE (An (nI (Cd (l.take i)).length)) (As (Cd (l.take i)))) (As l[i].n)) false],()):List PV×Unit)):Option (Sum (List PV×Unit) (PV×Unit))) =
      some (Sum.inl ([u,.bool ((l.take (i+1)).any Af.li),.bool ((l.take (i+1)).any fun a=>a.ru != (Dy l).ru),u,I l.length,I ((i+1:Nat):Int),.agg [.bool is.li,.bool is.ru,x],.bool false,.bool false,.nilS,.bool is.li,.bool (if i+1=0 then is.ru else (Dy l).ru),nI (Cd (l.take (i+1))).length,.sl 1 (As (Cd (l.take (i+1)))) false],())):=by
     intro b c hb hc;rw[e1,e2,e3,e0,hb,hc]
    simp only[cT]
    cases hb:(l.take i).any Af.li<;>cases hc:(l.take i).any (fun a=>a.ru != (Dy l).ru) <;>
     simp only[if_true,if_false,bA]
    ·exact fin _ _ (by rw[Jn hi,hb];rfl) (by rw[Jn hi,hc,<-e0];rfl)
    ·exact fin _ _ (by rw[Jn hi,hb];rfl) (by rw[Jn hi,hc];rfl)
    ·exact fin _ _ (by rw[Jn hi,hb];rfl) (by rw[Jn hi,hc,<-e0];rfl)
    ·exact fin _ _ (by rw[Jn hi,hb];rfl) (by rw[Jn hi,hc];rfl)
   ·intro a ha;rw[Ng hi] at ha;rcases bW.1 ha with h | h;·exact hp a h
    ·rw[cj.1 h];exact hr
 ·intro _ hp;rw[b8 (bF _)] at hp |-;have hall:l.all Af.right=true:=bP.2 hp;simp only[Be,Bd,Bj,Bu,Ci,DI,DT,Bf,bV,AA,Int.lt_irrefl,decide_false,bA,if_false,Mz,Qv,okC_lr,cT,BP,BH,GC,Cl,hu.len,iD,G9,Fv,Ho,HW,HV];have hA:¬ l.all Af.right=false:=by rw[hall];simp
  have bad:∀ {c:Int},DK is.li l=c->c≠0->Cc (DK is.li l)=.iface 124 (.agg [I c])/\E5 is.li is.ru l=AZ:=fun {c} h h0=>⟨by rw[h];exact if_neg h0,XT (by rw[h];exact h0)⟩;simp only[KS,KR,KQ,KP,Er,Ej,ER,Co,iD,b9,slO_1];cases h1:l.any Af.li with
  | true =>
   obtain⟨b1,b2⟩:=bad (c:=111) (by unfold DK;rw[if_neg hA,if_pos h1]) (by decide);exact⟨_,rfl,_,by rw[b1];rfl,by rw[b2];exact B2⟩
  | false =>
   have n1:¬ l.any Af.li=true:=by rw[h1];simp
   cases h2:l.any (fun a=>a.ru != (Dy l).ru) with
   | true =>
    obtain⟨b1,b2⟩:=bad (c:=102) (by unfold DK;rw[if_neg hA,if_neg n1,if_pos h2]) (by decide);exact⟨_,rfl,_,by rw[b1];rfl,by rw[b2];exact B2⟩
   | false =>
    have n2:¬ (l.any fun a=>a.ru != (Dy l).ru)=true:=by rw[h2];simp
    by_cases h3:is.li=false/\l.length≠1
    ·have e5:((l.length:Int) != 1)=true:=by have:=h3.2;simp;omega
     obtain⟨b1,b2⟩:=bad (c:=111) (by unfold DK;rw[if_neg hA,if_neg n1,if_neg n2,if_pos h3]) (by decide);rw[h3.1] at b1 b2 |-;rw[e5];exact⟨_,rfl,_,by rw[b1];rfl,by rw[b2];exact B2⟩
    ·have e5:(if (!is.li)=true then some (PV.bool ((l.length:Int) != 1)) else some (.bool false))=some (.bool false):=by
      cases hq:is.li with
      | true=>rfl
      | false =>
       have:l.length=1:=by
        rw[hq] at h3;by_cases hz:l.length=1
        ·exact hz
        ·exact absurd ⟨rfl,hz⟩ h3
       simp[this]
     rw[e5];by_cases h4:200 < l.length
     ·obtain⟨b1,b2⟩:=bad (c:=113) (by unfold DK;rw[if_neg hA,if_neg n1,if_neg n2,if_neg h3,if_pos h4]) (by decide);rw[decide_eq_true (by omega:(200:Int) < (l.length:Int))];exact⟨_,rfl,_,by rw[b1];rfl,by rw[b2];exact B2⟩
     ·have hE:DK is.li l=0:=by unfold DK;rw[if_neg hA,if_neg n1,if_neg n2,if_neg h3,if_neg h4]
      rw[decide_eq_false (by omega:¬ (200:Int) < (l.length:Int)),hE,show E5 is.li is.ru l=⟨is.li,if l.length=0 then is.ru else (Dy l).ru,Cd l⟩ from if_pos hE,
       show Bl (.tup [.agg [.bool is.li,.bool (if l.length=0 then is.ru else (Dy l).ru),.sl 1 (As (Cd l)) false],.nilI])=true by simp[Bl,okV,Ao,FW]]
      exact⟨_,rfl,_,rfl,.mk _ _ _ _ (.sl _ _)⟩
end Go.Ab.Derive2


namespace Go.Ab.Derive2
open Go Go.Ab
theorem Dp {v:PV} {a:Af} (h:AL v a):A3 v=true:=by
 obtain⟨x,rfl,hx⟩:=h.get;rw[Dh,BU rfl rfl hx.cell]
theorem DD {v:PV} {a:Af} (h:AL v a):Am v 0 3 true=some v:=by
 obtain⟨x,rfl,hx⟩:=h.get;rfl
theorem CM {v:PV} {a:Af} (h:AL v a):AF v 3=true:=by
 obtain⟨x,rfl,hx⟩:=h.get;exact Ks (BU rfl rfl hx.cell)
theorem C7 {v:PV} {a:Af} (h:AL v a):PV.agg [Ah v 0,Ah v 1,Ah v 2]=v:=by
 obtain⟨x,rfl,hx⟩:=h.get;rfl
end Go.Ab.Derive2


namespace Go.Ab.Derive2
open Go Go.Ab
def Cu (c:Int):PV:=if c=0 then .nilI else .iface 145 (.agg [I c])
theorem errV_0:Cu 0=.nilI:=rfl
theorem TD (c:Int):okV (Cu c)=true:=by unfold Cu;split<;>rfl
theorem errV_free (c:Int):(Cu c).free=true:=by unfold Cu;split<;>rfl
theorem EA (c:Int):Ad (.bin .neq .iface true (.c (Cu c)) (.c .nilI))=some (.bool (decide (c≠0))):=by
 unfold Cu;by_cases h:c=0
 ·simp only[h,if_true];rfl
 ·rw[if_neg h,show decide (c≠0)=true by simp[h]];rfl
def Gi:PV:=.agg [.bool false,.bool false,.nilS]
theorem Nz (c:Int):Al B0 .cl (.fn 63 []) [Cu c]=some (I c):=by
 refine call (d:=fun _=>.cl) rfl (by decide) (by simp[Ao,TD]) rfl ?_;rw[bz,bC,run63];unfold Cu;by_cases h:c=0
 ·subst h;rfl
 ·simp only[h,if_false];rfl
theorem UD {vs:List PV} {l:List Af} (h:D1 vs l) (hl:l.length<=1000000) (hs:∀ a∈l,a.n.length<=1000000):Bs B0 .cl true 62 [.sl 3 vs false]=some (Cu (if l.all Af.right then 0 else 114)):=by
 refine lendN (d:=fun _=>.cl) rfl (by simp[Ao,okV,h.ok]) rfl ?_ (by rw[errV_free];rfl);rw[bz,bC,run62,Hl,h.len];simp only[Ap];rw[show Bp [.sl 3 vs false,.int .i64 ((l.length:Nat):Int),.int .i64 0]=true from rfl,AH]
 have key:∀ m i,i+m=l.length->BL (fun z2=>Ac (Ad (.bin .lss .num false (.c (Aa z2.1 2)) (.c (Aa z2.1 1)))) (fun z3=>Ar z3 (Ac (Ad (.idxAddr 3 (.c (Aa z2.1 0)) (.c (Aa z2.1 2)))) (fun z4=>Ac (Ad (.load 3 true (.c z4))) (fun z5=>Ae (AF z5 3) (Ac (Al B0 .cl (.fn 27 []) [.agg [Ah z5 0,Ah z5 1,Ah z5 2]]) (fun z6=>Ac (Ad (.un .not (.c z6))) (fun z7=>Ar z7 (Ac (Ad (.build [.int .i64 0] [(0,(1,.c (.int .i64 114)))])) (fun z8=>Ac (some (PV.iface 145 z8,z2.2)) (fun z9=>some (.inr z9)))) (Ac (Ad (.bin .add .num true (.c (Aa z2.1 2)) (.c (.int .i64 1)))) (fun z10=>some (.inl ([Aa z2.1 0,Aa z2.1 1,z10],z2.2)))))))))) (Ac (some (PV.nilI,z2.2)) (fun z11=>some (.inr z11))))) (([.sl 3 vs false,I l.length,I i],()):List PV×Unit)=some (Cu (if (l.drop i).all Af.right then 0 else 114),()):=by
  intro m;induction m with
  | zero =>
   intro i hi;refine Cj ?_;have:i=l.length:=by omega
   subst this;simp[Cu]
  | succ m ih =>
   intro i hi;have hlt:i < l.length:=by omega
   rw[LK hlt];obtain⟨v,hv,ha⟩:=h.get i hlt;have hr:=HS ha (hs _ (dk hlt));obtain⟨x,rfl,hx⟩:=ha.get;cases hrt:(l[i]).right with
   | false =>
    refine Cj ?_;simp only[Be,Bd,Bj,Bf,Ap,AA];rw[if_pos (by simpa using hlt),Hy hv];simp only[Ap,Hx,Ks (BU (a:=.bool (l[i]).li) (b:=.bool (l[i]).ru) rfl rfl hx.cell),AH,Ho,HW,HV,hr,Cl,hrt,ck,AA,if_true,Qv];rw[cS,hrt];rfl
   | true =>
    rw[D4 (s':=([.sl 3 vs false,I l.length,I ((i+1:Nat):Int)],()))];·rw[ih (i+1) (by omega),cS,hrt,cN]
    ·simp only[Be,Bd,Bj,Bf,Ap,AA];rw[if_pos (by simpa using hlt),Hy hv];simp only[Ap,Hx,Ks (BU (a:=.bool (l[i]).li) (b:=.bool (l[i]).ru) rfl rfl hx.cell),AH,Ho,HW,HV,hr,Cl,hrt,ce,AA,if_false,bA,A7,CU,ED (by omega:i < 9223372036854775807)]
 have:=key l.length 0 (by omega);simpa[A7] using this
def Af.sz (a b:Af):Int×Int:=if a.li&&(b.li&&decide (a.n.length≠b.n.length)) then (0,110) else if a.li then (a.n.length,0) else (b.n.length,0)
theorem size6 {a b:Af} {x y:PV} (hx:A5 x a.n) (hy:A5 y b.n):Al B0 .cl (.fn 76 []) [.agg [.bool a.li,.bool a.ru,x,.bool b.li,.bool b.ru,y]]=some (.tup [I (a.sz b).1,Cu (a.sz b).2]):=by
 have hv:(PV.agg [.bool a.li,.bool a.ru,x,.bool b.li,.bool b.ru,y]).isVal=true:=by simp[PV.isVal,PV.isCell,hx.cell,hy.cell]
 refine call (d:=fun _=>.cl) rfl (by decide) (by simp[Ao,okV,hx.ok,hy.ok]) rfl ?_;rw[bz,bC,run76,Dh,hv,AH]
 simp only[BP,BH,show BE [PV.bool a.li,.bool a.ru,x,.bool b.li,.bool b.ru,y] 0 1 false=some (.bool a.li) from rfl,show BE [PV.bool a.li,.bool a.ru,x,.bool b.li,.bool b.ru,y] 3 1 false=some (.bool b.li) from rfl,show BE [PV.bool a.li,.bool a.ru,x,.bool b.li,.bool b.ru,y] 2 1 false=some x from rfl,show BE [PV.bool a.li,.bool a.ru,x,.bool b.li,.bool b.ru,y] 5 1 false=some y from rfl,
  Ap,AA,hx.len,hy.len,G9,Qv]
 unfold Af.sz
 have e:((a.n.length:Int) != (b.n.length:Int))=decide (a.n.length≠b.n.length):=by
  by_cases h:a.n.length=b.n.length
  ·simp[h]
  ·have:¬ (a.n.length:Int)=(b.n.length:Int):=by omega
   simp[h,this]
 rw[e];cases a.li<;>cases b.li<;>simp[Cu]<;>(try (by_cases h:a.n.length=b.n.length<;>simp[h,Cu]))<;>rfl
def Af.text (a:Af):Bool:=a.ru&&decide (0 < a.n.length)
theorem LN {v:PV} {a:Af} (h:AL v a):Al B0 .cl (.fn 64 []) [v]=some (.bool a.text):=by
 obtain⟨x,rfl,hx⟩:=h.get;refine call (d:=fun _=>.cl) rfl (by decide) (by simp[Ao,h.ok]) rfl ?_;rw[bz,bC,run64,Dh,BU rfl rfl hx.cell,AH];simp only[BP,BH,GC,GB,Gc,Ap,hx.len,AA,A7,Fv];unfold Af.text;have e:decide ((0:Int) < (a.n.length:Int))=decide (0 < a.n.length):=by by_cases h:0 < a.n.length<;>simp[h]
 rw[e];cases a.ru<;>simp
def Af.at (a:Af) (i:Nat):Int:=if a.li then a.n.getD i 0 else a.n.getD 0 0
def Af.fits (a:Af) (i:Nat):Prop:=if a.li then i < a.n.length else 0 < a.n.length
theorem of_run {v:PV} {a:Af} (h:AL v a) {i:Nat} (hi:a.fits i):Al B0 .cl (.fn 142 []) [v,I i]=some (I (a.at i)):=by
 obtain⟨x,rfl,hx⟩:=h.get;refine call (d:=fun _=>.cl) rfl (by decide) (by simp[Ao,h.ok]) rfl ?_;rw[bz,bz,bC,run142,Dh,BU rfl rfl hx.cell,AH];simp only[BP,BH,GC,GB,Gc,Ap,AA];unfold Af.at
 unfold Af.fits at hi;cases hli:a.li with
 | true =>
  simp only[hli,if_true] at hi;simp only[if_true,hx.idx hi,Ap,H6];rw[bI,bN hi];rfl
 | false =>
  simp only[hli,bA,if_false] at hi;simp only[bA,if_false];rw[show (PV.int .i64 0)=I ((0:Nat):Int) from rfl,hx.idx hi];simp only[Ap,H6];rw[bI,bN hi];rfl
def EN (a b:Af) (i:Nat):Nat->List (Int×Int)
 | 0=>[]
 | m+1=>(a.at i,b.at i) :: EN a b (i+1) m
def La (p:Int×Int):List PV:=[I p.1,I p.2]
theorem both_run {a b:Af} {x y:PV} (hx:A5 x a.n) (hy:A5 y b.n) (n:Nat):Al B0 .cl (.fn 77 []) [.agg [.bool a.li,.bool a.ru,x,.bool b.li,.bool b.ru,y],I n]=some (.fn 141 [.ptr [I n] 0,.ptr [.bool a.li,.bool a.ru,x,.bool b.li,.bool b.ru,y] 0]):=by
 have hv:(PV.agg [.bool a.li,.bool a.ru,x,.bool b.li,.bool b.ru,y]).isVal=true:=by simp[PV.isVal,PV.isCell,hx.cell,hy.cell]
 refine call (d:=fun _=>.cl) rfl (by decide) (by simp[Ao,okV,hx.ok,hy.ok]) rfl ?_;rw[bz,bz,bC,run77,Dh,hv,AH,show A3 (I (n:Int))=true from rfl,AH]
 rw[show Bl (.fn 141 [FN (CH (I n)) 0,FN (CH (.agg [.bool a.li,.bool a.ru,x,.bool b.li,.bool b.ru,y])) 0])=true by
  show okV _=true;have:okV (PV.fn 141 [.ptr [I n] 0,.ptr [.bool a.li,.bool a.ru,x,.bool b.li,.bool b.ru,y] 0])=true:=by simp[okV,Ao,hx.ok,hy.ok]
  exact this]
 rfl
theorem VW {E:Type} (h:Ay E) (dep:Nat) {a b:Af} {x y:PV} (hx:A5 x a.n) (hy:A5 y b.n) (n:Nat) (hn:n<=1000000) (hf:∀ i,i < n->a.fits i/\b.fits i) {e e':E}
  (hyy:Dn h dep ((EN a b 0 n).map La) e=some e'):CP B0 h dep (.fn 141 [.ptr [I n] 0,.ptr [.bool a.li,.bool a.ru,x,.bool b.li,.bool b.ru,y] 0]) e=some e':=by
 have hA:AL (.agg [.bool a.li,.bool a.ru,x]) a:=.mk _ _ _ _ hx;have hB:AL (.agg [.bool b.li,.bool b.ru,y]) b:=.mk _ _ _ _ hy;refine OV (B8 fun _=>.cl) (g:=141) (fn:=fn141) rfl (by simp[Ao,okV,hx.ok,hy.ok]) (bJ rfl) (u:=.tup []) ?_;simp only[bz,bC];rw[run141,Nk,LY];simp only[Ap];rw[show Bp [nI dep,.ptr [.bool a.li,.bool a.ru,x,.bool b.li,.bool b.ru,y] 0,I n,.int .i64 0]=true from rfl,AH]
 have key:∀ m i,i+m=n->∀ e e',Dn h dep ((EN a b i m).map La) e=some e'->BL (fun z2=>Ac (Ad (.bin .lss .num false (.c (Aa z2.1 3)) (.c (Aa z2.1 2)))) (fun z3=>Ar z3 (Ac (Ad (.fieldAddr 0 (.c (Aa z2.1 1)))) (fun z4=>Ac (Ad (.load 3 true (.c z4))) (fun z5=>Ac (Al B0 .cl (.fn 142 []) [z5,Aa z2.1 3]) (fun z6=>Ac (Ad (.fieldAddr 3 (.c (Aa z2.1 1)))) (fun z7=>Ac (Ad (.load 3 true (.c z7))) (fun z8=>Ac (Al B0 .cl (.fn 142 []) [z8,Aa z2.1 3]) (fun z9=>Ac (h (An (Aa z2.1 0)) [z6,z9] z2.2) (fun z10=>Ac (Ad (.un .not (.c (.bool z10.1)))) (fun z11=>Ar z11 (Ac (some (PV.tup [],z10.2)) (fun z12=>some (.inr z12))) (Ac (Ad (.bin .add .num true (.c (Aa z2.1 3)) (.c (.int .i64 1)))) (fun z13=>some (.inl ([nI (An (Aa z2.1 0)),Aa z2.1 1,Aa z2.1 2,z13],z10.2))))))))))))) (Ac (some (PV.tup [],z2.2)) (fun z14=>some (.inr z14))))) (([nI dep,.ptr [.bool a.li,.bool a.ru,x,.bool b.li,.bool b.ru,y] 0,I n,I i],e):List PV×E)=some (.tup [],e'):=by
  intro m;induction m with
  | zero =>
   intro i hi e e' hq;have:i=n:=by omega
   subst this;cases hq;refine Cj ?_;simp
  | succ m ih =>
   intro i hi e e' hq;have hlt:i < n:=by omega
   obtain⟨f1,f2⟩:=hf i hlt;have o1:=of_run hA f1;have o2:=of_run hB f2;have q0:Ad (.load 3 true (.c (.ptr [.bool a.li,.bool a.ru,x,.bool b.li,.bool b.ru,y] 0)))=some (.agg [.bool a.li,.bool a.ru,x]):=rfl;have q3:Ad (.load 3 true (.c (.ptr [.bool a.li,.bool a.ru,x,.bool b.li,.bool b.ru,y] 3)))=some (.agg [.bool b.li,.bool b.ru,y]):=rfl;have g0:Ad (.fieldAddr 0 (.c (.ptr [.bool a.li,.bool a.ru,x,.bool b.li,.bool b.ru,y] 0)))=some (.ptr [.bool a.li,.bool a.ru,x,.bool b.li,.bool b.ru,y] 0):=rfl;have g3:Ad (.fieldAddr 3 (.c (.ptr [.bool a.li,.bool a.ru,x,.bool b.li,.bool b.ru,y] 0)))=some (.ptr [.bool a.li,.bool a.ru,x,.bool b.li,.bool b.ru,y] 3):=rfl;unfold EN at hq;simp only[bz,Dn,La] at hq;split at hq
   ·rename_i e1 hh;rw[D4 (s':=([nI dep,.ptr [.bool a.li,.bool a.ru,x,.bool b.li,.bool b.ru,y] 0,I n,I ((i+1:Nat):Int)],e1))];·exact ih (i+1) (by omega) _ _ hq
    ·simp only[Be,Bd,Bj,Bu,Bf,Ap,AA];rw[if_pos (by simpa using hlt)];simp only[g0,g3,q0,q3,o1,o2,Ap,Er,Ej,ER,b9,hh,Cl,ce,AA,if_false,bA,A7,CU,ED (by omega:i < 9223372036854775807)]
   ·rename_i e1 hh;cases hq;refine Cj ?_;simp only[Be,Bd,Bj,Bu,Bf,Ap,AA];rw[if_pos (by simpa using hlt)];simp only[g0,g3,q0,q3,o1,o2,Ap,Er,Ej,ER,b9,hh,Cl,ck,AA,if_true]
   ·cases hq
 have:=key n 0 (by omega) e e' hyy;simpa[A7] using this
noncomputable def K4:List PV->List PV->Unit->Option (Bool×Hj Unit):=(fun z25=>fun z26=>fun z27=>Ae (DQ z26 2) (Ac (Ar (Aa z25 8) (Ac (Am (Aa z25 2) 1 1 false) (fun z28=>Ac (Am (Aa z25 3) 1 1 false) (fun z29=>Ac (Ad (.bin .neq .bool false (.c z28) (.c z29))) (fun z30=>some z30)))) (some (.bool false))) (fun z31=>Ar z31 (Ac (Am (Aa z25 1) 0 1 false) (fun z32=>Ac (Al B0 .cl (.fn 78 []) [z32,.int .i64 0,.int .i64 1]) (fun z33=>Ac (Ad (.extract 0 (.c z33))) (fun z34=>Ac (Ad (.extract 1 (.c z33))) (fun z35=>Ac (Ad (.bin .neq .num true (.c z35) (.c (.int .i64 0)))) (fun z36=>Ar z36 (Ac (Ad (.build [.bool false,.bool false,.nilS] [])) (fun z37=>Ae (AF z37 3) (Ae (AF z35 1) (some (false,([Aa z25 0,Aa z25 1,Aa z25 2,Aa z25 3,Ah z37 0,Ah z37 1,Ah z37 2,Ah z35 0,Aa z25 8,Aa z25 9,Aa z25 10,nI (An (Aa z25 11)),.sl 1 (Av (Aa z25 12)) false],(some .ret,z27))))))) (Ae (AY 1 [z34]) (Ae (AO (AG 0 (Ai [z34])) (Ai [z34])) (Ae (BG (AO (An (Aa z25 11)) (Ai (Av (Aa z25 12)))) (AO (AG (An (Aa z25 11)) (Ai (AE (Ai [z34]) (AS 0 [z34])))) 2147483648)) (some (true,([Aa z25 0,Aa z25 1,Aa z25 2,Aa z25 3,Aa z25 4,Aa z25 5,Aa z25 6,Aa z25 7,Aa z25 8,Aa z25 9,Aa z25 10,nI (AG (An (Aa z25 11)) (Ai (AE (Ai [z34]) (AS 0 [z34])))),.sl 1 (BC (AE (An (Aa z25 11)) (Av (Aa z25 12))) (AE (Ai [z34]) (AS 0 [z34]))) false],(none,z27))))))))))))) (Ac (Am (Aa z25 1) 0 1 false) (fun z38=>Ac (Al B0 .cl (.fn 78 []) [z38,Aa z26 0,Aa z26 1]) (fun z39=>Ac (Ad (.extract 0 (.c z39))) (fun z40=>Ac (Ad (.extract 1 (.c z39))) (fun z41=>Ac (Ad (.bin .neq .num true (.c z41) (.c (.int .i64 0)))) (fun z42=>Ar z42 (Ac (Ad (.build [.bool false,.bool false,.nilS] [])) (fun z43=>Ae (AF z43 3) (Ae (AF z41 1) (some (false,([Aa z25 0,Aa z25 1,Aa z25 2,Aa z25 3,Ah z43 0,Ah z43 1,Ah z43 2,Ah z41 0,Aa z25 8,Aa z25 9,Aa z25 10,nI (An (Aa z25 11)),.sl 1 (Av (Aa z25 12)) false],(some .ret,z27))))))) (Ae (AY 1 [z40]) (Ae (AO (AG 0 (Ai [z40])) (Ai [z40])) (Ae (BG (AO (An (Aa z25 11)) (Ai (Av (Aa z25 12)))) (AO (AG (An (Aa z25 11)) (Ai (AE (Ai [z40]) (AS 0 [z40])))) 2147483648)) (some (true,([Aa z25 0,Aa z25 1,Aa z25 2,Aa z25 3,Aa z25 4,Aa z25 5,Aa z25 6,Aa z25 7,Aa z25 8,Aa z25 9,Aa z25 10,nI (AG (An (Aa z25 11)) (Ai (AE (Ai [z40]) (AS 0 [z40])))),.sl 1 (BC (AE (An (Aa z25 11)) (Av (Aa z25 12))) (AE (Ai [z40]) (AS 0 [z40]))) false],(none,z27))))))))))))))))
def EK (f:Int->Int->Int×NE):List (Int×Int)->Sum Int (List Int)
 | []=>.inr []
 | p :: l=>if (f p.1 p.2).2.no≠0 then .inl (f p.1 p.2).2.no else match EK f l with
  | .inl c=>.inl c
  | .inr r=>.inr ((f p.1 p.2).1 :: r)
def Dl (g:List UInt8) (sub:Bool) (x y:Int):Int×NE:=if sub then nDy g 0 1 else nDy g x y
def Ij (z:PV) (g:List UInt8) (a b:Af) (x y:PV) (eqv li:Bool) (w:List PV) (k:Nat) (xs:List PV):List PV :=
 [z,.str g,.agg [.bool a.li,.bool a.ru,x],.agg [.bool b.li,.bool b.ru,y]]++w++[.bool eqv,.bool li,.bool false,nI k,.sl 1 xs false]
theorem V2 (n:Int):AY 1 [I n]=true:=rfl
theorem bj (z:PV) (g:List UInt8) (a b:Af) (x y:PV) (eqv li:Bool) (c0 c1 c2 c3:PV) (acc:List Int) (hacc:acc.length < 1000000) (p:Int×Int) :
  K4 (Ij z g a b x y eqv li [c0,c1,c2,c3] acc.length (As acc)) (La p) () =
   let r:=Dl g (eqv&&(a.ru != b.ru)) p.1 p.2
   if r.2.no≠0 then some (false,(Ij z g a b x y eqv li [.bool false,.bool false,.nilS,I r.2.no] acc.length (As acc),(some .ret,())))
   else some (true,(Ij z g a b x y eqv li [c0,c1,c2,c3] (acc++[r.1]).length (As (acc++[r.1])),(none,()))):=by
 unfold K4 Ij;simp only[dR,cE,Be,Bd,Bj,Bu,Ci,DI,DT,DH,EE,La];rw[show DQ [I p.1,I p.2] 2=true from rfl,AH]
 simp only[AA,BP,BH,Wv,LY,GB,Ap,Jg,dy_run,B3,bX,bY,A7,G9,Mz,Be,Bd,
  show AF (.agg [.bool false,.bool false,.nilS]) 3=true from rfl,AH,Ho,HW,HV,V2]
 have hlen:∀ n,(decide (acc.length<=(As acc).length)&&decide (acc.length+((As acc).length - (As acc).length+1)<=n))=decide (acc.length+1<=n):=fun n=>by simp[BS]
 have fin:∀ r:Int×NE,(if (r.2.no != 0)=true then Ae (AF (I r.2.no) 1) (some (false,([z,.str g,.agg [.bool a.li,.bool a.ru,x],.agg [.bool b.li,.bool b.ru,y],.bool false,.bool false,.nilS,Ah (I r.2.no) 0,.bool eqv,.bool li,.bool false,nI (An (Aa [z,.str g,.agg [.bool a.li,.bool a.ru,x],.agg [.bool b.li,.bool b.ru,y],c0,c1,c2,c3,.bool eqv,.bool li,.bool false,nI acc.length,.sl 1 (As acc) false] 11)),.sl 1 (Av (Aa [z,.str g,.agg [.bool a.li,.bool a.ru,x],.agg [.bool b.li,.bool b.ru,y],c0,c1,c2,c3,.bool eqv,.bool li,.bool false,nI acc.length,.sl 1 (As acc) false] 12)) false],(some Ex.ret,()))))
   else Ae (AO (AG 0 (Ai [I r.1])) (Ai [I r.1])) (Ae (BG (AO (An (Aa [z,.str g,.agg [.bool a.li,.bool a.ru,x],.agg [.bool b.li,.bool b.ru,y],c0,c1,c2,c3,.bool eqv,.bool li,.bool false,nI acc.length,.sl 1 (As acc) false] 11)) (Ai (Av (Aa [z,.str g,.agg [.bool a.li,.bool a.ru,x],.agg [.bool b.li,.bool b.ru,y],c0,c1,c2,c3,.bool eqv,.bool li,.bool false,nI acc.length,.sl 1 (As acc) false] 12)))) (AO (AG (An (Aa [z,.str g,.agg [.bool a.li,.bool a.ru,x],.agg [.bool b.li,.bool b.ru,y],c0,c1,c2,c3,.bool eqv,.bool li,.bool false,nI acc.length,.sl 1 (As acc) false] 11)) (Ai (AE (Ai [I r.1]) (AS 0 [I r.1])))) 2147483648)) (some (true,([z,.str g,.agg [.bool a.li,.bool a.ru,x],.agg [.bool b.li,.bool b.ru,y],c0,c1,c2,c3,.bool eqv,.bool li,.bool false,nI (AG (An (Aa [z,.str g,.agg [.bool a.li,.bool a.ru,x],.agg [.bool b.li,.bool b.ru,y],c0,c1,c2,c3,.bool eqv,.bool li,.bool false,nI acc.length,.sl 1 (As acc) false] 11)) (Ai (AE (Ai [I r.1]) (AS 0 [I r.1])))),.sl 1 (BC (AE (An (Aa [z,.str g,.agg [.bool a.li,.bool a.ru,x],.agg [.bool b.li,.bool b.ru,y],c0,c1,c2,c3,.bool eqv,.bool li,.bool false,nI acc.length,.sl 1 (As acc) false] 11)) (Av (Aa [z,.str g,.agg [.bool a.li,.bool a.ru,x],.agg [.bool b.li,.bool b.ru,y],c0,c1,c2,c3,.bool eqv,.bool li,.bool false,nI acc.length,.sl 1 (As acc) false] 12))) (AE (Ai [I r.1]) (AS 0 [I r.1]))) false],((none:Option Ex),())))))) =
   (if r.2.no≠0 then some (false,([z,.str g,.agg [.bool a.li,.bool a.ru,x],.agg [.bool b.li,.bool b.ru,y],.bool false,.bool false,.nilS,I r.2.no,.bool eqv,.bool li,.bool false,nI acc.length,.sl 1 (As acc) false],(some Ex.ret,())))
   else some (true,([z,.str g,.agg [.bool a.li,.bool a.ru,x],.agg [.bool b.li,.bool b.ru,y],c0,c1,c2,c3,.bool eqv,.bool li,.bool false,nI (acc++[r.1]).length,.sl 1 (As (acc++[r.1])) false],(none,())))):=by
  intro r;by_cases h:r.2.no=0
  ·rw[if_neg (by simp[h]),if_neg (by simp[h])];show Ae (AO (0+1) 1) (Ae (BG (AO (An (nI acc.length)) (As acc).length) (AO (An (nI acc.length)+1) 2147483648)) (some (true,(_,(none,())))))=_;simp only[Mr,KJ,Er,Ej,b9,BS];rw[show (decide (0+1<=1))=true from rfl,AH,show (decide (acc.length<=acc.length)&&decide (acc.length+1<=2147483648))=true by simp;omega,AH];have e1:An (nI acc.length)=acc.length:=by simp
   show some (true,([z,.str g,.agg [.bool a.li,.bool a.ru,x],.agg [.bool b.li,.bool b.ru,y],c0,c1,c2,c3,.bool eqv,.bool li,.bool false,nI (An (nI acc.length)+1),.sl 1 ((As acc).take (An (nI acc.length))++[I r.1]) false],((none:Option Ex),())))=_;rw[e1,b8 (by rw[BS];exact bF _),cm,show As (acc++[r.1])=As acc++[I r.1] by simp[As]];rfl
  ·rw[if_pos (by simp[h]),if_pos h];rfl
 unfold Dl;cases eqv with
 | false =>
  simp only[bA,if_false,ep];exact fin _
 | true =>
  simp only[if_true,cN];have e:(!(a.ru==b.ru))=(a.ru != b.ru):=rfl;rw[e];cases a.ru != b.ru with
  | false =>
   simp only[bA,if_false];exact fin _
  | true =>
   simp only[if_true];exact fin _
theorem Y8 (body:List PV->List PV->Unit->Option (Bool×Hj Unit)) (vs args:List PV):DC 0 AD body 0 args (vs,(none,()))=body vs args ():=rfl
theorem dyAll_run (z:PV) (g:List UInt8) (a b:Af) (x y:PV) (eqv li:Bool) (c0 c1 c2 c3:PV):∀ (ps:List (Int×Int)) (acc:List Int),acc.length+ps.length < 1000000 ->
  match EK (Dl g (eqv&&(a.ru != b.ru))) ps with
  | .inl c=>∃ k xs,Dn (DC 0 AD K4) 0 (ps.map La) (Ij z g a b x y eqv li [c0,c1,c2,c3] acc.length (As acc),(none,()))=some (Ij z g a b x y eqv li [.bool false,.bool false,.nilS,I c] k xs,(some .ret,()))
  | .inr r=>Dn (DC 0 AD K4) 0 (ps.map La) (Ij z g a b x y eqv li [c0,c1,c2,c3] acc.length (As acc),(none,()))=some (Ij z g a b x y eqv li [c0,c1,c2,c3] (acc++r).length (As (acc++r)),(none,())):=by
 intro ps;induction ps with
 | nil=>intro acc _;simp[EK,Dn]
 | cons p ps ih =>
  intro acc hl;simp only[cA] at hl;have hb:=bj z g a b x y eqv li c0 c1 c2 c3 acc (by omega) p;simp only at hb;unfold EK;simp only[bz,Dn,Y8];rw[hb];by_cases h:(Dl g (eqv&&(a.ru != b.ru)) p.1 p.2).2.no=0
  ·simp only[h,ne_eq,not_true_eq_false,if_false];have hi:=ih (acc++[(Dl g (eqv&&(a.ru != b.ru)) p.1 p.2).1]) (by simp;omega);cases hd:EK (Dl g (eqv&&(a.ru != b.ru))) ps with
   | inl c =>
    rw[hd] at hi;exact hi
   | inr r =>
    rw[hd] at hi;simp only at hi |-;rw[hi];simp
  ·simp only[h,ne_eq,not_false_eq_true,if_true];exact⟨_,_,rfl⟩
theorem dyTail {a b:Af} {x y:PV} (hx:A5 x a.n) (hy:A5 y b.n) (g:List UInt8) (eqv li:Bool) (n:Nat) (hn:n < 1000000) (hf:∀ i,i < n->a.fits i/\b.fits i) :
  (Ac (Al B0 .cl (.fn 77 []) [.agg [.bool a.li,.bool a.ru,x,.bool b.li,.bool b.ru,y],I n]) (fun z24=>DY (.nilS) (Ac (CP B0 (DC 0 AD K4) 0 z24 ([z24,.str g,.agg [.bool a.li,.bool a.ru,x],.agg [.bool b.li,.bool b.ru,y],.bool false,.bool false,.nilS,.int .i64 0,.bool eqv,.bool li,.bool false,nI 0,.sl 1 [] false],(none,()))) (fun z44=>B9 (F8 z44.2.1) (Ae (AF (.int .i64 0) 1) (Ae (Bl (PV.tup [.agg [Aa z44.1 9,Aa z44.1 10,AN 1 1 (Av (Aa z44.1 12)) 0 (An (Aa z44.1 11))],Ah (.int .i64 0) 0])) (some (PV.tup [.agg [Aa z44.1 9,Aa z44.1 10,AN 1 1 (Av (Aa z44.1 12)) 0 (An (Aa z44.1 11))],Ah (.int .i64 0) 0],z44.2.2)))) (B9 (GF z44.2.1) (some (PV.tup [.agg [Aa z44.1 4,Aa z44.1 5,Aa z44.1 6],Aa z44.1 7],z44.2.2)) none))))) =
   match EK (Dl g (eqv&&(a.ru != b.ru))) (EN a b 0 n) with
   | .inl c=>some (PV.tup [Gi,I c],())
   | .inr r=>some (PV.tup [.agg [.bool li,.bool false,.sl 1 (As r) false],I 0],()):=by
 rw[both_run hx hy n];simp only[Ap]
 have hlen:(EN a b 0 n).length=n:=by
  have:∀ m i,(EN a b i m).length=m:=by
   intro m;induction m with
   | zero=>intro i;rfl
   | succ m ih=>intro i;simp[EN,ih]
  exact this n 0
 have hall:=dyAll_run (.fn 141 [.ptr [I n] 0,.ptr [.bool a.li,.bool a.ru,x,.bool b.li,.bool b.ru,y] 0]) g a b x y eqv li (.bool false) (.bool false) .nilS (.int .i64 0) (EN a b 0 n) [] (by simp[hlen];omega);unfold DY;dsimp only
 cases hd:EK (Dl g (eqv&&(a.ru != b.ru))) (EN a b 0 n) with
 | inl c =>
  rw[hd] at hall;obtain⟨k,xs,hall⟩:=hall;have hr:=VW (DC 0 AD K4) 0 hx hy n (by omega) hf hall;unfold Ij at hr;simp only[dR,cE,dP,show As []=[] from rfl] at hr;rw[hr];rfl
 | inr r =>
  rw[hd] at hall;simp only[cE] at hall;have hr:=VW (DC 0 AD K4) 0 hx hy n (by omega) hf hall;unfold Ij at hr;simp only[dR,cE,dP,show As []=[] from rfl] at hr;rw[hr]
  have es:AN 1 1 (As r) 0 r.length=.sl 1 (As r) false:=by
   unfold AN;rw[if_pos ⟨rfl,by rw[BS];omega⟩,cI,b8 (by rw[BS];exact bF _)]
  simp only[Ap];show Ae (AF (.int .i64 0) 1) (Ae (Bl (PV.tup [.agg [.bool li,.bool false,AN 1 1 (As r) 0 (An (nI r.length))],Ah (.int .i64 0) 0])) (some (PV.tup [.agg [.bool li,.bool false,AN 1 1 (As r) 0 (An (nI r.length))],Ah (.int .i64 0) 0],())))=_
  rw[Er,Ej,b9,es,show AF (.int .i64 0) 1=true from rfl,AH,show Bl (.tup [.agg [.bool li,.bool false,.sl 1 (As r) false],Ah (.int .i64 0) 0])=true by
   show okV (.tup [.agg [.bool li,.bool false,.sl 1 (As r) false],I 0])=true;simp[okV,Ao,FW],AH]
  rfl
end Go.Ab.Derive2


namespace Go.Ab.Derive2
open Go Go.Ab
theorem build6 {a b:Af} {x y:PV} (hx:A5 x a.n) (hy:A5 y b.n) :
  Ad (.build [.bool false,.bool false,.nilS,.bool false,.bool false,.nilS] [(0,(3,.c (.agg [.bool a.li,.bool a.ru,x]))),(3,(3,.c (.agg [.bool b.li,.bool b.ru,y])))])=some (.agg [.bool a.li,.bool a.ru,x,.bool b.li,.bool b.ru,y]):=by
 simp[Ad,exec,DS,RX.ev,PV.cells,BU (a:=.bool a.li) (b:=.bool a.ru) rfl rfl hx.cell,BU (a:=.bool b.li) (b:=.bool b.ru) rfl rfl hy.cell,splice,AC]
theorem okCells6 {a b:Af} {x y:PV} (hx:A5 x a.n) (hy:A5 y b.n):AF (.agg [.bool a.li,.bool a.ru,x,.bool b.li,.bool b.ru,y]) 6=true:=by
 simp[AF,PV.isVal,PV.isCell,hx.cell,hy.cell]
theorem Qj {a:Af} {x:PV} (hx:A5 x a.n):AY 3 [.agg [.bool a.li,.bool a.ru,x]]=true:=by
 simp[AY,BU (a:=.bool a.li) (b:=.bool a.ru) rfl rfl hx.cell,PV.cells]
theorem Tu {a b:Af} {x y:PV} (hx:A5 x a.n) (hy:A5 y b.n):AY 3 [.agg [.bool a.li,.bool a.ru,x],.agg [.bool b.li,.bool b.ru,y]]=true:=by
 simp[AY,BU (a:=.bool a.li) (b:=.bool a.ru) rfl rfl hx.cell,BU (a:=.bool b.li) (b:=.bool b.ru) rfl rfl hy.cell,PV.cells]
def Af.isEq (g:List UInt8):Bool:=(g==FS)||(g==gNe)
def Af.dy (g:List UInt8) (a b:Af):Af×Int :=
 if (a.right&&b.right)=false then (AZ,114)
 else if H8 g=false then (AZ,102)
 else if (a.sz b).2≠0 then (AZ,(a.sz b).2)
 else if !Af.isEq g&&(a.text||b.text) then (AZ,102)
 else match EK (Dl g (Af.isEq g&&(a.ru != b.ru))) (EN a b 0 (a.sz b).1.toNat) with
  | .inl c=>(AZ,c)
  | .inr r=>(⟨a.li||b.li,false,r⟩,0)
theorem Gu {a:Af} (h:a.right=true):a.n.length<=200:=by
 unfold Af.right at h;simp only[bB] at h;cases hl:a.li with
 | true=>simpa[hl] using h.2
 | false=>simp[hl] at h;omega
theorem Tq {a b:Af} (ha:a.right=true) (hb:b.right=true) (hs:(a.sz b).2=0):(a.sz b).1=((a.sz b).1.toNat:Nat)/\(a.sz b).1.toNat<=200/\∀ i,i < (a.sz b).1.toNat->a.fits i/\b.fits i:=by
 have la:=Gu ha;have lb:=Gu hb;unfold Af.right at ha hb;simp only[bB] at ha hb;have h1:=ha.2;have h2:=hb.2;unfold Af.sz at hs |-;unfold Af.fits;cases hl:a.li<;>cases hr:b.li<;>simp[hl,hr] at h1 h2 hs |-;·refine⟨by omega,fun i hi=>by omega⟩
 ·refine⟨by omega,fun i hi=>by omega⟩
 ·refine⟨by omega,fun i hi=>by omega⟩
 ·by_cases h:a.n.length=b.n.length
  ·simp[h];omega
  ·simp[h] at hs
set_option maxHeartbeats 2000000 in
theorem adyR {v u:PV} {a b:Af} (hv:AL v a) (hu:AL u b) (hla:a.n.length<=1000000) (hlb:b.n.length<=1000000) (g:List UInt8) :
  ∃ w,Al B0 .cl (.fn 42 []) [.str g,v,u]=some (.tup [w,I (Af.dy g a b).2])/\AL w (Af.dy g a b).1:=by
 have hok:Ao [.str g,v,u]=true:=by simp[Ao,okV,hv.ok,hu.ok]
 have hri:=UD (.cons hv (.cons hu .nil)) (by simp) (by intro c hc;simp at hc;rcases hc with rfl | rfl<;>assumption);have htx:=LN hv;have hty:=LN hu;obtain⟨x,rfl,hx⟩:=hv.get;obtain⟨y,rfl,hy⟩:=hu.get;have hsz:=size6 hx hy
 suffices key:∃ w,AR (AI B0 (fun _=>.cl)) fn42 (.cl) AD 0 [.cv (.str g),.cv (.agg [.bool a.li,.bool a.ru,x]),.cv (.agg [.bool b.li,.bool b.ru,y])] ()=some (.tup [w,I (Af.dy g a b).2],())/\AL w (Af.dy g a b).1 by
  obtain⟨w,h1,h2⟩:=key;exact⟨w,call (d:=fun _=>.cl) rfl (by decide) hok rfl h1,h2⟩
 rw[run42,show A3 (.str g)=true from rfl,AH,Dh,Dh,BU rfl rfl hx.cell,BU rfl rfl hy.cell,AH,AH];simp only[BP,BH,H5,GC,GB,Wv,LY,Ap,build6 hx hy,okCells6 hx hy,AH,Tu hx hy];rw[show AN 3 3 [.agg [.bool a.li,.bool a.ru,x],.agg [.bool b.li,.bool b.ru,y]] 0 (Ai [.agg [.bool a.li,.bool a.ru,x],.agg [.bool b.li,.bool b.ru,y]])=.sl 3 [.agg [.bool a.li,.bool a.ru,x],.agg [.bool b.li,.bool b.ru,y]] false from rfl,hri];simp only[Ap,EA,AA,Mz,Nz,cS,List.all_nil,d8];unfold Af.dy;by_cases hr:(a.right&&b.right)=true
 ·simp only[hr,if_true,ne_eq,not_true_eq_false,decide_false,bA,if_false,Te,Ap,Cl,AA,eW];by_cases hd:H8 g=true
  ·simp only[hd,ce,bA,if_false,eW];rw[show Al B0 .cl (.fn 76 []) [.agg [Ah (.agg [.bool a.li,.bool a.ru,x,.bool b.li,.bool b.ru,y]) 0,Ah (.agg [.bool a.li,.bool a.ru,x,.bool b.li,.bool b.ru,y]) 1,Ah (.agg [.bool a.li,.bool a.ru,x,.bool b.li,.bool b.ru,y]) 2,Ah (.agg [.bool a.li,.bool a.ru,x,.bool b.li,.bool b.ru,y]) 3,Ah (.agg [.bool a.li,.bool a.ru,x,.bool b.li,.bool b.ru,y]) 4,Ah (.agg [.bool a.li,.bool a.ru,x,.bool b.li,.bool b.ru,y]) 5]]=some (.tup [I (a.sz b).1,Cu (a.sz b).2]) from hsz];simp only[Ap,B3,bX,bY,PH,AA,EA,Nz];by_cases hs:(a.sz b).2=0
   ·simp only[bB] at hr;obtain⟨z1,z2,z3⟩:=Tq hr.1 hr.2 hs;rw[z1];generalize (a.sz b).1.toNat=n at z2 z3 |-;have tail:=fun eqv li=>dyTail hx hy g eqv li n (by omega) z3
    have fin:∀ (eqv li:Bool),∃ w,(match EK (Dl g (eqv&&(a.ru != b.ru))) (EN a b 0 n) with
      | .inl c=>some (PV.tup [Gi,I c],())
      | .inr r=>some (PV.tup [.agg [.bool li,.bool false,.sl 1 (As r) false],I 0],()))=some (PV.tup [w,I (match EK (Dl g (eqv&&(a.ru != b.ru))) (EN a b 0 n) with
       | .inl c=>(AZ,c)
       | .inr r=>((⟨li,false,r⟩:Af),0)).2],())/\AL w (match EK (Dl g (eqv&&(a.ru != b.ru))) (EN a b 0 n) with
       | .inl c=>(AZ,c)
       | .inr r=>((⟨li,false,r⟩:Af),0)).1:=by
     intro eqv li;cases EK (Dl g (eqv&&(a.ru != b.ru))) (EN a b 0 n) with
     | inl c=>exact⟨_,rfl,B2⟩
     | inr r=>exact⟨_,rfl,.mk _ _ _ _ (.sl _ _)⟩
    have bl:∀ li:Bool,Ad (.build [.bool false,.bool false,.nilS] [(0,(1,.c (.bool li)))])=some (.agg [.bool li,.bool false,.nilS]):=fun li=>rfl;have ok3:∀ li:Bool,AF (.agg [.bool li,.bool false,.nilS]) 3=true:=fun li=>rfl;by_cases h1:g=FS
    ·subst h1;have q1:(FS==[61])=true:=rfl;have q2:Af.isEq FS=true:=rfl;simp only[q1,q2,hs,ne_eq,not_true_eq_false,decide_false,bA,if_true,if_false,bl,Ap,ok3,AH,ce,ep,cN];cases hli:a.li with
     | true =>
      simp only[if_true,d7];obtain⟨w,f1,f2⟩:=fin true true;refine⟨w,cK (cK ?_ (tail true true)) f1,f2⟩;rw[hli];rfl
     | false =>
      simp only[if_false,cU,bA];obtain⟨w,f1,f2⟩:=fin true b.li;refine⟨w,cK (cK ?_ (tail true b.li)) f1,f2⟩;rw[hli];rfl
    ·have q1:(g==[61])=false:=by simpa[FS] using h1
     simp only[q1,hs,ne_eq,not_true_eq_false,decide_false,bA,if_true,if_false,bl,Ap,ok3,AH];rw[show AF (.bool (g==[226,137,160])) 1=true from rfl,AH,show Ah (.bool (g==[226,137,160])) 0=.bool (g==[226,137,160]) from rfl]
     have q2:Af.isEq g=(g==[226,137,160]):=by
      unfold Af.isEq;rw[show (g==FS)=false from q1,cU];rfl
     rw[q2];simp only[Cl,Ap,AA,htx,hty];cases h2:(g==[226,137,160]) with
     | true =>
      simp only[ce,bA,if_false,ep,cN];cases hli:a.li with
      | true =>
       simp only[if_true,d7];obtain⟨w,f1,f2⟩:=fin true true;refine⟨w,cK (cK ?_ (tail true true)) f1,f2⟩;rw[hli];rfl
      | false =>
       simp only[if_false,cU,bA];obtain⟨w,f1,f2⟩:=fin true b.li;refine⟨w,cK (cK ?_ (tail true b.li)) f1,f2⟩;rw[hli];rfl
     | false =>
      simp only[ck,if_true,cN];cases ht1:a.text with
      | true=>simp only[if_true,d7];exact⟨_,rfl,B2⟩
      | false =>
       cases ht2:b.text with
       | true=>simp only[if_true,cU,if_false,bA];exact⟨_,rfl,B2⟩
       | false =>
        simp only[if_false,cU,bA];cases hli:a.li with
        | true =>
         simp only[if_true,d7];obtain⟨w,f1,f2⟩:=fin false true;refine⟨w,cK (cK ?_ (tail false true)) f1,f2⟩;rw[hli];rfl
        | false =>
         simp only[if_false,cU,bA];obtain⟨w,f1,f2⟩:=fin false b.li;refine⟨w,cK (cK ?_ (tail false b.li)) f1,f2⟩;rw[hli];rfl
   ·simp only[hs,ne_eq,not_false_eq_true,decide_true,if_true];cases (g==[61]) with
    | true=>exact⟨Gi,rfl,B2⟩
    | false=>exact⟨Gi,rfl,B2⟩
  ·have hd':H8 g=false:=by simpa using hd
   simp only[hd',ck,if_true];exact⟨Gi,rfl,B2⟩
 ·have hr':(a.right&&b.right)=false:=by simpa using hr
  simp only[hr',bA,if_false,if_true];exact⟨Gi,rfl,B2⟩
def GQ (f:Int->Int×NE):List Int->Sum Int (List Int)
 | []=>.inr []
 | x :: l=>if (f x).2.no≠0 then .inl (f x).2.no else match GQ f l with
  | .inl c=>.inl c
  | .inr r=>.inr ((f x).1 :: r)
def Af.mon (g:List UInt8) (a:Af):Af×Int :=
 if a.right=false then (AZ,114)
 else if H0 g=false then (AZ,102)
 else if a.text then (AZ,102)
 else match GQ (E4 g) a.n with
  | .inl c=>(AZ,c)
  | .inr r=>(⟨a.li,false,r⟩,0)
theorem amonR {v:PV} {a:Af} (hv:AL v a) (hla:a.n.length<=1000000) (g:List UInt8) :
  ∃ w,Al B0 .cl (.fn 36 []) [.str g,v]=some (.tup [w,I (Af.mon g a).2])/\AL w (Af.mon g a).1:=by
 have hok:Ao [.str g,v]=true:=by simp[Ao,okV,hv.ok]
 have hri:=UD (.cons hv .nil) (by simp) (by intro c hc;simp at hc;rcases hc with rfl;assumption);have htx:=LN hv;obtain⟨x,rfl,hx⟩:=hv.get
 suffices key:∃ w,AR (AI B0 (fun _=>.cl)) fn36 (.cl) AD 0 [.cv (.str g),.cv (.agg [.bool a.li,.bool a.ru,x])] ()=some (.tup [w,I (Af.mon g a).2],())/\AL w (Af.mon g a).1 by
  obtain⟨w,h1,h2⟩:=key;exact⟨w,call (d:=fun _=>.cl) rfl (by decide) hok rfl h1,h2⟩
 rw[run36,Dh,BU rfl rfl hx.cell,AH];simp only[BP,BH,H5,GC,Gc,Ap,AH,Qj hx];rw[show AN 3 3 [.agg [.bool a.li,.bool a.ru,x]] 0 (Ai [.agg [.bool a.li,.bool a.ru,x]])=.sl 3 [.agg [.bool a.li,.bool a.ru,x]] false from rfl,hri];simp only[Ap,EA,AA,Mz,Nz,cS,List.all_nil,d8];unfold Af.mon;by_cases hr:a.right=true
 ·have hlen:=Gu hr;simp only[hr,if_true,ne_eq,not_true_eq_false,decide_false,bA,if_false,SE,Ap,Cl,AA,eW];by_cases hd:H0 g=true
  ·simp only[hd,ce,bA,if_false,eW,htx,Ap,AA];cases ht1:a.text with
   | true=>simp only[if_true];exact⟨_,rfl,B2⟩
   | false =>
    simp only[bA,if_false];rw[show Ad (.build [.bool false,.bool false,.nilS] [(0,(1,.c (.bool a.li)))])=some (.agg [.bool a.li,.bool false,.nilS]) from rfl];simp only[Ap,hx.len];rw[show AF (.agg [.bool a.li,.bool false,.nilS]) 3=true from rfl,AH];unfold DY;dsimp only [HV];rw[show Bp [.str g,x,I a.n.length,.int .i64 0]=true by simp only[Bp,cS,hx.und];rfl,AH]
    have key:∀ (m i:Nat) (acc:List Int),i+m=a.n.length->acc.length=i->∃ w,BL (fun z16=>Ac (Ad (.bin .lss .num false (.c (Aa z16.1 3)) (.c (Aa z16.1 2)))) (fun z17=>Ar z17 (Ac (Ad (.idxAddr 1 (.c (Aa z16.1 1)) (.c (Aa z16.1 3)))) (fun z18=>Ac (Ad (.load 1 false (.c z18))) (fun z19=>Ac (Al B0 .cl (.fn 65 []) [Aa z16.1 0,z19]) (fun z20=>Ac (Ad (.extract 0 (.c z20))) (fun z21=>Ac (Ad (.extract 1 (.c z20))) (fun z22=>Ac (Ad (.bin .neq .num true (.c z22) (.c (.int .i64 0)))) (fun z23=>Ar z23 (Ac (Ad (.build [.bool false,.bool false,.nilS] [])) (fun z24=>Ae (AF z24 3) (Ac (some (PV.tup [.agg [Ah z24 0,Ah z24 1,Ah z24 2],z22],z16.2)) (fun z25=>some (.inr z25))))) (Ae (AY 1 [z21]) (Ae (AO (AG 0 (Ai [z21])) (Ai [z21])) (Ae (BG (AO (An (Aa z16.1 9)) (Ai (Av (Aa z16.1 10)))) (AO (AG (An (Aa z16.1 9)) (Ai (AE (Ai [z21]) (AS 0 [z21])))) 2147483648)) (Ac (Ad (.bin .add .num true (.c (Aa z16.1 3)) (.c (.int .i64 1)))) (fun z26=>some (.inl ([Aa z16.1 0,Aa z16.1 1,Aa z16.1 2,z26,Aa z16.1 4,Aa z16.1 5,Aa z16.1 6,Aa z16.1 7,Aa z16.1 8,nI (AG (An (Aa z16.1 9)) (Ai (AE (Ai [z21]) (AS 0 [z21])))),.sl 1 (BC (AE (An (Aa z16.1 9)) (Av (Aa z16.1 10))) (AE (Ai [z21]) (AS 0 [z21]))) false],z16.2)))))))))))))) (Ac (Ae (Bl (PV.tup [.agg [Aa z16.1 7,Aa z16.1 8,AN 1 1 (Av (Aa z16.1 10)) 0 (An (Aa z16.1 9))],.int .i64 0])) (some (PV.tup [.agg [Aa z16.1 7,Aa z16.1 8,AN 1 1 (Av (Aa z16.1 10)) 0 (An (Aa z16.1 9))],.int .i64 0],z16.2))) (fun z27=>some (.inr z27))))) (([.str g,x,I a.n.length,I i,.bool false,.bool false,.nilS,.bool a.li,.bool false,nI acc.length,.sl 1 (As acc) false],()):List PV×Unit) =
      some (.tup [w,I (match GQ (E4 g) (a.n.drop i) with | .inl c=>(AZ,c) | .inr r=>((⟨a.li,false,acc++r⟩:Af),0)).2],())/\AL w (match GQ (E4 g) (a.n.drop i) with | .inl c=>(AZ,c) | .inr r=>((⟨a.li,false,acc++r⟩:Af),0)).1:=by
     intro m;induction m with
     | zero =>
      intro i acc hi ha;have hd0:a.n.drop i=[]:=dC (by omega);rw[hd0]
      have es:AN 1 1 (As acc) 0 (An (nI acc.length))=.sl 1 (As acc) false:=by
       rw[Er,Ej,b9];unfold AN;rw[if_pos ⟨rfl,by rw[BS];omega⟩,cI,b8 (by rw[BS];exact bF _)]
      refine⟨.agg [.bool a.li,.bool false,.sl 1 (As acc) false],Cj ?_,?_⟩
      ·have hlt:¬ ((i:Int) < (a.n.length:Int)):=by omega
       simp only[Bj,Bu,Bf,Ap,AA,hlt,decide_false,bA,if_false];show Ac (Ae (Bl (PV.tup [.agg [.bool a.li,.bool false,AN 1 1 (As acc) 0 (An (nI acc.length))],.int .i64 0])) (some (PV.tup [.agg [.bool a.li,.bool false,AN 1 1 (As acc) 0 (An (nI acc.length))],.int .i64 0],()))) (fun z27=>some (Sum.inr z27))=_
       rw[es,show Bl (PV.tup [.agg [.bool a.li,.bool false,.sl 1 (As acc) false],.int .i64 0])=true by
        show okV _=true;simp[okV,Ao,FW],AH]
       rfl
      ·simp only[GQ,dB];exact .mk _ _ _ _ (.sl _ _)
     | succ m ih =>
      intro i acc hi ha;have hlt:i < a.n.length:=by omega
      have hlt':(i:Int) < (a.n.length:Int):=by omega
      rw[LK hlt];unfold GQ;by_cases hno:(E4 g a.n[i]).2.no=0
      ·simp only[hno,ne_eq,not_true_eq_false,if_false];rw[D4 (s':=([.str g,x,I a.n.length,I ((i+1:Nat):Int),.bool false,.bool false,.nilS,.bool a.li,.bool false,nI (acc++[(E4 g a.n[i]).1]).length,.sl 1 (As (acc++[(E4 g a.n[i]).1])) false],()))]
       ·obtain⟨w,h1,h2⟩:=ih (i+1) (acc++[(E4 g a.n[i]).1]) (by omega) (by simp[ha]);cases hm:GQ (E4 g) (a.n.drop (i+1)) with
        | inl c=>rw[hm] at h1 h2;exact⟨w,h1,h2⟩
        | inr r =>
         rw[hm] at h1 h2;simp only[cC,dR,cE] at h1 h2;exact⟨w,h1,h2⟩
       ·simp only[Be,Bd,Bj,Bu,Ci,DI,DT,DH,EE,Bf,Ap,AA,hlt',decide_true,if_true,hx.idx hlt,H6,mon_run,B3,bX,bY,A7,G9,hno,bne_self_eq_false,bA,if_false,V2,AH];show Ae (AO (0+1) 1) (Ae (BG (AO (An (nI acc.length)) (As acc).length) (AO (An (nI acc.length)+1) 2147483648)) _)=_;have e1:An (nI acc.length)=acc.length:=by simp
        simp only[Mr,KJ,e1,BS];rw[show (decide (0+1<=1))=true from rfl,AH,show (decide (acc.length<=acc.length)&&decide (acc.length+1<=2147483648))=true by simp;omega,AH];simp only[CU,Ap,ED (by omega:i < 9223372036854775807)];show some (Sum.inl ([.str g,x,I a.n.length,I ((i+1:Nat):Int),.bool false,.bool false,.nilS,.bool a.li,.bool false,nI (An (nI acc.length)+1),.sl 1 ((As acc).take (An (nI acc.length))++[I (E4 g a.n[i]).1]) false],()))=_;rw[e1,b8 (by rw[BS];exact bF _),cm,show As (acc++[(E4 g a.n[i]).1])=As acc++[I (E4 g a.n[i]).1] by simp[As]];rfl
      ·simp only[hno,ne_eq,not_false_eq_true,if_true];refine⟨Gi,Cj ?_,B2⟩;have hb:((E4 g a.n[i]).2.no != 0)=true:=by simpa using hno
       simp only[Be,Bd,Bj,Bu,Bf,Ap,AA,hlt',decide_true,if_true,hx.idx hlt,H6,mon_run,B3,bX,bY,A7,G9,hb,Mz];rfl
    have:=key a.n.length 0 [] (by omega) rfl;simp only[cI,cE,dP,show As []=[] from rfl] at this;exact this
  ·have hd':H0 g=false:=by simpa using hd
   simp only[hd',ck,if_true];exact⟨Gi,rfl,B2⟩
 ·have hr':a.right=false:=by simpa using hr
  simp only[hr',bA,if_false,if_true];exact⟨Gi,rfl,B2⟩
end Go.Ab.Derive2


namespace Go.Ab.Derive2
open Go Go.Ab
section
variable {x0 x1 x2 x3 x4 x5 x6 x7:PV}
theorem XK {k:Int} (hv:Ao [x1,x2,x3,x4,x5,x6,x7]=true):Bx B0 MG 191 [.int .u32 k,x1,x2,x3,x4,x5,x6,x7]=some [.bool (k != 0),.int .u32 k,x1,x2,x3,x4,x5,x6,x7]:=by
 refine D5 (B8 fun _=>.cl) (fn:=QU) rfl (Pf:=TS) rfl (xs:=[]) (obs:=[]) rfl rfl (by simpa[Ao,okV] using hv) ?_;rw[show TS [] []=MG from rfl,run191];rw[show IA .u32 (.int .u32 k)=true from rfl,AH,WK];rfl
theorem lock_io (hv:Ao [x0,x2,x3,x4,x5,x6,x7]=true):Bx B0 OD 203 [x0,.int .i32 0,x2,x3,x4,x5,x6,x7]=some [x0,.int .i32 1,x2,x3,x4,x5,x6,x7]:=by
 refine D5 (B8 fun _=>.cl) (fn:=QS) rfl (Pf:=TQ) rfl (xs:=[]) (obs:=[]) rfl rfl (by simp[Ao,okV] at hv |-;exact hv) ?_;rw[show TQ [] []=OD from rfl,run203];rfl
theorem unlock_io (hv:Ao [x0,x2,x3,x4,x5,x6,x7]=true):Bx B0 MF 204 [x0,.int .i32 1,x2,x3,x4,x5,x6,x7]=some [x0,.int .i32 0,x2,x3,x4,x5,x6,x7]:=by
 refine D5 (B8 fun _=>.cl) (fn:=QR) rfl (Pf:=TP) rfl (xs:=[]) (obs:=[]) rfl rfl (by simp[Ao,okV] at hv |-;exact hv) ?_;rw[show TP [] []=MF from rfl,run204];rfl
theorem b32_run:Al B0 .cl (.fn 219 []) [.bool true]=some (.int .u32 1):=by
 refine call (d:=fun _=>.cl) rfl (by decide) rfl rfl ?_;rw[bz,bC,run219];rfl
theorem store_io {k:Int} (hv:Ao [x1,x2,x3,x4,x5,x6,x7]=true):Bx B0 OC 205 [.bool true,.int .u32 k,x1,x2,x3,x4,x5,x6,x7]=some [.int .u32 1,x1,x2,x3,x4,x5,x6,x7]:=by
 refine D5 (B8 fun _=>.cl) (fn:=QQ) rfl (Pf:=TO) rfl (xs:=[]) (obs:=[]) rfl rfl (by simpa[Ao,okV] using hv) ?_;rw[show TO [] []=OC from rfl,run205];simp only[b32_run,Ap];rfl
end
end Go.Ab.Derive2


namespace Go.Ab.Derive2
open Go Go.Ab
theorem bO {α β:Type} {x:Option α} {f:α->Option β} {r:Option β} (a:α) (h:x=some a) (h2:f a=r):Ac x f=r:=by subst h;exact h2
theorem cO {β:Type} {c:Bool} {x r:Option β} (h:c=true) (h2:x=r):Ae c x=r:=by subst h;exact h2
theorem iO {β:Type} {x y r:Option β} (h:x=r):Ar (.bool true) x y=r:=h
def JM:PV:=.iface 124 (.agg [.int .i64 102])
section
variable {g:List UInt8} {n:Int} (hU:Al B0 .cl (.fn 178 []) [.str g]=some (.tup [.int .i64 n,.bool false]))
include hU
theorem none_io:Bx B0 OF 177 [.int .u32 0,.int .i32 1,.int .u32 0,.str g,.bool false,.bool false,.nilS,.nilI]=some [.int .u32 0,.int .i32 1,.int .u32 0,.str g,.bool false,.bool false,.nilS,JM]:=by
 refine D5 (B8 fun _=>.cl) (fn:=QV) rfl (Pf:=TT) rfl (xs:=[]) (obs:=[]) rfl rfl rfl ?_;rw[show TT [] []=OF from rfl,run177];refine bO _ hU ?_;refine bO (.int .i64 n) rfl ?_;refine bO (.bool false) rfl ?_;refine cO rfl ?_;refine bO (.bool true) rfl ?_;refine iO ?_;rfl
theorem slow_io:Bx B0 OE 192 [.int .u32 0,.int .i32 0,.int .u32 0,.str g,.bool false,.bool false,.nilS,.nilI]=some [.int .u32 1,.int .i32 0,.int .u32 0,.str g,.bool false,.bool false,.nilS,JM]:=by
 refine D5 (B8 fun _=>.cl) (fn:=QT) rfl (Pf:=TR) rfl (xs:=[]) (obs:=[]) rfl rfl rfl ?_;rw[show TR [] []=OE from rfl,run192];refine bO _ (lock_io rfl) ?_;refine bO _ (XK (k:=0) rfl) ?_;refine bO (.bool true) rfl ?_;refine iO ?_;refine bO _ (none_io hU) ?_;refine bO _ (store_io (k:=0) rfl) ?_;refine bO _ (unlock_io rfl) ?_;rfl
theorem do_io:Bx B0 OG 176 [.int .u32 0,.int .i32 0,.int .u32 0,.str g,.bool false,.bool false,.nilS,.nilI]=some [.int .u32 1,.int .i32 0,.int .u32 0,.str g,.bool false,.bool false,.nilS,JM]:=by
 refine D5 (B8 fun _=>.cl) (fn:=QW) rfl (Pf:=TU) rfl (xs:=[]) (obs:=[]) rfl rfl rfl ?_;rw[show TU [] []=OG from rfl,run176];refine bO _ (XK (k:=0) rfl) ?_;refine bO (.bool true) rfl ?_;refine iO ?_;refine bO _ (slow_io hU) ?_;rfl
theorem empty_io:Bx B0 OI 148 [.int .u32 0,.int .i32 0,.int .u32 0,.str g,.bool false,.bool false,.nilS,.nilI]=some [.agg [.bool false,.bool false,.nilS],JM,.int .u32 1,.int .i32 0,.int .u32 0,.str g,.bool false,.bool false,.nilS,JM]:=by
 refine D5 (B8 fun _=>.cl) (fn:=QY) rfl (Pf:=TW) rfl (xs:=[]) (obs:=[]) rfl rfl rfl ?_;rw[show TW [] []=OI from rfl,run148];refine bO _ (do_io hU) ?_;rfl
end
end Go.Ab.Derive2


namespace Go.Ab.Derive2
open Go Go.Ab
theorem of_io {g:List UInt8}:Bx B0 Lr 49 [.str g]=some [.int .u32 0,.int .i32 0,.int .u32 0,.str g,.bool false,.bool false,.nilS,.nilI]:=by
 refine D5 (B8 fun _=>.cl) (fn:=fn49) rfl (Pf:=shs49) rfl (xs:=[]) (obs:=[]) rfl rfl rfl ?_;rw[show shs49 [] []=Lr from rfl,run49];rfl
theorem Y4 {g:List UInt8} {n:Int} (hU:Al B0 .cl (.fn 178 []) [.str g]=some (.tup [.int .i64 n,.bool false])) {v x:PV} (hv:okV v=true) (h1:A3 v=true) (h2:Am v 2 1 false=some x) (h3:Ad (.len .slice (.c x))=some (.int .i64 0)) :
  Bx B0 HD 84 [v,.int .u32 0,.int .i32 0,.int .u32 0,.str g,.bool false,.bool false,.nilS,.nilI]=some [.agg [.bool false,.bool false,.nilS],JM,.int .u32 1,.int .i32 0,.int .u32 0,.str g,.bool false,.bool false,.nilS,JM]:=by
 refine D5 (B8 fun _=>.cl) (fn:=fn84) rfl (Pf:=Qy) rfl (xs:=[]) (obs:=[]) rfl rfl (by simp[Ao,okV,hv]) ?_;rw[show Qy [] []=HD from rfl,run84];refine cO h1 ?_;refine bO x h2 ?_;refine bO _ h3 ?_;refine bO (.bool true) rfl ?_;refine iO ?_;refine bO _ (empty_io hU) ?_;rfl
end Go.Ab.Derive2


namespace Go.Ab.Derive2
open Go Go.Ab
theorem Sx {E α β:Type} {B:KB} {h:Ay E} {dep:Nat} {f:PV} {e:E} {K:E->Option β} (st:Nat->α->E) (l:List (List PV)) (P:Nat->α->Prop) (Q:β->Prop) (hr:∀ {e'},Dn h dep l e=some e'->CP B h dep f e=some e') {a0:α} (he0:e=st 0 a0) (h0:P 0 a0)
  (hs:∀ i a (hi:i < l.length),P i a->(∃ a',h dep l[i] (st i a)=some (true,st (i+1) a')/\P (i+1) a')\/∃ e',h dep l[i] (st i a)=some (false,e')/\∃ r,K e'=some r/\Q r)
  (he:∀ a,P l.length a->∃ r,K (st l.length a)=some r/\Q r):∃ r,Ac (CP B h dep f e) K=some r/\Q r:=by
 obtain⟨e',h1,r,h2,h3⟩:=VJ (h:=h) (d:=dep) st l P (fun e'=>∃ r,K e'=some r/\Q r) hs he h0;subst he0;refine⟨r,?_,h3⟩;rw[hr h1];exact h2
theorem dyn_run {v u:PV} {a b:Af} (hv:AL v a) (hu:AL u b) (hla:a.n.length<=1000000) (hlb:b.n.length<=1000000) {g:List UInt8} (hg:H8 g=true) :
  ∃ w,Al B0 .cl (.fn 16 []) [.str g,v,u]=some (.tup [w,I (Af.dy g a b).2])/\AL w (Af.dy g a b).1:=by
 obtain⟨w,h1,h2⟩:=adyR hv hu hla hlb g;refine⟨w,call (d:=fun _=>.cl) rfl (by decide) (by simp[Ao,okV,hv.ok,hu.ok]) rfl ?_,h2⟩;rw[bz,bz,bz,bC,run16,Dp hv,cT,Dp hu,cT,Te,bV,hg];simp only[AA,if_true,DD hv,DD hu,bV,h1,B3,bX,bY,CM h2,cT,C7 h2]
theorem monn_run {v:PV} {a:Af} (hv:AL v a) (hla:a.n.length<=1000000) {g:List UInt8} (hg:H0 g=true) :
  ∃ w,Al B0 .cl (.fn 13 []) [.str g,v]=some (.tup [w,I (Af.mon g a).2])/\AL w (Af.mon g a).1:=by
 obtain⟨w,h1,h2⟩:=amonR hv hla g;refine⟨w,call (d:=fun _=>.cl) rfl (by decide) (by simp[Ao,okV,hv.ok]) rfl ?_,h2⟩;rw[bz,bz,bC,run13,Dp hv,cT,SE,bV,hg];simp only[AA,if_true,DD hv,bV,h1,B3,bX,bY,CM h2,cT,C7 h2]
theorem Va {v:PV} {a:Af} (hv:AL v a) (c:Int):∃ w,Al B0 .cl (.fn 150 []) [v,I c]=some (.tup [w,Cc c])/\AL w (if c=0 then a else AZ):=by
 by_cases h:c=0
 ·subst h;refine⟨v,call (d:=fun _=>.cl) rfl (by decide) (by simp[Ao,okV,hv.ok,I]) rfl ?_,by rw[if_pos rfl];exact hv⟩;rw[bz,bz,bC,run150,Dp hv,cT,iD,G9,bV];simp only[AA,bne_self_eq_false,bA,if_false,DD hv,bV,CM hv,cT,C7 hv];rfl
 ·refine⟨Gi,call (d:=fun _=>.cl) rfl (by decide) (by simp[Ao,okV,hv.ok,I]) rfl ?_,by rw[if_neg h];exact B2⟩;rw[bz,bz,bC,run150,Dp hv,cT,iD,G9,bV];rw[AA,if_pos (by simpa using h),show Ad (.build [I 0] [(0,(1,.c (I c)))])=some (.agg [I c]) from rfl,bV,show Cc c=.iface 124 (.agg [I c]) from if_neg h];rfl
def G8 (vs:List PV):List (List PV):=(List.range vs.length).map fun i=>[I ((vs.length - 1 - i:Nat):Int),vs.getD (vs.length - 1 - i) .undef]
theorem back_fn {vs:List PV} (f:Bool) (hok:Ao vs=true):Al B0 .cl (.fn 149 []) [.sl 3 vs f]=some (.fn 179 [.ptr [.sl 3 vs f] 0]):=by
 refine call (d:=fun _=>.cl) rfl (by decide) (by simp[Ao,okV,hok]) rfl ?_;rw[bz,bC,run149,show A3 (.sl 3 vs f)=true from rfl,cT];have:Bl (.fn 179 [.ptr [.sl 3 vs f] 0])=true:=by simp[Bl,okV,Ao,hok]
 show Ae (Bl (.fn 179 [.ptr [.sl 3 vs f] 0])) _=_;rw[this];rfl
theorem bx {E:Type} (h:Ay E) (dep:Nat) {vs:List PV} (f:Bool) (hok:Ao vs=true) (hl:vs.length<=1000000) (hs:∀ v∈vs,∃ a b c,v=.agg [a,b,c]) {e e':E} (hy:Dn h dep (G8 vs) e=some e') :
  CP B0 h dep (.fn 179 [.ptr [.sl 3 vs f] 0]) e=some e':=by
 refine OV (B8 fun _=>.cl) (g:=179) (fn:=fn179) rfl (by simp[Ao,okV,hok]) (bJ rfl) (u:=.tup []) ?_;simp only[bz,bC];have l1:Ad (.load 1 false (.c (.ptr [.sl 3 vs f] 0)))=some (.sl 3 vs f):=rfl;have hlen:(G8 vs).length=vs.length:=by simp[G8]
 rw[run179,l1,bV,Hl,bV,iD,iD,IR,EJ (by omega) (by omega),bV,show Bp [nI dep,.ptr [.sl 3 vs f] 0,I ((vs.length:Int) - 1)]=true from rfl,cT]
 have hgo:∀ i,i < vs.length->(G8 vs)[i]?=some [I ((vs.length - 1 - i:Nat):Int),vs.getD (vs.length - 1 - i) .undef]/\∃ a b c,vs[vs.length - 1 - i]?=some (.agg [a,b,c])/\vs.getD (vs.length - 1 - i) .undef=.agg [a,b,c]:=by
  intro i hi;refine⟨by simp[G8,hi],?_⟩;have hlt:vs.length - 1 - i < vs.length:=by omega
  obtain⟨a,b,c,habc⟩:=hs _ (dk hlt);exact⟨a,b,c,by rw[bN hlt,habc],by rw[bI,bN hlt,habc];rfl⟩
 have e0:∀ i,i < vs.length->(vs.length:Int) - 1 - (i:Int)=((vs.length - 1 - i:Nat):Int):=by intro i hi;omega
 rw[show (vs.length:Int) - 1=(vs.length:Int) - 1 - ((0:Nat):Int) by simp];refine (Sb (h:=h) (d:=dep) (fun i=>[nI dep,.ptr [.sl 3 vs f] 0,I ((vs.length:Int) - 1 - (i:Int))]) (G8 vs) (fun e=>(PV.tup [],e)) ?_ ?_ ?_ hy)
 ·intro i hi e e' hq;rw[hlen] at hi;obtain⟨g1,a,b,c,g2,g3⟩:=hgo i hi;rw[(bL.1 g1).2,g3] at hq;simp only[Be,Bd,Bj];rw[e0 i hi];simp only[iD,Ih,bV,AA];rw[if_pos (by simpa using Int.natCast_nonneg _)];simp only[l1,bV,Hy g2,Hx,Er,Ej,ER,b9,hq,Cl,ce,AA,bA,if_false,IR];rw[EJ (by omega) (by omega),show ((vs.length - 1 - i:Nat):Int) - 1=(vs.length:Int) - 1 - ((i+1:Nat):Int) by omega]
 ·intro i hi e e' hq;rw[hlen] at hi;obtain⟨g1,a,b,c,g2,g3⟩:=hgo i hi;rw[(bL.1 g1).2,g3] at hq;simp only[Be,Bd,Bj];rw[e0 i hi];simp only[iD,Ih,bV,AA];rw[if_pos (by simpa using Int.natCast_nonneg _)];simp only[l1,bV,Hy g2,Hx,Er,Ej,ER,b9,hq,Cl,ck,AA,if_true]
 ·intro e;rw[hlen];simp only[Be,Bd,Bj,iD,Ih,bV,AA];rw[if_neg (by simp;omega)]
end Go.Ab.Derive2


namespace Go.Ab.Derive2
open Go Go.Ab
theorem Mq (a0 a1 a2 a3 a4 a5 a6 a7 a8 a9 a10 a11 a12 a13 x:PV) (l:List PV):Aa (a0 :: a1 :: a2 :: a3 :: a4 :: a5 :: a6 :: a7 :: a8 :: a9 :: a10 :: a11 :: a12 :: a13 :: x :: l) 14=x:=rfl
theorem Mp (a0 a1 a2 a3 a4 a5 a6 a7 a8 a9 a10 a11 a12 a13 a14 x:PV) (l:List PV):Aa (a0 :: a1 :: a2 :: a3 :: a4 :: a5 :: a6 :: a7 :: a8 :: a9 :: a10 :: a11 :: a12 :: a13 :: a14 :: x :: l) 15=x:=rfl
def fresh (g:List UInt8):List PV:=[.int .u32 0,.int .i32 0,.int .u32 0,.str g,.bool false,.bool false,.nilS,.nilI]
def HF (D:Af->Af->Af×Int):List Af->Af->Af×Int
 | [],o=>(o,0)
 | x :: xs,o=>if (D x o).2=0 then HF D xs (D x o).1 else (AZ,(D x o).2)
def Et (D:Af->Af->Af×Int) (N:Af×Int) (b:Af):Af×Int :=
 match b.n.reverse with
 | []=>N
 | n :: r=>HF D (r.map (CB b.ru)) (CB b.ru n)
structure DyOK (g:List UInt8) (D:Af->Af->Af×Int):Prop where
 run:∀ {v u:PV} {a b:Af},AL v a->AL u b->a.n.length<=400000->b.n.length<=400000->∃ w,Al B0 .cl (.fn 16 []) [.str g,v,u]=some (.tup [w,I (D a b).2])/\AL w (D a b).1
 le:∀ a b,(D a b).1.n.length<=400000
theorem Xz {D:Af->Af->Af×Int} (hD:∀ a b,(D a b).1.n.length<=400000):∀ (l:List Af) (o:Af),o.n.length<=400000->(HF D l o).1.n.length<=400000
 | [],_,h=>h
 | x :: xs,o,h=>by
  unfold HF;split;·exact Xz hD xs _ (hD x o)
  ·simp[AZ]
theorem Tv {b:Af} (h:b.n≠[]):∃ r m,b.n=r.reverse++[m]/\b.n.reverse=m :: r:=by
 cases hr:b.n.reverse with
 | nil=>exact absurd (List.reverse_eq_nil_iff.1 hr) h
 | cons m r =>
  refine⟨r,m,?_,rfl⟩;have:=congrArg List.reverse hr;simpa using this
theorem sl_hi {k m:Nat} {xs:List PV} {f:Bool} (h:m<=xs.length):Ad (.slice k (.c (.sl k xs f)) none (some (.c (I m))) none)=some (.sl k (xs.take m) (f&&m==xs.length)):=by
 simp[Ad,exec,RX.ev,B6,Cn,CS,AC,I,h,EP]
theorem Nv (c:Int):Ah (Cc c) 0=Cc c:=by unfold Cc;split<;>rfl
theorem NS (c:Int):AF (Cc c) 1=true:=by unfold Cc;split<;>rfl
theorem itm_agg (ru:Bool) (n:Int):PV.agg [Ah (CW ru n) 0,Ah (CW ru n) 1,Ah (CW ru n) 2]=CW ru n:=rfl
theorem RQ {g:List UInt8} {D:Af->Af->Af×Int} (hD:DyOK g D) (N:Af×Int) {v:PV} {b:Af} (hv:AL v b) (hl:b.n.length<=1000000) (hne:b.n≠[]) :
  ∃ w,Bx B0 HD 84 (v :: fresh g)=some (w :: Cc (Et D N b).2 :: fresh g)/\AL w (Et D N b).1:=by
 obtain⟨x,rfl,hx⟩:=hv.get
 suffices key:∃ rs,CG (AI B0 fun _=>.cl) fn84 HD (.agg [.bool b.li,.bool b.ru,x] :: fresh g)=some rs/\∃ w,rs=w :: Cc (Et D N b).2 :: fresh g/\AL w (Et D N b).1 by
  obtain⟨rs,h1,w,rfl,h2⟩:=key;exact⟨w,D5 (B8 fun _=>.cl) (fn:=fn84) rfl (Pf:=Qy) rfl (xs:=[]) (obs:=[]) rfl rfl (by simp[Ao,okV,hx.ok,fresh]) h1,h2⟩
 obtain⟨r,m,hb,hbr⟩:=Tv hne;have hpos:0 < b.n.length:=by rw[hb];simp
 have hrl:r.length+1=b.n.length:=by rw[hb];simp
 have hR:Et D N b=HF D (r.map (CB b.ru)) (CB b.ru m):=by unfold Et;rw[hbr]
 have hvs:b.n.map (CW b.ru)=r.reverse.map (CW b.ru)++[CW b.ru m]:=by rw[hb];simp
 unfold fresh;rw[run84,KK hx,cT];simp only[BP,BH,Gc,H5,bV,hx.len,iD,Fw,AA];rw[if_neg (by simp;omega),Ru hx,bV,W2 hx,bV];rw[Zv (f:=.fn 93 [.ptr [.bool b.li,.bool b.ru,x] 0]) (l:=b.n.map (CB b.ru)) (vs:=b.n.map (CW b.ru)) (by simp[okV,Ao,hx.ok]) (P3 _ _) (by simpa using hl) fun h e e' hq=>UO h 0 hx hl (by rw[cc] at hq;exact hq),bV,Hl,bV];rw[bS,iD,IR,EJ (by omega) (by omega),bV,show (b.n.length:Int) - 1=((r.length:Nat):Int) by omega]
 have hlast:(b.n.map (CW b.ru))[r.length]?=some (.agg [.bool false,.bool b.ru,.sl 1 [I m] false]):=by
  rw[hvs,dO (by simp)];simp[CW]
 rw[Hy hlast,bV,Hx,bV,show AF (.agg [.bool false,.bool b.ru,.sl 1 [I m] false]) 3=true from rfl,cT];rw[bV,IR,EJ (by omega) (by omega),bV,show (b.n.length:Int) - 1=((r.length:Nat):Int) by omega];rw[sl_hi (k:=3) (m:=r.length) (by rw[bS];omega),bV]
 have htake:(b.n.map (CW b.ru)).take r.length=r.reverse.map (CW b.ru):=by
  rw[hvs,ed (by simp)];exact b8 (by simp)
 rw[htake];generalize hus:r.reverse.map (CW b.ru)=us;have husl:us.length=r.length:=by rw[<-hus];simp
 have husok:Ao us=true:=by
  rw[<-hus];exact (P3 b.ru r.reverse).ok
 have hust:∀ v∈us,∃ a b c,v=.agg [a,b,c]:=by
  intro v hv;rw[<-hus] at hv;obtain⟨n,_,rfl⟩:=bE.1 hv;exact⟨_,_,_,rfl⟩
 have hbl:(G8 us).length=r.length:=by simp[G8,husl]
 have hbi:∀ i (hi:i < r.length) (h2:i < (G8 us).length),(G8 us)[i]=[I ((r.length - 1 - i:Nat):Int),CW b.ru r[i]]:=by
  intro i hi h2;simp only[G8,dT,eN,husl];rw[<-hus,bI,bK,List.getElem?_reverse (by omega),show r.length - 1 - (r.length - 1 - i)=i by omega,bN hi];rfl
 rw[back_fn _ husok,bV,hR];clear hR;generalize hRR:HF D (r.map (CB b.ru)) (CB b.ru m)=R
 let z16:PV:=.fn 179 [.ptr [.sl 3 us (false&&r.length==(b.n.map (CW b.ru)).length)] 0]
 refine Sx (fun _ w=>(([z16,.int .u32 0,.int .i32 0,.int .u32 0,.str g,.bool false,.bool false,.nilS,.nilI,.bool false,.bool false,.nilS,.nilI,Ah w 0,Ah w 1,Ah w 2],(none,())):Hj Unit)) (G8 us)
  (fun i w=>∃ o,AL w o/\o.n.length<=400000/\HF D ((r.drop i).map (CB b.ru)) o=R)
  (fun rs=>∃ w,rs=w :: Cc R.2 :: fresh g/\AL w R.1)
  (fun hq=>bx _ 0 _ husok (by omega) hust hq) (a0:=CW b.ru m) rfl ⟨CB b.ru m,Qq _ _,by simp[CB],hRR⟩ ?_ ?_
 ·rintro i w hi ⟨o,hw,ho,hq⟩;have hi':i < r.length:=by omega
  rw[hbi i hi' hi];rw[cZ hi',bz] at hq;unfold HF at hq;obtain⟨w2,h1,h2⟩:=hD.run (Qq b.ru r[i]) hw (by simp[CB]) ho;obtain⟨w3,h3,h4⟩:=Va h2 (D (CB b.ru r[i]) o).2;simp only[DC,if_true,Be,Bd,Bj,Bu,Ci,DI,DT,DH,EE,Ie,KS,KR,KQ,KP,Mq,Mp];rw[show DQ [I ((r.length - 1 - i:Nat):Int),CW b.ru r[i]] 2=true from rfl,cT,show AF (CW b.ru r[i]) 3=true from rfl,cT,itm_agg,C7 hw,h1,bV];simp only[B3,bX,bY,bV,h3,CM h4,cT,Ti,AA];by_cases hc:(D (CB b.ru r[i]) o).2=0
  ·left;refine⟨w3,?_,(D (CB b.ru r[i]) o).1,by rw[if_pos hc] at h4;exact h4,hD.le _ _,by rw[if_pos hc] at hq;exact hq⟩;rw[if_neg (by simpa using hc)]
  ·right;rw[if_pos (by simpa using hc)];rw[if_neg hc] at hq;refine⟨_,by rw[NS,cT],?_⟩;refine⟨_,rfl,Gi,?_,by rw[<-hq];exact B2⟩;rw[<-hq,Nv];rfl
 ·rintro w ⟨o,hw,ho,hq⟩;rw[hbl,List.drop_length,bC] at hq;unfold HF at hq;refine⟨_,rfl,w,?_,by rw[<-hq];exact hw⟩;rw[<-hq];simp only[Be,Bd,Bj,Bu,Ci,DI,DT,DH,EE,Ie,KS,KR,KQ,KP,Mq,Mp,C7 hw];rfl
def MQ (ru:Bool) (l:List Int) (i:Nat):PV:=.agg [.bool true,.bool ru,.sl 1 (As (l.take (i+1))) true]
def IM (ru:Bool) (l:List Int) (i:Nat):Af:=⟨true,ru,l.take (i+1)⟩
theorem head_is (ru:Bool) (l:List Int) (i:Nat):AL (MQ ru l i) (IM ru l i):=.mk _ _ _ _ (.sl _ _)
theorem heads_fn {a:Af} {x:PV} (h:A5 x a.n):Al B0 .cl (.fn 87 []) [.agg [.bool a.li,.bool a.ru,x]]=some (.fn 151 [.ptr [.bool a.li,.bool a.ru,x] 0]):=by
 refine call (d:=fun _=>.cl) rfl (by decide) (by simp[Ao,okV,h.ok]) rfl ?_;rw[bz,bC,run87,KK h,cT];have:Bl (.fn 151 [.ptr [.bool a.li,.bool a.ru,x] 0])=true:=by simp[Bl,okV,Ao,h.ok]
 show Ae (Bl (.fn 151 [.ptr [.bool a.li,.bool a.ru,x] 0])) _=_;rw[this];rfl
theorem hi3 {l:List Int} {k:Nat} {f:Bool} (h:k<=l.length):Ad (.slice 1 (.c (.sl 1 (As l) f)) none (some (.c (I k))) (some (.c (I k))))=some (.sl 1 (As (l.take k)) true):=by
 have h2:k<=(As l).length:=by rw[BS];exact h
 simp[Ad,exec,RX.ev,B6,Cn,CS,AC,I,h2,LI,EP]
theorem Zn {E:Type} (h:Ay E) (dep:Nat) {a:Af} {x:PV} (hx:A5 x a.n) (hl:a.n.length<=1000000) {e e':E} (hy:Dn h dep ((List.range a.n.length).map fun i=>[MQ a.ru a.n i]) e=some e') :
  CP B0 h dep (.fn 151 [.ptr [.bool a.li,.bool a.ru,x] 0]) e=some e':=by
 refine OV (B8 fun _=>.cl) (g:=151) (fn:=fn151) rfl (by simp[Ao,okV,hx.ok]) (bJ rfl) (u:=.tup []) ?_;simp only[bz,bC];rw[run151,Q0,bV,QZ,bV,QI,bV,hx.len,bV,show Bp [nI dep,.ptr [.bool a.li,.bool a.ru,x] 0,I a.n.length,.int .i64 0]=true from rfl,cT]
 have hsl:∀ i,i < a.n.length->Ad (.slice 1 (.c x) none (some (.c (I ((i+1:Nat):Int)))) (some (.c (I ((i+1:Nat):Int)))))=some (.sl 1 (As (a.n.take (i+1))) true):=by
  intro i hi;generalize hn:a.n=n at hx hi;cases hx with
  | nil=>simp at hi
  | sl l f=>exact hi3 (by omega)
 have hbd:∀ (ru:Bool) (l:List Int),Ad (.build [.bool false,.bool false,.nilS] [(0,(1,.c (.bool true))),(1,(1,.c (.bool ru))),(2,(1,.c (.sl 1 (As l) true)))])=some (.agg [.bool true,.bool ru,.sl 1 (As l) true]):=fun _ _=>rfl;refine (Sb (h:=h) (d:=dep) (fun i=>[nI dep,.ptr [.bool a.li,.bool a.ru,x] 0,I a.n.length,I i]) ((List.range a.n.length).map fun i=>[MQ a.ru a.n i]) (fun e=>(PV.tup [],e)) ?_ ?_ ?_ hy)
 ·intro i hi e e' hq;rw[bS,eX] at hi;rw[dT,eN] at hq;simp only[Be,Bd,Bj,Bu,Bf,bV,AA];rw[if_pos (by simpa using hi)];simp only[Q0,fa3_1,QZ,ld3_1,QI,bV,iD,CU,ED (by omega:i < 9223372036854775807),hsl i hi,hbd];rw[show PV.agg [.bool true,.bool a.ru,.sl 1 (As (a.n.take (i+1))) true]=MQ a.ru a.n i from rfl];simp only[Er,Ej,ER,b9,hq,bV,Cl,ce,AA,bA,if_false]
 ·intro i hi e e' hq;rw[bS,eX] at hi;rw[dT,eN] at hq;simp only[Be,Bd,Bj,Bu,Bf,bV,AA];rw[if_pos (by simpa using hi)];simp only[Q0,fa3_1,QZ,ld3_1,QI,bV,iD,CU,ED (by omega:i < 9223372036854775807),hsl i hi,hbd];rw[show PV.agg [.bool true,.bool a.ru,.sl 1 (As (a.n.take (i+1))) true]=MQ a.ru a.n i from rfl];simp only[Er,Ej,ER,b9,hq,bV,Cl,ck,AA,if_true]
 ·intro e;rw[bS,eX];simp only[Be,Bd,Bj,Bu,Bf,bV,AA,Int.lt_irrefl,decide_false,bA,if_false]
end Go.Ab.Derive2

