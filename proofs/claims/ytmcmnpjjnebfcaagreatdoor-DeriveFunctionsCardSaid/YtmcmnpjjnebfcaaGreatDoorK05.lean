/-
  Part 5 of a proof: a machine of our own for the given program, its laws, and what it says of the program. Nothing here is a claim by itself.
-/
import Derived.Test.YtmcmnpjjnebfcaaGreatDoorK04
import Derived.Test.YtmcmnpjjnebfcaaGreatDoorProg
import Derived.Test.YtmcmnpjjnebfcaaGreatDoorK01
import Derived.KernelRfl
import Derived.IntWalk
import Derived.Lib.Replace
import Derived.Lib.ItoaNum
import Derived.Lib.Mul64
import Derived.Lib.EndianBits
import Derived.Test.YtmcmnpjjnebfcaaGreatDoorK03
set_option linter.all false

namespace Go.Ab
open Go
def Qe:Fb:=Ts [0,1] 258
def Of:Hint:=[]
noncomputable def mkF (io shut leans:Bool) (gone:List Nat) (nt:Nat) (f:FuncId):Au:={nt,code:=((Ln Go.Proofs.Tryz.prog Qe (OC Of Go.Proofs.Tryz.prog f) f).getD default).code,res:=((Ln Go.Proofs.Tryz.prog Qe (OC Of Go.Proofs.Tryz.prog f) f).getD default).res,io,shut,leans,gone}
theorem AH {io shut leans:Bool} {gone:List Nat} {nt:Nat} {f:FuncId} (h:(Ln Go.Proofs.Tryz.prog Qe (OC Of Go.Proofs.Tryz.prog f) f).map (·.nt)=some nt):Ln Go.Proofs.Tryz.prog Qe (OC Of Go.Proofs.Tryz.prog f) f=some {mkF io shut leans gone nt f with io:=false,shut:=false,leans:=false,gone:=[]}:=by
 obtain⟨fn,h1,rfl⟩:=Z3.1 h;unfold mkF;rw[h1];have h2:=h1;unfold Ln at h2;split at h2
 ·split at h2
  ·split at h2;·cases h2
   ·cases h2;rfl
  ·cases h2
 ·cases h2
noncomputable def fn174:Au:=mkF true true false [] 8 174
noncomputable def fn186:Au:=mkF true true false [] 6 186
noncomputable def fn187:Au:=mkF true true false [] 6 187
noncomputable def fn188:Au:=mkF true true false [] 10 188
noncomputable def fn202:Au:=mkF false true false [] 4 202
noncomputable def fn158:Au:=mkF true true false [] 28 158
noncomputable def fn175:Au:=mkF true true false [] 21 175
noncomputable def fn157:Au:=mkF true true false [] 12 157
noncomputable def fn123:Au:=mkF true true false [] 17 123
noncomputable def fn31:Au:=mkF true true false [] 12 31
noncomputable def fn59:Au:=mkF true true false [] 57 59
noncomputable def fn65:Au:=mkF true true false [] 17 65
noncomputable def fn60:Au:=mkF true true false [] 14 60
noncomputable def fn63:Au:=mkF true true false [] 14 63
noncomputable def fn61:Au:=mkF true true false [] 34 61
noncomputable def fn30:Au:=mkF true true false [] 21 30
noncomputable def fn12:Au:=mkF false true false [] 13 12
noncomputable def fn14:Au:=mkF false true false [] 13 14
noncomputable def fn15:Au:=mkF false true false [] 13 15
noncomputable def fn7:Au:=mkF false true false [] 8 7
noncomputable def fn6:Au:=mkF false true false [] 18 6
noncomputable def fn9:Au:=mkF false true false [] 22 9
noncomputable def fn148:Au:=mkF false true false [] 24 148
noncomputable def fn32:Au:=mkF false true false [] 24 32
noncomputable def fn13:Au:=mkF false true true [] 5 13
noncomputable def fn17:Au:=mkF false true false [] 7 17
noncomputable def fn18:Au:=mkF false true false [] 56 18
noncomputable def fn23:Au:=mkF false true false [] 7 23
noncomputable def fn24:Au:=mkF false true false [] 101 24
noncomputable def fn173:Au:=mkF false true false [] 26 173
noncomputable def fn66:Au:=mkF false true false [] 6 66
noncomputable def fn67:Au:=mkF false true false [] 17 67
noncomputable def fn68:Au:=mkF false true false [] 9 68
noncomputable def fn124:Au:=mkF false true false [] 5 124
noncomputable def fn64:Au:=mkF false true false [] 4 64
noncomputable def fn127:Au:=mkF false true true [] 88 127
noncomputable def fn58:Au:=mkF false true false [] 9 58
noncomputable def fn35:Au:=mkF false true false [] 17 35
noncomputable def fn36:Au:=mkF false true false [] 9 36
noncomputable def fn37:Au:=mkF false true false [] 11 37
noncomputable def fn38:Au:=mkF false true false [] 31 38
noncomputable def fn50:Au:=mkF false true false [] 38 50
noncomputable def fn51:Au:=mkF false true false [] 6 51
noncomputable def fn52:Au:=mkF false true false [] 36 52
noncomputable def fn62:Au:=mkF false true false [] 4 62
noncomputable def fn131:Au:=mkF false true false [] 19 131
noncomputable def fn160:Au:=mkF false true false [] 13 160
noncomputable def fn129:Au:=mkF false true false [] 20 129
noncomputable def fn130:Au:=mkF false true false [] 11 130
noncomputable def fn125:Au:=mkF false true false [] 4 125
noncomputable def fn126:Au:=mkF false true false [] 13 126
noncomputable def fn128:Au:=mkF false true false [] 27 128
noncomputable def fn161:Au:=mkF false true false [] 19 161
noncomputable def fn116:Au:=mkF false true false [] 21 116
noncomputable def fn117:Au:=mkF false true false [] 16 117
noncomputable def fn5:Au:=mkF false true false [] 15 5
noncomputable def fn73:Au:=mkF false true false [] 5 73
noncomputable def fn74:Au:=mkF false true false [] 10 74
noncomputable def fn75:Au:=mkF false true false [] 36 75
noncomputable def fn76:Au:=mkF false true false [] 11 76
noncomputable def fn77:Au:=mkF false true false [] 4 77
noncomputable def fn78:Au:=mkF false true false [] 10 78
noncomputable def fn79:Au:=mkF false true false [] 56 79
noncomputable def fn80:Au:=mkF false true false [] 18 80
noncomputable def fn81:Au:=mkF false true true [] 21 81
noncomputable def fn82:Au:=mkF false true false [] 13 82
noncomputable def fn84:Au:=mkF false true false [] 16 84
noncomputable def fn107:Au:=mkF false true false [] 36 107
noncomputable def fn108:Au:=mkF false true false [] 51 108
noncomputable def fn109:Au:=mkF false true false [] 43 109
noncomputable def fn110:Au:=mkF false true false [] 11 110
noncomputable def fn111:Au:=mkF false true false [] 11 111
noncomputable def fn112:Au:=mkF false true false [] 10 112
noncomputable def fn113:Au:=mkF false true false [] 66 113
noncomputable def fn114:Au:=mkF false true false [] 10 114
noncomputable def fn115:Au:=mkF false true false [] 41 115
noncomputable def fn151:Au:=mkF false true false [] 51 151
noncomputable def fn152:Au:=mkF false true false [] 10 152
noncomputable def fn16:Au:=mkF false true false [] 29 16
noncomputable def fn19:Au:=mkF false true false [] 33 19
noncomputable def fn25:Au:=mkF false true false [] 38 25
noncomputable def fn33:Au:=mkF false true false [] 34 33
noncomputable def fn34:Au:=mkF false true false [] 10 34
noncomputable def fn39:Au:=mkF false true false [] 10 39
noncomputable def fn40:Au:=mkF false true false [] 6 40
noncomputable def fn41:Au:=mkF false true false [] 9 41
noncomputable def fn49:Au:=mkF false true false [] 29 49
noncomputable def fn69:Au:=mkF true false false [] 19 69
noncomputable def fn70:Au:=mkF false true false [] 11 70
noncomputable def fn71:Au:=mkF false true false [] 6 71
noncomputable def fn85:Au:=mkF false true false [] 13 85
noncomputable def fn86:Au:=mkF false true false [] 59 86
noncomputable def fn87:Au:=mkF false true false [] 44 87
noncomputable def fn88:Au:=mkF false true false [] 56 88
noncomputable def fn89:Au:=mkF false true false [] 8 89
noncomputable def fn90:Au:=mkF false true true [] 9 90
noncomputable def fn91:Au:=mkF false false false [] 13 91
noncomputable def fn92:Au:=mkF false true false [] 73 92
noncomputable def fn93:Au:=mkF false true false [] 11 93
noncomputable def fn94:Au:=mkF false true false [] 53 94
noncomputable def fn95:Au:=mkF false true false [] 17 95
noncomputable def fn96:Au:=mkF false true false [] 72 96
noncomputable def fn97:Au:=mkF false true false [] 47 97
noncomputable def fn98:Au:=mkF false true false [] 8 98
noncomputable def fn99:Au:=mkF false true false [] 6 99
noncomputable def fn100:Au:=mkF false true false [] 11 100
noncomputable def fn101:Au:=mkF false true false [] 9 101
noncomputable def fn102:Au:=mkF false true false [] 6 102
noncomputable def fn140:Au:=mkF false true true [] 5 140
noncomputable def fn141:Au:=mkF false true false [] 32 141
noncomputable def fn142:Au:=mkF false true false [] 20 142
noncomputable def fn143:Au:=mkF false true false [] 19 143
noncomputable def fn144:Au:=mkF false true false [] 11 144
noncomputable def fn145:Au:=mkF false false false [] 36 145
noncomputable def Qz:Au:=mkF true false false [] 28 146
noncomputable def fn147:Au:=mkF false true false [] 4 147
noncomputable def fn149:Au:=mkF false true false [] 19 149
noncomputable def fn159:Au:=mkF false true false [] 15 159
noncomputable def fn164:Au:=mkF false false false [] 25 164
noncomputable def fn178:Au:=mkF false false false [] 30 178
noncomputable def fn172:Au:=mkF false false false [] 27 172
noncomputable def fn4:Au:=mkF false true false [] 62 4
noncomputable def fn11:Au:=mkF false true false [] 24 11
noncomputable def fn3:Au:=mkF false true false [] 72 3
noncomputable def fn8:Au:=mkF false true false [] 18 8
noncomputable def fn10:Au:=mkF false true false [] 22 10
noncomputable def fn20:Au:=mkF false true false [] 6 20
noncomputable def fn21:Au:=mkF false true false [] 59 21
noncomputable def fn22:Au:=mkF false true false [] 88 22
noncomputable def fn26:Au:=mkF false true false [] 6 26
noncomputable def fn27:Au:=mkF false true false [] 116 27
noncomputable def fn28:Au:=mkF false true false [] 53 28
noncomputable def fn29:Au:=mkF false true false [] 26 29
noncomputable def fn43:Au:=mkF false true false [] 41 43
noncomputable def fn42:Au:=mkF false true false [] 18 42
noncomputable def fn44:Au:=mkF false true false [] 57 44
noncomputable def fn45:Au:=mkF false true true [] 8 45
noncomputable def fn46:Au:=mkF false true false [] 37 46
noncomputable def fn47:Au:=mkF false true false [] 4 47
noncomputable def fn48:Au:=mkF false true false [] 6 48
noncomputable def fn53:Au:=mkF false true false [] 22 53
noncomputable def fn54:Au:=mkF false true false [] 17 54
noncomputable def fn55:Au:=mkF false true false [] 76 55
noncomputable def fn56:Au:=mkF false true false [] 53 56
noncomputable def fn57:Au:=mkF false true false [] 69 57
noncomputable def fn103:Au:=mkF false true false [] 17 103
noncomputable def fn104:Au:=mkF false true false [] 33 104
noncomputable def fn105:Au:=mkF false true false [] 4 105
noncomputable def fn106:Au:=mkF false true false [] 28 106
noncomputable def fn118:Au:=mkF false true false [] 87 118
noncomputable def fn119:Au:=mkF false true false [] 28 119
noncomputable def fn120:Au:=mkF false true false [] 40 120
noncomputable def fn121:Au:=mkF false true false [] 52 121
noncomputable def fn122:Au:=mkF false true false [] 46 122
noncomputable def fn150:Au:=mkF false true false [] 1 150
noncomputable def fn153:Au:=mkF false true false [] 33 153
noncomputable def fn154:Au:=mkF false true false [] 38 154
noncomputable def fn155:Au:=mkF false true false [] 27 155
noncomputable def fn156:Au:=mkF false true false [] 42 156
noncomputable def By:FuncId->Option Au
 | 174=>some fn174
 | 186=>some fn186
 | 187=>some fn187
 | 188=>some fn188
 | 202=>some fn202
 | 158=>some fn158
 | 175=>some fn175
 | 157=>some fn157
 | 123=>some fn123
 | 31=>some fn31
 | 59=>some fn59
 | 65=>some fn65
 | 60=>some fn60
 | 63=>some fn63
 | 61=>some fn61
 | 30=>some fn30
 | 12=>some fn12
 | 14=>some fn14
 | 15=>some fn15
 | 7=>some fn7
 | 6=>some fn6
 | 9=>some fn9
 | 148=>some fn148
 | 32=>some fn32
 | 13=>some fn13
 | 17=>some fn17
 | 18=>some fn18
 | 23=>some fn23
 | 24=>some fn24
 | 173=>some fn173
 | 66=>some fn66
 | 67=>some fn67
 | 68=>some fn68
 | 124=>some fn124
 | 64=>some fn64
 | 127=>some fn127
 | 58=>some fn58
 | 35=>some fn35
 | 36=>some fn36
 | 37=>some fn37
 | 38=>some fn38
 | 50=>some fn50
 | 51=>some fn51
 | 52=>some fn52
 | 62=>some fn62
 | 131=>some fn131
 | 160=>some fn160
 | 129=>some fn129
 | 130=>some fn130
 | 125=>some fn125
 | 126=>some fn126
 | 128=>some fn128
 | 161=>some fn161
 | 116=>some fn116
 | 117=>some fn117
 | 5=>some fn5
 | 73=>some fn73
 | 74=>some fn74
 | 75=>some fn75
 | 76=>some fn76
 | 77=>some fn77
 | 78=>some fn78
 | 79=>some fn79
 | 80=>some fn80
 | 81=>some fn81
 | 82=>some fn82
 | 84=>some fn84
 | 107=>some fn107
 | 108=>some fn108
 | 109=>some fn109
 | 110=>some fn110
 | 111=>some fn111
 | 112=>some fn112
 | 113=>some fn113
 | 114=>some fn114
 | 115=>some fn115
 | 151=>some fn151
 | 152=>some fn152
 | 16=>some fn16
 | 19=>some fn19
 | 25=>some fn25
 | 33=>some fn33
 | 34=>some fn34
 | 39=>some fn39
 | 40=>some fn40
 | 41=>some fn41
 | 49=>some fn49
 | 69=>some fn69
 | 70=>some fn70
 | 71=>some fn71
 | 85=>some fn85
 | 86=>some fn86
 | 87=>some fn87
 | 88=>some fn88
 | 89=>some fn89
 | 90=>some fn90
 | 91=>some fn91
 | 92=>some fn92
 | 93=>some fn93
 | 94=>some fn94
 | 95=>some fn95
 | 96=>some fn96
 | 97=>some fn97
 | 98=>some fn98
 | 99=>some fn99
 | 100=>some fn100
 | 101=>some fn101
 | 102=>some fn102
 | 140=>some fn140
 | 141=>some fn141
 | 142=>some fn142
 | 143=>some fn143
 | 144=>some fn144
 | 145=>some fn145
 | 146=>some Qz
 | 147=>some fn147
 | 149=>some fn149
 | 159=>some fn159
 | 164=>some fn164
 | 178=>some fn178
 | 172=>some fn172
 | 4=>some fn4
 | 11=>some fn11
 | 3=>some fn3
 | 8=>some fn8
 | 10=>some fn10
 | 20=>some fn20
 | 21=>some fn21
 | 22=>some fn22
 | 26=>some fn26
 | 27=>some fn27
 | 28=>some fn28
 | 29=>some fn29
 | 43=>some fn43
 | 42=>some fn42
 | 44=>some fn44
 | 45=>some fn45
 | 46=>some fn46
 | 47=>some fn47
 | 48=>some fn48
 | 53=>some fn53
 | 54=>some fn54
 | 55=>some fn55
 | 56=>some fn56
 | 57=>some fn57
 | 103=>some fn103
 | 104=>some fn104
 | 105=>some fn105
 | 106=>some fn106
 | 118=>some fn118
 | 119=>some fn119
 | 120=>some fn120
 | 121=>some fn121
 | 122=>some fn122
 | 150=>some fn150
 | 153=>some fn153
 | 154=>some fn154
 | 155=>some fn155
 | 156=>some fn156
 | _=>none
end Go.Ab


set_option maxRecDepth 100000
namespace Go.Ab
open Go
def rsh0:FuncId->Bq×Bool
 | 13=>(.cl,false)
 | 127=>(.cl,false)
 | 45=>(.cl,false)
 | 81=>(.cl,false)
 | 90=>(.cl,false)
 | 91=>(.own 1,true)
 | 140=>(.cl,false)
 | 145=>(.own 1,true)
 | 172=>(.own 1,true)
 | _=>(.cl,true)
def D8:Aj:=.cells 0 [.cv (.bool false),.cv (.bool false),.cv (.bool false),.cv (.bool false),.cv (.bool false),.cv (.bool false),.cv (.bool false),.cv (.bool false)]
def T2:KV:=.tup [.cv (.bool false),.cv (.bool false)]
def sh48_0:BK:={args:=[.cv (.bool false),.fn 1000059 [.ref (0,0) 0]],ins:=[D8],res:=T2,outs:=[D8],news:=[],gone:=[]}
def sh48_1:BK:={args:=[.cv (.bool false),.fn 60 [.ref (0,0) 0]],ins:=[.cells 85 [.ref (0,1) 0],D8],res:=T2,outs:=[.cells 85 [.ref (0,1) 0],D8],news:=[],gone:=[]}
def sh48_2:BK:={args:=[.cv (.bool false),.fn 63 [.ref (0,0) 0]],ins:=[.cells 85 [.ref (0,1) 0],D8],res:=T2,outs:=[.cells 85 [.ref (0,1) 0],D8],news:=[],gone:=[]}
def Qj:List KV->List Aj->BK
 | [_,.fn 1000059 _],_=>sh48_0
 | [_,.fn 60 _],_=>sh48_1
 | _,_=>sh48_2
def sh31:BK:={args:=[.cv (.bool false)],ins:=[],res:=.agg [.fn 1000059 [.ref (1,1) 0],.fn 60 [.ref (1,0) 0],.fn 63 [.ref (1,0) 0]],outs:=[],news:=[.cells 85 [.ref (1,1) 0],D8],gone:=[]}
def shs31:List KV->List Aj->BK
 | _,_=>sh31
def sh59:BK:={args:=[.ref (0,0) 0,.cv (.bool false)],ins:=[D8],res:=T2,outs:=[D8],news:=[],gone:=[]}
def shs59:List KV->List Aj->BK
 | _,_=>sh59
def sh60:BK:={args:=[.cv (.bool false),.ref (0,0) 0],ins:=[.cells 85 [.ref (0,1) 0],D8],res:=T2,outs:=[.cells 85 [.ref (0,1) 0],D8],news:=[],gone:=[]}
def shs60:List KV->List Aj->BK
 | _,_=>sh60
def sh86_0:BK:={args:=[.cv (.bool false),.cv (.bool false),.fn 1000059 [.ref (0,0) 0]],ins:=[D8],res:=T2,outs:=[D8],news:=[],gone:=[]}
def sh86_1:BK:={args:=[.cv (.bool false),.cv (.bool false),.fn 1000065 [.ref (0,0) 0]],ins:=[D8],res:=T2,outs:=[D8],news:=[],gone:=[]}
def Qi:List KV->List Aj->BK
 | [_,_,.fn 1000059 _],_=>sh86_0
 | _,_=>sh86_1
def sh63:BK:={args:=[.cv (.bool false),.ref (0,0) 0],ins:=[.cells 85 [.ref (0,1) 0],D8],res:=T2,outs:=[.cells 85 [.ref (0,1) 0],D8],news:=[],gone:=[]}
def shs63:List KV->List Aj->BK
 | _,_=>sh63
def sh65:BK:={args:=[.ref (0,0) 0,.cv (.bool false)],ins:=[D8],res:=T2,outs:=[D8],news:=[],gone:=[]}
def shs65:List KV->List Aj->BK
 | _,_=>sh65
def sh69:BK:={args:=[],ins:=[],res:=.un,outs:=[],news:=[],gone:=[]}
def shs69:List KV->List Aj->BK
 | _,_=>sh69
def sh123:BK:={args:=[.ref (0,0) 0],ins:=[D8],res:=T2,outs:=[D8],news:=[],gone:=[]}
def shs123:List KV->List Aj->BK
 | _,_=>sh123
def Ot:BK:={args:=[.arr (0,0) 1 0 0],ins:=[.arr 1 0 []],res:=.tup [],outs:=[.arr 1 0 []],news:=[],gone:=[]}
def S5:List KV->List Aj->BK
 | _,_=>Ot
def sh157:BK:={args:=[.ref (0,1) 0,.fn 158 [.ref (0,0) 0]],ins:=[.cells 0 [.ref (0,1) 0],D8],res:=.tup [],outs:=[.cells 0 [.ref (0,1) 0],D8],news:=[],gone:=[]}
def shs157:List KV->List Aj->BK
 | _,_=>sh157
def sh158:BK:={args:=[.ref (0,0) 0],ins:=[.cells 0 [.ref (0,1) 0],D8],res:=.tup [],outs:=[.cells 0 [.ref (0,1) 0],D8],news:=[],gone:=[]}
def shs158:List KV->List Aj->BK
 | _,_=>sh158
def sh174:BK:={args:=[.ref (0,0) 0],ins:=[D8],res:=.cv (.bool false),outs:=[D8],news:=[],gone:=[]}
def shs174:List KV->List Aj->BK
 | _,_=>sh174
def sh175:BK:={args:=[.ref (0,1) 0,.fn 158 [.ref (0,0) 0]],ins:=[.cells 0 [.ref (0,1) 0],D8],res:=.tup [],outs:=[.cells 0 [.ref (0,1) 0],D8],news:=[],gone:=[]}
def shs175:List KV->List Aj->BK
 | _,_=>sh175
def sh186:BK:={args:=[.ref (0,0) 1],ins:=[D8],res:=.tup [],outs:=[D8],news:=[],gone:=[]}
def shs186:List KV->List Aj->BK
 | _,_=>sh186
def sh187:BK:={args:=[.ref (0,0) 1],ins:=[D8],res:=.tup [],outs:=[D8],news:=[],gone:=[]}
def shs187:List KV->List Aj->BK
 | _,_=>sh187
def sh188:BK:={args:=[.ref (0,0) 0,.cv (.bool false)],ins:=[D8],res:=.tup [],outs:=[D8],news:=[],gone:=[]}
def shs188:List KV->List Aj->BK
 | _,_=>sh188
def iof0:FuncId->Option (List KV->List Aj->BK)
 | 30=>some Qj
 | 31=>some shs31
 | 59=>some shs59
 | 60=>some shs60
 | 61=>some Qi
 | 63=>some shs63
 | 65=>some shs65
 | 69=>some shs69
 | 123=>some shs123
 | 146=>some S5
 | 157=>some shs157
 | 158=>some shs158
 | 174=>some shs174
 | 175=>some shs175
 | 186=>some shs186
 | 187=>some shs187
 | 188=>some shs188
 | _=>none
def AL (b:KB) (dsh:Nat->Bq):D1:={b,rsh:=rsh0,spF:=fun f=>f==83||f==139||f==133||f==134||f==132||f==72||f==185||f==201||f==199||f==200||f==172,asT:=fun f p=>if f=83/\p=146 then some (145,1) else if f=83/\p=129 then some (127,1) else if f=83/\p=137 then some (136,1) else if f=83/\p=172 then some (124,1) else none,dsh,ioF:=iof0,spK:=fun f=>if f=185 then some (kLoad .u32) else if f=201 then some (Tp .u32) else if f=199 then some (Qw .i32 0 1) else if f=200 then some (Qw .i32 1 0) else none,flatF:=fun f=>f==187||f==188}
def wa {β:Type} (a:PV) (K:PV->Option β):Option β:=Ac (Ad (.extract 0 (.c a))) K

def wb {β:Type} (a:PV) (K:PV->Option β):Option β:=Ac (Ad (.extract 1 (.c a))) K

def wc {β:Type} (a:PV) (K:PV->Option β):Option β:=Ac (Ad (.len .slice (.c a))) K

def wd {β:Type} (a:PV) (K:PV->Option β):Option β:=Ac (AU a 0 3 true) K

def we {β:Type} (a:PV) (K:PV->Option β):Option β:=Ac (AU a 0 1 false) K

def wf {β:Type} (a:PV) (K:PV->Option β):Option β:=Ac (AU a 1 1 false) K

def wg {β:Type} (a:PV) (K:PV->Option β):Option β:=Ac (AU a 2 1 false) K

def wh {β:Type} (a:PV) (K:PV->Option β):Option β:=Ac (Ad (.load 1 false (.c a))) K

def wi {β:Type} (a:PV) (K:PV->Option β):Option β:=Ac (Ad (.un .not (.c a))) K

def wj {β:Type} (a:PV) (K:PV->Option β):Option β:=Ac (Ad (.bin .add .num true (.c a) (.c (.int .i64 1)))) K

def wk {β:Type} (a:PV) (K:PV->Option β):Option β:=Ac (Ad (.bin .neq .num true (.c a) (.c (.int .i64 0)))) K

def wl {β:Type} (a:PV) (K:PV->Option β):Option β:=Ac (Ad (.bin .eql .num true (.c a) (.c (.int .i64 0)))) K

def wm {β:Type} (a:PV) (K:PV->Option β):Option β:=Ac (Ad (.bin .lss .num true (.c a) (.c (.int .i64 0)))) K

def wn {β:Type} (a:PV) (K:PV->Option β):Option β:=Ac (Ad (.bin .neq .iface true (.c a) (.c .nilI))) K

def wo {β:Type} (a b:PV) (K:PV->Option β):Option β:=Ac (Ad (.bin .lss .num false (.c a) (.c b))) K

def wp {β:Type} (a b:PV) (K:PV->Option β):Option β:=Ac (Ad (.bin .add .num false (.c a) (.c b))) K

def wq {β:Type} (a b:PV) (K:PV->Option β):Option β:=Ac (Ad (.bin .eql .num false (.c a) (.c b))) K

def wr {β:Type} (a b:PV) (K:PV->Option β):Option β:=Ac (Ad (.idxAddr 1 (.c a) (.c b))) K

def ws {β:Type} (a:PV) (s:List UInt8) (K:PV->Option β):Option β:=Ac (Ad (.bin .eql .str true (.c a) (.c (.str s)))) K

def wt {β:Type} (a b:PV) (K:PV->Option β):Option β:=Ac (Ad (.bin .neq .num false (.c a) (.c b))) K

def wu {β:Type} (a b:PV) (K:PV->Option β):Option β:=Ac (Ad (.bin .gtr .num false (.c a) (.c b))) K

noncomputable def wv {β:Type} (B:KB) (g:Nat) (l:List PV) (K:PV->Option β):Option β:=Ac (Ax B .cl (.fn g []) l) K

theorem run7 (B:KB) {E:Type} (h:Ay E) (dep:Nat) (e:E) (x0:PV) :
  AM (AL B (fun _=>.cl)) fn7 (.cl) h dep [.cv x0] e =
  Ac (Ad (.len .str (.c x0))) (fun z1=>Ac (Ad (.minmax false [.c z1,.c (.int .i64 20)])) (fun z2=>Ac (Ad (.strSlice (.c x0) none (some (.c z2)))) (fun z3 =>
  some (z3,e)))):=by kernel_rfl
theorem run6 (B:KB) {E:Type} (h:Ay E) (dep:Nat) (e:E) (x0:PV) (x1:PV):AM (AL B (fun _=>.cl)) fn6 (.cl) h dep [.cv x0,.cv x1] e=Af (A1 x1) (wv B 17 [x0] (fun z1=>Ah z1 (wd x1 (fun z2=>wv B 18 [x0,z2] (fun z3=>wa z3 (fun z4=>wb z3 (fun z5=>Af (AA z4 3) (some (.tup [.agg [Ai z4 0,Ai z4 1,Ai z4 2],z5],e))))))) (wd x1 (fun z6=>wv B 19 [x0,z6] (fun z7=>wa z7 (fun z8=>wb z7 (fun z9=>Af (AA z8 3) (some (.tup [.agg [Ai z8 0,Ai z8 1,Ai z8 2],z9],e))))))))):=by kernel_rfl

theorem run9 (B:KB) {E:Type} (h:Ay E) (dep:Nat) (e:E) (x0:PV) (x1:PV) (x2:PV):AM (AL B (fun _=>.cl)) fn9 (.cl) h dep [.cv x0,.cv x1,.cv x2] e=Af (A1 x1) (Af (A1 x2) (wv B 23 [x0] (fun z1=>Ah z1 (wd x1 (fun z2=>wd x2 (fun z3=>wv B 24 [x0,z2,z3] (fun z4=>wa z4 (fun z5=>wb z4 (fun z6=>Af (AA z5 3) (some (.tup [.agg [Ai z5 0,Ai z5 1,Ai z5 2],z6],e)))))))) (wd x1 (fun z7=>wd x2 (fun z8=>wv B 25 [x0,z7,z8] (fun z9=>wa z9 (fun z10=>wb z9 (fun z11=>Af (AA z10 3) (some (.tup [.agg [Ai z10 0,Ai z10 1,Ai z10 2],z11],e))))))))))):=by kernel_rfl

theorem run148 (B:KB) {E:Type} (h:Ay E) (dep:Nat) (e:E) (x0:PV) (x1:PV):AM (AL B (fun _=>.cl)) fn148 (.cl) h dep [.cv x0,.cv x1] e=Af (A1 x0) (Af (A1 x1) (we x0 (fun z1=>we x1 (fun z2=>Ac (Ad (.bin .eql .bool false (.c z1) (.c z2))) (fun z3=>Ah z3 (wf x0 (fun z4=>wf x1 (fun z5=>Ac (Ad (.bin .eql .bool false (.c z4) (.c z5))) (fun z6=>Ah z6 (wg x0 (fun z7=>wg x1 (fun z8=>wv B 173 [z7,z8] (fun z9=>some (z9,e))))) (some (.bool false,e)))))) (some (.bool false,e))))))):=by kernel_rfl

theorem run32 (B:KB) {E:Type} (h:Ay E) (dep:Nat) (e:E) (x0:PV):AM (AL B (fun _=>.cl)) fn32 (.cl) h dep [.cv x0] e=Af (A1 x0) (wf x0 (fun z1=>Ah z1 (wg x0 (fun z2=>wv B 68 [z2,.fn 66 []] (fun z3=>Ah z3 (some (.bool false,e)) (we x0 (fun z4=>Ah z4 (wg x0 (fun z5=>wc z5 (fun z6=>Ac (Ad (.bin .leq .num true (.c z6) (.c (.int .i64 200)))) (fun z7=>some (z7,e))))) (wg x0 (fun z8=>wc z8 (fun z9=>Ac (Ad (.bin .eql .num true (.c z9) (.c (.int .i64 1)))) (fun z10=>some (z10,e)))))))))) (we x0 (fun z11=>Ah z11 (wg x0 (fun z12=>wc z12 (fun z13=>Ac (Ad (.bin .leq .num true (.c z13) (.c (.int .i64 200)))) (fun z14=>some (z14,e))))) (wg x0 (fun z15=>wc z15 (fun z16=>Ac (Ad (.bin .eql .num true (.c z16) (.c (.int .i64 1)))) (fun z17=>some (z17,e))))))))):=by kernel_rfl

theorem run17 (B:KB) {E:Type} (h:Ay E) (dep:Nat) (e:E) (x0:PV) :
  AM (AL B (fun _=>.cl)) fn17 (.cl) h dep [.cv x0] e =
  Ac (Ax B .cl (.fn 34 []) []) (fun z1=>Ac (Ad (.lookup .str .nilF false (.c z1) (.c x0))) (fun z2=>Ac (Ad (.bin .neq .func true (.c z2) (.c .nilF))) (fun z3 =>
  some (z3,e)))):=by kernel_rfl
theorem run18 (B:KB) {E:Type} (h:Ay E) (dep:Nat) (e:E) (x0:PV) (x1:PV):AM (AL B (fun _=>.cl)) fn18 (.cl) h dep [.cv x0,.cv x1] e=Af (A1 x1) (wd x1 (fun z1=>Af (AT 3 [z1]) (Ac (A8 B .cl true 35 [AD 3 3 [z1] 0 (Ae [z1])]) (fun z2=>wn z2 (fun z3=>Ah z3 (wv B 36 [z2] (fun z4=>some (.tup [.agg [.bool false,.bool false,.nilS],z4],e))) (wv B 17 [x0] (fun z5=>wi z5 (fun z6=>Ah z6 (some (.tup [.agg [.bool false,.bool false,.nilS],.int .i64 102],e)) (wd x1 (fun z7=>wv B 37 [z7] (fun z8=>Ah z8 (some (.tup [.agg [.bool false,.bool false,.nilS],.int .i64 102],e)) (we x1 (fun z9=>Ac (Ad (.build [.bool false,.bool false,.nilS] [(0,(1,.c z9))])) (fun z10=>Af (AA z10 3) (wg x1 (fun z11=>wc z11 (fun z12=>CO (Ai z10 2) (Af (AZ [x0,z11,z12,.int .i64 0]) (Bg (fun z13=>wo (Aa z13.1 3) (Aa z13.1 2) (fun z14=>Ah z14 (wr (Aa z13.1 1) (Aa z13.1 3) (fun z15=>wh z15 (fun z16=>wv B 38 [Aa z13.1 0,z16] (fun z17=>wa z17 (fun z18=>wb z17 (fun z19=>wk z19 (fun z20=>Ah z20 (Ac (some (.tup [.agg [.bool false,.bool false,.nilS],z19],z13.2)) (fun z21=>some (.inr z21))) (Af (AT 1 [z18]) (Af (Az (Av 0 (Ae [z18])) (Ae [z18])) (Af (Bi (Az (Al (Aa z13.1 9)) (Ae (Ap (Aa z13.1 10)))) (Az (Av (Al (Aa z13.1 9)) (Ae (As (Ae [z18]) (AG 0 [z18])))) 2147483648)) (wj (Aa z13.1 3) (fun z22=>some (.inl ([Aa z13.1 0,Aa z13.1 1,Aa z13.1 2,z22,Aa z13.1 4,Aa z13.1 5,Aa z13.1 6,Aa z13.1 7,Aa z13.1 8,nI (Av (Al (Aa z13.1 9)) (Ae (As (Ae [z18]) (AG 0 [z18])))),.sl 1 (A9 (As (Al (Aa z13.1 9)) (Ap (Aa z13.1 10))) (As (Ae [z18]) (AG 0 [z18]))) false],z13.2)))))))))))))) (Ac (Af (Bh (.tup [.agg [Aa z13.1 7,Aa z13.1 8,AD 1 1 (Ap (Aa z13.1 10)) 0 (Al (Aa z13.1 9))],.int .i64 0])) (some (.tup [.agg [Aa z13.1 7,Aa z13.1 8,AD 1 1 (Ap (Aa z13.1 10)) 0 (Al (Aa z13.1 9))],.int .i64 0],z13.2))) (fun z23=>some (.inr z23))))) ([x0,z11,z12,.int .i64 0,.bool false,.bool false,.nilS,Ai z10 0,Ai z10 1,nI 0,.sl 1 [] false],e)))))))))))))))))))):=by kernel_rfl

theorem run23 (B:KB) {E:Type} (h:Ay E) (dep:Nat) (e:E) (x0:PV) :
  AM (AL B (fun _=>.cl)) fn23 (.cl) h dep [.cv x0] e =
  Ac (Ax B .cl (.fn 49 []) []) (fun z1=>Ac (Ad (.lookup .str .nilF false (.c z1) (.c x0))) (fun z2=>Ac (Ad (.bin .neq .func true (.c z2) (.c .nilF))) (fun z3 =>
  some (z3,e)))):=by kernel_rfl
theorem run24 (B:KB) {E:Type} (h:Ay E) (dep:Nat) (e:E) (x0:PV) (x1:PV) (x2:PV):AM (AL B (fun _=>.cl)) fn24 (.cl) h dep [.cv x0,.cv x1,.cv x2] e=Af (A1 x0) (Af (A1 x1) (Af (A1 x2) (wd x1 (fun z1=>wd x2 (fun z2=>Ac (Ad (.build [.bool false,.bool false,.nilS,.bool false,.bool false,.nilS] [(0,(3,.c z1)),(3,(3,.c z2))])) (fun z3=>Af (AA z3 6) (wd x1 (fun z4=>wd x2 (fun z5=>Af (AT 3 [z4,z5]) (Ac (A8 B .cl true 35 [AD 3 3 [z4,z5] 0 (Ae [z4,z5])]) (fun z6=>wn z6 (fun z7=>Ah z7 (wv B 36 [z6] (fun z8=>Af (AA z8 1) (some (.tup [.agg [.bool false,.bool false,.nilS],Ai z8 0],e)))) (we x0 (fun z9=>wv B 23 [z9] (fun z10=>wi z10 (fun z11=>Ah z11 (Af (AA (.int .i64 102) 1) (some (.tup [.agg [.bool false,.bool false,.nilS],Ai (.int .i64 102) 0],e))) (wv B 50 [.agg [Ai z3 0,Ai z3 1,Ai z3 2,Ai z3 3,Ai z3 4,Ai z3 5]] (fun z12=>wa z12 (fun z13=>wb z12 (fun z14=>we x0 (fun z15=>ws z15 [61] (fun z16=>Ah z16 (wn z14 (fun z17=>Ah z17 (wv B 36 [z14] (fun z18=>Af (AA z18 1) (some (.tup [.agg [.bool false,.bool false,.nilS],Ai z18 0],e)))) (we x1 (fun z19=>Ah z19 (Ac (Ad (.build [.bool false,.bool false,.nilS] [(0,(1,.c (.bool true)))])) (fun z20=>Af (AA z20 3) (wv B 51 [.agg [Ai z3 0,Ai z3 1,Ai z3 2,Ai z3 3,Ai z3 4,Ai z3 5],z13] (fun z21=>CO (Ai z20 2) (Ac (Hg B (Gp dep h (fun z22=>fun z23=>fun z24=>Af (Ij z23 2) (Ac (Ah (Aa z22 8) (wf (Aa z22 2) (fun z25=>wf (Aa z22 3) (fun z26=>Ac (Ad (.bin .neq .bool false (.c z25) (.c z26))) (fun z27=>some z27)))) (some (.bool false))) (fun z28=>Ah z28 (we (Aa z22 1) (fun z29=>wv B 52 [z29,.int .i64 0,.int .i64 1] (fun z30=>wa z30 (fun z31=>wb z30 (fun z32=>wk z32 (fun z33=>Ah z33 (Af (AA z32 1) (some (false,([Aa z22 0,Aa z22 1,Aa z22 2,Aa z22 3,.bool false,.bool false,.nilS,Ai z32 0,Aa z22 8,Aa z22 9,Aa z22 10,nI (Al (Aa z22 11)),.sl 1 (Ap (Aa z22 12)) false],(some .ret,z24))))) (Af (AT 1 [z31]) (Af (Az (Av 0 (Ae [z31])) (Ae [z31])) (Af (Bi (Az (Al (Aa z22 11)) (Ae (Ap (Aa z22 12)))) (Az (Av (Al (Aa z22 11)) (Ae (As (Ae [z31]) (AG 0 [z31])))) 2147483648)) (some (true,([Aa z22 0,Aa z22 1,Aa z22 2,Aa z22 3,Aa z22 4,Aa z22 5,Aa z22 6,Aa z22 7,Aa z22 8,Aa z22 9,Aa z22 10,nI (Av (Al (Aa z22 11)) (Ae (As (Ae [z31]) (AG 0 [z31])))),.sl 1 (A9 (As (Al (Aa z22 11)) (Ap (Aa z22 12))) (As (Ae [z31]) (AG 0 [z31]))) false],(none,z24))))))))))))) (we (Aa z22 1) (fun z34=>wv B 52 [z34,Aa z23 0,Aa z23 1] (fun z35=>wa z35 (fun z36=>wb z35 (fun z37=>wk z37 (fun z38=>Ah z38 (Af (AA z37 1) (some (false,([Aa z22 0,Aa z22 1,Aa z22 2,Aa z22 3,.bool false,.bool false,.nilS,Ai z37 0,Aa z22 8,Aa z22 9,Aa z22 10,nI (Al (Aa z22 11)),.sl 1 (Ap (Aa z22 12)) false],(some .ret,z24))))) (Af (AT 1 [z36]) (Af (Az (Av 0 (Ae [z36])) (Ae [z36])) (Af (Bi (Az (Al (Aa z22 11)) (Ae (Ap (Aa z22 12)))) (Az (Av (Al (Aa z22 11)) (Ae (As (Ae [z36]) (AG 0 [z36])))) 2147483648)) (some (true,([Aa z22 0,Aa z22 1,Aa z22 2,Aa z22 3,Aa z22 4,Aa z22 5,Aa z22 6,Aa z22 7,Aa z22 8,Aa z22 9,Aa z22 10,nI (Av (Al (Aa z22 11)) (Ae (As (Ae [z36]) (AG 0 [z36])))),.sl 1 (A9 (As (Al (Aa z22 11)) (Ap (Aa z22 12))) (As (Ae [z36]) (AG 0 [z36]))) false],(none,z24))))))))))))))))) dep z21 ([z21,x0,x1,x2,.bool false,.bool false,.nilS,.int .i64 0,.bool true,Ai z20 0,Ai z20 1,nI 0,.sl 1 [] false],(none,e))) (fun z39=>DL (JD z39.2.1) (Af (AA (.int .i64 0) 1) (Af (Bh (.tup [.agg [Aa z39.1 9,Aa z39.1 10,AD 1 1 (Ap (Aa z39.1 12)) 0 (Al (Aa z39.1 11))],Ai (.int .i64 0) 0])) (some (.tup [.agg [Aa z39.1 9,Aa z39.1 10,AD 1 1 (Ap (Aa z39.1 12)) 0 (Al (Aa z39.1 11))],Ai (.int .i64 0) 0],z39.2.2)))) (DL (IN z39.2.1) (some (.tup [.agg [Aa z39.1 4,Aa z39.1 5,Aa z39.1 6],Aa z39.1 7],z39.2.2)) none))))))) (we x2 (fun z40=>Ac (Ad (.build [.bool false,.bool false,.nilS] [(0,(1,.c z40))])) (fun z41=>Af (AA z41 3) (wv B 51 [.agg [Ai z3 0,Ai z3 1,Ai z3 2,Ai z3 3,Ai z3 4,Ai z3 5],z13] (fun z42=>CO (Ai z41 2) (Ac (Hg B (Gp dep h (fun z43=>fun z44=>fun z45=>Af (Ij z44 2) (Ac (Ah (Aa z43 8) (wf (Aa z43 2) (fun z46=>wf (Aa z43 3) (fun z47=>Ac (Ad (.bin .neq .bool false (.c z46) (.c z47))) (fun z48=>some z48)))) (some (.bool false))) (fun z49=>Ah z49 (we (Aa z43 1) (fun z50=>wv B 52 [z50,.int .i64 0,.int .i64 1] (fun z51=>wa z51 (fun z52=>wb z51 (fun z53=>wk z53 (fun z54=>Ah z54 (Af (AA z53 1) (some (false,([Aa z43 0,Aa z43 1,Aa z43 2,Aa z43 3,.bool false,.bool false,.nilS,Ai z53 0,Aa z43 8,Aa z43 9,Aa z43 10,nI (Al (Aa z43 11)),.sl 1 (Ap (Aa z43 12)) false],(some .ret,z45))))) (Af (AT 1 [z52]) (Af (Az (Av 0 (Ae [z52])) (Ae [z52])) (Af (Bi (Az (Al (Aa z43 11)) (Ae (Ap (Aa z43 12)))) (Az (Av (Al (Aa z43 11)) (Ae (As (Ae [z52]) (AG 0 [z52])))) 2147483648)) (some (true,([Aa z43 0,Aa z43 1,Aa z43 2,Aa z43 3,Aa z43 4,Aa z43 5,Aa z43 6,Aa z43 7,Aa z43 8,Aa z43 9,Aa z43 10,nI (Av (Al (Aa z43 11)) (Ae (As (Ae [z52]) (AG 0 [z52])))),.sl 1 (A9 (As (Al (Aa z43 11)) (Ap (Aa z43 12))) (As (Ae [z52]) (AG 0 [z52]))) false],(none,z45))))))))))))) (we (Aa z43 1) (fun z55=>wv B 52 [z55,Aa z44 0,Aa z44 1] (fun z56=>wa z56 (fun z57=>wb z56 (fun z58=>wk z58 (fun z59=>Ah z59 (Af (AA z58 1) (some (false,([Aa z43 0,Aa z43 1,Aa z43 2,Aa z43 3,.bool false,.bool false,.nilS,Ai z58 0,Aa z43 8,Aa z43 9,Aa z43 10,nI (Al (Aa z43 11)),.sl 1 (Ap (Aa z43 12)) false],(some .ret,z45))))) (Af (AT 1 [z57]) (Af (Az (Av 0 (Ae [z57])) (Ae [z57])) (Af (Bi (Az (Al (Aa z43 11)) (Ae (Ap (Aa z43 12)))) (Az (Av (Al (Aa z43 11)) (Ae (As (Ae [z57]) (AG 0 [z57])))) 2147483648)) (some (true,([Aa z43 0,Aa z43 1,Aa z43 2,Aa z43 3,Aa z43 4,Aa z43 5,Aa z43 6,Aa z43 7,Aa z43 8,Aa z43 9,Aa z43 10,nI (Av (Al (Aa z43 11)) (Ae (As (Ae [z57]) (AG 0 [z57])))),.sl 1 (A9 (As (Al (Aa z43 11)) (Ap (Aa z43 12))) (As (Ae [z57]) (AG 0 [z57]))) false],(none,z45))))))))))))))))) dep z42 ([z42,x0,x1,x2,.bool false,.bool false,.nilS,.int .i64 0,.bool true,Ai z41 0,Ai z41 1,nI 0,.sl 1 [] false],(none,e))) (fun z60=>DL (JD z60.2.1) (Af (AA (.int .i64 0) 1) (Af (Bh (.tup [.agg [Aa z60.1 9,Aa z60.1 10,AD 1 1 (Ap (Aa z60.1 12)) 0 (Al (Aa z60.1 11))],Ai (.int .i64 0) 0])) (some (.tup [.agg [Aa z60.1 9,Aa z60.1 10,AD 1 1 (Ap (Aa z60.1 12)) 0 (Al (Aa z60.1 11))],Ai (.int .i64 0) 0],z60.2.2)))) (DL (IN z60.2.1) (some (.tup [.agg [Aa z60.1 4,Aa z60.1 5,Aa z60.1 6],Aa z60.1 7],z60.2.2)) none)))))))))))) (we x0 (fun z61=>ws z61 [226,137,160] (fun z62=>Af (AA z62 1) (wn z14 (fun z63=>Ah z63 (wv B 36 [z14] (fun z64=>Af (AA z64 1) (some (.tup [.agg [.bool false,.bool false,.nilS],Ai z64 0],e)))) (wi (Ai z62 0) (fun z65=>Ah z65 (wd x1 (fun z66=>wv B 37 [z66] (fun z67=>Ah z67 (Af (AA (.int .i64 102) 1) (some (.tup [.agg [.bool false,.bool false,.nilS],Ai (.int .i64 102) 0],e))) (wd x2 (fun z68=>wv B 37 [z68] (fun z69=>Ah z69 (Af (AA (.int .i64 102) 1) (some (.tup [.agg [.bool false,.bool false,.nilS],Ai (.int .i64 102) 0],e))) (we x1 (fun z70=>Ah z70 (Ac (Ad (.build [.bool false,.bool false,.nilS] [(0,(1,.c (.bool true)))])) (fun z71=>Af (AA z71 3) (wv B 51 [.agg [Ai z3 0,Ai z3 1,Ai z3 2,Ai z3 3,Ai z3 4,Ai z3 5],z13] (fun z72=>CO (Ai z71 2) (Ac (Hg B (Gp dep h (fun z73=>fun z74=>fun z75=>Af (Ij z74 2) (Ac (Ah (Aa z73 8) (wf (Aa z73 2) (fun z76=>wf (Aa z73 3) (fun z77=>Ac (Ad (.bin .neq .bool false (.c z76) (.c z77))) (fun z78=>some z78)))) (some (.bool false))) (fun z79=>Ah z79 (we (Aa z73 1) (fun z80=>wv B 52 [z80,.int .i64 0,.int .i64 1] (fun z81=>wa z81 (fun z82=>wb z81 (fun z83=>wk z83 (fun z84=>Ah z84 (Af (AA z83 1) (some (false,([Aa z73 0,Aa z73 1,Aa z73 2,Aa z73 3,.bool false,.bool false,.nilS,Ai z83 0,Aa z73 8,Aa z73 9,Aa z73 10,nI (Al (Aa z73 11)),.sl 1 (Ap (Aa z73 12)) false],(some .ret,z75))))) (Af (AT 1 [z82]) (Af (Az (Av 0 (Ae [z82])) (Ae [z82])) (Af (Bi (Az (Al (Aa z73 11)) (Ae (Ap (Aa z73 12)))) (Az (Av (Al (Aa z73 11)) (Ae (As (Ae [z82]) (AG 0 [z82])))) 2147483648)) (some (true,([Aa z73 0,Aa z73 1,Aa z73 2,Aa z73 3,Aa z73 4,Aa z73 5,Aa z73 6,Aa z73 7,Aa z73 8,Aa z73 9,Aa z73 10,nI (Av (Al (Aa z73 11)) (Ae (As (Ae [z82]) (AG 0 [z82])))),.sl 1 (A9 (As (Al (Aa z73 11)) (Ap (Aa z73 12))) (As (Ae [z82]) (AG 0 [z82]))) false],(none,z75))))))))))))) (we (Aa z73 1) (fun z85=>wv B 52 [z85,Aa z74 0,Aa z74 1] (fun z86=>wa z86 (fun z87=>wb z86 (fun z88=>wk z88 (fun z89=>Ah z89 (Af (AA z88 1) (some (false,([Aa z73 0,Aa z73 1,Aa z73 2,Aa z73 3,.bool false,.bool false,.nilS,Ai z88 0,Aa z73 8,Aa z73 9,Aa z73 10,nI (Al (Aa z73 11)),.sl 1 (Ap (Aa z73 12)) false],(some .ret,z75))))) (Af (AT 1 [z87]) (Af (Az (Av 0 (Ae [z87])) (Ae [z87])) (Af (Bi (Az (Al (Aa z73 11)) (Ae (Ap (Aa z73 12)))) (Az (Av (Al (Aa z73 11)) (Ae (As (Ae [z87]) (AG 0 [z87])))) 2147483648)) (some (true,([Aa z73 0,Aa z73 1,Aa z73 2,Aa z73 3,Aa z73 4,Aa z73 5,Aa z73 6,Aa z73 7,Aa z73 8,Aa z73 9,Aa z73 10,nI (Av (Al (Aa z73 11)) (Ae (As (Ae [z87]) (AG 0 [z87])))),.sl 1 (A9 (As (Al (Aa z73 11)) (Ap (Aa z73 12))) (As (Ae [z87]) (AG 0 [z87]))) false],(none,z75))))))))))))))))) dep z72 ([z72,x0,x1,x2,.bool false,.bool false,.nilS,.int .i64 0,Ai z62 0,Ai z71 0,Ai z71 1,nI 0,.sl 1 [] false],(none,e))) (fun z90=>DL (JD z90.2.1) (Af (AA (.int .i64 0) 1) (Af (Bh (.tup [.agg [Aa z90.1 9,Aa z90.1 10,AD 1 1 (Ap (Aa z90.1 12)) 0 (Al (Aa z90.1 11))],Ai (.int .i64 0) 0])) (some (.tup [.agg [Aa z90.1 9,Aa z90.1 10,AD 1 1 (Ap (Aa z90.1 12)) 0 (Al (Aa z90.1 11))],Ai (.int .i64 0) 0],z90.2.2)))) (DL (IN z90.2.1) (some (.tup [.agg [Aa z90.1 4,Aa z90.1 5,Aa z90.1 6],Aa z90.1 7],z90.2.2)) none))))))) (we x2 (fun z91=>Ac (Ad (.build [.bool false,.bool false,.nilS] [(0,(1,.c z91))])) (fun z92=>Af (AA z92 3) (wv B 51 [.agg [Ai z3 0,Ai z3 1,Ai z3 2,Ai z3 3,Ai z3 4,Ai z3 5],z13] (fun z93=>CO (Ai z92 2) (Ac (Hg B (Gp dep h (fun z94=>fun z95=>fun z96=>Af (Ij z95 2) (Ac (Ah (Aa z94 8) (wf (Aa z94 2) (fun z97=>wf (Aa z94 3) (fun z98=>Ac (Ad (.bin .neq .bool false (.c z97) (.c z98))) (fun z99=>some z99)))) (some (.bool false))) (fun z100=>Ah z100 (we (Aa z94 1) (fun z101=>wv B 52 [z101,.int .i64 0,.int .i64 1] (fun z102=>wa z102 (fun z103=>wb z102 (fun z104=>wk z104 (fun z105=>Ah z105 (Af (AA z104 1) (some (false,([Aa z94 0,Aa z94 1,Aa z94 2,Aa z94 3,.bool false,.bool false,.nilS,Ai z104 0,Aa z94 8,Aa z94 9,Aa z94 10,nI (Al (Aa z94 11)),.sl 1 (Ap (Aa z94 12)) false],(some .ret,z96))))) (Af (AT 1 [z103]) (Af (Az (Av 0 (Ae [z103])) (Ae [z103])) (Af (Bi (Az (Al (Aa z94 11)) (Ae (Ap (Aa z94 12)))) (Az (Av (Al (Aa z94 11)) (Ae (As (Ae [z103]) (AG 0 [z103])))) 2147483648)) (some (true,([Aa z94 0,Aa z94 1,Aa z94 2,Aa z94 3,Aa z94 4,Aa z94 5,Aa z94 6,Aa z94 7,Aa z94 8,Aa z94 9,Aa z94 10,nI (Av (Al (Aa z94 11)) (Ae (As (Ae [z103]) (AG 0 [z103])))),.sl 1 (A9 (As (Al (Aa z94 11)) (Ap (Aa z94 12))) (As (Ae [z103]) (AG 0 [z103]))) false],(none,z96))))))))))))) (we (Aa z94 1) (fun z106=>wv B 52 [z106,Aa z95 0,Aa z95 1] (fun z107=>wa z107 (fun z108=>wb z107 (fun z109=>wk z109 (fun z110=>Ah z110 (Af (AA z109 1) (some (false,([Aa z94 0,Aa z94 1,Aa z94 2,Aa z94 3,.bool false,.bool false,.nilS,Ai z109 0,Aa z94 8,Aa z94 9,Aa z94 10,nI (Al (Aa z94 11)),.sl 1 (Ap (Aa z94 12)) false],(some .ret,z96))))) (Af (AT 1 [z108]) (Af (Az (Av 0 (Ae [z108])) (Ae [z108])) (Af (Bi (Az (Al (Aa z94 11)) (Ae (Ap (Aa z94 12)))) (Az (Av (Al (Aa z94 11)) (Ae (As (Ae [z108]) (AG 0 [z108])))) 2147483648)) (some (true,([Aa z94 0,Aa z94 1,Aa z94 2,Aa z94 3,Aa z94 4,Aa z94 5,Aa z94 6,Aa z94 7,Aa z94 8,Aa z94 9,Aa z94 10,nI (Av (Al (Aa z94 11)) (Ae (As (Ae [z108]) (AG 0 [z108])))),.sl 1 (A9 (As (Al (Aa z94 11)) (Ap (Aa z94 12))) (As (Ae [z108]) (AG 0 [z108]))) false],(none,z96))))))))))))))))) dep z93 ([z93,x0,x1,x2,.bool false,.bool false,.nilS,.int .i64 0,Ai z62 0,Ai z92 0,Ai z92 1,nI 0,.sl 1 [] false],(none,e))) (fun z111=>DL (JD z111.2.1) (Af (AA (.int .i64 0) 1) (Af (Bh (.tup [.agg [Aa z111.1 9,Aa z111.1 10,AD 1 1 (Ap (Aa z111.1 12)) 0 (Al (Aa z111.1 11))],Ai (.int .i64 0) 0])) (some (.tup [.agg [Aa z111.1 9,Aa z111.1 10,AD 1 1 (Ap (Aa z111.1 12)) 0 (Al (Aa z111.1 11))],Ai (.int .i64 0) 0],z111.2.2)))) (DL (IN z111.2.1) (some (.tup [.agg [Aa z111.1 4,Aa z111.1 5,Aa z111.1 6],Aa z111.1 7],z111.2.2)) none)))))))))))))))) (we x1 (fun z112=>Ah z112 (Ac (Ad (.build [.bool false,.bool false,.nilS] [(0,(1,.c (.bool true)))])) (fun z113=>Af (AA z113 3) (wv B 51 [.agg [Ai z3 0,Ai z3 1,Ai z3 2,Ai z3 3,Ai z3 4,Ai z3 5],z13] (fun z114=>CO (Ai z113 2) (Ac (Hg B (Gp dep h (fun z115=>fun z116=>fun z117=>Af (Ij z116 2) (Ac (Ah (Aa z115 8) (wf (Aa z115 2) (fun z118=>wf (Aa z115 3) (fun z119=>Ac (Ad (.bin .neq .bool false (.c z118) (.c z119))) (fun z120=>some z120)))) (some (.bool false))) (fun z121=>Ah z121 (we (Aa z115 1) (fun z122=>wv B 52 [z122,.int .i64 0,.int .i64 1] (fun z123=>wa z123 (fun z124=>wb z123 (fun z125=>wk z125 (fun z126=>Ah z126 (Af (AA z125 1) (some (false,([Aa z115 0,Aa z115 1,Aa z115 2,Aa z115 3,.bool false,.bool false,.nilS,Ai z125 0,Aa z115 8,Aa z115 9,Aa z115 10,nI (Al (Aa z115 11)),.sl 1 (Ap (Aa z115 12)) false],(some .ret,z117))))) (Af (AT 1 [z124]) (Af (Az (Av 0 (Ae [z124])) (Ae [z124])) (Af (Bi (Az (Al (Aa z115 11)) (Ae (Ap (Aa z115 12)))) (Az (Av (Al (Aa z115 11)) (Ae (As (Ae [z124]) (AG 0 [z124])))) 2147483648)) (some (true,([Aa z115 0,Aa z115 1,Aa z115 2,Aa z115 3,Aa z115 4,Aa z115 5,Aa z115 6,Aa z115 7,Aa z115 8,Aa z115 9,Aa z115 10,nI (Av (Al (Aa z115 11)) (Ae (As (Ae [z124]) (AG 0 [z124])))),.sl 1 (A9 (As (Al (Aa z115 11)) (Ap (Aa z115 12))) (As (Ae [z124]) (AG 0 [z124]))) false],(none,z117))))))))))))) (we (Aa z115 1) (fun z127=>wv B 52 [z127,Aa z116 0,Aa z116 1] (fun z128=>wa z128 (fun z129=>wb z128 (fun z130=>wk z130 (fun z131=>Ah z131 (Af (AA z130 1) (some (false,([Aa z115 0,Aa z115 1,Aa z115 2,Aa z115 3,.bool false,.bool false,.nilS,Ai z130 0,Aa z115 8,Aa z115 9,Aa z115 10,nI (Al (Aa z115 11)),.sl 1 (Ap (Aa z115 12)) false],(some .ret,z117))))) (Af (AT 1 [z129]) (Af (Az (Av 0 (Ae [z129])) (Ae [z129])) (Af (Bi (Az (Al (Aa z115 11)) (Ae (Ap (Aa z115 12)))) (Az (Av (Al (Aa z115 11)) (Ae (As (Ae [z129]) (AG 0 [z129])))) 2147483648)) (some (true,([Aa z115 0,Aa z115 1,Aa z115 2,Aa z115 3,Aa z115 4,Aa z115 5,Aa z115 6,Aa z115 7,Aa z115 8,Aa z115 9,Aa z115 10,nI (Av (Al (Aa z115 11)) (Ae (As (Ae [z129]) (AG 0 [z129])))),.sl 1 (A9 (As (Al (Aa z115 11)) (Ap (Aa z115 12))) (As (Ae [z129]) (AG 0 [z129]))) false],(none,z117))))))))))))))))) dep z114 ([z114,x0,x1,x2,.bool false,.bool false,.nilS,.int .i64 0,Ai z62 0,Ai z113 0,Ai z113 1,nI 0,.sl 1 [] false],(none,e))) (fun z132=>DL (JD z132.2.1) (Af (AA (.int .i64 0) 1) (Af (Bh (.tup [.agg [Aa z132.1 9,Aa z132.1 10,AD 1 1 (Ap (Aa z132.1 12)) 0 (Al (Aa z132.1 11))],Ai (.int .i64 0) 0])) (some (.tup [.agg [Aa z132.1 9,Aa z132.1 10,AD 1 1 (Ap (Aa z132.1 12)) 0 (Al (Aa z132.1 11))],Ai (.int .i64 0) 0],z132.2.2)))) (DL (IN z132.2.1) (some (.tup [.agg [Aa z132.1 4,Aa z132.1 5,Aa z132.1 6],Aa z132.1 7],z132.2.2)) none))))))) (we x2 (fun z133=>Ac (Ad (.build [.bool false,.bool false,.nilS] [(0,(1,.c z133))])) (fun z134=>Af (AA z134 3) (wv B 51 [.agg [Ai z3 0,Ai z3 1,Ai z3 2,Ai z3 3,Ai z3 4,Ai z3 5],z13] (fun z135=>CO (Ai z134 2) (Ac (Hg B (Gp dep h (fun z136=>fun z137=>fun z138=>Af (Ij z137 2) (Ac (Ah (Aa z136 8) (wf (Aa z136 2) (fun z139=>wf (Aa z136 3) (fun z140=>Ac (Ad (.bin .neq .bool false (.c z139) (.c z140))) (fun z141=>some z141)))) (some (.bool false))) (fun z142=>Ah z142 (we (Aa z136 1) (fun z143=>wv B 52 [z143,.int .i64 0,.int .i64 1] (fun z144=>wa z144 (fun z145=>wb z144 (fun z146=>wk z146 (fun z147=>Ah z147 (Af (AA z146 1) (some (false,([Aa z136 0,Aa z136 1,Aa z136 2,Aa z136 3,.bool false,.bool false,.nilS,Ai z146 0,Aa z136 8,Aa z136 9,Aa z136 10,nI (Al (Aa z136 11)),.sl 1 (Ap (Aa z136 12)) false],(some .ret,z138))))) (Af (AT 1 [z145]) (Af (Az (Av 0 (Ae [z145])) (Ae [z145])) (Af (Bi (Az (Al (Aa z136 11)) (Ae (Ap (Aa z136 12)))) (Az (Av (Al (Aa z136 11)) (Ae (As (Ae [z145]) (AG 0 [z145])))) 2147483648)) (some (true,([Aa z136 0,Aa z136 1,Aa z136 2,Aa z136 3,Aa z136 4,Aa z136 5,Aa z136 6,Aa z136 7,Aa z136 8,Aa z136 9,Aa z136 10,nI (Av (Al (Aa z136 11)) (Ae (As (Ae [z145]) (AG 0 [z145])))),.sl 1 (A9 (As (Al (Aa z136 11)) (Ap (Aa z136 12))) (As (Ae [z145]) (AG 0 [z145]))) false],(none,z138))))))))))))) (we (Aa z136 1) (fun z148=>wv B 52 [z148,Aa z137 0,Aa z137 1] (fun z149=>wa z149 (fun z150=>wb z149 (fun z151=>wk z151 (fun z152=>Ah z152 (Af (AA z151 1) (some (false,([Aa z136 0,Aa z136 1,Aa z136 2,Aa z136 3,.bool false,.bool false,.nilS,Ai z151 0,Aa z136 8,Aa z136 9,Aa z136 10,nI (Al (Aa z136 11)),.sl 1 (Ap (Aa z136 12)) false],(some .ret,z138))))) (Af (AT 1 [z150]) (Af (Az (Av 0 (Ae [z150])) (Ae [z150])) (Af (Bi (Az (Al (Aa z136 11)) (Ae (Ap (Aa z136 12)))) (Az (Av (Al (Aa z136 11)) (Ae (As (Ae [z150]) (AG 0 [z150])))) 2147483648)) (some (true,([Aa z136 0,Aa z136 1,Aa z136 2,Aa z136 3,Aa z136 4,Aa z136 5,Aa z136 6,Aa z136 7,Aa z136 8,Aa z136 9,Aa z136 10,nI (Av (Al (Aa z136 11)) (Ae (As (Ae [z150]) (AG 0 [z150])))),.sl 1 (A9 (As (Al (Aa z136 11)) (Ap (Aa z136 12))) (As (Ae [z150]) (AG 0 [z150]))) false],(none,z138))))))))))))))))) dep z135 ([z135,x0,x1,x2,.bool false,.bool false,.nilS,.int .i64 0,Ai z62 0,Ai z134 0,Ai z134 1,nI 0,.sl 1 [] false],(none,e))) (fun z153=>DL (JD z153.2.1) (Af (AA (.int .i64 0) 1) (Af (Bh (.tup [.agg [Aa z153.1 9,Aa z153.1 10,AD 1 1 (Ap (Aa z153.1 12)) 0 (Al (Aa z153.1 11))],Ai (.int .i64 0) 0])) (some (.tup [.agg [Aa z153.1 9,Aa z153.1 10,AD 1 1 (Ap (Aa z153.1 12)) 0 (Al (Aa z153.1 11))],Ai (.int .i64 0) 0],z153.2.2)))) (DL (IN z153.2.1) (some (.tup [.agg [Aa z153.1 4,Aa z153.1 5,Aa z153.1 6],Aa z153.1 7],z153.2.2)) none))))))))))))))))))))))))))))))))))))))):=by kernel_rfl

theorem run173 (B:KB) {E:Type} (h:Ay E) (dep:Nat) (e:E) (x0:PV) (x1:PV):AM (AL B (fun _=>.cl)) fn173 (.cl) h dep [.cv x0,.cv x1] e=wc x0 (fun z1=>wc x1 (fun z2=>wt z1 z2 (fun z3=>Ah z3 (some (.bool false,e)) (wc x0 (fun z4=>Af (AZ [x0,x1,z4,.int .i64 0]) (Bg (fun z5=>wo (Aa z5.1 3) (Aa z5.1 2) (fun z6=>Ah z6 (wr (Aa z5.1 0) (Aa z5.1 3) (fun z7=>wh z7 (fun z8=>wr (Aa z5.1 1) (Aa z5.1 3) (fun z9=>wh z9 (fun z10=>wt z8 z10 (fun z11=>Ah z11 (Ac (some (.bool false,z5.2)) (fun z12=>some (.inr z12))) (wj (Aa z5.1 3) (fun z13=>some (.inl ([Aa z5.1 0,Aa z5.1 1,Aa z5.1 2,z13],z5.2)))))))))) (Ac (some (.bool true,z5.2)) (fun z14=>some (.inr z14))))) ([x0,x1,z4,.int .i64 0],e))))))):=by kernel_rfl

theorem run66 (B:KB) {E:Type} (h:Ay E) (dep:Nat) (e:E) (x0:PV):AM (AL B (fun _=>.cl)) fn66 (.cl) h dep [.cv x0] e=wv B 67 [x0] (fun z1=>wi z1 (fun z2=>some (z2,e))):=by kernel_rfl

theorem run67 (B:KB) {E:Type} (h:Ay E) (dep:Nat) (e:E) (x0:PV) :
  AM (AL B (fun _=>.cl)) fn67 (.cl) h dep [.cv x0] e =
  Ac (Ac (Ad (.bin .geq .num true (.c x0) (.c (.int .i64 0)))) (fun z1=>Ah z1 (Ac (Ad (.bin .leq .num true (.c x0) (.c (.int .i64 1114111)))) (fun z2=>Ah z2
  (Ac (Ad (.bin .lss .num true (.c x0) (.c (.int .i64 55296)))) (fun z3=>Ah z3 (some (.bool true)) (Ac (Ad (.bin .gtr .num true (.c x0) (.c (.int .i64 57343)))) (fun
  z4=>some z4)))) (some (.bool false)))) (some (.bool false)))) (fun z5=>some (z5,e)):=by kernel_rfl
theorem run68 (B:KB) {E:Type} (h:Ay E) (dep:Nat) (e:E) (x0:PV) (x1:PV) :
  AM (AL B (fun _=>.cl)) fn68 (.cl) h dep [.cv x0,.cv x1] e =
  Ac (Ax B .cl (.fn 131 []) [x0,x1]) (fun z1=>Ac (Ad (.bin .geq .num true (.c z1) (.c (.int .i64 0)))) (fun z2=>some (z2,e))):=by kernel_rfl
theorem run35 (B:KB) {E:Type} (h:Ay E) (dep:Nat) (e:E) (x0:PV):AM (AL B (fun _=>.cl)) fn35 (.cl) h dep [.cv x0] e=wc x0 (fun z1=>Af (AZ [x0,z1,.int .i64 0]) (Bg (fun z2=>wo (Aa z2.1 2) (Aa z2.1 1) (fun z3=>Ah z3 (Ac (Ad (.idxAddr 3 (.c (Aa z2.1 0)) (.c (Aa z2.1 2)))) (fun z4=>Ac (Ad (.load 3 true (.c z4))) (fun z5=>Af (AA z5 3) (wv B 32 [.agg [Ai z5 0,Ai z5 1,Ai z5 2]] (fun z6=>wi z6 (fun z7=>Ah z7 (Ac (Ad (.build [.int .i64 0] [(0,(1,.c (.int .i64 114)))])) (fun z8=>Ac (some (.iface 127 z8,z2.2)) (fun z9=>some (.inr z9)))) (wj (Aa z2.1 2) (fun z10=>some (.inl ([Aa z2.1 0,Aa z2.1 1,z10],z2.2)))))))))) (Ac (some (.nilI,z2.2)) (fun z11=>some (.inr z11))))) ([x0,z1,.int .i64 0],e))):=by kernel_rfl

theorem run36 (B:KB) {E:Type} (h:Ay E) (dep:Nat) (e:E) (x0:PV) :
  AM (AL B (fun _=>.cl)) fn36 (.cl) h dep [.cv x0] e =
  Af (Ge 1 1) (asP 127 x0 (fun z1=>Af (AA z1 1) (Ac (AU z1 0 1 false) (fun z2=>some (z2,e)))) (some (.int .i64 0,e))):=by kernel_rfl
theorem run37 (B:KB) {E:Type} (h:Ay E) (dep:Nat) (e:E) (x0:PV):AM (AL B (fun _=>.cl)) fn37 (.cl) h dep [.cv x0] e=Af (A1 x0) (Ac (wf x0 (fun z1=>Ah z1 (wg x0 (fun z2=>wc z2 (fun z3=>Ac (Ad (.bin .gtr .num true (.c z3) (.c (.int .i64 0)))) (fun z4=>some z4)))) (some (.bool false)))) (fun z5=>some (z5,e))):=by kernel_rfl

theorem run38 (B:KB) {E:Type} (h:Ay E) (dep:Nat) (e:E) (x0:PV) (x1:PV):AM (AL B (fun _=>.cl)) fn38 (.cl) h dep [.cv x0,.cv x1] e=wv B 34 [] (fun z1=>Ac (Ad (.lookup .str .nilF true (.c z1) (.c x0))) (fun z2=>wa z2 (fun z3=>wb z2 (fun z4=>wi z4 (fun z5=>Ah z5 (Ac (Ad (.build [.str []] [(0,(1,.c x0))])) (fun z6=>wv B 84 [.iface 124 z6] (fun z7=>some (.tup [.int .i64 0,z7],e)))) (Ac (Ax B .cl z3 [x1]) (fun z8=>wa z8 (fun z9=>wb z8 (fun z10=>wv B 84 [z10] (fun z11=>some (.tup [z9,z11],e))))))))))):=by kernel_rfl

theorem run50 (B:KB) {E:Type} (h:Ay E) (dep:Nat) (e:E) (x0:PV):AM (AL B (fun _=>.cl)) fn50 (.cl) h dep [.cv x0] e=Af (A1 x0) (Ac (we x0 (fun z1=>Ah z1 (Ac (AU x0 3 1 false) (fun z2=>Ah z2 (wg x0 (fun z3=>wc z3 (fun z4=>Ac (AU x0 5 1 false) (fun z5=>wc z5 (fun z6=>wt z4 z6 (fun z7=>some z7)))))) (some (.bool false)))) (some (.bool false)))) (fun z8=>Ah z8 (Ac (Ad (.build [.int .i64 0] [(0,(1,.c (.int .i64 110)))])) (fun z9=>some (.tup [.int .i64 0,.iface 127 z9],e))) (we x0 (fun z10=>Ah z10 (wg x0 (fun z11=>wc z11 (fun z12=>some (.tup [z12,.nilI],e)))) (Ac (AU x0 5 1 false) (fun z13=>wc z13 (fun z14=>some (.tup [z14,.nilI],e)))))))):=by kernel_rfl

theorem run51 (B:KB) {E:Type} (h:Ay E) (dep:Nat) (e:E) (x0:PV) (x1:PV) :
  AM (AL B (fun _=>.cl)) fn51 (.cl) h dep [.cv x0,.cv x1] e =
  Af (A1 x0) (Af (A1 x1) (Af (Bh (.fn 116 [I7 (Ei x1) 0,I7 (Ei x0) 0])) (some (.fn 116 [I7 (Ei x1) 0,I7 (Ei x0) 0],e)))):=by kernel_rfl
theorem run52 (B:KB) {E:Type} (h:Ay E) (dep:Nat) (e:E) (x0:PV) (x1:PV) (x2:PV):AM (AL B (fun _=>.cl)) fn52 (.cl) h dep [.cv x0,.cv x1,.cv x2] e=wv B 49 [] (fun z1=>Ac (Ad (.lookup .str .nilF true (.c z1) (.c x0))) (fun z2=>wa z2 (fun z3=>wb z2 (fun z4=>wi z4 (fun z5=>Ah z5 (Ac (Ad (.build [.str []] [(0,(1,.c x0))])) (fun z6=>wv B 84 [.iface 124 z6] (fun z7=>some (.tup [.int .i64 0,z7],e)))) (Ac (Ad (.build [.int .i64 0,.int .i64 0] [(0,(1,.c x1)),(1,(1,.c x2))])) (fun z8=>Ac (Ad (.build [.int .i64 0,.int .i64 0] [(0,(2,.c z8))])) (fun z9=>Ac (Ax B .cl z3 [z9]) (fun z10=>wa z10 (fun z11=>wb z10 (fun z12=>wv B 84 [z12] (fun z13=>some (.tup [z11,z13],e))))))))))))):=by kernel_rfl

theorem run131 (B:KB) {E:Type} (h:Ay E) (dep:Nat) (e:E) (x0:PV) (x1:PV):AM (AL B (fun _=>.cl)) fn131 (.cl) h dep [.cv x0,.cv x1] e=wc x0 (fun z1=>Af (AZ [x0,x1,z1,.int .i64 0]) (Bg (fun z2=>wo (Aa z2.1 3) (Aa z2.1 2) (fun z3=>Ah z3 (wr (Aa z2.1 0) (Aa z2.1 3) (fun z4=>wh z4 (fun z5=>Ac (Ax B .cl (Aa z2.1 1) [z5]) (fun z6=>Ah z6 (Ac (some (Aa z2.1 3,z2.2)) (fun z7=>some (.inr z7))) (wj (Aa z2.1 3) (fun z8=>some (.inl ([Aa z2.1 0,Aa z2.1 1,Aa z2.1 2,z8],z2.2)))))))) (Ac (some (.int .i64 (-1),z2.2)) (fun z9=>some (.inr z9))))) ([x0,x1,z1,.int .i64 0],e))):=by kernel_rfl

theorem run116 (B:KB) {E:Type} (h:Ay E) (dep:Nat) (e:E) (x0:Nat) (x1:PV) (x2:PV):AM (AL B (fun _=>.cl)) fn116 (.cl) h dep [.yld x0,.cv x1,.cv x2] e=wh x1 (fun z1=>Af (AZ [nI x0,x2,z1,.int .i64 0]) (Bg (fun z2=>wo (Aa z2.1 3) (Aa z2.1 2) (fun z3=>Ah z3 (Ac (Ad (.fieldAddr 0 (.c (Aa z2.1 1)))) (fun z4=>Ac (Ad (.load 3 true (.c z4))) (fun z5=>wv B 117 [z5,Aa z2.1 3] (fun z6=>Ac (Ad (.fieldAddr 3 (.c (Aa z2.1 1)))) (fun z7=>Ac (Ad (.load 3 true (.c z7))) (fun z8=>wv B 117 [z8,Aa z2.1 3] (fun z9=>Ac (h (Al (Aa z2.1 0)) [z6,z9] z2.2) (fun z10=>wi (.bool z10.1) (fun z11=>Ah z11 (Ac (some (.tup [],z10.2)) (fun z12=>some (.inr z12))) (wj (Aa z2.1 3) (fun z13=>some (.inl ([nI (Al (Aa z2.1 0)),Aa z2.1 1,Aa z2.1 2,z13],z10.2))))))))))))) (Ac (some (.tup [],z2.2)) (fun z14=>some (.inr z14))))) ([nI x0,x2,z1,.int .i64 0],e))):=by kernel_rfl

theorem run117 (B:KB) {E:Type} (h:Ay E) (dep:Nat) (e:E) (x0:PV) (x1:PV):AM (AL B (fun _=>.cl)) fn117 (.cl) h dep [.cv x0,.cv x1] e=Af (A1 x0) (we x0 (fun z1=>Ah z1 (wg x0 (fun z2=>wr z2 x1 (fun z3=>wh z3 (fun z4=>some (z4,e))))) (wg x0 (fun z5=>wr z5 (.int .i64 0) (fun z6=>wh z6 (fun z7=>some (z7,e))))))):=by kernel_rfl

theorem run5 (B:KB) {E:Type} (h:Ay E) (dep:Nat) (e:E) (x0:PV):AM (AL B (fun _=>.cl)) fn5 (.cl) h dep [.cv x0] e=Af (A1 x0) (we x0 (fun z1=>wf x0 (fun z2=>wg x0 (fun z3=>wg x0 (fun z4=>wc z4 (fun z5=>Ac (Ad (.minmax false [.c z5,.c (.int .i64 202)])) (fun z6=>Ac (Ad (.slice 1 (.c z3) none (some (.c z6)) none)) (fun z7=>Ac (Ad (.build [.bool false,.bool false,.nilS] [(0,(1,.c z1)),(1,(1,.c z2)),(2,(1,.c z7))])) (fun z8=>Af (AA z8 3) (some (.agg [Ai z8 0,Ai z8 1,Ai z8 2],e))))))))))):=by kernel_rfl

theorem run73 (B:KB) {E:Type} (h:Ay E) (dep:Nat) (e:E) (x0:PV) :
  AM (AL B (fun _=>.cl)) fn73 (.cl) h dep [.cv x0] e =
  some (.tup [x0,.nilI],e):=by kernel_rfl
theorem run74 (B:KB) {E:Type} (h:Ay E) (dep:Nat) (e:E) (x0:PV):AM (AL B (fun _=>.cl)) fn74 (.cl) h dep [.cv x0] e=Ac (Ad (.build [.int .i64 0,.int .i64 0] [(0,(1,.c (.int .i64 0))),(1,(1,.c x0))])) (fun z1=>Ac (Ad (.build [.int .i64 0,.int .i64 0] [(0,(2,.c z1))])) (fun z2=>wv B 75 [z2] (fun z3=>wa z3 (fun z4=>wb z3 (fun z5=>some (.tup [z4,z5],e)))))):=by kernel_rfl

theorem run75 (B:KB) {E:Type} (h:Ay E) (dep:Nat) (e:E) (x0:PV):AM (AL B (fun _=>.cl)) fn75 (.cl) h dep [.cv x0] e=Af (A1 x0) (we x0 (fun z1=>wf x0 (fun z2=>Ac (Ad (.bin .sub .num false (.c z1) (.c z2))) (fun z3=>wh (.ptr [.glob 0 258] 0) (fun z4=>we x0 (fun z5=>wm z5 (fun z6=>wf x0 (fun z7=>wm z7 (fun z8=>Ac (Ad (.bin .eql .bool false (.c z6) (.c z8))) (fun z9=>Ah z9 (Af (AT 1 [.bool true]) (Ac (A8 B .cl false 81 [z3,z4,AD 1 1 [.bool true] 0 (Ae [.bool true])]) (fun z10=>wa z10 (fun z11=>wb z10 (fun z12=>some (.tup [z11,z12],e)))))) (wm z3 (fun z13=>we x0 (fun z14=>wm z14 (fun z15=>Ac (Ad (.bin .eql .bool false (.c z13) (.c z15))) (fun z16=>Af (AT 1 [z16]) (Ac (A8 B .cl false 81 [z3,z4,AD 1 1 [z16] 0 (Ae [z16])]) (fun z17=>wa z17 (fun z18=>wb z17 (fun z19=>some (.tup [z18,z19],e)))))))))))))))))))):=by kernel_rfl

theorem run76 (B:KB) {E:Type} (h:Ay E) (dep:Nat) (e:E) (x0:PV):AM (AL B (fun _=>.cl)) fn76 (.cl) h dep [.cv x0] e=Ac (Ad (.bin .gtr .num true (.c x0) (.c (.int .i64 0)))) (fun z1=>wv B 77 [z1] (fun z2=>wm x0 (fun z3=>wv B 77 [z3] (fun z4=>Ac (Ad (.bin .sub .num false (.c z2) (.c z4))) (fun z5=>some (.tup [z5,.nilI],e)))))):=by kernel_rfl

theorem run77 (B:KB) {E:Type} (h:Ay E) (dep:Nat) (e:E) (x0:PV) :
  AM (AL B (fun _=>.cl)) fn77 (.cl) h dep [.cv x0] e =
  Ah x0 (some (.int .i64 1,e)) (some (.int .i64 0,e)):=by kernel_rfl
theorem run78 (B:KB) {E:Type} (h:Ay E) (dep:Nat) (e:E) (x0:PV):AM (AL B (fun _=>.cl)) fn78 (.cl) h dep [.cv x0] e=Ac (Ad (.build [.int .i64 0,.int .i64 0] [(0,(1,.c (.int .i64 1))),(1,(1,.c x0))])) (fun z1=>Ac (Ad (.build [.int .i64 0,.int .i64 0] [(0,(2,.c z1))])) (fun z2=>wv B 79 [z2] (fun z3=>wa z3 (fun z4=>wb z3 (fun z5=>some (.tup [z4,z5],e)))))):=by kernel_rfl

theorem run79 (B:KB) {E:Type} (h:Ay E) (dep:Nat) (e:E) (x0:PV):AM (AL B (fun _=>.cl)) fn79 (.cl) h dep [.cv x0] e=Af (A1 x0) (wf x0 (fun z1=>wl z1 (fun z2=>Ah z2 (wh (.ptr [.glob 1 258] 0) (fun z3=>we x0 (fun z4=>wl z4 (fun z5=>Af (AT 1 [z5]) (Ac (A8 B .cl false 81 [.int .i64 1,z3,AD 1 1 [z5] 0 (Ae [z5])]) (fun z6=>wa z6 (fun z7=>wb z6 (fun z8=>some (.tup [z7,z8],e))))))))) (wf x0 (fun z9=>Ac (Ad (.bin .eql .num true (.c z9) (.c (.int .i64 (-1))))) (fun z10=>Ah z10 (we x0 (fun z11=>Ac (Ad (.un .neg (.c z11))) (fun z12=>wh (.ptr [.glob 0 258] 0) (fun z13=>we x0 (fun z14=>Ac (Ad (.bin .neq .num true (.c z14) (.c (.int .i64 (-9223372036854775808))))) (fun z15=>Af (AT 1 [z15]) (Ac (A8 B .cl false 81 [z12,z13,AD 1 1 [z15] 0 (Ae [z15])]) (fun z16=>wa z16 (fun z17=>wb z16 (fun z18=>some (.tup [z17,z18],e))))))))))) (we x0 (fun z19=>wf x0 (fun z20=>Ac (Ad (.bin .quo .num false (.c z19) (.c z20))) (fun z21=>wh (.ptr [.glob 1 258] 0) (fun z22=>we x0 (fun z23=>wf x0 (fun z24=>Ac (Ad (.bin .rem .num false (.c z23) (.c z24))) (fun z25=>wl z25 (fun z26=>Af (AT 1 [z26]) (Ac (A8 B .cl false 81 [z21,z22,AD 1 1 [z26] 0 (Ae [z26])]) (fun z27=>wa z27 (fun z28=>wb z27 (fun z29=>some (.tup [z28,z29],e)))))))))))))))))))):=by kernel_rfl

theorem run80 (B:KB) {E:Type} (h:Ay E) (dep:Nat) (e:E) (x0:PV):AM (AL B (fun _=>.cl)) fn80 (.cl) h dep [.cv x0] e=Ac (Ad (.bin .sub .num true (.c (.int .i64 1)) (.c x0))) (fun z1=>Ac (Ad (.build [.str []] [(0,(1,.c (.str [126])))])) (fun z2=>wl x0 (fun z3=>Ah z3 (Af (AT 1 [.bool true]) (Ac (A8 B .cl false 81 [z1,.iface 124 z2,AD 1 1 [.bool true] 0 (Ae [.bool true])]) (fun z4=>wa z4 (fun z5=>wb z4 (fun z6=>some (.tup [z5,z6],e)))))) (Ac (Ad (.bin .eql .num true (.c x0) (.c (.int .i64 1)))) (fun z7=>Af (AT 1 [z7]) (Ac (A8 B .cl false 81 [z1,.iface 124 z2,AD 1 1 [z7] 0 (Ae [z7])]) (fun z8=>wa z8 (fun z9=>wb z8 (fun z10=>some (.tup [z9,z10],e)))))))))):=by kernel_rfl

theorem run81 (B:KB) {E:Type} (h:Ay E) (dep:Nat) (e:E) (x0:PV) (x1:PV) (x2:PV):AM (AL B (fun _=>.cl)) fn81 (.cl) h dep [.cv x0,.cv x1,.cv x2] e=wc x2 (fun z1=>Af (AZ [x0,x1,x2,z1,.int .i64 0]) (Bg (fun z2=>wo (Aa z2.1 4) (Aa z2.1 3) (fun z3=>Ah z3 (wr (Aa z2.1 2) (Aa z2.1 4) (fun z4=>wh z4 (fun z5=>wi z5 (fun z6=>Ah z6 (Ac (some (.tup [.int .i64 0,Aa z2.1 1],z2.2)) (fun z7=>some (.inr z7))) (wj (Aa z2.1 4) (fun z8=>some (.inl ([Aa z2.1 0,Aa z2.1 1,Aa z2.1 2,Aa z2.1 3,z8],z2.2)))))))) (Ac (some (.tup [Aa z2.1 0,.nilI],z2.2)) (fun z9=>some (.inr z9))))) ([x0,x1,x2,z1,.int .i64 0],e))):=by kernel_rfl

theorem run82 (B:KB) {E:Type} (h:Ay E) (dep:Nat) (e:E) (x0:PV) (x1:PV):AM (AL B (fun _=>.cl)) fn82 (.cl) h dep [.cv x0,.cv x1] e=wm x0 (fun z1=>Ah z1 (wh x1 (fun z2=>Ac (Ax B .cl z2 [x0]) (fun z3=>wa z3 (fun z4=>wb z3 (fun z5=>some (.tup [z4,z5],e)))))) (some (.tup [x0,.nilI],e))):=by kernel_rfl

theorem run84 (B:KB) {E:Type} (h:Ay E) (dep:Nat) (e:E) (x0:PV):AM (AL B (fun _=>.cl)) fn84 (.cl) h dep [.cv x0] e=wh (.ptr [.glob 0 258] 0) (fun z1=>wv B 139 [x0,z1] (fun z2=>Ah z2 (some (.int .i64 100,e)) (wh (.ptr [.glob 1 258] 0) (fun z3=>wv B 139 [x0,z3] (fun z4=>Ah z4 (some (.int .i64 101,e)) (Af (Ge 1 1) (asP 124 x0 (fun z5=>Af (AA z5 1) (some (.int .i64 102,e))) (some (.int .i64 0,e))))))))):=by kernel_rfl

theorem run107 (B:KB) {E:Type} (h:Ay E) (dep:Nat) (e:E) (x0:PV):AM (AL B (fun _=>.cl)) fn107 (.cl) h dep [.cv x0] e=Af (A1 x0) (we x0 (fun z1=>wf x0 (fun z2=>wp z1 z2 (fun z3=>wh (.ptr [.glob 0 258] 0) (fun z4=>we x0 (fun z5=>wm z5 (fun z6=>wf x0 (fun z7=>wm z7 (fun z8=>Ac (Ad (.bin .neq .bool false (.c z6) (.c z8))) (fun z9=>Ah z9 (Af (AT 1 [.bool true]) (Ac (A8 B .cl false 81 [z3,z4,AD 1 1 [.bool true] 0 (Ae [.bool true])]) (fun z10=>wa z10 (fun z11=>wb z10 (fun z12=>some (.tup [z11,z12],e)))))) (wm z3 (fun z13=>we x0 (fun z14=>wm z14 (fun z15=>Ac (Ad (.bin .eql .bool false (.c z13) (.c z15))) (fun z16=>Af (AT 1 [z16]) (Ac (A8 B .cl false 81 [z3,z4,AD 1 1 [z16] 0 (Ae [z16])]) (fun z17=>wa z17 (fun z18=>wb z17 (fun z19=>some (.tup [z18,z19],e)))))))))))))))))))):=by kernel_rfl

theorem run108 (B:KB) {E:Type} (h:Ay E) (dep:Nat) (e:E) (x0:PV):AM (AL B (fun _=>.cl)) fn108 (.cl) h dep [.cv x0] e=Af (A1 x0) (we x0 (fun z1=>wv B 152 [z1] (fun z2=>wf x0 (fun z3=>wv B 152 [z3] (fun z4=>wv B 151 [z2,z4] (fun z5=>wa z5 (fun z6=>wb z5 (fun z7=>we x0 (fun z8=>wm z8 (fun z9=>wf x0 (fun z10=>wm z10 (fun z11=>Ac (Ad (.bin .neq .bool false (.c z9) (.c z11))) (fun z12=>Ac (Ad (.conv .i64 (.c z7))) (fun z13=>Ah z12 (Ac (Ad (.un .neg (.c z13))) (fun z14=>wh (.ptr [.glob 0 258] 0) (fun z15=>Ac (Ad (.bin .eql .num true (.c z6) (.c (.int .u64 0)))) (fun z16=>Ac (Ad (.bin .leq .num true (.c z7) (.c (.int .u64 9223372036854775807)))) (fun z17=>Ah z17 (Af (AT 1 [z16,.bool true]) (Ac (A8 B .cl false 81 [z14,z15,AD 1 1 [z16,.bool true] 0 (Ae [z16,.bool true])]) (fun z18=>wa z18 (fun z19=>wb z18 (fun z20=>some (.tup [z19,z20],e)))))) (Ah z12 (Ac (Ad (.bin .eql .num true (.c z7) (.c (.int .u64 9223372036854775808)))) (fun z21=>Af (AT 1 [z16,z21]) (Ac (A8 B .cl false 81 [z14,z15,AD 1 1 [z16,z21] 0 (Ae [z16,z21])]) (fun z22=>wa z22 (fun z23=>wb z22 (fun z24=>some (.tup [z23,z24],e))))))) (Af (AT 1 [z16,.bool false]) (Ac (A8 B .cl false 81 [z14,z15,AD 1 1 [z16,.bool false] 0 (Ae [z16,.bool false])]) (fun z25=>wa z25 (fun z26=>wb z25 (fun z27=>some (.tup [z26,z27],e)))))))))))) (wh (.ptr [.glob 0 258] 0) (fun z28=>Ac (Ad (.bin .eql .num true (.c z6) (.c (.int .u64 0)))) (fun z29=>Ac (Ad (.bin .leq .num true (.c z7) (.c (.int .u64 9223372036854775807)))) (fun z30=>Ah z30 (Af (AT 1 [z29,.bool true]) (Ac (A8 B .cl false 81 [z13,z28,AD 1 1 [z29,.bool true] 0 (Ae [z29,.bool true])]) (fun z31=>wa z31 (fun z32=>wb z31 (fun z33=>some (.tup [z32,z33],e)))))) (Ah z12 (Ac (Ad (.bin .eql .num true (.c z7) (.c (.int .u64 9223372036854775808)))) (fun z34=>Af (AT 1 [z29,z34]) (Ac (A8 B .cl false 81 [z13,z28,AD 1 1 [z29,z34] 0 (Ae [z29,z34])]) (fun z35=>wa z35 (fun z36=>wb z35 (fun z37=>some (.tup [z36,z37],e))))))) (Af (AT 1 [z29,.bool false]) (Ac (A8 B .cl false 81 [z13,z28,AD 1 1 [z29,.bool false] 0 (Ae [z29,.bool false])]) (fun z38=>wa z38 (fun z39=>wb z38 (fun z40=>some (.tup [z39,z40],e))))))))))))))))))))))))):=by kernel_rfl

theorem run109 (B:KB) {E:Type} (h:Ay E) (dep:Nat) (e:E) (x0:PV):AM (AL B (fun _=>.cl)) fn109 (.cl) h dep [.cv x0] e=Af (A1 x0) (we x0 (fun z1=>wl z1 (fun z2=>Ah z2 (wf x0 (fun z3=>some (.tup [z3,.nilI],e))) (we x0 (fun z4=>Ac (Ad (.bin .eql .num true (.c z4) (.c (.int .i64 (-1))))) (fun z5=>Ah z5 (some (.tup [.int .i64 0,.nilI],e)) (wf x0 (fun z6=>we x0 (fun z7=>Ac (Ad (.bin .rem .num false (.c z6) (.c z7))) (fun z8=>Af (AZ [z8,.int .i64 0]) (Bg (fun z9=>Ac (Ad (.bin .lss .num true (.c (Aa z9.1 1)) (.c (.int .i64 1)))) (fun z10=>Ah z10 (Ac (wl (Aa z9.1 0) (fun z11=>Ah z11 (some (.bool true)) (wm (Aa z9.1 0) (fun z12=>we (Aa z9.1 2) (fun z13=>wm z13 (fun z14=>Ac (Ad (.bin .eql .bool false (.c z12) (.c z14))) (fun z15=>some z15))))))) (fun z16=>Ah z16 (Ac (some (.tup [Aa z9.1 0,.nilI],z9.2)) (fun z17=>some (.inr z17))) (we (Aa z9.1 2) (fun z18=>wp (Aa z9.1 0) z18 (fun z19=>wj (Aa z9.1 1) (fun z20=>some (.inl ([z19,z20,Aa z9.1 2],z9.2)))))))) (Ac (some (.tup [Aa z9.1 0,.nilI],z9.2)) (fun z21=>some (.inr z21))))) ([z8,.int .i64 0,x0],e)))))))))))):=by kernel_rfl

theorem run110 (B:KB) {E:Type} (h:Ay E) (dep:Nat) (e:E) (x0:PV):AM (AL B (fun _=>.cl)) fn110 (.cl) h dep [.cv x0] e=Af (A1 x0) (we x0 (fun z1=>wf x0 (fun z2=>Ac (Ad (.minmax true [.c z1,.c z2])) (fun z3=>some (.tup [z3,.nilI],e))))):=by kernel_rfl

theorem run111 (B:KB) {E:Type} (h:Ay E) (dep:Nat) (e:E) (x0:PV):AM (AL B (fun _=>.cl)) fn111 (.cl) h dep [.cv x0] e=Af (A1 x0) (we x0 (fun z1=>wf x0 (fun z2=>Ac (Ad (.minmax false [.c z1,.c z2])) (fun z3=>some (.tup [z3,.nilI],e))))):=by kernel_rfl

theorem run112 (B:KB) {E:Type} (h:Ay E) (dep:Nat) (e:E) (x0:PV) (x1:PV):AM (AL B (fun _=>.cl)) fn112 (.cl) h dep [.cv x0,.cv x1] e=Af (A1 x0) (Ac (AU x0 0 2 true) (fun z1=>wh x1 (fun z2=>wv B 113 [z1,z2] (fun z3=>wa z3 (fun z4=>wb z3 (fun z5=>some (.tup [z4,z5],e))))))):=by kernel_rfl

theorem Mj (B:KB) {E:Type} (h:Ay E) (dep:Nat) (e:E) (x0:PV) (x1:PV):AM (AL B (fun _=>.cl)) fn113 (.cl) h dep [.cv x0,.cv x1] e=Af (A1 x0) (ws x1 [226,137,160] (fun z1=>Ah z1 (we x0 (fun z2=>wf x0 (fun z3=>wt z2 z3 (fun z4=>wv B 77 [z4] (fun z5=>some (.tup [z5,.nilI],e)))))) (ws x1 [226,137,164] (fun z6=>Ah z6 (we x0 (fun z7=>wf x0 (fun z8=>wq z7 z8 (fun z9=>wv B 77 [z9] (fun z10=>we x0 (fun z11=>wf x0 (fun z12=>wo z11 z12 (fun z13=>wv B 77 [z13] (fun z14=>Ac (Ad (.bin .or .num false (.c z10) (.c z14))) (fun z15=>some (.tup [z15,.nilI],e))))))))))) (ws x1 [60] (fun z16=>Ah z16 (we x0 (fun z17=>wf x0 (fun z18=>wo z17 z18 (fun z19=>wv B 77 [z19] (fun z20=>Ac (Ad (.bin .or .num false (.c (.int .i64 0)) (.c z20))) (fun z21=>some (.tup [z21,.nilI],e))))))) (ws x1 [61] (fun z22=>Ah z22 (Ah z22 (we x0 (fun z23=>wf x0 (fun z24=>wq z23 z24 (fun z25=>wv B 77 [z25] (fun z26=>ws x1 [61] (fun z27=>Ah z27 (some (.tup [z26,.nilI],e)) (we x0 (fun z28=>wf x0 (fun z29=>wu z28 z29 (fun z30=>wv B 77 [z30] (fun z31=>Ac (Ad (.bin .or .num false (.c z26) (.c z31))) (fun z32=>some (.tup [z32,.nilI],e))))))))))))) (ws x1 [62] (fun z33=>Ah z33 (we x0 (fun z34=>wf x0 (fun z35=>wu z34 z35 (fun z36=>wv B 77 [z36] (fun z37=>Ac (Ad (.bin .or .num false (.c (.int .i64 0)) (.c z37))) (fun z38=>some (.tup [z38,.nilI],e))))))) (some (.tup [.int .i64 0,.nilI],e))))) (ws x1 [226,137,165] (fun z39=>Ah z39 (we x0 (fun z40=>wf x0 (fun z41=>wq z40 z41 (fun z42=>wv B 77 [z42] (fun z43=>ws x1 [61] (fun z44=>Ah z44 (some (.tup [z43,.nilI],e)) (we x0 (fun z45=>wf x0 (fun z46=>wu z45 z46 (fun z47=>wv B 77 [z47] (fun z48=>Ac (Ad (.bin .or .num false (.c z43) (.c z48))) (fun z49=>some (.tup [z49,.nilI],e))))))))))))) (ws x1 [62] (fun z50=>Ah z50 (we x0 (fun z51=>wf x0 (fun z52=>wu z51 z52 (fun z53=>wv B 77 [z53] (fun z54=>Ac (Ad (.bin .or .num false (.c (.int .i64 0)) (.c z54))) (fun z55=>some (.tup [z55,.nilI],e))))))) (some (.tup [.int .i64 0,.nilI],e)))))))))))))):=by kernel_rfl

theorem run114 (B:KB) {E:Type} (h:Ay E) (dep:Nat) (e:E) (x0:PV) (x1:PV):AM (AL B (fun _=>.cl)) fn114 (.cl) h dep [.cv x0,.cv x1] e=Af (A1 x0) (Ac (AU x0 0 2 true) (fun z1=>wh x1 (fun z2=>wv B 115 [z1,z2] (fun z3=>wa z3 (fun z4=>wb z3 (fun z5=>some (.tup [z4,z5],e))))))):=by kernel_rfl

theorem run115 (B:KB) {E:Type} (h:Ay E) (dep:Nat) (e:E) (x0:PV) (x1:PV):AM (AL B (fun _=>.cl)) fn115 (.cl) h dep [.cv x0,.cv x1] e=Af (A1 x0) (we x0 (fun z1=>wf x0 (fun z2=>Ac (Ad (.bin .and .num false (.c z1) (.c z2))) (fun z3=>ws x1 [226,136,168] (fun z4=>Ah z4 (we x0 (fun z5=>wf x0 (fun z6=>Ac (Ad (.bin .or .num false (.c z5) (.c z6))) (fun z7=>Ac (Ad (.build [.str []] [(0,(1,.c x1))])) (fun z8=>we x0 (fun z9=>Ac (Ad (.bin .shr .num true (.c z9) (.c (.int .u64 1)))) (fun z10=>wl z10 (fun z11=>wf x0 (fun z12=>Ac (Ad (.bin .shr .num true (.c z12) (.c (.int .u64 1)))) (fun z13=>wl z13 (fun z14=>Af (AT 1 [z11,z14]) (Ac (A8 B .cl false 81 [z7,.iface 124 z8,AD 1 1 [z11,z14] 0 (Ae [z11,z14])]) (fun z15=>wa z15 (fun z16=>wb z15 (fun z17=>some (.tup [z16,z17],e)))))))))))))))) (Ac (Ad (.build [.str []] [(0,(1,.c x1))])) (fun z18=>we x0 (fun z19=>Ac (Ad (.bin .shr .num true (.c z19) (.c (.int .u64 1)))) (fun z20=>wl z20 (fun z21=>wf x0 (fun z22=>Ac (Ad (.bin .shr .num true (.c z22) (.c (.int .u64 1)))) (fun z23=>wl z23 (fun z24=>Af (AT 1 [z21,z24]) (Ac (A8 B .cl false 81 [z3,.iface 124 z18,AD 1 1 [z21,z24] 0 (Ae [z21,z24])]) (fun z25=>wa z25 (fun z26=>wb z25 (fun z27=>some (.tup [z26,z27],e)))))))))))))))))):=by kernel_rfl

theorem run151 (B:KB) {E:Type} (h:Ay E) (dep:Nat) (e:E) (x0:PV) (x1:PV):AM (AL B (fun _=>.cl)) fn151 (.cl) h dep [.cv x0,.cv x1] e=Ac (Ad (.bin .and .num true (.c x0) (.c (.int .u64 4294967295)))) (fun z1=>Ac (Ad (.bin .shr .num true (.c x0) (.c (.int .u64 32)))) (fun z2=>Ac (Ad (.bin .and .num true (.c x1) (.c (.int .u64 4294967295)))) (fun z3=>Ac (Ad (.bin .shr .num true (.c x1) (.c (.int .u64 32)))) (fun z4=>Ac (Ad (.bin .mul .num false (.c z1) (.c z3))) (fun z5=>Ac (Ad (.bin .mul .num false (.c z2) (.c z3))) (fun z6=>Ac (Ad (.bin .shr .num true (.c z5) (.c (.int .u64 32)))) (fun z7=>wp z6 z7 (fun z8=>Ac (Ad (.bin .and .num true (.c z8) (.c (.int .u64 4294967295)))) (fun z9=>Ac (Ad (.bin .shr .num true (.c z8) (.c (.int .u64 32)))) (fun z10=>Ac (Ad (.bin .mul .num false (.c z1) (.c z4))) (fun z11=>wp z9 z11 (fun z12=>Ac (Ad (.bin .mul .num false (.c z2) (.c z4))) (fun z13=>wp z13 z10 (fun z14=>Ac (Ad (.bin .shr .num true (.c z12) (.c (.int .u64 32)))) (fun z15=>wp z14 z15 (fun z16=>Ac (Ad (.bin .mul .num false (.c x0) (.c x1))) (fun z17=>some (.tup [z16,z17],e)))))))))))))))))):=by kernel_rfl

theorem run152 (B:KB) {E:Type} (h:Ay E) (dep:Nat) (e:E) (x0:PV):AM (AL B (fun _=>.cl)) fn152 (.cl) h dep [.cv x0] e=wm x0 (fun z1=>Ah z1 (Ac (Ad (.conv .u64 (.c x0))) (fun z2=>Ac (Ad (.un .neg (.c z2))) (fun z3=>some (z3,e)))) (Ac (Ad (.conv .u64 (.c x0))) (fun z4=>some (z4,e)))):=by kernel_rfl

end Go.Ab


set_option maxRecDepth 100000
namespace Go.Ab
open Go
theorem run25 (B:KB) {E:Type} (h:Ay E) (dep:Nat) (e:E) (x0:PV) (x1:PV) (x2:PV):AM (AL B (fun _=>.cl)) fn25 (.cl) h dep [.cv x0,.cv x1,.cv x2] e=Af (A1 x1) (Af (A1 x2) (wv B 39 [] (fun z1=>Ac (Ad (.lookup .str (.agg [.nilF,.nilF]) false (.c z1) (.c x0))) (fun z2=>Af (AA z2 2) (wd x1 (fun z3=>wd x2 (fun z4=>Af (AT 3 [z3,z4]) (Ac (A8 B .cl true 40 [AD 3 3 [z3,z4] 0 (Ae [z3,z4])]) (fun z5=>wi z5 (fun z6=>Ah z6 (some (.tup [.agg [.bool false,.bool false,.nilS],.int .i64 114],e)) (Ac (Ad (.bin .eql .func true (.c (Ai z2 1)) (.c .nilF))) (fun z7=>Ah z7 (some (.tup [.agg [.bool false,.bool false,.nilS],.int .i64 102],e)) (wd x2 (fun z8=>wd x1 (fun z9=>Ac (Ad (.build [.bool false,.bool false,.nilS,.bool false,.bool false,.nilS] [(0,(3,.c z8)),(3,(3,.c z9))])) (fun z10=>Ac (Ax B .cl (Ai z2 1) [z10]) (fun z11=>wa z11 (fun z12=>wb z11 (fun z13=>Af (AA z12 3) (wv B 41 [z13] (fun z14=>some (.tup [.agg [Ai z12 0,Ai z12 1,Ai z12 2],z14],e)))))))))))))))))))))):=by kernel_rfl

theorem run40 (B:KB) {E:Type} (h:Ay E) (dep:Nat) (e:E) (x0:PV) :
  AM (AL B (fun _=>.cl)) fn40 (.cl) h dep [.cv x0] e =
  Ac (Ax B .cl (.fn 101 []) [x0,.fn 102 []]) (fun z1=>Ac (Ad (.un .not (.c z1))) (fun z2=>some (z2,e))):=by kernel_rfl
theorem run41 (B:KB) {E:Type} (h:Ay E) (dep:Nat) (e:E) (x0:PV) :
  AM (AL B (fun _=>.cl)) fn41 (.cl) h dep [.cv x0] e =
  Af (Ge 1 1) (asP 136 x0 (fun z1=>Af (AA z1 1) (Ac (AU z1 0 1 false) (fun z2=>some (z2,e)))) (some (.int .i64 0,e))):=by kernel_rfl
theorem run92 (B:KB) {E:Type} (h:Ay E) (dep:Nat) (e:E) (x0:PV):AM (AL B (fun _=>.cl)) fn92 (.cl) h dep [.cv x0] e=Af (A1 x0) (Ac (Ac (AU x0 5 1 false) (fun z1=>wc z1 (fun z2=>Ac (Ad (.bin .gtr .num true (.c z2) (.c (.int .i64 0)))) (fun z3=>Ah z3 (wg x0 (fun z4=>wc z4 (fun z5=>Ac (Ad (.bin .gtr .num true (.c z5) (.c (.int .i64 0)))) (fun z6=>Ah z6 (Ac (AU x0 4 1 false) (fun z7=>wf x0 (fun z8=>Ac (Ad (.bin .neq .bool false (.c z7) (.c z8))) (fun z9=>some z9)))) (some (.bool false)))))) (some (.bool false)))))) (fun z10=>Ah z10 (Ac (Ad (.build [.int .i64 0] [(0,(1,.c (.int .i64 102)))])) (fun z11=>some (.tup [.agg [.bool false,.bool false,.nilS],.iface 136 z11],e))) (Ac (AU x0 5 1 false) (fun z12=>wc z12 (fun z13=>wg x0 (fun z14=>wc z14 (fun z15=>wp z13 z15 (fun z16=>Ac (Ad (.bin .gtr .num true (.c z16) (.c (.int .i64 200)))) (fun z17=>Ah z17 (Ac (Ad (.build [.int .i64 0] [(0,(1,.c (.int .i64 113)))])) (fun z18=>some (.tup [.agg [.bool false,.bool false,.nilS],.iface 136 z18],e))) (Ac (AU x0 3 3 true) (fun z19=>wv B 144 [z19] (fun z20=>Ah z20 (Ac (AU x0 5 1 false) (fun z21=>wg x0 (fun z22=>Af (AT 1 [z21,z22]) (Ac (A8 B (.own 1) true 145 [AD 1 1 [z21,z22] 0 (Ae [z21,z22])]) (fun z23=>Af (Bh (.tup [.agg [.bool true,.bool true,AD 1 1 (Ap z23) 0 (Ae (Ap z23))],.nilI])) (some (.tup [.agg [.bool true,.bool true,AD 1 1 (Ap z23) 0 (Ae (Ap z23))],.nilI],e))))))) (wd x0 (fun z24=>wv B 144 [z24] (fun z25=>Ah z25 (Ac (AU x0 5 1 false) (fun z26=>wg x0 (fun z27=>Af (AT 1 [z26,z27]) (Ac (A8 B (.own 1) true 145 [AD 1 1 [z26,z27] 0 (Ae [z26,z27])]) (fun z28=>Af (Bh (.tup [.agg [.bool true,.bool true,AD 1 1 (Ap z28) 0 (Ae (Ap z28))],.nilI])) (some (.tup [.agg [.bool true,.bool true,AD 1 1 (Ap z28) 0 (Ae (Ap z28))],.nilI],e))))))) (Ac (AU x0 4 1 false) (fun z29=>Ah z29 (wf x0 (fun z30=>Ac (AU x0 5 1 false) (fun z31=>wg x0 (fun z32=>Af (AT 1 [z31,z32]) (Ac (A8 B (.own 1) true 145 [AD 1 1 [z31,z32] 0 (Ae [z31,z32])]) (fun z33=>Af (AA z30 1) (Af (Bh (.tup [.agg [.bool true,Ai z30 0,AD 1 1 (Ap z33) 0 (Ae (Ap z33))],.nilI])) (some (.tup [.agg [.bool true,Ai z30 0,AD 1 1 (Ap z33) 0 (Ae (Ap z33))],.nilI],e))))))))) (Ac (AU x0 5 1 false) (fun z34=>wg x0 (fun z35=>Af (AT 1 [z34,z35]) (Ac (A8 B (.own 1) true 145 [AD 1 1 [z34,z35] 0 (Ae [z34,z35])]) (fun z36=>Af (Bh (.tup [.agg [.bool true,.bool false,AD 1 1 (Ap z36) 0 (Ae (Ap z36))],.nilI])) (some (.tup [.agg [.bool true,.bool false,AD 1 1 (Ap z36) 0 (Ae (Ap z36))],.nilI],e)))))))))))))))))))))))):=by kernel_rfl

theorem run101 (B:KB) {E:Type} (h:Ay E) (dep:Nat) (e:E) (x0:PV) (x1:PV) :
  AM (AL B (fun _=>.cl)) fn101 (.cl) h dep [.cv x0,.cv x1] e =
  Ac (Ax B .cl (.fn 149 []) [x0,x1]) (fun z1=>Ac (Ad (.bin .geq .num true (.c z1) (.c (.int .i64 0)))) (fun z2=>some (z2,e))):=by kernel_rfl
theorem run102 (B:KB) {E:Type} (h:Ay E) (dep:Nat) (e:E) (x0:PV):AM (AL B (fun _=>.cl)) fn102 (.cl) h dep [.cv x0] e=Af (A1 x0) (wd x0 (fun z1=>wv B 32 [z1] (fun z2=>wi z2 (fun z3=>some (z3,e))))):=by kernel_rfl

theorem run144 (B:KB) {E:Type} (h:Ay E) (dep:Nat) (e:E) (x0:PV):AM (AL B (fun _=>.cl)) fn144 (.cl) h dep [.cv x0] e=Af (A1 x0) (Ac (wf x0 (fun z1=>Ah z1 (wg x0 (fun z2=>wc z2 (fun z3=>Ac (Ad (.bin .gtr .num true (.c z3) (.c (.int .i64 0)))) (fun z4=>some z4)))) (some (.bool false)))) (fun z5=>some (z5,e))):=by kernel_rfl

theorem run145 (B:KB) {E:Type} (h:Ay E) (dep:Nat) (e:E) (x0:PV):AM (AL B (fun _=>.cl)) fn145 (.own 1) h dep [.cv x0] e=wc x0 (fun z1=>Af (AZ [x0,.int .i64 0,x0,z1,.int .i64 0]) (Bg (fun z2=>wo (Aa z2.1 4) (Aa z2.1 3) (fun z3=>Ah z3 (wr (Aa z2.1 2) (Aa z2.1 4) (fun z4=>wh z4 (fun z5=>wc z5 (fun z6=>wp (Aa z2.1 1) z6 (fun z7=>wm z7 (fun z8=>Ah z8 none (wj (Aa z2.1 4) (fun z9=>some (.inl ([Aa z2.1 0,z7,Aa z2.1 2,Aa z2.1 3,z9],z2.2)))))))))) (Ac (Ac (Ax B (.own 1) (.fn 172 []) [.nilS,Aa z2.1 1]) (fun z10=>wc (Aa z2.1 0) (fun z11=>Af (AZ [nI (Ae (Ap z10)),Aa z2.1 0,z11,.int .i64 0]) (Bg (fun z12=>wo (Aa z12.1 3) (Aa z12.1 2) (fun z13=>Ah z13 (wr (Aa z12.1 1) (Aa z12.1 3) (fun z14=>wh z14 (fun z15=>Ac (IR 1 z15) (fun z16=>Af (Bi (Az (Al (Aa z12.1 0)) (Ae (Ap (Aa z12.1 4)))) (Az (Av (Al (Aa z12.1 0)) (Ae z16)) 2147483648)) (wj (Aa z12.1 3) (fun z17=>some (.inl ([nI (Av (Al (Aa z12.1 0)) (Ae z16)),Aa z12.1 1,Aa z12.1 2,z17,.sl 1 (A9 (As (Al (Aa z12.1 0)) (Ap (Aa z12.1 4))) z16) false],z12.2)))))))) (Ac (Af (Ge (Al (Aa z12.1 0)) (Ae (Ap (Aa z12.1 4)))) (some (.sl 1 (Ap (Aa z12.1 4)) false,z12.2))) (fun z18=>some (.inr z18))))) ([nI (Ae (Ap z10)),Aa z2.1 0,z11,.int .i64 0,.sl 1 (Ap z10) false],z2.2))))) (fun z19=>some (.inr z19))))) ([x0,.int .i64 0,x0,z1,.int .i64 0],e))):=by kernel_rfl

theorem run149 (B:KB) {E:Type} (h:Ay E) (dep:Nat) (e:E) (x0:PV) (x1:PV):AM (AL B (fun _=>.cl)) fn149 (.cl) h dep [.cv x0,.cv x1] e=wc x0 (fun z1=>Af (AZ [x0,x1,z1,.int .i64 0]) (Bg (fun z2=>wo (Aa z2.1 3) (Aa z2.1 2) (fun z3=>Ah z3 (Ac (Ad (.idxAddr 3 (.c (Aa z2.1 0)) (.c (Aa z2.1 3)))) (fun z4=>Ac (Ad (.load 3 true (.c z4))) (fun z5=>Ac (Ax B .cl (Aa z2.1 1) [z5]) (fun z6=>Ah z6 (Ac (some (Aa z2.1 3,z2.2)) (fun z7=>some (.inr z7))) (wj (Aa z2.1 3) (fun z8=>some (.inl ([Aa z2.1 0,Aa z2.1 1,Aa z2.1 2,z8],z2.2)))))))) (Ac (some (.int .i64 (-1),z2.2)) (fun z9=>some (.inr z9))))) ([x0,x1,z1,.int .i64 0],e))):=by kernel_rfl

end Go.Ab


namespace Go.Ab.Derive2
open Go Go.Ab
def ps0:List (Nat×Nat):=[(146,145),(129,127),(137,136),(172,124)]
def BY (g:FuncId) (σ:Nm->Option Ob) (vs:List PV):Option AO :=
 if g=83 then Il ps0 σ vs
 else if g=139 then spIsG [0,1] 258 [124] vs
 else if g=172 then PX vs
 else if g=133 then S3 vs
 else if g=134 then spFmt vs
 else if g=132 then NK 111 σ vs
 else if g=72 then Oq 111 5 σ vs
 else if g=185 then KW .u32 σ vs
 else if g=201 then KL .u32 σ vs
 else if g=199 then JH .i32 0 1 σ vs
 else if g=200 then JH .i32 1 0 σ vs
 else none
noncomputable def B0:KB:={sp:=BY,L:=WW BY By,I:=Qq BY By,isIo:=Fi By,leans:=GL By}
end Go.Ab.Derive2


set_option maxRecDepth 10000
namespace Go.Ab.Derive2
open Go Go.Ab
def Kd (g:FuncId):Prop:=g≠83/\g≠139/\g≠172/\g≠133/\g≠134/\g≠132/\g≠72/\g≠185/\g≠201/\g≠199/\g≠200
instance (g:FuncId):Decidable (Kd g):=by unfold Kd;infer_instance
theorem NJ {g:FuncId} (h:Kd g) (σ:Nm->Option Ob) (vs:List PV):BY g σ vs=none:=by
 unfold BY;rw[if_neg h.1,if_neg h.2.1,if_neg h.2.2.1,if_neg h.2.2.2.1,if_neg h.2.2.2.2.1,if_neg h.2.2.2.2.2.1,if_neg h.2.2.2.2.2.2.1,if_neg h.2.2.2.2.2.2.2.1,if_neg h.2.2.2.2.2.2.2.2.1,if_neg h.2.2.2.2.2.2.2.2.2.1,if_neg h.2.2.2.2.2.2.2.2.2.2]
set_option maxHeartbeats 2000000 in
theorem WL (g:FuncId):JY (BY g):=by
 intro σ σ' vs h;unfold BY;split;·exact as_here ps0 σ σ' vs h
 split;·rfl
 split;·rfl
 split;·rfl
 split;·rfl
 split;·exact ZS 111 σ σ' vs h
 split;·exact str_here 111 5 σ σ' vs h
 split;·exact load_here .u32 σ σ' vs h
 split;·exact YQ .u32 σ σ' vs h
 split;·exact UZ .i32 0 1 σ σ' vs h
 split;·exact UZ .i32 1 0 σ σ' vs h
 rfl
theorem SV:∀ g,(iof0 g).isSome=Fi By g:=by
 intro g;unfold iof0 Fi;split;·rfl
 ·rfl
 ·rfl
 ·rfl
 ·rfl
 ·rfl
 ·rfl
 ·rfl
 ·rfl
 ·rfl
 ·rfl
 ·rfl
 ·rfl
 ·rfl
 ·rfl
 ·rfl
 ·rfl
 ·rename_i h0 h1 h2 h3 h4 h5 h6 h7 h8 h9 h10 h11 h12 h13 h14 h15 h16;split
  ·rename_i fn ht;unfold By at ht;split at ht
   all_goals first | (exact (h0 rfl).elim) | (exact (h1 rfl).elim) | (exact (h2 rfl).elim) | (exact (h3 rfl).elim) | (exact (h4 rfl).elim) | (exact (h5 rfl).elim) | (exact (h6 rfl).elim) | (exact (h7 rfl).elim) | (exact (h8 rfl).elim) | (exact (h9 rfl).elim) | (exact (h10 rfl).elim) | (exact (h11 rfl).elim) | (exact (h12 rfl).elim) | (exact (h13 rfl).elim) | (exact (h14 rfl).elim) | (exact (h15 rfl).elim) | (exact (h16 rfl).elim) | (cases ht;done) | (cases ht;rfl)
  ·rfl
theorem HO (d:Nat->Bq):Eb (AL B0 d) By where
 L:=rfl
 I:=rfl
 isIo:=rfl
 leans:=rfl
 flat g h:=by simp only[AL,cd,beq_iff_eq] at h;rcases h with rfl | rfl<;>kernel_rfl
 ioF g:=SV g
 ioP g P h:=by
  simp only[AL,iof0] at h;split at h;·cases h;exact⟨fn30,rfl,by decide,fun xs os=>by show (Qj xs os).args.length<=_/\(Qj xs os).ins.length<=_;unfold Qj;split<;>exact⟨ae rfl,ae rfl⟩⟩
  ·cases h;exact⟨fn31,rfl,by decide,fun xs os=>⟨ae rfl,ae rfl⟩⟩
  ·cases h;exact⟨fn59,rfl,by decide,fun xs os=>⟨ae rfl,ae rfl⟩⟩
  ·cases h;exact⟨fn60,rfl,by decide,fun xs os=>⟨ae rfl,ae rfl⟩⟩
  ·cases h;exact⟨fn61,rfl,by decide,fun xs os=>by show (Qi xs os).args.length<=_/\(Qi xs os).ins.length<=_;unfold Qi;split<;>exact⟨ae rfl,ae rfl⟩⟩
  ·cases h;exact⟨fn63,rfl,by decide,fun xs os=>⟨ae rfl,ae rfl⟩⟩
  ·cases h;exact⟨fn65,rfl,by decide,fun xs os=>⟨ae rfl,ae rfl⟩⟩
  ·cases h;exact⟨fn69,rfl,by decide,fun xs os=>⟨ae rfl,ae rfl⟩⟩
  ·cases h;exact⟨fn123,rfl,by decide,fun xs os=>⟨ae rfl,ae rfl⟩⟩
  ·cases h;exact⟨Qz,rfl,by decide,fun xs os=>⟨ae rfl,ae rfl⟩⟩
  ·cases h;exact⟨fn157,rfl,by decide,fun xs os=>⟨ae rfl,ae rfl⟩⟩
  ·cases h;exact⟨fn158,rfl,by decide,fun xs os=>⟨ae rfl,ae rfl⟩⟩
  ·cases h;exact⟨fn174,rfl,by decide,fun xs os=>⟨ae rfl,ae rfl⟩⟩
  ·cases h;exact⟨fn175,rfl,by decide,fun xs os=>⟨ae rfl,ae rfl⟩⟩
  ·cases h;exact⟨fn186,rfl,by decide,fun xs os=>⟨ae rfl,ae rfl⟩⟩
  ·cases h;exact⟨fn187,rfl,by decide,fun xs os=>⟨ae rfl,ae rfl⟩⟩
  ·cases h;exact⟨fn188,rfl,by decide,fun xs os=>⟨ae rfl,ae rfl⟩⟩
  ·cases h
 spF g h σ vs:=by
  simp only[AL,bD,beq_eq_false_iff_ne] at h;obtain⟨⟨⟨⟨⟨⟨⟨⟨⟨⟨h0,h1⟩,h2⟩,h3⟩,h4⟩,h5⟩,h6⟩,h7⟩,h8⟩,h9⟩,h10⟩:=h;exact NJ ⟨h0,h1,h10,h2,h3,h4,h5,h6,h7,h8,h9⟩ σ vs
 loc g σ vs hv:=cfg_loc WL g σ vs hv
 spK g s h σ xs out hx hσ hs:=by
  simp only[AL] at h;split at h;·rename_i hg;subst hg;cases h;exact kLoad_ok hs
  split at h;·rename_i hg;subst hg;cases h;exact kStore_ok hσ hs
  split at h;·rename_i hg;subst hg;cases h;exact Wh hσ hs
  split at h;·rename_i hg;subst hg;cases h;exact Wh hσ hs
  cases h
 asOk g p t n h σ nm ty cs h1 h2:=by
  have e:∀ σ vs,BY 83 σ vs=Il ps0 σ vs:=fun _ _=>rfl;simp only[AL] at h;split at h
  ·rename_i hc;obtain⟨rfl,rfl⟩:=hc;cases h;exact Qg (ps:=ps0) (p:=146) (t:=145) rfl h1 h2
  split at h
  ·rename_i hc;obtain⟨rfl,rfl⟩:=hc;cases h;exact Qg (ps:=ps0) (p:=129) (t:=127) rfl h1 h2
  split at h
  ·rename_i hc;obtain⟨rfl,rfl⟩:=hc;cases h;exact Qg (ps:=ps0) (p:=137) (t:=136) rfl h1 h2
  split at h
  ·rename_i hc;obtain⟨rfl,rfl⟩:=hc;cases h;exact Qg (ps:=ps0) (p:=172) (t:=124) rfl h1 h2
  cases h
theorem call {d:Nat->Bq} {g:FuncId} {fn:Au} {sh:Bq} {args:List PV} {u:PV} (ht:By g=some fn) (hg:Kd g) (ha:At args=true) (hl:Nat.ble args.length fn.nt=true)
  (hr:AM (AL B0 d) fn sh AP 0 (args.map KV.cv) ()=some (u,())) (hio:fn.io=false:=by rfl) (hb:Nat.blt g Df=true:=by rfl):Ax B0 sh (.fn g []) args=some u:=by
 refine Ud (HO d) ht (cap:=[]) (by simpa using ha) (by simpa using ae hl) (NJ hg (fun _=>none) _) ?_ hio hb;simpa using hr
theorem callK {d:Nat->Bq} {g:FuncId} {fn:Au} {sh:Bq} {args:List PV} {xs:List KV} {u:PV} (ht:By g=some fn) (hg:Kd g) (hx:A6 xs) (hun:∀ x∈xs,E9 x=false) (hpv:AN xs=args) (hl:Nat.ble xs.length fn.nt=true)
  (hr:AM (AL B0 d) fn sh AP 0 xs ()=some (u,())) (hio:fn.io=false:=by rfl) (hb:Nat.blt g Df=true:=by rfl):Ax B0 sh (.fn g []) args=some u :=
 X4 (HO d) ht hx hun hpv (ae hl) (NJ hg (fun _=>none) _) hr hio hb
theorem Pp {g:FuncId} {n:Nat} {args:List PV} {u:PV} (hg:Kd g) (h:B1 BY By n Unit AP 0 g args ()=some (u,[],())) (hu:okV u=true) (hio:Fi By g=false) (hb:Nat.blt g Df=true:=by rfl):Ax B0 .cl (.fn g []) args=some u:=by
 have hid:AY g=g:=by simp[AY,hb]
 have hfa:Bt g args []=args:=by simp[Bt,hb]
 obtain⟨e2,_,h2⟩:=RP n Unit Unit (fun _ _=>True) AP (fun _=>AP) (fun _ _ _ _ _ _ _ h=>by cases h) 0 g args () () trivial _ _ _ h;have hL:B0.L Unit AP 0 g args ()=some (u,[],()):=JM h2;have hI:B0.isIo g=false:=hio;have hs:B0.sp g (fun _=>none) args=none:=NJ hg _ _;unfold Ax;simp[hid,hfa,spO,hs,hI,hL,El,CL,hu,Af]
end Go.Ab.Derive2


namespace Go.Ab.Derive2
open Go Go.Ab
theorem DN {n:Int} (h1 : -9223372036854775808<=n) (h2:n<=9223372036854775807):IntKind.i64.wrap n=n:=IntWalk.i64_in _ ⟨h1,h2⟩
def I (n:Int):PV:=.int .i64 n
def Am (l:List Int):List PV:=l.map I
theorem BC (l:List Int):(Am l).length=l.length:=by simp[Am]
theorem Wn {l:List Int} {i:Nat} (h:i < l.length):(Am l)[i]?=some (I l[i]):=by simp[Am,h]
theorem Pc (l:List Int) (k:Nat):(Am l).take k=Am (l.take k):=by simp[Am,List.map_take]
theorem Vw (l:List Int) (k:Nat):(Am l).drop k=Am (l.drop k):=by simp[Am,List.map_drop]
theorem ints_app (l m:List Int):Am l++Am m=Am (l++m):=by simp[Am]
theorem EX (l:List Int):At (Am l)=true:=by
 induction l with
 | nil=>rfl
 | cons a l ih=>simpa[Am,At,okV,I] using ih
inductive Bd:PV->List Int->Prop
 | nil:Bd .nilS []
 | sl (l:List Int) (f:Bool):Bd (.sl 1 (Am l) f) l
theorem Bd.ok {v:PV} {l:List Int} (h:Bd v l):okV v=true:=by
 cases h with
 | nil=>rfl
 | sl f=>simp[okV,EX]
theorem Bd.cells {v:PV} {l:List Int} (h:Bd v l):v.cells=[v]:=by cases h<;>rfl
theorem Bd.val {v:PV} {l:List Int} (h:Bd v l):v.isVal=true:=by cases h<;>rfl
theorem Bd.cell {v:PV} {l:List Int} (h:Bd v l):v.isCell=true:=by cases h<;>rfl
theorem Bd.und {v:PV} {l:List Int} (h:Bd v l):Hc v=false:=by cases h<;>rfl
theorem Bd.len {v:PV} {l:List Int} (h:Bd v l):Ad (.len .slice (.c v))=some (I l.length):=by
 cases h with
 | nil=>rfl
 | sl f=>rw[HA,BC];rfl
theorem Bd.idx {v:PV} {l:List Int} (h:Bd v l) {i:Nat} (hi:i < l.length):Ad (.idxAddr 1 (.c v) (.c (I i)))=some (.ptr [I l[i]] 0):=by
 cases h with
 | nil=>simp at hi
 | sl f=>exact LI (by omega) (Wn hi)
theorem Bd.elems {v:PV} {l:List Int} (h:Bd v l):IR 1 v=some (Am l):=by
 cases h with
 | nil=>rfl
 | sl f=>simp[IR,Go.Ab.elems,AI]
theorem Bd.hi {v:PV} {l:List Int} (h:Bd v l) {k:Nat} (hk:k<=l.length):∃ u,Ad (.slice 1 (.c v) none (some (.c (I k))) none)=some u/\Bd u (l.take k):=by
 cases h with
 | nil =>
  have:k=0:=by simpa using hk
  subst this;exact⟨.nilS,by simp[Ad,exec,RX.ev,Cp,CM,Dx,AI,I,FW],.nil⟩
 | sl _ f =>
  have hk':k<=(Am l).length:=by rw[BC];exact hk
  refine⟨.sl 1 (Am (l.take k)) (f&&k==(Am l).length),?_,.sl _ _⟩;simp[Ad,exec,RX.ev,Cp,CM,Dx,AI,I,hk',Pc,FW]
@[simp] theorem CG (n:Int):Ad (.load 1 false (.c (.ptr [I n] 0)))=some (I n):=rfl
@[simp] theorem AS {c:TC} {b:Bool} (a n:Int):Ad (.bin .lss c b (.c (I a)) (.c (I n)))=some (.bool (decide (a < n))):=pure_lss a n
@[simp] theorem CN {c:TC} {b:Bool} (a n:Int):Ad (.bin .eql c b (.c (I a)) (.c (I n)))=some (.bool (a==n)):=V2 a n
@[simp] theorem Ce {c:TC} {b:Bool} (a n:Int):Ad (.bin .neq c b (.c (I a)) (.c (I n)))=some (.bool (a != n)):=pure_neq a n
@[simp] theorem BT {c:TC} {b:Bool} (a n:Int):Ad (.bin .add c b (.c (I a)) (.c (I n)))=some (I (IntKind.i64.wrap (a+n))):=Nz a n
@[simp] theorem I6 {c:TC} {b:Bool} (a n:Int):Ad (.bin .sub c b (.c (I a)) (.c (I n)))=some (I (IntKind.i64.wrap (a - n))):=pure_sub a n
@[simp] theorem EF {c:TC} {b:Bool} (a n:Int):Ad (.bin .geq c b (.c (I a)) (.c (I n)))=some (.bool (decide (n<=a))):=pure_geq a n
@[simp] theorem Fp {c:TC} {b:Bool} (a n:Int):Ad (.bin .leq c b (.c (I a)) (.c (I n)))=some (.bool (decide (a<=n))):=V1 a n
@[simp] theorem Cz {c:TC} {b:Bool} (a n:Int):Ad (.bin .gtr c b (.c (I a)) (.c (I n)))=some (.bool (decide (n < a))):=pure_gtr a n
theorem A3 (n:Int):PV.int .i64 n=I n:=rfl
@[simp] theorem okV_I (n:Int):okV (I n)=true:=rfl
@[simp] theorem cells_I (n:Int):(I n).cells=[I n]:=rfl
@[simp] theorem isUndef_I (n:Int):Hc (I n)=false:=rfl
@[simp] theorem isVal_I (n:Int):(I n).isVal=true:=rfl
@[simp] theorem isCell_I (n:Int):(I n).isCell=true:=rfl
@[simp] theorem CF (n:Int):Al (I n)=n.toNat:=rfl
theorem Ct {i:Nat} (h:i < 9223372036854775807):IntKind.i64.wrap ((i:Int)+1)=((i+1:Nat):Int):=by rw[DN (by omega) (by omega)];omega
structure Arr where
 li:Bool
 ru:Bool
 n:List Int
inductive AK:PV->Arr->Prop
 | mk (li ru:Bool) (x:PV) (l:List Int) (h:Bd x l):AK (.agg [.bool li,.bool ru,x]) ⟨li,ru,l⟩
theorem AK.ok {v:PV} {a:Arr} (h:AK v a):okV v=true:=by
 obtain⟨li,ru,x,l,h⟩:=h;simp[okV,At,h.ok]
theorem AK.get {v:PV} {a:Arr} (h:AK v a):∃ x,v=.agg [.bool a.li,.bool a.ru,x]/\Bd x a.n:=by
 obtain⟨li,ru,x,l,h⟩:=h;exact⟨x,rfl,h⟩
def Bw:Arr:=⟨false,false,[]⟩
theorem BB:AK (.agg [.bool false,.bool false,.nilS]) Bw:=.mk _ _ _ _ .nil
@[simp] theorem C0 (cs:List PV):A1 (.agg cs)=(PV.agg cs).isVal:=rfl
theorem BX {a b c:PV} (ha:a.isCell=true) (hb:b.isCell=true) (hc:c.isCell=true):(PV.agg [a,b,c]).isVal=true:=by simp[PV.isVal,ha,hb,hc]
theorem HJ (a b c:PV):BG [a,b,c] 0 1 false=some a:=rfl
theorem GO (a b c:PV):BG [a,b,c] 1 1 false=some b:=rfl
theorem Hf (a b c:PV):BG [a,b,c] 2 1 false=some c:=rfl
theorem KX (a b c:PV):BG [a,b,c] 0 3 true=some (.agg [a,b,c]):=rfl
theorem Om {z a b c:PV} (ha:a.cells=[a]) (hb:b.cells=[b]) (hc:c.cells=[c]) (va:a.isVal=true) (vb:b.isVal=true) (vc:c.isVal=true) (x y:PV) :
  Ad (.build [x,y,z] [(0,(1,.c a)),(1,(1,.c b)),(2,(1,.c c))])=some (.agg [a,b,c]):=by
 simp[Ad,exec,EA,RX.ev,ha,hb,hc,va,vb,vc,splice,AI]
theorem Jr {a b c:PV} (h:(PV.agg [a,b,c]).isVal=true):AA (.agg [a,b,c]) 3=true:=by simp[AA,h]
@[simp] theorem Jz (a b c:PV):Ai (.agg [a,b,c]) 0=a:=rfl
@[simp] theorem Jy (a b c:PV):Ai (.agg [a,b,c]) 1=b:=rfl
@[simp] theorem IC (a b c:PV):Ai (.agg [a,b,c]) 2=c:=rfl
theorem WV {n:Nat} (k:Nat) (c:Int) (hc:c=k):Ad (.minmax false [.c (I n),.c (.int .i64 c)])=some (I (min n k:Nat)):=by
 subst hc;simp only[Ad,exec,ZZ,Z1,RX.ev,Hl,I];by_cases h:n<=k
 ·have:¬ (k:Int) < (n:Int):=by omega
  simp[this,aT h,AI]
 ·have:(k:Int) < (n:Int):=by omega
  simp[this,cS (by omega:k<=n),AI]
def Arr.few (a:Arr):Arr:=⟨a.li,a.ru,a.n.take 202⟩
theorem W4 {v:PV} {a:Arr} (h:AK v a):∃ u,Ax B0 .cl (.fn 5 []) [v]=some u/\AK u a.few:=by
 obtain⟨x,rfl,hx⟩:=h.get;obtain⟨y,hy,hl⟩:=hx.hi (k:=min a.n.length 202) (by omega)
 have e:a.n.take (min a.n.length 202)=a.n.take 202:=by
  rcases Nat.le_total a.n.length 202 with h | h;·rw[aT h,bA,av h]
  ·rw[cS h]
 rw[e] at hl;refine⟨.agg [.bool a.li,.bool a.ru,y],?_,.mk _ _ _ _ hl⟩;refine call (d:=fun _=>.cl) rfl (by decide) (by simp[At,h.ok]) rfl ?_;rw[ZZ,Z1,run5];unfold wc we wf wg;rw[C0,BX rfl rfl hx.cell,AJ];simp only[BU,BM,HJ,GO,Hf,Ao,hx.len];rw[WV 202 202 rfl];simp only[Ao,hy];rw[Om (a:=.bool a.li) (b:=.bool a.ru) (c:=y) rfl rfl hl.cells rfl rfl hl.val];simp only[Ao,Jr (BX (a:=.bool a.li) (b:=.bool a.ru) rfl rfl hl.cell),AJ,Jz,Jy,IC]
theorem short_run (s:List UInt8):Ax B0 .cl (.fn 7 []) [.str s]=some (.str (s.take 20)):=by
 refine call (d:=fun _=>.cl) rfl (by decide) rfl rfl ?_;rw[ZZ,Z1,run7];simp only[pure_lens,Ao];rw[A3,WV 20 20 rfl];simp only[Ao,I];rw[pure_ssl2 (by omega)];simp only[Ao];congr 3;rcases Nat.le_total s.length 20 with h | h;·rw[aT h,bA,av h]
 ·rw[cS h]
def EG (n:Int):Bool:=decide (0<=n)&&(decide (n<=1114111)&&(decide (n < 55296)||decide (57343 < n)))
theorem rune_run (n:Int):Ax B0 .cl (.fn 67 []) [I n]=some (.bool (EG n)):=by
 refine call (d:=fun _=>.cl) rfl (by decide) rfl rfl ?_;rw[ZZ,Z1,run67];simp only[A3,EF,Fp,AS,Cz,Ao,An];unfold EG;by_cases h1:0<=n<;>by_cases h2:n<=1114111<;>by_cases h3:n < 55296<;>simp[h1,h2,h3]
theorem other_run (n:Int):Ax B0 .cl (.fn 66 []) [I n]=some (.bool (!EG n)):=by
 refine call (d:=fun _=>.cl) rfl (by decide) rfl rfl ?_;rw[ZZ,Z1,run66];unfold wi wv;rw[rune_run];simp
def CD (p:Int->Bool) (i:Nat):List Int->Int
 | [] => -1
 | x :: l=>if p x then (i:Int) else CD p (i+1) l
theorem idxP_any (p:Int->Bool):∀ (l:List Int) (i:Nat),decide (0<=CD p i l)=l.any p:=by
 intro l;induction l with
 | nil=>intro i;rfl
 | cons x l ih =>
  intro i;simp only[CD,List.any_cons];by_cases hx:p x=true
  ·simp[hx]
  ·have:=ih (i+1);simp only[hx,Z0,if_false,this];simp[hx]
theorem FV {α:Type} {l:List α} {i:Nat} (h:i < l.length):l.drop i=l[i] :: l.drop (i+1):=by rw[ch h]
theorem index_run {v f:PV} {l:List Int} {p:Int->Bool} (hv:Bd v l) (hl:l.length<=1000000) (hf:okV f=true) (hu:Hc f=false) (hp:∀ n∈l,Ax B0 .cl f [I n]=some (.bool (p n))) :
  Ax B0 .cl (.fn 131 []) [v,f]=some (I (CD p 0 l)):=by
 refine call (d:=fun _=>.cl) rfl (by decide) (by simp[At,hv.ok,hf]) rfl ?_;rw[ZZ,ZZ,Z1,run131];unfold wc wh wj wo wr;rw[hv.len];simp only[Ao];have h0:AZ [v,f,I l.length,.int .i64 0]=true:=by simp[AZ,hv.und,hu,A3]
 rw[h0,AJ]
 have key:∀ m i,i+m=l.length->Bg (fun z2=>Ac (Ad (.bin .lss .num false (.c (Aa z2.1 3)) (.c (Aa z2.1 2)))) (fun z3=>Ah z3 (Ac (Ad (.idxAddr 1 (.c (Aa z2.1 0)) (.c (Aa z2.1 3)))) (fun z4=>Ac (Ad (.load 1 false (.c z4))) (fun z5=>Ac (Ax B0 .cl (Aa z2.1 1) [z5]) (fun z6=>Ah z6 (Ac (some (Aa z2.1 3,z2.2)) (fun z7=>some (.inr z7))) (Ac (Ad (.bin .add .num true (.c (Aa z2.1 3)) (.c (.int .i64 1)))) (fun z8=>some (.inl ([Aa z2.1 0,Aa z2.1 1,Aa z2.1 2,z8],z2.2)))))))) (Ac (some (.int .i64 (-1),z2.2)) (fun z9=>some (.inr z9))))) (([v,f,I l.length,I i],()):List PV×Unit)=some (I (CD p i (l.drop i)),()):=by
  intro m;induction m with
  | zero =>
   intro i hi;refine BW ?_;have:i=l.length:=by omega
   subst this;simp[CD];rfl
  | succ m ih =>
   intro i hi;have hlt:i < l.length:=by omega
   rw[FV hlt];by_cases hpx:p l[i]=true
   ·refine BW ?_;simp only[A7,A4,Bc,BD,AS,Ao,An];rw[if_pos (by simpa using hlt),hv.idx hlt];simp[hp _ (ce hlt),hpx,CD]
   ·rw[Dq (s':=([v,f,I l.length,I ((i+1:Nat):Int)],()))]
    ·rw[ih (i+1) (by omega)];simp[CD,hpx]
    ·simp only[A7,A4,Bc,BD,AS,Ao,An];rw[if_pos (by simpa using hlt),hv.idx hlt];simp[hp _ (ce hlt),hpx,A3,Ct (by omega:i < 9223372036854775807)]
 have:=key l.length 0 (by omega);simpa[A3] using this
theorem any_run {v f:PV} {l:List Int} {p:Int->Bool} (hv:Bd v l) (hl:l.length<=1000000) (hf:okV f=true) (hu:Hc f=false) (hp:∀ n∈l,Ax B0 .cl f [I n]=some (.bool (p n))) :
  Ax B0 .cl (.fn 68 []) [v,f]=some (.bool (l.any p)):=by
 refine call (d:=fun _=>.cl) rfl (by decide) (by simp[At,hv.ok,hf]) rfl ?_;rw[ZZ,ZZ,Z1,run68,index_run hv hl hf hu hp];simp only[Ao,A3,EF,idxP_any]
def Arr.right (a:Arr):Bool:=!(a.ru&&a.n.any fun n=>!EG n)&&(if a.li then decide (a.n.length<=200) else decide (a.n.length=1))
theorem U5 {v:PV} {a:Arr} (h:AK v a) (hl:a.n.length<=1000000):Ax B0 .cl (.fn 32 []) [v]=some (.bool a.right):=by
 obtain⟨x,rfl,hx⟩:=h.get;refine call (d:=fun _=>.cl) rfl (by decide) (by simp[At,h.ok]) rfl ?_;rw[ZZ,Z1,run32];unfold wc we wf wg wv;rw[C0,BX rfl rfl hx.cell,AJ];have ha:=any_run (f:=.fn 66 []) (p:=fun n=>!EG n) hx hl rfl rfl fun n _=>other_run n;simp only[BU,BM,HJ,GO,Hf,Ao,hx.len,ha,An,A3,Fp,CN];unfold Arr.right
 have e1:decide ((a.n.length:Int)<=200)=decide (a.n.length<=200):=by
  by_cases h:a.n.length<=200
  ·simp[h];omega
  ·have:¬ (a.n.length:Int)<=200:=by omega
   simp[h,this]
 have e2:((a.n.length:Int)==1)=decide (a.n.length=1):=by
  by_cases h:a.n.length=1
  ·simp[h]
  ·have:¬ (a.n.length:Int)=1:=by omega
   simp[h,this]
 rw[e1,e2];cases a.ru<;>cases a.li<;>cases a.n.any (fun n=>!EG n)<;>simp
def Dn:List Int->List Int->Bool
 | [],[]=>true
 | x :: xs,y :: ys=>x==y&&Dn xs ys
 | _,_=>false
theorem PR:∀ (a b:List Int),Dn a b=true↔a=b:=by
 intro a;induction a with
 | nil=>intro b;cases b<;>simp[Dn]
 | cons x a ih=>intro b;cases b<;>simp[Dn,ih]
theorem equal_run {v u:PV} {l m:List Int} (hv:Bd v l) (hu:Bd u m) (hl:l.length<=1000000) (hm:m.length<=1000000):Ax B0 .cl (.fn 173 []) [v,u]=some (.bool (Dn l m)):=by
 refine call (d:=fun _=>.cl) rfl (by decide) (by simp[At,hv.ok,hu.ok]) rfl ?_;rw[ZZ,ZZ,Z1,run173];unfold wc wh wj wo wr wt;rw[hv.len,hu.len];simp only[Ao,Ce,An];by_cases hlm:l.length=m.length
 ·have h1:(((l.length:Int) != (m.length:Int))=true)↔False:=by simp[hlm]
  simp only[h1,if_false];have h0:AZ [v,u,I l.length,.int .i64 0]=true:=by simp[AZ,hv.und,hu.und,A3]
  rw[h0,AJ]
  have key:∀ k i,i+k=l.length->Bg (fun z5=>Ac (Ad (.bin .lss .num false (.c (Aa z5.1 3)) (.c (Aa z5.1 2)))) (fun z6=>Ah z6 (Ac (Ad (.idxAddr 1 (.c (Aa z5.1 0)) (.c (Aa z5.1 3)))) (fun z7=>Ac (Ad (.load 1 false (.c z7))) (fun z8=>Ac (Ad (.idxAddr 1 (.c (Aa z5.1 1)) (.c (Aa z5.1 3)))) (fun z9=>Ac (Ad (.load 1 false (.c z9))) (fun z10=>Ac (Ad (.bin .neq .num false (.c z8) (.c z10))) (fun z11=>Ah z11 (Ac (some (PV.bool false,z5.2)) (fun z12=>some (.inr z12))) (Ac (Ad (.bin .add .num true (.c (Aa z5.1 3)) (.c (.int .i64 1)))) (fun z13=>some (.inl ([Aa z5.1 0,Aa z5.1 1,Aa z5.1 2,z13],z5.2)))))))))) (Ac (some (PV.bool true,z5.2)) (fun z14=>some (.inr z14))))) (([v,u,I l.length,I i],()):List PV×Unit)=some (.bool (Dn (l.drop i) (m.drop i)),()):=by
   intro k;induction k with
   | zero =>
    intro i hi;refine BW ?_;have h2:l.drop i=[]:=aU (by omega);have h3:m.drop i=[]:=aU (by omega);have:¬ (i < l.length):=by omega
    simp[h2,h3,Dn,this]
   | succ k ih =>
    intro i hi;have hlt:i < l.length:=by omega
    have hlt':i < m.length:=by omega
    rw[FV hlt,FV hlt'];by_cases hx:l[i]=m[i]
    ·rw[Dq (s':=([v,u,I l.length,I ((i+1:Nat):Int)],()))]
     ·rw[ih (i+1) (by omega)];simp[Dn,hx]
     ·simp only[A7,A4,Bc,BD,AS,Ao,An];rw[if_pos (by simpa using hlt),hv.idx hlt,hu.idx hlt'];simp[hx,A3,Ct (by omega:i < 9223372036854775807)]
    ·refine BW ?_;simp only[A7,A4,Bc,BD,AS,Ao,An];rw[if_pos (by simpa using hlt),hv.idx hlt,hu.idx hlt'];simp[hx,Dn]
  have:=key l.length 0 (by omega);simpa[A3] using this
 ·have:¬ (l.length:Int)=(m.length:Int):=by omega
  have h2:Dn l m=false:=by
   cases he:Dn l m with
   | false=>rfl
   | true=>exact absurd (congrArg List.length ((PR l m).1 he)) hlm
  simp[this,h2]
def Arr.same (a b:Arr):Bool:=a.li==b.li&&(a.ru==b.ru&&Dn a.n b.n)
theorem same_run {v u:PV} {a b:Arr} (hv:AK v a) (hu:AK u b) (ha:a.n.length<=1000000) (hb:b.n.length<=1000000):Ax B0 .cl (.fn 148 []) [v,u]=some (.bool (a.same b)):=by
 obtain⟨x,rfl,hx⟩:=hv.get;obtain⟨y,rfl,hy⟩:=hu.get;refine call (d:=fun _=>.cl) rfl (by decide) (by simp[At,hv.ok,hu.ok]) rfl ?_;rw[ZZ,ZZ,Z1,run148];unfold we wf wg wv;rw[C0,C0,BX rfl rfl hx.cell,BX rfl rfl hy.cell,AJ,AJ];simp only[BU,BM,HJ,GO,Hf,Ao,Iz,An,equal_run hx hy ha hb];unfold Arr.same;cases (a.li==b.li)<;>cases (a.ru==b.ru)<;>simp
end Go.Ab.Derive2


namespace Go.Ab.Derive2
open Go Go.Ab
theorem Qr {g:FuncId} {fn:Au} {fr:Bool} {args:List PV} {u:PV} {d:Nat->Bq} (ht:By g=some fn) (ha:At args=true) (hl:Nat.ble args.length fn.nt=true)
  (hr:AM (AL B0 d) fn .cl AP 0 (args.map KV.cv) ()=some (u,())) (hfr:(u.free&&!GL By g)=fr):A8 B0 .cl fr g args=some u :=
 T4 (HO d) ht ha (ae hl) hr hfr
inductive NE where
 | ok | over | div
 | dom (g:List UInt8)
def NE.pv:NE->PV
 | .ok=>.nilI
 | .over=>.glob 0 258
 | .div=>.glob 1 258
 | .dom g=>.iface 124 (.agg [.str g])
def NE.no:NE->Int
 | .ok=>0
 | .over=>100
 | .div=>101
 | .dom _=>102
theorem NE.okV (e:NE):okV e.pv=true:=by cases e<;>rfl
theorem NE.und (e:NE):Hc e.pv=false:=by cases e<;>rfl
theorem is_over (e:NE):Ax B0 .cl (.fn 139 []) [e.pv,.glob 0 258]=some (.bool (match e with | .over=>true | _=>false)):=by
 refine US (HO fun _=>.cl) ?_ rfl;cases e<;>rfl
theorem is_div (e:NE):Ax B0 .cl (.fn 139 []) [e.pv,.glob 1 258]=some (.bool (match e with | .div=>true | _=>false)):=by
 refine US (HO fun _=>.cl) ?_ rfl;cases e<;>rfl
theorem O7 (e:NE):Ax B0 .cl (.fn 84 []) [e.pv]=some (I e.no):=by
 refine call (d:=fun _=>.cl) rfl (by decide) (by simp[At,NE.okV]) rfl ?_;rw[ZZ,Z1,run84];unfold wh wv;simp only[show Ad (.load 1 false (.c (.ptr [.glob 0 258] 0)))=some (.glob 0 258) from rfl,show Ad (.load 1 false (.c (.ptr [.glob 1 258] 0)))=some (.glob 1 258) from rfl,Ao,is_over,is_div,An];cases e<;>rfl
def B7 (r:Int×NE):PV:=.tup [I r.1,r.2.pv]
def Gb (b:Bool) (n:Int) (e:NE):Int×NE:=if b then (n,.ok) else (0,e)
theorem FD (r:Int×NE):Ad (.extract 0 (.c (B7 r)))=some (I r.1):=rfl
theorem FC (r:Int×NE):Ad (.extract 1 (.c (B7 r)))=some r.2.pv:=rfl
theorem MG (n:Int) (e:NE) (b:Bool):A8 B0 .cl false 81 [I n,e.pv,.sl 1 [.bool b] false]=some (B7 (Gb b n e)):=by
 refine Qr (d:=fun _=>.cl) rfl (by simp[At,NE.okV,okV]) rfl ?_ (by rw[show GL By 81=true from rfl,Z8,Bool.and_false]);rw[ZZ,ZZ,ZZ,Z1,run81];unfold wc wh wi wj wo wr;rw[HA];simp only[Ao];rw[show AZ [I n,e.pv,.sl 1 [.bool b] false,.int .i64 (([PV.bool b].length:Nat):Int),.int .i64 0]=true by simp only[AZ,bj,NE.und];rfl,AJ];cases b with
 | false=>exact BW rfl
 | true =>
  rw[Dq (s':=([I n,e.pv,.sl 1 [.bool true] false,I 1,I 1],()))];·exact BW rfl
  ·rfl
theorem must2 (n:Int) (e:NE) (b c:Bool):A8 B0 .cl false 81 [I n,e.pv,.sl 1 [.bool b,.bool c] false]=some (B7 (Gb (b&&c) n e)):=by
 refine Qr (d:=fun _=>.cl) rfl (by simp[At,NE.okV,okV]) rfl ?_ (by rw[show GL By 81=true from rfl,Z8,Bool.and_false]);rw[ZZ,ZZ,ZZ,Z1,run81];unfold wc wh wi wj wo wr;rw[HA];simp only[Ao];rw[show AZ [I n,e.pv,.sl 1 [.bool b,.bool c] false,.int .i64 (([PV.bool b,.bool c].length:Nat):Int),.int .i64 0]=true by simp only[AZ,bj,NE.und];rfl,AJ];cases b with
 | false=>exact BW rfl
 | true =>
  rw[Dq (s':=([I n,e.pv,.sl 1 [.bool true,.bool c] false,I 2,I 1],()))]
  ·cases c with
   | false=>exact BW rfl
   | true =>
    rw[Dq (s':=([I n,e.pv,.sl 1 [.bool true,.bool true] false,I 2,I 2],()))];·exact BW rfl
    ·rfl
  ·rfl
def Ci (x y:Int):PV:=.agg [I x,I y]
def i64 (n:Int):Int:=IntKind.i64.wrap n
theorem Fy (x y:Int):A1 (Ci x y)=true:=rfl
theorem FL (x y:Int):AU (Ci x y) 0 1 false=some (I x):=rfl
theorem Gu (x y:Int):AU (Ci x y) 1 1 false=some (I y):=rfl
theorem two_a (x y:Int):AU (Ci x y) 0 2 true=some (Ci x y):=rfl
theorem Nl:Ad (.load 1 false (.c (.ptr [.glob 0 258] 0)))=some NE.over.pv:=rfl
theorem load_div:Ad (.load 1 false (.c (.ptr [.glob 1 258] 0)))=some NE.div.pv:=rfl
theorem L6 (b:Bool):AT 1 [.bool b]=true:=rfl
theorem Sr (b c:Bool):AT 1 [.bool b,.bool c]=true:=rfl
theorem Mz (b:Bool):AD 1 1 [.bool b] 0 (Ae [.bool b])=.sl 1 [.bool b] false:=rfl
theorem S4 (b c:Bool):AD 1 1 [.bool b,.bool c] 0 (Ae [.bool b,.bool c])=.sl 1 [.bool b,.bool c] false:=rfl
def nAdd (x y:Int):Int×NE :=
 let s:=i64 (x+y)
 Gb (!(decide (x < 0)==decide (y < 0))||(decide (s < 0)==decide (x < 0))) s .over
def MF (x y:Int):Int×NE :=
 let s:=i64 (x - y)
 Gb ((decide (x < 0)==decide (y < 0))||(decide (s < 0)==decide (x < 0))) s .over
theorem add_run (x y:Int):Ax B0 .cl (.fn 107 []) [Ci x y]=some (B7 (nAdd x y)):=by
 refine call (d:=fun _=>.cl) rfl (by decide) rfl rfl ?_;rw[ZZ,Z1,run107];unfold wa wb we wf wh wm wp;rw[Fy,AJ];simp only[FL,Gu,Ao,BT,A3,AS,HD,Iz,An,Nl,L6,AJ,Mz,MG,FD,FC];unfold nAdd i64;cases decide (x < 0)<;>cases decide (y < 0)<;>rfl
theorem Pq (x y:Int):Ax B0 .cl (.fn 75 []) [Ci x y]=some (B7 (MF x y)):=by
 refine call (d:=fun _=>.cl) rfl (by decide) rfl rfl ?_;rw[ZZ,Z1,run75];unfold wa wb we wf wh wm;rw[Fy,AJ];simp only[FL,Gu,Ao,I6,A3,AS,HD,Iz,An,Nl,L6,AJ,Mz,MG,FD,FC];unfold MF i64;cases decide (x < 0)<;>cases decide (y < 0)<;>rfl
def KP (x y:Int):Int×NE :=
 if y=0 then Gb (x==0) 1 .div
 else if y = -1 then Gb (x != -9223372036854775808) (i64 (0 - x)) .over
 else Gb (x.tmod y==0) (i64 (x.tdiv y)) .div
theorem I_neg (x:Int):Ad (.un .neg (.c (I x)))=some (I (i64 (0 - x))):=rfl
theorem UN (x y:Int):Ax B0 .cl (.fn 79 []) [Ci x y]=some (B7 (KP x y)):=by
 refine call (d:=fun _=>.cl) rfl (by decide) rfl rfl ?_;rw[ZZ,Z1,run79];unfold wa wb we wf wh wl;rw[Fy,AJ];simp only[FL,Gu,Ao,A3,CN,Ce,An,Nl,load_div,L6,AJ,Mz,MG,FD,FC];unfold KP;by_cases h0:y=0
 ·subst h0;simp only[beq_self_eq_true,if_true];rfl
 ·have e0:((y==0)=true)↔False:=by simp[h0]
  simp only[e0,if_false,h0];by_cases h1:y = -1
  ·subst h1;simp only[beq_self_eq_true,if_true,I_neg,Ao,L6,AJ,Mz,MG,FD,FC];rfl
  ·have e1:((y == -1)=true)↔False:=by simp[h1]
   simp only[e1,if_false,h1];rw[I,I,Sm _ _ h0,Iy _ _ h0];simp only[Ao,A3,CN,L6,AJ,Mz,MG,FD,FC];rfl
def NA (x y:Int):Int :=
 if x=0 then y else if x = -1 then 0
 else if (y.tmod x==0)||(decide (y.tmod x < 0)==decide (x < 0)) then y.tmod x else i64 (y.tmod x+x)
theorem Yd (x y:Int):Ax B0 .cl (.fn 109 []) [Ci x y]=some (B7 (NA x y,.ok)):=by
 refine call (d:=fun _=>.cl) rfl (by decide) rfl rfl ?_;rw[ZZ,Z1,run109];unfold we wf wj wl wm wp;rw[Fy,AJ];simp only[FL,Gu,Ao,A3,CN,An];unfold NA;by_cases h0:x=0
 ·subst h0;simp only[beq_self_eq_true,if_true];rfl
 ·have e0:((x==0)=true)↔False:=by simp[h0]
  simp only[e0,if_false,h0];by_cases h1:x = -1
  ·subst h1;simp only[beq_self_eq_true,if_true];rfl
  ·have e1:((x == -1)=true)↔False:=by simp[h1]
   simp only[e1,if_false,h1];rw[show Ad (.bin .rem .num false (.c (I y)) (.c (I x)))=some (I (y.tmod x)) from Iy _ _ h0];simp only[Ao];rw[show AZ [I (y.tmod x),I 0]=true from rfl,AJ];generalize y.tmod x=r;by_cases hc:((r==0)||(decide (r < 0)==decide (x < 0)))=true
   ·rw[if_pos hc];refine BW ?_;simp only[A7,A4,Bc,A3,AS,CN,Ao,An,FL,Iz];cases hr:(r==0) with
    | true=>rfl
    | false =>
     simp only[hr,aV] at hc;simp only[hc,Z0,if_false,Ao,An,if_true];rfl
   ·rw[if_neg hc];rw[Dq (s':=([I (i64 (r+x)),I 1,Ci x y],()))];·exact BW rfl
    ·simp only[A7,A4,Bc,A3,AS,CN,Ao,An,FL,Iz];simp only[cd,not_or,cH] at hc;simp only[hc.1,hc.2,Z0,if_false,Ao,An,BT];rfl
def u64 (n:Int):PV:=.int .u64 n
def Gw (x:Int):Int:=if x < 0 then IntKind.u64.wrap (0 - IntKind.u64.wrap x) else IntKind.u64.wrap x
theorem Ps (x:Int):Ax B0 .cl (.fn 152 []) [I x]=some (u64 (Gw x)):=by
 refine call (d:=fun _=>.cl) rfl (by decide) rfl rfl ?_;rw[ZZ,Z1,run152];unfold wm;simp only[A3,AS,Ao,An,show Ad (.conv .u64 (.c (I x)))=some (.int .u64 (IntKind.u64.wrap x)) from rfl,V0];unfold Gw;by_cases h:x < 0<;>simp[h]<;>rfl
theorem Ix (n:Nat) (h:n < 18446744073709551616):IntKind.u64.wrap (n:Int)=n:=by rw[IntKind.wrap_u64];omega
theorem Vi (x:Int):∃ n:Nat,Gw x=n/\n < 18446744073709551616:=by
 unfold Gw;refine⟨(if x < 0 then IntKind.u64.wrap (0 - IntKind.u64.wrap x) else IntKind.u64.wrap x).toNat,?_,?_⟩<;>(simp only[IntKind.wrap_u64];split<;>omega)
theorem and32 (n:Nat) (h:n < 18446744073709551616):Ad (.bin .and .num true (.c (.int .u64 (n:Int))) (.c (.int .u64 4294967295)))=some (.int .u64 ((n%4294967296:Nat):Int)):=by
 have e:(BitVec.ofInt 64 (n:Int) &&& BitVec.ofInt 64 4294967295).toNat=n%4294967296:=by
  rw[BitVec.toNat_and];have h1:(BitVec.ofInt 64 (n:Int)).toNat=n:=by rw[BitVec.toNat_ofInt];omega
  have h2:(BitVec.ofInt 64 (4294967295:Int)).toNat=2 ^ 32 - 1:=by rw[BitVec.toNat_ofInt];rfl
  rw[h1,h2,Nat.and_two_pow_sub_one_eq_mod]
 rw[show Ad (.bin .and .num true (.c (.int .u64 (n:Int))) (.c (.int .u64 4294967295)))=some (.int .u64 (IntKind.u64.wrap (((BitVec.ofInt 64 (n:Int) &&& BitVec.ofInt 64 4294967295).toNat:Nat):Int))) from rfl,e,Ix _ (by omega)]
theorem Qk (n:Nat):Ad (.bin .shr .num true (.c (.int .u64 (n:Int))) (.c (.int .u64 32)))=some (.int .u64 ((n / 4294967296:Nat):Int)):=by
 have e:(n:Int).fdiv (2 ^ (min (32:Int).toNat 64))=((n / 4294967296:Nat):Int):=by
  rw[show (2:Int) ^ (min (32:Int).toNat 64)=4294967296 from rfl,Int.fdiv_eq_ediv_of_nonneg _ (by decide)];omega
 rw[show Ad (.bin .shr .num true (.c (.int .u64 (n:Int))) (.c (.int .u64 32)))=some (.int .u64 ((n:Int).fdiv (2 ^ (min (32:Int).toNat 64)))) from rfl,e]
theorem mul64_run (a b:Nat) (ha:a < 18446744073709551616) (hb:b < 18446744073709551616) :
  Ax B0 .cl (.fn 151 []) [u64 a,u64 b]=some (.tup [u64 ((a*b / 18446744073709551616:Nat):Int),u64 ((a*b%18446744073709551616:Nat):Int)]):=by
 refine call (d:=fun _=>.cl) rfl (by decide) rfl rfl ?_;rw[ZZ,ZZ,Z1,run151];unfold wp;obtain⟨h1,h2,h3,h4⟩:=Lib.mul64_hi a b ha hb;have c1:∀ (m n:Nat),((m:Int)*(n:Int))=((m*n:Nat):Int):=fun m n=>by simp
 have c2:∀ (m n:Nat),((m:Int)+(n:Int))=((m+n:Nat):Int):=fun m n=>by simp
 have ka:=Lib.half_mul_le (a:=a / 4294967296) (b:=b / 4294967296) (by omega) (by omega);have kb:=Lib.half_mul_le (a:=a / 4294967296) (b:=b%4294967296) (by omega) (by omega);have kc:=Lib.half_mul_le (a:=a%4294967296) (b:=b / 4294967296) (by omega) (by omega);simp only[u64,and32 _ ha,and32 _ hb,Qk,Ao,Ny,Nz,c1,c2];rw[Ix _ h1,Ix (a / 4294967296*(b%4294967296)) (by omega)];simp only[Qk,Ao,Ny,Nz,c1,c2];rw[Ix _ h2];simp only[and32 _ h2,Qk,Ao,Ny,Nz,c1,c2];rw[Ix (a%4294967296*(b / 4294967296)) (by omega)];simp only[c2];rw[Ix _ h3,Ix (a / 4294967296*(b / 4294967296)) (by omega)];simp only[Qk,Ao,Ny,Nz,c1,c2]
 have h5:a*b / 18446744073709551616 < 18446744073709551616:=by
  refine Nat.div_lt_of_lt_mul ?_;exact Nat.mul_lt_mul'' ha hb
 rw[Ix (a / 4294967296*(b / 4294967296)+(a / 4294967296*(b%4294967296)+a%4294967296*(b%4294967296) / 4294967296) / 4294967296) (by omega)];simp only[c2];have e:IntKind.u64.wrap ((a*b:Nat):Int)=((a*b%18446744073709551616:Nat):Int):=by rw[IntKind.wrap_u64];omega
 rw[h4,Ix _ h5,e]
def nTim (hi lo:Nat) (x y:Int):Int×NE :=
 let below:=!(decide (x < 0)==decide (y < 0))
 let v:=i64 (lo:Int)
 Gb (decide (hi=0)&&(decide (lo<=9223372036854775807)||below&&decide (lo=9223372036854775808))) (if below then i64 (0 - v) else v) .over
def Oa (x y:Int):Int×NE:=nTim ((Gw x).toNat*(Gw y).toNat / 18446744073709551616) ((Gw x).toNat*(Gw y).toNat%18446744073709551616) x y
theorem times_aux (hi lo:Nat) (x y:Int) (hs1:Ax B0 .cl (.fn 152 []) [I x]=some (u64 (Gw x))) (hs2:Ax B0 .cl (.fn 152 []) [I y]=some (u64 (Gw y)))
  (hm:Ax B0 .cl (.fn 151 []) [u64 (Gw x),u64 (Gw y)]=some (.tup [u64 hi,u64 lo])):Ax B0 .cl (.fn 108 []) [Ci x y]=some (B7 (nTim hi lo x y)):=by
 refine call (d:=fun _=>.cl) rfl (by decide) rfl rfl ?_;rw[ZZ,Z1,run108];unfold wa wb we wf wh wm wv;rw[Fy,AJ];simp only[u64] at hs1 hs2 hm;simp only[FL,Gu,Ao,hs1,hs2,hm,B3,af,ai,A3,AS,HD,u64,pure_conv,An,V2,V1];unfold nTim;have e1:((hi:Int)==0)=decide (hi=0):=by by_cases h:hi=0<;>simp[h]
 have e2:decide ((lo:Int)<=9223372036854775807)=decide (lo<=9223372036854775807):=by by_cases h:lo<=9223372036854775807<;>simp[h]<;>omega
 have e3:((lo:Int)==9223372036854775808)=decide (lo=9223372036854775808):=by by_cases h:lo=9223372036854775808<;>simp[h];omega
 rw[e1,e2,e3];generalize decide (hi=0)=p1;generalize decide (lo<=9223372036854775807)=p2;generalize decide (lo=9223372036854775808)=p3;cases hb':!(decide (x < 0)==decide (y < 0)) with
 | false =>
  simp only[Z0,if_false,Nl,Ao,A3,bq,Bool.or_false];cases p2<;>simp only[Z0,if_false,if_true,Sr,AJ,S4,Ao,must2,FD,FC]<;>rfl
 | true =>
  simp only[if_true,I_neg,Nl,Ao,A3,aE];cases p2<;>simp only[Z0,if_false,if_true,I_neg,Sr,AJ,S4,Ao,must2,FD,FC,aV,bO]<;>rfl
theorem times_run (x y:Int):Ax B0 .cl (.fn 108 []) [Ci x y]=some (B7 (Oa x y)):=by
 obtain⟨a,ha,hal⟩:=Vi x;obtain⟨b,hb,hbl⟩:=Vi y;have hm:=mul64_run a b hal hbl;refine times_aux _ _ x y (Ps x) (Ps y) ?_;rw[ha,hb,hm];rfl
end Go.Ab.Derive2


namespace Go.Ab.Derive2
open Go Go.Ab
theorem callC {d:Nat->Bq} {g:FuncId} {fn:Au} {sh:Bq} {args cap:List PV} {u:PV} (ht:By g=some fn) (hg:Kd g) (ha:At (args++cap)=true) (hl:Nat.ble (args++cap).length fn.nt=true)
  (hr:AM (AL B0 d) fn sh AP 0 ((args++cap).map KV.cv) ()=some (u,())) (hio:fn.io=false:=by rfl) (hb:Nat.blt g Df=true:=by rfl):Ax B0 sh (.fn g cap) args=some u :=
 Ud (HO d) ht ha (ae hl) (NJ hg (fun _=>none) _) hr hio hb
def DM:List UInt8:=[43]
def Dj:List UInt8:=[45]
def C8:List UInt8:=[195,151]
def CW:List UInt8:=[195,183]
def Cn:List UInt8:=[124]
def CE:List UInt8:=[226,140,136]
def CA:List UInt8:=[226,140,138]
def Co:List UInt8:=[61]
def CR:List UInt8:=[226,137,160]
def CY:List UInt8:=[60]
def CS:List UInt8:=[62]
def Cu:List UInt8:=[226,137,164]
def CB:List UInt8:=[226,137,165]
def Eo:List UInt8:=[226,136,167]
def Dm:List UInt8:=[226,136,168]
def Fs:List UInt8:=[126]
def Dk (b:Bool):Int:=if b then 1 else 0
theorem KT (b:Bool):Ax B0 .cl (.fn 77 []) [.bool b]=some (I (Dk b)):=by
 refine call (d:=fun _=>.cl) rfl (by decide) rfl rfl ?_;rw[ZZ,Z1,run77];cases b<;>rfl
theorem WR (a b:Bool):Ad (.bin .or .num false (.c (I (Dk a))) (.c (I (Dk b))))=some (I (Dk (a||b))):=by cases a<;>cases b<;>rfl
theorem WQ (b:Bool):Ad (.bin .or .num false (.c (I 0)) (.c (I (Dk b))))=some (I (Dk b)):=by cases b<;>rfl
theorem DK (a:List UInt8):Ad (.bin .eql .str true (.c (.str a)) (.c (.str a)))=some (.bool true):=by rw[Jq];simp
theorem Cb {a b:List UInt8} (h:Nat.beq a.length b.length=false\/(a==b)=false):Ad (.bin .eql .str true (.c (.str a)) (.c (.str b)))=some (.bool false):=by
 rw[Jq];rcases h with h | h
 ·have:¬ a=b:=fun e=>by subst e;simp at h
  simp[this]
 ·rw[h]
def Fq (g:List UInt8) (x y:Int):Bool :=
 if g=Co then x==y else if g=CR then x != y else if g=CY then decide (x < y) else if g=CS then decide (y < x)
 else if g=Cu then (x==y||decide (x < y)) else (x==y||decide (y < x))
theorem cmp_eq (x y:Int):Ax B0 .cl (.fn 113 []) [Ci x y,.str Co]=some (B7 (Dk (Fq Co x y),.ok)):=by
 refine call (d:=fun _=>.cl) rfl (by decide) rfl rfl ?_;rw[ZZ,ZZ,Z1,Mj];unfold we wf wo wq ws wt wu wv;rw[Fy,AJ,Co];simp only[DK,Cb (a:=[61]) (b:=[226,137,160]) (.inr rfl),Cb (a:=[61]) (b:=[226,137,164]) (.inr rfl),Cb (a:=[61]) (b:=[60]) (.inr rfl),Ao,BN,Bv,FL,Gu,CN,KT];rfl
theorem cmp_ne (x y:Int):Ax B0 .cl (.fn 113 []) [Ci x y,.str CR]=some (B7 (Dk (Fq CR x y),.ok)):=by
 refine call (d:=fun _=>.cl) rfl (by decide) rfl rfl ?_;rw[ZZ,ZZ,Z1,Mj];unfold we wf wo wq ws wt wu wv;rw[Fy,AJ,CR];simp only[DK,Ao,BN,FL,Gu,Ce,KT];rfl
theorem cmp_lt (x y:Int):Ax B0 .cl (.fn 113 []) [Ci x y,.str CY]=some (B7 (Dk (Fq CY x y),.ok)):=by
 refine call (d:=fun _=>.cl) rfl (by decide) rfl rfl ?_;rw[ZZ,ZZ,Z1,Mj];unfold we wf wo wq ws wt wu wv;rw[Fy,AJ,CY];simp only[DK,Cb (a:=[60]) (b:=[226,137,160]) (.inr rfl),Cb (a:=[60]) (b:=[226,137,164]) (.inr rfl),Ao,BN,Bv,FL,Gu,AS,KT,A3,WQ];rfl
theorem cmp_le (x y:Int):Ax B0 .cl (.fn 113 []) [Ci x y,.str Cu]=some (B7 (Dk (Fq Cu x y),.ok)):=by
 refine call (d:=fun _=>.cl) rfl (by decide) rfl rfl ?_;rw[ZZ,ZZ,Z1,Mj];unfold we wf wo wq ws wt wu wv;rw[Fy,AJ,Cu];simp only[DK,Cb (a:=[226,137,164]) (b:=[226,137,160]) (.inr rfl),Ao,BN,Bv,FL,Gu,AS,CN,KT,WR];rfl
theorem cmp_gt (x y:Int):Ax B0 .cl (.fn 113 []) [Ci x y,.str CS]=some (B7 (Dk (Fq CS x y),.ok)):=by
 refine call (d:=fun _=>.cl) rfl (by decide) rfl rfl ?_;rw[ZZ,ZZ,Z1,Mj];unfold we wf wo wq ws wt wu wv;rw[Fy,AJ,CS];simp only[DK,Cb (a:=[62]) (b:=[226,137,160]) (.inr rfl),Cb (a:=[62]) (b:=[226,137,164]) (.inr rfl),Cb (a:=[62]) (b:=[60]) (.inr rfl),Cb (a:=[62]) (b:=[61]) (.inr rfl),Cb (a:=[62]) (b:=[226,137,165]) (.inr rfl),Ao,BN,Bv,FL,Gu,Cz,KT,A3,WQ];rfl
theorem cmp_ge (x y:Int):Ax B0 .cl (.fn 113 []) [Ci x y,.str CB]=some (B7 (Dk (Fq CB x y),.ok)):=by
 refine call (d:=fun _=>.cl) rfl (by decide) rfl rfl ?_;rw[ZZ,ZZ,Z1,Mj];unfold we wf wo wq ws wt wu wv;rw[Fy,AJ,CB];simp only[DK,Cb (a:=[226,137,165]) (b:=[226,137,160]) (.inr rfl),Cb (a:=[226,137,165]) (b:=[226,137,164]) (.inr rfl),Cb (a:=[226,137,165]) (b:=[60]) (.inr rfl),Cb (a:=[226,137,165]) (b:=[61]) (.inr rfl),Ao,BN,Bv,FL,Gu,Cz,CN,KT,WR];rfl
theorem LZ {g:List UInt8} {x y:Int} {r:Int×NE} (h:Ax B0 .cl (.fn 113 []) [Ci x y,.str g]=some (B7 r)):Ax B0 .cl (.fn 112 [.ptr [.str g] 0]) [Ci x y]=some (B7 r):=by
 refine callC (d:=fun _=>.cl) rfl (by decide) rfl rfl ?_;simp only[bM,aK,ZZ,Z1];rw[run112];unfold wa wb wh wv;rw[Fy,AJ];simp only[two_a,Ao,Kx,JB,h,FD,FC];rfl
def andI (x y:Int):Int:=IntKind.i64.wrap (BitVec.ofInt 64 x &&& BitVec.ofInt 64 y).toNat
def orI (x y:Int):Int:=IntKind.i64.wrap (BitVec.ofInt 64 x ||| BitVec.ofInt 64 y).toNat
theorem and_run (x y:Int):Ad (.bin .and .num false (.c (I x)) (.c (I y)))=some (I (andI x y)):=rfl
theorem or_run (x y:Int):Ad (.bin .or .num false (.c (I x)) (.c (I y)))=some (I (orI x y)):=rfl
theorem shr1 (x:Int):Ad (.bin .shr .num true (.c (I x)) (.c (.int .u64 1)))=some (I (x.fdiv 2)):=rfl
theorem PT (g:List UInt8):Ad (.build [.str []] [(0,(1,.c (.str g)))])=some (.agg [.str g]):=rfl
def JL (g:List UInt8) (x y:Int):Int×NE:=Gb ((x.fdiv 2==0)&&(y.fdiv 2==0)) (if g=Dm then orI x y else andI x y) (.dom g)
theorem logic_run (g:List UInt8) (x y:Int):Ax B0 .cl (.fn 115 []) [Ci x y,.str g]=some (B7 (JL g x y)):=by
 refine call (d:=fun _=>.cl) rfl (by decide) rfl rfl ?_;rw[ZZ,ZZ,Z1,run115];unfold wa wb we wf wl ws;rw[Fy,AJ];simp only[FL,Gu,Ao,and_run,or_run,shr1,A3,CN,Jq,An,PT,Sr,AJ,S4,show PV.iface 124 (.agg [.str g])=(NE.dom g).pv from rfl,must2,FD,FC];unfold JL;by_cases h:g=Dm
 ·subst h;rfl
 ·have:(g==[226,136,168])=false:=by simpa[Dm] using h
  simp only[this,h,Z0,if_false];rfl
theorem UP (g:List UInt8) (x y:Int):Ax B0 .cl (.fn 114 [.ptr [.str g] 0]) [Ci x y]=some (B7 (JL g x y)):=by
 refine callC (d:=fun _=>.cl) rfl (by decide) rfl rfl ?_;simp only[bM,aK,ZZ,Z1];rw[run114];unfold wa wb wh wv;rw[Fy,AJ];simp only[two_a,Ao,Kx,JB,logic_run,FD,FC];rfl
theorem max_run (x y:Int):Ax B0 .cl (.fn 110 []) [Ci x y]=some (B7 (max x y,.ok)):=by
 refine call (d:=fun _=>.cl) rfl (by decide) rfl rfl ?_;rw[ZZ,Z1,run110];unfold we wf;rw[Fy,AJ];simp only[FL,Gu,Ao,Ad,exec,ZZ,Z1,RX.ev,Hl,I];by_cases h:y>x
 ·simp[h,Int.max_eq_right (by omega:x<=y)];rfl
 ·simp[h,Int.max_eq_left (by omega:y<=x)];rfl
theorem min_run' (x y:Int):Ax B0 .cl (.fn 111 []) [Ci x y]=some (B7 (min x y,.ok)):=by
 refine call (d:=fun _=>.cl) rfl (by decide) rfl rfl ?_;rw[ZZ,Z1,run111];unfold we wf;rw[Fy,AJ];simp only[FL,Gu,Ao,Ad,exec,ZZ,Z1,RX.ev,Hl,I];by_cases h:y < x
 ·simp[h,Int.min_eq_right (by omega:y<=x)];rfl
 ·simp[h,Int.min_eq_left (by omega:x<=y)];rfl
def Hs:PV:=.imap [.str DM,.fn 107 [],.str Dj,.fn 75 [],.str C8,.fn 108 [],.str CW,.fn 79 [],.str Cn,.fn 109 [],
 .str CE,.fn 110 [],.str CA,.fn 111 [],
 .str Co,.fn 112 [.ptr [.str Co] 0],.str CR,.fn 112 [.ptr [.str CR] 0],.str CY,.fn 112 [.ptr [.str CY] 0],.str CS,.fn 112 [.ptr [.str CS] 0],.str Cu,.fn 112 [.ptr [.str Cu] 0],.str CB,.fn 112 [.ptr [.str CB] 0],
 .str Eo,.fn 114 [.ptr [.str Eo] 0],.str Dm,.fn 114 [.ptr [.str Dm] 0]]
theorem VH:Ax B0 .cl (.fn 49 []) []=some Hs:=Pp (n:=60) (by decide) (by kernel_rfl) rfl rfl
theorem Cw {g x:List UInt8} {v:PV} {es:List PV} (h:¬ g=x):DJ (.str g) (.str x :: v :: es)=DJ (.str g) es:=by
 have:(g==x)=false:=by simp[h]
 simp[DJ,IY,this]
theorem DS {g:List UInt8} {v:PV} {es:List PV}:DJ (.str g) (.str g :: v :: es)=some (some v):=by simp[DJ,IY]
def Ck (g:List UInt8):Bool:=[DM,Dj,C8,CW,Cn,CE,CA,Co,CR,CY,CS,Cu,CB,Eo,Dm].contains g
def nDy (g:List UInt8) (x y:Int):Int×NE :=
 if g=DM then nAdd x y else if g=Dj then MF x y else if g=C8 then Oa x y else if g=CW then KP x y else if g=Cn then (NA x y,.ok)
 else if g=CE then (max x y,.ok) else if g=CA then (min x y,.ok)
 else if g=Co\/g=CR\/g=CY\/g=CS\/g=Cu\/g=CB then (Dk (Fq g x y),.ok)
 else if g=Eo\/g=Dm then JL g x y else (0,.dom g)
theorem Xb (g:List UInt8):(∃ f,DJ (.str g) (match Hs with | .imap es=>es | _=>[])=some (some f)/\Ck g=true/\(∀ x y,Ax B0 .cl f [Ci x y]=some (B7 (nDy g x y)))/\okV f=true/\∃ k c,f=.fn k c)
  \/ (DJ (.str g) (match Hs with | .imap es=>es | _=>[])=some none/\Ck g=false/\∀ x y,nDy g x y=(0,.dom g)):=by
 unfold Hs;dsimp only
 by_cases h1:g=DM
 ·subst h1;exact .inl ⟨_,DS,rfl,fun x y=>add_run x y,rfl,_,_,rfl⟩
 rw[Cw h1];by_cases h2:g=Dj
 ·subst h2;exact .inl ⟨_,DS,rfl,fun x y=>Pq x y,rfl,_,_,rfl⟩
 rw[Cw h2];by_cases h3:g=C8
 ·subst h3;exact .inl ⟨_,DS,rfl,fun x y=>times_run x y,rfl,_,_,rfl⟩
 rw[Cw h3];by_cases h4:g=CW
 ·subst h4;exact .inl ⟨_,DS,rfl,fun x y=>UN x y,rfl,_,_,rfl⟩
 rw[Cw h4];by_cases h5:g=Cn
 ·subst h5;exact .inl ⟨_,DS,rfl,fun x y=>Yd x y,rfl,_,_,rfl⟩
 rw[Cw h5];by_cases h6:g=CE
 ·subst h6;exact .inl ⟨_,DS,rfl,fun x y=>max_run x y,rfl,_,_,rfl⟩
 rw[Cw h6];by_cases h7:g=CA
 ·subst h7;exact .inl ⟨_,DS,rfl,fun x y=>min_run' x y,rfl,_,_,rfl⟩
 rw[Cw h7];by_cases h8:g=Co
 ·subst h8;exact .inl ⟨_,DS,rfl,fun x y=>LZ (cmp_eq x y),rfl,_,_,rfl⟩
 rw[Cw h8];by_cases h9:g=CR
 ·subst h9;exact .inl ⟨_,DS,rfl,fun x y=>LZ (cmp_ne x y),rfl,_,_,rfl⟩
 rw[Cw h9];by_cases h10:g=CY
 ·subst h10;exact .inl ⟨_,DS,rfl,fun x y=>LZ (cmp_lt x y),rfl,_,_,rfl⟩
 rw[Cw h10];by_cases h11:g=CS
 ·subst h11;exact .inl ⟨_,DS,rfl,fun x y=>LZ (cmp_gt x y),rfl,_,_,rfl⟩
 rw[Cw h11];by_cases h12:g=Cu
 ·subst h12;exact .inl ⟨_,DS,rfl,fun x y=>LZ (cmp_le x y),rfl,_,_,rfl⟩
 rw[Cw h12];by_cases h13:g=CB
 ·subst h13;exact .inl ⟨_,DS,rfl,fun x y=>LZ (cmp_ge x y),rfl,_,_,rfl⟩
 rw[Cw h13];by_cases h14:g=Eo
 ·subst h14;exact .inl ⟨_,DS,rfl,fun x y=>UP Eo x y,rfl,_,_,rfl⟩
 rw[Cw h14];by_cases h15:g=Dm
 ·subst h15;exact .inl ⟨_,DS,rfl,fun x y=>UP Dm x y,rfl,_,_,rfl⟩
 rw[Cw h15];refine .inr ⟨rfl,?_,fun x y=>?_⟩;·simp[Ck,h1,h2,h3,h4,h5,h6,h7,h8,h9,h10,h11,h12,h13,h14,h15]
 ·simp[nDy,h1,h2,h3,h4,h5,h6,h7,h8,h9,h10,h11,h12,h13,h14,h15]
theorem SC (g:List UInt8):Ax B0 .cl (.fn 23 []) [.str g]=some (.bool (Ck g)):=by
 refine call (d:=fun _=>.cl) rfl (by decide) rfl rfl ?_;rw[ZZ,Z1,run23,VH];simp only[Ao];rcases Xb g with ⟨f,h1,h2,_,_,k,c,rfl⟩ | ⟨h1,h2,_⟩
 ·rw[h2,show Ad (.lookup .str .nilF false (.c Hs) (.c (.str g)))=some (.fn k c) by unfold Hs at h1 |-;simp only[Ad,exec,RX.ev];rw[h1];rfl];rfl
 ·rw[h2,show Ad (.lookup .str .nilF false (.c Hs) (.c (.str g)))=some .nilF by unfold Hs at h1 |-;simp only[Ad,exec,RX.ev];rw[h1];rfl];rfl
theorem dy_run (g:List UInt8) (x y:Int):Ax B0 .cl (.fn 52 []) [.str g,I x,I y]=some (.tup [I (nDy g x y).1,I (nDy g x y).2.no]):=by
 refine call (d:=fun _=>.cl) rfl (by decide) rfl rfl ?_;rw[ZZ,ZZ,ZZ,Z1,run52];unfold wa wb wi wv;rw[VH];simp only[Ao];rcases Xb g with ⟨f,h1,h2,h3,_,k,c,rfl⟩ | ⟨h1,h2,h3⟩
 ·rw[show Ad (.lookup .str .nilF true (.c Hs) (.c (.str g)))=some (.tup [.fn k c,.bool true]) by unfold Hs at h1 |-;simp only[Ad,exec,RX.ev];rw[h1];rfl];simp only[Ao,B3,af,ai,Ca,Z8,Bv];rw[show Ad (.build [.int .i64 0,.int .i64 0] [(0,(1,.c (I x))),(1,(1,.c (I y)))])=some (Ci x y) from rfl];simp only[Ao];rw[show Ad (.build [.int .i64 0,.int .i64 0] [(0,(2,.c (Ci x y)))])=some (Ci x y) from rfl];simp only[Ao,h3,FD,FC,O7]
 ·rw[show Ad (.lookup .str .nilF true (.c Hs) (.c (.str g)))=some (.tup [.nilF,.bool false]) by unfold Hs at h1 |-;simp only[Ad,exec,RX.ev];rw[h1];rfl];simp only[Ao,B3,af,ai,Ca,ax,BN,PT,show PV.iface 124 (.agg [.str g])=(NE.dom g).pv from rfl,O7,h3];rfl
def nNeg (y:Int):Int×NE:=MF 0 y
def nSign (y:Int):Int:=i64 (Dk (decide (0 < y)) - Dk (decide (y < 0)))
def nNot (y:Int):Int×NE:=Gb ((y==0)||(y==1)) (i64 (1 - y)) (.dom Fs)
theorem Sk (y:Int):Ax B0 .cl (.fn 73 []) [I y]=some (B7 (y,.ok)):=by
 refine call (d:=fun _=>.cl) rfl (by decide) rfl rfl ?_;rw[ZZ,Z1,run73];rfl
theorem WT (y:Int):Ax B0 .cl (.fn 74 []) [I y]=some (B7 (nNeg y)):=by
 refine call (d:=fun _=>.cl) rfl (by decide) rfl rfl ?_;rw[ZZ,Z1,run74];unfold wa wb wv;rw[show Ad (.build [.int .i64 0,.int .i64 0] [(0,(1,.c (.int .i64 0))),(1,(1,.c (I y)))])=some (Ci 0 y) from rfl];simp only[Ao];rw[show Ad (.build [.int .i64 0,.int .i64 0] [(0,(2,.c (Ci 0 y)))])=some (Ci 0 y) from rfl];simp only[Ao,Pq,FD,FC];rfl
theorem sign_run (y:Int):Ax B0 .cl (.fn 76 []) [I y]=some (B7 (nSign y,.ok)):=by
 refine call (d:=fun _=>.cl) rfl (by decide) rfl rfl ?_;rw[ZZ,Z1,run76];unfold wm wv;simp only[A3,Cz,AS,Ao,KT,I6];rfl
theorem recip_run (y:Int):Ax B0 .cl (.fn 78 []) [I y]=some (B7 (KP 1 y)):=by
 refine call (d:=fun _=>.cl) rfl (by decide) rfl rfl ?_;rw[ZZ,Z1,run78];unfold wa wb wv;rw[show Ad (.build [.int .i64 0,.int .i64 0] [(0,(1,.c (.int .i64 1))),(1,(1,.c (I y)))])=some (Ci 1 y) from rfl];simp only[Ao];rw[show Ad (.build [.int .i64 0,.int .i64 0] [(0,(2,.c (Ci 1 y)))])=some (Ci 1 y) from rfl];simp only[Ao,UN,FD,FC];rfl
theorem not_run (y:Int):Ax B0 .cl (.fn 80 []) [I y]=some (B7 (nNot y)):=by
 refine call (d:=fun _=>.cl) rfl (by decide) rfl rfl ?_;rw[ZZ,Z1,run80];unfold wa wb wl;simp only[A3,I6,CN,Ao,PT,An,L6,AJ,Mz,show PV.iface 124 (.agg [.str [126]])=(NE.dom Fs).pv from rfl,MG,FD,FC];unfold nNot;cases y==0<;>rfl
def nAbs (y:Int):Int×NE:=if y < 0 then nNeg y else (y,.ok)
theorem abs_run (y:Int):Ax B0 .cl (.fn 82 [.ptr [.fn 74 []] 0]) [I y]=some (B7 (nAbs y)):=by
 refine callC (d:=fun _=>.cl) rfl (by decide) rfl rfl ?_;simp only[bM,aK,ZZ,Z1];rw[run82];unfold wa wb wh wm;simp only[A3,AS,Ao,An,Kx,JB,WT,FD,FC];unfold nAbs;by_cases h:y < 0<;>simp[h]<;>rfl
def Hj:PV:=.imap [.str DM,.fn 73 [],.str CE,.fn 73 [],.str CA,.fn 73 [],.str Dj,.fn 74 [],.str C8,.fn 76 [],.str CW,.fn 78 [],.str Fs,.fn 80 [],
 .str Cn,.fn 82 [.ptr [.fn 74 []] 0]]
theorem Ut:Ax B0 .cl (.fn 34 []) []=some Hj:=Pp (n:=60) (by decide) (by kernel_rfl) rfl rfl
def Dv (g:List UInt8):Bool:=[DM,CE,CA,Dj,C8,CW,Fs,Cn].contains g
def Cm (g:List UInt8) (y:Int):Int×NE :=
 if g=DM then (y,.ok) else if g=CE then (y,.ok) else if g=CA then (y,.ok) else if g=Dj then nNeg y else if g=C8 then (nSign y,.ok) else if g=CW then KP 1 y else if g=Fs then nNot y
 else if g=Cn then nAbs y else (0,.dom g)
theorem V8 (g:List UInt8):(∃ f,DJ (.str g) (match Hj with | .imap es=>es | _=>[])=some (some f)/\Dv g=true/\(∀ y,Ax B0 .cl f [I y]=some (B7 (Cm g y)))/\okV f=true/\∃ k c,f=.fn k c)
  \/ (DJ (.str g) (match Hj with | .imap es=>es | _=>[])=some none/\Dv g=false/\∀ y,Cm g y=(0,.dom g)):=by
 unfold Hj;dsimp only
 by_cases h1:g=DM
 ·subst h1;exact .inl ⟨_,DS,rfl,fun y=>Sk y,rfl,_,_,rfl⟩
 rw[Cw h1];by_cases h2:g=CE
 ·subst h2;exact .inl ⟨_,DS,rfl,fun y=>Sk y,rfl,_,_,rfl⟩
 rw[Cw h2];by_cases h3:g=CA
 ·subst h3;exact .inl ⟨_,DS,rfl,fun y=>Sk y,rfl,_,_,rfl⟩
 rw[Cw h3];by_cases h4:g=Dj
 ·subst h4;exact .inl ⟨_,DS,rfl,fun y=>WT y,rfl,_,_,rfl⟩
 rw[Cw h4];by_cases h5:g=C8
 ·subst h5;exact .inl ⟨_,DS,rfl,fun y=>sign_run y,rfl,_,_,rfl⟩
 rw[Cw h5];by_cases h6:g=CW
 ·subst h6;exact .inl ⟨_,DS,rfl,fun y=>recip_run y,rfl,_,_,rfl⟩
 rw[Cw h6];by_cases h7:g=Fs
 ·subst h7;exact .inl ⟨_,DS,rfl,fun y=>not_run y,rfl,_,_,rfl⟩
 rw[Cw h7];by_cases h8:g=Cn
 ·subst h8;exact .inl ⟨_,DS,rfl,fun y=>abs_run y,rfl,_,_,rfl⟩
 rw[Cw h8];refine .inr ⟨rfl,?_,fun y=>?_⟩;·simp[Dv,h1,h2,h3,h4,h5,h6,h7,h8]
 ·simp[Cm,h1,h2,h3,h4,h5,h6,h7,h8]
theorem R6 (g:List UInt8):Ax B0 .cl (.fn 17 []) [.str g]=some (.bool (Dv g)):=by
 refine call (d:=fun _=>.cl) rfl (by decide) rfl rfl ?_;rw[ZZ,Z1,run17,Ut];simp only[Ao];rcases V8 g with ⟨f,h1,h2,_,_,k,c,rfl⟩ | ⟨h1,h2,_⟩
 ·rw[h2,show Ad (.lookup .str .nilF false (.c Hj) (.c (.str g)))=some (.fn k c) by unfold Hj at h1 |-;simp only[Ad,exec,RX.ev];rw[h1];rfl];rfl
 ·rw[h2,show Ad (.lookup .str .nilF false (.c Hj) (.c (.str g)))=some .nilF by unfold Hj at h1 |-;simp only[Ad,exec,RX.ev];rw[h1];rfl];rfl
theorem mon_run (g:List UInt8) (y:Int):Ax B0 .cl (.fn 38 []) [.str g,I y]=some (.tup [I (Cm g y).1,I (Cm g y).2.no]):=by
 refine call (d:=fun _=>.cl) rfl (by decide) rfl rfl ?_;rw[ZZ,ZZ,Z1,run38];unfold wa wb wi wv;rw[Ut];simp only[Ao];rcases V8 g with ⟨f,h1,h2,h3,_,k,c,rfl⟩ | ⟨h1,h2,h3⟩
 ·rw[show Ad (.lookup .str .nilF true (.c Hj) (.c (.str g)))=some (.tup [.fn k c,.bool true]) by unfold Hj at h1 |-;simp only[Ad,exec,RX.ev];rw[h1];rfl];simp only[Ao,B3,af,ai,Ca,Z8,Bv,h3,FD,FC,O7]
 ·rw[show Ad (.lookup .str .nilF true (.c Hj) (.c (.str g)))=some (.tup [.nilF,.bool false]) by unfold Hj at h1 |-;simp only[Ad,exec,RX.ev];rw[h1];rfl];simp only[Ao,B3,af,ai,Ca,ax,BN,PT,show PV.iface 124 (.agg [.str g])=(NE.dom g).pv from rfl,O7,h3];rfl
end Go.Ab.Derive2


namespace Go.Ab
@[simp] theorem MD (a0 a1 a2 a3 a4 a5 a6 a7 a8 x:PV) (l:List PV):Aa (a0 :: a1 :: a2 :: a3 :: a4 :: a5 :: a6 :: a7 :: a8 :: x :: l) 9=x:=rfl
@[simp] theorem P4 (a0 a1 a2 a3 a4 a5 a6 a7 a8 a9 x:PV) (l:List PV):Aa (a0 :: a1 :: a2 :: a3 :: a4 :: a5 :: a6 :: a7 :: a8 :: a9 :: x :: l) 10=x:=rfl
@[simp] theorem nth_11 (a0 a1 a2 a3 a4 a5 a6 a7 a8 a9 a10 x:PV) (l:List PV):Aa (a0 :: a1 :: a2 :: a3 :: a4 :: a5 :: a6 :: a7 :: a8 :: a9 :: a10 :: x :: l) 11=x:=rfl
@[simp] theorem nth_12 (a0 a1 a2 a3 a4 a5 a6 a7 a8 a9 a10 a11 x:PV) (l:List PV):Aa (a0 :: a1 :: a2 :: a3 :: a4 :: a5 :: a6 :: a7 :: a8 :: a9 :: a10 :: a11 :: x :: l) 12=x:=rfl
@[simp] theorem nth_13 (a0 a1 a2 a3 a4 a5 a6 a7 a8 a9 a10 a11 a12 x:PV) (l:List PV):Aa (a0 :: a1 :: a2 :: a3 :: a4 :: a5 :: a6 :: a7 :: a8 :: a9 :: a10 :: a11 :: a12 :: x :: l) 13=x:=rfl
end Go.Ab


namespace Go.Ab.Derive2
open Go Go.Ab
inductive H2:List PV->List Arr->Prop
 | nil:H2 [] []
 | cons {v:PV} {a:Arr} {vs:List PV} {l:List Arr}:AK v a->H2 vs l->H2 (v :: vs) (a :: l)
theorem H2.ok {vs:List PV} {l:List Arr} (h:H2 vs l):At vs=true:=by
 induction h with
 | nil=>rfl
 | cons h _ ih=>simp[At,h.ok,ih]
theorem H2.len {vs:List PV} {l:List Arr} (h:H2 vs l):vs.length=l.length:=by
 induction h with
 | nil=>rfl
 | cons h _ ih=>simp[ih]
theorem H2.get {vs:List PV} {l:List Arr} (h:H2 vs l):∀ i (hi:i < l.length),∃ v,vs[i]?=some v/\AK v l[i]:=by
 induction h with
 | nil=>intro i hi;simp at hi
 | cons h _ ih =>
  intro i hi;cases i with
  | zero=>exact⟨_,rfl,h⟩
  | succ i=>exact ih i (by simpa using hi)
theorem Lh {xs:List PV} {j:Nat} {f:Bool} {a b c:PV} (h:xs[j]?=some (.agg [a,b,c])):Ad (.idxAddr 3 (.c (.sl 3 xs f)) (.c (I j)))=some (.ptr [a,b,c] 0):=by
 rw[I,LI (by omega) h];rfl
theorem IW (a b c:PV):Ad (.load 3 true (.c (.ptr [a,b,c] 0)))=some (.agg [a,b,c]):=rfl
theorem bV {α β:Type} (a:α) (f:α->Option β):Ac (some a) f=f a:=aP rfl rfl
theorem cT {β:Type} (a:Option β):Af true a=a:=aP rfl rfl
inductive IsB:PV->List Arr->Prop
 | nil:IsB .nilS []
 | sl {vs:List PV} {l:List Arr} (f:Bool) (h:H2 vs l):IsB (.sl 3 vs f) l
theorem E0 (n:Int):AT 1 [I n]=true:=rfl
end Go.Ab.Derive2


namespace Go.Ab.Derive2
open Go Go.Ab
theorem IU:Ad (.build [.bool false,.bool false,.nilS] [])=some (.agg [.bool false,.bool false,.nilS]):=rfl
theorem Tu (c:Int):Ad (.build [.int .i64 0] [(0,(1,.c (.int .i64 c)))])=some (.agg [I c]):=rfl
end Go.Ab.Derive2


namespace Go.Ab.Derive2
open Go Go.Ab
theorem BZ {v:PV} {a:Arr} (h:AK v a):A1 v=true:=by
 obtain⟨x,rfl,hx⟩:=h.get;rw[C0,BX rfl rfl hx.cell]
theorem Cq {v:PV} {a:Arr} (h:AK v a):AU v 0 3 true=some v:=by
 obtain⟨x,rfl,hx⟩:=h.get;rfl
theorem FT {v:PV} {a:Arr} (h:AK v a):AA v 3=true:=by
 obtain⟨x,rfl,hx⟩:=h.get;exact Jr (BX rfl rfl hx.cell)
theorem Hm {v:PV} {a:Arr} (h:AK v a):PV.agg [Ai v 0,Ai v 1,Ai v 2]=v:=by
 obtain⟨x,rfl,hx⟩:=h.get;rfl
end Go.Ab.Derive2


namespace Go.Ab.Derive2
open Go Go.Ab
def CP (c:Int):PV:=if c=0 then .nilI else .iface 127 (.agg [I c])
theorem errV_0:CP 0=.nilI:=rfl
theorem SZ (c:Int):okV (CP c)=true:=by unfold CP;split<;>rfl
theorem errV_free (c:Int):(CP c).free=true:=by unfold CP;split<;>rfl
theorem E4 (c:Int):Ad (.bin .neq .iface true (.c (CP c)) (.c .nilI))=some (.bool (decide (c≠0))):=by
 unfold CP;by_cases h:c=0
 ·simp only[h,if_true];rfl
 ·rw[if_neg h,show decide (c≠0)=true by simp[h]];rfl
def EU:PV:=.agg [.bool false,.bool false,.nilS]
theorem Nu (c:Int):Ax B0 .cl (.fn 36 []) [CP c]=some (I c):=by
 refine call (d:=fun _=>.cl) rfl (by decide) (by simp[At,SZ]) rfl ?_;rw[ZZ,Z1,run36];unfold CP;by_cases h:c=0
 ·subst h;rfl
 ·simp only[h,if_false];rfl
theorem TQ {vs:List PV} {l:List Arr} (h:H2 vs l) (hl:l.length<=1000000) (hs:∀ a∈l,a.n.length<=1000000):A8 B0 .cl true 35 [.sl 3 vs false]=some (CP (if l.all Arr.right then 0 else 114)):=by
 refine Qr (d:=fun _=>.cl) rfl (by simp[At,okV,h.ok]) rfl ?_ (by rw[errV_free];rfl);rw[ZZ,Z1,run35];unfold wc wi wj wo wv;rw[HA,h.len];simp only[Ao];rw[show AZ [.sl 3 vs false,.int .i64 ((l.length:Nat):Int),.int .i64 0]=true from rfl,AJ]
 have key:∀ m i,i+m=l.length->Bg (fun z2=>Ac (Ad (.bin .lss .num false (.c (Aa z2.1 2)) (.c (Aa z2.1 1)))) (fun z3=>Ah z3 (Ac (Ad (.idxAddr 3 (.c (Aa z2.1 0)) (.c (Aa z2.1 2)))) (fun z4=>Ac (Ad (.load 3 true (.c z4))) (fun z5=>Af (AA z5 3) (Ac (Ax B0 .cl (.fn 32 []) [.agg [Ai z5 0,Ai z5 1,Ai z5 2]]) (fun z6=>Ac (Ad (.un .not (.c z6))) (fun z7=>Ah z7 (Ac (Ad (.build [.int .i64 0] [(0,(1,.c (.int .i64 114)))])) (fun z8=>Ac (some (PV.iface 127 z8,z2.2)) (fun z9=>some (.inr z9)))) (Ac (Ad (.bin .add .num true (.c (Aa z2.1 2)) (.c (.int .i64 1)))) (fun z10=>some (.inl ([Aa z2.1 0,Aa z2.1 1,z10],z2.2)))))))))) (Ac (some (PV.nilI,z2.2)) (fun z11=>some (.inr z11))))) (([.sl 3 vs false,I l.length,I i],()):List PV×Unit)=some (CP (if (l.drop i).all Arr.right then 0 else 114),()):=by
  intro m;induction m with
  | zero =>
   intro i hi;refine BW ?_;have:i=l.length:=by omega
   subst this;simp[CP]
  | succ m ih =>
   intro i hi;have hlt:i < l.length:=by omega
   rw[FV hlt];obtain⟨v,hv,ha⟩:=h.get i hlt;have hr:=U5 ha (hs _ (ce hlt));obtain⟨x,rfl,hx⟩:=ha.get;cases hrt:(l[i]).right with
   | false =>
    refine BW ?_;simp only[A7,A4,Bc,AS,Ao,An];rw[if_pos (by simpa using hlt),Lh hv];simp only[Ao,IW,Jr (BX (a:=.bool (l[i]).li) (b:=.bool (l[i]).ru) rfl rfl hx.cell),AJ,Jz,Jy,IC,hr,Ca,hrt,ax,An,if_true,Tu];rw[bj,hrt];rfl
   | true =>
    rw[Dq (s':=([.sl 3 vs false,I l.length,I ((i+1:Nat):Int)],()))];·rw[ih (i+1) (by omega),bj,hrt,aE]
    ·simp only[A7,A4,Bc,AS,Ao,An];rw[if_pos (by simpa using hlt),Lh hv];simp only[Ao,IW,Jr (BX (a:=.bool (l[i]).li) (b:=.bool (l[i]).ru) rfl rfl hx.cell),AJ,Jz,Jy,IC,hr,Ca,hrt,Z8,An,if_false,Z0,A3,BT,Ct (by omega:i < 9223372036854775807)]
 have:=key l.length 0 (by omega);simpa[A3] using this
def Arr.sz (a b:Arr):Int×Int:=if a.li&&(b.li&&decide (a.n.length≠b.n.length)) then (0,110) else if a.li then (a.n.length,0) else (b.n.length,0)
theorem size6 {a b:Arr} {x y:PV} (hx:Bd x a.n) (hy:Bd y b.n):Ax B0 .cl (.fn 50 []) [.agg [.bool a.li,.bool a.ru,x,.bool b.li,.bool b.ru,y]]=some (.tup [I (a.sz b).1,CP (a.sz b).2]):=by
 have hv:(PV.agg [.bool a.li,.bool a.ru,x,.bool b.li,.bool b.ru,y]).isVal=true:=by simp[PV.isVal,PV.isCell,hx.cell,hy.cell]
 refine call (d:=fun _=>.cl) rfl (by decide) (by simp[At,okV,hx.ok,hy.ok]) rfl ?_;rw[ZZ,Z1,run50];unfold wc we wg wt;rw[C0,hv,AJ]
 simp only[BU,BM,show BG [PV.bool a.li,.bool a.ru,x,.bool b.li,.bool b.ru,y] 0 1 false=some (.bool a.li) from rfl,show BG [PV.bool a.li,.bool a.ru,x,.bool b.li,.bool b.ru,y] 3 1 false=some (.bool b.li) from rfl,show BG [PV.bool a.li,.bool a.ru,x,.bool b.li,.bool b.ru,y] 2 1 false=some x from rfl,show BG [PV.bool a.li,.bool a.ru,x,.bool b.li,.bool b.ru,y] 5 1 false=some y from rfl,
  Ao,An,hx.len,hy.len,Ce,Tu]
 unfold Arr.sz
 have e:((a.n.length:Int) != (b.n.length:Int))=decide (a.n.length≠b.n.length):=by
  by_cases h:a.n.length=b.n.length
  ·simp[h]
  ·have:¬ (a.n.length:Int)=(b.n.length:Int):=by omega
   simp[h,this]
 rw[e];cases a.li<;>cases b.li<;>simp[CP]<;>(try (by_cases h:a.n.length=b.n.length<;>simp[h,CP]))<;>rfl
def Arr.text (a:Arr):Bool:=a.ru&&decide (0 < a.n.length)
theorem LQ {v:PV} {a:Arr} (h:AK v a):Ax B0 .cl (.fn 37 []) [v]=some (.bool a.text):=by
 obtain⟨x,rfl,hx⟩:=h.get;refine call (d:=fun _=>.cl) rfl (by decide) (by simp[At,h.ok]) rfl ?_;rw[ZZ,Z1,run37];unfold wc wf wg;rw[C0,BX rfl rfl hx.cell,AJ];simp only[BU,BM,HJ,GO,Hf,Ao,hx.len,An,A3,Cz];unfold Arr.text;have e:decide ((0:Int) < (a.n.length:Int))=decide (0 < a.n.length):=by by_cases h:0 < a.n.length<;>simp[h]
 rw[e];cases a.ru<;>simp
def Arr.at (a:Arr) (i:Nat):Int:=if a.li then a.n.getD i 0 else a.n.getD 0 0
def Arr.fits (a:Arr) (i:Nat):Prop:=if a.li then i < a.n.length else 0 < a.n.length
theorem of_run {v:PV} {a:Arr} (h:AK v a) {i:Nat} (hi:a.fits i):Ax B0 .cl (.fn 117 []) [v,I i]=some (I (a.at i)):=by
 obtain⟨x,rfl,hx⟩:=h.get;refine call (d:=fun _=>.cl) rfl (by decide) (by simp[At,h.ok]) rfl ?_;rw[ZZ,ZZ,Z1,run117];unfold we wg wh wr;rw[C0,BX rfl rfl hx.cell,AJ];simp only[BU,BM,HJ,GO,Hf,Ao,An];unfold Arr.at
 unfold Arr.fits at hi;cases hli:a.li with
 | true =>
  simp only[hli,if_true] at hi;simp only[if_true,hx.idx hi,Ao,CG];rw[Z9,ab hi];rfl
 | false =>
  simp only[hli,Z0,if_false] at hi;simp only[Z0,if_false];rw[show (PV.int .i64 0)=I ((0:Nat):Int) from rfl,hx.idx hi];simp only[Ao,CG];rw[Z9,ab hi];rfl
def Dc (a b:Arr) (i:Nat):Nat->List (Int×Int)
 | 0=>[]
 | m+1=>(a.at i,b.at i) :: Dc a b (i+1) m
def Lf (p:Int×Int):List PV:=[I p.1,I p.2]
theorem both_run {a b:Arr} {x y:PV} (hx:Bd x a.n) (hy:Bd y b.n) (n:Nat):Ax B0 .cl (.fn 51 []) [.agg [.bool a.li,.bool a.ru,x,.bool b.li,.bool b.ru,y],I n]=some (.fn 116 [.ptr [I n] 0,.ptr [.bool a.li,.bool a.ru,x,.bool b.li,.bool b.ru,y] 0]):=by
 have hv:(PV.agg [.bool a.li,.bool a.ru,x,.bool b.li,.bool b.ru,y]).isVal=true:=by simp[PV.isVal,PV.isCell,hx.cell,hy.cell]
 refine call (d:=fun _=>.cl) rfl (by decide) (by simp[At,okV,hx.ok,hy.ok]) rfl ?_;rw[ZZ,ZZ,Z1,run51,C0,hv,AJ,show A1 (I (n:Int))=true from rfl,AJ]
 rw[show Bh (.fn 116 [I7 (Ei (I n)) 0,I7 (Ei (.agg [.bool a.li,.bool a.ru,x,.bool b.li,.bool b.ru,y])) 0])=true by
  show okV _=true;have:okV (PV.fn 116 [.ptr [I n] 0,.ptr [.bool a.li,.bool a.ru,x,.bool b.li,.bool b.ru,y] 0])=true:=by simp[okV,At,hx.ok,hy.ok]
  exact this]
 rfl
theorem U9 {E:Type} (h:Ay E) (dep:Nat) {a b:Arr} {x y:PV} (hx:Bd x a.n) (hy:Bd y b.n) (n:Nat) (hn:n<=1000000) (hf:∀ i,i < n->a.fits i/\b.fits i) {e e':E}
  (hyy:Jo h dep ((Dc a b 0 n).map Lf) e=some e'):Hg B0 h dep (.fn 116 [.ptr [I n] 0,.ptr [.bool a.li,.bool a.ru,x,.bool b.li,.bool b.ru,y] 0]) e=some e':=by
 have hA:AK (.agg [.bool a.li,.bool a.ru,x]) a:=.mk _ _ _ _ hx;have hB:AK (.agg [.bool b.li,.bool b.ru,y]) b:=.mk _ _ _ _ hy;refine XM (HO fun _=>.cl) (g:=116) (fn:=fn116) rfl (by simp[At,okV,hx.ok,hy.ok]) (ae rfl) (u:=.tup []) ?_;simp only[ZZ,Z1];rw[run116];unfold wh wi wj wo wv;rw[Kx,JB];simp only[Ao];rw[show AZ [nI dep,.ptr [.bool a.li,.bool a.ru,x,.bool b.li,.bool b.ru,y] 0,I n,.int .i64 0]=true from rfl,AJ]
 have key:∀ m i,i+m=n->∀ e e',Jo h dep ((Dc a b i m).map Lf) e=some e'->Bg (fun z2=>Ac (Ad (.bin .lss .num false (.c (Aa z2.1 3)) (.c (Aa z2.1 2)))) (fun z3=>Ah z3 (Ac (Ad (.fieldAddr 0 (.c (Aa z2.1 1)))) (fun z4=>Ac (Ad (.load 3 true (.c z4))) (fun z5=>Ac (Ax B0 .cl (.fn 117 []) [z5,Aa z2.1 3]) (fun z6=>Ac (Ad (.fieldAddr 3 (.c (Aa z2.1 1)))) (fun z7=>Ac (Ad (.load 3 true (.c z7))) (fun z8=>Ac (Ax B0 .cl (.fn 117 []) [z8,Aa z2.1 3]) (fun z9=>Ac (h (Al (Aa z2.1 0)) [z6,z9] z2.2) (fun z10=>Ac (Ad (.un .not (.c (.bool z10.1)))) (fun z11=>Ah z11 (Ac (some (PV.tup [],z10.2)) (fun z12=>some (.inr z12))) (Ac (Ad (.bin .add .num true (.c (Aa z2.1 3)) (.c (.int .i64 1)))) (fun z13=>some (.inl ([nI (Al (Aa z2.1 0)),Aa z2.1 1,Aa z2.1 2,z13],z10.2))))))))))))) (Ac (some (PV.tup [],z2.2)) (fun z14=>some (.inr z14))))) (([nI dep,.ptr [.bool a.li,.bool a.ru,x,.bool b.li,.bool b.ru,y] 0,I n,I i],e):List PV×E)=some (.tup [],e'):=by
  intro m;induction m with
  | zero =>
   intro i hi e e' hq;have:i=n:=by omega
   subst this;cases hq;refine BW ?_;simp
  | succ m ih =>
   intro i hi e e' hq;have hlt:i < n:=by omega
   obtain⟨f1,f2⟩:=hf i hlt;have o1:=of_run hA f1;have o2:=of_run hB f2;have q0:Ad (.load 3 true (.c (.ptr [.bool a.li,.bool a.ru,x,.bool b.li,.bool b.ru,y] 0)))=some (.agg [.bool a.li,.bool a.ru,x]):=rfl;have q3:Ad (.load 3 true (.c (.ptr [.bool a.li,.bool a.ru,x,.bool b.li,.bool b.ru,y] 3)))=some (.agg [.bool b.li,.bool b.ru,y]):=rfl;have g0:Ad (.fieldAddr 0 (.c (.ptr [.bool a.li,.bool a.ru,x,.bool b.li,.bool b.ru,y] 0)))=some (.ptr [.bool a.li,.bool a.ru,x,.bool b.li,.bool b.ru,y] 0):=rfl;have g3:Ad (.fieldAddr 3 (.c (.ptr [.bool a.li,.bool a.ru,x,.bool b.li,.bool b.ru,y] 0)))=some (.ptr [.bool a.li,.bool a.ru,x,.bool b.li,.bool b.ru,y] 3):=rfl;unfold Dc at hq;simp only[ZZ,Jo,Lf] at hq;split at hq
   ·rename_i e1 hh;rw[Dq (s':=([nI dep,.ptr [.bool a.li,.bool a.ru,x,.bool b.li,.bool b.ru,y] 0,I n,I ((i+1:Nat):Int)],e1))];·exact ih (i+1) (by omega) _ _ hq
    ·simp only[A7,A4,Bc,BD,AS,Ao,An];rw[if_pos (by simpa using hlt)];simp only[g0,g3,q0,q3,o1,o2,Ao,FN,KF,CF,ah,hh,Ca,Z8,An,if_false,Z0,A3,BT,Ct (by omega:i < 9223372036854775807)]
   ·rename_i e1 hh;cases hq;refine BW ?_;simp only[A7,A4,Bc,BD,AS,Ao,An];rw[if_pos (by simpa using hlt)];simp only[g0,g3,q0,q3,o1,o2,Ao,FN,KF,CF,ah,hh,Ca,ax,An,if_true]
   ·cases hq
 have:=key n 0 (by omega) e e' hyy;simpa[A3] using this
noncomputable def K9:List PV->List PV->Unit->Option (Bool×LA Unit):=(fun z25=>fun z26=>fun z27=>Af (Ij z26 2) (Ac (Ah (Aa z25 8) (Ac (AU (Aa z25 2) 1 1 false) (fun z28=>Ac (AU (Aa z25 3) 1 1 false) (fun z29=>Ac (Ad (.bin .neq .bool false (.c z28) (.c z29))) (fun z30=>some z30)))) (some (.bool false))) (fun z31=>Ah z31 (Ac (AU (Aa z25 1) 0 1 false) (fun z32=>Ac (Ax B0 .cl (.fn 52 []) [z32,.int .i64 0,.int .i64 1]) (fun z33=>Ac (Ad (.extract 0 (.c z33))) (fun z34=>Ac (Ad (.extract 1 (.c z33))) (fun z35=>Ac (Ad (.bin .neq .num true (.c z35) (.c (.int .i64 0)))) (fun z36=>Ah z36 (Ac (Ad (.build [.bool false,.bool false,.nilS] [])) (fun z37=>Af (AA z37 3) (Af (AA z35 1) (some (false,([Aa z25 0,Aa z25 1,Aa z25 2,Aa z25 3,Ai z37 0,Ai z37 1,Ai z37 2,Ai z35 0,Aa z25 8,Aa z25 9,Aa z25 10,nI (Al (Aa z25 11)),.sl 1 (Ap (Aa z25 12)) false],(some .ret,z27))))))) (Af (AT 1 [z34]) (Af (Az (Av 0 (Ae [z34])) (Ae [z34])) (Af (Bi (Az (Al (Aa z25 11)) (Ae (Ap (Aa z25 12)))) (Az (Av (Al (Aa z25 11)) (Ae (As (Ae [z34]) (AG 0 [z34])))) 2147483648)) (some (true,([Aa z25 0,Aa z25 1,Aa z25 2,Aa z25 3,Aa z25 4,Aa z25 5,Aa z25 6,Aa z25 7,Aa z25 8,Aa z25 9,Aa z25 10,nI (Av (Al (Aa z25 11)) (Ae (As (Ae [z34]) (AG 0 [z34])))),.sl 1 (A9 (As (Al (Aa z25 11)) (Ap (Aa z25 12))) (As (Ae [z34]) (AG 0 [z34]))) false],(none,z27))))))))))))) (Ac (AU (Aa z25 1) 0 1 false) (fun z38=>Ac (Ax B0 .cl (.fn 52 []) [z38,Aa z26 0,Aa z26 1]) (fun z39=>Ac (Ad (.extract 0 (.c z39))) (fun z40=>Ac (Ad (.extract 1 (.c z39))) (fun z41=>Ac (Ad (.bin .neq .num true (.c z41) (.c (.int .i64 0)))) (fun z42=>Ah z42 (Ac (Ad (.build [.bool false,.bool false,.nilS] [])) (fun z43=>Af (AA z43 3) (Af (AA z41 1) (some (false,([Aa z25 0,Aa z25 1,Aa z25 2,Aa z25 3,Ai z43 0,Ai z43 1,Ai z43 2,Ai z41 0,Aa z25 8,Aa z25 9,Aa z25 10,nI (Al (Aa z25 11)),.sl 1 (Ap (Aa z25 12)) false],(some .ret,z27))))))) (Af (AT 1 [z40]) (Af (Az (Av 0 (Ae [z40])) (Ae [z40])) (Af (Bi (Az (Al (Aa z25 11)) (Ae (Ap (Aa z25 12)))) (Az (Av (Al (Aa z25 11)) (Ae (As (Ae [z40]) (AG 0 [z40])))) 2147483648)) (some (true,([Aa z25 0,Aa z25 1,Aa z25 2,Aa z25 3,Aa z25 4,Aa z25 5,Aa z25 6,Aa z25 7,Aa z25 8,Aa z25 9,Aa z25 10,nI (Av (Al (Aa z25 11)) (Ae (As (Ae [z40]) (AG 0 [z40])))),.sl 1 (A9 (As (Al (Aa z25 11)) (Ap (Aa z25 12))) (As (Ae [z40]) (AG 0 [z40]))) false],(none,z27))))))))))))))))
def DQ (f:Int->Int->Int×NE):List (Int×Int)->Sum Int (List Int)
 | []=>.inr []
 | p :: l=>if (f p.1 p.2).2.no≠0 then .inl (f p.1 p.2).2.no else match DQ f l with
  | .inl c=>.inl c
  | .inr r=>.inr ((f p.1 p.2).1 :: r)
def B6 (g:List UInt8) (sub:Bool) (x y:Int):Int×NE:=if sub then nDy g 0 1 else nDy g x y
def Iq (z:PV) (g:List UInt8) (a b:Arr) (x y:PV) (eqv li:Bool) (w:List PV) (k:Nat) (xs:List PV):List PV :=
 [z,.str g,.agg [.bool a.li,.bool a.ru,x],.agg [.bool b.li,.bool b.ru,y]]++w++[.bool eqv,.bool li,.bool false,nI k,.sl 1 xs false]
theorem O6 (n:Int):AT 1 [I n]=true:=rfl
theorem ZN (z:PV) (g:List UInt8) (a b:Arr) (x y:PV) (eqv li:Bool) (c0 c1 c2 c3:PV) (acc:List Int) (hacc:acc.length < 1000000) (p:Int×Int) :
  K9 (Iq z g a b x y eqv li [c0,c1,c2,c3] acc.length (Am acc)) (Lf p) () =
   let r:=B6 g (eqv&&(a.ru != b.ru)) p.1 p.2
   if r.2.no≠0 then some (false,(Iq z g a b x y eqv li [.bool false,.bool false,.nilS,I r.2.no] acc.length (Am acc),(some .ret,())))
   else some (true,(Iq z g a b x y eqv li [c0,c1,c2,c3] (acc++[r.1]).length (Am (acc++[r.1])),(none,()))):=by
 unfold K9 Iq;simp only[bM,aK,A7,A4,Bc,BD,Cl,DI,DH,Ea,ET,Lf];rw[show Ij [I p.1,I p.2] 2=true from rfl,AJ]
 simp only[An,BU,BM,VK,JB,GO,Ao,HD,dy_run,B3,af,ai,A3,Ce,IU,A7,A4,
  show AA (.agg [.bool false,.bool false,.nilS]) 3=true from rfl,AJ,Jz,Jy,IC,O6]
 have hlen:∀ n,(decide (acc.length<=(Am acc).length)&&decide (acc.length+((Am acc).length - (Am acc).length+1)<=n))=decide (acc.length+1<=n):=fun n=>by simp[BC]
 have fin:∀ r:Int×NE,(if (r.2.no != 0)=true then Af (AA (I r.2.no) 1) (some (false,([z,.str g,.agg [.bool a.li,.bool a.ru,x],.agg [.bool b.li,.bool b.ru,y],.bool false,.bool false,.nilS,Ai (I r.2.no) 0,.bool eqv,.bool li,.bool false,nI (Al (Aa [z,.str g,.agg [.bool a.li,.bool a.ru,x],.agg [.bool b.li,.bool b.ru,y],c0,c1,c2,c3,.bool eqv,.bool li,.bool false,nI acc.length,.sl 1 (Am acc) false] 11)),.sl 1 (Ap (Aa [z,.str g,.agg [.bool a.li,.bool a.ru,x],.agg [.bool b.li,.bool b.ru,y],c0,c1,c2,c3,.bool eqv,.bool li,.bool false,nI acc.length,.sl 1 (Am acc) false] 12)) false],(some Ex.ret,()))))
   else Af (Az (Av 0 (Ae [I r.1])) (Ae [I r.1])) (Af (Bi (Az (Al (Aa [z,.str g,.agg [.bool a.li,.bool a.ru,x],.agg [.bool b.li,.bool b.ru,y],c0,c1,c2,c3,.bool eqv,.bool li,.bool false,nI acc.length,.sl 1 (Am acc) false] 11)) (Ae (Ap (Aa [z,.str g,.agg [.bool a.li,.bool a.ru,x],.agg [.bool b.li,.bool b.ru,y],c0,c1,c2,c3,.bool eqv,.bool li,.bool false,nI acc.length,.sl 1 (Am acc) false] 12)))) (Az (Av (Al (Aa [z,.str g,.agg [.bool a.li,.bool a.ru,x],.agg [.bool b.li,.bool b.ru,y],c0,c1,c2,c3,.bool eqv,.bool li,.bool false,nI acc.length,.sl 1 (Am acc) false] 11)) (Ae (As (Ae [I r.1]) (AG 0 [I r.1])))) 2147483648)) (some (true,([z,.str g,.agg [.bool a.li,.bool a.ru,x],.agg [.bool b.li,.bool b.ru,y],c0,c1,c2,c3,.bool eqv,.bool li,.bool false,nI (Av (Al (Aa [z,.str g,.agg [.bool a.li,.bool a.ru,x],.agg [.bool b.li,.bool b.ru,y],c0,c1,c2,c3,.bool eqv,.bool li,.bool false,nI acc.length,.sl 1 (Am acc) false] 11)) (Ae (As (Ae [I r.1]) (AG 0 [I r.1])))),.sl 1 (A9 (As (Al (Aa [z,.str g,.agg [.bool a.li,.bool a.ru,x],.agg [.bool b.li,.bool b.ru,y],c0,c1,c2,c3,.bool eqv,.bool li,.bool false,nI acc.length,.sl 1 (Am acc) false] 11)) (Ap (Aa [z,.str g,.agg [.bool a.li,.bool a.ru,x],.agg [.bool b.li,.bool b.ru,y],c0,c1,c2,c3,.bool eqv,.bool li,.bool false,nI acc.length,.sl 1 (Am acc) false] 12))) (As (Ae [I r.1]) (AG 0 [I r.1]))) false],((none:Option Ex),())))))) =
   (if r.2.no≠0 then some (false,([z,.str g,.agg [.bool a.li,.bool a.ru,x],.agg [.bool b.li,.bool b.ru,y],.bool false,.bool false,.nilS,I r.2.no,.bool eqv,.bool li,.bool false,nI acc.length,.sl 1 (Am acc) false],(some Ex.ret,())))
   else some (true,([z,.str g,.agg [.bool a.li,.bool a.ru,x],.agg [.bool b.li,.bool b.ru,y],c0,c1,c2,c3,.bool eqv,.bool li,.bool false,nI (acc++[r.1]).length,.sl 1 (Am (acc++[r.1])) false],(none,())))):=by
  intro r;by_cases h:r.2.no=0
  ·rw[if_neg (by simp[h]),if_neg (by simp[h])];show Af (Az (0+1) 1) (Af (Bi (Az (Al (nI acc.length)) (Am acc).length) (Az (Al (nI acc.length)+1) 2147483648)) (some (true,(_,(none,())))))=_;simp only[P7,N1,FN,KF,ah,BC];rw[show (decide (0+1<=1))=true from rfl,AJ,show (decide (acc.length<=acc.length)&&decide (acc.length+1<=2147483648))=true by simp;omega,AJ];have e1:Al (nI acc.length)=acc.length:=by simp
   show some (true,([z,.str g,.agg [.bool a.li,.bool a.ru,x],.agg [.bool b.li,.bool b.ru,y],c0,c1,c2,c3,.bool eqv,.bool li,.bool false,nI (Al (nI acc.length)+1),.sl 1 ((Am acc).take (Al (nI acc.length))++[I r.1]) false],((none:Option Ex),())))=_;rw[e1,av (by rw[BC];exact Z5 _),aF,show Am (acc++[r.1])=Am acc++[I r.1] by simp[Am]];rfl
  ·rw[if_pos (by simp[h]),if_pos h];rfl
 unfold B6;cases eqv with
 | false =>
  simp only[Z0,if_false,bq];exact fin _
 | true =>
  simp only[if_true,aE];have e:(!(a.ru==b.ru))=(a.ru != b.ru):=rfl;rw[e];cases a.ru != b.ru with
  | false =>
   simp only[Z0,if_false];exact fin _
  | true =>
   simp only[if_true];exact fin _
theorem Yl (body:List PV->List PV->Unit->Option (Bool×LA Unit)) (vs args:List PV):Gp 0 AP body 0 args (vs,(none,()))=body vs args ():=rfl
theorem dyAll_run (z:PV) (g:List UInt8) (a b:Arr) (x y:PV) (eqv li:Bool) (c0 c1 c2 c3:PV):∀ (ps:List (Int×Int)) (acc:List Int),acc.length+ps.length < 1000000 ->
  match DQ (B6 g (eqv&&(a.ru != b.ru))) ps with
  | .inl c=>∃ k xs,Jo (Gp 0 AP K9) 0 (ps.map Lf) (Iq z g a b x y eqv li [c0,c1,c2,c3] acc.length (Am acc),(none,()))=some (Iq z g a b x y eqv li [.bool false,.bool false,.nilS,I c] k xs,(some .ret,()))
  | .inr r=>Jo (Gp 0 AP K9) 0 (ps.map Lf) (Iq z g a b x y eqv li [c0,c1,c2,c3] acc.length (Am acc),(none,()))=some (Iq z g a b x y eqv li [c0,c1,c2,c3] (acc++r).length (Am (acc++r)),(none,())):=by
 intro ps;induction ps with
 | nil=>intro acc _;simp[DQ,Jo]
 | cons p ps ih =>
  intro acc hl;simp only[be] at hl;have hb:=ZN z g a b x y eqv li c0 c1 c2 c3 acc (by omega) p;simp only at hb;unfold DQ;simp only[ZZ,Jo,Yl];rw[hb];by_cases h:(B6 g (eqv&&(a.ru != b.ru)) p.1 p.2).2.no=0
  ·simp only[h,ne_eq,not_true_eq_false,if_false];have hi:=ih (acc++[(B6 g (eqv&&(a.ru != b.ru)) p.1 p.2).1]) (by simp;omega);cases hd:DQ (B6 g (eqv&&(a.ru != b.ru))) ps with
   | inl c =>
    rw[hd] at hi;exact hi
   | inr r =>
    rw[hd] at hi;simp only at hi |-;rw[hi];simp
  ·simp only[h,ne_eq,not_false_eq_true,if_true];exact⟨_,_,rfl⟩
theorem dyTail {a b:Arr} {x y:PV} (hx:Bd x a.n) (hy:Bd y b.n) (g:List UInt8) (eqv li:Bool) (n:Nat) (hn:n < 1000000) (hf:∀ i,i < n->a.fits i/\b.fits i) :
  (Ac (Ax B0 .cl (.fn 51 []) [.agg [.bool a.li,.bool a.ru,x,.bool b.li,.bool b.ru,y],I n]) (fun z24=>CO (.nilS) (Ac (Hg B0 (Gp 0 AP K9) 0 z24 ([z24,.str g,.agg [.bool a.li,.bool a.ru,x],.agg [.bool b.li,.bool b.ru,y],.bool false,.bool false,.nilS,.int .i64 0,.bool eqv,.bool li,.bool false,nI 0,.sl 1 [] false],(none,()))) (fun z44=>DL (JD z44.2.1) (Af (AA (.int .i64 0) 1) (Af (Bh (PV.tup [.agg [Aa z44.1 9,Aa z44.1 10,AD 1 1 (Ap (Aa z44.1 12)) 0 (Al (Aa z44.1 11))],Ai (.int .i64 0) 0])) (some (PV.tup [.agg [Aa z44.1 9,Aa z44.1 10,AD 1 1 (Ap (Aa z44.1 12)) 0 (Al (Aa z44.1 11))],Ai (.int .i64 0) 0],z44.2.2)))) (DL (IN z44.2.1) (some (PV.tup [.agg [Aa z44.1 4,Aa z44.1 5,Aa z44.1 6],Aa z44.1 7],z44.2.2)) none))))) =
   match DQ (B6 g (eqv&&(a.ru != b.ru))) (Dc a b 0 n) with
   | .inl c=>some (PV.tup [EU,I c],())
   | .inr r=>some (PV.tup [.agg [.bool li,.bool false,.sl 1 (Am r) false],I 0],()):=by
 rw[both_run hx hy n];simp only[Ao]
 have hlen:(Dc a b 0 n).length=n:=by
  have:∀ m i,(Dc a b i m).length=m:=by
   intro m;induction m with
   | zero=>intro i;rfl
   | succ m ih=>intro i;simp[Dc,ih]
  exact this n 0
 have hall:=dyAll_run (.fn 116 [.ptr [I n] 0,.ptr [.bool a.li,.bool a.ru,x,.bool b.li,.bool b.ru,y] 0]) g a b x y eqv li (.bool false) (.bool false) .nilS (.int .i64 0) (Dc a b 0 n) [] (by simp[hlen];omega);unfold CO;dsimp only
 cases hd:DQ (B6 g (eqv&&(a.ru != b.ru))) (Dc a b 0 n) with
 | inl c =>
  rw[hd] at hall;obtain⟨k,xs,hall⟩:=hall;have hr:=U9 (Gp 0 AP K9) 0 hx hy n (by omega) hf hall;unfold Iq at hr;simp only[bM,aK,b9,show Am []=[] from rfl] at hr;rw[hr];rfl
 | inr r =>
  rw[hd] at hall;simp only[aK] at hall;have hr:=U9 (Gp 0 AP K9) 0 hx hy n (by omega) hf hall;unfold Iq at hr;simp only[bM,aK,b9,show Am []=[] from rfl] at hr;rw[hr]
  have es:AD 1 1 (Am r) 0 r.length=.sl 1 (Am r) false:=by
   unfold AD;rw[if_pos ⟨rfl,by rw[BC];omega⟩,bB,av (by rw[BC];exact Z5 _)]
  simp only[Ao];show Af (AA (.int .i64 0) 1) (Af (Bh (PV.tup [.agg [.bool li,.bool false,AD 1 1 (Am r) 0 (Al (nI r.length))],Ai (.int .i64 0) 0])) (some (PV.tup [.agg [.bool li,.bool false,AD 1 1 (Am r) 0 (Al (nI r.length))],Ai (.int .i64 0) 0],())))=_
  rw[FN,KF,ah,es,show AA (.int .i64 0) 1=true from rfl,AJ,show Bh (.tup [.agg [.bool li,.bool false,.sl 1 (Am r) false],Ai (.int .i64 0) 0])=true by
   show okV (.tup [.agg [.bool li,.bool false,.sl 1 (Am r) false],I 0])=true;simp[okV,At,EX],AJ]
  rfl
end Go.Ab.Derive2


namespace Go.Ab.Derive2
open Go Go.Ab
theorem build6 {a b:Arr} {x y:PV} (hx:Bd x a.n) (hy:Bd y b.n) :
  Ad (.build [.bool false,.bool false,.nilS,.bool false,.bool false,.nilS] [(0,(3,.c (.agg [.bool a.li,.bool a.ru,x]))),(3,(3,.c (.agg [.bool b.li,.bool b.ru,y])))])=some (.agg [.bool a.li,.bool a.ru,x,.bool b.li,.bool b.ru,y]):=by
 simp[Ad,exec,EA,RX.ev,PV.cells,BX (a:=.bool a.li) (b:=.bool a.ru) rfl rfl hx.cell,BX (a:=.bool b.li) (b:=.bool b.ru) rfl rfl hy.cell,splice,AI]
theorem okCells6 {a b:Arr} {x y:PV} (hx:Bd x a.n) (hy:Bd y b.n):AA (.agg [.bool a.li,.bool a.ru,x,.bool b.li,.bool b.ru,y]) 6=true:=by
 simp[AA,PV.isVal,PV.isCell,hx.cell,hy.cell]
theorem Tc {a:Arr} {x:PV} (hx:Bd x a.n):AT 3 [.agg [.bool a.li,.bool a.ru,x]]=true:=by
 simp[AT,BX (a:=.bool a.li) (b:=.bool a.ru) rfl rfl hx.cell,PV.cells]
theorem SQ {a b:Arr} {x y:PV} (hx:Bd x a.n) (hy:Bd y b.n):AT 3 [.agg [.bool a.li,.bool a.ru,x],.agg [.bool b.li,.bool b.ru,y]]=true:=by
 simp[AT,BX (a:=.bool a.li) (b:=.bool a.ru) rfl rfl hx.cell,BX (a:=.bool b.li) (b:=.bool b.ru) rfl rfl hy.cell,PV.cells]
def Arr.isEq (g:List UInt8):Bool:=(g==Co)||(g==CR)
def Arr.dy (g:List UInt8) (a b:Arr):Arr×Int :=
 if (a.right&&b.right)=false then (Bw,114)
 else if Ck g=false then (Bw,102)
 else if (a.sz b).2≠0 then (Bw,(a.sz b).2)
 else if !Arr.isEq g&&(a.text||b.text) then (Bw,102)
 else match DQ (B6 g (Arr.isEq g&&(a.ru != b.ru))) (Dc a b 0 (a.sz b).1.toNat) with
  | .inl c=>(Bw,c)
  | .inr r=>(⟨a.li||b.li,false,r⟩,0)
theorem GG {a:Arr} (h:a.right=true):a.n.length<=200:=by
 unfold Arr.right at h;simp only[Z2] at h;cases hl:a.li with
 | true=>simpa[hl] using h.2
 | false=>simp[hl] at h;omega
theorem SM {a b:Arr} (ha:a.right=true) (hb:b.right=true) (hs:(a.sz b).2=0):(a.sz b).1=((a.sz b).1.toNat:Nat)/\(a.sz b).1.toNat<=200/\∀ i,i < (a.sz b).1.toNat->a.fits i/\b.fits i:=by
 have la:=GG ha;have lb:=GG hb;unfold Arr.right at ha hb;simp only[Z2] at ha hb;have h1:=ha.2;have h2:=hb.2;unfold Arr.sz at hs |-;unfold Arr.fits;cases hl:a.li<;>cases hr:b.li<;>simp[hl,hr] at h1 h2 hs |-;·refine⟨by omega,fun i hi=>by omega⟩
 ·refine⟨by omega,fun i hi=>by omega⟩
 ·refine⟨by omega,fun i hi=>by omega⟩
 ·by_cases h:a.n.length=b.n.length
  ·simp[h];omega
  ·simp[h] at hs
set_option maxHeartbeats 2000000 in
theorem adyR {v u:PV} {a b:Arr} (hv:AK v a) (hu:AK u b) (hla:a.n.length<=1000000) (hlb:b.n.length<=1000000) (g:List UInt8) :
  ∃ w,Ax B0 .cl (.fn 24 []) [.str g,v,u]=some (.tup [w,I (Arr.dy g a b).2])/\AK w (Arr.dy g a b).1:=by
 have hok:At [.str g,v,u]=true:=by simp[At,okV,hv.ok,hu.ok]
 have hri:=TQ (.cons hv (.cons hu .nil)) (by simp) (by intro c hc;simp at hc;rcases hc with rfl | rfl<;>assumption);have htx:=LQ hv;have hty:=LQ hu;obtain⟨x,rfl,hx⟩:=hv.get;obtain⟨y,rfl,hy⟩:=hu.get;have hsz:=size6 hx hy
 suffices key:∃ w,AM (AL B0 (fun _=>.cl)) fn24 (.cl) AP 0 [.cv (.str g),.cv (.agg [.bool a.li,.bool a.ru,x]),.cv (.agg [.bool b.li,.bool b.ru,y])] ()=some (.tup [w,I (Arr.dy g a b).2],())/\AK w (Arr.dy g a b).1 by
  obtain⟨w,h1,h2⟩:=key;exact⟨w,call (d:=fun _=>.cl) rfl (by decide) hok rfl h1,h2⟩
 rw[run24];unfold wa wb wd we wf wi wk wn ws wv;rw[show A1 (.str g)=true from rfl,AJ,C0,C0,BX rfl rfl hx.cell,BX rfl rfl hy.cell,AJ,AJ];simp only[BU,BM,KX,HJ,GO,VK,JB,Ao,build6 hx hy,okCells6 hx hy,AJ,SQ hx hy];rw[show AD 3 3 [.agg [.bool a.li,.bool a.ru,x],.agg [.bool b.li,.bool b.ru,y]] 0 (Ae [.agg [.bool a.li,.bool a.ru,x],.agg [.bool b.li,.bool b.ru,y]])=.sl 3 [.agg [.bool a.li,.bool a.ru,x],.agg [.bool b.li,.bool b.ru,y]] false from rfl,hri];simp only[Ao,E4,An,IU,Nu,bj,List.all_nil,bW];unfold Arr.dy;by_cases hr:(a.right&&b.right)=true
 ·simp only[hr,if_true,ne_eq,not_true_eq_false,decide_false,Z0,if_false,SC,Ao,Ca,An,bX];by_cases hd:Ck g=true
  ·simp only[hd,Z8,Z0,if_false,bX];rw[show Ax B0 .cl (.fn 50 []) [.agg [Ai (.agg [.bool a.li,.bool a.ru,x,.bool b.li,.bool b.ru,y]) 0,Ai (.agg [.bool a.li,.bool a.ru,x,.bool b.li,.bool b.ru,y]) 1,Ai (.agg [.bool a.li,.bool a.ru,x,.bool b.li,.bool b.ru,y]) 2,Ai (.agg [.bool a.li,.bool a.ru,x,.bool b.li,.bool b.ru,y]) 3,Ai (.agg [.bool a.li,.bool a.ru,x,.bool b.li,.bool b.ru,y]) 4,Ai (.agg [.bool a.li,.bool a.ru,x,.bool b.li,.bool b.ru,y]) 5]]=some (.tup [I (a.sz b).1,CP (a.sz b).2]) from hsz];simp only[Ao,B3,af,ai,Jq,An,E4,Nu];by_cases hs:(a.sz b).2=0
   ·simp only[Z2] at hr;obtain⟨z1,z2,z3⟩:=SM hr.1 hr.2 hs;rw[z1];generalize (a.sz b).1.toNat=n at z2 z3 |-;have tail:=fun eqv li=>dyTail hx hy g eqv li n (by omega) z3
    have fin:∀ (eqv li:Bool),∃ w,(match DQ (B6 g (eqv&&(a.ru != b.ru))) (Dc a b 0 n) with
      | .inl c=>some (PV.tup [EU,I c],())
      | .inr r=>some (PV.tup [.agg [.bool li,.bool false,.sl 1 (Am r) false],I 0],()))=some (PV.tup [w,I (match DQ (B6 g (eqv&&(a.ru != b.ru))) (Dc a b 0 n) with
       | .inl c=>(Bw,c)
       | .inr r=>((⟨li,false,r⟩:Arr),0)).2],())/\AK w (match DQ (B6 g (eqv&&(a.ru != b.ru))) (Dc a b 0 n) with
       | .inl c=>(Bw,c)
       | .inr r=>((⟨li,false,r⟩:Arr),0)).1:=by
     intro eqv li;cases DQ (B6 g (eqv&&(a.ru != b.ru))) (Dc a b 0 n) with
     | inl c=>exact⟨_,rfl,BB⟩
     | inr r=>exact⟨_,rfl,.mk _ _ _ _ (.sl _ _)⟩
    have bl:∀ li:Bool,Ad (.build [.bool false,.bool false,.nilS] [(0,(1,.c (.bool li)))])=some (.agg [.bool li,.bool false,.nilS]):=fun li=>rfl;have ok3:∀ li:Bool,AA (.agg [.bool li,.bool false,.nilS]) 3=true:=fun li=>rfl;by_cases h1:g=Co
    ·subst h1;have q1:(Co==[61])=true:=rfl;have q2:Arr.isEq Co=true:=rfl;simp only[q1,q2,hs,ne_eq,not_true_eq_false,decide_false,Z0,if_true,if_false,bl,Ao,ok3,AJ,Z8,bq,aE];cases hli:a.li with
     | true =>
      simp only[if_true,bO];obtain⟨w,f1,f2⟩:=fin true true;refine⟨w,aP (aP ?_ (tail true true)) f1,f2⟩;rw[hli];rfl
     | false =>
      simp only[if_false,aV,Z0];obtain⟨w,f1,f2⟩:=fin true b.li;refine⟨w,aP (aP ?_ (tail true b.li)) f1,f2⟩;rw[hli];rfl
    ·have q1:(g==[61])=false:=by simpa[Co] using h1
     simp only[q1,hs,ne_eq,not_true_eq_false,decide_false,Z0,if_true,if_false,bl,Ao,ok3,AJ];rw[show AA (.bool (g==[226,137,160])) 1=true from rfl,AJ,show Ai (.bool (g==[226,137,160])) 0=.bool (g==[226,137,160]) from rfl]
     have q2:Arr.isEq g=(g==[226,137,160]):=by
      unfold Arr.isEq;rw[show (g==Co)=false from q1,aV];rfl
     rw[q2];simp only[Ca,Ao,An,htx,hty];cases h2:(g==[226,137,160]) with
     | true =>
      simp only[Z8,Z0,if_false,bq,aE];cases hli:a.li with
      | true =>
       simp only[if_true,bO];obtain⟨w,f1,f2⟩:=fin true true;refine⟨w,aP (aP ?_ (tail true true)) f1,f2⟩;rw[hli];rfl
      | false =>
       simp only[if_false,aV,Z0];obtain⟨w,f1,f2⟩:=fin true b.li;refine⟨w,aP (aP ?_ (tail true b.li)) f1,f2⟩;rw[hli];rfl
     | false =>
      simp only[ax,if_true,aE];cases ht1:a.text with
      | true=>simp only[if_true,bO];exact⟨_,rfl,BB⟩
      | false =>
       cases ht2:b.text with
       | true=>simp only[if_true,aV,if_false,Z0];exact⟨_,rfl,BB⟩
       | false =>
        simp only[if_false,aV,Z0];cases hli:a.li with
        | true =>
         simp only[if_true,bO];obtain⟨w,f1,f2⟩:=fin false true;refine⟨w,aP (aP ?_ (tail false true)) f1,f2⟩;rw[hli];rfl
        | false =>
         simp only[if_false,aV,Z0];obtain⟨w,f1,f2⟩:=fin false b.li;refine⟨w,aP (aP ?_ (tail false b.li)) f1,f2⟩;rw[hli];rfl
   ·simp only[hs,ne_eq,not_false_eq_true,decide_true,if_true];cases (g==[61]) with
    | true=>exact⟨EU,rfl,BB⟩
    | false=>exact⟨EU,rfl,BB⟩
  ·have hd':Ck g=false:=by simpa using hd
   simp only[hd',ax,if_true];exact⟨EU,rfl,BB⟩
 ·have hr':(a.right&&b.right)=false:=by simpa using hr
  simp only[hr',Z0,if_false,if_true];exact⟨EU,rfl,BB⟩
def Ga (f:Int->Int×NE):List Int->Sum Int (List Int)
 | []=>.inr []
 | x :: l=>if (f x).2.no≠0 then .inl (f x).2.no else match Ga f l with
  | .inl c=>.inl c
  | .inr r=>.inr ((f x).1 :: r)
def Arr.mon (g:List UInt8) (a:Arr):Arr×Int :=
 if a.right=false then (Bw,114)
 else if Dv g=false then (Bw,102)
 else if a.text then (Bw,102)
 else match Ga (Cm g) a.n with
  | .inl c=>(Bw,c)
  | .inr r=>(⟨a.li,false,r⟩,0)
theorem amonR {v:PV} {a:Arr} (hv:AK v a) (hla:a.n.length<=1000000) (g:List UInt8) :
  ∃ w,Ax B0 .cl (.fn 18 []) [.str g,v]=some (.tup [w,I (Arr.mon g a).2])/\AK w (Arr.mon g a).1:=by
 have hok:At [.str g,v]=true:=by simp[At,okV,hv.ok]
 have hri:=TQ (.cons hv .nil) (by simp) (by intro c hc;simp at hc;rcases hc with rfl;assumption);have htx:=LQ hv;obtain⟨x,rfl,hx⟩:=hv.get
 suffices key:∃ w,AM (AL B0 (fun _=>.cl)) fn18 (.cl) AP 0 [.cv (.str g),.cv (.agg [.bool a.li,.bool a.ru,x])] ()=some (.tup [w,I (Arr.mon g a).2],())/\AK w (Arr.mon g a).1 by
  obtain⟨w,h1,h2⟩:=key;exact⟨w,call (d:=fun _=>.cl) rfl (by decide) hok rfl h1,h2⟩
 rw[run18];unfold wa wb wc wd we wg wh wi wj wk wn wo wr wv;rw[C0,BX rfl rfl hx.cell,AJ];simp only[BU,BM,KX,HJ,Hf,Ao,AJ,Tc hx];rw[show AD 3 3 [.agg [.bool a.li,.bool a.ru,x]] 0 (Ae [.agg [.bool a.li,.bool a.ru,x]])=.sl 3 [.agg [.bool a.li,.bool a.ru,x]] false from rfl,hri];simp only[Ao,E4,An,IU,Nu,bj,List.all_nil,bW];unfold Arr.mon;by_cases hr:a.right=true
 ·have hlen:=GG hr;simp only[hr,if_true,ne_eq,not_true_eq_false,decide_false,Z0,if_false,R6,Ao,Ca,An,bX];by_cases hd:Dv g=true
  ·simp only[hd,Z8,Z0,if_false,bX,htx,Ao,An];cases ht1:a.text with
   | true=>simp only[if_true];exact⟨_,rfl,BB⟩
   | false =>
    simp only[Z0,if_false];rw[show Ad (.build [.bool false,.bool false,.nilS] [(0,(1,.c (.bool a.li)))])=some (.agg [.bool a.li,.bool false,.nilS]) from rfl];simp only[Ao,hx.len];rw[show AA (.agg [.bool a.li,.bool false,.nilS]) 3=true from rfl,AJ];unfold CO;dsimp only [IC];rw[show AZ [.str g,x,I a.n.length,.int .i64 0]=true by simp only[AZ,bj,hx.und];rfl,AJ]
    have key:∀ (m i:Nat) (acc:List Int),i+m=a.n.length->acc.length=i->∃ w,Bg (fun z16=>Ac (Ad (.bin .lss .num false (.c (Aa z16.1 3)) (.c (Aa z16.1 2)))) (fun z17=>Ah z17 (Ac (Ad (.idxAddr 1 (.c (Aa z16.1 1)) (.c (Aa z16.1 3)))) (fun z18=>Ac (Ad (.load 1 false (.c z18))) (fun z19=>Ac (Ax B0 .cl (.fn 38 []) [Aa z16.1 0,z19]) (fun z20=>Ac (Ad (.extract 0 (.c z20))) (fun z21=>Ac (Ad (.extract 1 (.c z20))) (fun z22=>Ac (Ad (.bin .neq .num true (.c z22) (.c (.int .i64 0)))) (fun z23=>Ah z23 (Ac (Ad (.build [.bool false,.bool false,.nilS] [])) (fun z24=>Af (AA z24 3) (Ac (some (PV.tup [.agg [Ai z24 0,Ai z24 1,Ai z24 2],z22],z16.2)) (fun z25=>some (.inr z25))))) (Af (AT 1 [z21]) (Af (Az (Av 0 (Ae [z21])) (Ae [z21])) (Af (Bi (Az (Al (Aa z16.1 9)) (Ae (Ap (Aa z16.1 10)))) (Az (Av (Al (Aa z16.1 9)) (Ae (As (Ae [z21]) (AG 0 [z21])))) 2147483648)) (Ac (Ad (.bin .add .num true (.c (Aa z16.1 3)) (.c (.int .i64 1)))) (fun z26=>some (.inl ([Aa z16.1 0,Aa z16.1 1,Aa z16.1 2,z26,Aa z16.1 4,Aa z16.1 5,Aa z16.1 6,Aa z16.1 7,Aa z16.1 8,nI (Av (Al (Aa z16.1 9)) (Ae (As (Ae [z21]) (AG 0 [z21])))),.sl 1 (A9 (As (Al (Aa z16.1 9)) (Ap (Aa z16.1 10))) (As (Ae [z21]) (AG 0 [z21]))) false],z16.2)))))))))))))) (Ac (Af (Bh (PV.tup [.agg [Aa z16.1 7,Aa z16.1 8,AD 1 1 (Ap (Aa z16.1 10)) 0 (Al (Aa z16.1 9))],.int .i64 0])) (some (PV.tup [.agg [Aa z16.1 7,Aa z16.1 8,AD 1 1 (Ap (Aa z16.1 10)) 0 (Al (Aa z16.1 9))],.int .i64 0],z16.2))) (fun z27=>some (.inr z27))))) (([.str g,x,I a.n.length,I i,.bool false,.bool false,.nilS,.bool a.li,.bool false,nI acc.length,.sl 1 (Am acc) false],()):List PV×Unit) =
      some (.tup [w,I (match Ga (Cm g) (a.n.drop i) with | .inl c=>(Bw,c) | .inr r=>((⟨a.li,false,acc++r⟩:Arr),0)).2],())/\AK w (match Ga (Cm g) (a.n.drop i) with | .inl c=>(Bw,c) | .inr r=>((⟨a.li,false,acc++r⟩:Arr),0)).1:=by
     intro m;induction m with
     | zero =>
      intro i acc hi ha;have hd0:a.n.drop i=[]:=aU (by omega);rw[hd0]
      have es:AD 1 1 (Am acc) 0 (Al (nI acc.length))=.sl 1 (Am acc) false:=by
       rw[FN,KF,ah];unfold AD;rw[if_pos ⟨rfl,by rw[BC];omega⟩,bB,av (by rw[BC];exact Z5 _)]
      refine⟨.agg [.bool a.li,.bool false,.sl 1 (Am acc) false],BW ?_,?_⟩
      ·have hlt:¬ ((i:Int) < (a.n.length:Int)):=by omega
       simp only[Bc,BD,AS,Ao,An,hlt,decide_false,Z0,if_false];show Ac (Af (Bh (PV.tup [.agg [.bool a.li,.bool false,AD 1 1 (Am acc) 0 (Al (nI acc.length))],.int .i64 0])) (some (PV.tup [.agg [.bool a.li,.bool false,AD 1 1 (Am acc) 0 (Al (nI acc.length))],.int .i64 0],()))) (fun z27=>some (Sum.inr z27))=_
       rw[es,show Bh (PV.tup [.agg [.bool a.li,.bool false,.sl 1 (Am acc) false],.int .i64 0])=true by
        show okV _=true;simp[okV,At,EX],AJ]
       rfl
      ·simp only[Ga,bz];exact .mk _ _ _ _ (.sl _ _)
     | succ m ih =>
      intro i acc hi ha;have hlt:i < a.n.length:=by omega
      have hlt':(i:Int) < (a.n.length:Int):=by omega
      rw[FV hlt];unfold Ga;by_cases hno:(Cm g a.n[i]).2.no=0
      ·simp only[hno,ne_eq,not_true_eq_false,if_false];rw[Dq (s':=([.str g,x,I a.n.length,I ((i+1:Nat):Int),.bool false,.bool false,.nilS,.bool a.li,.bool false,nI (acc++[(Cm g a.n[i]).1]).length,.sl 1 (Am (acc++[(Cm g a.n[i]).1])) false],()))]
       ·obtain⟨w,h1,h2⟩:=ih (i+1) (acc++[(Cm g a.n[i]).1]) (by omega) (by simp[ha]);cases hm:Ga (Cm g) (a.n.drop (i+1)) with
        | inl c=>rw[hm] at h1 h2;exact⟨w,h1,h2⟩
        | inr r =>
         rw[hm] at h1 h2;simp only[aR,bM,aK] at h1 h2;exact⟨w,h1,h2⟩
       ·simp only[A7,A4,Bc,BD,Cl,DI,DH,Ea,ET,AS,Ao,An,hlt',decide_true,if_true,hx.idx hlt,CG,mon_run,B3,af,ai,A3,Ce,hno,bne_self_eq_false,Z0,if_false,O6,AJ];show Af (Az (0+1) 1) (Af (Bi (Az (Al (nI acc.length)) (Am acc).length) (Az (Al (nI acc.length)+1) 2147483648)) _)=_;have e1:Al (nI acc.length)=acc.length:=by simp
        simp only[P7,N1,e1,BC];rw[show (decide (0+1<=1))=true from rfl,AJ,show (decide (acc.length<=acc.length)&&decide (acc.length+1<=2147483648))=true by simp;omega,AJ];simp only[BT,Ao,Ct (by omega:i < 9223372036854775807)];show some (Sum.inl ([.str g,x,I a.n.length,I ((i+1:Nat):Int),.bool false,.bool false,.nilS,.bool a.li,.bool false,nI (Al (nI acc.length)+1),.sl 1 ((Am acc).take (Al (nI acc.length))++[I (Cm g a.n[i]).1]) false],()))=_;rw[e1,av (by rw[BC];exact Z5 _),aF,show Am (acc++[(Cm g a.n[i]).1])=Am acc++[I (Cm g a.n[i]).1] by simp[Am]];rfl
      ·simp only[hno,ne_eq,not_false_eq_true,if_true];refine⟨EU,BW ?_,BB⟩;have hb:((Cm g a.n[i]).2.no != 0)=true:=by simpa using hno
       simp only[A7,A4,Bc,BD,AS,Ao,An,hlt',decide_true,if_true,hx.idx hlt,CG,mon_run,B3,af,ai,A3,Ce,hb,IU];rfl
    have:=key a.n.length 0 [] (by omega) rfl;simp only[bB,aK,b9,show Am []=[] from rfl] at this;exact this
  ·have hd':Dv g=false:=by simpa using hd
   simp only[hd',ax,if_true];exact⟨EU,rfl,BB⟩
 ·have hr':a.right=false:=by simpa using hr
  simp only[hr',Z0,if_false,if_true];exact⟨EU,rfl,BB⟩
end Go.Ab.Derive2


namespace Go.Ab.Derive2
open Go Go.Ab
section
variable {x0 x1 x2 x3 x4 x5 x6 x7:PV}
end
end Go.Ab.Derive2


namespace Go.Ab.Derive2
open Go Go.Ab
section
variable {g:List UInt8} {n:Int} (hU:Ax B0 .cl (.fn 159 []) [.str g]=some (.tup [.int .i64 n,.bool false]))
include hU
end
end Go.Ab.Derive2


namespace Go.Ab.Derive2
open Go Go.Ab
end Go.Ab.Derive2


namespace Go.Ab.Derive2
open Go Go.Ab
theorem dyn_run {v u:PV} {a b:Arr} (hv:AK v a) (hu:AK u b) (hla:a.n.length<=1000000) (hlb:b.n.length<=1000000) {g:List UInt8} (hg:Ck g=true) :
  ∃ w,Ax B0 .cl (.fn 9 []) [.str g,v,u]=some (.tup [w,I (Arr.dy g a b).2])/\AK w (Arr.dy g a b).1:=by
 obtain⟨w,h1,h2⟩:=adyR hv hu hla hlb g;refine⟨w,call (d:=fun _=>.cl) rfl (by decide) (by simp[At,okV,hv.ok,hu.ok]) rfl ?_,h2⟩;rw[ZZ,ZZ,ZZ,Z1,run9];unfold wa wb wd wv;rw[BZ hv,cT,BZ hu,cT,SC,bV,hg];simp only[An,if_true,Cq hv,Cq hu,bV,h1,B3,af,ai,FT h2,cT,Hm h2]
theorem monn_run {v:PV} {a:Arr} (hv:AK v a) (hla:a.n.length<=1000000) {g:List UInt8} (hg:Dv g=true) :
  ∃ w,Ax B0 .cl (.fn 6 []) [.str g,v]=some (.tup [w,I (Arr.mon g a).2])/\AK w (Arr.mon g a).1:=by
 obtain⟨w,h1,h2⟩:=amonR hv hla g;refine⟨w,call (d:=fun _=>.cl) rfl (by decide) (by simp[At,okV,hv.ok]) rfl ?_,h2⟩;rw[ZZ,ZZ,Z1,run6];unfold wa wb wd wv;rw[BZ hv,cT,R6,bV,hg];simp only[An,if_true,Cq hv,bV,h1,B3,af,ai,FT h2,cT,Hm h2]
end Go.Ab.Derive2


namespace Go.Ab.Derive2
open Go Go.Ab
structure DyOK (g:List UInt8) (D:Arr->Arr->Arr×Int):Prop where
 run:∀ {v u:PV} {a b:Arr},AK v a->AK u b->a.n.length<=400000->b.n.length<=400000->∃ w,Ax B0 .cl (.fn 9 []) [.str g,v,u]=some (.tup [w,I (D a b).2])/\AK w (D a b).1
 le:∀ a b,(D a b).1.n.length<=400000
end Go.Ab.Derive2


namespace Go.Ab.Derive2
open Go Go.Ab
end Go.Ab.Derive2


namespace Go.Ab.Derive2
open Go Go.Ab
structure MonOK (g:List UInt8) (M:Arr->Arr×Int):Prop where
 run:∀ {v:PV} {a:Arr},AK v a->a.n.length<=400000->∃ w,Ax B0 .cl (.fn 6 []) [.str g,v]=some (.tup [w,I (M a).2])/\AK w (M a).1
 le:∀ a,(M a).1.n.length<=400000
end Go.Ab.Derive2


namespace Go.Ab.Derive2
open Go Go.Ab
theorem Xc {f:Int->Int->Int×NE}:∀ {l:List (Int×Int)} {r:List Int},DQ f l=.inr r->r.length=l.length
 | [],r,h=>by unfold DQ at h;cases h;rfl
 | p :: l,r,h=>by
  unfold DQ at h;split at h;·cases h
  ·split at h;·cases h
   ·rename_i r' hr;cases h;simp[Xc hr]
theorem V9 {f:Int->Int×NE}:∀ {l:List Int} {r:List Int},Ga f l=.inr r->r.length=l.length
 | [],r,h=>by unfold Ga at h;cases h;rfl
 | p :: l,r,h=>by
  unfold Ga at h;split at h;·cases h
  ·split at h;·cases h
   ·rename_i r' hr;cases h;simp[V9 hr]
theorem Va (a b:Arr):∀ (n i:Nat),(Dc a b i n).length=n
 | 0,_=>rfl
 | n+1,i=>by unfold Dc;rw[be,Va a b n (i+1)]
theorem Iu:Bw.n.length<=400000:=by simp[Bw]
theorem dy_le (g:List UInt8) (a b:Arr):(Arr.dy g a b).1.n.length<=400000:=by
 unfold Arr.dy;split;·exact Iu
 split;·exact Iu
 split;·exact Iu
 split;·exact Iu
 rename_i h1 _ h3 _;split;·exact Iu
 ·rename_i r hr;have h1:(a.right&&b.right)=true:=by cases h:(a.right&&b.right)<;>simp_all
  simp only[Z2] at h1;have hs:=SM h1.1 h1.2 (Decidable.not_not.1 h3);show r.length<=400000;rw[Xc hr,Va];have:=hs.2.1;omega
theorem mon_le (g:List UInt8) (a:Arr):(Arr.mon g a).1.n.length<=400000:=by
 unfold Arr.mon;split;·exact Iu
 split;·exact Iu
 split;·exact Iu
 rename_i h1 _ _;split;·exact Iu
 ·rename_i r hr;have h1:a.right=true:=by cases h:a.right<;>simp_all
  show r.length<=400000;rw[V9 hr];have:=GG h1;omega
end Go.Ab.Derive2


namespace Go.Ab
def Wa (memo:FuncId->List PV->Option PV) (c:Ht):Ht:=fun E h dep g args e =>
 match dep,memo g args with
 | 0,some r=>some (r,[],e)
 | _,_=>c E h dep g args e
def Og (memo:FuncId->List PV->Option PV) (sp:FuncId->(Nm->Option Ob)->List PV->Option AO) (tab:FuncId->Option Au):Nat->Bf
 | 0=>EC sp tab 0
 | n+1=>{EC sp tab 0 with call:=Wa memo (IT (Og memo sp tab n) n tab),io:=GC (Og memo sp tab n) n tab}
def evalFm (memo:FuncId->List PV->Option PV) (sp:FuncId->(Nm->Option Ob)->List PV->Option AO) (tab:FuncId->Option Au) (n:Nat):Ht:=(Og memo sp tab n).call
section memo
variable {memo:FuncId->List PV->Option PV} {sp:FuncId->(Nm->Option Ob)->List PV->Option AO} {tab:FuncId->Option Au}
 (hm:∀ g args r,memo g args=some r->∃ n,B1 sp tab n Unit AP 0 g args ()=some (r,[],()))
include hm
theorem evalMm_le:∀ n,GF (Og memo sp tab n) (EC sp tab):=by
 intro n;induction n with
 | zero=>exact Ww 0
 | succ n ih =>
  have hk:=UT ih n tab;refine GF.of_tail ⟨fun k=>rfl,?_,fun k=>rfl,fun k=>rfl,fun k=>rfl,fun g dst σ vs out h=>Wi ih n tab g dst σ vs out h⟩ rfl rfl rfl rfl;intro E1 E2 RE h1 h2 hh dep g args e1 e2 he r obs e1' h;simp only[Og,Wa] at h;split at h
  ·rename_i r' hr;cases h;obtain⟨m,hm'⟩:=hm g args r hr;obtain⟨_,rfl,a,ha⟩:=RP m Unit E2 (fun _ e=>e2=e) AP (fun k=>h2 (k - 1)) (fun _ _ _ _ _ _ _ h=>by cases h) 0 g args () e2 rfl r [] () hm';exact⟨e2,he,a,fun k hk=>ha (k+1) (by omega)⟩
  ·exact hk E1 E2 RE h1 h2 hh _ g args e1 e2 he r obs e1' h
theorem ev_memo {n:Nat} {g:FuncId} {args:List PV} {r:PV} (h:evalFm memo sp tab n Unit AP 0 g args ()=some (r,[],())):∃ m,B1 sp tab m Unit AP 0 g args ()=some (r,[],()):=by
 obtain⟨m,hm'⟩:=RT (evalMm_le hm n) g args h;exact⟨m,hm' m (Z5 _)⟩
end memo
mutual
def sameV:PV->PV->Bool
 | .bool a,.bool b=>a==b
 | .int k n,.int k' n'=>decide (k=k')&&decide (n=n')
 | .str s,.str s'=>decide (s=s')
 | .nilS,.nilS=>true
 | .nilI,.nilI=>true
 | .agg cs,.agg cs'=>MB cs cs'
 | .sl k xs f,.sl k' xs' f'=>decide (k=k')&&(f==f')&&MB xs xs'
 | _,_=>false
def MB:List PV->List PV->Bool
 | [],[]=>true
 | x :: xs,y :: ys=>sameV x y&&MB xs ys
 | _,_=>false
end
mutual
theorem sameV_eq:∀ (x y:PV),sameV x y=true->x=y
 | x,y,h=>by
  unfold sameV at h;split at h;·simpa using h
  ·simp only[Z2,decide_eq_true_eq] at h;rw[h.1,h.2]
  ·simp only[decide_eq_true_eq] at h;rw[h]
  ·rfl
  ·rfl
  ·rename_i cs cs';rw[Pt cs cs' h]
  ·rename_i k xs f k' xs' f';simp only[Z2,decide_eq_true_eq,beq_iff_eq] at h;rw[h.1.1,h.1.2,Pt xs xs' h.2]
  ·cases h
theorem Pt:∀ (xs ys:List PV),MB xs ys=true->xs=ys
 | xs,ys,h=>by
  unfold MB at h;split at h;·rfl
  ·rename_i x xs y ys;simp only[Z2] at h;rw[sameV_eq x y h.1,Pt xs ys h.2]
  ·cases h
end
abbrev Kf:=List (FuncId×List PV×PV)
def P6:Kf->FuncId->List PV->Option PV
 | [],_,_=>none
 | p :: l,g,args=>if p.1=g/\MB p.2.1 args=true then some p.2.2 else P6 l g args
def JZ (sp:FuncId->(Nm->Option Ob)->List PV->Option AO) (tab:FuncId->Option Au) (l:Kf):Prop :=
 ∀ p∈l,∃ n,B1 sp tab n Unit AP 0 p.1 p.2.1 ()=some (p.2.2,[],())
theorem OQ {sp:FuncId->(Nm->Option Ob)->List PV->Option AO} {tab:FuncId->Option Au}:JZ sp tab []:=fun _ h=>by cases h
theorem Dp {sp:FuncId->(Nm->Option Ob)->List PV->Option AO} {tab:FuncId->Option Au} {g:FuncId} {args:List PV} {r:PV} {l:Kf}
  (h:∃ n,B1 sp tab n Unit AP 0 g args ()=some (r,[],())) (hl:JZ sp tab l):JZ sp tab ((g,args,r) :: l):=fun p hp=>by
 rcases Z7.1 hp with rfl | hp;·exact h
 ·exact hl p hp
theorem Uu {sp:FuncId->(Nm->Option Ob)->List PV->Option AO} {tab:FuncId->Option Au}:∀ {l:Kf},JZ sp tab l->∀ g args r,P6 l g args=some r->∃ n,B1 sp tab n Unit AP 0 g args ()=some (r,[],())
 | [],_,_,_,_,h=>by cases h
 | p :: l,hl,g,args,r,h=>by
  unfold P6 at h;split at h
  ·rename_i hp;cases h;have:=hl p aq
   rwa [hp.1,Pt _ _ hp.2] at this
  ·exact Uu (fun q hq=>hl q (ap _ hq)) g args r h
theorem De {sp:FuncId->(Nm->Option Ob)->List PV->Option AO} {tab:FuncId->Option Au} {l:Kf} (hl:JZ sp tab l) {n:Nat} {g:FuncId} {args:List PV} {r:PV}
  (h:evalFm (P6 l) sp tab n Unit AP 0 g args ()=some (r,[],())):∃ m,B1 sp tab m Unit AP 0 g args ()=some (r,[],()):=ev_memo (Uu hl) h
end Go.Ab

