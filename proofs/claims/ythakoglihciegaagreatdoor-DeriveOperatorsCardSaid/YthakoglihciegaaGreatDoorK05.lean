/- Part 5 of a proof: laws of a machine. -/
import Derived.Test.YthakoglihciegaaGreatDoorK04
import Derived.IntWalk
import Derived.Lib.Replace
import Derived.Lib.ItoaNum
import Derived.Lib.Mul64
import Derived.Lib.EndianBits
import Derived.Test.YthakoglihciegaaGreatDoorK03
set_option linter.all false

set_option maxRecDepth 100000
namespace Go.Ab
open Go
variable{E β:Type}
def rsh0:ja->Bu×Bool
 | 13=>(.cl,false)
 | 54=>(.cl,false)
 | 67=>(.cl,false)
 | 176=>(.cl,false)
 | 157=>(.cl,false)
 | 158=>(.own 1,true)
 | 195=>(.cl,false)
 | 200=>(.own 1,true)
 | 218=>(.own 1,true)
 | 17=>(.jE [.opt 3,.cl],true)
 | 21=>(.cl,false)
 | _=>(.cl,true)
def D8:Ak:=.cells 0 [.cv (.bool false),.cv (.bool false),.cv (.bool false),.cv (.bool false),.cv (.bool false),.cv (.bool false),.cv (.bool false),.cv (.bool false)]
def T2:KV:=.jE [.cv (.bool false),.cv (.bool false)]
def Pc:BY:={args:=[.cv (.bool false),.fn 1000027 [.ref (0,0) 0]],ins:=[D8],res:=T2,outs:=[D8],news:=[],gone:=[]}
def Pb:BY:={args:=[.cv (.bool false),.fn 28 [.ref (0,0) 0]],ins:=[.cells 52 [.ref (0,1) 0],D8],res:=T2,outs:=[.cells 52 [.ref (0,1) 0],D8],news:=[],gone:=[]}
def Pa:BY:={args:=[.cv (.bool false),.fn 31 [.ref (0,0) 0]],ins:=[.cells 52 [.ref (0,1) 0],D8],res:=T2,outs:=[.cells 52 [.ref (0,1) 0],D8],news:=[],gone:=[]}
def L6:jn->jq->BY
 | [_,.fn 1000027 _],_=>Pc
 | [_,.fn 28 _],_=>Pb
 | _,_=>Pa
def Mo:BY:={args:=[.cv (.bool false)],ins:=[],res:=.agg [.fn 1000027 [.ref (1,1) 0],.fn 28 [.ref (1,0) 0],.fn 31 [.ref (1,0) 0]],outs:=[],news:=[.cells 52 [.ref (1,1) 0],D8],gone:=[]}
def zG:jn->jq->BY
 | _,_=>Mo
def IS:BY:={args:=[.ref (0,0) 0,.cv (.bool false)],ins:=[D8],res:=T2,outs:=[D8],news:=[],gone:=[]}
def Ry:jn->jq->BY
 | _,_=>IS
def uL:BY:={args:=[.cv (.bool false),.ref (0,0) 0],ins:=[.cells 52 [.ref (0,1) 0],D8],res:=T2,outs:=[.cells 52 [.ref (0,1) 0],D8],news:=[],gone:=[]}
def zH:jn->jq->BY
 | _,_=>uL
def O9:BY:={args:=[.cv (.bool false),.cv (.bool false),.fn 1000027 [.ref (0,0) 0]],ins:=[D8],res:=T2,outs:=[D8],news:=[],gone:=[]}
def O8:BY:={args:=[.cv (.bool false),.cv (.bool false),.fn 1000033 [.ref (0,0) 0]],ins:=[D8],res:=T2,outs:=[D8],news:=[],gone:=[]}
def Nz:jn->jq->BY
 | [_,_,.fn 1000027 _],_=>O9
 | _,_=>O8
def uM:BY:={args:=[.cv (.bool false),.ref (0,0) 0],ins:=[.cells 52 [.ref (0,1) 0],D8],res:=T2,outs:=[.cells 52 [.ref (0,1) 0],D8],news:=[],gone:=[]}
def zI:jn->jq->BY
 | _,_=>uM
def uN:BY:={args:=[.ref (0,0) 0,.cv (.bool false)],ins:=[D8],res:=T2,outs:=[D8],news:=[],gone:=[]}
def zJ:jn->jq->BY
 | _,_=>uN
def sh44:BY:={args:=[],ins:=[],res:=.un,outs:=[],news:=[],gone:=[]}
def shs44:jn->jq->BY
 | _,_=>sh44
def zK:BY:={args:=[.ref (0,0) 0],ins:=[D8],res:=T2,outs:=[D8],news:=[],gone:=[]}
def zL:jn->jq->BY
 | _,_=>zK
def Py:BY:={args:=[.arr (0,0) 1 0 0],ins:=[.arr 1 0 []],res:=.jE [],outs:=[.arr 1 0 []],news:=[],gone:=[]}
def UN:jn->jq->BY
 | _,_=>Py
def zM:BY:={args:=[.ref (0,1) 0,.fn 79 [.ref (0,0) 0]],ins:=[.cells 0 [.ref (0,1) 0],D8],res:=.jE [],outs:=[.cells 0 [.ref (0,1) 0],D8],news:=[],gone:=[]}
def zN:jn->jq->BY
 | _,_=>zM
def zO:BY:={args:=[.ref (0,0) 0],ins:=[.cells 0 [.ref (0,1) 0],D8],res:=.jE [],outs:=[.cells 0 [.ref (0,1) 0],D8],news:=[],gone:=[]}
def zP:jn->jq->BY
 | _,_=>zO
def NB:BY:={args:=[.ref (0,0) 0],ins:=[D8],res:=.cv (.bool false),outs:=[D8],news:=[],gone:=[]}
def US:jn->jq->BY
 | _,_=>NB
def PB:BY:={args:=[.ref (0,1) 0,.fn 79 [.ref (0,0) 0]],ins:=[.cells 0 [.ref (0,1) 0],D8],res:=.jE [],outs:=[.cells 0 [.ref (0,1) 0],D8],news:=[],gone:=[]}
def UR:jn->jq->BY
 | _,_=>PB
def PA:BY:={args:=[.ref (0,0) 1],ins:=[D8],res:=.jE [],outs:=[D8],news:=[],gone:=[]}
def UQ:jn->jq->BY
 | _,_=>PA
def NA:BY:={args:=[.ref (0,0) 1],ins:=[D8],res:=.jE [],outs:=[D8],news:=[],gone:=[]}
def UP:jn->jq->BY
 | _,_=>NA
def Pz:BY:={args:=[.ref (0,0) 0,.cv (.bool false)],ins:=[D8],res:=.jE [],outs:=[D8],news:=[],gone:=[]}
def UO:jn->jq->BY
 | _,_=>Pz
def iof0:ja->Option (jn->jq->BY)
 | 15=>some L6
 | 16=>some zG
 | 27=>some Ry
 | 28=>some zH
 | 29=>some Nz
 | 31=>some zI
 | 33=>some zJ
 | 44=>some shs44
 | 49=>some zL
 | 201=>some UN
 | 78=>some zN
 | 79=>some zP
 | 106=>some US
 | 107=>some UR
 | 135=>some UQ
 | 136=>some UP
 | 137=>some UO
 | _=>none
def AD (b:KB) (dsh:Nat->Bu):ED:={b,rsh:=rsh0,vZ:=fun f=>f==48||f==194||f==72||f==73||f==71||f==47||f==134||f==190||f==188||f==189||f==218,asT:=fun f p=>if f=48/\p=88 then some (86,1) else if f=48/\p=201 then some (200,1) else if f=48/\p=211 then some (210,1) else if f=48/\p=233 then some (205,1) else none,dsh,rT:=iof0,spK:=fun f=>if f=134 then some (zB .u32) else if f=190 then some (Ve .u32) else if f=188 then some (RO .i32 0 1) else if f=189 then some (RO .i32 1 0) else none,yo:=fun f=>f==136||f==137}
def wa (a:W) (K:W->Option β):Option β:=Ac (Ad (.extract 0 (.c a))) K

def wb (a:W) (K:W->Option β):Option β:=Ac (Ad (.extract 1 (.c a))) K

def wc (a:W) (K:W->Option β):Option β:=Ac (Ad (.len .slice (.c a))) K

def wd (a:W) (K:W->Option β):Option β:=Ac (A3 a 0 3 true) K

def we (a:W) (K:W->Option β):Option β:=Ac (A3 a 0 1 false) K

def wf (a:W) (K:W->Option β):Option β:=Ac (A3 a 1 1 false) K

def wg (a:W) (K:W->Option β):Option β:=Ac (A3 a 2 1 false) K

def wh (a:W) (K:W->Option β):Option β:=Ac (Ad (.load 1 false (.c a))) K

def wi (a:W) (K:W->Option β):Option β:=Ac (Ad (.un .not (.c a))) K

def wj (a:W) (K:W->Option β):Option β:=Ac (Ad (.bin .add .num true (.c a) (.c (.int .i64 1)))) K

def wk (a:W) (K:W->Option β):Option β:=Ac (Ad (.bin .neq .num true (.c a) (.c (.int .i64 0)))) K

def wl (a:W) (K:W->Option β):Option β:=Ac (Ad (.bin .eql .num true (.c a) (.c (.int .i64 0)))) K

def wm (a:W) (K:W->Option β):Option β:=Ac (Ad (.bin .lss .num true (.c a) (.c (.int .i64 0)))) K

def wn (a:W) (K:W->Option β):Option β:=Ac (Ad (.bin .neq .iface true (.c a) (.c .jK))) K

def wo (a b:W) (K:W->Option β):Option β:=Ac (Ad (.bin .lss .num false (.c a) (.c b))) K

def wp (a b:W) (K:W->Option β):Option β:=Ac (Ad (.bin .add .num false (.c a) (.c b))) K

def wq (a b:W) (K:W->Option β):Option β:=Ac (Ad (.bin .eql .num false (.c a) (.c b))) K

def wr (a b:W) (K:W->Option β):Option β:=Ac (Ad (.jJ 1 (.c a) (.c b))) K

def ws (a:W) (s:ji) (K:W->Option β):Option β:=Ac (Ad (.bin .eql .str true (.c a) (.c (.str s)))) K

def wt (a b:W) (K:W->Option β):Option β:=Ac (Ad (.bin .neq .num false (.c a) (.c b))) K

def wu (a b:W) (K:W->Option β):Option β:=Ac (Ad (.bin .gtr .num false (.c a) (.c b))) K

noncomputable def wv (B:KB) (g:Nat) (l:jh) (K:W->Option β):Option β:=Ac (Ax B .cl (.fn g []) l) K

theorem run106 (B:KB) (x0:W) (x1:W) (x2:W) (x3:W) (x4:W) (x5:W) (x6:W) (x7:W) :
  DJ (AD B fun _=>.cl) RW NB [x0,x1,x2,x3,x4,x5,x6,x7] =
  Ae (JQ .u32 x0) (Ac (Ad (.bin .neq .num true (.c x0) (.c (.int .u32 0)))) fun a=>some [a,x0,x1,x2,x3,x4,x5,x6,x7]):=by kernel_rfl
theorem run135 (B:KB) (x0:W) (x1:W) (x2:W) (x3:W) (x4:W) (x5:W) (x6:W) (x7:W) :
  DJ (AD B fun _=>.cl) RU PA [x0,x1,x2,x3,x4,x5,x6,x7] =
  Ae (Pm .i32 0 x1) (some [x0,.int .i32 1,x2,x3,x4,x5,x6,x7]):=by kernel_rfl
theorem run136 (B:KB) (x0:W) (x1:W) (x2:W) (x3:W) (x4:W) (x5:W) (x6:W) (x7:W) :
  DJ (AD B fun _=>.cl) RT NA [x0,x1,x2,x3,x4,x5,x6,x7] =
  Ae (Pm .i32 1 x1) (some [x0,.int .i32 0,x2,x3,x4,x5,x6,x7]):=by kernel_rfl
theorem run137 (B:KB) (x0:W) (x1:W) (x2:W) (x3:W) (x4:W) (x5:W) (x6:W) (x7:W) (x8:W) :
  DJ (AD B fun _=>.cl) RS Pz [x0,x1,x2,x3,x4,x5,x6,x7,x8] =
  Ac (Ax B .cl (.fn 191 []) [x0]) (fun a=>Ae (Bb (JQ .u32 x1) (JQ .u32 a)) (some [a,x2,x3,x4,x5,x6,x7,x8])):=by kernel_rfl
theorem run191 (B:KB) (h:AA E) (dep:Nat) (e:E) (x0:W) :
  AH (AD B fun _=>.cl) fn191 (.cl) h dep [.cv x0] e =
  Ai x0 (some (.int .u32 1,e)) (some (.int .u32 0,e)):=by kernel_rfl
theorem run79 (B:KB) (x0:W) (x1:W) (x2:W) (x3:W) (x4:W) (x5:W) (x6:W) (x7:W):DJ (AD B fun _=>.cl) fn79 zO [x0,x1,x2,x3,x4,x5,x6,x7]=wv B 80 [x3] (fun a=>wa a fun b=>wb a fun a=>Ae (AX 1 [b]) (wi a fun a=>Ai a (Ac (Ad (.build [.int .i64 0] [(0,(1,.c (.int .i64 102)))])) fun a=>Ae (Aw (.iface 86 a) 1) (some [x0,x1,x2,x3,.bool false,.bool false,.jD,Af (.iface 86 a) 0])) none)):=by kernel_rfl

theorem run107 (B:KB) (x0:W) (x1:W) (x2:W) (x3:W) (x4:W) (x5:W) (x6:W) (x7:W) :
  DJ (AD B fun _=>.cl) RV PB [x0,x1,x2,x3,x4,x5,x6,x7] =
  Ac (BK B PA 135 [x0,x1,x2,x3,x4,x5,x6,x7]) (fun a=>Ac (BK B NB 106 [J a 0,J a 1,J a 2,J a 3,J a 4,J a 5,J a 6,
  J a 7]) (fun a=>Ac (Ad (.un .not (.c (J a 0)))) (fun b=>Ai b (Ac (BK B zO 79 [J a 1,J a 2,
  J a 3,J a 4,J a 5,J a 6,J a 7,J a 8]) (fun a=>Ac (BK B Pz 137 [.bool true,J a 0,J a 1,J a 2,J a 3,J a 4,
  J a 5,J a 6,J a 7]) (fun a=>Ac (BK B NA 136 [J a 0,J a 1,J a 2,J a 3,J a 4,J a 5,J a 6,J a 7]) (fun a=>some [J
  a 0,J a 1,J a 2,J a 3,J a 4,J a 5,J a 6,J a 7])))) (Ac (BK B NA 136 [J a 1,J a 2,J a 3,J a 4,J a 5,J a 6,J
  a 7,J a 8]) fun a=>some [J a 0,J a 1,J a 2,J a 3,J a 4,J a 5,J a 6,J a 7])))):=by kernel_rfl
theorem run78 (B:KB) (x0:W) (x1:W) (x2:W) (x3:W) (x4:W) (x5:W) (x6:W) (x7:W) :
  DJ (AD B fun _=>.cl) fn78 zM [x0,x1,x2,x3,x4,x5,x6,x7] =
  Ac (BK B NB 106 [x0,x1,x2,x3,x4,x5,x6,x7]) (fun a=>Ac (Ad (.un .not (.c (J a 0)))) (fun b=>Ai b (Ac (BK B PB 107 [J a 1,J a 2,J a 3,J a 4,J a 5,J a 6,J a 7,J a 8]) (fun a=>some [J a 0,J a
  1,J a 2,J a 3,J a 4,J a 5,J a 6,J a 7])) (some [J a 1,J a 2,J a 3,J a 4,J a 5,J a 6,J a 7,J a 8]))):=by kernel_rfl
theorem run49 (B:KB) (x0:W) (x1:W) (x2:W) (x3:W) (x4:W) (x5:W) (x6:W) (x7:W) :
  DJ (AD B fun _=>.cl) fn49 zK [x0,x1,x2,x3,x4,x5,x6,x7] =
  Ac (BK B zM 78 [x0,x1,x2,x3,x4,x5,x6,x7]) (fun a=>some [.agg [J a 4,J a 5,
  J a 6],J a 7,J a 0,J a 1,J a 2,J a 3,J a 4,J a 5,J a 6,J a 7]):=by kernel_rfl
theorem run16 (B:KB) (x0:W) :
  DJ (AD B fun _=>.cl) fn16 Mo [x0] =
  Ae (Aw x0 1) (some [.int .u32 0,.int .i32 0,.int .u32 0,Af x0 0,.bool false,.bool false,.jD,.jK]):=by kernel_rfl
theorem run27 (B:KB) (x0:W) (x1:W) (x2:W) (x3:W) (x4:W) (x5:W) (x6:W) (x7:W) (x8:W):DJ (AD B fun _=>.cl) uK IS [x0,x1,x2,x3,x4,x5,x6,x7,x8]=Ae (AZ x0) (wg x0 fun a=>wc a fun a=>wl a fun a=>Ai a (Ac (BK B zK 49 [x1,x2,x3,x4,x5,x6,x7,x8]) fun a=>Ae (Aw (J a 0) 3) (Ae (Aw (J a 1) 1) (some [.agg [Af (J a 0) 0,Af (J a 0) 1,Af (J a 0) 2],Af (J a 1) 0,J a 2,J a 3,J a 4,J a 5,J a 6,J a 7,J a 8,J a 9]))) (wd x0 fun a=>Ac (Ad (.build [.bool false,.bool false,.jD] [(0,(3,.c a))])) fun a=>wv B 32 [a] fun a=>wv B 50 [a] fun a=>wc a fun b=>Ac (Ad (.bin .sub .num true (.c b) (.c (.int .i64 1)))) fun b=>Ac (Ad (.jJ 3 (.c a) (.c b))) fun b=>Ac (Ad (.load 3 true (.c b))) fun b=>Ae (Aw b 3) (wc a fun d=>Ac (Ad (.bin .sub .num true (.c d) (.c (.int .i64 1)))) fun d=>Ac (Ad (.slice 3 (.c a) none (some (.c d)) none)) fun a=>wv B 51 [a] fun a=>Ac (DU B (EI 0 (fun a=>fun a=>fun a=>none) fun a=>fun b=>fun d=>Ae (ER b 2) (Ae (Aw (J b 1) 3) (wv B 53 [J a 4,.agg [Af (J b 1) 0,Af (J b 1) 1,Af (J b 1) 2],.agg [J a 13,J a 14,J a 15]] fun b=>wa b fun e=>wb b fun b=>wv B 52 [e,b] fun b=>wa b fun e=>wb b fun b=>Ae (Aw e 3) (wn b fun f=>Ai f (Ae (Aw b 1) (some (false,([J a 0,J a 1,J a 2,J a 3,J a 4,J a 5,J a 6,J a 7,J a 8,.bool false,.bool false,.jD,Af b 0,J a 13,J a 14,J a 15],(some .ret,d))))) (some (true,([J a 0,J a 1,J a 2,J a 3,J a 4,J a 5,J a 6,J a 7,J a 8,J a 9,J a 10,J a 11,J a 12,Af e 0,Af e 1,Af e 2],(none,d)))))))) 0 a ([a,x1,x2,x3,x4,x5,x6,x7,x8,.bool false,.bool false,.jD,.jK,Af b 0,Af b 1,Af b 2],(none,()))) fun a=>CJ (He a.2.1) (Ae (Aw .jK 1) (some [.agg [J a.1 13,J a.1 14,J a.1 15],Af .jK 0,J a.1 1,J a.1 2,J a.1 3,J a.1 4,J a.1 5,J a.1 6,J a.1 7,J a.1 8])) (CJ (HK a.2.1) (some [.agg [J a.1 9,J a.1 10,J a.1 11],J a.1 12,J a.1 1,J a.1 2,J a.1 3,J a.1 4,J a.1 5,J a.1 6,J a.1 7,J a.1 8]) none)))):=by kernel_rfl

theorem run33 (B:KB) (x0:W) (x1:W) (x2:W) (x3:W) (x4:W) (x5:W) (x6:W) (x7:W) (x8:W):DJ (AD B fun _=>.cl) fn33 uN [x0,x1,x2,x3,x4,x5,x6,x7,x8]=Ae (AZ x0) (wd x0 fun a=>wv B 58 [x4,a] fun a=>wa a fun b=>wb a fun a=>wv B 52 [b,a] fun a=>wa a fun b=>wb a fun a=>Ae (Aw b 3) (some [.agg [Af b 0,Af b 1,Af b 2],a,x1,x2,x3,x4,x5,x6,x7,x8])):=by kernel_rfl

theorem run28 (B:KB) (x0:W) (x1:W) (x2:W) (x3:W) (x4:W) (x5:W) (x6:W) (x7:W) (x8:W):DJ (AD B fun _=>.cl) fn28 uL [x0,x1,x2,x3,x4,x5,x6,x7,x8]=Ae (AZ x0) (wd x0 fun a=>wd x0 fun b=>Ac (Ad (.build [.bool false,.bool false,.jD] [(0,(3,.c b))])) fun b=>wv B 30 [b] fun b=>Ac (BK B O9 29 [a,b,x1,x2,x3,x4,x5,x6,x7,x8]) fun a=>Ae (Aw (J a 0) 3) (some [.agg [Af (J a 0) 0,Af (J a 0) 1,Af (J a 0) 2],J a 1,J a 2,J a 3,J a 4,J a 5,J a 6,J a 7,J a 8,J a 9])):=by kernel_rfl

theorem run31 (B:KB) (x0:W) (x1:W) (x2:W) (x3:W) (x4:W) (x5:W) (x6:W) (x7:W) (x8:W):DJ (AD B fun _=>.cl) fn31 uM [x0,x1,x2,x3,x4,x5,x6,x7,x8]=Ae (AZ x0) (wd x0 fun a=>wd x0 fun b=>Ac (Ad (.build [.bool false,.bool false,.jD] [(0,(3,.c b))])) fun b=>wv B 32 [b] fun b=>Ac (BK B O8 29 [a,b,x1,x2,x3,x4,x5,x6,x7,x8]) fun a=>Ae (Aw (J a 0) 3) (some [.agg [Af (J a 0) 0,Af (J a 0) 1,Af (J a 0) 2],J a 1,J a 2,J a 3,J a 4,J a 5,J a 6,J a 7,J a 8,J a 9])):=by kernel_rfl

theorem run86_0 (B:KB) (x0:W) (x1:W) (x2:W) (x3:W) (x4:W) (x5:W) (x6:W) (x7:W) (x8:W) (x9:W):DJ (AD B fun _=>.cl) K7 O9 [x0,x1,x2,x3,x4,x5,x6,x7,x8,x9]=Ae (AZ x0) (Ac (DU B (EI 0 (fun a=>fun a=>fun a=>none) fun a=>fun b=>fun d=>Ae (ER b 1) (Ae (Aw (J b 0) 3) (Ac (BK B IS 27 [.agg [Af (J b 0) 0,Af (J b 0) 1,Af (J b 0) 2],J a 1,J a 2,J a 3,J a 4,J a 5,J a 6,J a 7,J a 8]) fun b=>Ae (Aw (J b 0) 3) (wn (J b 1) fun e=>Ai e (Ae (Aw (J b 1) 1) (some (false,([J a 0,J b 2,J b 3,J b 4,J b 5,J b 6,J b 7,J b 8,J b 9,J a 9,.bool false,.bool false,.jD,Af (J b 1) 0,nI (Aj (J a 14)),.sl 3 (Ao (J a 15)) false],(some .ret,d))))) (Ae (AX 3 [.agg [Af (J b 0) 0,Af (J b 0) 1,Af (J b 0) 2]]) (Ae (Ay (As 0 (Ah [.agg [Af (J b 0) 0,Af (J b 0) 1,Af (J b 0) 2]])) (Ah [.agg [Af (J b 0) 0,Af (J b 0) 1,Af (J b 0) 2]])) (Ae (Bb (Ay (Aj (J a 14)) (Ah (Ao (J a 15)))) (Ay (As (Aj (J a 14)) (Ah (Aq (Ah [.agg [Af (J b 0) 0,Af (J b 0) 1,Af (J b 0) 2]]) (AE 0 [.agg [Af (J b 0) 0,Af (J b 0) 1,Af (J b 0) 2]])))) 2147483648)) (some (true,([J a 0,J b 2,J b 3,J b 4,J b 5,J b 6,J b 7,J b 8,J b 9,J a 9,J a 10,J a 11,J a 12,J a 13,nI (As (Aj (J a 14)) (Ah (Aq (Ah [.agg [Af (J b 0) 0,Af (J b 0) 1,Af (J b 0) 2]]) (AE 0 [.agg [Af (J b 0) 0,Af (J b 0) 1,Af (J b 0) 2]])))),.sl 3 (A5 (Aq (Aj (J a 14)) (Ao (J a 15))) (Aq (Ah [.agg [Af (J b 0) 0,Af (J b 0) 1,Af (J b 0) 2]]) (AE 0 [.agg [Af (J b 0) 0,Af (J b 0) 1,Af (J b 0) 2]]))) false],(none,d))))))))))) 0 x1 ([x1,x2,x3,x4,x5,x6,x7,x8,x9,x0,.bool false,.bool false,.jD,.jK,nI 0,.sl 3 [] false],(none,()))) fun a=>CJ (He a.2.1) (wd (J a.1 9) fun b=>Ac (Ad (.build [.bool false,.bool false,.jD] [(0,(3,.c b))])) fun b=>Ac (Bd B .cl false 54 [b,AB 3 3 (Ao (J a.1 15)) 0 (Aj (J a.1 14))]) fun b=>wa b fun d=>wb b fun b=>Ae (Aw d 3) (Ae (Aw b 1) (some [.agg [Af d 0,Af d 1,Af d 2],Af b 0,J a.1 1,J a.1 2,J a.1 3,J a.1 4,J a.1 5,J a.1 6,J a.1 7,J a.1 8]))) (CJ (HK a.2.1) (some [.agg [J a.1 10,J a.1 11,J a.1 12],J a.1 13,J a.1 1,J a.1 2,J a.1 3,J a.1 4,J a.1 5,J a.1 6,J a.1 7,J a.1 8]) none)):=by kernel_rfl

theorem run86_1 (B:KB) (x0:W) (x1:W) (x2:W) (x3:W) (x4:W) (x5:W) (x6:W) (x7:W) (x8:W) (x9:W):DJ (AD B fun _=>.cl) K7 O8 [x0,x1,x2,x3,x4,x5,x6,x7,x8,x9]=Ae (AZ x0) (Ac (DU B (EI 0 (fun a=>fun a=>fun a=>none) fun a=>fun b=>fun d=>Ae (ER b 1) (Ae (Aw (J b 0) 3) (Ac (BK B uN 33 [.agg [Af (J b 0) 0,Af (J b 0) 1,Af (J b 0) 2],J a 1,J a 2,J a 3,J a 4,J a 5,J a 6,J a 7,J a 8]) fun b=>Ae (Aw (J b 0) 3) (wn (J b 1) fun e=>Ai e (Ae (Aw (J b 1) 1) (some (false,([J a 0,J b 2,J b 3,J b 4,J b 5,J b 6,J b 7,J b 8,J b 9,J a 9,.bool false,.bool false,.jD,Af (J b 1) 0,nI (Aj (J a 14)),.sl 3 (Ao (J a 15)) false],(some .ret,d))))) (Ae (AX 3 [.agg [Af (J b 0) 0,Af (J b 0) 1,Af (J b 0) 2]]) (Ae (Ay (As 0 (Ah [.agg [Af (J b 0) 0,Af (J b 0) 1,Af (J b 0) 2]])) (Ah [.agg [Af (J b 0) 0,Af (J b 0) 1,Af (J b 0) 2]])) (Ae (Bb (Ay (Aj (J a 14)) (Ah (Ao (J a 15)))) (Ay (As (Aj (J a 14)) (Ah (Aq (Ah [.agg [Af (J b 0) 0,Af (J b 0) 1,Af (J b 0) 2]]) (AE 0 [.agg [Af (J b 0) 0,Af (J b 0) 1,Af (J b 0) 2]])))) 2147483648)) (some (true,([J a 0,J b 2,J b 3,J b 4,J b 5,J b 6,J b 7,J b 8,J b 9,J a 9,J a 10,J a 11,J a 12,J a 13,nI (As (Aj (J a 14)) (Ah (Aq (Ah [.agg [Af (J b 0) 0,Af (J b 0) 1,Af (J b 0) 2]]) (AE 0 [.agg [Af (J b 0) 0,Af (J b 0) 1,Af (J b 0) 2]])))),.sl 3 (A5 (Aq (Aj (J a 14)) (Ao (J a 15))) (Aq (Ah [.agg [Af (J b 0) 0,Af (J b 0) 1,Af (J b 0) 2]]) (AE 0 [.agg [Af (J b 0) 0,Af (J b 0) 1,Af (J b 0) 2]]))) false],(none,d))))))))))) 0 x1 ([x1,x2,x3,x4,x5,x6,x7,x8,x9,x0,.bool false,.bool false,.jD,.jK,nI 0,.sl 3 [] false],(none,()))) fun a=>CJ (He a.2.1) (wd (J a.1 9) fun b=>Ac (Ad (.build [.bool false,.bool false,.jD] [(0,(3,.c b))])) fun b=>Ac (Bd B .cl false 54 [b,AB 3 3 (Ao (J a.1 15)) 0 (Aj (J a.1 14))]) fun b=>wa b fun d=>wb b fun b=>Ae (Aw d 3) (Ae (Aw b 1) (some [.agg [Af d 0,Af d 1,Af d 2],Af b 0,J a.1 1,J a.1 2,J a.1 3,J a.1 4,J a.1 5,J a.1 6,J a.1 7,J a.1 8]))) (CJ (HK a.2.1) (some [.agg [J a.1 10,J a.1 11,J a.1 12],J a.1 13,J a.1 1,J a.1 2,J a.1 3,J a.1 4,J a.1 5,J a.1 6,J a.1 7,J a.1 8]) none)):=by kernel_rfl

theorem run48_0 (B:KB) (x0:W) (x1:W) (x2:W) (x3:W) (x4:W) (x5:W) (x6:W) (x7:W) (x8:W):DJ (AD B fun _=>.cl) IU Pc [x0,x1,x2,x3,x4,x5,x6,x7,x8]=Ae (AZ x0) (wd x0 fun a=>wv B 24 [a] fun a=>wi a fun a=>Ai a (some [.agg [.bool false,.bool false,.jD],.int .i64 114,x1,x2,x3,x4,x5,x6,x7,x8]) (wd x0 fun a=>Ac (BK B IS 27 [a,x1,x2,x3,x4,x5,x6,x7,x8]) fun a=>Ae (Aw (J a 0) 3) (wv B 26 [J a 1] fun b=>some [.agg [Af (J a 0) 0,Af (J a 0) 1,Af (J a 0) 2],b,J a 2,J a 3,J a 4,J a 5,J a 6,J a 7,J a 8,J a 9]))):=by kernel_rfl

theorem run48_1 (B:KB) (x0:W) (x1:W) (x2:W) (x3:W) (x4:W) (x5:W) (x6:W) (x7:W) (x8:W):DJ (AD B fun _=>.cl) IU Pb [x0,x1,x2,x3,x4,x5,x6,x7,x8]=Ae (AZ x0) (wd x0 fun a=>wv B 24 [a] fun a=>wi a fun a=>Ai a (some [.agg [.bool false,.bool false,.jD],.int .i64 114,x1,x2,x3,x4,x5,x6,x7,x8]) (wd x0 fun a=>Ac (BK B uL 28 [a,x1,x2,x3,x4,x5,x6,x7,x8]) fun a=>Ae (Aw (J a 0) 3) (wv B 26 [J a 1] fun b=>some [.agg [Af (J a 0) 0,Af (J a 0) 1,Af (J a 0) 2],b,J a 2,J a 3,J a 4,J a 5,J a 6,J a 7,J a 8,J a 9]))):=by kernel_rfl

theorem run48_2 (B:KB) (x0:W) (x1:W) (x2:W) (x3:W) (x4:W) (x5:W) (x6:W) (x7:W) (x8:W):DJ (AD B fun _=>.cl) IU Pa [x0,x1,x2,x3,x4,x5,x6,x7,x8]=Ae (AZ x0) (wd x0 fun a=>wv B 24 [a] fun a=>wi a fun a=>Ai a (some [.agg [.bool false,.bool false,.jD],.int .i64 114,x1,x2,x3,x4,x5,x6,x7,x8]) (wd x0 fun a=>Ac (BK B uM 31 [a,x1,x2,x3,x4,x5,x6,x7,x8]) fun a=>Ae (Aw (J a 0) 3) (wv B 26 [J a 1] fun b=>some [.agg [Af (J a 0) 0,Af (J a 0) 1,Af (J a 0) 2],b,J a 2,J a 3,J a 4,J a 5,J a 6,J a 7,J a 8,J a 9]))):=by kernel_rfl

theorem run5 (B:KB) (h:AA E) (dep:Nat) (e:E) (x0:W) (x1:W) :
  AH (AD B fun _=>.cl) fn5 (.cl) h dep [.cv x0,.cv x1] e =
  Ae (AZ x1) (Ac (A3 x1 0 3 true) (fun a=>Ac (BK B Mo 16 [x0]) (fun b=>Ac (BK B Pc 15 [a,J b 0,J b 1,J b 2,J b 3,
  J b 4,J b 5,J b 6,J b 7]) fun a=>Ae (Aw (J a 0) 3) (some (.jE [.agg [Af (J a 0) 0,Af (J a 0) 1,Af (J a 0) 2],J a 1],e))))):=by kernel_rfl
theorem run8 (B:KB) (h:AA E) (dep:Nat) (e:E) (x0:W) (x1:W) :
  AH (AD B fun _=>.cl) fn8 (.cl) h dep [.cv x0,.cv x1] e =
  Ae (AZ x1) (Ac (A3 x1 0 3 true) (fun a=>Ac (BK B Mo 16 [x0]) (fun b=>Ac (BK B Pb
  15 [a,J b 0,J b 1,J b 2,J b 3,J b 4,J b 5,J b 6,J b 7]) (fun a=>Ae (Aw (J a 0) 3) (some (.jE [.agg [Af (J a 0) 0,Af (J a
  0) 1,Af (J a 0) 2],J a 1],e)))))):=by kernel_rfl
theorem run10 (B:KB) (h:AA E) (dep:Nat) (e:E) (x0:W) (x1:W) :
  AH (AD B fun _=>.cl) fn10 (.cl) h dep [.cv x0,.cv x1] e =
  Ae (AZ x1) (Ac (A3 x1 0 3 true) (fun a=>Ac (BK B Mo 16 [x0]) (fun b=>Ac (BK B Pa
  15 [a,J b 0,J b 1,J b 2,J b 3,J b 4,J b 5,J b 6,J b 7]) (fun a=>Ae (Aw (J a 0) 3) (some (.jE [.agg [Af (J a 0) 0,Af (J a
  0) 1,Af (J a 0) 2],J a 1],e)))))):=by kernel_rfl
theorem run6 (B:KB) (h:AA E) (dep:Nat) (e:E) (x0:W) :
  AH (AD B fun _=>.cl) fn6 (.cl) h dep [.cv x0] e =
  Ac (Ad (.len .str (.c x0))) (fun a=>Ac (Ad (.j6 false [.c a,.c (.int .i64 20)])) (fun a=>Ac (Ad (.kq (.c x0) none (some (.c a)))) (fun a =>
  some (a,e)))):=by kernel_rfl
theorem run58 (B:KB) (h:AA E) (dep:Nat) (e:E) (x0:W) (x1:W):AH (AD B fun _=>.cl) fn58 (.cl) h dep [.cv x0,.cv x1] e=Ae (AZ x1) (wv B 86 [x0] fun a=>Ai a (wd x1 fun a=>wv B 87 [x0,a] fun a=>wa a fun b=>wb a fun a=>Ae (Aw b 3) (some (.jE [.agg [Af b 0,Af b 1,Af b 2],a],e))) (wd x1 fun a=>wv B 88 [x0,a] fun a=>wa a fun b=>wb a fun a=>Ae (Aw b 3) (some (.jE [.agg [Af b 0,Af b 1,Af b 2],a],e)))):=by kernel_rfl

theorem run53 (B:KB) (h:AA E) (dep:Nat) (e:E) (x0:W) (x1:W) (x2:W):AH (AD B fun _=>.cl) fn53 (.cl) h dep [.cv x0,.cv x1,.cv x2] e=Ae (AZ x1) (Ae (AZ x2) (wv B 83 [x0] fun a=>Ai a (wd x1 fun a=>wd x2 fun b=>wv B 84 [x0,a,b] fun a=>wa a fun b=>wb a fun a=>Ae (Aw b 3) (some (.jE [.agg [Af b 0,Af b 1,Af b 2],a],e))) (wd x1 fun a=>wd x2 fun b=>wv B 85 [x0,a,b] fun a=>wa a fun b=>wb a fun a=>Ae (Aw b 3) (some (.jE [.agg [Af b 0,Af b 1,Af b 2],a],e))))):=by kernel_rfl

theorem run203 (B:KB) (h:AA E) (dep:Nat) (e:E) (x0:W) (x1:W):AH (AD B fun _=>.cl) fn203 (.cl) h dep [.cv x0,.cv x1] e=Ae (AZ x0) (Ae (AZ x1) (we x0 fun a=>we x1 fun b=>Ac (Ad (.bin .eql .bool false (.c a) (.c b))) fun a=>Ai a (wf x0 fun a=>wf x1 fun b=>Ac (Ad (.bin .eql .bool false (.c a) (.c b))) fun a=>Ai a (wg x0 fun a=>wg x1 fun b=>wv B 219 [a,b] fun a=>some (a,e)) (some (.bool false,e))) (some (.bool false,e)))):=by kernel_rfl

theorem run24 (B:KB) (h:AA E) (dep:Nat) (e:E) (x0:W):AH (AD B fun _=>.cl) fn24 (.cl) h dep [.cv x0] e=Ae (AZ x0) (wf x0 fun a=>Ai a (wg x0 fun a=>wv B 43 [a,.fn 41 []] fun a=>Ai a (some (.bool false,e)) (we x0 fun a=>Ai a (wg x0 fun a=>wc a fun a=>Ac (Ad (.bin .leq .num true (.c a) (.c (.int .i64 200)))) fun a=>some (a,e)) (wg x0 fun a=>wc a fun a=>Ac (Ad (.bin .eql .num true (.c a) (.c (.int .i64 1)))) fun a=>some (a,e)))) (we x0 fun a=>Ai a (wg x0 fun a=>wc a fun a=>Ac (Ad (.bin .leq .num true (.c a) (.c (.int .i64 200)))) fun a=>some (a,e)) (wg x0 fun a=>wc a fun a=>Ac (Ad (.bin .eql .num true (.c a) (.c (.int .i64 1)))) fun a=>some (a,e)))):=by kernel_rfl

theorem run86 (B:KB) (h:AA E) (dep:Nat) (e:E) (x0:W) :
  AH (AD B fun _=>.cl) fn86 (.cl) h dep [.cv x0] e =
  Ac (Ax B .cl (.fn 118 []) []) (fun a=>Ac (Ad (.lookup .str .jV false (.c a) (.c x0))) (fun a=>Ac (Ad (.bin .neq .func true (.c a) (.c .jV))) (fun a =>
  some (a,e)))):=by kernel_rfl
theorem run87 (B:KB) (h:AA E) (dep:Nat) (e:E) (x0:W) (x1:W):AH (AD B fun _=>.cl) fn87 (.cl) h dep [.cv x0,.cv x1] e=Ae (AZ x1) (wd x1 fun a=>Ae (AX 3 [a]) (Ac (Bd B .cl true 109 [AB 3 3 [a] 0 (Ah [a])]) fun a=>wn a fun b=>Ai b (wv B 110 [a] fun a=>some (.jE [.agg [.bool false,.bool false,.jD],a],e)) (wv B 86 [x0] fun a=>wi a fun a=>Ai a (some (.jE [.agg [.bool false,.bool false,.jD],.int .i64 102],e)) (wd x1 fun a=>wv B 112 [a] fun a=>Ai a (some (.jE [.agg [.bool false,.bool false,.jD],.int .i64 102],e)) (we x1 fun a=>Ac (Ad (.build [.bool false,.bool false,.jD] [(0,(1,.c a))])) fun a=>Ae (Aw a 3) (wg x1 fun b=>wc b fun d=>CU (Af a 2) (Ae (AY [x0,b,d,.int .i64 0]) (Be (fun a=>wo (J a.1 3) (J a.1 2) fun b=>Ai b (wr (J a.1 1) (J a.1 3) fun b=>wh b fun b=>wv B 119 [J a.1 0,b] fun b=>wa b fun d=>wb b fun b=>wk b fun f=>Ai f (Ac (some (.jE [.agg [.bool false,.bool false,.jD],b],a.2)) fun a=>some (.inr a)) (Ae (AX 1 [d]) (Ae (Ay (As 0 (Ah [d])) (Ah [d])) (Ae (Bb (Ay (Aj (J a.1 9)) (Ah (Ao (J a.1 10)))) (Ay (As (Aj (J a.1 9)) (Ah (Aq (Ah [d]) (AE 0 [d])))) 2147483648)) (wj (J a.1 3) fun b=>some (.inl ([J a.1 0,J a.1 1,J a.1 2,b,J a.1 4,J a.1 5,J a.1 6,J a.1 7,J a.1 8,nI (As (Aj (J a.1 9)) (Ah (Aq (Ah [d]) (AE 0 [d])))),.sl 1 (A5 (Aq (Aj (J a.1 9)) (Ao (J a.1 10))) (Aq (Ah [d]) (AE 0 [d]))) false],a.2))))))) (Ac (Ae (A6 (.jE [.agg [J a.1 7,J a.1 8,AB 1 1 (Ao (J a.1 10)) 0 (Aj (J a.1 9))],.int .i64 0])) (some (.jE [.agg [J a.1 7,J a.1 8,AB 1 1 (Ao (J a.1 10)) 0 (Aj (J a.1 9))],.int .i64 0],a.2))) fun a=>some (.inr a))) ([x0,b,d,.int .i64 0,.bool false,.bool false,.jD,Af a 0,Af a 1,nI 0,.sl 1 [] false],e))))))))):=by kernel_rfl

theorem run83 (B:KB) (h:AA E) (dep:Nat) (e:E) (x0:W) :
  AH (AD B fun _=>.cl) fn83 (.cl) h dep [.cv x0] e =
  Ac (Ax B .cl (.fn 108 []) []) (fun a=>Ac (Ad (.lookup .str .jV false (.c a) (.c x0))) (fun a=>Ac (Ad (.bin .neq .func true (.c a) (.c .jV))) (fun a =>
  some (a,e)))):=by kernel_rfl
theorem run84 (B:KB) (h:AA E) (dep:Nat) (e:E) (x0:W) (x1:W) (x2:W):AH (AD B fun _=>.cl) fn84 (.cl) h dep [.cv x0,.cv x1,.cv x2] e=Ae (AZ x0) (Ae (AZ x1) (Ae (AZ x2) (wd x1 fun a=>wd x2 fun b=>Ac (Ad (.build [.bool false,.bool false,.jD,.bool false,.bool false,.jD] [(0,(3,.c a)),(3,(3,.c b))])) fun a=>Ae (Aw a 6) (wd x1 fun b=>wd x2 fun d=>Ae (AX 3 [b,d]) (Ac (Bd B .cl true 109 [AB 3 3 [b,d] 0 (Ah [b,d])]) fun b=>wn b fun d=>Ai d (wv B 110 [b] fun a=>Ae (Aw a 1) (some (.jE [.agg [.bool false,.bool false,.jD],Af a 0],e))) (we x0 fun b=>wv B 83 [b] fun b=>wi b fun b=>Ai b (Ae (Aw (.int .i64 102) 1) (some (.jE [.agg [.bool false,.bool false,.jD],Af (.int .i64 102) 0],e))) (wv B 111 [.agg [Af a 0,Af a 1,Af a 2,Af a 3,Af a 4,Af a 5]] fun b=>wa b fun d=>wb b fun b=>we x0 fun f=>ws f [61] fun f=>Ai f (wn b fun f=>Ai f (wv B 110 [b] fun a=>Ae (Aw a 1) (some (.jE [.agg [.bool false,.bool false,.jD],Af a 0],e))) (we x1 fun b=>Ai b (Ac (Ad (.build [.bool false,.bool false,.jD] [(0,(1,.c (.bool true)))])) fun b=>Ae (Aw b 3) (wv B 113 [.agg [Af a 0,Af a 1,Af a 2,Af a 3,Af a 4,Af a 5],d] fun a=>CU (Af b 2) (Ac (DU B (EI dep h fun a=>fun b=>fun d=>Ae (ER b 2) (Ac (Ai (J a 8) (wf (J a 2) fun b=>wf (J a 3) fun a=>Ac (Ad (.bin .neq .bool false (.c b) (.c a))) fun a=>some a) (some (.bool false))) fun f=>Ai f (we (J a 1) fun b=>wv B 114 [b,.int .i64 0,.int .i64 1] fun b=>wa b fun f=>wb b fun b=>wk b fun g=>Ai g (Ae (Aw b 1) (some (false,([J a 0,J a 1,J a 2,J a 3,.bool false,.bool false,.jD,Af b 0,J a 8,J a 9,J a 10,nI (Aj (J a 11)),.sl 1 (Ao (J a 12)) false],(some .ret,d))))) (Ae (AX 1 [f]) (Ae (Ay (As 0 (Ah [f])) (Ah [f])) (Ae (Bb (Ay (Aj (J a 11)) (Ah (Ao (J a 12)))) (Ay (As (Aj (J a 11)) (Ah (Aq (Ah [f]) (AE 0 [f])))) 2147483648)) (some (true,([J a 0,J a 1,J a 2,J a 3,J a 4,J a 5,J a 6,J a 7,J a 8,J a 9,J a 10,nI (As (Aj (J a 11)) (Ah (Aq (Ah [f]) (AE 0 [f])))),.sl 1 (A5 (Aq (Aj (J a 11)) (Ao (J a 12))) (Aq (Ah [f]) (AE 0 [f]))) false],(none,d)))))))) (we (J a 1) fun f=>wv B 114 [f,J b 0,J b 1] fun b=>wa b fun f=>wb b fun b=>wk b fun g=>Ai g (Ae (Aw b 1) (some (false,([J a 0,J a 1,J a 2,J a 3,.bool false,.bool false,.jD,Af b 0,J a 8,J a 9,J a 10,nI (Aj (J a 11)),.sl 1 (Ao (J a 12)) false],(some .ret,d))))) (Ae (AX 1 [f]) (Ae (Ay (As 0 (Ah [f])) (Ah [f])) (Ae (Bb (Ay (Aj (J a 11)) (Ah (Ao (J a 12)))) (Ay (As (Aj (J a 11)) (Ah (Aq (Ah [f]) (AE 0 [f])))) 2147483648)) (some (true,([J a 0,J a 1,J a 2,J a 3,J a 4,J a 5,J a 6,J a 7,J a 8,J a 9,J a 10,nI (As (Aj (J a 11)) (Ah (Aq (Ah [f]) (AE 0 [f])))),.sl 1 (A5 (Aq (Aj (J a 11)) (Ao (J a 12))) (Aq (Ah [f]) (AE 0 [f]))) false],(none,d)))))))))) dep a ([a,x0,x1,x2,.bool false,.bool false,.jD,.int .i64 0,.bool true,Af b 0,Af b 1,nI 0,.sl 1 [] false],(none,e))) fun a=>CJ (He a.2.1) (Ae (Aw (.int .i64 0) 1) (Ae (A6 (.jE [.agg [J a.1 9,J a.1 10,AB 1 1 (Ao (J a.1 12)) 0 (Aj (J a.1 11))],Af (.int .i64 0) 0])) (some (.jE [.agg [J a.1 9,J a.1 10,AB 1 1 (Ao (J a.1 12)) 0 (Aj (J a.1 11))],Af (.int .i64 0) 0],a.2.2)))) (CJ (HK a.2.1) (some (.jE [.agg [J a.1 4,J a.1 5,J a.1 6],J a.1 7],a.2.2)) none)))) (we x2 fun b=>Ac (Ad (.build [.bool false,.bool false,.jD] [(0,(1,.c b))])) fun b=>Ae (Aw b 3) (wv B 113 [.agg [Af a 0,Af a 1,Af a 2,Af a 3,Af a 4,Af a 5],d] fun a=>CU (Af b 2) (Ac (DU B (EI dep h fun a=>fun b=>fun d=>Ae (ER b 2) (Ac (Ai (J a 8) (wf (J a 2) fun b=>wf (J a 3) fun a=>Ac (Ad (.bin .neq .bool false (.c b) (.c a))) fun a=>some a) (some (.bool false))) fun f=>Ai f (we (J a 1) fun b=>wv B 114 [b,.int .i64 0,.int .i64 1] fun b=>wa b fun f=>wb b fun b=>wk b fun g=>Ai g (Ae (Aw b 1) (some (false,([J a 0,J a 1,J a 2,J a 3,.bool false,.bool false,.jD,Af b 0,J a 8,J a 9,J a 10,nI (Aj (J a 11)),.sl 1 (Ao (J a 12)) false],(some .ret,d))))) (Ae (AX 1 [f]) (Ae (Ay (As 0 (Ah [f])) (Ah [f])) (Ae (Bb (Ay (Aj (J a 11)) (Ah (Ao (J a 12)))) (Ay (As (Aj (J a 11)) (Ah (Aq (Ah [f]) (AE 0 [f])))) 2147483648)) (some (true,([J a 0,J a 1,J a 2,J a 3,J a 4,J a 5,J a 6,J a 7,J a 8,J a 9,J a 10,nI (As (Aj (J a 11)) (Ah (Aq (Ah [f]) (AE 0 [f])))),.sl 1 (A5 (Aq (Aj (J a 11)) (Ao (J a 12))) (Aq (Ah [f]) (AE 0 [f]))) false],(none,d)))))))) (we (J a 1) fun f=>wv B 114 [f,J b 0,J b 1] fun b=>wa b fun f=>wb b fun b=>wk b fun g=>Ai g (Ae (Aw b 1) (some (false,([J a 0,J a 1,J a 2,J a 3,.bool false,.bool false,.jD,Af b 0,J a 8,J a 9,J a 10,nI (Aj (J a 11)),.sl 1 (Ao (J a 12)) false],(some .ret,d))))) (Ae (AX 1 [f]) (Ae (Ay (As 0 (Ah [f])) (Ah [f])) (Ae (Bb (Ay (Aj (J a 11)) (Ah (Ao (J a 12)))) (Ay (As (Aj (J a 11)) (Ah (Aq (Ah [f]) (AE 0 [f])))) 2147483648)) (some (true,([J a 0,J a 1,J a 2,J a 3,J a 4,J a 5,J a 6,J a 7,J a 8,J a 9,J a 10,nI (As (Aj (J a 11)) (Ah (Aq (Ah [f]) (AE 0 [f])))),.sl 1 (A5 (Aq (Aj (J a 11)) (Ao (J a 12))) (Aq (Ah [f]) (AE 0 [f]))) false],(none,d)))))))))) dep a ([a,x0,x1,x2,.bool false,.bool false,.jD,.int .i64 0,.bool true,Af b 0,Af b 1,nI 0,.sl 1 [] false],(none,e))) fun a=>CJ (He a.2.1) (Ae (Aw (.int .i64 0) 1) (Ae (A6 (.jE [.agg [J a.1 9,J a.1 10,AB 1 1 (Ao (J a.1 12)) 0 (Aj (J a.1 11))],Af (.int .i64 0) 0])) (some (.jE [.agg [J a.1 9,J a.1 10,AB 1 1 (Ao (J a.1 12)) 0 (Aj (J a.1 11))],Af (.int .i64 0) 0],a.2.2)))) (CJ (HK a.2.1) (some (.jE [.agg [J a.1 4,J a.1 5,J a.1 6],J a.1 7],a.2.2)) none)))))) (we x0 fun f=>ws f [226,137,160] fun f=>Ae (Aw f 1) (wn b fun g=>Ai g (wv B 110 [b] fun a=>Ae (Aw a 1) (some (.jE [.agg [.bool false,.bool false,.jD],Af a 0],e))) (wi (Af f 0) fun b=>Ai b (wd x1 fun b=>wv B 112 [b] fun b=>Ai b (Ae (Aw (.int .i64 102) 1) (some (.jE [.agg [.bool false,.bool false,.jD],Af (.int .i64 102) 0],e))) (wd x2 fun b=>wv B 112 [b] fun b=>Ai b (Ae (Aw (.int .i64 102) 1) (some (.jE [.agg [.bool false,.bool false,.jD],Af (.int .i64 102) 0],e))) (we x1 fun b=>Ai b (Ac (Ad (.build [.bool false,.bool false,.jD] [(0,(1,.c (.bool true)))])) fun b=>Ae (Aw b 3) (wv B 113 [.agg [Af a 0,Af a 1,Af a 2,Af a 3,Af a 4,Af a 5],d] fun a=>CU (Af b 2) (Ac (DU B (EI dep h fun a=>fun b=>fun d=>Ae (ER b 2) (Ac (Ai (J a 8) (wf (J a 2) fun b=>wf (J a 3) fun a=>Ac (Ad (.bin .neq .bool false (.c b) (.c a))) fun a=>some a) (some (.bool false))) fun f=>Ai f (we (J a 1) fun b=>wv B 114 [b,.int .i64 0,.int .i64 1] fun b=>wa b fun f=>wb b fun b=>wk b fun g=>Ai g (Ae (Aw b 1) (some (false,([J a 0,J a 1,J a 2,J a 3,.bool false,.bool false,.jD,Af b 0,J a 8,J a 9,J a 10,nI (Aj (J a 11)),.sl 1 (Ao (J a 12)) false],(some .ret,d))))) (Ae (AX 1 [f]) (Ae (Ay (As 0 (Ah [f])) (Ah [f])) (Ae (Bb (Ay (Aj (J a 11)) (Ah (Ao (J a 12)))) (Ay (As (Aj (J a 11)) (Ah (Aq (Ah [f]) (AE 0 [f])))) 2147483648)) (some (true,([J a 0,J a 1,J a 2,J a 3,J a 4,J a 5,J a 6,J a 7,J a 8,J a 9,J a 10,nI (As (Aj (J a 11)) (Ah (Aq (Ah [f]) (AE 0 [f])))),.sl 1 (A5 (Aq (Aj (J a 11)) (Ao (J a 12))) (Aq (Ah [f]) (AE 0 [f]))) false],(none,d)))))))) (we (J a 1) fun f=>wv B 114 [f,J b 0,J b 1] fun b=>wa b fun f=>wb b fun b=>wk b fun g=>Ai g (Ae (Aw b 1) (some (false,([J a 0,J a 1,J a 2,J a 3,.bool false,.bool false,.jD,Af b 0,J a 8,J a 9,J a 10,nI (Aj (J a 11)),.sl 1 (Ao (J a 12)) false],(some .ret,d))))) (Ae (AX 1 [f]) (Ae (Ay (As 0 (Ah [f])) (Ah [f])) (Ae (Bb (Ay (Aj (J a 11)) (Ah (Ao (J a 12)))) (Ay (As (Aj (J a 11)) (Ah (Aq (Ah [f]) (AE 0 [f])))) 2147483648)) (some (true,([J a 0,J a 1,J a 2,J a 3,J a 4,J a 5,J a 6,J a 7,J a 8,J a 9,J a 10,nI (As (Aj (J a 11)) (Ah (Aq (Ah [f]) (AE 0 [f])))),.sl 1 (A5 (Aq (Aj (J a 11)) (Ao (J a 12))) (Aq (Ah [f]) (AE 0 [f]))) false],(none,d)))))))))) dep a ([a,x0,x1,x2,.bool false,.bool false,.jD,.int .i64 0,Af f 0,Af b 0,Af b 1,nI 0,.sl 1 [] false],(none,e))) fun a=>CJ (He a.2.1) (Ae (Aw (.int .i64 0) 1) (Ae (A6 (.jE [.agg [J a.1 9,J a.1 10,AB 1 1 (Ao (J a.1 12)) 0 (Aj (J a.1 11))],Af (.int .i64 0) 0])) (some (.jE [.agg [J a.1 9,J a.1 10,AB 1 1 (Ao (J a.1 12)) 0 (Aj (J a.1 11))],Af (.int .i64 0) 0],a.2.2)))) (CJ (HK a.2.1) (some (.jE [.agg [J a.1 4,J a.1 5,J a.1 6],J a.1 7],a.2.2)) none)))) (we x2 fun b=>Ac (Ad (.build [.bool false,.bool false,.jD] [(0,(1,.c b))])) fun b=>Ae (Aw b 3) (wv B 113 [.agg [Af a 0,Af a 1,Af a 2,Af a 3,Af a 4,Af a 5],d] fun a=>CU (Af b 2) (Ac (DU B (EI dep h fun a=>fun b=>fun d=>Ae (ER b 2) (Ac (Ai (J a 8) (wf (J a 2) fun b=>wf (J a 3) fun a=>Ac (Ad (.bin .neq .bool false (.c b) (.c a))) fun a=>some a) (some (.bool false))) fun f=>Ai f (we (J a 1) fun b=>wv B 114 [b,.int .i64 0,.int .i64 1] fun b=>wa b fun f=>wb b fun b=>wk b fun g=>Ai g (Ae (Aw b 1) (some (false,([J a 0,J a 1,J a 2,J a 3,.bool false,.bool false,.jD,Af b 0,J a 8,J a 9,J a 10,nI (Aj (J a 11)),.sl 1 (Ao (J a 12)) false],(some .ret,d))))) (Ae (AX 1 [f]) (Ae (Ay (As 0 (Ah [f])) (Ah [f])) (Ae (Bb (Ay (Aj (J a 11)) (Ah (Ao (J a 12)))) (Ay (As (Aj (J a 11)) (Ah (Aq (Ah [f]) (AE 0 [f])))) 2147483648)) (some (true,([J a 0,J a 1,J a 2,J a 3,J a 4,J a 5,J a 6,J a 7,J a 8,J a 9,J a 10,nI (As (Aj (J a 11)) (Ah (Aq (Ah [f]) (AE 0 [f])))),.sl 1 (A5 (Aq (Aj (J a 11)) (Ao (J a 12))) (Aq (Ah [f]) (AE 0 [f]))) false],(none,d)))))))) (we (J a 1) fun f=>wv B 114 [f,J b 0,J b 1] fun b=>wa b fun f=>wb b fun b=>wk b fun g=>Ai g (Ae (Aw b 1) (some (false,([J a 0,J a 1,J a 2,J a 3,.bool false,.bool false,.jD,Af b 0,J a 8,J a 9,J a 10,nI (Aj (J a 11)),.sl 1 (Ao (J a 12)) false],(some .ret,d))))) (Ae (AX 1 [f]) (Ae (Ay (As 0 (Ah [f])) (Ah [f])) (Ae (Bb (Ay (Aj (J a 11)) (Ah (Ao (J a 12)))) (Ay (As (Aj (J a 11)) (Ah (Aq (Ah [f]) (AE 0 [f])))) 2147483648)) (some (true,([J a 0,J a 1,J a 2,J a 3,J a 4,J a 5,J a 6,J a 7,J a 8,J a 9,J a 10,nI (As (Aj (J a 11)) (Ah (Aq (Ah [f]) (AE 0 [f])))),.sl 1 (A5 (Aq (Aj (J a 11)) (Ao (J a 12))) (Aq (Ah [f]) (AE 0 [f]))) false],(none,d)))))))))) dep a ([a,x0,x1,x2,.bool false,.bool false,.jD,.int .i64 0,Af f 0,Af b 0,Af b 1,nI 0,.sl 1 [] false],(none,e))) fun a=>CJ (He a.2.1) (Ae (Aw (.int .i64 0) 1) (Ae (A6 (.jE [.agg [J a.1 9,J a.1 10,AB 1 1 (Ao (J a.1 12)) 0 (Aj (J a.1 11))],Af (.int .i64 0) 0])) (some (.jE [.agg [J a.1 9,J a.1 10,AB 1 1 (Ao (J a.1 12)) 0 (Aj (J a.1 11))],Af (.int .i64 0) 0],a.2.2)))) (CJ (HK a.2.1) (some (.jE [.agg [J a.1 4,J a.1 5,J a.1 6],J a.1 7],a.2.2)) none))))))) (we x1 fun b=>Ai b (Ac (Ad (.build [.bool false,.bool false,.jD] [(0,(1,.c (.bool true)))])) fun b=>Ae (Aw b 3) (wv B 113 [.agg [Af a 0,Af a 1,Af a 2,Af a 3,Af a 4,Af a 5],d] fun a=>CU (Af b 2) (Ac (DU B (EI dep h fun a=>fun b=>fun d=>Ae (ER b 2) (Ac (Ai (J a 8) (wf (J a 2) fun b=>wf (J a 3) fun a=>Ac (Ad (.bin .neq .bool false (.c b) (.c a))) fun a=>some a) (some (.bool false))) fun f=>Ai f (we (J a 1) fun b=>wv B 114 [b,.int .i64 0,.int .i64 1] fun b=>wa b fun f=>wb b fun b=>wk b fun g=>Ai g (Ae (Aw b 1) (some (false,([J a 0,J a 1,J a 2,J a 3,.bool false,.bool false,.jD,Af b 0,J a 8,J a 9,J a 10,nI (Aj (J a 11)),.sl 1 (Ao (J a 12)) false],(some .ret,d))))) (Ae (AX 1 [f]) (Ae (Ay (As 0 (Ah [f])) (Ah [f])) (Ae (Bb (Ay (Aj (J a 11)) (Ah (Ao (J a 12)))) (Ay (As (Aj (J a 11)) (Ah (Aq (Ah [f]) (AE 0 [f])))) 2147483648)) (some (true,([J a 0,J a 1,J a 2,J a 3,J a 4,J a 5,J a 6,J a 7,J a 8,J a 9,J a 10,nI (As (Aj (J a 11)) (Ah (Aq (Ah [f]) (AE 0 [f])))),.sl 1 (A5 (Aq (Aj (J a 11)) (Ao (J a 12))) (Aq (Ah [f]) (AE 0 [f]))) false],(none,d)))))))) (we (J a 1) fun f=>wv B 114 [f,J b 0,J b 1] fun b=>wa b fun f=>wb b fun b=>wk b fun g=>Ai g (Ae (Aw b 1) (some (false,([J a 0,J a 1,J a 2,J a 3,.bool false,.bool false,.jD,Af b 0,J a 8,J a 9,J a 10,nI (Aj (J a 11)),.sl 1 (Ao (J a 12)) false],(some .ret,d))))) (Ae (AX 1 [f]) (Ae (Ay (As 0 (Ah [f])) (Ah [f])) (Ae (Bb (Ay (Aj (J a 11)) (Ah (Ao (J a 12)))) (Ay (As (Aj (J a 11)) (Ah (Aq (Ah [f]) (AE 0 [f])))) 2147483648)) (some (true,([J a 0,J a 1,J a 2,J a 3,J a 4,J a 5,J a 6,J a 7,J a 8,J a 9,J a 10,nI (As (Aj (J a 11)) (Ah (Aq (Ah [f]) (AE 0 [f])))),.sl 1 (A5 (Aq (Aj (J a 11)) (Ao (J a 12))) (Aq (Ah [f]) (AE 0 [f]))) false],(none,d)))))))))) dep a ([a,x0,x1,x2,.bool false,.bool false,.jD,.int .i64 0,Af f 0,Af b 0,Af b 1,nI 0,.sl 1 [] false],(none,e))) fun a=>CJ (He a.2.1) (Ae (Aw (.int .i64 0) 1) (Ae (A6 (.jE [.agg [J a.1 9,J a.1 10,AB 1 1 (Ao (J a.1 12)) 0 (Aj (J a.1 11))],Af (.int .i64 0) 0])) (some (.jE [.agg [J a.1 9,J a.1 10,AB 1 1 (Ao (J a.1 12)) 0 (Aj (J a.1 11))],Af (.int .i64 0) 0],a.2.2)))) (CJ (HK a.2.1) (some (.jE [.agg [J a.1 4,J a.1 5,J a.1 6],J a.1 7],a.2.2)) none)))) (we x2 fun b=>Ac (Ad (.build [.bool false,.bool false,.jD] [(0,(1,.c b))])) fun b=>Ae (Aw b 3) (wv B 113 [.agg [Af a 0,Af a 1,Af a 2,Af a 3,Af a 4,Af a 5],d] fun a=>CU (Af b 2) (Ac (DU B (EI dep h fun a=>fun b=>fun d=>Ae (ER b 2) (Ac (Ai (J a 8) (wf (J a 2) fun b=>wf (J a 3) fun a=>Ac (Ad (.bin .neq .bool false (.c b) (.c a))) fun a=>some a) (some (.bool false))) fun f=>Ai f (we (J a 1) fun b=>wv B 114 [b,.int .i64 0,.int .i64 1] fun b=>wa b fun f=>wb b fun b=>wk b fun g=>Ai g (Ae (Aw b 1) (some (false,([J a 0,J a 1,J a 2,J a 3,.bool false,.bool false,.jD,Af b 0,J a 8,J a 9,J a 10,nI (Aj (J a 11)),.sl 1 (Ao (J a 12)) false],(some .ret,d))))) (Ae (AX 1 [f]) (Ae (Ay (As 0 (Ah [f])) (Ah [f])) (Ae (Bb (Ay (Aj (J a 11)) (Ah (Ao (J a 12)))) (Ay (As (Aj (J a 11)) (Ah (Aq (Ah [f]) (AE 0 [f])))) 2147483648)) (some (true,([J a 0,J a 1,J a 2,J a 3,J a 4,J a 5,J a 6,J a 7,J a 8,J a 9,J a 10,nI (As (Aj (J a 11)) (Ah (Aq (Ah [f]) (AE 0 [f])))),.sl 1 (A5 (Aq (Aj (J a 11)) (Ao (J a 12))) (Aq (Ah [f]) (AE 0 [f]))) false],(none,d)))))))) (we (J a 1) fun f=>wv B 114 [f,J b 0,J b 1] fun b=>wa b fun f=>wb b fun b=>wk b fun g=>Ai g (Ae (Aw b 1) (some (false,([J a 0,J a 1,J a 2,J a 3,.bool false,.bool false,.jD,Af b 0,J a 8,J a 9,J a 10,nI (Aj (J a 11)),.sl 1 (Ao (J a 12)) false],(some .ret,d))))) (Ae (AX 1 [f]) (Ae (Ay (As 0 (Ah [f])) (Ah [f])) (Ae (Bb (Ay (Aj (J a 11)) (Ah (Ao (J a 12)))) (Ay (As (Aj (J a 11)) (Ah (Aq (Ah [f]) (AE 0 [f])))) 2147483648)) (some (true,([J a 0,J a 1,J a 2,J a 3,J a 4,J a 5,J a 6,J a 7,J a 8,J a 9,J a 10,nI (As (Aj (J a 11)) (Ah (Aq (Ah [f]) (AE 0 [f])))),.sl 1 (A5 (Aq (Aj (J a 11)) (Ao (J a 12))) (Aq (Ah [f]) (AE 0 [f]))) false],(none,d)))))))))) dep a ([a,x0,x1,x2,.bool false,.bool false,.jD,.int .i64 0,Af f 0,Af b 0,Af b 1,nI 0,.sl 1 [] false],(none,e))) fun a=>CJ (He a.2.1) (Ae (Aw (.int .i64 0) 1) (Ae (A6 (.jE [.agg [J a.1 9,J a.1 10,AB 1 1 (Ao (J a.1 12)) 0 (Aj (J a.1 11))],Af (.int .i64 0) 0])) (some (.jE [.agg [J a.1 9,J a.1 10,AB 1 1 (Ao (J a.1 12)) 0 (Aj (J a.1 11))],Af (.int .i64 0) 0],a.2.2)))) (CJ (HK a.2.1) (some (.jE [.agg [J a.1 4,J a.1 5,J a.1 6],J a.1 7],a.2.2)) none))))))))))))))):=by kernel_rfl

theorem run219 (B:KB) (h:AA E) (dep:Nat) (e:E) (x0:W) (x1:W):AH (AD B fun _=>.cl) fn219 (.cl) h dep [.cv x0,.cv x1] e=wc x0 (fun a=>wc x1 fun b=>wt a b fun a=>Ai a (some (.bool false,e)) (wc x0 fun a=>Ae (AY [x0,x1,a,.int .i64 0]) (Be (fun a=>wo (J a.1 3) (J a.1 2) fun b=>Ai b (wr (J a.1 0) (J a.1 3) fun b=>wh b fun b=>wr (J a.1 1) (J a.1 3) fun c=>wh c fun c=>wt b c fun b=>Ai b (Ac (some (.bool false,a.2)) fun a=>some (.inr a)) (wj (J a.1 3) fun b=>some (.inl ([J a.1 0,J a.1 1,J a.1 2,b],a.2)))) (Ac (some (.bool true,a.2)) fun a=>some (.inr a))) ([x0,x1,a,.int .i64 0],e)))):=by kernel_rfl

theorem run41 (B:KB) (h:AA E) (dep:Nat) (e:E) (x0:W):AH (AD B fun _=>.cl) fn41 (.cl) h dep [.cv x0] e=wv B 42 [x0] (fun a=>wi a fun a=>some (a,e)):=by kernel_rfl

theorem run42 (B:KB) (h:AA E) (dep:Nat) (e:E) (x0:W) :
  AH (AD B fun _=>.cl) fn42 (.cl) h dep [.cv x0] e =
  Ac (Ac (Ad (.bin .geq .num true (.c x0) (.c (.int .i64 0)))) (fun a=>Ai a (Ac (Ad (.bin .leq .num true (.c x0) (.c (.int .i64 1114111)))) (fun a=>Ai a
  (Ac (Ad (.bin .lss .num true (.c x0) (.c (.int .i64 55296)))) (fun a=>Ai a (some (.bool true)) (Ac (Ad (.bin .gtr .num true (.c x0) (.c (.int .i64 57343)))) (fun
  z4=>some z4)))) (some (.bool false)))) (some (.bool false)))) (fun a=>some (a,e)):=by kernel_rfl
theorem run43 (B:KB) (h:AA E) (dep:Nat) (e:E) (x0:W) (x1:W) :
  AH (AD B fun _=>.cl) fn43 (.cl) h dep [.cv x0,.cv x1] e =
  Ac (Ax B .cl (.fn 70 []) [x0,x1]) (fun a=>Ac (Ad (.bin .geq .num true (.c a) (.c (.int .i64 0)))) fun a=>some (a,e)):=by kernel_rfl
theorem run50 (B:KB) (h:AA E) (dep:Nat) (e:E) (x0:W) :
  AH (AD B fun _=>.cl) fn50 (.cl) h dep [.cv x0] e =
  Ac (Ax B .cl (.fn 81 []) [.jD,x0]) (fun a=>some (a,e)):=by kernel_rfl
theorem run32 (B:KB) (h:AA E) (dep:Nat) (e:E) (x0:W) :
  AH (AD B fun _=>.cl) fn32 (.cl) h dep [.cv x0] e =
  Ae (AZ x0) (Ae (A6 (.fn 56 [GX (DK x0) 0])) (some (.fn 56 [GX (DK x0) 0],e))):=by kernel_rfl
theorem run54 (B:KB) (h:AA E) (dep:Nat) (e:E) (x0:W) (x1:W):AH (AD B fun _=>.cl) fn54 (.cl) h dep [.cv x0,.cv x1] e=Ae (AZ x0) (we x0 fun a=>wf x0 fun b=>Ac (Ad (.build [.bool false,.bool false,.jD] [(0,(1,.c a)),(1,(1,.c b))])) fun a=>Ae (Aw a 3) (wc x1 fun b=>CU (Af a 2) (Ae (AY [x1,.bool false,.bool false,x1,b,.int .i64 0]) (Be (fun a=>wo (J a.1 5) (J a.1 4) fun b=>Ai b (Ac (Ad (.jJ 3 (.c (J a.1 3)) (.c (J a.1 5)))) fun b=>Ac (Ad (.load 3 true (.c b))) fun b=>Ae (Aw b 3) (wv B 24 [.agg [Af b 0,Af b 1,Af b 2]] fun d=>wi d fun d=>Ai d (Ac (Ad (.build [.int .i64 0] [(0,(1,.c (.int .i64 114)))])) fun b=>Ac (some (.jE [.agg [.bool false,.bool false,.jD],.iface 86 b],a.2)) fun a=>some (.inr a)) (Ai (J a.1 1) (Ai (J a.1 2) (Ac (Ad (.jJ 3 (.c (J a.1 0)) (.c (.int .i64 0)))) fun d=>Ac (Ad (.fieldAddr 1 (.c d))) fun d=>wh d fun d=>Ae (Aw d 1) (Ac (GO 1 (Af b 2)) fun b=>Ae (Bb (Ay (Aj (J a.1 12)) (Ah (Ao (J a.1 13)))) (Ay (As (Aj (J a.1 12)) (Ah b)) 2147483648)) (wj (J a.1 5) fun f=>some (.inl ([J a.1 0,.bool true,.bool true,J a.1 3,J a.1 4,f,J a.1 6,J a.1 7,J a.1 8,J a.1 9,J a.1 10,Af d 0,nI (As (Aj (J a.1 12)) (Ah b)),.sl 1 (A5 (Aq (Aj (J a.1 12)) (Ao (J a.1 13))) b) false],a.2))))) (Ac (Ad (.jJ 3 (.c (J a.1 0)) (.c (.int .i64 0)))) fun d=>Ac (Ad (.fieldAddr 1 (.c d))) fun d=>wh d fun d=>Ac (Ad (.bin .neq .bool false (.c (Af b 1)) (.c d))) fun d=>Ac (Ad (.jJ 3 (.c (J a.1 0)) (.c (.int .i64 0)))) fun f=>Ac (Ad (.fieldAddr 1 (.c f))) fun f=>wh f fun f=>Ae (Aw f 1) (Ac (GO 1 (Af b 2)) fun b=>Ae (Bb (Ay (Aj (J a.1 12)) (Ah (Ao (J a.1 13)))) (Ay (As (Aj (J a.1 12)) (Ah b)) 2147483648)) (wj (J a.1 5) fun g=>some (.inl ([J a.1 0,.bool true,d,J a.1 3,J a.1 4,g,J a.1 6,J a.1 7,J a.1 8,J a.1 9,J a.1 10,Af f 0,nI (As (Aj (J a.1 12)) (Ah b)),.sl 1 (A5 (Aq (Aj (J a.1 12)) (Ao (J a.1 13))) b) false],a.2)))))) (Ai (J a.1 2) (Ac (Ad (.jJ 3 (.c (J a.1 0)) (.c (.int .i64 0)))) fun d=>Ac (Ad (.fieldAddr 1 (.c d))) fun d=>wh d fun d=>Ae (Aw d 1) (Ac (GO 1 (Af b 2)) fun f=>Ae (Bb (Ay (Aj (J a.1 12)) (Ah (Ao (J a.1 13)))) (Ay (As (Aj (J a.1 12)) (Ah f)) 2147483648)) (wj (J a.1 5) fun g=>some (.inl ([J a.1 0,Af b 0,.bool true,J a.1 3,J a.1 4,g,J a.1 6,J a.1 7,J a.1 8,J a.1 9,J a.1 10,Af d 0,nI (As (Aj (J a.1 12)) (Ah f)),.sl 1 (A5 (Aq (Aj (J a.1 12)) (Ao (J a.1 13))) f) false],a.2))))) (Ac (Ad (.jJ 3 (.c (J a.1 0)) (.c (.int .i64 0)))) fun d=>Ac (Ad (.fieldAddr 1 (.c d))) fun d=>wh d fun d=>Ac (Ad (.bin .neq .bool false (.c (Af b 1)) (.c d))) fun d=>Ac (Ad (.jJ 3 (.c (J a.1 0)) (.c (.int .i64 0)))) fun f=>Ac (Ad (.fieldAddr 1 (.c f))) fun f=>wh f fun f=>Ae (Aw f 1) (Ac (GO 1 (Af b 2)) fun g=>Ae (Bb (Ay (Aj (J a.1 12)) (Ah (Ao (J a.1 13)))) (Ay (As (Aj (J a.1 12)) (Ah g)) 2147483648)) (wj (J a.1 5) fun i=>some (.inl ([J a.1 0,Af b 0,d,J a.1 3,J a.1 4,i,J a.1 6,J a.1 7,J a.1 8,J a.1 9,J a.1 10,Af f 0,nI (As (Aj (J a.1 12)) (Ah g)),.sl 1 (A5 (Aq (Aj (J a.1 12)) (Ao (J a.1 13))) g) false],a.2))))))))) (Ac (Ai (J a.1 1) (Ac (Ad (.build [.int .i64 0] [(0,(1,.c (.int .i64 111)))])) fun b=>some (.jE [.agg [.bool false,.bool false,.jD],.iface 86 b],a.2)) (Ai (J a.1 2) (Ac (Ad (.build [.int .i64 0] [(0,(1,.c (.int .i64 102)))])) fun b=>some (.jE [.agg [.bool false,.bool false,.jD],.iface 86 b],a.2)) (Ac (we (J a.1 6) fun b=>wi b fun b=>Ai b (wc (J a.1 0) fun a=>Ac (Ad (.bin .neq .num true (.c a) (.c (.int .i64 1)))) fun a=>some a) (some (.bool false))) fun b=>Ai b (Ac (Ad (.build [.int .i64 0] [(0,(1,.c (.int .i64 111)))])) fun b=>some (.jE [.agg [.bool false,.bool false,.jD],.iface 86 b],a.2)) (wc (J a.1 0) fun b=>Ac (Ad (.bin .gtr .num true (.c b) (.c (.int .i64 200)))) fun b=>Ai b (Ac (Ad (.build [.int .i64 0] [(0,(1,.c (.int .i64 113)))])) fun b=>some (.jE [.agg [.bool false,.bool false,.jD],.iface 86 b],a.2)) (Ae (A6 (.jE [.agg [J a.1 10,J a.1 11,AB 1 1 (Ao (J a.1 13)) 0 (Aj (J a.1 12))],.jK])) (some (.jE [.agg [J a.1 10,J a.1 11,AB 1 1 (Ao (J a.1 13)) 0 (Aj (J a.1 12))],.jK],a.2))))))) fun a=>some (.inr a))) ([x1,.bool false,.bool false,x1,b,.int .i64 0,x0,.bool false,.bool false,.jD,Af a 0,Af a 1,nI 0,.sl 1 [] false],e))))):=by kernel_rfl

theorem run26 (B:KB) (h:AA E) (dep:Nat) (e:E) (x0:W) :
  AH (AD B fun _=>.cl) fn26 (.cl) h dep [.cv x0] e =
  Ae (FF 1 1) (asP 86 x0 (fun a=>Ae (Aw a 1) (Ac (A3 a 0 1 false) fun a=>some (a,e))) (some (.int .i64 0,e))):=by kernel_rfl
theorem run109 (B:KB) (h:AA E) (dep:Nat) (e:E) (x0:W):AH (AD B fun _=>.cl) fn109 (.cl) h dep [.cv x0] e=wc x0 (fun a=>Ae (AY [x0,a,.int .i64 0]) (Be (fun a=>wo (J a.1 2) (J a.1 1) fun b=>Ai b (Ac (Ad (.jJ 3 (.c (J a.1 0)) (.c (J a.1 2)))) fun b=>Ac (Ad (.load 3 true (.c b))) fun b=>Ae (Aw b 3) (wv B 24 [.agg [Af b 0,Af b 1,Af b 2]] fun b=>wi b fun b=>Ai b (Ac (Ad (.build [.int .i64 0] [(0,(1,.c (.int .i64 114)))])) fun b=>Ac (some (.iface 200 b,a.2)) fun a=>some (.inr a)) (wj (J a.1 2) fun b=>some (.inl ([J a.1 0,J a.1 1,b],a.2))))) (Ac (some (.jK,a.2)) fun a=>some (.inr a))) ([x0,a,.int .i64 0],e))):=by kernel_rfl

theorem run110 (B:KB) (h:AA E) (dep:Nat) (e:E) (x0:W) :
  AH (AD B fun _=>.cl) fn110 (.cl) h dep [.cv x0] e =
  Ae (FF 1 1) (asP 200 x0 (fun a=>Ae (Aw a 1) (Ac (A3 a 0 1 false) fun a=>some (a,e))) (some (.int .i64 0,e))):=by kernel_rfl
theorem run112 (B:KB) (h:AA E) (dep:Nat) (e:E) (x0:W):AH (AD B fun _=>.cl) fn112 (.cl) h dep [.cv x0] e=Ae (AZ x0) (Ac (wf x0 fun a=>Ai a (wg x0 fun a=>wc a fun a=>Ac (Ad (.bin .gtr .num true (.c a) (.c (.int .i64 0)))) fun a=>some a) (some (.bool false))) fun a=>some (a,e)):=by kernel_rfl

theorem run119 (B:KB) (h:AA E) (dep:Nat) (e:E) (x0:W) (x1:W):AH (AD B fun _=>.cl) fn119 (.cl) h dep [.cv x0,.cv x1] e=wv B 118 [] (fun a=>Ac (Ad (.lookup .str .jV true (.c a) (.c x0))) fun a=>wa a fun b=>wb a fun a=>wi a fun a=>Ai a (Ac (Ad (.build [.str []] [(0,(1,.c x0))])) fun a=>wv B 151 [.iface 205 a] fun a=>some (.jE [.int .i64 0,a],e)) (Ac (Ax B .cl b [x1]) fun a=>wa a fun b=>wb a fun a=>wv B 151 [a] fun a=>some (.jE [b,a],e))):=by kernel_rfl

theorem run111 (B:KB) (h:AA E) (dep:Nat) (e:E) (x0:W):AH (AD B fun _=>.cl) fn111 (.cl) h dep [.cv x0] e=Ae (AZ x0) (Ac (we x0 fun a=>Ai a (Ac (A3 x0 3 1 false) fun a=>Ai a (wg x0 fun a=>wc a fun a=>Ac (A3 x0 5 1 false) fun b=>wc b fun b=>wt a b fun a=>some a) (some (.bool false))) (some (.bool false))) fun a=>Ai a (Ac (Ad (.build [.int .i64 0] [(0,(1,.c (.int .i64 110)))])) fun a=>some (.jE [.int .i64 0,.iface 200 a],e)) (we x0 fun a=>Ai a (wg x0 fun a=>wc a fun a=>some (.jE [a,.jK],e)) (Ac (A3 x0 5 1 false) fun a=>wc a fun a=>some (.jE [a,.jK],e)))):=by kernel_rfl

theorem run113 (B:KB) (h:AA E) (dep:Nat) (e:E) (x0:W) (x1:W) :
  AH (AD B fun _=>.cl) fn113 (.cl) h dep [.cv x0,.cv x1] e =
  Ae (AZ x0) (Ae (AZ x1) (Ae (A6 (.fn 149 [GX (DK x1) 0,GX (DK x0) 0])) (some (.fn 149 [GX (DK x1) 0,GX (DK x0) 0],e)))):=by kernel_rfl
theorem run114 (B:KB) (h:AA E) (dep:Nat) (e:E) (x0:W) (x1:W) (x2:W):AH (AD B fun _=>.cl) fn114 (.cl) h dep [.cv x0,.cv x1,.cv x2] e=wv B 108 [] (fun a=>Ac (Ad (.lookup .str .jV true (.c a) (.c x0))) fun a=>wa a fun b=>wb a fun a=>wi a fun a=>Ai a (Ac (Ad (.build [.str []] [(0,(1,.c x0))])) fun a=>wv B 151 [.iface 205 a] fun a=>some (.jE [.int .i64 0,a],e)) (Ac (Ad (.build [.int .i64 0,.int .i64 0] [(0,(1,.c x1)),(1,(1,.c x2))])) fun a=>Ac (Ad (.build [.int .i64 0,.int .i64 0] [(0,(2,.c a))])) fun a=>Ac (Ax B .cl b [a]) fun a=>wa a fun b=>wb a fun a=>wv B 151 [a] fun a=>some (.jE [b,a],e))):=by kernel_rfl

theorem run30 (B:KB) (h:AA E) (dep:Nat) (e:E) (x0:W) :
  AH (AD B fun _=>.cl) fn30 (.cl) h dep [.cv x0] e =
  Ae (AZ x0) (Ae (A6 (.fn 55 [GX (DK x0) 0])) (some (.fn 55 [GX (DK x0) 0],e))):=by kernel_rfl
theorem run70 (B:KB) (h:AA E) (dep:Nat) (e:E) (x0:W) (x1:W):AH (AD B fun _=>.cl) fn70 (.cl) h dep [.cv x0,.cv x1] e=wc x0 (fun a=>Ae (AY [x0,x1,a,.int .i64 0]) (Be (fun a=>wo (J a.1 3) (J a.1 2) fun b=>Ai b (wr (J a.1 0) (J a.1 3) fun b=>wh b fun b=>Ac (Ax B .cl (J a.1 1) [b]) fun b=>Ai b (Ac (some (J a.1 3,a.2)) fun a=>some (.inr a)) (wj (J a.1 3) fun b=>some (.inl ([J a.1 0,J a.1 1,J a.1 2,b],a.2)))) (Ac (some (.int .i64 (-1),a.2)) fun a=>some (.inr a))) ([x0,x1,a,.int .i64 0],e))):=by kernel_rfl

theorem run81 (B:KB) (h:AA E) (dep:Nat) (e:E) (x0:W) :
  AH (AD B fun _=>.cl) fn81 (.cl) h dep [.kx,.cv x0] e =
  Ac (DU B (EI dep h (fun a=>fun b=>fun c=>Ae (ER b 1) (Ae (Aw (J b 0) 3) (Ae (AX 3 [.agg [Af (J b 0) 0,Af (J b 0) 1,Af
  (J b 0) 2]]) (Ae (Ay (As 0 (Ah [.agg [Af (J b 0) 0,Af (J b 0) 1,Af (J b 0) 2]])) (Ah [.agg [Af (J b 0) 0,Af (J b 0) 1,Af (J b 0)
  2]])) (Ae (Bb (Ay (Aj (J a 2)) (Ah (Ao (J a 3)))) (Ay (As (Aj (J a 2)) (Ah (Aq (Ah [.agg [Af (J b 0) 0,Af (J b 0) 1,Af (J b 0)
  2]]) (AE 0 [.agg [Af (J b 0) 0,Af (J b 0) 1,Af (J b 0) 2]])))) 2147483648)) (some (true,([J a 0,J a 1,nI (As (Aj (J a 2)) (Ah (Aq (Ah
  [.agg [Af (J b 0) 0,Af (J b 0) 1,Af (J b 0) 2]]) (AE 0 [.agg [Af (J b 0) 0,Af (J b 0) 1,Af (J b 0) 2]])))),.sl 3 (A5 (Aq (Aj (J
  a 2)) (Ao (J a 3))) (Aq (Ah [.agg [Af (J b 0) 0,Af (J b 0) 1,Af (J b 0) 2]]) (AE 0 [.agg [Af (J b 0) 0,Af (J b 0) 1,Af (J b
  0) 2]]))) false],(none,c)))))))))) dep x0 ([.jD,x0,nI 0,.sl 3 [] false],(none,e))) (fun a=>CJ (He a.2.1) (Ae (A6 (AB 3 3 (Ao (J a.1 3)) 0 (Aj (J
  a.1 2)))) (some (AB 3 3 (Ao (J a.1 3)) 0 (Aj (J a.1 2)),a.2.2))) (CJ (HK a.2.1) (some (J a.1 0,a.2.2)) none)):=by kernel_rfl
theorem run56 (B:KB) (h:AA E) (dep:Nat) (e:E) (x0:Nat) (x1:W):AH (AD B fun _=>.cl) fn56 (.cl) h dep [.ke x0,.cv x1] e=Ac (Ad (.fieldAddr 0 (.c x1))) (fun a=>Ac (Ad (.fieldAddr 2 (.c a))) fun a=>wh a fun a=>wc a fun b=>Ae (AY [nI x0,x1,a,b,.int .i64 0]) (Be (fun a=>wo (J a.1 4) (J a.1 3) fun b=>Ai b (wr (J a.1 2) (J a.1 4) fun b=>wh b fun b=>Ac (Ad (.load 3 true (.c (J a.1 1)))) fun d=>wv B 57 [d,b] fun b=>Ac (h (Aj (J a.1 0)) [b] a.2) fun b=>wi (.bool b.1) fun d=>Ai d (Ac (some (.jE [],b.2)) fun a=>some (.inr a)) (wj (J a.1 4) fun d=>some (.inl ([nI (Aj (J a.1 0)),J a.1 1,J a.1 2,J a.1 3,d],b.2)))) (Ac (some (.jE [],a.2)) fun a=>some (.inr a))) ([nI x0,x1,a,b,.int .i64 0],e))):=by kernel_rfl

theorem run57 (B:KB) (h:AA E) (dep:Nat) (e:E) (x0:W) (x1:W) :
  AH (AD B fun _=>.cl) fn57 (.cl) h dep [.cv x0,.cv x1] e =
  Ae (AZ x0) (Ac (A3 x0 1 1 false) (fun a=>Ae (AX 1 [x1]) (Ae (Aw a 1) (Ae (A6 (.agg [.bool false,Af a 0,AB 1 1 [x1] 0 (Ah [x1])])) (some (.agg
  [.bool false,Af a 0,AB 1 1 [x1] 0 (Ah [x1])],e)))))):=by kernel_rfl
theorem run51 (B:KB) (h:AA E) (dep:Nat) (e:E) (x0:W) :
  AH (AD B fun _=>.cl) fn51 (.cl) h dep [.cv x0] e =
  Ae (AZ x0) (Ae (A6 (.fn 82 [GX (DK x0) 0])) (some (.fn 82 [GX (DK x0) 0],e))):=by kernel_rfl
theorem run52 (B:KB) (h:AA E) (dep:Nat) (e:E) (x0:W) (x1:W):AH (AD B fun _=>.cl) fn52 (.cl) h dep [.cv x0,.cv x1] e=Ae (AZ x0) (wk x1 fun a=>Ai a (Ac (Ad (.build [.int .i64 0] [(0,(1,.c x1))])) fun a=>some (.jE [.agg [.bool false,.bool false,.jD],.iface 86 a],e)) (wd x0 fun a=>Ae (Aw a 3) (some (.jE [.agg [Af a 0,Af a 1,Af a 2],.jK],e)))):=by kernel_rfl

theorem run55 (B:KB) (h:AA E) (dep:Nat) (e:E) (x0:Nat) (x1:W):AH (AD B fun _=>.cl) fn55 (.cl) h dep [.ke x0,.cv x1] e=Ac (Ad (.fieldAddr 0 (.c x1))) (fun a=>Ac (Ad (.fieldAddr 2 (.c a))) fun a=>wh a fun a=>wc a fun a=>Ae (AY [nI x0,x1,a,.int .i64 0]) (Be (fun a=>wo (J a.1 3) (J a.1 2) fun b=>Ai b (Ac (Ad (.fieldAddr 0 (.c (J a.1 1)))) fun b=>Ac (Ad (.fieldAddr 1 (.c b))) fun b=>wh b fun b=>Ac (Ad (.fieldAddr 0 (.c (J a.1 1)))) fun d=>Ac (Ad (.fieldAddr 2 (.c d))) fun d=>wh d fun d=>wj (J a.1 3) fun f=>wj (J a.1 3) fun g=>Ac (Ad (.slice 1 (.c d) none (some (.c f)) (some (.c g)))) fun d=>Ac (Ad (.build [.bool false,.bool false,.jD] [(0,(1,.c (.bool true))),(1,(1,.c b)),(2,(1,.c d))])) fun b=>Ac (h (Aj (J a.1 0)) [b] a.2) fun b=>wi (.bool b.1) fun d=>Ai d (Ac (some (.jE [],b.2)) fun a=>some (.inr a)) (wj (J a.1 3) fun d=>some (.inl ([nI (Aj (J a.1 0)),J a.1 1,J a.1 2,d],b.2)))) (Ac (some (.jE [],a.2)) fun a=>some (.inr a))) ([nI x0,x1,a,.int .i64 0],e))):=by kernel_rfl

theorem run82 (B:KB) (h:AA E) (dep:Nat) (e:E) (x0:Nat) (x1:W):AH (AD B fun _=>.cl) fn82 (.cl) h dep [.ke x0,.cv x1] e=wh x1 (fun a=>wc a fun a=>Ac (Ad (.bin .sub .num true (.c a) (.c (.int .i64 1)))) fun a=>Ae (AY [nI x0,x1,a]) (Be (fun a=>Ac (Ad (.bin .geq .num true (.c (J a.1 2)) (.c (.int .i64 0)))) fun b=>Ai b (wh (J a.1 1) fun b=>Ac (Ad (.jJ 3 (.c b) (.c (J a.1 2)))) fun b=>Ac (Ad (.load 3 true (.c b))) fun b=>Ac (h (Aj (J a.1 0)) [J a.1 2,b] a.2) fun b=>wi (.bool b.1) fun d=>Ai d (Ac (some (.jE [],b.2)) fun a=>some (.inr a)) (Ac (Ad (.bin .sub .num true (.c (J a.1 2)) (.c (.int .i64 1)))) fun d=>some (.inl ([nI (Aj (J a.1 0)),J a.1 1,d],b.2)))) (Ac (some (.jE [],a.2)) fun a=>some (.inr a))) ([nI x0,x1,a],e))):=by kernel_rfl

theorem run149 (B:KB) (h:AA E) (dep:Nat) (e:E) (x0:Nat) (x1:W) (x2:W):AH (AD B fun _=>.cl) zE (.cl) h dep [.ke x0,.cv x1,.cv x2] e=wh x1 (fun a=>Ae (AY [nI x0,x2,a,.int .i64 0]) (Be (fun a=>wo (J a.1 3) (J a.1 2) fun b=>Ai b (Ac (Ad (.fieldAddr 0 (.c (J a.1 1)))) fun b=>Ac (Ad (.load 3 true (.c b))) fun b=>wv B 150 [b,J a.1 3] fun b=>Ac (Ad (.fieldAddr 3 (.c (J a.1 1)))) fun d=>Ac (Ad (.load 3 true (.c d))) fun d=>wv B 150 [d,J a.1 3] fun d=>Ac (h (Aj (J a.1 0)) [b,d] a.2) fun b=>wi (.bool b.1) fun d=>Ai d (Ac (some (.jE [],b.2)) fun a=>some (.inr a)) (wj (J a.1 3) fun d=>some (.inl ([nI (Aj (J a.1 0)),J a.1 1,J a.1 2,d],b.2)))) (Ac (some (.jE [],a.2)) fun a=>some (.inr a))) ([nI x0,x2,a,.int .i64 0],e))):=by kernel_rfl

theorem run150 (B:KB) (h:AA E) (dep:Nat) (e:E) (x0:W) (x1:W):AH (AD B fun _=>.cl) fn150 (.cl) h dep [.cv x0,.cv x1] e=Ae (AZ x0) (we x0 fun a=>Ai a (wg x0 fun a=>wr a x1 fun a=>wh a fun a=>some (a,e)) (wg x0 fun a=>wr a (.int .i64 0) fun a=>wh a fun a=>some (a,e))):=by kernel_rfl

theorem run170 (B:KB) (h:AA E) (dep:Nat) (e:E) (x0:W) :
  AH (AD B fun _=>.cl) fn170 (.cl) h dep [.cv x0] e =
  some (.jE [x0,.jK],e):=by kernel_rfl
theorem run171 (B:KB) (h:AA E) (dep:Nat) (e:E) (x0:W):AH (AD B fun _=>.cl) fn171 (.cl) h dep [.cv x0] e=Ac (Ad (.build [.int .i64 0,.int .i64 0] [(0,(1,.c (.int .i64 0))),(1,(1,.c x0))])) (fun a=>Ac (Ad (.build [.int .i64 0,.int .i64 0] [(0,(2,.c a))])) fun a=>wv B 139 [a] fun a=>wa a fun b=>wb a fun a=>some (.jE [b,a],e)):=by kernel_rfl

theorem run139 (B:KB) (h:AA E) (dep:Nat) (e:E) (x0:W):AH (AD B fun _=>.cl) fn139 (.cl) h dep [.cv x0] e=Ae (AZ x0) (we x0 fun a=>wf x0 fun b=>Ac (Ad (.bin .sub .num false (.c a) (.c b))) fun a=>wh (.ptr [.j8 5 260] 0) fun b=>we x0 fun d=>wm d fun d=>wf x0 fun f=>wm f fun f=>Ac (Ad (.bin .eql .bool false (.c d) (.c f))) fun d=>Ai d (Ae (AX 1 [.bool true]) (Ac (Bd B .cl false 176 [a,b,AB 1 1 [.bool true] 0 (Ah [.bool true])]) fun a=>wa a fun b=>wb a fun a=>some (.jE [b,a],e))) (wm a fun d=>we x0 fun f=>wm f fun f=>Ac (Ad (.bin .eql .bool false (.c d) (.c f))) fun d=>Ae (AX 1 [d]) (Ac (Bd B .cl false 176 [a,b,AB 1 1 [d] 0 (Ah [d])]) fun a=>wa a fun b=>wb a fun a=>some (.jE [b,a],e)))):=by kernel_rfl

theorem run172 (B:KB) (h:AA E) (dep:Nat) (e:E) (x0:W):AH (AD B fun _=>.cl) fn172 (.cl) h dep [.cv x0] e=Ac (Ad (.bin .gtr .num true (.c x0) (.c (.int .i64 0)))) (fun a=>wv B 173 [a] fun a=>wm x0 fun b=>wv B 173 [b] fun b=>Ac (Ad (.bin .sub .num false (.c a) (.c b))) fun a=>some (.jE [a,.jK],e)):=by kernel_rfl

theorem run173 (B:KB) (h:AA E) (dep:Nat) (e:E) (x0:W) :
  AH (AD B fun _=>.cl) fn173 (.cl) h dep [.cv x0] e =
  Ai x0 (some (.int .i64 1,e)) (some (.int .i64 0,e)):=by kernel_rfl
theorem run174 (B:KB) (h:AA E) (dep:Nat) (e:E) (x0:W):AH (AD B fun _=>.cl) fn174 (.cl) h dep [.cv x0] e=Ac (Ad (.build [.int .i64 0,.int .i64 0] [(0,(1,.c (.int .i64 1))),(1,(1,.c x0))])) (fun a=>Ac (Ad (.build [.int .i64 0,.int .i64 0] [(0,(2,.c a))])) fun a=>wv B 141 [a] fun a=>wa a fun b=>wb a fun a=>some (.jE [b,a],e)):=by kernel_rfl

theorem run141 (B:KB) (h:AA E) (dep:Nat) (e:E) (x0:W):AH (AD B fun _=>.cl) fn141 (.cl) h dep [.cv x0] e=Ae (AZ x0) (wf x0 fun a=>wl a fun a=>Ai a (wh (.ptr [.j8 6 260] 0) fun a=>we x0 fun b=>wl b fun b=>Ae (AX 1 [b]) (Ac (Bd B .cl false 176 [.int .i64 1,a,AB 1 1 [b] 0 (Ah [b])]) fun a=>wa a fun b=>wb a fun a=>some (.jE [b,a],e))) (wf x0 fun a=>Ac (Ad (.bin .eql .num true (.c a) (.c (.int .i64 (-1))))) fun a=>Ai a (we x0 fun a=>Ac (Ad (.un .neg (.c a))) fun a=>wh (.ptr [.j8 5 260] 0) fun b=>we x0 fun d=>Ac (Ad (.bin .neq .num true (.c d) (.c (.int .i64 (-9223372036854775808))))) fun d=>Ae (AX 1 [d]) (Ac (Bd B .cl false 176 [a,b,AB 1 1 [d] 0 (Ah [d])]) fun a=>wa a fun b=>wb a fun a=>some (.jE [b,a],e))) (we x0 fun a=>wf x0 fun b=>Ac (Ad (.bin .quo .num false (.c a) (.c b))) fun a=>wh (.ptr [.j8 6 260] 0) fun b=>we x0 fun d=>wf x0 fun f=>Ac (Ad (.bin .rem .num false (.c d) (.c f))) fun d=>wl d fun d=>Ae (AX 1 [d]) (Ac (Bd B .cl false 176 [a,b,AB 1 1 [d] 0 (Ah [d])]) fun a=>wa a fun b=>wb a fun a=>some (.jE [b,a],e))))):=by kernel_rfl

theorem run175 (B:KB) (h:AA E) (dep:Nat) (e:E) (x0:W):AH (AD B fun _=>.cl) fn175 (.cl) h dep [.cv x0] e=Ac (Ad (.bin .sub .num true (.c (.int .i64 1)) (.c x0))) (fun a=>Ac (Ad (.build [.str []] [(0,(1,.c (.str [126])))])) fun b=>wl x0 fun d=>Ai d (Ae (AX 1 [.bool true]) (Ac (Bd B .cl false 176 [a,.iface 205 b,AB 1 1 [.bool true] 0 (Ah [.bool true])]) fun a=>wa a fun b=>wb a fun a=>some (.jE [b,a],e))) (Ac (Ad (.bin .eql .num true (.c x0) (.c (.int .i64 1)))) fun d=>Ae (AX 1 [d]) (Ac (Bd B .cl false 176 [a,.iface 205 b,AB 1 1 [d] 0 (Ah [d])]) fun a=>wa a fun b=>wb a fun a=>some (.jE [b,a],e)))):=by kernel_rfl

theorem zQ (B:KB) (h:AA E) (dep:Nat) (e:E) (x0:W) (x1:W) (x2:W):AH (AD B fun _=>.cl) fn176 (.cl) h dep [.cv x0,.cv x1,.cv x2] e=wc x2 (fun a=>Ae (AY [x0,x1,x2,a,.int .i64 0]) (Be (fun a=>wo (J a.1 4) (J a.1 3) fun b=>Ai b (wr (J a.1 2) (J a.1 4) fun b=>wh b fun b=>wi b fun b=>Ai b (Ac (some (.jE [.int .i64 0,J a.1 1],a.2)) fun a=>some (.inr a)) (wj (J a.1 4) fun b=>some (.inl ([J a.1 0,J a.1 1,J a.1 2,J a.1 3,b],a.2)))) (Ac (some (.jE [J a.1 0,.jK],a.2)) fun a=>some (.inr a))) ([x0,x1,x2,a,.int .i64 0],e))):=by kernel_rfl

theorem run177 (B:KB) (h:AA E) (dep:Nat) (e:E) (x0:W) (x1:W):AH (AD B fun _=>.cl) fn177 (.cl) h dep [.cv x0,.cv x1] e=wm x0 (fun a=>Ai a (wh x1 fun a=>Ac (Ax B .cl a [x0]) fun a=>wa a fun b=>wb a fun a=>some (.jE [b,a],e)) (some (.jE [x0,.jK],e))):=by kernel_rfl

theorem run151 (B:KB) (h:AA E) (dep:Nat) (e:E) (x0:W):AH (AD B fun _=>.cl) fn151 (.cl) h dep [.cv x0] e=wh (.ptr [.j8 5 260] 0) (fun a=>wv B 194 [x0,a] fun a=>Ai a (some (.int .i64 100,e)) (wh (.ptr [.j8 6 260] 0) fun a=>wv B 194 [x0,a] fun a=>Ai a (some (.int .i64 101,e)) (Ae (FF 1 1) (asP 205 x0 (fun a=>Ae (Aw a 1) (some (.int .i64 102,e))) (some (.int .i64 0,e)))))):=by kernel_rfl

theorem run138 (B:KB) (h:AA E) (dep:Nat) (e:E) (x0:W):AH (AD B fun _=>.cl) fn138 (.cl) h dep [.cv x0] e=Ae (AZ x0) (we x0 fun a=>wf x0 fun b=>wp a b fun a=>wh (.ptr [.j8 5 260] 0) fun b=>we x0 fun d=>wm d fun d=>wf x0 fun f=>wm f fun f=>Ac (Ad (.bin .neq .bool false (.c d) (.c f))) fun d=>Ai d (Ae (AX 1 [.bool true]) (Ac (Bd B .cl false 176 [a,b,AB 1 1 [.bool true] 0 (Ah [.bool true])]) fun a=>wa a fun b=>wb a fun a=>some (.jE [b,a],e))) (wm a fun d=>we x0 fun f=>wm f fun f=>Ac (Ad (.bin .eql .bool false (.c d) (.c f))) fun d=>Ae (AX 1 [d]) (Ac (Bd B .cl false 176 [a,b,AB 1 1 [d] 0 (Ah [d])]) fun a=>wa a fun b=>wb a fun a=>some (.jE [b,a],e)))):=by kernel_rfl

theorem run140 (B:KB) (h:AA E) (dep:Nat) (e:E) (x0:W):AH (AD B fun _=>.cl) fn140 (.cl) h dep [.cv x0] e=Ae (AZ x0) (we x0 fun a=>wv B 193 [a] fun a=>wf x0 fun b=>wv B 193 [b] fun b=>wv B 192 [a,b] fun a=>wa a fun b=>wb a fun a=>we x0 fun d=>wm d fun d=>wf x0 fun f=>wm f fun f=>Ac (Ad (.bin .neq .bool false (.c d) (.c f))) fun d=>Ac (Ad (.conv .i64 (.c a))) fun f=>Ai d (Ac (Ad (.un .neg (.c f))) fun f=>wh (.ptr [.j8 5 260] 0) fun g=>Ac (Ad (.bin .eql .num true (.c b) (.c (.int .u64 0)))) fun b=>Ac (Ad (.bin .leq .num true (.c a) (.c (.int .u64 9223372036854775807)))) fun i=>Ai i (Ae (AX 1 [b,.bool true]) (Ac (Bd B .cl false 176 [f,g,AB 1 1 [b,.bool true] 0 (Ah [b,.bool true])]) fun a=>wa a fun b=>wb a fun a=>some (.jE [b,a],e))) (Ai d (Ac (Ad (.bin .eql .num true (.c a) (.c (.int .u64 9223372036854775808)))) fun a=>Ae (AX 1 [b,a]) (Ac (Bd B .cl false 176 [f,g,AB 1 1 [b,a] 0 (Ah [b,a])]) fun a=>wa a fun b=>wb a fun a=>some (.jE [b,a],e))) (Ae (AX 1 [b,.bool false]) (Ac (Bd B .cl false 176 [f,g,AB 1 1 [b,.bool false] 0 (Ah [b,.bool false])]) fun a=>wa a fun b=>wb a fun a=>some (.jE [b,a],e))))) (wh (.ptr [.j8 5 260] 0) fun g=>Ac (Ad (.bin .eql .num true (.c b) (.c (.int .u64 0)))) fun b=>Ac (Ad (.bin .leq .num true (.c a) (.c (.int .u64 9223372036854775807)))) fun i=>Ai i (Ae (AX 1 [b,.bool true]) (Ac (Bd B .cl false 176 [f,g,AB 1 1 [b,.bool true] 0 (Ah [b,.bool true])]) fun a=>wa a fun b=>wb a fun a=>some (.jE [b,a],e))) (Ai d (Ac (Ad (.bin .eql .num true (.c a) (.c (.int .u64 9223372036854775808)))) fun a=>Ae (AX 1 [b,a]) (Ac (Bd B .cl false 176 [f,g,AB 1 1 [b,a] 0 (Ah [b,a])]) fun a=>wa a fun b=>wb a fun a=>some (.jE [b,a],e))) (Ae (AX 1 [b,.bool false]) (Ac (Bd B .cl false 176 [f,g,AB 1 1 [b,.bool false] 0 (Ah [b,.bool false])]) fun a=>wa a fun b=>wb a fun a=>some (.jE [b,a],e)))))):=by kernel_rfl

theorem run142 (B:KB) (h:AA E) (dep:Nat) (e:E) (x0:W):AH (AD B fun _=>.cl) fn142 (.cl) h dep [.cv x0] e=Ae (AZ x0) (we x0 fun a=>wl a fun a=>Ai a (wf x0 fun a=>some (.jE [a,.jK],e)) (we x0 fun a=>Ac (Ad (.bin .eql .num true (.c a) (.c (.int .i64 (-1))))) fun a=>Ai a (some (.jE [.int .i64 0,.jK],e)) (wf x0 fun a=>we x0 fun b=>Ac (Ad (.bin .rem .num false (.c a) (.c b))) fun a=>Ae (AY [a,.int .i64 0]) (Be (fun a=>Ac (Ad (.bin .lss .num true (.c (J a.1 1)) (.c (.int .i64 1)))) fun b=>Ai b (Ac (wl (J a.1 0) fun b=>Ai b (some (.bool true)) (wm (J a.1 0) fun b=>we (J a.1 2) fun a=>wm a fun a=>Ac (Ad (.bin .eql .bool false (.c b) (.c a))) fun a=>some a)) fun b=>Ai b (Ac (some (.jE [J a.1 0,.jK],a.2)) fun a=>some (.inr a)) (we (J a.1 2) fun b=>wp (J a.1 0) b fun b=>wj (J a.1 1) fun d=>some (.inl ([b,d,J a.1 2],a.2)))) (Ac (some (.jE [J a.1 0,.jK],a.2)) fun a=>some (.inr a))) ([a,.int .i64 0,x0],e))))):=by kernel_rfl

theorem run143 (B:KB) (h:AA E) (dep:Nat) (e:E) (x0:W):AH (AD B fun _=>.cl) fn143 (.cl) h dep [.cv x0] e=Ae (AZ x0) (we x0 fun a=>wf x0 fun b=>Ac (Ad (.j6 true [.c a,.c b])) fun a=>some (.jE [a,.jK],e)):=by kernel_rfl

theorem run144 (B:KB) (h:AA E) (dep:Nat) (e:E) (x0:W):AH (AD B fun _=>.cl) fn144 (.cl) h dep [.cv x0] e=Ae (AZ x0) (we x0 fun a=>wf x0 fun b=>Ac (Ad (.j6 false [.c a,.c b])) fun a=>some (.jE [a,.jK],e)):=by kernel_rfl

theorem run145 (B:KB) (h:AA E) (dep:Nat) (e:E) (x0:W) (x1:W):AH (AD B fun _=>.cl) fn145 (.cl) h dep [.cv x0,.cv x1] e=Ae (AZ x0) (Ac (A3 x0 0 2 true) fun a=>wh x1 fun b=>wv B 146 [a,b] fun a=>wa a fun b=>wb a fun a=>some (.jE [b,a],e)):=by kernel_rfl

theorem Nd (B:KB) (h:AA E) (dep:Nat) (e:E) (x0:W) (x1:W):AH (AD B fun _=>.cl) fn146 (.cl) h dep [.cv x0,.cv x1] e=Ae (AZ x0) (ws x1 [226,137,160] fun a=>Ai a (we x0 fun a=>wf x0 fun b=>wt a b fun a=>wv B 173 [a] fun a=>some (.jE [a,.jK],e)) (ws x1 [226,137,164] fun a=>Ai a (we x0 fun a=>wf x0 fun b=>wq a b fun a=>wv B 173 [a] fun a=>we x0 fun b=>wf x0 fun d=>wo b d fun b=>wv B 173 [b] fun b=>Ac (Ad (.bin .or .num false (.c a) (.c b))) fun a=>some (.jE [a,.jK],e)) (ws x1 [60] fun a=>Ai a (we x0 fun a=>wf x0 fun b=>wo a b fun a=>wv B 173 [a] fun a=>Ac (Ad (.bin .or .num false (.c (.int .i64 0)) (.c a))) fun a=>some (.jE [a,.jK],e)) (ws x1 [61] fun a=>Ai a (Ai a (we x0 fun a=>wf x0 fun b=>wq a b fun a=>wv B 173 [a] fun a=>ws x1 [61] fun b=>Ai b (some (.jE [a,.jK],e)) (we x0 fun b=>wf x0 fun d=>wu b d fun b=>wv B 173 [b] fun b=>Ac (Ad (.bin .or .num false (.c a) (.c b))) fun a=>some (.jE [a,.jK],e))) (ws x1 [62] fun a=>Ai a (we x0 fun a=>wf x0 fun b=>wu a b fun a=>wv B 173 [a] fun a=>Ac (Ad (.bin .or .num false (.c (.int .i64 0)) (.c a))) fun a=>some (.jE [a,.jK],e)) (some (.jE [.int .i64 0,.jK],e)))) (ws x1 [226,137,165] fun a=>Ai a (we x0 fun a=>wf x0 fun b=>wq a b fun a=>wv B 173 [a] fun a=>ws x1 [61] fun b=>Ai b (some (.jE [a,.jK],e)) (we x0 fun b=>wf x0 fun d=>wu b d fun b=>wv B 173 [b] fun b=>Ac (Ad (.bin .or .num false (.c a) (.c b))) fun a=>some (.jE [a,.jK],e))) (ws x1 [62] fun a=>Ai a (we x0 fun a=>wf x0 fun b=>wu a b fun a=>wv B 173 [a] fun a=>Ac (Ad (.bin .or .num false (.c (.int .i64 0)) (.c a))) fun a=>some (.jE [a,.jK],e)) (some (.jE [.int .i64 0,.jK],e)))))))):=by kernel_rfl

theorem run147 (B:KB) (h:AA E) (dep:Nat) (e:E) (x0:W) (x1:W):AH (AD B fun _=>.cl) fn147 (.cl) h dep [.cv x0,.cv x1] e=Ae (AZ x0) (Ac (A3 x0 0 2 true) fun a=>wh x1 fun b=>wv B 148 [a,b] fun a=>wa a fun b=>wb a fun a=>some (.jE [b,a],e)):=by kernel_rfl

theorem run148 (B:KB) (h:AA E) (dep:Nat) (e:E) (x0:W) (x1:W):AH (AD B fun _=>.cl) fn148 (.cl) h dep [.cv x0,.cv x1] e=Ae (AZ x0) (we x0 fun a=>wf x0 fun b=>Ac (Ad (.bin .and .num false (.c a) (.c b))) fun a=>ws x1 [226,136,168] fun b=>Ai b (we x0 fun a=>wf x0 fun b=>Ac (Ad (.bin .or .num false (.c a) (.c b))) fun a=>Ac (Ad (.build [.str []] [(0,(1,.c x1))])) fun b=>we x0 fun d=>Ac (Ad (.bin .shr .num true (.c d) (.c (.int .u64 1)))) fun d=>wl d fun d=>wf x0 fun f=>Ac (Ad (.bin .shr .num true (.c f) (.c (.int .u64 1)))) fun f=>wl f fun f=>Ae (AX 1 [d,f]) (Ac (Bd B .cl false 176 [a,.iface 205 b,AB 1 1 [d,f] 0 (Ah [d,f])]) fun a=>wa a fun b=>wb a fun a=>some (.jE [b,a],e))) (Ac (Ad (.build [.str []] [(0,(1,.c x1))])) fun b=>we x0 fun d=>Ac (Ad (.bin .shr .num true (.c d) (.c (.int .u64 1)))) fun d=>wl d fun d=>wf x0 fun f=>Ac (Ad (.bin .shr .num true (.c f) (.c (.int .u64 1)))) fun f=>wl f fun f=>Ae (AX 1 [d,f]) (Ac (Bd B .cl false 176 [a,.iface 205 b,AB 1 1 [d,f] 0 (Ah [d,f])]) fun a=>wa a fun b=>wb a fun a=>some (.jE [b,a],e)))):=by kernel_rfl

theorem run192 (B:KB) (h:AA E) (dep:Nat) (e:E) (x0:W) (x1:W):AH (AD B fun _=>.cl) fn192 (.cl) h dep [.cv x0,.cv x1] e=Ac (Ad (.bin .and .num true (.c x0) (.c (.int .u64 4294967295)))) (fun a=>Ac (Ad (.bin .shr .num true (.c x0) (.c (.int .u64 32)))) fun b=>Ac (Ad (.bin .and .num true (.c x1) (.c (.int .u64 4294967295)))) fun d=>Ac (Ad (.bin .shr .num true (.c x1) (.c (.int .u64 32)))) fun f=>Ac (Ad (.bin .mul .num false (.c a) (.c d))) fun g=>Ac (Ad (.bin .mul .num false (.c b) (.c d))) fun d=>Ac (Ad (.bin .shr .num true (.c g) (.c (.int .u64 32)))) fun g=>wp d g fun d=>Ac (Ad (.bin .and .num true (.c d) (.c (.int .u64 4294967295)))) fun g=>Ac (Ad (.bin .shr .num true (.c d) (.c (.int .u64 32)))) fun d=>Ac (Ad (.bin .mul .num false (.c a) (.c f))) fun a=>wp g a fun a=>Ac (Ad (.bin .mul .num false (.c b) (.c f))) fun b=>wp b d fun b=>Ac (Ad (.bin .shr .num true (.c a) (.c (.int .u64 32)))) fun a=>wp b a fun a=>Ac (Ad (.bin .mul .num false (.c x0) (.c x1))) fun b=>some (.jE [a,b],e)):=by kernel_rfl

theorem run193 (B:KB) (h:AA E) (dep:Nat) (e:E) (x0:W):AH (AD B fun _=>.cl) fn193 (.cl) h dep [.cv x0] e=wm x0 (fun a=>Ai a (Ac (Ad (.conv .u64 (.c x0))) fun a=>Ac (Ad (.un .neg (.c a))) fun a=>some (a,e)) (Ac (Ad (.conv .u64 (.c x0))) fun a=>some (a,e))):=by kernel_rfl

end Go.Ab


set_option maxRecDepth 100000
namespace Go.Ab
open Go
variable{E:Type}
theorem run85 (B:KB) (h:AA E) (dep:Nat) (e:E) (x0:W) (x1:W) (x2:W):AH (AD B fun _=>.cl) fn85 (.cl) h dep [.cv x0,.cv x1,.cv x2] e=Ae (AZ x1) (Ae (AZ x2) (wv B 115 [] fun a=>Ac (Ad (.lookup .str (.agg [.jV,.jV]) false (.c a) (.c x0))) fun a=>Ae (Aw a 2) (wd x1 fun b=>wd x2 fun d=>Ae (AX 3 [b,d]) (Ac (Bd B .cl true 116 [AB 3 3 [b,d] 0 (Ah [b,d])]) fun b=>wi b fun b=>Ai b (some (.jE [.agg [.bool false,.bool false,.jD],.int .i64 114],e)) (Ac (Ad (.bin .eql .func true (.c (Af a 1)) (.c .jV))) fun b=>Ai b (some (.jE [.agg [.bool false,.bool false,.jD],.int .i64 102],e)) (wd x2 fun b=>wd x1 fun d=>Ac (Ad (.build [.bool false,.bool false,.jD,.bool false,.bool false,.jD] [(0,(3,.c b)),(3,(3,.c d))])) fun b=>Ac (Ax B .cl (Af a 1) [b]) fun a=>wa a fun b=>wb a fun a=>Ae (Aw b 3) (wv B 117 [a] fun a=>some (.jE [.agg [Af b 0,Af b 1,Af b 2],a],e)))))))):=by kernel_rfl

theorem zR (B:KB) (h:AA E) (dep:Nat) (e:E) (x0:W) :
  AH (AD B fun _=>.cl) fn116 (.cl) h dep [.cv x0] e =
  Ac (Ax B .cl (.fn 168 []) [x0,.fn 169 []]) (fun a=>Ac (Ad (.un .not (.c a))) fun a=>some (a,e)):=by kernel_rfl
theorem run117 (B:KB) (h:AA E) (dep:Nat) (e:E) (x0:W) :
  AH (AD B fun _=>.cl) fn117 (.cl) h dep [.cv x0] e =
  Ae (FF 1 1) (asP 210 x0 (fun a=>Ae (Aw a 1) (Ac (A3 a 0 1 false) fun a=>some (a,e))) (some (.int .i64 0,e))):=by kernel_rfl
theorem zS (B:KB) (h:AA E) (dep:Nat) (e:E) (x0:W):AH (AD B fun _=>.cl) fn159 (.cl) h dep [.cv x0] e=Ae (AZ x0) (Ac (Ac (A3 x0 5 1 false) fun a=>wc a fun a=>Ac (Ad (.bin .gtr .num true (.c a) (.c (.int .i64 0)))) fun a=>Ai a (wg x0 fun a=>wc a fun a=>Ac (Ad (.bin .gtr .num true (.c a) (.c (.int .i64 0)))) fun a=>Ai a (Ac (A3 x0 4 1 false) fun a=>wf x0 fun b=>Ac (Ad (.bin .neq .bool false (.c a) (.c b))) fun a=>some a) (some (.bool false))) (some (.bool false))) fun a=>Ai a (Ac (Ad (.build [.int .i64 0] [(0,(1,.c (.int .i64 102)))])) fun a=>some (.jE [.agg [.bool false,.bool false,.jD],.iface 210 a],e)) (Ac (A3 x0 5 1 false) fun a=>wc a fun a=>wg x0 fun b=>wc b fun b=>wp a b fun a=>Ac (Ad (.bin .gtr .num true (.c a) (.c (.int .i64 200)))) fun a=>Ai a (Ac (Ad (.build [.int .i64 0] [(0,(1,.c (.int .i64 113)))])) fun a=>some (.jE [.agg [.bool false,.bool false,.jD],.iface 210 a],e)) (Ac (A3 x0 3 3 true) fun a=>wv B 199 [a] fun a=>Ai a (Ac (A3 x0 5 1 false) fun a=>wg x0 fun b=>Ae (AX 1 [a,b]) (Ac (Bd B (.own 1) true 200 [AB 1 1 [a,b] 0 (Ah [a,b])]) fun a=>Ae (A6 (.jE [.agg [.bool true,.bool true,AB 1 1 (Ao a) 0 (Ah (Ao a))],.jK])) (some (.jE [.agg [.bool true,.bool true,AB 1 1 (Ao a) 0 (Ah (Ao a))],.jK],e)))) (wd x0 fun a=>wv B 199 [a] fun a=>Ai a (Ac (A3 x0 5 1 false) fun a=>wg x0 fun b=>Ae (AX 1 [a,b]) (Ac (Bd B (.own 1) true 200 [AB 1 1 [a,b] 0 (Ah [a,b])]) fun a=>Ae (A6 (.jE [.agg [.bool true,.bool true,AB 1 1 (Ao a) 0 (Ah (Ao a))],.jK])) (some (.jE [.agg [.bool true,.bool true,AB 1 1 (Ao a) 0 (Ah (Ao a))],.jK],e)))) (Ac (A3 x0 4 1 false) fun a=>Ai a (wf x0 fun a=>Ac (A3 x0 5 1 false) fun b=>wg x0 fun d=>Ae (AX 1 [b,d]) (Ac (Bd B (.own 1) true 200 [AB 1 1 [b,d] 0 (Ah [b,d])]) fun b=>Ae (Aw a 1) (Ae (A6 (.jE [.agg [.bool true,Af a 0,AB 1 1 (Ao b) 0 (Ah (Ao b))],.jK])) (some (.jE [.agg [.bool true,Af a 0,AB 1 1 (Ao b) 0 (Ah (Ao b))],.jK],e))))) (Ac (A3 x0 5 1 false) fun a=>wg x0 fun b=>Ae (AX 1 [a,b]) (Ac (Bd B (.own 1) true 200 [AB 1 1 [a,b] 0 (Ah [a,b])]) fun a=>Ae (A6 (.jE [.agg [.bool true,.bool false,AB 1 1 (Ao a) 0 (Ah (Ao a))],.jK])) (some (.jE [.agg [.bool true,.bool false,AB 1 1 (Ao a) 0 (Ah (Ao a))],.jK],e))))))))):=by kernel_rfl

theorem zT (B:KB) (h:AA E) (dep:Nat) (e:E) (x0:W) (x1:W) :
  AH (AD B fun _=>.cl) fn168 (.cl) h dep [.cv x0,.cv x1] e =
  Ac (Ax B .cl (.fn 204 []) [x0,x1]) (fun a=>Ac (Ad (.bin .geq .num true (.c a) (.c (.int .i64 0)))) fun a=>some (a,e)):=by kernel_rfl
theorem run169 (B:KB) (h:AA E) (dep:Nat) (e:E) (x0:W):AH (AD B fun _=>.cl) fn169 (.cl) h dep [.cv x0] e=Ae (AZ x0) (wd x0 fun a=>wv B 24 [a] fun a=>wi a fun a=>some (a,e)):=by kernel_rfl

theorem run199 (B:KB) (h:AA E) (dep:Nat) (e:E) (x0:W):AH (AD B fun _=>.cl) fn199 (.cl) h dep [.cv x0] e=Ae (AZ x0) (Ac (wf x0 fun a=>Ai a (wg x0 fun a=>wc a fun a=>Ac (Ad (.bin .gtr .num true (.c a) (.c (.int .i64 0)))) fun a=>some a) (some (.bool false))) fun a=>some (a,e)):=by kernel_rfl

theorem run200 (B:KB) (h:AA E) (dep:Nat) (e:E) (x0:W):AH (AD B fun _=>.cl) fn200 (.own 1) h dep [.cv x0] e=wc x0 (fun a=>Ae (AY [x0,.int .i64 0,x0,a,.int .i64 0]) (Be (fun a=>wo (J a.1 4) (J a.1 3) fun b=>Ai b (wr (J a.1 2) (J a.1 4) fun b=>wh b fun b=>wc b fun b=>wp (J a.1 1) b fun b=>wm b fun c=>Ai c none (wj (J a.1 4) fun c=>some (.inl ([J a.1 0,b,J a.1 2,J a.1 3,c],a.2)))) (Ac (Ac (Ax B (.own 1) (.fn 218 []) [.jD,J a.1 1]) fun b=>wc (J a.1 0) fun c=>Ae (AY [nI (Ah (Ao b)),J a.1 0,c,.int .i64 0]) (Be (fun a=>wo (J a.1 3) (J a.1 2) fun b=>Ai b (wr (J a.1 1) (J a.1 3) fun b=>wh b fun b=>Ac (GO 1 b) fun b=>Ae (Bb (Ay (Aj (J a.1 0)) (Ah (Ao (J a.1 4)))) (Ay (As (Aj (J a.1 0)) (Ah b)) 2147483648)) (wj (J a.1 3) fun c=>some (.inl ([nI (As (Aj (J a.1 0)) (Ah b)),J a.1 1,J a.1 2,c,.sl 1 (A5 (Aq (Aj (J a.1 0)) (Ao (J a.1 4))) b) false],a.2)))) (Ac (Ae (FF (Aj (J a.1 0)) (Ah (Ao (J a.1 4)))) (some (.sl 1 (Ao (J a.1 4)) false,a.2))) fun a=>some (.inr a))) ([nI (Ah (Ao b)),J a.1 0,c,.int .i64 0,.sl 1 (Ao b) false],a.2))) fun a=>some (.inr a))) ([x0,.int .i64 0,x0,a,.int .i64 0],e))):=by kernel_rfl

theorem zU (B:KB) (h:AA E) (dep:Nat) (e:E) (x0:W) (x1:W):AH (AD B fun _=>.cl) fn204 (.cl) h dep [.cv x0,.cv x1] e=wc x0 (fun a=>Ae (AY [x0,x1,a,.int .i64 0]) (Be (fun a=>wo (J a.1 3) (J a.1 2) fun b=>Ai b (Ac (Ad (.jJ 3 (.c (J a.1 0)) (.c (J a.1 3)))) fun b=>Ac (Ad (.load 3 true (.c b))) fun b=>Ac (Ax B .cl (J a.1 1) [b]) fun b=>Ai b (Ac (some (J a.1 3,a.2)) fun a=>some (.inr a)) (wj (J a.1 3) fun b=>some (.inl ([J a.1 0,J a.1 1,J a.1 2,b],a.2)))) (Ac (some (.int .i64 (-1),a.2)) fun a=>some (.inr a))) ([x0,x1,a,.int .i64 0],e))):=by kernel_rfl

end Go.Ab


set_option maxRecDepth 100000
namespace Go.Ab
open Go
variable{E:Type}
theorem run88 (B:KB) (h:AA E) (dep:Nat) (e:E) (x0:W) (x1:W):AH (AD B fun _=>.cl) fn88 (.cl) h dep [.cv x0,.cv x1] e=Ae (AZ x1) (wv B 115 [] fun a=>Ac (Ad (.lookup .str (.agg [.jV,.jV]) false (.c a) (.c x0))) fun a=>Ae (Aw a 2) (wd x1 fun b=>Ae (AX 3 [b]) (Ac (Bd B .cl true 116 [AB 3 3 [b] 0 (Ah [b])]) fun b=>wi b fun b=>Ai b (some (.jE [.agg [.bool false,.bool false,.jD],.int .i64 114],e)) (Ac (Ad (.bin .eql .func true (.c (Af a 0)) (.c .jV))) fun b=>Ai b (some (.jE [.agg [.bool false,.bool false,.jD],.int .i64 102],e)) (wd x1 fun b=>Ac (Ax B .cl (Af a 0) [b]) fun a=>wa a fun b=>wb a fun a=>Ae (Aw b 3) (wv B 117 [a] fun a=>some (.jE [.agg [Af b 0,Af b 1,Af b 2],a],e))))))):=by kernel_rfl

theorem zV (B:KB) (h:AA E) (dep:Nat) (e:E) (x0:W):AH (AD B fun _=>.cl) fn152 (.cl) h dep [.cv x0] e=Ae (AZ x0) (we x0 fun a=>wi a fun a=>Ai a (wv B 195 [.jD] fun a=>Ae (Aw a 3) (some (.jE [.agg [Af a 0,Af a 1,Af a 2],.jK],e))) (wg x0 fun a=>wc a fun a=>Ae (AX 1 [a]) (Ac (Bd B .cl false 195 [AB 1 1 [a] 0 (Ah [a])]) fun a=>Ae (Aw a 3) (some (.jE [.agg [Af a 0,Af a 1,Af a 2],.jK],e))))):=by kernel_rfl

theorem Rd (B:KB) (h:AA E) (dep:Nat) (e:E) (x0:W):AH (AD B fun _=>.cl) fn153 (.cl) h dep [.cv x0] e=Ae (AZ x0) (Ac (A3 x0 0 6 true) fun a=>wv B 196 [a,.int .i64 (-9223372036854775808),.int .i64 200] fun a=>wa a fun b=>wb a fun a=>Ac (Ac (Ad (.bin .eql .iface true (.c a) (.c .jK))) fun a=>Ai a (wm b fun a=>some a) (some (.bool false))) fun d=>Ai d (Ac (Ad (.build [.int .i64 0] [(0,(1,.c (.int .i64 102)))])) fun a=>wn (.iface 210 a) fun d=>Ai d (some (.jE [.agg [.bool false,.bool false,.jD],.iface 210 a],e)) (Ac (Ad (.build [.int .i64 0] [(0,(1,.c (.int .i64 110)))])) fun a=>Ac (Ac (Ad (.bin .gtr .num true (.c b) (.c (.int .i64 0)))) fun a=>Ai a (wg x0 fun a=>wc a fun a=>wl a fun a=>some a) (some (.bool false))) fun d=>Ai d (some (.jE [.agg [.bool false,.bool false,.jD],.iface 210 a],e)) (Ae (AY [nI 0,b,.int .i64 0]) (Be (fun a=>wo (J a.1 2) (J a.1 1) fun b=>Ai b (wg (J a.1 3) fun b=>wg (J a.1 3) fun d=>wc d fun d=>Ac (Ad (.bin .rem .num false (.c (J a.1 2)) (.c d))) fun d=>wr b d fun b=>wh b fun b=>Ae (AX 1 [b]) (Ae (Ay (As 0 (Ah [b])) (Ah [b])) (Ae (Bb (Ay (Aj (J a.1 0)) (Ah (Ao (J a.1 7)))) (Ay (As (Aj (J a.1 0)) (Ah (Aq (Ah [b]) (AE 0 [b])))) 2147483648)) (wj (J a.1 2) fun d=>some (.inl ([nI (As (Aj (J a.1 0)) (Ah (Aq (Ah [b]) (AE 0 [b])))),J a.1 1,d,J a.1 3,J a.1 4,J a.1 5,J a.1 6,.sl 1 (A5 (Aq (Aj (J a.1 0)) (Ao (J a.1 7))) (Aq (Ah [b]) (AE 0 [b]))) false],a.2)))))) (Ac (wd (J a.1 3) fun b=>Ac (Bd B .cl false 157 [b,AB 1 1 (Ao (J a.1 7)) 0 (Aj (J a.1 0))]) fun b=>Ae (Aw b 3) (some (.jE [.agg [Af b 0,Af b 1,Af b 2],.jK],a.2))) fun a=>some (.inr a))) ([nI 0,b,.int .i64 0,x0,.bool false,.bool false,.jD,.sl 1 [] false],e))))) (wn a fun d=>Ai d (some (.jE [.agg [.bool false,.bool false,.jD],a],e)) (Ac (Ad (.build [.int .i64 0] [(0,(1,.c (.int .i64 110)))])) fun a=>Ac (Ac (Ad (.bin .gtr .num true (.c b) (.c (.int .i64 0)))) fun a=>Ai a (wg x0 fun a=>wc a fun a=>wl a fun a=>some a) (some (.bool false))) fun d=>Ai d (some (.jE [.agg [.bool false,.bool false,.jD],.iface 210 a],e)) (Ae (AY [nI 0,b,.int .i64 0]) (Be (fun a=>wo (J a.1 2) (J a.1 1) fun b=>Ai b (wg (J a.1 3) fun b=>wg (J a.1 3) fun d=>wc d fun d=>Ac (Ad (.bin .rem .num false (.c (J a.1 2)) (.c d))) fun d=>wr b d fun b=>wh b fun b=>Ae (AX 1 [b]) (Ae (Ay (As 0 (Ah [b])) (Ah [b])) (Ae (Bb (Ay (Aj (J a.1 0)) (Ah (Ao (J a.1 7)))) (Ay (As (Aj (J a.1 0)) (Ah (Aq (Ah [b]) (AE 0 [b])))) 2147483648)) (wj (J a.1 2) fun d=>some (.inl ([nI (As (Aj (J a.1 0)) (Ah (Aq (Ah [b]) (AE 0 [b])))),J a.1 1,d,J a.1 3,J a.1 4,J a.1 5,J a.1 6,.sl 1 (A5 (Aq (Aj (J a.1 0)) (Ao (J a.1 7))) (Aq (Ah [b]) (AE 0 [b]))) false],a.2)))))) (Ac (wd (J a.1 3) fun b=>Ac (Bd B .cl false 157 [b,AB 1 1 (Ao (J a.1 7)) 0 (Aj (J a.1 0))]) fun b=>Ae (Aw b 3) (some (.jE [.agg [Af b 0,Af b 1,Af b 2],.jK],a.2))) fun a=>some (.inr a))) ([nI 0,b,.int .i64 0,x0,.bool false,.bool false,.jD,.sl 1 [] false],e)))))):=by kernel_rfl

theorem zW (B:KB) (h:AA E) (dep:Nat) (e:E) (x0:W):AH (AD B fun _=>.cl) fn154 (.cl) h dep [.cv x0] e=Ae (AZ x0) (wd x0 fun a=>wv B 197 [a] fun a=>wa a fun b=>wb a fun a=>wn a fun d=>Ai d (some (.jE [.agg [.bool false,.bool false,.jD],a],e)) (wm b fun a=>Ai a (Ac (Ad (.build [.int .i64 0] [(0,(1,.c (.int .i64 102)))])) fun a=>some (.jE [.agg [.bool false,.bool false,.jD],.iface 210 a],e)) (Ac (Ad (.bin .gtr .num true (.c b) (.c (.int .i64 200)))) fun a=>Ai a (Ac (Ad (.build [.int .i64 0] [(0,(1,.c (.int .i64 113)))])) fun a=>some (.jE [.agg [.bool false,.bool false,.jD],.iface 210 a],e)) (wv B 195 [.jD] fun a=>Ae (Aw a 3) (CU (Af a 2) (Ae (AY [b,.int .i64 0]) (Be (fun a=>wo (J a.1 1) (J a.1 0) fun b=>Ai b (wj (J a.1 1) fun b=>Ae (AX 1 [b]) (Ae (Ay (As 0 (Ah [b])) (Ah [b])) (Ae (Bb (Ay (Aj (J a.1 7)) (Ah (Ao (J a.1 8)))) (Ay (As (Aj (J a.1 7)) (Ah (Aq (Ah [b]) (AE 0 [b])))) 2147483648)) (wj (J a.1 1) fun d=>some (.inl ([J a.1 0,d,J a.1 2,J a.1 3,J a.1 4,J a.1 5,J a.1 6,nI (As (Aj (J a.1 7)) (Ah (Aq (Ah [b]) (AE 0 [b])))),.sl 1 (A5 (Aq (Aj (J a.1 7)) (Ao (J a.1 8))) (Aq (Ah [b]) (AE 0 [b]))) false],a.2)))))) (Ac (Ae (A6 (.jE [.agg [J a.1 5,J a.1 6,AB 1 1 (Ao (J a.1 8)) 0 (Aj (J a.1 7))],.jK])) (some (.jE [.agg [J a.1 5,J a.1 6,AB 1 1 (Ao (J a.1 8)) 0 (Aj (J a.1 7))],.jK],a.2))) fun a=>some (.inr a))) ([b,.int .i64 0,.bool false,.bool false,.jD,Af a 0,Af a 1,nI 0,.sl 1 [] false],e)))))))):=by kernel_rfl

theorem zX (B:KB) (h:AA E) (dep:Nat) (e:E) (x0:W):AH (AD B fun _=>.cl) fn155 (.cl) h dep [.cv x0] e=Ae (AZ x0) (Ac (A3 x0 3 1 false) fun a=>wi a fun a=>Ai a (Ac (Ad (.build [.int .i64 0] [(0,(1,.c (.int .i64 111)))])) fun a=>some (.jE [.agg [.bool false,.bool false,.jD],.iface 210 a],e)) (we x0 fun a=>Ac (Ad (.build [.bool false,.bool false,.jD] [(0,(1,.c a))])) fun a=>Ae (Aw a 3) (wg x0 fun b=>wc b fun d=>CU (Af a 2) (Ae (AY [b,d,.int .i64 0]) (Be (fun a=>wo (J a.1 2) (J a.1 1) fun b=>Ai b (wr (J a.1 0) (J a.1 2) fun b=>wh b fun b=>Ac (A3 (J a.1 3) 5 1 false) fun d=>wv B 198 [d,b] fun b=>Ac (wm b fun b=>Ai b (some (.bool true)) (Ac (A3 (J a.1 3) 4 1 false) fun b=>wf (J a.1 3) fun a=>Ac (Ad (.bin .neq .bool false (.c b) (.c a))) fun a=>some a)) fun d=>Ai d (Ac (A3 (J a.1 3) 5 1 false) fun b=>wc b fun b=>wj b fun b=>Ae (AX 1 [b]) (Ae (Ay (As 0 (Ah [b])) (Ah [b])) (Ae (Bb (Ay (Aj (J a.1 9)) (Ah (Ao (J a.1 10)))) (Ay (As (Aj (J a.1 9)) (Ah (Aq (Ah [b]) (AE 0 [b])))) 2147483648)) (wj (J a.1 2) fun d=>some (.inl ([J a.1 0,J a.1 1,d,J a.1 3,J a.1 4,J a.1 5,J a.1 6,J a.1 7,J a.1 8,nI (As (Aj (J a.1 9)) (Ah (Aq (Ah [b]) (AE 0 [b])))),.sl 1 (A5 (Aq (Aj (J a.1 9)) (Ao (J a.1 10))) (Aq (Ah [b]) (AE 0 [b]))) false],a.2)))))) (wj b fun b=>Ae (AX 1 [b]) (Ae (Ay (As 0 (Ah [b])) (Ah [b])) (Ae (Bb (Ay (Aj (J a.1 9)) (Ah (Ao (J a.1 10)))) (Ay (As (Aj (J a.1 9)) (Ah (Aq (Ah [b]) (AE 0 [b])))) 2147483648)) (wj (J a.1 2) fun d=>some (.inl ([J a.1 0,J a.1 1,d,J a.1 3,J a.1 4,J a.1 5,J a.1 6,J a.1 7,J a.1 8,nI (As (Aj (J a.1 9)) (Ah (Aq (Ah [b]) (AE 0 [b])))),.sl 1 (A5 (Aq (Aj (J a.1 9)) (Ao (J a.1 10))) (Aq (Ah [b]) (AE 0 [b]))) false],a.2))))))) (Ac (Ae (A6 (.jE [.agg [J a.1 7,J a.1 8,AB 1 1 (Ao (J a.1 10)) 0 (Aj (J a.1 9))],.jK])) (some (.jE [.agg [J a.1 7,J a.1 8,AB 1 1 (Ao (J a.1 10)) 0 (Aj (J a.1 9))],.jK],a.2))) fun a=>some (.inr a))) ([b,d,.int .i64 0,x0,.bool false,.bool false,.jD,Af a 0,Af a 1,nI 0,.sl 1 [] false],e)))))):=by kernel_rfl

theorem run156 (B:KB) (h:AA E) (dep:Nat) (e:E) (x0:W):AH (AD B fun _=>.cl) fn156 (.cl) h dep [.cv x0] e=Ae (AZ x0) (wd x0 fun a=>wd x0 fun b=>Ac (Ax B (.own 1) (.fn 158 []) [b]) fun b=>Ac (Bd B .cl false 157 [a,AB 1 1 (Ao b) 0 (Ah (Ao b))]) fun a=>Ae (Aw a 3) (some (.jE [.agg [Af a 0,Af a 1,Af a 2],.jK],e))):=by kernel_rfl

theorem zY (B:KB) (h:AA E) (dep:Nat) (e:E) (x0:W) (x1:W) :
  AH (AD B fun _=>.cl) fn157 (.cl) h dep [.cv x0,.cv x1] e =
  Ae (AZ x0) (Ac (A3 x0 1 1 false) (fun a=>Ac (Ad (.build [.bool false,.bool false,.jD] [(0,(1,.c (.bool true))),(1,(1,.c a)),(2,(1,.c x1))])) (fun a
  => Ae (Aw a 3) (some (.agg [Af a 0,Af a 1,Af a 2],e))))):=by kernel_rfl
theorem run158 (B:KB) (h:AA E) (dep:Nat) (e:E) (x0:W):AH (AD B fun _=>.cl) fn158 (.own 1) h dep [.cv x0] e=Ae (AZ x0) (wg x0 fun a=>wc a fun a=>Ac (K5 a a) fun a=>wg x0 fun b=>Ac (GO 1 b) fun b=>Ae (Ay (As 0 a) (Ah (HO a (.int .i64 0)))) (Ae (FF a (Ah (A5 (A5 (Aq 0 (HO a (.int .i64 0))) (Aq a b)) (AE (As 0 (Ah (Aq a b))) (HO a (.int .i64 0)))))) (some (.sl 1 (A5 (A5 (Aq 0 (HO a (.int .i64 0))) (Aq a b)) (AE (As 0 (Ah (Aq a b))) (HO a (.int .i64 0)))) false,e)))):=by kernel_rfl

theorem run160 (B:KB) (h:AA E) (dep:Nat) (e:E) (x0:W) (x1:W) (x2:W) :
  AH (AD B fun _=>.cl) zF (.cl) h dep [.agg [.cv x0,.cv x1,.cv x2]] e =
  Ac (Ax B (.own 1) (.fn 158 []) [.agg [x0,x1,x2]]) (fun a=>Ac (BK B (.mk [.arr (0,0) 1 0 0] [.arr 1 0 []] (.jE []) [.arr 1 0 []] [] []) 201 [nI (Ah (Ao a)),
  .sl 1 (Ao a) false]) (fun b=>Ae (A6 (.jE [.agg [x0,x1,AB 1 1 (Ao (J b 0)) 0 (Ah (Ao a))],.jK])) (some (.jE [.agg [x0,x1,AB 1 1 (Ao (J b
  0)) 0 (Ah (Ao a))],.jK],e)))):=by kernel_rfl
theorem UW (B:KB) (h:AA E) (dep:Nat) (e:E) (x0:W):AH (AD B fun _=>.cl) fn161 (.cl) h dep [.cv x0] e=Ae (AZ x0) (Ac (A3 x0 3 3 true) fun a=>wv B 197 [a] fun a=>wa a fun b=>wb a fun a=>wn a fun d=>Ai d (some (.jE [.agg [.bool false,.bool false,.jD],a],e)) (wd x0 fun a=>Ae (Aw a 3) (wd x0 fun d=>Ac (Ax B (.own 1) (.fn 158 []) [d]) fun d=>wg x0 fun f=>wc f fun f=>Ac (Ad (.bin .gtr .num true (.c f) (.c (.int .i64 0)))) fun g=>Ai g (Ac (Ad (.bin .rem .num false (.c b) (.c f))) fun b=>wp b f fun b=>Ac (Ad (.bin .rem .num false (.c b) (.c f))) fun b=>wg x0 fun d=>Ac (Ad (.slice 1 (.c d) (some (.c b)) none none)) fun d=>wg x0 fun f=>Ac (Ad (.slice 1 (.c f) none (some (.c b)) (some (.c b)))) fun b=>Ae (AX 1 [d,b]) (Ac (Bd B (.own 1) true 200 [AB 1 1 [d,b] 0 (Ah [d,b])]) fun b=>Ae (A6 (.jE [.agg [Af a 0,Af a 1,AB 1 1 (Ao b) 0 (Ah (Ao b))],.jK])) (some (.jE [.agg [Af a 0,Af a 1,AB 1 1 (Ao b) 0 (Ah (Ao b))],.jK],e)))) (Ae (A6 (.jE [.agg [Af a 0,Af a 1,AB 1 1 (Ao d) 0 (Ah (Ao d))],.jK])) (some (.jE [.agg [Af a 0,Af a 1,AB 1 1 (Ao d) 0 (Ah (Ao d))],.jK],e)))))):=by kernel_rfl

theorem run162 (B:KB) (h:AA E) (dep:Nat) (e:E) (x0:W):AH (AD B fun _=>.cl) fn162 (.cl) h dep [.cv x0] e=Ae (AZ x0) (wd x0 fun a=>Ac (Ax B (.own 1) (.fn 158 []) [a]) fun a=>wf x0 fun b=>wv B 202 [b] fun b=>Ae (AX 1 [b]) (Ae (Ay (As 0 (Ah [b])) (Ah [b])) (Ae (Bb (Ay (Ah (Ao a)) (Ah (Ao a))) (Ay (As (Ah (Ao a)) (Ah (Aq (Ah [b]) (AE 0 [b])))) 2147483648)) (wf x0 fun c=>Ac (Ev (some (.int .i64 1)) (As (Ah (Ao a)) (Ah (Aq (Ah [b]) (AE 0 [b])))) (As (Ah (Ao a)) (Ah (Aq (Ah [b]) (AE 0 [b]))))) fun d=>Ac (Ev (some (.int .i64 1)) (As (Ah (Ao a)) (Ah (Aq (Ah [b]) (AE 0 [b])))) d) fun d=>Ae (Aw c 1) (Ae (A6 (.jE [.agg [.bool false,Af c 0,AB 1 1 (A5 (Aq (Ah (Ao a)) (Ao a)) (Aq (Ah [b]) (AE 0 [b]))) 0 d],.jK])) (some (.jE [.agg [.bool false,Af c 0,AB 1 1 (A5 (Aq (Ah (Ao a)) (Ao a)) (Aq (Ah [b]) (AE 0 [b]))) 0 d],.jK],e))))))):=by kernel_rfl

theorem zZ (B:KB) (h:AA E) (dep:Nat) (e:E) (x0:W):AH (AD B fun _=>.cl) fn163 (.cl) h dep [.cv x0] e=Ae (AZ x0) (Ac (A3 x0 0 6 true) fun a=>wv B 196 [a,.int .i64 (-200),.int .i64 200] fun a=>wa a fun b=>wb a fun a=>wn a fun d=>Ai d (some (.jE [.agg [.bool false,.bool false,.jD],a],e)) (wm b fun a=>Ai a (wg x0 fun a=>wc a fun a=>wp a b fun a=>Ac (Ad (.un .neg (.c b))) fun b=>Ac (K5 b b) fun b=>Ae (AY [a,nI b,nI b,.int .i64 0]) (Be (fun a=>wo (J a.1 3) (J a.1 2) fun b=>Ai b (wf (J a.1 4) fun b=>wv B 202 [b] fun b=>Ac (Fl (J a.1 3)) fun d=>Ae (CG d (Aj (J a.1 1))) (Ac (F9 1 (Ao (J a.1 8)) (As 0 d) 0 1 b) fun b=>wp (J a.1 0) (J a.1 3) fun d=>Ac (Ac (Ad (.bin .geq .num true (.c d) (.c (.int .i64 0)))) fun b=>Ai b (wg (J a.1 4) fun a=>wc a fun a=>wo d a fun a=>some a) (some (.bool false))) fun f=>Ai f (wg (J a.1 4) fun f=>wr f d fun d=>wh d fun d=>Ac (Fl (J a.1 3)) fun f=>Ae (CG f (Aj (J a.1 1))) (Ac (F9 1 b (As 0 f) 0 1 d) fun b=>wj (J a.1 3) fun d=>some (.inl ([J a.1 0,nI (Aj (J a.1 1)),J a.1 2,d,J a.1 4,J a.1 5,J a.1 6,J a.1 7,.sl 1 b false],a.2)))) (wj (J a.1 3) fun d=>some (.inl ([J a.1 0,nI (Aj (J a.1 1)),J a.1 2,d,J a.1 4,J a.1 5,J a.1 6,J a.1 7,.sl 1 b false],a.2))))) (Ac (wd (J a.1 4) fun b=>Ac (Bd B .cl false 157 [b,AB 1 1 (Ao (J a.1 8)) 0 (Aj (J a.1 1))]) fun b=>Ae (Aw b 3) (some (.jE [.agg [Af b 0,Af b 1,Af b 2],.jK],a.2))) fun a=>some (.inr a))) ([a,nI b,nI b,.int .i64 0,x0,.bool false,.bool false,.jD,.sl 1 (HO b (.int .i64 0)) false],e))) (Ac (K5 b b) fun a=>Ae (AY [.int .i64 0,nI a,nI a,.int .i64 0]) (Be (fun a=>wo (J a.1 3) (J a.1 2) fun b=>Ai b (wf (J a.1 4) fun b=>wv B 202 [b] fun b=>Ac (Fl (J a.1 3)) fun d=>Ae (CG d (Aj (J a.1 1))) (Ac (F9 1 (Ao (J a.1 8)) (As 0 d) 0 1 b) fun b=>wp (J a.1 0) (J a.1 3) fun d=>Ac (Ac (Ad (.bin .geq .num true (.c d) (.c (.int .i64 0)))) fun b=>Ai b (wg (J a.1 4) fun a=>wc a fun a=>wo d a fun a=>some a) (some (.bool false))) fun f=>Ai f (wg (J a.1 4) fun f=>wr f d fun d=>wh d fun d=>Ac (Fl (J a.1 3)) fun f=>Ae (CG f (Aj (J a.1 1))) (Ac (F9 1 b (As 0 f) 0 1 d) fun b=>wj (J a.1 3) fun d=>some (.inl ([J a.1 0,nI (Aj (J a.1 1)),J a.1 2,d,J a.1 4,J a.1 5,J a.1 6,J a.1 7,.sl 1 b false],a.2)))) (wj (J a.1 3) fun d=>some (.inl ([J a.1 0,nI (Aj (J a.1 1)),J a.1 2,d,J a.1 4,J a.1 5,J a.1 6,J a.1 7,.sl 1 b false],a.2))))) (Ac (wd (J a.1 4) fun b=>Ac (Bd B .cl false 157 [b,AB 1 1 (Ao (J a.1 8)) 0 (Aj (J a.1 1))]) fun b=>Ae (Aw b 3) (some (.jE [.agg [Af b 0,Af b 1,Af b 2],.jK],a.2))) fun a=>some (.inr a))) ([.int .i64 0,nI a,nI a,.int .i64 0,x0,.bool false,.bool false,.jD,.sl 1 (HO a (.int .i64 0)) false],e))))):=by kernel_rfl

theorem UV (B:KB) (h:AA E) (dep:Nat) (e:E) (x0:W):AH (AD B fun _=>.cl) fn164 (.cl) h dep [.cv x0] e=Ae (AZ x0) (Ac (A3 x0 3 3 true) fun a=>wv B 197 [a] fun a=>wa a fun b=>wb a fun a=>wn a fun d=>Ai d (some (.jE [.agg [.bool false,.bool false,.jD],a],e)) (wg x0 fun a=>wc a fun a=>Ac (Ad (.bin .geq .num true (.c b) (.c (.int .i64 0)))) fun d=>Ai d (wd x0 fun d=>wd x0 fun f=>Ac (Ax B (.own 1) (.fn 158 []) [f]) fun f=>Ac (Ad (.j6 false [.c b,.c a])) fun a=>Ac (Ev none (Ah (Ao f)) (Ah (Ao f))) fun b=>Ac (Ev none (Ah (Ao f)) b) fun b=>Ac (Ev (some a) 0 b) fun a=>CJ (Bb (FF b a) (CG 0 a)) (wv B 157 [d,.sl 1 [] false] fun a=>Ae (Aw a 3) (some (.jE [.agg [Af a 0,Af a 1,Af a 2],.jK],e))) (Ac (Bd B .cl false 157 [d,AB 1 1 (Ao f) (As 0 a) (yi b a)]) fun a=>Ae (Aw a 3) (some (.jE [.agg [Af a 0,Af a 1,Af a 2],.jK],e)))) (wd x0 fun d=>wd x0 fun f=>Ac (Ax B (.own 1) (.fn 158 []) [f]) fun f=>Ac (Ad (.un .neg (.c a))) fun g=>Ac (Ad (.j6 true [.c b,.c g])) fun b=>wp a b fun a=>Ac (Ad (.j6 true [.c a,.c (.int .i64 0)])) fun a=>Ac (Ev none (Ah (Ao f)) (Ah (Ao f))) fun b=>Ac (Ev (some a) (Ah (Ao f)) b) fun a=>Ac (Bd B .cl false 157 [d,AB 1 1 (Ao f) 0 a]) fun a=>Ae (Aw a 3) (some (.jE [.agg [Af a 0,Af a 1,Af a 2],.jK],e))))):=by kernel_rfl

theorem run165 (B:KB) (h:AA E) (dep:Nat) (e:E) (x0:W):AH (AD B fun _=>.cl) fn165 (.cl) h dep [.cv x0] e=Ae (AZ x0) (wg x0 fun a=>wc a fun a=>wv B 166 [a] fun a=>Ae (Aw a 3) (some (.jE [.agg [Af a 0,Af a 1,Af a 2],.jK],e))):=by kernel_rfl

theorem run166 (B:KB) (h:AA E) (dep:Nat) (e:E) (x0:W) :
  AH (AD B fun _=>.cl) fn166 (.cl) h dep [.cv x0] e =
  Ae (AX 1 [x0]) (Ae (A6 (.agg [.bool false,.bool false,AB 1 1 [x0] 0 (Ah [x0])])) (some (.agg [.bool false,.bool false,AB 1 1 [x0] 0 (Ah [x0])],e))):=by kernel_rfl
theorem run167 (B:KB) (h:AA E) (dep:Nat) (e:E) (x0:W):AH (AD B fun _=>.cl) fn167 (.cl) h dep [.cv x0] e=Ae (AZ x0) (Ac (A3 x0 3 3 true) fun a=>wd x0 fun b=>wv B 203 [a,b] fun a=>Ai a (wv B 166 [.int .i64 0] fun a=>Ae (Aw a 3) (some (.jE [.agg [Af a 0,Af a 1,Af a 2],.jK],e))) (wv B 166 [.int .i64 1] fun a=>Ae (Aw a 3) (some (.jE [.agg [Af a 0,Af a 1,Af a 2],.jK],e)))):=by kernel_rfl

theorem z6 (B:KB) (h:AA E) (dep:Nat) (e:E) (x0:W) :
  AH (AD B fun _=>.cl) fn195 (.cl) h dep [.cv x0] e =
  Ac (Ad (.build [.bool false,.bool false,.jD] [(0,(1,.c (.bool true))),(2,(1,.c x0))])) (fun a=>Ae (Aw a 3) (some (.agg [Af a 0,Af a 1,Af a
  2],e))):=by kernel_rfl
theorem run196 (B:KB) (h:AA E) (dep:Nat) (e:E) (x0:W) (x1:W) (x2:W):AH (AD B fun _=>.cl) fn196 (.cl) h dep [.cv x0,.cv x1,.cv x2] e=Ae (AZ x0) (Ac (A3 x0 3 3 true) fun a=>wv B 197 [a] fun a=>wa a fun b=>wb a fun a=>Ac (Ac (Ad (.bin .eql .iface true (.c a) (.c .jK))) fun a=>Ai a (wo b x1 fun a=>Ai a (some (.bool true)) (wu b x2 fun a=>some a)) (some (.bool false))) fun d=>Ai d (Ac (Ad (.build [.int .i64 0] [(0,(1,.c (.int .i64 113)))])) fun a=>some (.jE [b,.iface 210 a],e)) (some (.jE [b,a],e))):=by kernel_rfl

theorem run197 (B:KB) (h:AA E) (dep:Nat) (e:E) (x0:W):AH (AD B fun _=>.cl) fn197 (.cl) h dep [.cv x0] e=Ae (AZ x0) (wg x0 fun a=>wc a fun a=>Ac (Ad (.bin .neq .num true (.c a) (.c (.int .i64 1)))) fun a=>Ai a (Ac (Ad (.build [.int .i64 0] [(0,(1,.c (.int .i64 111)))])) fun a=>some (.jE [.int .i64 0,.iface 210 a],e)) (wf x0 fun a=>Ai a (Ac (Ad (.build [.int .i64 0] [(0,(1,.c (.int .i64 102)))])) fun a=>some (.jE [.int .i64 0,.iface 210 a],e)) (wg x0 fun a=>wr a (.int .i64 0) fun a=>wh a fun a=>some (.jE [a,.jK],e)))):=by kernel_rfl

theorem run198 (B:KB) (h:AA E) (dep:Nat) (e:E) (x0:W) (x1:W):AH (AD B fun _=>.cl) fn198 (.cl) h dep [.cv x0,.cv x1] e=wc x0 (fun a=>Ae (AY [x0,x1,a,.int .i64 0]) (Be (fun a=>wo (J a.1 3) (J a.1 2) fun b=>Ai b (wr (J a.1 0) (J a.1 3) fun b=>wh b fun b=>wq (J a.1 1) b fun b=>Ai b (Ac (some (J a.1 3,a.2)) fun a=>some (.inr a)) (wj (J a.1 3) fun b=>some (.inl ([J a.1 0,J a.1 1,J a.1 2,b],a.2)))) (Ac (some (.int .i64 (-1),a.2)) fun a=>some (.inr a))) ([x0,x1,a,.int .i64 0],e))):=by kernel_rfl

theorem run201 (B:KB) (x0:W) (x1:W):DJ (AD B fun _=>.cl) RR Py [x0,x1]=Ac (Ad (.bin .sub .num true (.c (nI (Aj x0))) (.c (.int .i64 1)))) (fun a=>Ae (AY [nI (Aj x0),.int .i64 0,a]) (Be (fun a=>wo (J a.1 1) (J a.1 2) fun b=>Ai b (Ac (Fl (J a.1 2)) fun b=>Ae (CG b (Aj (J a.1 0))) (Ac (IP (Ao (J a.1 3)) (As 0 b) 0 1 false) fun b=>Ac (Fl (J a.1 1)) fun d=>Ae (CG d (Aj (J a.1 0))) (Ac (IP (Ao (J a.1 3)) (As 0 d) 0 1 false) fun d=>Ac (Fl (J a.1 1)) fun e=>Ae (CG e (Aj (J a.1 0))) (Ac (F9 1 (Ao (J a.1 3)) (As 0 e) 0 1 b) fun b=>Ac (Fl (J a.1 2)) fun e=>Ae (CG e (Aj (J a.1 0))) (Ac (F9 1 b (As 0 e) 0 1 d) fun b=>wj (J a.1 1) fun d=>Ac (Ad (.bin .sub .num true (.c (J a.1 2)) (.c (.int .i64 1)))) fun e=>some (.inl ([nI (Aj (J a.1 0)),d,e,.sl 1 b false],a.2))))))) (Ac (some [.sl 1 (Ao (J a.1 3)) false]) fun a=>some (.inr a))) ([nI (Aj x0),.int .i64 0,a,.sl 1 (Ao x1) false],()))):=by kernel_rfl

theorem run202 (B:KB) (h:AA E) (dep:Nat) (e:E) (x0:W) :
  AH (AD B fun _=>.cl) fn202 (.cl) h dep [.cv x0] e =
  Ai x0 (some (.int .i64 32,e)) (some (.int .i64 0,e)):=by kernel_rfl
theorem run80 (B:KB) (h:AA E) (dep:Nat) (e:E) (x0:W):AH (AD B fun _=>.cl) fn80 (.cl) h dep [.cv x0] e=Ac (Ip .str [] (.str [43]) (.int .i64 0)) (fun a=>Ac (Ip .str a (.str [195,151]) (.int .i64 1)) fun a=>Ac (Ip .str a (.str [226,136,167]) (.int .i64 1)) fun a=>Ac (Ip .str a (.str [226,136,168]) (.int .i64 0)) fun a=>Ac (RG .str (.int .i64 0) true a x0) fun a=>wa a fun b=>wb a fun a=>some (.jE [b,a],e)):=by kernel_rfl

end Go.Ab


namespace Go.Ab.jF
open Go Go.Ab
def ps0:List (Nat×Nat):=[(88,86),(201,200),(211,210),(233,205)]
def Bq (g:ja) (σ:Nm->jk) (vs:jh):js :=
 if g=48 then Jl ps0 σ vs
 else if g=194 then zq [5,6] 260 [205] vs
 else if g=218 then Rb vs
 else if g=72 then UL vs
 else if g=73 then zz vs
 else if g=71 then OK 79 σ vs
 else if g=47 then Px 79 5 σ vs
 else if g=134 then LI .u32 σ vs
 else if g=190 then Lz .u32 σ vs
 else if g=188 then Kv .i32 0 1 σ vs
 else if g=189 then Kv .i32 1 0 σ vs
 else none
noncomputable def B0:KB:={sp:=Bq,L:=Y3 Bq A9,I:=RH Bq A9,lC:=FZ A9,kr:=GI A9}
end Go.Ab.jF


set_option maxRecDepth 10000
namespace Go.Ab.jF
open Go Go.Ab
variable{args:jh} {d:Nat->Bu} {fn:Au} {g:ja} {n:Nat} {sh:Bu} {u x0 x1 x2 x3:W}
def GU (g:ja):Prop:=g≠48/\g≠194/\g≠218/\g≠72/\g≠73/\g≠71/\g≠47/\g≠134/\g≠190/\g≠188/\g≠189
instance (g:ja):Decidable (GU g):=by unfold GU;infer_instance
theorem OJ (h:GU g) (σ:Nm->jk) (vs:jh):Bq g σ vs=none:=by unfold Bq;rw[iI h.1,iI h.2.1,iI h.2.2.1,iI h.2.2.2.1,iI h.2.2.2.2.1,iI h.2.2.2.2.2.1,iI h.2.2.2.2.2.2.1,iI h.2.2.2.2.2.2.2.1,iI h.2.2.2.2.2.2.2.2.1,iI h.2.2.2.2.2.2.2.2.2.1,iI h.2.2.2.2.2.2.2.2.2.2]
set_option maxHeartbeats 2000000 in
theorem YN (g:ja):KL (Bq g):=by intro σ σ' vs h;unfold Bq;split;{exact as_here ps0 σ σ' vs h};split;{rfl};split;{rfl};split;{rfl};split;{rfl};split;{exact dv 79 σ σ' vs h};split;{exact zr 79 5 σ σ' vs h};split;{exact uH .u32 σ σ' vs h};split;{exact bn .u32 σ σ' vs h};split;{exact WS .i32 0 1 σ σ' vs h};split;{exact WS .i32 1 0 σ σ' vs h};rfl
theorem Uy:∀ g,(iof0 g).isSome=FZ A9 g:=by
 intro g;unfold iof0 FZ;split;{rfl};{rfl};{rfl};{rfl};{rfl};{rfl};{rfl};{rfl};{rfl};{rfl};{rfl};{rfl};{rfl};{rfl};{rfl};{rfl};{rfl}
 ·rename_i h0 U O h3 h4 h5 h6 h7 h8 h9 h10 h11 h12 h13 h14 h15 h16;split
  ·rename_i fn ht;unfold A9 at ht;split at ht
   all_goals first | (exact (h0 rfl).elim) | (exact (U rfl).elim) | (exact (O rfl).elim) | (exact (h3 rfl).elim) | (exact (h4 rfl).elim) | (exact (h5 rfl).elim) | (exact (h6 rfl).elim) | (exact (h7 rfl).elim) | (exact (h8 rfl).elim) | (exact (h9 rfl).elim) | (exact (h10 rfl).elim) | (exact (h11 rfl).elim) | (exact (h12 rfl).elim) | (exact (h13 rfl).elim) | (exact (h14 rfl).elim) | (exact (h15 rfl).elim) | (exact (h16 rfl).elim) | (cases ht;done) | (cases ht;rfl)
  {rfl}
theorem CD (d:Nat->Bu):EM (AD B0 d) A9 where
 L:=rfl
 I:=rfl
 lC:=rfl
 kr:=rfl
 flat g h:=by simp only[AD,gq,iL] at h;rcases h with rfl | rfl<;>kernel_rfl
 rT g:=Uy g
 ioP g P h:=by
  simp only[AD,iof0] at h;split at h;·cases h;exact⟨IU,rfl,by decide,fun H os=>by show (L6 H os).args.length<=_/\(L6 H os).ins.length<=_;unfold L6;split<;>exact⟨dS rfl,dS rfl⟩⟩
  {cases h;exact⟨fn16,rfl,by decide,fun H os=>⟨dS rfl,dS rfl⟩⟩};{cases h;exact⟨uK,rfl,by decide,fun H os=>⟨dS rfl,dS rfl⟩⟩};{cases h;exact⟨fn28,rfl,by decide,fun H os=>⟨dS rfl,dS rfl⟩⟩};{cases h;exact⟨K7,rfl,by decide,fun H os=>by show (Nz H os).args.length<=_/\(Nz H os).ins.length<=_;unfold Nz;split<;>exact⟨dS rfl,dS rfl⟩⟩};{cases h;exact⟨fn31,rfl,by decide,fun H os=>⟨dS rfl,dS rfl⟩⟩};{cases h;exact⟨fn33,rfl,by decide,fun H os=>⟨dS rfl,dS rfl⟩⟩};{cases h;exact⟨fn44,rfl,by decide,fun H os=>⟨dS rfl,dS rfl⟩⟩};{cases h;exact⟨fn49,rfl,by decide,fun H os=>⟨dS rfl,dS rfl⟩⟩};{cases h;exact⟨RR,rfl,by decide,fun H os=>⟨dS rfl,dS rfl⟩⟩};{cases h;exact⟨fn78,rfl,by decide,fun H os=>⟨dS rfl,dS rfl⟩⟩};{cases h;exact⟨fn79,rfl,by decide,fun H os=>⟨dS rfl,dS rfl⟩⟩};{cases h;exact⟨RW,rfl,by decide,fun H os=>⟨dS rfl,dS rfl⟩⟩};{cases h;exact⟨RV,rfl,by decide,fun H os=>⟨dS rfl,dS rfl⟩⟩};{cases h;exact⟨RU,rfl,by decide,fun H os=>⟨dS rfl,dS rfl⟩⟩};{cases h;exact⟨RT,rfl,by decide,fun H os=>⟨dS rfl,dS rfl⟩⟩};{cases h;exact⟨RS,rfl,by decide,fun H os=>⟨dS rfl,dS rfl⟩⟩};{cases h}
 vZ g h σ vs:=by simp only[AD,fP,i6] at h;obtain⟨⟨⟨⟨⟨⟨⟨⟨⟨⟨h0,U⟩,O⟩,h3⟩,h4⟩,h5⟩,h6⟩,h7⟩,h8⟩,h9⟩,h10⟩:=h;exact OJ ⟨h0,U,h10,O,h3,h4,h5,h6,h7,h8,h9⟩ σ vs
 loc g σ vs hv:=cfg_loc YN g σ vs hv
 spK g s h σ H out A hσ hs:=by simp only[AD] at h;split at h;{rename_i hg;subst hg;cases h;exact zC hs};split at h;{rename_i hg;subst hg;cases h;exact uJ hσ hs};split at h;{rename_i hg;subst hg;cases h;exact Yd hσ hs};split at h;{rename_i hg;subst hg;cases h;exact Yd hσ hs};cases h
 asOk g p t n h σ V ty cs U O:=by have e:∀ σ vs,Bq 48 σ vs=Jl ps0 σ vs:=fun _ _=>rfl;simp only[AD] at h;split at h;{rename_i hc;obtain⟨rfl,rfl⟩:=hc;cases h;exact Rv (ps:=ps0) (p:=88) (t:=86) rfl U O};split at h;{rename_i hc;obtain⟨rfl,rfl⟩:=hc;cases h;exact Rv (ps:=ps0) (p:=201) (t:=200) rfl U O};split at h;{rename_i hc;obtain⟨rfl,rfl⟩:=hc;cases h;exact Rv (ps:=ps0) (p:=211) (t:=210) rfl U O};split at h;{rename_i hc;obtain⟨rfl,rfl⟩:=hc;cases h;exact Rv (ps:=ps0) (p:=233) (t:=205) rfl U O};cases h
theorem call (ht:A9 g=some fn) (hg:GU g) (ha:Ap args=true) (hl:Nat.ble args.length fn.nt=true)
  (T:AH (AD B0 d) fn sh AI 0 (args.map KV.cv) ()=some (u,())) (lF:fn.io=false:=by rfl) (hb:Nat.blt g CR=true:=by rfl):Ax B0 sh (.fn g []) args=some u:=by
 refine V1 (CD d) ht (cap:=[]) (by simpa using ha) (by simpa using dS hl) (OJ hg (fun _=>none) _) ?_ lF hb;simpa using T
theorem El (ha:Ap args=true) (T:AH (AD B0 fun _=>.cl) fn sh AI 0 (args.map KV.cv) ()=some (u,())) (ht:A9 g=some fn:=by rfl) (hg:GU g:=by decide) (hl:Nat.ble args.length fn.nt=true:=by rfl) (lF:fn.io=false:=by rfl) (hb:Nat.blt g CR=true:=by rfl):Ax B0 sh (.fn g []) args=some u:=call ht hg ha hl T lF hb
theorem call0 (ha:Ap []=true) (T:AH (AD B0 fun _=>.cl) fn sh AI 0 [] ()=some (u,())) (ht:A9 g=some fn:=by rfl) (hg:GU g:=by decide) (hl:Nat.ble ([]:jh).length fn.nt=true:=by rfl) (lF:fn.io=false:=by rfl) (hb:Nat.blt g CR=true:=by rfl):Ax B0 sh (.fn g []) []=some u:=El ha T ht hg hl lF hb
theorem Bm (ha:Ap [x0]=true) (T:AH (AD B0 fun _=>.cl) fn sh AI 0 [.cv x0] ()=some (u,())) (ht:A9 g=some fn:=by rfl) (hg:GU g:=by decide) (hl:Nat.ble ([x0]:jh).length fn.nt=true:=by rfl) (lF:fn.io=false:=by rfl) (hb:Nat.blt g CR=true:=by rfl):Ax B0 sh (.fn g []) [x0]=some u:=El ha T ht hg hl lF hb
theorem Ce (ha:Ap [x0,x1]=true) (T:AH (AD B0 fun _=>.cl) fn sh AI 0 [.cv x0,.cv x1] ()=some (u,())) (ht:A9 g=some fn:=by rfl) (hg:GU g:=by decide) (hl:Nat.ble ([x0,x1]:jh).length fn.nt=true:=by rfl) (lF:fn.io=false:=by rfl) (hb:Nat.blt g CR=true:=by rfl):Ax B0 sh (.fn g []) [x0,x1]=some u:=El ha T ht hg hl lF hb
theorem HS (ha:Ap [x0,x1,x2]=true) (T:AH (AD B0 fun _=>.cl) fn sh AI 0 [.cv x0,.cv x1,.cv x2] ()=some (u,())) (ht:A9 g=some fn:=by rfl) (hg:GU g:=by decide) (hl:Nat.ble ([x0,x1,x2]:jh).length fn.nt=true:=by rfl) (lF:fn.io=false:=by rfl) (hb:Nat.blt g CR=true:=by rfl):Ax B0 sh (.fn g []) [x0,x1,x2]=some u:=El ha T ht hg hl lF hb
theorem call4 (ha:Ap [x0,x1,x2,x3]=true) (T:AH (AD B0 fun _=>.cl) fn sh AI 0 [.cv x0,.cv x1,.cv x2,.cv x3] ()=some (u,())) (ht:A9 g=some fn:=by rfl) (hg:GU g:=by decide) (hl:Nat.ble ([x0,x1,x2,x3]:jh).length fn.nt=true:=by rfl) (lF:fn.io=false:=by rfl) (hb:Nat.blt g CR=true:=by rfl):Ax B0 sh (.fn g []) [x0,x1,x2,x3]=some u:=El ha T ht hg hl lF hb
theorem call5 {x4:W} (ha:Ap [x0,x1,x2,x3,x4]=true) (T:AH (AD B0 fun _=>.cl) fn sh AI 0 [.cv x0,.cv x1,.cv x2,.cv x3,.cv x4] ()=some (u,())) (ht:A9 g=some fn:=by rfl) (hg:GU g:=by decide) (hl:Nat.ble ([x0,x1,x2,x3,x4]:jh).length fn.nt=true:=by rfl) (lF:fn.io=false:=by rfl) (hb:Nat.blt g CR=true:=by rfl):Ax B0 sh (.fn g []) [x0,x1,x2,x3,x4]=some u:=El ha T ht hg hl lF hb

theorem callK {H:jn} (ht:A9 g=some fn) (hg:GU g) (A:Bj H) (hun:∀ x∈H,FP x=false) (qd:AP H=args) (hl:Nat.ble H.length fn.nt=true)
  (T:AH (AD B0 d) fn sh AI 0 H ()=some (u,())) (lF:fn.io=false:=by rfl) (hb:Nat.blt g CR=true:=by rfl):Ax B0 sh (.fn g []) args=some u :=
 ae (CD d) ht A hun qd (dS hl) (OJ hg (fun _=>none) _) T lF hb
theorem Dw (hg:GU g) (h:Br Bq A9 n Unit AI 0 g args ()=some (u,[],())) (hu:jN u=true) (lF:FZ A9 g=false) (hb:Nat.blt g CR=true:=by rfl):Ax B0 .cl (.fn g []) args=some u:=by
 have hid:Ba g=g:=by simp[Ba,hb]
 have v7:BI g args []=args:=by simp[BI,hb]
 obtain⟨e2,_,O⟩:=Ti n Unit Unit (fun _ _=>True) AI (fun _=>AI) (fun _ _ _ _ _ _ _ h=>by cases h) 0 g args () () trivial _ _ _ h;have hL:B0.L Unit AI 0 g args ()=some (u,[],()):=Kz O;have hI:B0.lC g=false:=lF;have hs:B0.sp g (fun _=>none) args=none:=OJ hg _ _;unfold Ax;simp[hid,v7,spO,hs,hI,hL,EY,Dq,hu,Ae]
end Go.Ab.jF


namespace Go.Ab.jF
open Go Go.Ab
variable{α:Type} {b:Bool} {c:TC} {f u v:W} {i k:Nat} {l:jo} {n:Int} {p:Int->Bool}
theorem Dc (U : -9223372036854775808<=n) (O:n<=9223372036854775807):IntKind.i64.wrap n=n:=IntWalk.i64_in _ ⟨U,O⟩
def I (n:Int):W:=.int .i64 n
def An (l:jo):jh:=l.map I
theorem BA (l:jo):(An l).length=l.length:=by simp[An]
theorem Yk (h:i < l.length):(An l)[i]?=some (I l[i]):=by simp[An,h]
theorem Ln (l:jo) (k:Nat):(An l).take k=An (l.take k):=by simp[An,List.map_take]
theorem Xr (l:jo) (k:Nat):(An l).drop k=An (l.drop k):=by simp[An,List.map_drop]
theorem Uc (l m:jo):An l++An m=An (l++m):=by simp[An]
theorem E8 (l:jo):Ap (An l)=true:=by
 induction l with
 | nil=>rfl
 | cons a l ih=>simpa[An,Ap,jN,I] using ih
inductive Bh:W->jo->Prop
 | nil:Bh .jD []
 | sl (l:jo) (f:Bool):Bh (.sl 1 (An l) f) l
theorem Bh.ok (h:Bh v l):jN v=true:=by
 cases h with
 | nil=>rfl
 | sl f=>simp[jN,E8]
theorem Bh.cells (h:Bh v l):v.cells=[v]:=by cases h<;>rfl
theorem Bh.val (h:Bh v l):v.isVal=true:=by cases h<;>rfl
theorem Bh.cell (h:Bh v l):v.jZ=true:=by cases h<;>rfl
theorem Bh.qZ (h:Bh v l):HB v=false:=by cases h<;>rfl
theorem Bh.len (h:Bh v l):Ad (.len .slice (.c v))=some (I l.length):=by
 cases h with
 | nil=>rfl
 | sl f=>rw[G4,BA];rfl
theorem Bh.idx (h:Bh v l) (hi:i < l.length):Ad (.jJ 1 (.c v) (.c (I i)))=some (.ptr [I l[i]] 0):=by
 cases h with
 | nil=>simp at hi
 | sl f=>exact MC (by omega) (Yk hi)
theorem Bh.elems (h:Bh v l):GO 1 v=some (An l):=by
 cases h with
 | nil=>rfl
 | sl f=>simp[GO,Go.Ab.elems,AN]
theorem Bh.hi (h:Bh v l) (hk:k<=l.length):∃ u,Ad (.slice 1 (.c v) none (some (.c (I k))) none)=some u/\Bh u (l.take k):=by
 cases h with
 | nil =>
  have:k=0:=by simpa using hk
  subst this;exact⟨.jD,by simp[Ad,exec,RX.ev,CH,C9,DL,AN,I,FV],.nil⟩
 | sl _ f =>
  have nk:k<=(An l).length:=by rw[BA];exact hk
  refine⟨.sl 1 (An (l.take k)) (f&&k==(An l).length),?_,.sl _ _⟩;simp[Ad,exec,RX.ev,CH,C9,DL,AN,I,nk,Ln,FV]
@[simp] theorem C0 (n:Int):Ad (.load 1 false (.c (.ptr [I n] 0)))=some (I n):=rfl
@[simp] theorem AS (a n:Int):Ad (.bin .lss c b (.c (I a)) (.c (I n)))=some (.bool (decide (a < n))):=zf a n
@[simp] theorem Da (a n:Int):Ad (.bin .eql c b (.c (I a)) (.c (I n)))=some (.bool (a==n)):=XZ a n
@[simp] theorem Cf (a n:Int):Ad (.bin .neq c b (.c (I a)) (.c (I n)))=some (.bool (a != n)):=XW a n
@[simp] theorem BN (a n:Int):Ad (.bin .add c b (.c (I a)) (.c (I n)))=some (I (IntKind.i64.wrap (a+n))):=OA a n
@[simp] theorem GV (a n:Int):Ad (.bin .sub c b (.c (I a)) (.c (I n)))=some (I (IntKind.i64.wrap (a - n))):=ze a n
@[simp] theorem Ef (a n:Int):Ad (.bin .geq c b (.c (I a)) (.c (I n)))=some (.bool (decide (n<=a))):=zh a n
@[simp] theorem FB (a n:Int):Ad (.bin .leq c b (.c (I a)) (.c (I n)))=some (.bool (decide (a<=n))):=XY a n
@[simp] theorem CT (a n:Int):Ad (.bin .gtr c b (.c (I a)) (.c (I n)))=some (.bool (decide (n < a))):=zg a n
theorem Bg (n:Int):W.int .i64 n=I n:=rfl
@[simp] theorem okV_I (n:Int):jN (I n)=true:=rfl
@[simp] theorem cells_I (n:Int):(I n).cells=[I n]:=rfl
@[simp] theorem isUndef_I (n:Int):HB (I n)=false:=rfl
@[simp] theorem isVal_I (n:Int):(I n).isVal=true:=rfl
@[simp] theorem isCell_I (n:Int):(I n).jZ=true:=rfl
@[simp] theorem Cl (n:Int):Aj (I n)=n.toNat:=rfl
theorem Cs (h:i < 9223372036854775807):IntKind.i64.wrap ((i:Int)+1)=((i+1:Nat):Int):=by rw[Dc (by omega) (by omega)];omega
structure jI where
 li:Bool
 ru:Bool
 n:jo
abbrev ju:=List jI
inductive Az:W->jI->Prop
 | mk (li ru:Bool) (x:W) (l:jo) (h:Bh x l):Az (.agg [.bool li,.bool ru,x]) ⟨li,ru,l⟩
variable{a:jI}
theorem Az.ok (h:Az v a):jN v=true:=by obtain⟨li,ru,x,l,h⟩:=h;simp[jN,Ap,h.ok]
theorem Az.get (h:Az v a):∃ x,v=.agg [.bool a.li,.bool a.ru,x]/\Bh x a.n:=by obtain⟨li,ru,x,l,h⟩:=h;exact⟨x,rfl,h⟩
def A2:jI:=⟨false,false,[]⟩
theorem Bk:Az (.agg [.bool false,.bool false,.jD]) A2:=.mk _ _ _ _ .nil
@[simp] theorem DS (cs:jh):AZ (.agg cs)=(W.agg cs).isVal:=rfl
theorem Cg {a b c:W} (ha:a.jZ=true) (hb:b.jZ=true) (hc:c.jZ=true):(W.agg [a,b,c]).isVal=true:=by simp[W.isVal,ha,hb,hc]
theorem H6 (a b c:W):Ci [a,b,c] 0 1 false=some a:=rfl
theorem GN (a b c:W):Ci [a,b,c] 1 1 false=some b:=rfl
theorem Gn (a b c:W):Ci [a,b,c] 2 1 false=some c:=rfl
theorem ID (a b c:W):Ci [a,b,c] 0 3 true=some (.agg [a,b,c]):=rfl
theorem Pu {z a b c:W} (ha:a.cells=[a]) (hb:b.cells=[b]) (hc:c.cells=[c]) (va:a.isVal=true) (vb:b.isVal=true) (vc:c.isVal=true) (x y:W) :
  Ad (.build [x,y,z] [(0,(1,.c a)),(1,(1,.c b)),(2,(1,.c c))])=some (.agg [a,b,c]):=by
 simp[Ad,exec,ET,RX.ev,ha,hb,hc,va,vb,vc,j0,AN]
theorem Jz {a b c:W} (h:(W.agg [a,b,c]).isVal=true):Aw (.agg [a,b,c]) 3=true:=by simp[Aw,h]
@[simp] theorem HA (a b c:W):Af (.agg [a,b,c]) 0=a:=rfl
@[simp] theorem Hz (a b c:W):Af (.agg [a,b,c]) 1=b:=rfl
@[simp] theorem Ha (a b c:W):Af (.agg [a,b,c]) 2=c:=rfl
theorem Y1 {n:Nat} (k:Nat) (c:Int) (hc:c=k):Ad (.j6 false [.c (I n),.c (.int .i64 c)])=some (I (min n k:Nat)):=by
 subst hc;simp only[Ad,exec,dI,dW,RX.ev,Ic,I];by_cases h:n<=k
 ·have:¬ (k:Int) < (n:Int):=by omega
  simp[this,eG h,AN]
 ·have:(k:Int) < (n:Int):=by omega
  simp[this,ii (by omega:k<=n),AN]
theorem uO (s:ji):Ax B0 .cl (.fn 6 []) [.str s]=some (.str (s.take 20)):=by refine Bm rfl ?_;rw[run6];simp only[uC,At];rw[Bg,Y1 20 20 rfl];simp only[At,I];rw[uD (by omega)];simp only[At];congr 3;rcases Nat.le_total s.length 20 with h | h;{rw[eG h,fM,dV h]};{rw[ii h]}
def Fk (n:Int):Bool:=decide (0<=n)&&(decide (n<=1114111)&&(decide (n < 55296)||decide (57343 < n)))
theorem z7 (n:Int):Ax B0 .cl (.fn 42 []) [I n]=some (.bool (Fk n)):=by refine Bm rfl ?_;rw[run42];simp only[Bg,Ef,FB,AS,CT,At,Am];unfold Fk;by_cases U:0<=n<;>by_cases O:n<=1114111<;>by_cases h3:n < 55296<;>simp[U,O,h3]
theorem uP (n:Int):Ax B0 .cl (.fn 41 []) [I n]=some (.bool (!Fk n)):=by refine Bm rfl ?_;rw[run41];unfold wi wv;rw[z7];simp
def CW (p:Int->Bool) (i:Nat):jo->Int
 | [] => -1
 | x :: l=>if p x then (i:Int) else CW p (i+1) l
theorem z8 (p:Int->Bool):∀ (l:jo) (i:Nat),decide (0<=CW p i l)=l.any p:=by
 intro l;induction l with
 | nil=>intro i;rfl
 | cons x l ih =>
  intro i;simp only[CW,List.any_cons];by_cases A:p x=true;{simp[A]};{have:=ih (i+1);simp only[A,dE,iG,this];simp[A]}
theorem GH {l:List α} (h:i < l.length):l.drop i=l[i] :: l.drop (i+1):=by rw[eX h]
theorem uQ (hv:Bh v l) (hl:l.length<=1000000) (hf:jN f=true) (hu:HB f=false) (hp:∀ n∈l,Ax B0 .cl f [I n]=some (.bool (p n))) :
  Ax B0 .cl (.fn 70 []) [v,f]=some (I (CW p 0 l)):=by
 refine Ce (by simp[Ap,hv.ok,hf]) ?_;rw[run70];unfold wc wh wj wo wr;rw[hv.len];simp only[At];have h0:AY [v,f,I l.length,.int .i64 0]=true:=by simp[AY,hv.qZ,hu,Bg]
 rw[h0,AO]
 have key:∀ m i,i+m=l.length->Be (fun a=>Ac (Ad (.bin .lss .num false (.c (J a.1 3)) (.c (J a.1 2)))) fun b=>Ai b (Ac (Ad (.jJ 1 (.c (J a.1 0)) (.c (J a.1 3)))) fun b=>Ac (Ad (.load 1 false (.c b))) fun b=>Ac (Ax B0 .cl (J a.1 1) [b]) fun b=>Ai b (Ac (some (J a.1 3,a.2)) fun a=>some (.inr a)) (Ac (Ad (.bin .add .num true (.c (J a.1 3)) (.c (.int .i64 1)))) fun b=>some (.inl ([J a.1 0,J a.1 1,J a.1 2,b],a.2)))) (Ac (some (.int .i64 (-1),a.2)) fun a=>some (.inr a))) (([v,f,I l.length,I i],()):jh×Unit)=some (I (CW p i (l.drop i)),()):=by
  intro m;induction m with
  | zero =>
   intro i hi;refine B3 ?_;have:i=l.length:=by omega
   subst this;simp[CW];rfl
  | succ m ih =>
   intro i hi;have jP:i < l.length:=by omega
   rw[GH jP];by_cases hpx:p l[i]=true;{refine B3 ?_;simp only[AW,AV,A1,Bc,AS,At,Am];rw[iJ (by simpa using jP),hv.idx jP];simp[hp _ (eW jP),hpx,CW]};{rw[DE (s':=([v,f,I l.length,I ((i+1:Nat):Int)],()))];{rw[ih (i+1) (by omega)];simp[CW,hpx]};{simp only[AW,AV,A1,Bc,AS,At,Am];rw[iJ (by simpa using jP),hv.idx jP];simp[hp _ (eW jP),hpx,Bg,Cs (by omega:i < 9223372036854775807)]}}
 have:=key l.length 0 (by omega);simpa[Bg] using this
theorem any_run (hv:Bh v l) (hl:l.length<=1000000) (hf:jN f=true) (hu:HB f=false) (hp:∀ n∈l,Ax B0 .cl f [I n]=some (.bool (p n))) :
  Ax B0 .cl (.fn 43 []) [v,f]=some (.bool (l.any p)):=by
 refine Ce (by simp[Ap,hv.ok,hf]) ?_;rw[run43,uQ hv hl hf hu hp];simp only[At,Bg,Ef,z8]
def jI.right (a:jI):Bool:=!(a.ru&&a.n.any fun n=>!Fk n)&&(if a.li then decide (a.n.length<=200) else decide (a.n.length=1))
theorem MB (h:Az v a) (hl:a.n.length<=1000000):Ax B0 .cl (.fn 24 []) [v]=some (.bool a.right):=by
 obtain⟨x,rfl,A⟩:=h.get;refine Bm (by simp[Ap,h.ok]) ?_;rw[run24];unfold wc we wf wg wv;rw[DS,Cg rfl rfl A.cell,AO];have ha:=any_run (f:=.fn 41 []) (p:=fun n=>!Fk n) A hl rfl rfl fun n _=>uP n;simp only[BT,BG,H6,GN,Gn,At,A.len,ha,Am,Bg,FB,Da];unfold jI.right
 have e1:decide ((a.n.length:Int)<=200)=decide (a.n.length<=200):=by
  by_cases h:a.n.length<=200;{simp[h];omega}
  ·have:¬ (a.n.length:Int)<=200:=by omega
   simp[h,this]
 have e2:((a.n.length:Int)==1)=decide (a.n.length=1):=by
  by_cases h:a.n.length=1;{simp[h]}
  ·have:¬ (a.n.length:Int)=1:=by omega
   simp[h,this]
 rw[e1,e2];cases a.ru<;>cases a.li<;>cases a.n.any (fun n=>!Fk n)<;>simp
def D0:jo->jo->Bool
 | [],[]=>true
 | x :: H,y :: ys=>x==y&&D0 H ys
 | _,_=>false
theorem Q6:∀ (a b:jo),D0 a b=true↔a=b:=by
 intro a;induction a with
 | nil=>intro b;cases b<;>simp[D0]
 | cons x a ih=>intro b;cases b<;>simp[D0,ih]
theorem uR {m:jo} (hv:Bh v l) (hu:Bh u m) (hl:l.length<=1000000) (hm:m.length<=1000000):Ax B0 .cl (.fn 219 []) [v,u]=some (.bool (D0 l m)):=by
 refine Ce (by simp[Ap,hv.ok,hu.ok]) ?_;rw[run219];unfold wc wh wj wo wr wt;rw[hv.len,hu.len];simp only[At,Cf,Am];by_cases xw:l.length=m.length
 ·have U:(((l.length:Int) != (m.length:Int))=true)↔False:=by simp[xw]
  simp only[U,iG];have h0:AY [v,u,I l.length,.int .i64 0]=true:=by simp[AY,hv.qZ,hu.qZ,Bg]
  rw[h0,AO]
  have key:∀ k i,i+k=l.length->Be (fun a=>Ac (Ad (.bin .lss .num false (.c (J a.1 3)) (.c (J a.1 2)))) fun b=>Ai b (Ac (Ad (.jJ 1 (.c (J a.1 0)) (.c (J a.1 3)))) fun b=>Ac (Ad (.load 1 false (.c b))) fun b=>Ac (Ad (.jJ 1 (.c (J a.1 1)) (.c (J a.1 3)))) fun d=>Ac (Ad (.load 1 false (.c d))) fun d=>Ac (Ad (.bin .neq .num false (.c b) (.c d))) fun b=>Ai b (Ac (some (W.bool false,a.2)) fun a=>some (.inr a)) (Ac (Ad (.bin .add .num true (.c (J a.1 3)) (.c (.int .i64 1)))) fun b=>some (.inl ([J a.1 0,J a.1 1,J a.1 2,b],a.2)))) (Ac (some (W.bool true,a.2)) fun a=>some (.inr a))) (([v,u,I l.length,I i],()):jh×Unit)=some (.bool (D0 (l.drop i) (m.drop i)),()):=by
   intro k;induction k with
   | zero =>
    intro i hi;refine B3 ?_;have O:l.drop i=[]:=eP (by omega);have h3:m.drop i=[]:=eP (by omega);have:¬ (i < l.length):=by omega
    simp[O,h3,D0,this]
   | succ k ih =>
    intro i hi;have jP:i < l.length:=by omega
    have lf:i < m.length:=by omega
    rw[GH jP,GH lf];by_cases A:l[i]=m[i];{rw[DE (s':=([v,u,I l.length,I ((i+1:Nat):Int)],()))];{rw[ih (i+1) (by omega)];simp[D0,A]};{simp only[AW,AV,A1,Bc,AS,At,Am];rw[iJ (by simpa using jP),hv.idx jP,hu.idx lf];simp[A,Bg,Cs (by omega:i < 9223372036854775807)]}};{refine B3 ?_;simp only[AW,AV,A1,Bc,AS,At,Am];rw[iJ (by simpa using jP),hv.idx jP,hu.idx lf];simp[A,D0]}
  have:=key l.length 0 (by omega);simpa[Bg] using this
 ·have:¬ (l.length:Int)=(m.length:Int):=by omega
  have O:D0 l m=false:=by
   cases he:D0 l m with
   | false=>rfl
   | true=>exact iW (iP List.length ((Q6 l m).1 he)) xw
  simp[this,O]
def jI.same (a b:jI):Bool:=a.li==b.li&&(a.ru==b.ru&&D0 a.n b.n)
theorem zaa {b:jI} (hv:Az v a) (hu:Az u b) (ha:a.n.length<=1000000) (hb:b.n.length<=1000000):Ax B0 .cl (.fn 203 []) [v,u]=some (.bool (a.same b)):=by obtain⟨x,rfl,A⟩:=hv.get;obtain⟨y,rfl,hy⟩:=hu.get;refine Ce (by simp[Ap,hv.ok,hu.ok]) ?_;rw[run203];unfold we wf wg wv;rw[DS,DS,Cg rfl rfl A.cell,Cg rfl rfl hy.cell,AO,AO];simp only[BT,BG,H6,GN,Gn,At,Jy,Am,uR A hy ha hb];unfold jI.same;cases (a.li==b.li)<;>cases (a.ru==b.ru)<;>simp
end Go.Ab.jF


namespace Go.Ab.jF
open Go Go.Ab
variable{args:jh} {d:Nat->Bu} {fn:Au} {fr:Bool} {g:ja} {u:W}
theorem RI (ht:A9 g=some fn) (ha:Ap args=true) (hl:Nat.ble args.length fn.nt=true)
  (T:AH (AD B0 d) fn .cl AI 0 (args.map KV.cv) ()=some (u,())) (nD:(u.free&&!GI A9 g)=fr):Bd B0 .cl fr g args=some u :=
 PU (CD d) ht ha (dS hl) T nD
inductive NE where
 | ok | over | div
 | mf (g:ji)
def NE.pv:NE->W
 | .ok=>.jK
 | .over=>.j8 5 260
 | .div=>.j8 6 260
 | .mf g=>.iface 205 (.agg [.str g])
def NE.no:NE->Int
 | .ok=>0
 | .over=>100
 | .div=>101
 | .mf _=>102
theorem NE.jN (e:NE):jN e.pv=true:=by cases e<;>rfl
theorem NE.qZ (e:NE):HB e.pv=false:=by cases e<;>rfl
theorem is_over (e:NE):Ax B0 .cl (.fn 194 []) [e.pv,.j8 5 260]=some (.bool (match e with | .over=>true | _=>false)):=by refine WK (CD fun _=>.cl) ?_ rfl;cases e<;>rfl
theorem is_div (e:NE):Ax B0 .cl (.fn 194 []) [e.pv,.j8 6 260]=some (.bool (match e with | .div=>true | _=>false)):=by refine WK (CD fun _=>.cl) ?_ rfl;cases e<;>rfl
theorem Qj (e:NE):Ax B0 .cl (.fn 151 []) [e.pv]=some (I e.no):=by refine Bm (by simp[Ap,NE.jN]) ?_;rw[run151];unfold wh wv;simp only[show Ad (.load 1 false (.c (.ptr [.j8 5 260] 0)))=some (.j8 5 260) from rfl,show Ad (.load 1 false (.c (.ptr [.j8 6 260] 0)))=some (.j8 6 260) from rfl,At,is_over,is_div,Am];cases e<;>rfl
def Cu (r:Int×NE):W:=.jE [I r.1,r.2.pv]
def Gd (b:Bool) (n:Int) (e:NE):Int×NE:=if b then (n,.ok) else (0,e)
theorem Gq (r:Int×NE):Ad (.extract 0 (.c (Cu r)))=some (I r.1):=rfl
theorem Gp (r:Int×NE):Ad (.extract 1 (.c (Cu r)))=some r.2.pv:=rfl
theorem NG (n:Int) (e:NE) (b:Bool):Bd B0 .cl false 176 [I n,e.pv,.sl 1 [.bool b] false]=some (Cu (Gd b n e)):=by
 refine RI (d:=fun _=>.cl) rfl (by simp[Ap,NE.jN,jN]) rfl ?_ (by rw[show GI A9 176=true from rfl,dK,gM]);rw[dI,dI,dI,dW,zQ];unfold wc wh wi wj wo wr;rw[G4];simp only[At];rw[show AY [I n,e.pv,.sl 1 [.bool b] false,.int .i64 (([W.bool b].length:Nat):Int),.int .i64 0]=true by simp only[AY,e9,NE.qZ];rfl,AO];cases b with
 | false=>exact B3 rfl
 | true =>
  rw[DE (s':=([I n,e.pv,.sl 1 [.bool true] false,I 1,I 1],()))];{exact B3 rfl};{rfl}
theorem zab (n:Int) (e:NE) (b c:Bool):Bd B0 .cl false 176 [I n,e.pv,.sl 1 [.bool b,.bool c] false]=some (Cu (Gd (b&&c) n e)):=by
 refine RI (d:=fun _=>.cl) rfl (by simp[Ap,NE.jN,jN]) rfl ?_ (by rw[show GI A9 176=true from rfl,dK,gM]);rw[dI,dI,dI,dW,zQ];unfold wc wh wi wj wo wr;rw[G4];simp only[At];rw[show AY [I n,e.pv,.sl 1 [.bool b,.bool c] false,.int .i64 (([W.bool b,.bool c].length:Nat):Int),.int .i64 0]=true by simp only[AY,e9,NE.qZ];rfl,AO];cases b with
 | false=>exact B3 rfl
 | true =>
  rw[DE (s':=([I n,e.pv,.sl 1 [.bool true,.bool c] false,I 2,I 1],()))]
  ·cases c with
   | false=>exact B3 rfl
   | true =>
    rw[DE (s':=([I n,e.pv,.sl 1 [.bool true,.bool true] false,I 2,I 2],()))];{exact B3 rfl};{rfl}
  {rfl}
def CO (x y:Int):W:=.agg [I x,I y]
def i64 (n:Int):Int:=IntKind.i64.wrap n
theorem Gj (x y:Int):AZ (CO x y)=true:=rfl
theorem Gy (x y:Int):A3 (CO x y) 0 1 false=some (I x):=rfl
theorem Hh (x y:Int):A3 (CO x y) 1 1 false=some (I y):=rfl
theorem two_a (x y:Int):A3 (CO x y) 0 2 true=some (CO x y):=rfl
theorem Oj:Ad (.load 1 false (.c (.ptr [.j8 5 260] 0)))=some NE.over.pv:=rfl
theorem zac:Ad (.load 1 false (.c (.ptr [.j8 6 260] 0)))=some NE.div.pv:=rfl
theorem MY (b:Bool):AX 1 [.bool b]=true:=rfl
theorem TZ (b c:Bool):AX 1 [.bool b,.bool c]=true:=rfl
theorem Nx (b:Bool):AB 1 1 [.bool b] 0 (Ah [.bool b])=.sl 1 [.bool b] false:=rfl
theorem UM (b c:Bool):AB 1 1 [.bool b,.bool c] 0 (Ah [.bool b,.bool c])=.sl 1 [.bool b,.bool c] false:=rfl
def nAdd (x y:Int):Int×NE :=
 let s:=i64 (x+y)
 Gd (!(decide (x < 0)==decide (y < 0))||(decide (s < 0)==decide (x < 0))) s .over
def NF (x y:Int):Int×NE :=
 let s:=i64 (x - y)
 Gd ((decide (x < 0)==decide (y < 0))||(decide (s < 0)==decide (x < 0))) s .over
theorem add_run (x y:Int):Ax B0 .cl (.fn 138 []) [CO x y]=some (Cu (nAdd x y)):=by refine Bm rfl ?_;rw[run138];unfold wa wb we wf wh wm wp;rw[Gj,AO];simp only[Gy,Hh,At,BN,Bg,AS,Hy,Jy,Am,Oj,MY,AO,Nx,NG,Gq,Gp];unfold nAdd i64;cases decide (x < 0)<;>cases decide (y < 0)<;>rfl
theorem QB (x y:Int):Ax B0 .cl (.fn 139 []) [CO x y]=some (Cu (NF x y)):=by refine Bm rfl ?_;rw[run139];unfold wa wb we wf wh wm;rw[Gj,AO];simp only[Gy,Hh,At,GV,Bg,AS,Hy,Jy,Am,Oj,MY,AO,Nx,NG,Gq,Gp];unfold NF i64;cases decide (x < 0)<;>cases decide (y < 0)<;>rfl
def Kr (x y:Int):Int×NE :=
 if y=0 then Gd (x==0) 1 .div
 else if y = -1 then Gd (x != -9223372036854775808) (i64 (0 - x)) .over
 else Gd (x.tmod y==0) (i64 (x.tdiv y)) .div
theorem zad (x:Int):Ad (.un .neg (.c (I x)))=some (I (i64 (0 - x))):=rfl
theorem WF (x y:Int):Ax B0 .cl (.fn 141 []) [CO x y]=some (Cu (Kr x y)):=by
 refine Bm rfl ?_;rw[run141];unfold wa wb we wf wh wl;rw[Gj,AO];simp only[Gy,Hh,At,Bg,Da,Cf,Am,Oj,zac,MY,AO,Nx,NG,Gq,Gp];unfold Kr;by_cases h0:y=0;{subst h0;simp only[iU,iH];rfl}
 ·have e0:((y==0)=true)↔False:=by simp[h0]
  simp only[e0,iG,h0];by_cases U:y = -1;{subst U;simp only[iU,iH,zad,At,MY,AO,Nx,NG,Gq,Gp];rfl}
  ·have e1:((y == -1)=true)↔False:=by simp[U]
   simp only[e1,iG,U];rw[I,I,TU _ _ h0,Jx _ _ h0];simp only[At,Bg,Da,MY,AO,Nx,NG,Gq,Gp];rfl
def MO (x y:Int):Int :=
 if x=0 then y else if x = -1 then 0
 else if (y.tmod x==0)||(decide (y.tmod x < 0)==decide (x < 0)) then y.tmod x else i64 (y.tmod x+x)
theorem aq (x y:Int):Ax B0 .cl (.fn 142 []) [CO x y]=some (Cu (MO x y,.ok)):=by
 refine Bm rfl ?_;rw[run142];unfold we wf wj wl wm wp;rw[Gj,AO];simp only[Gy,Hh,At,Bg,Da,Am];unfold MO;by_cases h0:x=0;{subst h0;simp only[iU,iH];rfl}
 ·have e0:((x==0)=true)↔False:=by simp[h0]
  simp only[e0,iG,h0];by_cases U:x = -1;{subst U;simp only[iU,iH];rfl}
  ·have e1:((x == -1)=true)↔False:=by simp[U]
   simp only[e1,iG,U];rw[show Ad (.bin .rem .num false (.c (I y)) (.c (I x)))=some (I (y.tmod x)) from Jx _ _ h0];simp only[At];rw[show AY [I (y.tmod x),I 0]=true from rfl,AO];generalize y.tmod x=r;by_cases hc:((r==0)||(decide (r < 0)==decide (x < 0)))=true
   ·rw[iJ hc];refine B3 ?_;simp only[AW,AV,A1,Bg,AS,Da,At,Am,Gy,Jy];cases T:(r==0) with
    | true=>rfl
    | false =>
     simp only[T,eQ] at hc;simp only[hc,dE,iG,At,Am,iH];rfl
   {rw[iI hc];rw[DE (s':=([I (i64 (r+x)),I 1,CO x y],()))];{exact B3 rfl};{simp only[AW,AV,A1,Bg,AS,Da,At,Am,Gy,Jy];simp only[gq,not_or,gY] at hc;simp only[hc.1,hc.2,dE,iG,At,Am,BN];rfl}}
def u64 (n:Int):W:=.int .u64 n
def Hj (x:Int):Int:=if x < 0 then IntKind.u64.wrap (0 - IntKind.u64.wrap x) else IntKind.u64.wrap x
theorem QC (x:Int):Ax B0 .cl (.fn 193 []) [I x]=some (u64 (Hj x)):=by refine Bm rfl ?_;rw[run193];unfold wm;simp only[Bg,AS,At,Am,show Ad (.conv .u64 (.c (I x)))=some (.int .u64 (IntKind.u64.wrap x)) from rfl,XX];unfold Hj;by_cases h:x < 0<;>simp[h]<;>rfl
theorem Jw (n:Nat) (h:n < 18446744073709551616):IntKind.u64.wrap (n:Int)=n:=by rw[IntKind.wrap_u64];omega
theorem Xc (x:Int):∃ n:Nat,Hj x=n/\n < 18446744073709551616:=by unfold Hj;refine⟨(if x < 0 then IntKind.u64.wrap (0 - IntKind.u64.wrap x) else IntKind.u64.wrap x).toNat,?_,?_⟩<;>(simp only[IntKind.wrap_u64];split<;>omega)
theorem zae (n:Nat) (h:n < 18446744073709551616):Ad (.bin .and .num true (.c (.int .u64 (n:Int))) (.c (.int .u64 4294967295)))=some (.int .u64 ((n%4294967296:Nat):Int)):=by
 have e:(BitVec.ofInt 64 (n:Int) &&& BitVec.ofInt 64 4294967295).toNat=n%4294967296:=by
  rw[BitVec.toNat_and];have U:(BitVec.ofInt 64 (n:Int)).toNat=n:=by rw[BitVec.toNat_ofInt];omega
  have O:(BitVec.ofInt 64 (4294967295:Int)).toNat=2 ^ 32 - 1:=by rw[BitVec.toNat_ofInt];rfl
  rw[U,O,Nat.and_two_pow_sub_one_eq_mod]
 rw[show Ad (.bin .and .num true (.c (.int .u64 (n:Int))) (.c (.int .u64 4294967295)))=some (.int .u64 (IntKind.u64.wrap (((BitVec.ofInt 64 (n:Int) &&& BitVec.ofInt 64 4294967295).toNat:Nat):Int))) from rfl,e,Jw _ (by omega)]
theorem Rz (n:Nat):Ad (.bin .shr .num true (.c (.int .u64 (n:Int))) (.c (.int .u64 32)))=some (.int .u64 ((n / 4294967296:Nat):Int)):=by
 have e:(n:Int).fdiv (2 ^ (min (32:Int).toNat 64))=((n / 4294967296:Nat):Int):=by rw[show (2:Int) ^ (min (32:Int).toNat 64)=4294967296 from rfl,Int.fdiv_eq_ediv_of_nonneg _ (by decide)];omega
 rw[show Ad (.bin .shr .num true (.c (.int .u64 (n:Int))) (.c (.int .u64 32)))=some (.int .u64 ((n:Int).fdiv (2 ^ (min (32:Int).toNat 64)))) from rfl,e]
theorem uS (a b:Nat) (ha:a < 18446744073709551616) (hb:b < 18446744073709551616) :
  Ax B0 .cl (.fn 192 []) [u64 a,u64 b]=some (.jE [u64 ((a*b / 18446744073709551616:Nat):Int),u64 ((a*b%18446744073709551616:Nat):Int)]):=by
 refine Ce rfl ?_;rw[run192];unfold wp;obtain⟨U,O,h3,h4⟩:=Lib.mul64_hi a b ha hb;have c1:∀ (m n:Nat),((m:Int)*(n:Int))=((m*n:Nat):Int):=fun m n=>by simp
 have c2:∀ (m n:Nat),((m:Int)+(n:Int))=((m+n:Nat):Int):=fun m n=>by simp
 have ka:=Lib.half_mul_le (a:=a / 4294967296) (b:=b / 4294967296) (by omega) (by omega);have kb:=Lib.half_mul_le (a:=a / 4294967296) (b:=b%4294967296) (by omega) (by omega);have kc:=Lib.half_mul_le (a:=a%4294967296) (b:=b / 4294967296) (by omega) (by omega);simp only[u64,zae _ ha,zae _ hb,Rz,At,Oz,OA,c1,c2];rw[Jw _ U,Jw (a / 4294967296*(b%4294967296)) (by omega)];simp only[Rz,At,Oz,OA,c1,c2];rw[Jw _ O];simp only[zae _ O,Rz,At,Oz,OA,c1,c2];rw[Jw (a%4294967296*(b / 4294967296)) (by omega)];simp only[c2];rw[Jw _ h3,Jw (a / 4294967296*(b / 4294967296)) (by omega)];simp only[Rz,At,Oz,OA,c1,c2];have h5:a*b / 18446744073709551616 < 18446744073709551616:=by refine Nat.div_lt_of_lt_mul ?_;exact Nat.mul_lt_mul'' ha hb
 rw[Jw (a / 4294967296*(b / 4294967296)+(a / 4294967296*(b%4294967296)+a%4294967296*(b%4294967296) / 4294967296) / 4294967296) (by omega)];simp only[c2];have e:IntKind.u64.wrap ((a*b:Nat):Int)=((a*b%18446744073709551616:Nat):Int):=by rw[IntKind.wrap_u64];omega
 rw[h4,Jw _ h5,e]
def nTim (hi lo:Nat) (x y:Int):Int×NE :=
 let below:=!(decide (x < 0)==decide (y < 0))
 let v:=i64 (lo:Int)
 Gd (decide (hi=0)&&(decide (lo<=9223372036854775807)||below&&decide (lo=9223372036854775808))) (if below then i64 (0 - v) else v) .over
def Pj (x y:Int):Int×NE:=nTim ((Hj x).toNat*(Hj y).toNat / 18446744073709551616) ((Hj x).toNat*(Hj y).toNat%18446744073709551616) x y
theorem uT (hi lo:Nat) (x y:Int) (nj:Ax B0 .cl (.fn 193 []) [I x]=some (u64 (Hj x))) (na:Ax B0 .cl (.fn 193 []) [I y]=some (u64 (Hj y)))
  (hm:Ax B0 .cl (.fn 192 []) [u64 (Hj x),u64 (Hj y)]=some (.jE [u64 hi,u64 lo])):Ax B0 .cl (.fn 140 []) [CO x y]=some (Cu (nTim hi lo x y)):=by
 refine Bm rfl ?_;rw[run140];unfold wa wb we wf wh wm wv;rw[Gj,AO];simp only[u64] at nj na hm;simp only[Gy,Hh,At,nj,na,hm,BS,dP,dR,Bg,AS,Hy,u64,uB,Am,XZ,XY];unfold nTim;have e1:((hi:Int)==0)=decide (hi=0):=by by_cases h:hi=0<;>simp[h]
 have e2:decide ((lo:Int)<=9223372036854775807)=decide (lo<=9223372036854775807):=by by_cases h:lo<=9223372036854775807<;>simp[h]<;>omega
 have e3:((lo:Int)==9223372036854775808)=decide (lo=9223372036854775808):=by by_cases h:lo=9223372036854775808<;>simp[h];omega
 rw[e1,e2,e3];generalize decide (hi=0)=p1;generalize decide (lo<=9223372036854775807)=p2;generalize decide (lo=9223372036854775808)=p3;cases lX:!(decide (x < 0)==decide (y < 0)) with
 | false =>
  simp only[dE,iG,Oj,At,Bg,fi,g9];cases p2<;>simp only[dE,iG,iH,TZ,AO,UM,At,zab,Gq,Gp]<;>rfl
 | true =>
  simp only[iH,zad,Oj,At,Bg,ez];cases p2<;>simp only[dE,iG,iH,zad,TZ,AO,UM,At,zab,Gq,Gp,eQ,fJ]<;>rfl
theorem uU (x y:Int):Ax B0 .cl (.fn 140 []) [CO x y]=some (Cu (Pj x y)):=by obtain⟨a,ha,hal⟩:=Xc x;obtain⟨b,hb,oz⟩:=Xc y;have hm:=uS a b hal oz;refine uT _ _ x y (QC x) (QC y) ?_;rw[ha,hb,hm];rfl
end Go.Ab.jF


namespace Go.Ab.jF
open Go Go.Ab
variable{d:Nat->Bu} {es:jh} {fn:Au} {g:ja} {r:Int×NE} {sh:Bu} {u v:W}
theorem zaf {args cap:jh} (ht:A9 g=some fn) (hg:GU g) (ha:Ap (args++cap)=true) (hl:Nat.ble (args++cap).length fn.nt=true)
  (T:AH (AD B0 d) fn sh AI 0 ((args++cap).map KV.cv) ()=some (u,())) (lF:fn.io=false:=by rfl) (hb:Nat.blt g CR=true:=by rfl):Ax B0 sh (.fn g cap) args=some u :=
 V1 (CD d) ht ha (dS hl) (OJ hg (fun _=>none) _) T lF hb
def CL:ji:=[43]
def DY:ji:=[45]
def CF:ji:=[195,151]
def DA:ji:=[195,183]
def CX:ji:=[124]
def Dg:ji:=[226,140,136]
def Db:ji:=[226,140,138]
def CY:ji:=[61]
def Du:ji:=[226,137,160]
def DD:ji:=[60]
def Dv:ji:=[62]
def C6:ji:=[226,137,164]
def Dd:ji:=[226,137,165]
def DO:ji:=[226,136,167]
def Di:ji:=[226,136,168]
def Gb:ji:=[126]
def DC (b:Bool):Int:=if b then 1 else 0
theorem LG (b:Bool):Ax B0 .cl (.fn 173 []) [.bool b]=some (I (DC b)):=by refine Bm rfl ?_;rw[run173];cases b<;>rfl
theorem YU (a b:Bool):Ad (.bin .or .num false (.c (I (DC a))) (.c (I (DC b))))=some (I (DC (a||b))):=by cases a<;>cases b<;>rfl
theorem YT (b:Bool):Ad (.bin .or .num false (.c (I 0)) (.c (I (DC b))))=some (I (DC b)):=by cases b<;>rfl
theorem Ek (a:ji):Ad (.bin .eql .str true (.c (.str a)) (.c (.str a)))=some (.bool true):=by rw[I8];simp
theorem CA {a b:ji} (h:Nat.beq a.length b.length=false\/(a==b)=false):Ad (.bin .eql .str true (.c (.str a)) (.c (.str b)))=some (.bool false):=by
 rw[I8];rcases h with h | h
 ·have:¬ a=b:=fun e=>by subst e;simp at h
  simp[this]
 {rw[h]}
def Ga (g:ji) (x y:Int):Bool :=
 if g=CY then x==y else if g=Du then x != y else if g=DD then decide (x < y) else if g=Dv then decide (y < x)
 else if g=C6 then (x==y||decide (x < y)) else (x==y||decide (y < x))
theorem cmp_eq (x y:Int):Ax B0 .cl (.fn 146 []) [CO x y,.str CY]=some (Cu (DC (Ga CY x y),.ok)):=by refine Ce rfl ?_;rw[Nd];unfold we wf wo wq ws wt wu wv;rw[Gj,AO,CY];simp only[Ek,CA (a:=[61]) (b:=[226,137,160]) (.inr rfl),CA (a:=[61]) (b:=[226,137,164]) (.inr rfl),CA (a:=[61]) (b:=[60]) (.inr rfl),At,B4,BL,Gy,Hh,Da,LG];rfl
theorem cmp_ne (x y:Int):Ax B0 .cl (.fn 146 []) [CO x y,.str Du]=some (Cu (DC (Ga Du x y),.ok)):=by refine Ce rfl ?_;rw[Nd];unfold we wf wo wq ws wt wu wv;rw[Gj,AO,Du];simp only[Ek,At,B4,Gy,Hh,Cf,LG];rfl
theorem cmp_lt (x y:Int):Ax B0 .cl (.fn 146 []) [CO x y,.str DD]=some (Cu (DC (Ga DD x y),.ok)):=by refine Ce rfl ?_;rw[Nd];unfold we wf wo wq ws wt wu wv;rw[Gj,AO,DD];simp only[Ek,CA (a:=[60]) (b:=[226,137,160]) (.inr rfl),CA (a:=[60]) (b:=[226,137,164]) (.inr rfl),At,B4,BL,Gy,Hh,AS,LG,Bg,YT];rfl
theorem cmp_le (x y:Int):Ax B0 .cl (.fn 146 []) [CO x y,.str C6]=some (Cu (DC (Ga C6 x y),.ok)):=by refine Ce rfl ?_;rw[Nd];unfold we wf wo wq ws wt wu wv;rw[Gj,AO,C6];simp only[Ek,CA (a:=[226,137,164]) (b:=[226,137,160]) (.inr rfl),At,B4,BL,Gy,Hh,AS,Da,LG,YU];rfl
theorem cmp_gt (x y:Int):Ax B0 .cl (.fn 146 []) [CO x y,.str Dv]=some (Cu (DC (Ga Dv x y),.ok)):=by refine Ce rfl ?_;rw[Nd];unfold we wf wo wq ws wt wu wv;rw[Gj,AO,Dv];simp only[Ek,CA (a:=[62]) (b:=[226,137,160]) (.inr rfl),CA (a:=[62]) (b:=[226,137,164]) (.inr rfl),CA (a:=[62]) (b:=[60]) (.inr rfl),CA (a:=[62]) (b:=[61]) (.inr rfl),CA (a:=[62]) (b:=[226,137,165]) (.inr rfl),At,B4,BL,Gy,Hh,CT,LG,Bg,YT];rfl
theorem cmp_ge (x y:Int):Ax B0 .cl (.fn 146 []) [CO x y,.str Dd]=some (Cu (DC (Ga Dd x y),.ok)):=by refine Ce rfl ?_;rw[Nd];unfold we wf wo wq ws wt wu wv;rw[Gj,AO,Dd];simp only[Ek,CA (a:=[226,137,165]) (b:=[226,137,160]) (.inr rfl),CA (a:=[226,137,165]) (b:=[226,137,164]) (.inr rfl),CA (a:=[226,137,165]) (b:=[60]) (.inr rfl),CA (a:=[226,137,165]) (b:=[61]) (.inr rfl),At,B4,BL,Gy,Hh,CT,Da,LG,YU];rfl
variable{g:ji}
theorem MU {x y:Int} (h:Ax B0 .cl (.fn 146 []) [CO x y,.str g]=some (Cu r)):Ax B0 .cl (.fn 145 [.ptr [.str g] 0]) [CO x y]=some (Cu r):=by refine zaf (d:=fun _=>.cl) rfl (by decide) rfl rfl ?_;simp only[fW,eM,dI,dW];rw[run145];unfold wa wb wh wv;rw[Gj,AO];simp only[two_a,At,Ll,Kp,h,Gq,Gp];rfl
def andI (x y:Int):Int:=IntKind.i64.wrap (BitVec.ofInt 64 x &&& BitVec.ofInt 64 y).toNat
def orI (x y:Int):Int:=IntKind.i64.wrap (BitVec.ofInt 64 x ||| BitVec.ofInt 64 y).toNat
theorem and_run (x y:Int):Ad (.bin .and .num false (.c (I x)) (.c (I y)))=some (I (andI x y)):=rfl
theorem or_run (x y:Int):Ad (.bin .or .num false (.c (I x)) (.c (I y)))=some (I (orI x y)):=rfl
theorem shr1 (x:Int):Ad (.bin .shr .num true (.c (I x)) (.c (.int .u64 1)))=some (I (x.fdiv 2)):=rfl
theorem Q8 (g:ji):Ad (.build [.str []] [(0,(1,.c (.str g)))])=some (.agg [.str g]):=rfl
def JO (g:ji) (x y:Int):Int×NE:=Gd ((x.fdiv 2==0)&&(y.fdiv 2==0)) (if g=Di then orI x y else andI x y) (.mf g)
theorem uV (g:ji) (x y:Int):Ax B0 .cl (.fn 148 []) [CO x y,.str g]=some (Cu (JO g x y)):=by
 refine Ce rfl ?_;rw[run148];unfold wa wb we wf wl ws;rw[Gj,AO];simp only[Gy,Hh,At,and_run,or_run,shr1,Bg,Da,I8,Am,Q8,TZ,AO,UM,show W.iface 205 (.agg [.str g])=(NE.mf g).pv from rfl,zab,Gq,Gp];unfold JO;by_cases h:g=Di;{subst h;rfl}
 ·have:(g==[226,136,168])=false:=by simpa[Di] using h
  simp only[this,h,dE,iG];rfl
theorem WH (g:ji) (x y:Int):Ax B0 .cl (.fn 147 [.ptr [.str g] 0]) [CO x y]=some (Cu (JO g x y)):=by refine zaf (d:=fun _=>.cl) rfl (by decide) rfl rfl ?_;simp only[fW,eM,dI,dW];rw[run147];unfold wa wb wh wv;rw[Gj,AO];simp only[two_a,At,Ll,Kp,uV,Gq,Gp];rfl
theorem max_run (x y:Int):Ax B0 .cl (.fn 143 []) [CO x y]=some (Cu (max x y,.ok)):=by refine Bm rfl ?_;rw[run143];unfold we wf;rw[Gj,AO];simp only[Gy,Hh,At,Ad,exec,dI,dW,RX.ev,Ic,I];by_cases h:y>x;{simp[h,Int.max_eq_right (by omega:x<=y)];rfl};{simp[h,Int.max_eq_left (by omega:y<=x)];rfl}
theorem zag (x y:Int):Ax B0 .cl (.fn 144 []) [CO x y]=some (Cu (min x y,.ok)):=by refine Bm rfl ?_;rw[run144];unfold we wf;rw[Gj,AO];simp only[Gy,Hh,At,Ad,exec,dI,dW,RX.ev,Ic,I];by_cases h:y < x;{simp[h,Int.min_eq_right (by omega:y<=x)];rfl};{simp[h,Int.min_eq_left (by omega:x<=y)];rfl}
def Ii:W:=.ki [.str CL,.fn 138 [],.str DY,.fn 139 [],.str CF,.fn 140 [],.str DA,.fn 141 [],.str CX,.fn 142 [],
 .str Dg,.fn 143 [],.str Db,.fn 144 [],
 .str CY,.fn 145 [.ptr [.str CY] 0],.str Du,.fn 145 [.ptr [.str Du] 0],.str DD,.fn 145 [.ptr [.str DD] 0],.str Dv,.fn 145 [.ptr [.str Dv] 0],.str C6,.fn 145 [.ptr [.str C6] 0],.str Dd,.fn 145 [.ptr [.str Dd] 0],
 .str DO,.fn 147 [.ptr [.str DO] 0],.str Di,.fn 147 [.ptr [.str Di] 0]]
theorem XC:Ax B0 .cl (.fn 108 []) []=some Ii:=Dw (n:=60) (by decide) (by kernel_rfl) rfl rfl
theorem CB {x:ji} (h:¬ g=x):Ed (.str g) (.str x :: v :: es)=Ed (.str g) es:=by
 have:(g==x)=false:=by simp[h]
 simp[Ed,JX,this]
theorem Er:Ed (.str g) (.str g :: v :: es)=some (some v):=by simp[Ed,JX]
def CQ (g:ji):Bool:=[CL,DY,CF,DA,CX,Dg,Db,CY,Du,DD,Dv,C6,Dd,DO,Di].contains g
def Hr (g:ji) (x y:Int):Int×NE :=
 if g=CL then nAdd x y else if g=DY then NF x y else if g=CF then Pj x y else if g=DA then Kr x y else if g=CX then (MO x y,.ok)
 else if g=Dg then (max x y,.ok) else if g=Db then (min x y,.ok)
 else if g=CY\/g=Du\/g=DD\/g=Dv\/g=C6\/g=Dd then (DC (Ga g x y),.ok)
 else if g=DO\/g=Di then JO g x y else (0,.mf g)
theorem Zl (g:ji):(∃ f,Ed (.str g) (match Ii with | .ki es=>es | _=>[])=some (some f)/\CQ g=true/\(∀ x y,Ax B0 .cl f [CO x y]=some (Cu (Hr g x y)))/\jN f=true/\∃ k c,f=.fn k c)
  \/ (Ed (.str g) (match Ii with | .ki es=>es | _=>[])=some none/\CQ g=false/\∀ x y,Hr g x y=(0,.mf g)):=by
 unfold Ii;dsimp only
 by_cases U:g=CL;{subst U;exact .inl ⟨_,Er,rfl,fun x y=>add_run x y,rfl,_,_,rfl⟩};rw[CB U];by_cases O:g=DY;{subst O;exact .inl ⟨_,Er,rfl,fun x y=>QB x y,rfl,_,_,rfl⟩};rw[CB O];by_cases h3:g=CF;{subst h3;exact .inl ⟨_,Er,rfl,fun x y=>uU x y,rfl,_,_,rfl⟩};rw[CB h3];by_cases h4:g=DA;{subst h4;exact .inl ⟨_,Er,rfl,fun x y=>WF x y,rfl,_,_,rfl⟩};rw[CB h4];by_cases h5:g=CX;{subst h5;exact .inl ⟨_,Er,rfl,fun x y=>aq x y,rfl,_,_,rfl⟩};rw[CB h5];by_cases h6:g=Dg;{subst h6;exact .inl ⟨_,Er,rfl,fun x y=>max_run x y,rfl,_,_,rfl⟩};rw[CB h6];by_cases h7:g=Db;{subst h7;exact .inl ⟨_,Er,rfl,fun x y=>zag x y,rfl,_,_,rfl⟩};rw[CB h7];by_cases h8:g=CY;{subst h8;exact .inl ⟨_,Er,rfl,fun x y=>MU (cmp_eq x y),rfl,_,_,rfl⟩};rw[CB h8];by_cases h9:g=Du;{subst h9;exact .inl ⟨_,Er,rfl,fun x y=>MU (cmp_ne x y),rfl,_,_,rfl⟩};rw[CB h9];by_cases h10:g=DD;{subst h10;exact .inl ⟨_,Er,rfl,fun x y=>MU (cmp_lt x y),rfl,_,_,rfl⟩};rw[CB h10];by_cases h11:g=Dv;{subst h11;exact .inl ⟨_,Er,rfl,fun x y=>MU (cmp_gt x y),rfl,_,_,rfl⟩};rw[CB h11];by_cases h12:g=C6;{subst h12;exact .inl ⟨_,Er,rfl,fun x y=>MU (cmp_le x y),rfl,_,_,rfl⟩};rw[CB h12];by_cases h13:g=Dd;{subst h13;exact .inl ⟨_,Er,rfl,fun x y=>MU (cmp_ge x y),rfl,_,_,rfl⟩};rw[CB h13];by_cases h14:g=DO;{subst h14;exact .inl ⟨_,Er,rfl,fun x y=>WH DO x y,rfl,_,_,rfl⟩};rw[CB h14];by_cases h15:g=Di;{subst h15;exact .inl ⟨_,Er,rfl,fun x y=>WH Di x y,rfl,_,_,rfl⟩};rw[CB h15];refine .inr ⟨rfl,?_,fun x y=>?_⟩;{simp[CQ,U,O,h3,h4,h5,h6,h7,h8,h9,h10,h11,h12,h13,h14,h15]};{simp[Hr,U,O,h3,h4,h5,h6,h7,h8,h9,h10,h11,h12,h13,h14,h15]}
theorem Ub (g:ji):Ax B0 .cl (.fn 83 []) [.str g]=some (.bool (CQ g)):=by
 refine Bm rfl ?_;rw[run83,XC];simp only[At];rcases Zl g with ⟨f,U,O,_,_,k,c,rfl⟩ | ⟨U,O,_⟩
 {rw[O,show Ad (.lookup .str .jV false (.c Ii) (.c (.str g)))=some (.fn k c) by unfold Ii at U |-;simp only[Ad,exec,RX.ev];rw[U];rfl];rfl};{rw[O,show Ad (.lookup .str .jV false (.c Ii) (.c (.str g)))=some .jV by unfold Ii at U |-;simp only[Ad,exec,RX.ev];rw[U];rfl];rfl}
theorem rW (g:ji) (x y:Int):Ax B0 .cl (.fn 114 []) [.str g,I x,I y]=some (.jE [I (Hr g x y).1,I (Hr g x y).2.no]):=by
 refine HS rfl ?_;rw[run114];unfold wa wb wi wv;rw[XC];simp only[At];rcases Zl g with ⟨f,U,O,h3,_,k,c,rfl⟩ | ⟨U,O,h3⟩
 {rw[show Ad (.lookup .str .jV true (.c Ii) (.c (.str g)))=some (.jE [.fn k c,.bool true]) by unfold Ii at U |-;simp only[Ad,exec,RX.ev];rw[U];rfl];simp only[At,BS,dP,dR,BH,dK,BL];rw[show Ad (.build [.int .i64 0,.int .i64 0] [(0,(1,.c (I x))),(1,(1,.c (I y)))])=some (CO x y) from rfl];simp only[At];rw[show Ad (.build [.int .i64 0,.int .i64 0] [(0,(2,.c (CO x y)))])=some (CO x y) from rfl];simp only[At,h3,Gq,Gp,Qj]};{rw[show Ad (.lookup .str .jV true (.c Ii) (.c (.str g)))=some (.jE [.jV,.bool false]) by unfold Ii at U |-;simp only[Ad,exec,RX.ev];rw[U];rfl];simp only[At,BS,dP,dR,BH,d8,B4,Q8,show W.iface 205 (.agg [.str g])=(NE.mf g).pv from rfl,Qj,h3];rfl}
def nNeg (y:Int):Int×NE:=NF 0 y
def nSign (y:Int):Int:=i64 (DC (decide (0 < y)) - DC (decide (y < 0)))
def nNot (y:Int):Int×NE:=Gd ((y==0)||(y==1)) (i64 (1 - y)) (.mf Gb)
theorem TS (y:Int):Ax B0 .cl (.fn 170 []) [I y]=some (Cu (y,.ok)):=by refine Bm rfl ?_;rw[run170];rfl
theorem YY (y:Int):Ax B0 .cl (.fn 171 []) [I y]=some (Cu (nNeg y)):=by refine Bm rfl ?_;rw[run171];unfold wa wb wv;rw[show Ad (.build [.int .i64 0,.int .i64 0] [(0,(1,.c (.int .i64 0))),(1,(1,.c (I y)))])=some (CO 0 y) from rfl];simp only[At];rw[show Ad (.build [.int .i64 0,.int .i64 0] [(0,(2,.c (CO 0 y)))])=some (CO 0 y) from rfl];simp only[At,QB,Gq,Gp];rfl
theorem zah (y:Int):Ax B0 .cl (.fn 172 []) [I y]=some (Cu (nSign y,.ok)):=by refine Bm rfl ?_;rw[run172];unfold wm wv;simp only[Bg,CT,AS,At,LG,GV];rfl
theorem uW (y:Int):Ax B0 .cl (.fn 174 []) [I y]=some (Cu (Kr 1 y)):=by refine Bm rfl ?_;rw[run174];unfold wa wb wv;rw[show Ad (.build [.int .i64 0,.int .i64 0] [(0,(1,.c (.int .i64 1))),(1,(1,.c (I y)))])=some (CO 1 y) from rfl];simp only[At];rw[show Ad (.build [.int .i64 0,.int .i64 0] [(0,(2,.c (CO 1 y)))])=some (CO 1 y) from rfl];simp only[At,WF,Gq,Gp];rfl
theorem not_run (y:Int):Ax B0 .cl (.fn 175 []) [I y]=some (Cu (nNot y)):=by refine Bm rfl ?_;rw[run175];unfold wa wb wl;simp only[Bg,GV,Da,At,Q8,Am,MY,AO,Nx,show W.iface 205 (.agg [.str [126]])=(NE.mf Gb).pv from rfl,NG,Gq,Gp];unfold nNot;cases y==0<;>rfl
def nAbs (y:Int):Int×NE:=if y < 0 then nNeg y else (y,.ok)
theorem abs_run (y:Int):Ax B0 .cl (.fn 177 [.ptr [.fn 171 []] 0]) [I y]=some (Cu (nAbs y)):=by refine zaf (d:=fun _=>.cl) rfl (by decide) rfl rfl ?_;simp only[fW,eM,dI,dW];rw[run177];unfold wa wb wh wm;simp only[Bg,AS,At,Am,Ll,Kp,YY,Gq,Gp];unfold nAbs;by_cases h:y < 0<;>simp[h]<;>rfl
def H9:W:=.ki [.str CL,.fn 170 [],.str Dg,.fn 170 [],.str Db,.fn 170 [],.str DY,.fn 171 [],.str CF,.fn 172 [],.str DA,.fn 174 [],.str Gb,.fn 175 [],
 .str CX,.fn 177 [.ptr [.fn 171 []] 0]]
theorem Wl:Ax B0 .cl (.fn 118 []) []=some H9:=Dw (n:=60) (by decide) (by kernel_rfl) rfl rfl
def D6 (g:ji):Bool:=[CL,Dg,Db,DY,CF,DA,Gb,CX].contains g
def CV (g:ji) (y:Int):Int×NE :=
 if g=CL then (y,.ok) else if g=Dg then (y,.ok) else if g=Db then (y,.ok) else if g=DY then nNeg y else if g=CF then (nSign y,.ok) else if g=DA then Kr 1 y else if g=Gb then nNot y
 else if g=CX then nAbs y else (0,.mf g)
theorem X5 (g:ji):(∃ f,Ed (.str g) (match H9 with | .ki es=>es | _=>[])=some (some f)/\D6 g=true/\(∀ y,Ax B0 .cl f [I y]=some (Cu (CV g y)))/\jN f=true/\∃ k c,f=.fn k c)
  \/ (Ed (.str g) (match H9 with | .ki es=>es | _=>[])=some none/\D6 g=false/\∀ y,CV g y=(0,.mf g)):=by
 unfold H9;dsimp only
 by_cases U:g=CL;{subst U;exact .inl ⟨_,Er,rfl,fun y=>TS y,rfl,_,_,rfl⟩};rw[CB U];by_cases O:g=Dg;{subst O;exact .inl ⟨_,Er,rfl,fun y=>TS y,rfl,_,_,rfl⟩};rw[CB O];by_cases h3:g=Db;{subst h3;exact .inl ⟨_,Er,rfl,fun y=>TS y,rfl,_,_,rfl⟩};rw[CB h3];by_cases h4:g=DY;{subst h4;exact .inl ⟨_,Er,rfl,fun y=>YY y,rfl,_,_,rfl⟩};rw[CB h4];by_cases h5:g=CF;{subst h5;exact .inl ⟨_,Er,rfl,fun y=>zah y,rfl,_,_,rfl⟩};rw[CB h5];by_cases h6:g=DA;{subst h6;exact .inl ⟨_,Er,rfl,fun y=>uW y,rfl,_,_,rfl⟩};rw[CB h6];by_cases h7:g=Gb;{subst h7;exact .inl ⟨_,Er,rfl,fun y=>not_run y,rfl,_,_,rfl⟩};rw[CB h7];by_cases h8:g=CX;{subst h8;exact .inl ⟨_,Er,rfl,fun y=>abs_run y,rfl,_,_,rfl⟩};rw[CB h8];refine .inr ⟨rfl,?_,fun y=>?_⟩;{simp[D6,U,O,h3,h4,h5,h6,h7,h8]};{simp[CV,U,O,h3,h4,h5,h6,h7,h8]}
theorem TB (g:ji):Ax B0 .cl (.fn 86 []) [.str g]=some (.bool (D6 g)):=by
 refine Bm rfl ?_;rw[run86,Wl];simp only[At];rcases X5 g with ⟨f,U,O,_,_,k,c,rfl⟩ | ⟨U,O,_⟩
 {rw[O,show Ad (.lookup .str .jV false (.c H9) (.c (.str g)))=some (.fn k c) by unfold H9 at U |-;simp only[Ad,exec,RX.ev];rw[U];rfl];rfl};{rw[O,show Ad (.lookup .str .jV false (.c H9) (.c (.str g)))=some .jV by unfold H9 at U |-;simp only[Ad,exec,RX.ev];rw[U];rfl];rfl}
theorem o6 (g:ji) (y:Int):Ax B0 .cl (.fn 119 []) [.str g,I y]=some (.jE [I (CV g y).1,I (CV g y).2.no]):=by
 refine Ce rfl ?_;rw[run119];unfold wa wb wi wv;rw[Wl];simp only[At];rcases X5 g with ⟨f,U,O,h3,_,k,c,rfl⟩ | ⟨U,O,h3⟩
 {rw[show Ad (.lookup .str .jV true (.c H9) (.c (.str g)))=some (.jE [.fn k c,.bool true]) by unfold H9 at U |-;simp only[Ad,exec,RX.ev];rw[U];rfl];simp only[At,BS,dP,dR,BH,dK,BL,h3,Gq,Gp,Qj]};{rw[show Ad (.lookup .str .jV true (.c H9) (.c (.str g)))=some (.jE [.jV,.bool false]) by unfold H9 at U |-;simp only[Ad,exec,RX.ev];rw[U];rfl];simp only[At,BS,dP,dR,BH,d8,B4,Q8,show W.iface 205 (.agg [.str g])=(NE.mf g).pv from rfl,Qj,h3];rfl}
end Go.Ab.jF


namespace Go.Ab
variable{E α ρ:Type} {B:KB} {d dep:Nat} {f:W} {a0:α} {e:E} {h:AA E} {step:jh×E->Option (Sum (jh×E) ρ)}
theorem OB {σ:Type} {step:σ->Option (Sum σ ρ)} (Z:Nat->α->σ) (n:Nat) (P:Nat->α->Prop) (Q:ρ->Prop)
  (hs:∀ i a,i < n->P i a->(∃ a',step (Z i a)=some (.inl (Z (i+1) a'))/\P (i+1) a')\/∃ r,step (Z i a)=some (.inr r)/\Q r)
  (he:∀ a,P n a->∃ r,step (Z n a)=some (.inr r)/\Q r) (h0:P 0 a0):∃ r,Be step (Z 0 a0)=some r/\Q r:=by
 have key:∀ m i a,i+m=n->P i a->∃ r,Be step (Z i a)=some r/\Q r:=by
  intro m;induction m with
  | zero =>
   intro i a hi hp;obtain rfl:i=n:=by omega
   obtain⟨r,U,O⟩:=he a hp;exact⟨r,B3 U,O⟩
  | succ m ih =>
   intro i a hi hp;rcases hs i a (by omega) hp with ⟨a',U,O⟩ | ⟨r,U,O⟩;{rw[DE U];exact ih _ _ (by omega) O};{exact⟨r,B3 U,O⟩}
 exact key n 0 a0 (by omega) h0
theorem WO (Z:Nat->α->E) (l:List jh) (P:Nat->α->Prop) (Q:E->Prop)
  (hs:∀ i a (hi:i < l.length),P i a->(∃ a',h d l[i] (Z i a)=some (true,Z (i+1) a')/\P (i+1) a')\/∃ e',h d l[i] (Z i a)=some (false,e')/\Q e')
  (he:∀ a,P l.length a->Q (Z l.length a)) (h0:P 0 a0):∃ e',Ep h d l (Z 0 a0)=some e'/\Q e':=by
 have key:∀ m i a,i+m=l.length->P i a->∃ e',Ep h d (l.drop i) (Z i a)=some e'/\Q e':=by
  intro m;induction m with
  | zero =>
   intro i a hi hp;obtain rfl:i=l.length:=by omega
   rw[eP (dH _)];exact⟨_,rfl,he a hp⟩
  | succ m ih =>
   intro i a hi hp;have jP:i < l.length:=by omega
   rw[eX jP];rcases hs i a jP hp with ⟨a',U,O⟩ | ⟨e',U,O⟩;{simp only[Ep,U];exact ih _ _ (by omega) O};{simp only[Ep,U];exact⟨_,rfl,O⟩}
 exact key l.length 0 a0 (by omega) h0
theorem uX (Z:Nat->E) (l:List jh) (hs:∀ i (hi:i < l.length),h d l[i] (Z i)=some (true,Z (i+1))):Ep h d l (Z 0)=some (Z l.length):=by obtain⟨e,U,O⟩:=WO (α:=Unit) (h:=h) (d:=d) (fun i _=>Z i) l (fun _ _=>True) (fun e=>e=Z l.length) (fun i _ hi _=>.inl ⟨(),hs i hi,trivial⟩) (fun _ _=>rfl) (a0:=()) trivial;rw[U,O]
theorem bM {β:Type} {K:E->Option β} {r:β} (e':E) (U:DU B h dep f e=some e') (O:K e'=some r):Ac (DU B h dep f e) K=some r:=by rw[U];exact O
theorem S8 (Z:Nat->jh) (l:List jh) (fin:E->ρ)
  (hs:∀ i (hi:i < l.length) e e',h d l[i] e=some (true,e')->step (Z i,e)=some (.inl (Z (i+1),e')))
  (hf:∀ i (hi:i < l.length) e e',h d l[i] e=some (false,e')->step (Z i,e)=some (.inr (fin e')))
  (he:∀ e,step (Z l.length,e)=some (.inr (fin e))) {e':E} (hy:Ep h d l e=some e'):Be step (Z 0,e)=some (fin e'):=by
 have key:∀ m i e,i+m=l.length->Ep h d (l.drop i) e=some e'->Be step (Z i,e)=some (fin e'):=by
  intro m;induction m with
  | zero =>
   intro i e hi hq;obtain rfl:i=l.length:=by omega
   rw[eP (dH _)] at hq;rw[<-fy hq];exact B3 (he e)
  | succ m ih =>
   intro i e hi hq;have jP:i < l.length:=by omega
   rw[eX jP] at hq;simp only[Ep] at hq;split at hq;{rename_i e1 hh;rw[DE (hs i jP e e1 hh)];exact ih _ _ (by omega) hq};{rename_i e1 hh;rw[<-fy hq];exact B3 (hf i jP e e1 hh)};{cases hq}
 exact key l.length 0 e (by omega) hy
@[simp] theorem Ff (a0 a1 a2 a3 a4 a5 a6 a7 a8 x:W) (l:jh):J (a0 :: a1 :: a2 :: a3 :: a4 :: a5 :: a6 :: a7 :: a8 :: x :: l) 9=x:=rfl
@[simp] theorem HH (a0 a1 a2 a3 a4 a5 a6 a7 a8 a9 x:W) (l:jh):J (a0 :: a1 :: a2 :: a3 :: a4 :: a5 :: a6 :: a7 :: a8 :: a9 :: x :: l) 10=x:=rfl
@[simp] theorem JN (a0 a1 a2 a3 a4 a5 a6 a7 a8 a9 rX x:W) (l:jh):J (a0 :: a1 :: a2 :: a3 :: a4 :: a5 :: a6 :: a7 :: a8 :: a9 :: rX :: x :: l) 11=x:=rfl
@[simp] theorem LO (a0 a1 a2 a3 a4 a5 a6 a7 a8 a9 rX a11 x:W) (l:jh):J (a0 :: a1 :: a2 :: a3 :: a4 :: a5 :: a6 :: a7 :: a8 :: a9 :: rX :: a11 :: x :: l) 12=x:=rfl
@[simp] theorem LN (a0 a1 a2 a3 a4 a5 a6 a7 a8 a9 rX a11 a12 x:W) (l:jh):J (a0 :: a1 :: a2 :: a3 :: a4 :: a5 :: a6 :: a7 :: a8 :: a9 :: rX :: a11 :: a12 :: x :: l) 13=x:=rfl
end Go.Ab


namespace Go.Ab.jF
open Go Go.Ab
variable{β:Type} {a:jI} {f:Bool} {i j:Nat} {l:ju} {v x:W} {vs:jh}
inductive EE:jh->ju->Prop
 | nil:EE [] []
 | cons {v:W} {a:jI} {vs:jh} {l:ju}:Az v a->EE vs l->EE (v :: vs) (a :: l)
theorem EE.ok (h:EE vs l):Ap vs=true:=by
 induction h with
 | nil=>rfl
 | cons h _ ih=>simp[Ap,h.ok,ih]
theorem EE.len (h:EE vs l):vs.length=l.length:=by
 induction h with
 | nil=>rfl
 | cons h _ ih=>simp[ih]
theorem EE.get (h:EE vs l):∀ i (hi:i < l.length),∃ v,vs[i]?=some v/\Az v l[i]:=by
 induction h with
 | nil=>intro i hi;simp at hi
 | cons h _ ih =>
  intro i hi;cases i with
  | zero=>exact⟨_,rfl,h⟩
  | succ i=>exact ih i (by simpa using hi)
theorem IL {H:jh} {a b c:W} (h:H[j]?=some (.agg [a,b,c])):Ad (.jJ 3 (.c (.sl 3 H f)) (.c (I j)))=some (.ptr [a,b,c] 0):=by rw[I,MC (by omega) h];rfl
theorem IK (a b c:W):Ad (.load 3 true (.c (.ptr [a,b,c] 0)))=some (.agg [a,b,c]):=rfl
theorem PM (a b c:W):Ad (.fieldAddr 0 (.c (.ptr [a,b,c] 0)))=some (.ptr [a,b,c] 0):=rfl
theorem RY (a b c:W):Ad (.fieldAddr 1 (.c (.ptr [a,b,c] 0)))=some (.ptr [a,b,c] 1):=rfl
theorem PL (a b c:W):Ad (.fieldAddr 2 (.c (.ptr [a,b,c] 0)))=some (.ptr [a,b,c] 2):=rfl
theorem ld3_0 (a b c:W):Ad (.load 1 false (.c (.ptr [a,b,c] 0)))=some a:=rfl
theorem RJ (a b c:W):Ad (.load 1 false (.c (.ptr [a,b,c] 1)))=some b:=rfl
theorem PE (a b c:W):Ad (.load 1 false (.c (.ptr [a,b,c] 2)))=some c:=rfl
theorem zai (b:Bool):Aw (.bool b) 1=true:=rfl
theorem UJ (b:Bool):Af (.bool b) 0=.bool b:=rfl
theorem bV {α:Type} (a:α) (f:α->Option β):Ac (some a) f=f a:=eK rfl rfl
theorem cT (a:Option β):Ae true a=a:=eK rfl rfl
theorem iD (n:Int):W.int .i64 n=I n:=eK rfl rfl
theorem W8 (h:Bh x a.n):Aw (.agg [.bool a.li,.bool a.ru,x]) 3=true:=Jz (Cg rfl rfl h.cell)
theorem JL (h:Bh x a.n):AZ (.agg [.bool a.li,.bool a.ru,x])=true:=Cg rfl rfl h.cell
inductive v8:W->ju->Prop
 | nil:v8 .jD []
 | sl {vs:jh} {l:ju} (f:Bool) (h:EE vs l):v8 (.sl 3 vs f) l
theorem v8.ok (h:v8 v l):jN v=true:=by
 cases h with
 | nil=>rfl
 | sl f h=>simp[jN,h.ok]
theorem v8.qZ (h:v8 v l):HB v=false:=by cases h<;>rfl
theorem v8.len (h:v8 v l):Ad (.len .slice (.c v))=some (I l.length):=by
 cases h with
 | nil=>rfl
 | sl f h=>rw[G4,h.len];rfl
theorem v8.idx (h:v8 v l) (hi:i < l.length):∃ x,Ad (.jJ 3 (.c v) (.c (I i)))=some (.ptr [.bool l[i].li,.bool l[i].ru,x] 0)/\Bh x l[i].n:=by
 cases h with
 | nil=>simp at hi
 | sl f h =>
  obtain⟨u,U,O⟩:=h.get i hi;obtain⟨x,rfl,A⟩:=O.get;exact⟨x,IL U,A⟩
theorem EE.snoc (h:EE vs l) (ha:Az v a):EE (vs++[v]) (l++[a]):=by
 induction h with
 | nil=>exact .cons ha .nil
 | cons U _ ih=>exact .cons U ih
def BZ (ru:Bool) (n:Int):jI:=⟨false,ru,[n]⟩
def B2 (ru:Bool) (n:Int):W:=.agg [.bool false,.bool ru,.sl 1 [I n] false]
theorem Ib (ru:Bool) (n:Int):Az (B2 ru n) (BZ ru n):=.mk _ _ _ _ (.sl [n] false)
theorem Fu (n:Int):AX 1 [I n]=true:=rfl
theorem slO_I (n:Int):AB 1 1 [I n] 0 (Ah [I n])=.sl 1 [I n] false:=rfl
theorem uY (ru:Bool) (n:Int):AX 3 [.agg [.bool false,.bool ru,.sl 1 [I n] false]]=true:=rfl
theorem Q0 (ru:Bool):∀ l:jo,EE (l.map (B2 ru)) (l.map (BZ ru))
 | []=>.nil
 | n :: l=>.cons (Ib ru n) (Q0 ru l)
end Go.Ab.jF


namespace Go.Ab.jF
open Go Go.Ab
variable{E α:Type} {a is:jI} {f v x:W} {i:Nat} {l:ju} {li ru:Bool} {p:jI->Bool} {vs:jh}
theorem YV (h:Az v a) (n:Int):Ax B0 .cl (.fn 57 []) [v,I n]=some (B2 a.ru n):=by obtain⟨x,rfl,A⟩:=h.get;refine Ce (by simp[Ap,h.ok]) ?_;rw[run57,JL A,cT];rfl
theorem Ss (h:Bh x a.n):Ad (.build [.bool false,.bool false,.jD] [(0,(3,.c (.agg [.bool a.li,.bool a.ru,x])))])=some (.agg [.bool a.li,.bool a.ru,x]):=by have:=Cg (a:=.bool a.li) (b:=.bool a.ru) rfl rfl h.cell;simp[Ad,exec,ET,RX.ev,this,j0,AN,W.cells]
theorem Ye (h:Bh x a.n):Ax B0 .cl (.fn 32 []) [.agg [.bool a.li,.bool a.ru,x]]=some (.fn 56 [.ptr [.bool a.li,.bool a.ru,x] 0]):=by
 refine Bm (by simp[Ap,jN,h.ok]) ?_;rw[run32,JL h,cT];have:A6 (.fn 56 [.ptr [.bool a.li,.bool a.ru,x] 0])=true:=by simp[A6,jN,Ap,h.ok]
 show Ae (A6 (.fn 56 [.ptr [.bool a.li,.bool a.ru,x] 0])) _=_;rw[this];rfl
theorem VR (h:AA E) (dep:Nat) (A:Bh x a.n) (hl:a.n.length<=1000000) {e e':E} (hy:Ep h dep (a.n.map fun n=>[B2 a.ru n]) e=some e') :
  DU B0 h dep (.fn 56 [.ptr [.bool a.li,.bool a.ru,x] 0]) e=some e':=by
 refine PR (CD fun _=>.cl) (g:=56) (fn:=fn56) rfl (by simp[Ap,jN,A.ok]) (dS rfl) (u:=.jE []) ?_;simp only[dI,dW];rw[run56];unfold wc wh wi wj wo wr wv;rw[PM,bV,PL,bV,PE,bV,A.len,bV,show AY [nI dep,.ptr [.bool a.li,.bool a.ru,x] 0,x,I a.n.length,.int .i64 0]=true by simp only[AY,e9,A.qZ];rfl,cT];have hA:Az (.agg [.bool a.li,.bool a.ru,x]) a:=.mk _ _ _ _ A;have l3:Ad (.load 3 true (.c (.ptr [.bool a.li,.bool a.ru,x] 0)))=some (.agg [.bool a.li,.bool a.ru,x]):=rfl;refine (S8 (h:=h) (d:=dep) (fun i=>[nI dep,.ptr [.bool a.li,.bool a.ru,x] 0,x,I a.n.length,I i]) (a.n.map fun n=>[B2 a.ru n]) (fun e=>(W.jE [],e)) ?_ ?_ ?_ hy);{intro i hi e e' hq;rw[dY] at hi;rw[gv] at hq;simp only[AW,AV,A1,Bc,BD,AS,bV,Am];rw[iJ (by simpa using hi),A.idx hi];simp only[bV,C0,l3,YV hA,Cp,DG,Cl,dN,hq,BH,dK,Am,dE,iG,iD,BN,Cs (by omega:i < 9223372036854775807)]};{intro i hi e e' hq;rw[dY] at hi;rw[gv] at hq;simp only[AW,AV,A1,Bc,BD,AS,bV,Am];rw[iJ (by simpa using hi),A.idx hi];simp only[bV,C0,l3,YV hA,Cp,DG,Cl,dN,hq,BH,d8,Am,iH]};{intro e;rw[dY];simp only[AW,AV,A1,Bc,BD,AS,bV,Am,gE,iN,dE,iG]}
theorem Rx (vs:jh):AB 3 3 vs 0 vs.length=.sl 3 vs false:=by unfold AB;rw[iJ ⟨rfl,by omega⟩,eJ,dV (dH _)]
theorem slO_1 (l:jo):AB 1 1 (An l) 0 l.length=.sl 1 (An l) false:=by unfold AB;rw[iJ ⟨rfl,by rw[BA];omega⟩,eJ,dV (by rw[BA];exact dH _)]
theorem aZ (hf:jN f=true) (hv:EE vs l) (hl:l.length<=1000000)
  (T:∀ {E:Type} (h:AA E) {e e':E},Ep h 0 (vs.map fun v=>[v]) e=some e'->DU B0 h 0 f e=some e') :
  Ax B0 .cl (.fn 50 []) [f]=some (.sl 3 vs false):=by
 refine Bm (by simp[Ap,hf]) ?_;rw[run50];have U:Ax B0 .cl (.fn 81 []) [.jD,f]=some (.sl 3 vs false):=by refine callK (d:=fun _=>.cl) (H:=[.kx,.cv f]) rfl (by decide) ⟨trivial,hf,trivial⟩ (by intro x A;simp at A;rcases A with rfl | rfl<;>rfl) rfl rfl ?_;rw[run81];have hlen:=hv.len;refine bM (([.jD,f,nI vs.length,.sl 3 vs false],(none,())):Is Unit) (T _ ?_) ?_;{refine (uX (fun i=>(([.jD,f,nI i,.sl 3 (vs.take i) false],(none,())):Is Unit)) _ fun i hi=>?_).trans ?_;{rw[dY] at hi;rw[gv];obtain⟨v,h3,h4⟩:=hv.get i (by omega);rw[dQ hi] at h3;obtain⟨x,A,w9⟩:=h4.get;have hvi:vs[i]=.agg [.bool l[i].li,.bool l[i].ru,x]:=(fy h3).trans A;simp only[EI,iH,AW,AV,A1,Bc,hvi];rw[show ER [W.agg [.bool l[i].li,.bool l[i].ru,x]] 1=true by simp[ER,Ap,jN,w9.ok],cT,W8 w9,cT];simp only[HA,Hz,Ha];rw[show AX 3 [W.agg [.bool l[i].li,.bool l[i].ru,x]]=true by simp[AX,W.isVal,W.jZ,w9.cell,W.cells],cT];simp only[JK,JF,Ji,Cp,DG,dN,BB,TQ,Ui,UK,IB,List.length_singleton,eJ,hH,gS,eV,eG (Nat.le_of_lt hi)];rw[show decide (0+1<=1)=true from rfl,cT,show (decide (i<=i)&&decide (i+1<=2147483648))=true by simp;omega,cT,eU,Nat.min_self,<-hvi,List.take_append_getElem hi]};{rw[dY,dV (dH _)]}};{simp only[A1,Bc,BB,Cp,DG,dN,Rx];rw[show A6 (.sl 3 vs false)=true by simp[A6,jN,hv.ok]];rfl}
 rw[U];rfl
def CN (c:Int):W:=if c=0 then .jK else .iface 86 (.agg [I c])
theorem errD_ok (c:Int):jN (CN c)=true:=by unfold CN;split<;>rfl
theorem Uh (c:Int):Ad (.bin .neq .iface true (.c (CN c)) (.c .jK))=some (.bool (decide (c≠0))):=by unfold CN;by_cases h:c=0<;>simp[h]<;>rfl
theorem TL (c:Int):Ax B0 .cl (.fn 26 []) [CN c]=some (I c):=by refine Bm (by simp[Ap,errD_ok]) ?_;rw[run26];unfold CN;by_cases h:c=0;{subst h;rfl};{simp only[h,iG];rfl}
def Dh (l:ju):jI:=l.headD A2
def Cz (li:Bool) (l:ju):Int :=
 if l.all jI.right=false then 114 else if l.any jI.li then 111 else if l.any (fun a=>a.ru != (Dh l).ru) then 102
 else if li=false/\l.length≠1 then 111 else if 200 < l.length then 113 else 0
def B7 (l:ju):jo:=l.flatMap jI.n
def EC (li ru:Bool) (l:ju):jI:=if Cz li l=0 then ⟨li,if l.length=0 then ru else (Dh l).ru,B7 l⟩ else A2
theorem QE (h:a.right=true):a.n.length<=200:=by
 unfold jI.right at h;simp only[dF] at h;cases hl:a.li with
 | true=>simpa[hl] using h.2
 | false=>simp[hl] at h;omega
theorem YB (h:∀ a∈l,a.right=true):(B7 l).length<=200*l.length:=by
 induction l with
 | nil=>simp[B7]
 | cons a l ih =>
  have U:=QE (h a d7);have O:=ih fun b hb=>h b (dZ _ hb);simp only[B7,fg,eA,eS] at O |-;omega
theorem Iu {l:List α} (h:i < l.length):l.take (i+1)=l.take i++[l[i]]:=(List.take_append_getElem h).symm
theorem Qz (h:i < l.length):B7 (l.take (i+1))=B7 (l.take i)++l[i].n:=by unfold B7;rw[Iu h,List.flatMap_append];simp only[fg,im,ft]
theorem Ja (h:i < l.length):(l.take (i+1)).any p=((l.take i).any p||p l[i]):=by rw[Iu h,List.any_append];simp only[List.any_cons,List.any_nil,g9]
theorem zaj (h:0 < l.length):Dh l=l[0]:=by
 cases l with
 | nil=>simp at h
 | cons a l=>rfl
theorem YX (h:i < l.length) (T:l[i].right=false):l.all jI.right=false:=by
 cases hq:l.all jI.right with
 | false=>rfl
 | true=>rw[d6.1 hq _ (eW h)] at T;cases T
theorem Zd (h:l.all jI.right=false):Cz li l=114/\EC li ru l=A2:=by
 have e:Cz li l=114:=by unfold Cz;rw[iJ h]
 exact⟨e,by unfold EC;rw[e];rfl⟩
theorem UA (h:Cz li l≠0):EC li ru l=A2:=by unfold EC;rw[iI h]
theorem YE (b c:Bool):Ad (.build [.bool false,.bool false,.jD] [(0,(1,.c (.bool b))),(1,(1,.c (.bool c)))])=some (.agg [.bool b,.bool c,.jD]):=rfl
theorem U1 (b c:Bool):Aw (.agg [.bool b,.bool c,.jD]) 3=true:=rfl
theorem Jk:Ad (.build [.bool false,.bool false,.jD] [])=some (.agg [.bool false,.bool false,.jD]):=rfl
theorem Ru (c:Int):Ad (.build [.int .i64 0] [(0,(1,.c (.int .i64 c)))])=some (.agg [I c]):=rfl
theorem VT {u:W} (hv:Az v is) (hu:v8 u l) (hl:l.length<=1000000) (hs:∀ a∈l,a.n.length<=1000000) :
  ∃ w,Bd B0 .cl false 54 [v,u]=some (.jE [w,CN (Cz is.li l)])/\Az w (EC is.li is.ru l):=by
 obtain⟨x,rfl,A⟩:=hv.get
 suffices key:∃ r,AH (AD B0 fun _=>.cl) fn54 (.cl) AI 0 [.cv (.agg [.bool is.li,.bool is.ru,x]),.cv u] ()=some r/\∃ w,r=(.jE [w,CN (Cz is.li l)],())/\Az w (EC is.li is.ru l) by
  obtain⟨r,U,w,rfl,O⟩:=key;exact⟨w,PU (CD fun _=>.cl) (fn:=fn54) rfl (by simp[Ap,jN,hv.ok,hu.ok,A.ok]) (dS rfl) U (by rw[show GI A9 54=true from rfl,dK,gM]),O⟩
 rw[run54];unfold wc we wf wh wi wj wo wv;rw[JL A,cT];simp only[BT,BG,H6,GN,bV,YE,U1,cT,hu.len,HA,Hz,Ha];unfold CU;dsimp only
 rw[show AY [u,.bool false,.bool false,u,I l.length,.int .i64 0]=true by simp only[AY,e9,hu.qZ];rfl,cT];have hI:∀ i (hi:i < l.length),∃ y,Ad (.jJ 3 (.c u) (.c (I i)))=some (.ptr [.bool l[i].li,.bool l[i].ru,y] 0)/\Bh y l[i].n:=fun i hi=>hu.idx hi;refine OB (α:=Unit) (fun i _=>(([u,.bool ((l.take i).any jI.li),.bool ((l.take i).any fun a=>a.ru != (Dh l).ru),u,I l.length,I i,.agg [.bool is.li,.bool is.ru,x],.bool false,.bool false,.jD,.bool is.li,.bool (if i=0 then is.ru else (Dh l).ru),nI (B7 (l.take i)).length,.sl 1 (An (B7 (l.take i))) false],()):jh×Unit)) l.length (fun i _=>∀ a∈l.take i,a.right=true) _ ?_ ?_ (by simp) (a0:=())
 ·intro i _ hi hp;obtain⟨y,U,O⟩:=hI i hi;obtain⟨y0,h3,h4⟩:=hI 0 (by omega);have hR:=MB (.mk _ _ _ _ O:Az (.agg [.bool l[i].li,.bool l[i].ru,y]) l[i]) (hs _ (eW hi));have k8:=YB hp;have k8:(B7 (l.take i)).length<=200*i:=by simpa[eG (Nat.le_of_lt hi)] using k8
  have e0:l[0].ru=(Dh l).ru:=by rw[zaj (by omega)]
  simp only[AW,AV,A1,Bc,BD,Cd,AS,bV,Am];rw[iJ (by simpa using hi),U];rw[show Ad (.jJ 3 (.c u) (.c (.int .i64 0)))=_ from h3];simp only[bV,show ∀ a b c:W,Ad (.load 3 true (.c (.ptr [a,b,c] 0)))=some (.agg [a,b,c]) from fun _ _ _=>rfl,W8 O,cT,HA,Hz,Ha,hR,BH,Am];cases T:l[i].right with
  | false =>
   right;simp only[d8,iH];obtain⟨g1,g2⟩:=Zd (li:=is.li) (ru:=is.ru) (YX hi T);rw[Ru,bV];exact⟨_,rfl,_,by rw[g1];rfl,by rw[g2];exact Bk⟩
  | true =>
   left;refine⟨(),?_,?_⟩
   ·have hn:=QE T;simp only[dK,dE,iG,RY,bV,RJ,zai,UJ,cT,Hy,O.elems,BN,iD,Cs (by omega:i < 9223372036854775807)];have hw:Bb (Ay (Aj (J [u,.bool ((l.take i).any jI.li),.bool ((l.take i).any fun a=>a.ru != (Dh l).ru),u,I l.length,I i,.agg [.bool is.li,.bool is.ru,x],.bool false,.bool false,.jD,.bool is.li,.bool (if i=0 then is.ru else (Dh l).ru),nI (B7 (l.take i)).length,.sl 1 (An (B7 (l.take i))) false] 12)) (Ah (Ao (J [u,.bool ((l.take i).any jI.li),.bool ((l.take i).any fun a=>a.ru != (Dh l).ru),u,I l.length,I i,.agg [.bool is.li,.bool is.ru,x],.bool false,.bool false,.jD,.bool is.li,.bool (if i=0 then is.ru else (Dh l).ru),nI (B7 (l.take i)).length,.sl 1 (An (B7 (l.take i))) false] 13)))) (Ay (As (Aj (J [u,.bool ((l.take i).any jI.li),.bool ((l.take i).any fun a=>a.ru != (Dh l).ru),u,I l.length,I i,.agg [.bool is.li,.bool is.ru,x],.bool false,.bool false,.jD,.bool is.li,.bool (if i=0 then is.ru else (Dh l).ru),nI (B7 (l.take i)).length,.sl 1 (An (B7 (l.take i))) false] 12)) (Ah (An l[i].n))) 2147483648)=true:=by show Bb (Ay (Aj (nI (B7 (l.take i)).length)) (An (B7 (l.take i))).length) (Ay (As (Aj (nI (B7 (l.take i)).length)) (An l[i].n).length) 2147483648)=true;simp only[Cp,DG,dN,Ji,IB,JK,BA,iK,dF];omega
    rw[hw];have e1:nI (As (Aj (nI (B7 (l.take i)).length)) (Ah (An l[i].n)))=nI (B7 (l.take (i+1))).length:=by rw[Qz hi];simp[BA]
    have e2:(W.sl 1 (A5 (Aq (Aj (nI (B7 (l.take i)).length)) (An (B7 (l.take i)))) (An l[i].n)) false)=.sl 1 (An (B7 (l.take (i+1)))) false:=by rw[Qz hi];simp[Ln,Uc]
    have e3:(if i+1=0 then is.ru else (Dh l).ru)=(Dh l).ru:=iI (by omega)
    have fin:∀ b c:Bool,b=(l.take (i+1)).any jI.li->c=((l.take (i+1)).any fun a=>a.ru != (Dh l).ru) ->
      (some (Sum.inl (([u,.bool b,.bool c,u,I l.length,I ((i+1:Nat):Int),.agg [.bool is.li,.bool is.ru,x],.bool false,.bool false,.jD,.bool is.li,.bool l[0].ru,nI (As (Aj (nI (B7 (l.take i)).length)) (Ah (An l[i].n))),.sl 1 (A5 (Aq (Aj (nI (B7 (l.take i)).length)) (An (B7 (l.take i)))) (An l[i].n)) false],()):jh×Unit)):Option (Sum (jh×Unit) (W×Unit))) =
      some (Sum.inl ([u,.bool ((l.take (i+1)).any jI.li),.bool ((l.take (i+1)).any fun a=>a.ru != (Dh l).ru),u,I l.length,I ((i+1:Nat):Int),.agg [.bool is.li,.bool is.ru,x],.bool false,.bool false,.jD,.bool is.li,.bool (if i+1=0 then is.ru else (Dh l).ru),nI (B7 (l.take (i+1))).length,.sl 1 (An (B7 (l.take (i+1)))) false],())):=by
     intro b c hb hc;rw[e1,e2,e3,e0,hb,hc]
    simp only[cT]
    cases hb:(l.take i).any jI.li<;>cases hc:(l.take i).any (fun a=>a.ru != (Dh l).ru) <;>
     simp only[iH,iG,dE]
    {exact fin _ _ (by rw[Ja hi,hb];rfl) (by rw[Ja hi,hc,<-e0];rfl)};{exact fin _ _ (by rw[Ja hi,hb];rfl) (by rw[Ja hi,hc];rfl)};{exact fin _ _ (by rw[Ja hi,hb];rfl) (by rw[Ja hi,hc,<-e0];rfl)};{exact fin _ _ (by rw[Ja hi,hb];rfl) (by rw[Ja hi,hc];rfl)}
   {intro a ha;rw[Iu hi] at ha;rcases dX.1 ha with h | h;{exact hp a h};{rw[ep.1 h];exact T}}
 ·intro _ hp;rw[dV (dH _)] at hp |-;have kE:l.all jI.right=true:=d6.2 hp;simp only[AW,AV,A1,Bc,BD,Cd,B9,AS,bV,Am,gE,iN,dE,iG,Jk,Ru,U1,cT,BT,BG,H6,BH,hu.len,iD,Cf,CT,HA,Hz,Ha];have hA:¬ l.all jI.right=false:=by rw[kE];simp
  have bad:∀ {c:Int},Cz is.li l=c->c≠0->CN (Cz is.li l)=.iface 86 (.agg [I c])/\EC is.li is.ru l=A2:=fun {c} h h0=>⟨by rw[h];exact iI h0,UA (by rw[h];exact h0)⟩;simp only[HH,JN,LO,LN,Cp,DG,Cl,BB,iD,dN,slO_1];cases U:l.any jI.li with
  | true =>
   obtain⟨b1,b2⟩:=bad (c:=111) (by unfold Cz;rw[iI hA,iJ U]) (by decide);exact⟨_,rfl,_,by rw[b1];rfl,by rw[b2];exact Bk⟩
  | false =>
   have n1:¬ l.any jI.li=true:=by rw[U];simp
   cases O:l.any (fun a=>a.ru != (Dh l).ru) with
   | true =>
    obtain⟨b1,b2⟩:=bad (c:=102) (by unfold Cz;rw[iI hA,iI n1,iJ O]) (by decide);exact⟨_,rfl,_,by rw[b1];rfl,by rw[b2];exact Bk⟩
   | false =>
    have n2:¬ (l.any fun a=>a.ru != (Dh l).ru)=true:=by rw[O];simp
    by_cases h3:is.li=false/\l.length≠1
    ·have e5:((l.length:Int) != 1)=true:=by have:=h3.2;simp;omega
     obtain⟨b1,b2⟩:=bad (c:=111) (by unfold Cz;rw[iI hA,iI n1,iI n2,iJ h3]) (by decide);rw[h3.1] at b1 b2 |-;rw[e5];exact⟨_,rfl,_,by rw[b1];rfl,by rw[b2];exact Bk⟩
    ·have e5:(if (!is.li)=true then some (W.bool ((l.length:Int) != 1)) else some (.bool false))=some (.bool false):=by
      cases hq:is.li with
      | true=>rfl
      | false =>
       have:l.length=1:=by rw[hq] at h3;by_cases hz:l.length=1;{exact hz};{exact iW ⟨rfl,hz⟩ h3}
       simp[this]
     rw[e5];by_cases h4:200 < l.length;{obtain⟨b1,b2⟩:=bad (c:=113) (by unfold Cz;rw[iI hA,iI n1,iI n2,iI h3,iJ h4]) (by decide);rw[iR (by omega:(200:Int) < (l.length:Int))];exact⟨_,rfl,_,by rw[b1];rfl,by rw[b2];exact Bk⟩}
     ·have hE:Cz is.li l=0:=by unfold Cz;rw[iI hA,iI n1,iI n2,iI h3,iI h4]
      rw[iT (by omega:¬ (200:Int) < (l.length:Int)),hE,show EC is.li is.ru l=⟨is.li,if l.length=0 then is.ru else (Dh l).ru,B7 l⟩ from iJ hE,
       show A6 (.jE [.agg [.bool is.li,.bool (if l.length=0 then is.ru else (Dh l).ru),.sl 1 (An (B7 l)) false],.jK])=true by simp[A6,jN,Ap,E8]]
      exact⟨_,rfl,_,rfl,.mk _ _ _ _ (.sl _ _)⟩
end Go.Ab.jF


namespace Go.Ab.jF
open Go Go.Ab
variable{a:jI} {v:W}
theorem BF (h:Az v a):AZ v=true:=by obtain⟨x,rfl,A⟩:=h.get;rw[DS,Cg rfl rfl A.cell]
theorem Cj (h:Az v a):A3 v 0 3 true=some v:=by obtain⟨x,rfl,A⟩:=h.get;rfl
theorem Cq (h:Az v a):Aw v 3=true:=by obtain⟨x,rfl,A⟩:=h.get;exact Jz (Cg rfl rfl A.cell)
theorem Ct (h:Az v a):W.agg [Af v 0,Af v 1,Af v 2]=v:=by obtain⟨x,rfl,A⟩:=h.get;rfl
end Go.Ab.jF


namespace Go.Ab.jF
open Go Go.Ab
variable{E:Type} {a b:jI} {i:Nat} {l:ju} {v x y:W} {vs:jh}
def Dr (c:Int):W:=if c=0 then .jK else .iface 200 (.agg [I c])
theorem zak:Dr 0=.jK:=rfl
theorem UD (c:Int):jN (Dr c)=true:=by unfold Dr;split<;>rfl
theorem uZ (c:Int):(Dr c).free=true:=by unfold Dr;split<;>rfl
theorem FI (c:Int):Ad (.bin .neq .iface true (.c (Dr c)) (.c .jK))=some (.bool (decide (c≠0))):=by unfold Dr;by_cases h:c=0;{simp only[h,iH];rfl};{rw[iI h,show decide (c≠0)=true by simp[h]];rfl}
def C8:W:=.agg [.bool false,.bool false,.jD]
theorem Ov (c:Int):Ax B0 .cl (.fn 110 []) [Dr c]=some (I c):=by refine Bm (by simp[Ap,UD]) ?_;rw[run110];unfold Dr;by_cases h:c=0;{subst h;rfl};{simp only[h,iG];rfl}
theorem VE (h:EE vs l) (hl:l.length<=1000000) (hs:∀ a∈l,a.n.length<=1000000):Bd B0 .cl true 109 [.sl 3 vs false]=some (Dr (if l.all jI.right then 0 else 114)):=by
 refine RI (d:=fun _=>.cl) rfl (by simp[Ap,jN,h.ok]) rfl ?_ (by rw[uZ];rfl);rw[dI,dW,run109];unfold wc wi wj wo wv;rw[G4,h.len];simp only[At];rw[show AY [.sl 3 vs false,.int .i64 ((l.length:Nat):Int),.int .i64 0]=true from rfl,AO]
 have key:∀ m i,i+m=l.length->Be (fun e=>Ac (Ad (.bin .lss .num false (.c (J e.1 2)) (.c (J e.1 1)))) fun f=>Ai f (Ac (Ad (.jJ 3 (.c (J e.1 0)) (.c (J e.1 2)))) fun f=>Ac (Ad (.load 3 true (.c f))) fun f=>Ae (Aw f 3) (Ac (Ax B0 .cl (.fn 24 []) [.agg [Af f 0,Af f 1,Af f 2]]) fun f=>Ac (Ad (.un .not (.c f))) fun f=>Ai f (Ac (Ad (.build [.int .i64 0] [(0,(1,.c (.int .i64 114)))])) fun f=>Ac (some (W.iface 200 f,e.2)) fun e=>some (.inr e)) (Ac (Ad (.bin .add .num true (.c (J e.1 2)) (.c (.int .i64 1)))) fun f=>some (.inl ([J e.1 0,J e.1 1,f],e.2))))) (Ac (some (W.jK,e.2)) fun e=>some (.inr e))) (([.sl 3 vs false,I l.length,I i],()):jh×Unit)=some (Dr (if (l.drop i).all jI.right then 0 else 114),()):=by
  intro m;induction m with
  | zero =>
   intro i hi;refine B3 ?_;have:i=l.length:=by omega
   subst this;simp[Dr]
  | succ m ih =>
   intro i hi;have jP:i < l.length:=by omega
   rw[GH jP];obtain⟨v,hv,ha⟩:=h.get i jP;have T:=MB ha (hs _ (eW jP));obtain⟨x,rfl,A⟩:=ha.get;cases hrt:(l[i]).right with
   | false =>
    refine B3 ?_;simp only[AW,AV,A1,AS,At,Am];rw[iJ (by simpa using jP),IL hv];simp only[At,IK,Jz (Cg (a:=.bool (l[i]).li) (b:=.bool (l[i]).ru) rfl rfl A.cell),AO,HA,Hz,Ha,T,BH,hrt,d8,Am,iH,Ru];rw[e9,hrt];rfl
   | true =>
    rw[DE (s':=([.sl 3 vs false,I l.length,I ((i+1:Nat):Int)],()))];{rw[ih (i+1) (by omega),e9,hrt,ez]};{simp only[AW,AV,A1,AS,At,Am];rw[iJ (by simpa using jP),IL hv];simp only[At,IK,Jz (Cg (a:=.bool (l[i]).li) (b:=.bool (l[i]).ru) rfl rfl A.cell),AO,HA,Hz,Ha,T,BH,hrt,dK,Am,iG,dE,Bg,BN,Cs (by omega:i < 9223372036854775807)]}
 have:=key l.length 0 (by omega);simpa[Bg] using this
def jI.sz (a b:jI):Int×Int:=if a.li&&(b.li&&decide (a.n.length≠b.n.length)) then (0,110) else if a.li then (a.n.length,0) else (b.n.length,0)
theorem size6 (A:Bh x a.n) (hy:Bh y b.n):Ax B0 .cl (.fn 111 []) [.agg [.bool a.li,.bool a.ru,x,.bool b.li,.bool b.ru,y]]=some (.jE [I (a.sz b).1,Dr (a.sz b).2]):=by
 have hv:(W.agg [.bool a.li,.bool a.ru,x,.bool b.li,.bool b.ru,y]).isVal=true:=by simp[W.isVal,W.jZ,A.cell,hy.cell]
 refine Bm (by simp[Ap,jN,A.ok,hy.ok]) ?_;rw[run111];unfold wc we wg wt;rw[DS,hv,AO]
 simp only[BT,BG,show Ci [W.bool a.li,.bool a.ru,x,.bool b.li,.bool b.ru,y] 0 1 false=some (.bool a.li) from rfl,show Ci [W.bool a.li,.bool a.ru,x,.bool b.li,.bool b.ru,y] 3 1 false=some (.bool b.li) from rfl,show Ci [W.bool a.li,.bool a.ru,x,.bool b.li,.bool b.ru,y] 2 1 false=some x from rfl,show Ci [W.bool a.li,.bool a.ru,x,.bool b.li,.bool b.ru,y] 5 1 false=some y from rfl,
  At,Am,A.len,hy.len,Cf,Ru]
 unfold jI.sz
 have e:((a.n.length:Int) != (b.n.length:Int))=decide (a.n.length≠b.n.length):=by
  by_cases h:a.n.length=b.n.length;{simp[h]}
  ·have:¬ (a.n.length:Int)=(b.n.length:Int):=by omega
   simp[h,this]
 rw[e];cases a.li<;>cases b.li<;>simp[Dr]<;>(try (by_cases h:a.n.length=b.n.length<;>simp[h,Dr]))<;>rfl
def jI.text (a:jI):Bool:=a.ru&&decide (0 < a.n.length)
theorem MK (h:Az v a):Ax B0 .cl (.fn 112 []) [v]=some (.bool a.text):=by
 obtain⟨x,rfl,A⟩:=h.get;refine Bm (by simp[Ap,h.ok]) ?_;rw[run112];unfold wc wf wg;rw[DS,Cg rfl rfl A.cell,AO];simp only[BT,BG,H6,GN,Gn,At,A.len,Am,Bg,CT];unfold jI.text;have e:decide ((0:Int) < (a.n.length:Int))=decide (0 < a.n.length):=by by_cases h:0 < a.n.length<;>simp[h]
 rw[e];cases a.ru<;>simp
def jI.at (a:jI) (i:Nat):Int:=if a.li then a.n.getD i 0 else a.n.getD 0 0
def jI.fits (a:jI) (i:Nat):Prop:=if a.li then i < a.n.length else 0 < a.n.length
theorem zal (h:Az v a) (hi:a.fits i):Ax B0 .cl (.fn 150 []) [v,I i]=some (I (a.at i)):=by
 obtain⟨x,rfl,A⟩:=h.get;refine Ce (by simp[Ap,h.ok]) ?_;rw[run150];unfold we wg wh wr;rw[DS,Cg rfl rfl A.cell,AO];simp only[BT,BG,H6,GN,Gn,At,Am];unfold jI.at
 unfold jI.fits at hi;cases mi:a.li with
 | true =>
  simp only[mi,iH] at hi;simp only[iH,A.idx hi,At,C0];rw[dO,dQ hi];rfl
 | false =>
  simp only[mi,dE,iG] at hi;simp only[dE,iG];rw[show (W.int .i64 0)=I ((0:Nat):Int) from rfl,A.idx hi];simp only[At,C0];rw[dO,dQ hi];rfl
def Dk (a b:jI) (i:Nat):Nat->List (Int×Int)
 | 0=>[]
 | m+1=>(a.at i,b.at i) :: Dk a b (i+1) m
def L9 (p:Int×Int):jh:=[I p.1,I p.2]
theorem zam (A:Bh x a.n) (hy:Bh y b.n) (n:Nat):Ax B0 .cl (.fn 113 []) [.agg [.bool a.li,.bool a.ru,x,.bool b.li,.bool b.ru,y],I n]=some (.fn 149 [.ptr [I n] 0,.ptr [.bool a.li,.bool a.ru,x,.bool b.li,.bool b.ru,y] 0]):=by
 have hv:(W.agg [.bool a.li,.bool a.ru,x,.bool b.li,.bool b.ru,y]).isVal=true:=by simp[W.isVal,W.jZ,A.cell,hy.cell]
 refine Ce (by simp[Ap,jN,A.ok,hy.ok]) ?_;rw[run113,DS,hv,AO,show AZ (I (n:Int))=true from rfl,AO]
 rw[show A6 (.fn 149 [GX (DK (I n)) 0,GX (DK (.agg [.bool a.li,.bool a.ru,x,.bool b.li,.bool b.ru,y])) 0])=true by
  show jN _=true;have:jN (W.fn 149 [.ptr [I n] 0,.ptr [.bool a.li,.bool a.ru,x,.bool b.li,.bool b.ru,y] 0])=true:=by simp[jN,Ap,A.ok,hy.ok]
  exact this]
 rfl
theorem W1 (h:AA E) (dep:Nat) (A:Bh x a.n) (hy:Bh y b.n) (n:Nat) (hn:n<=1000000) (hf:∀ i,i < n->a.fits i/\b.fits i) {e e':E}
  (hyy:Ep h dep ((Dk a b 0 n).map L9) e=some e'):DU B0 h dep (.fn 149 [.ptr [I n] 0,.ptr [.bool a.li,.bool a.ru,x,.bool b.li,.bool b.ru,y] 0]) e=some e':=by
 have hA:Az (.agg [.bool a.li,.bool a.ru,x]) a:=.mk _ _ _ _ A;have hB:Az (.agg [.bool b.li,.bool b.ru,y]) b:=.mk _ _ _ _ hy;refine PR (CD fun _=>.cl) (g:=149) (fn:=zE) rfl (by simp[Ap,jN,A.ok,hy.ok]) (dS rfl) (u:=.jE []) ?_;simp only[dI,dW];rw[run149];unfold wh wi wj wo wv;rw[Ll,Kp];simp only[At];rw[show AY [nI dep,.ptr [.bool a.li,.bool a.ru,x,.bool b.li,.bool b.ru,y] 0,I n,.int .i64 0]=true from rfl,AO]
 have key:∀ m i,i+m=n->∀ e e',Ep h dep ((Dk a b i m).map L9) e=some e'->Be (fun d=>Ac (Ad (.bin .lss .num false (.c (J d.1 3)) (.c (J d.1 2)))) fun f=>Ai f (Ac (Ad (.fieldAddr 0 (.c (J d.1 1)))) fun f=>Ac (Ad (.load 3 true (.c f))) fun f=>Ac (Ax B0 .cl (.fn 150 []) [f,J d.1 3]) fun f=>Ac (Ad (.fieldAddr 3 (.c (J d.1 1)))) fun j=>Ac (Ad (.load 3 true (.c j))) fun j=>Ac (Ax B0 .cl (.fn 150 []) [j,J d.1 3]) fun j=>Ac (h (Aj (J d.1 0)) [f,j] d.2) fun f=>Ac (Ad (.un .not (.c (.bool f.1)))) fun j=>Ai j (Ac (some (W.jE [],f.2)) fun d=>some (.inr d)) (Ac (Ad (.bin .add .num true (.c (J d.1 3)) (.c (.int .i64 1)))) fun j=>some (.inl ([nI (Aj (J d.1 0)),J d.1 1,J d.1 2,j],f.2)))) (Ac (some (W.jE [],d.2)) fun d=>some (.inr d))) (([nI dep,.ptr [.bool a.li,.bool a.ru,x,.bool b.li,.bool b.ru,y] 0,I n,I i],e):jh×E)=some (.jE [],e'):=by
  intro m;induction m with
  | zero =>
   intro i hi e e' hq;have:i=n:=by omega
   subst this;cases hq;refine B3 ?_;simp
  | succ m ih =>
   intro i hi e e' hq;have jP:i < n:=by omega
   obtain⟨f1,f2⟩:=hf i jP;have o1:=zal hA f1;have o2:=zal hB f2;have q0:Ad (.load 3 true (.c (.ptr [.bool a.li,.bool a.ru,x,.bool b.li,.bool b.ru,y] 0)))=some (.agg [.bool a.li,.bool a.ru,x]):=rfl;have q3:Ad (.load 3 true (.c (.ptr [.bool a.li,.bool a.ru,x,.bool b.li,.bool b.ru,y] 3)))=some (.agg [.bool b.li,.bool b.ru,y]):=rfl;have g0:Ad (.fieldAddr 0 (.c (.ptr [.bool a.li,.bool a.ru,x,.bool b.li,.bool b.ru,y] 0)))=some (.ptr [.bool a.li,.bool a.ru,x,.bool b.li,.bool b.ru,y] 0):=rfl;have g3:Ad (.fieldAddr 3 (.c (.ptr [.bool a.li,.bool a.ru,x,.bool b.li,.bool b.ru,y] 0)))=some (.ptr [.bool a.li,.bool a.ru,x,.bool b.li,.bool b.ru,y] 3):=rfl;unfold Dk at hq;simp only[dI,Ep,L9] at hq;split at hq;{rename_i e1 hh;rw[DE (s':=([nI dep,.ptr [.bool a.li,.bool a.ru,x,.bool b.li,.bool b.ru,y] 0,I n,I ((i+1:Nat):Int)],e1))];{exact ih (i+1) (by omega) _ _ hq};{simp only[AW,AV,A1,Bc,AS,At,Am];rw[iJ (by simpa using jP)];simp only[g0,g3,q0,q3,o1,o2,At,Cp,DG,Cl,dN,hh,BH,dK,Am,iG,dE,Bg,BN,Cs (by omega:i < 9223372036854775807)]}};{rename_i e1 hh;cases hq;refine B3 ?_;simp only[AW,AV,A1,Bc,AS,At,Am];rw[iJ (by simpa using jP)];simp only[g0,g3,q0,q3,o1,o2,At,Cp,DG,Cl,dN,hh,BH,d8,Am,iH]};{cases hq}
 have:=key n 0 (by omega) e e' hyy;simpa[Bg] using this
noncomputable def LZ:jh->jh->Unit->Option (Bool×Is Unit):=(fun a=>fun b=>fun d=>Ae (ER b 2) (Ac (Ai (J a 8) (Ac (A3 (J a 2) 1 1 false) fun b=>Ac (A3 (J a 3) 1 1 false) fun a=>Ac (Ad (.bin .neq .bool false (.c b) (.c a))) fun a=>some a) (some (.bool false))) fun e=>Ai e (Ac (A3 (J a 1) 0 1 false) fun b=>Ac (Ax B0 .cl (.fn 114 []) [b,.int .i64 0,.int .i64 1]) fun b=>Ac (Ad (.extract 0 (.c b))) fun e=>Ac (Ad (.extract 1 (.c b))) fun b=>Ac (Ad (.bin .neq .num true (.c b) (.c (.int .i64 0)))) fun f=>Ai f (Ac (Ad (.build [.bool false,.bool false,.jD] [])) fun e=>Ae (Aw e 3) (Ae (Aw b 1) (some (false,([J a 0,J a 1,J a 2,J a 3,Af e 0,Af e 1,Af e 2,Af b 0,J a 8,J a 9,J a 10,nI (Aj (J a 11)),.sl 1 (Ao (J a 12)) false],(some .ret,d)))))) (Ae (AX 1 [e]) (Ae (Ay (As 0 (Ah [e])) (Ah [e])) (Ae (Bb (Ay (Aj (J a 11)) (Ah (Ao (J a 12)))) (Ay (As (Aj (J a 11)) (Ah (Aq (Ah [e]) (AE 0 [e])))) 2147483648)) (some (true,([J a 0,J a 1,J a 2,J a 3,J a 4,J a 5,J a 6,J a 7,J a 8,J a 9,J a 10,nI (As (Aj (J a 11)) (Ah (Aq (Ah [e]) (AE 0 [e])))),.sl 1 (A5 (Aq (Aj (J a 11)) (Ao (J a 12))) (Aq (Ah [e]) (AE 0 [e]))) false],(none,d)))))))) (Ac (A3 (J a 1) 0 1 false) fun e=>Ac (Ax B0 .cl (.fn 114 []) [e,J b 0,J b 1]) fun b=>Ac (Ad (.extract 0 (.c b))) fun e=>Ac (Ad (.extract 1 (.c b))) fun b=>Ac (Ad (.bin .neq .num true (.c b) (.c (.int .i64 0)))) fun f=>Ai f (Ac (Ad (.build [.bool false,.bool false,.jD] [])) fun e=>Ae (Aw e 3) (Ae (Aw b 1) (some (false,([J a 0,J a 1,J a 2,J a 3,Af e 0,Af e 1,Af e 2,Af b 0,J a 8,J a 9,J a 10,nI (Aj (J a 11)),.sl 1 (Ao (J a 12)) false],(some .ret,d)))))) (Ae (AX 1 [e]) (Ae (Ay (As 0 (Ah [e])) (Ah [e])) (Ae (Bb (Ay (Aj (J a 11)) (Ah (Ao (J a 12)))) (Ay (As (Aj (J a 11)) (Ah (Aq (Ah [e]) (AE 0 [e])))) 2147483648)) (some (true,([J a 0,J a 1,J a 2,J a 3,J a 4,J a 5,J a 6,J a 7,J a 8,J a 9,J a 10,nI (As (Aj (J a 11)) (Ah (Aq (Ah [e]) (AE 0 [e])))),.sl 1 (A5 (Aq (Aj (J a 11)) (Ao (J a 12))) (Aq (Ah [e]) (AE 0 [e]))) false],(none,d))))))))))
def Dj (f:Int->Int->Int×NE):List (Int×Int)->Sum Int jo
 | []=>.inr []
 | p :: l=>if (f p.1 p.2).2.no≠0 then .inl (f p.1 p.2).2.no else match Dj f l with
  | .inl c=>.inl c
  | .inr r=>.inr ((f p.1 p.2).1 :: r)
def Cn (g:ji) (sub:Bool) (x y:Int):Int×NE:=if sub then Hr g 0 1 else Hr g x y
def Jq (z:W) (g:ji) (a b:jI) (x y:W) (eqv li:Bool) (w:jh) (k:Nat) (H:jh):jh :=
 [z,.str g,.agg [.bool a.li,.bool a.ru,x],.agg [.bool b.li,.bool b.ru,y]]++w++[.bool eqv,.bool li,.bool false,nI k,.sl 1 H false]
theorem Qi (n:Int):AX 1 [I n]=true:=rfl
theorem dj (z:W) (g:ji) (a b:jI) (x y:W) (eqv li:Bool) (c0 c1 c2 c3:W) (acc:jo) (tl:acc.length < 1000000) (p:Int×Int) :
  LZ (Jq z g a b x y eqv li [c0,c1,c2,c3] acc.length (An acc)) (L9 p) () =
   let r:=Cn g (eqv&&(a.ru != b.ru)) p.1 p.2
   if r.2.no≠0 then some (false,(Jq z g a b x y eqv li [.bool false,.bool false,.jD,I r.2.no] acc.length (An acc),(some .ret,())))
   else some (true,(Jq z g a b x y eqv li [c0,c1,c2,c3] (acc++[r.1]).length (An (acc++[r.1])),(none,()))):=by
 unfold LZ Jq;simp only[fW,eM,AW,AV,A1,Bc,BD,Cd,B9,Cm,CS,L9];rw[show ER [I p.1,I p.2] 2=true from rfl,AO]
 simp only[Am,BT,BG,XF,Kp,GN,At,Hy,rW,BS,dP,dR,Bg,Cf,Jk,AW,AV,
  show Aw (.agg [.bool false,.bool false,.jD]) 3=true from rfl,AO,HA,Hz,Ha,Qi]
 have hlen:∀ n,(decide (acc.length<=(An acc).length)&&decide (acc.length+((An acc).length - (An acc).length+1)<=n))=decide (acc.length+1<=n):=fun n=>by simp[BA]
 have fin:∀ r:Int×NE,(if (r.2.no != 0)=true then Ae (Aw (I r.2.no) 1) (some (false,([z,.str g,.agg [.bool a.li,.bool a.ru,x],.agg [.bool b.li,.bool b.ru,y],.bool false,.bool false,.jD,Af (I r.2.no) 0,.bool eqv,.bool li,.bool false,nI (Aj (J [z,.str g,.agg [.bool a.li,.bool a.ru,x],.agg [.bool b.li,.bool b.ru,y],c0,c1,c2,c3,.bool eqv,.bool li,.bool false,nI acc.length,.sl 1 (An acc) false] 11)),.sl 1 (Ao (J [z,.str g,.agg [.bool a.li,.bool a.ru,x],.agg [.bool b.li,.bool b.ru,y],c0,c1,c2,c3,.bool eqv,.bool li,.bool false,nI acc.length,.sl 1 (An acc) false] 12)) false],(some Ex.ret,()))))
   else Ae (Ay (As 0 (Ah [I r.1])) (Ah [I r.1])) (Ae (Bb (Ay (Aj (J [z,.str g,.agg [.bool a.li,.bool a.ru,x],.agg [.bool b.li,.bool b.ru,y],c0,c1,c2,c3,.bool eqv,.bool li,.bool false,nI acc.length,.sl 1 (An acc) false] 11)) (Ah (Ao (J [z,.str g,.agg [.bool a.li,.bool a.ru,x],.agg [.bool b.li,.bool b.ru,y],c0,c1,c2,c3,.bool eqv,.bool li,.bool false,nI acc.length,.sl 1 (An acc) false] 12)))) (Ay (As (Aj (J [z,.str g,.agg [.bool a.li,.bool a.ru,x],.agg [.bool b.li,.bool b.ru,y],c0,c1,c2,c3,.bool eqv,.bool li,.bool false,nI acc.length,.sl 1 (An acc) false] 11)) (Ah (Aq (Ah [I r.1]) (AE 0 [I r.1])))) 2147483648)) (some (true,([z,.str g,.agg [.bool a.li,.bool a.ru,x],.agg [.bool b.li,.bool b.ru,y],c0,c1,c2,c3,.bool eqv,.bool li,.bool false,nI (As (Aj (J [z,.str g,.agg [.bool a.li,.bool a.ru,x],.agg [.bool b.li,.bool b.ru,y],c0,c1,c2,c3,.bool eqv,.bool li,.bool false,nI acc.length,.sl 1 (An acc) false] 11)) (Ah (Aq (Ah [I r.1]) (AE 0 [I r.1])))),.sl 1 (A5 (Aq (Aj (J [z,.str g,.agg [.bool a.li,.bool a.ru,x],.agg [.bool b.li,.bool b.ru,y],c0,c1,c2,c3,.bool eqv,.bool li,.bool false,nI acc.length,.sl 1 (An acc) false] 11)) (Ao (J [z,.str g,.agg [.bool a.li,.bool a.ru,x],.agg [.bool b.li,.bool b.ru,y],c0,c1,c2,c3,.bool eqv,.bool li,.bool false,nI acc.length,.sl 1 (An acc) false] 12))) (Aq (Ah [I r.1]) (AE 0 [I r.1]))) false],((none:Option Ex),())))))) =
   (if r.2.no≠0 then some (false,([z,.str g,.agg [.bool a.li,.bool a.ru,x],.agg [.bool b.li,.bool b.ru,y],.bool false,.bool false,.jD,I r.2.no,.bool eqv,.bool li,.bool false,nI acc.length,.sl 1 (An acc) false],(some Ex.ret,())))
   else some (true,([z,.str g,.agg [.bool a.li,.bool a.ru,x],.agg [.bool b.li,.bool b.ru,y],c0,c1,c2,c3,.bool eqv,.bool li,.bool false,nI (acc++[r.1]).length,.sl 1 (An (acc++[r.1])) false],(none,())))):=by
  intro r;by_cases h:r.2.no=0
  ·rw[iI (by simp[h]),iI (by simp[h])];show Ae (Ay (0+1) 1) (Ae (Bb (Ay (Aj (nI acc.length)) (An acc).length) (Ay (Aj (nI acc.length)+1) 2147483648)) (some (true,(_,(none,())))))=_;simp only[Ji,IB,Cp,DG,dN,BA];rw[show (decide (0+1<=1))=true from rfl,AO,show (decide (acc.length<=acc.length)&&decide (acc.length+1<=2147483648))=true by simp;omega,AO];have e1:Aj (nI acc.length)=acc.length:=by simp
   show some (true,([z,.str g,.agg [.bool a.li,.bool a.ru,x],.agg [.bool b.li,.bool b.ru,y],c0,c1,c2,c3,.bool eqv,.bool li,.bool false,nI (Aj (nI acc.length)+1),.sl 1 ((An acc).take (Aj (nI acc.length))++[I r.1]) false],((none:Option Ex),())))=_;rw[e1,dV (by rw[BA];exact dH _),eA,show An (acc++[r.1])=An acc++[I r.1] by simp[An]];rfl
  {rw[iJ (by simp[h]),iJ h];rfl}
 unfold Cn;cases eqv with
 | false =>
  simp only[dE,iG,fi];exact fin _
 | true =>
  simp only[iH,ez];have e:(!(a.ru==b.ru))=(a.ru != b.ru):=rfl;rw[e];cases a.ru != b.ru with
  | false =>
   simp only[dE,iG];exact fin _
  | true =>
   simp only[iH];exact fin _
theorem aB (body:jh->jh->Unit->Option (Bool×Is Unit)) (vs args:jh):EI 0 AI body 0 args (vs,(none,()))=body vs args ():=rfl
theorem u0 (z:W) (g:ji) (a b:jI) (x y:W) (eqv li:Bool) (c0 c1 c2 c3:W):∀ (ps:List (Int×Int)) (acc:jo),acc.length+ps.length < 1000000 ->
  match Dj (Cn g (eqv&&(a.ru != b.ru))) ps with
  | .inl c=>∃ k H,Ep (EI 0 AI LZ) 0 (ps.map L9) (Jq z g a b x y eqv li [c0,c1,c2,c3] acc.length (An acc),(none,()))=some (Jq z g a b x y eqv li [.bool false,.bool false,.jD,I c] k H,(some .ret,()))
  | .inr r=>Ep (EI 0 AI LZ) 0 (ps.map L9) (Jq z g a b x y eqv li [c0,c1,c2,c3] acc.length (An acc),(none,()))=some (Jq z g a b x y eqv li [c0,c1,c2,c3] (acc++r).length (An (acc++r)),(none,())):=by
 intro ps;induction ps with
 | nil=>intro acc _;simp[Dj,Ep]
 | cons p ps ih =>
  intro acc hl;simp only[eS] at hl;have hb:=dj z g a b x y eqv li c0 c1 c2 c3 acc (by omega) p;simp only at hb;unfold Dj;simp only[dI,Ep,aB];rw[hb];by_cases h:(Cn g (eqv&&(a.ru != b.ru)) p.1 p.2).2.no=0
  ·simp only[h,iX,iQ,iG];have hi:=ih (acc++[(Cn g (eqv&&(a.ru != b.ru)) p.1 p.2).1]) (by simp;omega);cases hd:Dj (Cn g (eqv&&(a.ru != b.ru))) ps with
   | inl c =>
    rw[hd] at hi;exact hi
   | inr r =>
    rw[hd] at hi;simp only at hi |-;rw[hi];simp
  {simp only[h,iX,iV,iH];exact⟨_,_,rfl⟩}
theorem dyTail (A:Bh x a.n) (hy:Bh y b.n) (g:ji) (eqv li:Bool) (n:Nat) (hn:n < 1000000) (hf:∀ i,i < n->a.fits i/\b.fits i) :
  (Ac (Ax B0 .cl (.fn 113 []) [.agg [.bool a.li,.bool a.ru,x,.bool b.li,.bool b.ru,y],I n]) fun d=>CU (.jD) (Ac (DU B0 (EI 0 AI LZ) 0 d ([d,.str g,.agg [.bool a.li,.bool a.ru,x],.agg [.bool b.li,.bool b.ru,y],.bool false,.bool false,.jD,.int .i64 0,.bool eqv,.bool li,.bool false,nI 0,.sl 1 [] false],(none,()))) fun d=>CJ (He d.2.1) (Ae (Aw (.int .i64 0) 1) (Ae (A6 (W.jE [.agg [J d.1 9,J d.1 10,AB 1 1 (Ao (J d.1 12)) 0 (Aj (J d.1 11))],Af (.int .i64 0) 0])) (some (W.jE [.agg [J d.1 9,J d.1 10,AB 1 1 (Ao (J d.1 12)) 0 (Aj (J d.1 11))],Af (.int .i64 0) 0],d.2.2)))) (CJ (HK d.2.1) (some (W.jE [.agg [J d.1 4,J d.1 5,J d.1 6],J d.1 7],d.2.2)) none))) =
   match Dj (Cn g (eqv&&(a.ru != b.ru))) (Dk a b 0 n) with
   | .inl c=>some (W.jE [C8,I c],())
   | .inr r=>some (W.jE [.agg [.bool li,.bool false,.sl 1 (An r) false],I 0],()):=by
 rw[zam A hy n];simp only[At]
 have hlen:(Dk a b 0 n).length=n:=by
  have:∀ m i,(Dk a b i m).length=m:=by
   intro m;induction m with
   | zero=>intro i;rfl
   | succ m ih=>intro i;simp[Dk,ih]
  exact this n 0
 have kE:=u0 (.fn 149 [.ptr [I n] 0,.ptr [.bool a.li,.bool a.ru,x,.bool b.li,.bool b.ru,y] 0]) g a b x y eqv li (.bool false) (.bool false) .jD (.int .i64 0) (Dk a b 0 n) [] (by simp[hlen];omega);unfold CU;dsimp only
 cases hd:Dj (Cn g (eqv&&(a.ru != b.ru))) (Dk a b 0 n) with
 | inl c =>
  rw[hd] at kE;obtain⟨k,H,kE⟩:=kE;have T:=W1 (EI 0 AI LZ) 0 A hy n (by omega) hf kE;unfold Jq at T;simp only[fW,eM,fF,show An []=[] from rfl] at T;rw[T];rfl
 | inr r =>
  rw[hd] at kE;simp only[eM] at kE;have T:=W1 (EI 0 AI LZ) 0 A hy n (by omega) hf kE;unfold Jq at T;simp only[fW,eM,fF,show An []=[] from rfl] at T;rw[T];have es:AB 1 1 (An r) 0 r.length=.sl 1 (An r) false:=by unfold AB;rw[iJ ⟨rfl,by rw[BA];omega⟩,eJ,dV (by rw[BA];exact dH _)]
  simp only[At];show Ae (Aw (.int .i64 0) 1) (Ae (A6 (W.jE [.agg [.bool li,.bool false,AB 1 1 (An r) 0 (Aj (nI r.length))],Af (.int .i64 0) 0])) (some (W.jE [.agg [.bool li,.bool false,AB 1 1 (An r) 0 (Aj (nI r.length))],Af (.int .i64 0) 0],())))=_
  rw[Cp,DG,dN,es,show Aw (.int .i64 0) 1=true from rfl,AO,show A6 (.jE [.agg [.bool li,.bool false,.sl 1 (An r) false],Af (.int .i64 0) 0])=true by
   show jN (.jE [.agg [.bool li,.bool false,.sl 1 (An r) false],I 0])=true;simp[jN,Ap,E8],AO]
  rfl
end Go.Ab.jF


namespace Go.Ab.jF
open Go Go.Ab
variable{a b:jI} {v x y:W}
theorem build6 (A:Bh x a.n) (hy:Bh y b.n) :
  Ad (.build [.bool false,.bool false,.jD,.bool false,.bool false,.jD] [(0,(3,.c (.agg [.bool a.li,.bool a.ru,x]))),(3,(3,.c (.agg [.bool b.li,.bool b.ru,y])))])=some (.agg [.bool a.li,.bool a.ru,x,.bool b.li,.bool b.ru,y]):=by
 simp[Ad,exec,ET,RX.ev,W.cells,Cg (a:=.bool a.li) (b:=.bool a.ru) rfl rfl A.cell,Cg (a:=.bool b.li) (b:=.bool b.ru) rfl rfl hy.cell,j0,AN]
theorem zan (A:Bh x a.n) (hy:Bh y b.n):Aw (.agg [.bool a.li,.bool a.ru,x,.bool b.li,.bool b.ru,y]) 6=true:=by simp[Aw,W.isVal,W.jZ,A.cell,hy.cell]
theorem Ri (A:Bh x a.n):AX 3 [.agg [.bool a.li,.bool a.ru,x]]=true:=by simp[AX,Cg (a:=.bool a.li) (b:=.bool a.ru) rfl rfl A.cell,W.cells]
theorem Ut (A:Bh x a.n) (hy:Bh y b.n):AX 3 [.agg [.bool a.li,.bool a.ru,x],.agg [.bool b.li,.bool b.ru,y]]=true:=by simp[AX,Cg (a:=.bool a.li) (b:=.bool a.ru) rfl rfl A.cell,Cg (a:=.bool b.li) (b:=.bool b.ru) rfl rfl hy.cell,W.cells]
def jI.isEq (g:ji):Bool:=(g==CY)||(g==Du)
def jI.dy (g:ji) (a b:jI):jI×Int :=
 if (a.right&&b.right)=false then (A2,114)
 else if CQ g=false then (A2,102)
 else if (a.sz b).2≠0 then (A2,(a.sz b).2)
 else if !jI.isEq g&&(a.text||b.text) then (A2,102)
 else match Dj (Cn g (jI.isEq g&&(a.ru != b.ru))) (Dk a b 0 (a.sz b).1.toNat) with
  | .inl c=>(A2,c)
  | .inr r=>(⟨a.li||b.li,false,r⟩,0)
theorem G3 (h:a.right=true):a.n.length<=200:=by
 unfold jI.right at h;simp only[dF] at h;cases hl:a.li with
 | true=>simpa[hl] using h.2
 | false=>simp[hl] at h;omega
theorem QR (ha:a.right=true) (hb:b.right=true) (hs:(a.sz b).2=0):(a.sz b).1=((a.sz b).1.toNat:Nat)/\(a.sz b).1.toNat<=200/\∀ i,i < (a.sz b).1.toNat->a.fits i/\b.fits i:=by
 have la:=G3 ha;have lb:=G3 hb;unfold jI.right at ha hb;simp only[dF] at ha hb;have U:=ha.2;have O:=hb.2;unfold jI.sz at hs |-;unfold jI.fits;cases hl:a.li<;>cases T:b.li<;>simp[hl,T] at U O hs |-;{refine⟨by omega,fun i hi=>by omega⟩};{refine⟨by omega,fun i hi=>by omega⟩};{refine⟨by omega,fun i hi=>by omega⟩}
 ·by_cases h:a.n.length=b.n.length
  {simp[h];omega};{simp[h] at hs}
set_option maxHeartbeats 2000000 in
theorem adyR {u:W} (hv:Az v a) (hu:Az u b) (rU:a.n.length<=1000000) (hlb:b.n.length<=1000000) (g:ji) :
  ∃ w,Ax B0 .cl (.fn 84 []) [.str g,v,u]=some (.jE [w,I (jI.dy g a b).2])/\Az w (jI.dy g a b).1:=by
 have ln:Ap [.str g,v,u]=true:=by simp[Ap,jN,hv.ok,hu.ok]
 have hri:=VE (.cons hv (.cons hu .nil)) (by simp) (by intro c hc;simp at hc;rcases hc with rfl | rfl<;>assumption);have tk:=MK hv;have hty:=MK hu;obtain⟨x,rfl,A⟩:=hv.get;obtain⟨y,rfl,hy⟩:=hu.get;have kS:=size6 A hy
 suffices key:∃ w,AH (AD B0 fun _=>.cl) fn84 (.cl) AI 0 [.cv (.str g),.cv (.agg [.bool a.li,.bool a.ru,x]),.cv (.agg [.bool b.li,.bool b.ru,y])] ()=some (.jE [w,I (jI.dy g a b).2],())/\Az w (jI.dy g a b).1 by
  obtain⟨w,U,O⟩:=key;exact⟨w,El ln U,O⟩
 rw[run84];unfold wa wb wd we wf wi wk wn ws wv;rw[show AZ (.str g)=true from rfl,AO,DS,DS,Cg rfl rfl A.cell,Cg rfl rfl hy.cell,AO,AO];simp only[BT,BG,ID,H6,GN,XF,Kp,At,build6 A hy,zan A hy,AO,Ut A hy];rw[show AB 3 3 [.agg [.bool a.li,.bool a.ru,x],.agg [.bool b.li,.bool b.ru,y]] 0 (Ah [.agg [.bool a.li,.bool a.ru,x],.agg [.bool b.li,.bool b.ru,y]])=.sl 3 [.agg [.bool a.li,.bool a.ru,x],.agg [.bool b.li,.bool b.ru,y]] false from rfl,hri];simp only[At,FI,Am,Jk,Ov,e9,List.all_nil,f9];unfold jI.dy;by_cases T:(a.right&&b.right)=true
 ·simp only[T,iH,iX,iQ,iN,dE,iG,Ub,At,BH,Am,gf];by_cases hd:CQ g=true
  ·simp only[hd,dK,dE,iG,gf];rw[show Ax B0 .cl (.fn 111 []) [.agg [Af (.agg [.bool a.li,.bool a.ru,x,.bool b.li,.bool b.ru,y]) 0,Af (.agg [.bool a.li,.bool a.ru,x,.bool b.li,.bool b.ru,y]) 1,Af (.agg [.bool a.li,.bool a.ru,x,.bool b.li,.bool b.ru,y]) 2,Af (.agg [.bool a.li,.bool a.ru,x,.bool b.li,.bool b.ru,y]) 3,Af (.agg [.bool a.li,.bool a.ru,x,.bool b.li,.bool b.ru,y]) 4,Af (.agg [.bool a.li,.bool a.ru,x,.bool b.li,.bool b.ru,y]) 5]]=some (.jE [I (a.sz b).1,Dr (a.sz b).2]) from kS];simp only[At,BS,dP,dR,I8,Am,FI,Ov];by_cases hs:(a.sz b).2=0
   ·simp only[dF] at T;obtain⟨z1,z2,z3⟩:=QR T.1 T.2 hs;rw[z1];generalize (a.sz b).1.toNat=n at z2 z3 |-;have tail:=fun eqv li=>dyTail A hy g eqv li n (by omega) z3
    have fin:∀ (eqv li:Bool),∃ w,(match Dj (Cn g (eqv&&(a.ru != b.ru))) (Dk a b 0 n) with
      | .inl c=>some (W.jE [C8,I c],())
      | .inr r=>some (W.jE [.agg [.bool li,.bool false,.sl 1 (An r) false],I 0],()))=some (W.jE [w,I (match Dj (Cn g (eqv&&(a.ru != b.ru))) (Dk a b 0 n) with
       | .inl c=>(A2,c)
       | .inr r=>((⟨li,false,r⟩:jI),0)).2],())/\Az w (match Dj (Cn g (eqv&&(a.ru != b.ru))) (Dk a b 0 n) with
       | .inl c=>(A2,c)
       | .inr r=>((⟨li,false,r⟩:jI),0)).1:=by
     intro eqv li;cases Dj (Cn g (eqv&&(a.ru != b.ru))) (Dk a b 0 n) with
     | inl c=>exact⟨_,rfl,Bk⟩
     | inr r=>exact⟨_,rfl,.mk _ _ _ _ (.sl _ _)⟩
    have bl:∀ li:Bool,Ad (.build [.bool false,.bool false,.jD] [(0,(1,.c (.bool li)))])=some (.agg [.bool li,.bool false,.jD]):=fun li=>rfl;have yC:∀ li:Bool,Aw (.agg [.bool li,.bool false,.jD]) 3=true:=fun li=>rfl;by_cases U:g=CY
    ·subst U;have q1:(CY==[61])=true:=rfl;have q2:jI.isEq CY=true:=rfl;simp only[q1,q2,hs,iX,iQ,iN,dE,iH,iG,bl,At,yC,AO,dK,fi,ez];cases mi:a.li with
     | true =>
      simp only[iH,fJ];obtain⟨w,f1,f2⟩:=fin true true;refine⟨w,eK (eK ?_ (tail true true)) f1,f2⟩;rw[mi];rfl
     | false =>
      simp only[iG,eQ,dE];obtain⟨w,f1,f2⟩:=fin true b.li;refine⟨w,eK (eK ?_ (tail true b.li)) f1,f2⟩;rw[mi];rfl
    ·have q1:(g==[61])=false:=by simpa[CY] using U
     simp only[q1,hs,iX,iQ,iN,dE,iH,iG,bl,At,yC,AO];rw[show Aw (.bool (g==[226,137,160])) 1=true from rfl,AO,show Af (.bool (g==[226,137,160])) 0=.bool (g==[226,137,160]) from rfl];have q2:jI.isEq g=(g==[226,137,160]):=by unfold jI.isEq;rw[show (g==CY)=false from q1,eQ];rfl
     rw[q2];simp only[BH,At,Am,tk,hty];cases O:(g==[226,137,160]) with
     | true =>
      simp only[dK,dE,iG,fi,ez];cases mi:a.li with
      | true =>
       simp only[iH,fJ];obtain⟨w,f1,f2⟩:=fin true true;refine⟨w,eK (eK ?_ (tail true true)) f1,f2⟩;rw[mi];rfl
      | false =>
       simp only[iG,eQ,dE];obtain⟨w,f1,f2⟩:=fin true b.li;refine⟨w,eK (eK ?_ (tail true b.li)) f1,f2⟩;rw[mi];rfl
     | false =>
      simp only[d8,iH,ez];cases ht1:a.text with
      | true=>simp only[iH,fJ];exact⟨_,rfl,Bk⟩
      | false =>
       cases ht2:b.text with
       | true=>simp only[iH,eQ,iG,dE];exact⟨_,rfl,Bk⟩
       | false =>
        simp only[iG,eQ,dE];cases mi:a.li with
        | true =>
         simp only[iH,fJ];obtain⟨w,f1,f2⟩:=fin false true;refine⟨w,eK (eK ?_ (tail false true)) f1,f2⟩;rw[mi];rfl
        | false =>
         simp only[iG,eQ,dE];obtain⟨w,f1,f2⟩:=fin false b.li;refine⟨w,eK (eK ?_ (tail false b.li)) f1,f2⟩;rw[mi];rfl
   ·simp only[hs,iX,iV,iM,iH];cases (g==[61]) with
    | true=>exact⟨C8,rfl,Bk⟩
    | false=>exact⟨C8,rfl,Bk⟩
  ·have oU:CQ g=false:=by simpa using hd
   simp only[oU,d8,iH];exact⟨C8,rfl,Bk⟩
 ·have oV:(a.right&&b.right)=false:=by simpa using T
  simp only[oV,dE,iG,iH];exact⟨C8,rfl,Bk⟩
def FS (f:Int->Int×NE):jo->Sum Int jo
 | []=>.inr []
 | x :: l=>if (f x).2.no≠0 then .inl (f x).2.no else match FS f l with
  | .inl c=>.inl c
  | .inr r=>.inr ((f x).1 :: r)
def jI.q7 (g:ji) (a:jI):jI×Int :=
 if a.right=false then (A2,114)
 else if D6 g=false then (A2,102)
 else if a.text then (A2,102)
 else match FS (CV g) a.n with
  | .inl c=>(A2,c)
  | .inr r=>(⟨a.li,false,r⟩,0)
theorem amonR (hv:Az v a) (rU:a.n.length<=1000000) (g:ji) :
  ∃ w,Ax B0 .cl (.fn 87 []) [.str g,v]=some (.jE [w,I (jI.q7 g a).2])/\Az w (jI.q7 g a).1:=by
 have ln:Ap [.str g,v]=true:=by simp[Ap,jN,hv.ok]
 have hri:=VE (.cons hv .nil) (by simp) (by intro c hc;simp at hc;rcases hc with rfl;assumption);have tk:=MK hv;obtain⟨x,rfl,A⟩:=hv.get
 suffices key:∃ w,AH (AD B0 fun _=>.cl) fn87 (.cl) AI 0 [.cv (.str g),.cv (.agg [.bool a.li,.bool a.ru,x])] ()=some (.jE [w,I (jI.q7 g a).2],())/\Az w (jI.q7 g a).1 by
  obtain⟨w,U,O⟩:=key;exact⟨w,El ln U,O⟩
 rw[run87];unfold wa wb wc wd we wg wh wi wj wk wn wo wr wv;rw[DS,Cg rfl rfl A.cell,AO];simp only[BT,BG,ID,H6,Gn,At,AO,Ri A];rw[show AB 3 3 [.agg [.bool a.li,.bool a.ru,x]] 0 (Ah [.agg [.bool a.li,.bool a.ru,x]])=.sl 3 [.agg [.bool a.li,.bool a.ru,x]] false from rfl,hri];simp only[At,FI,Am,Jk,Ov,e9,List.all_nil,f9];unfold jI.q7;by_cases T:a.right=true
 ·have hlen:=G3 T;simp only[T,iH,iX,iQ,iN,dE,iG,TB,At,BH,Am,gf];by_cases hd:D6 g=true
  ·simp only[hd,dK,dE,iG,gf,tk,At,Am];cases ht1:a.text with
   | true=>simp only[iH];exact⟨_,rfl,Bk⟩
   | false =>
    simp only[dE,iG];rw[show Ad (.build [.bool false,.bool false,.jD] [(0,(1,.c (.bool a.li)))])=some (.agg [.bool a.li,.bool false,.jD]) from rfl];simp only[At,A.len];rw[show Aw (.agg [.bool a.li,.bool false,.jD]) 3=true from rfl,AO];unfold CU;dsimp only [Ha];rw[show AY [.str g,x,I a.n.length,.int .i64 0]=true by simp only[AY,e9,A.qZ];rfl,AO]
    have key:∀ (m i:Nat) (acc:jo),i+m=a.n.length->acc.length=i->∃ w,Be (fun b=>Ac (Ad (.bin .lss .num false (.c (J b.1 3)) (.c (J b.1 2)))) fun d=>Ai d (Ac (Ad (.jJ 1 (.c (J b.1 1)) (.c (J b.1 3)))) fun d=>Ac (Ad (.load 1 false (.c d))) fun d=>Ac (Ax B0 .cl (.fn 119 []) [J b.1 0,d]) fun d=>Ac (Ad (.extract 0 (.c d))) fun e=>Ac (Ad (.extract 1 (.c d))) fun d=>Ac (Ad (.bin .neq .num true (.c d) (.c (.int .i64 0)))) fun f=>Ai f (Ac (Ad (.build [.bool false,.bool false,.jD] [])) fun e=>Ae (Aw e 3) (Ac (some (W.jE [.agg [Af e 0,Af e 1,Af e 2],d],b.2)) fun b=>some (.inr b))) (Ae (AX 1 [e]) (Ae (Ay (As 0 (Ah [e])) (Ah [e])) (Ae (Bb (Ay (Aj (J b.1 9)) (Ah (Ao (J b.1 10)))) (Ay (As (Aj (J b.1 9)) (Ah (Aq (Ah [e]) (AE 0 [e])))) 2147483648)) (Ac (Ad (.bin .add .num true (.c (J b.1 3)) (.c (.int .i64 1)))) fun d=>some (.inl ([J b.1 0,J b.1 1,J b.1 2,d,J b.1 4,J b.1 5,J b.1 6,J b.1 7,J b.1 8,nI (As (Aj (J b.1 9)) (Ah (Aq (Ah [e]) (AE 0 [e])))),.sl 1 (A5 (Aq (Aj (J b.1 9)) (Ao (J b.1 10))) (Aq (Ah [e]) (AE 0 [e]))) false],b.2))))))) (Ac (Ae (A6 (W.jE [.agg [J b.1 7,J b.1 8,AB 1 1 (Ao (J b.1 10)) 0 (Aj (J b.1 9))],.int .i64 0])) (some (W.jE [.agg [J b.1 7,J b.1 8,AB 1 1 (Ao (J b.1 10)) 0 (Aj (J b.1 9))],.int .i64 0],b.2))) fun b=>some (.inr b))) (([.str g,x,I a.n.length,I i,.bool false,.bool false,.jD,.bool a.li,.bool false,nI acc.length,.sl 1 (An acc) false],()):jh×Unit) =
      some (.jE [w,I (match FS (CV g) (a.n.drop i) with | .inl c=>(A2,c) | .inr r=>((⟨a.li,false,acc++r⟩:jI),0)).2],())/\Az w (match FS (CV g) (a.n.drop i) with | .inl c=>(A2,c) | .inr r=>((⟨a.li,false,acc++r⟩:jI),0)).1:=by
     intro m;induction m with
     | zero =>
      intro i acc hi ha;have hd0:a.n.drop i=[]:=eP (by omega);rw[hd0];have es:AB 1 1 (An acc) 0 (Aj (nI acc.length))=.sl 1 (An acc) false:=by rw[Cp,DG,dN];unfold AB;rw[iJ ⟨rfl,by rw[BA];omega⟩,eJ,dV (by rw[BA];exact dH _)]
      refine⟨.agg [.bool a.li,.bool false,.sl 1 (An acc) false],B3 ?_,?_⟩
      ·have jP:¬ ((i:Int) < (a.n.length:Int)):=by omega
       simp only[A1,Bc,AS,At,Am,jP,iN,dE,iG];show Ac (Ae (A6 (W.jE [.agg [.bool a.li,.bool false,AB 1 1 (An acc) 0 (Aj (nI acc.length))],.int .i64 0])) (some (W.jE [.agg [.bool a.li,.bool false,AB 1 1 (An acc) 0 (Aj (nI acc.length))],.int .i64 0],()))) (fun b=>some (Sum.inr b))=_
       rw[es,show A6 (W.jE [.agg [.bool a.li,.bool false,.sl 1 (An acc) false],.int .i64 0])=true by
        show jN _=true;simp[jN,Ap,E8],AO]
       rfl
      {simp only[FS,ft];exact .mk _ _ _ _ (.sl _ _)}
     | succ m ih =>
      intro i acc hi ha;have jP:i < a.n.length:=by omega
      have lf:(i:Int) < (a.n.length:Int):=by omega
      rw[GH jP];unfold FS;by_cases ny:(CV g a.n[i]).2.no=0
      ·simp only[ny,iX,iQ,iG];rw[DE (s':=([.str g,x,I a.n.length,I ((i+1:Nat):Int),.bool false,.bool false,.jD,.bool a.li,.bool false,nI (acc++[(CV g a.n[i]).1]).length,.sl 1 (An (acc++[(CV g a.n[i]).1])) false],()))]
       ·obtain⟨w,U,O⟩:=ih (i+1) (acc++[(CV g a.n[i]).1]) (by omega) (by simp[ha]);cases hm:FS (CV g) (a.n.drop (i+1)) with
        | inl c=>rw[hm] at U O;exact⟨w,U,O⟩
        | inr r =>
         rw[hm] at U O;simp only[eL,fW,eM] at U O;exact⟨w,U,O⟩
       ·simp only[AW,AV,A1,Bc,BD,Cd,B9,Cm,CS,AS,At,Am,lf,iM,iH,A.idx jP,C0,o6,BS,dP,dR,Bg,Cf,ny,bne_self_eq_false,dE,iG,Qi,AO];show Ae (Ay (0+1) 1) (Ae (Bb (Ay (Aj (nI acc.length)) (An acc).length) (Ay (Aj (nI acc.length)+1) 2147483648)) _)=_;have e1:Aj (nI acc.length)=acc.length:=by simp
        simp only[Ji,IB,e1,BA];rw[show (decide (0+1<=1))=true from rfl,AO,show (decide (acc.length<=acc.length)&&decide (acc.length+1<=2147483648))=true by simp;omega,AO];simp only[BN,At,Cs (by omega:i < 9223372036854775807)];show some (Sum.inl ([.str g,x,I a.n.length,I ((i+1:Nat):Int),.bool false,.bool false,.jD,.bool a.li,.bool false,nI (Aj (nI acc.length)+1),.sl 1 ((An acc).take (Aj (nI acc.length))++[I (CV g a.n[i]).1]) false],()))=_;rw[e1,dV (by rw[BA];exact dH _),eA,show An (acc++[(CV g a.n[i]).1])=An acc++[I (CV g a.n[i]).1] by simp[An]];rfl
      ·simp only[ny,iX,iV,iH];refine⟨C8,B3 ?_,Bk⟩;have hb:((CV g a.n[i]).2.no != 0)=true:=by simpa using ny
       simp only[AW,AV,A1,Bc,AS,At,Am,lf,iM,iH,A.idx jP,C0,o6,BS,dP,dR,Bg,Cf,hb,Jk];rfl
    have:=key a.n.length 0 [] (by omega) rfl;simp only[eJ,eM,fF,show An []=[] from rfl] at this;exact this
  ·have oU:D6 g=false:=by simpa using hd
   simp only[oU,d8,iH];exact⟨C8,rfl,Bk⟩
 ·have oV:a.right=false:=by simpa using T
  simp only[oV,dE,iG,iH];exact⟨C8,rfl,Bk⟩
end Go.Ab.jF


namespace Go.Ab.jF
open Go Go.Ab
variable{k:Int}
section
variable {x0 x1 x2 x3 x4 x5 x6 x7:W}
theorem Y2 (hv:Ap [x1,x2,x3,x4,x5,x6,x7]=true):BK B0 NB 106 [.int .u32 k,x1,x2,x3,x4,x5,x6,x7]=some [.bool (k != 0),.int .u32 k,x1,x2,x3,x4,x5,x6,x7]:=by refine E9 (CD fun _=>.cl) (fn:=RW) rfl (Pf:=US) rfl (H:=[]) (obs:=[]) rfl rfl (by simpa[Ap,jN] using hv) ?_;rw[show US [] []=NB from rfl,run106];rw[show JQ .u32 (.int .u32 k)=true from rfl,AO,XW];rfl
theorem lock_io (hv:Ap [x0,x2,x3,x4,x5,x6,x7]=true):BK B0 PA 135 [x0,.int .i32 0,x2,x3,x4,x5,x6,x7]=some [x0,.int .i32 1,x2,x3,x4,x5,x6,x7]:=by refine E9 (CD fun _=>.cl) (fn:=RU) rfl (Pf:=UQ) rfl (H:=[]) (obs:=[]) rfl rfl (by simp[Ap,jN] at hv |-;exact hv) ?_;rw[show UQ [] []=PA from rfl,run135];rfl
theorem u5 (hv:Ap [x0,x2,x3,x4,x5,x6,x7]=true):BK B0 NA 136 [x0,.int .i32 1,x2,x3,x4,x5,x6,x7]=some [x0,.int .i32 0,x2,x3,x4,x5,x6,x7]:=by refine E9 (CD fun _=>.cl) (fn:=RT) rfl (Pf:=UP) rfl (H:=[]) (obs:=[]) rfl rfl (by simp[Ap,jN] at hv |-;exact hv) ?_;rw[show UP [] []=NA from rfl,run136];rfl
theorem b32_run:Ax B0 .cl (.fn 191 []) [.bool true]=some (.int .u32 1):=by refine Bm rfl ?_;rw[run191];rfl
theorem zao (hv:Ap [x1,x2,x3,x4,x5,x6,x7]=true):BK B0 Pz 137 [.bool true,.int .u32 k,x1,x2,x3,x4,x5,x6,x7]=some [.int .u32 1,x1,x2,x3,x4,x5,x6,x7]:=by refine E9 (CD fun _=>.cl) (fn:=RS) rfl (Pf:=UO) rfl (H:=[]) (obs:=[]) rfl rfl (by simpa[Ap,jN] using hv) ?_;rw[show UO [] []=Pz from rfl,run137];simp only[b32_run,At];rfl
end
end Go.Ab.jF


namespace Go.Ab.jF
open Go Go.Ab
variable{β:Type} {c:Bool} {r:Option β}
theorem bO {α:Type} {x:Option α} {f:α->Option β} (a:α) (h:x=some a) (O:f a=r):Ac x f=r:=by subst h;exact O
theorem cO {x:Option β} (h:c=true) (O:x=r):Ae c x=r:=by subst h;exact O
theorem iO {x y:Option β} (h:x=r):Ai (.bool true) x y=r:=h
def KO:W:=.iface 86 (.agg [.int .i64 102])
section
variable {g:ji} {n:Int} (hU:Ax B0 .cl (.fn 80 []) [.str g]=some (.jE [.int .i64 n,.bool false]))
include hU
theorem none_io:BK B0 zO 79 [.int .u32 0,.int .i32 1,.int .u32 0,.str g,.bool false,.bool false,.jD,.jK]=some [.int .u32 0,.int .i32 1,.int .u32 0,.str g,.bool false,.bool false,.jD,KO]:=by refine E9 (CD fun _=>.cl) (fn:=fn79) rfl (Pf:=zP) rfl (H:=[]) (obs:=[]) rfl rfl rfl ?_;rw[show zP [] []=zO from rfl,run79];unfold wa wb wi wv;refine bO _ hU ?_;refine bO (.int .i64 n) rfl ?_;refine bO (.bool false) rfl ?_;refine cO rfl ?_;refine bO (.bool true) rfl ?_;refine iO ?_;rfl
theorem slow_io:BK B0 PB 107 [.int .u32 0,.int .i32 0,.int .u32 0,.str g,.bool false,.bool false,.jD,.jK]=some [.int .u32 1,.int .i32 0,.int .u32 0,.str g,.bool false,.bool false,.jD,KO]:=by refine E9 (CD fun _=>.cl) (fn:=RV) rfl (Pf:=UR) rfl (H:=[]) (obs:=[]) rfl rfl rfl ?_;rw[show UR [] []=PB from rfl,run107];refine bO _ (lock_io rfl) ?_;refine bO _ (Y2 (k:=0) rfl) ?_;refine bO (.bool true) rfl ?_;refine iO ?_;refine bO _ (none_io hU) ?_;refine bO _ (zao (k:=0) rfl) ?_;refine bO _ (u5 rfl) ?_;rfl
theorem do_io:BK B0 zM 78 [.int .u32 0,.int .i32 0,.int .u32 0,.str g,.bool false,.bool false,.jD,.jK]=some [.int .u32 1,.int .i32 0,.int .u32 0,.str g,.bool false,.bool false,.jD,KO]:=by refine E9 (CD fun _=>.cl) (fn:=fn78) rfl (Pf:=zN) rfl (H:=[]) (obs:=[]) rfl rfl rfl ?_;rw[show zN [] []=zM from rfl,run78];refine bO _ (Y2 (k:=0) rfl) ?_;refine bO (.bool true) rfl ?_;refine iO ?_;refine bO _ (slow_io hU) ?_;rfl
theorem zap:BK B0 zK 49 [.int .u32 0,.int .i32 0,.int .u32 0,.str g,.bool false,.bool false,.jD,.jK]=some [.agg [.bool false,.bool false,.jD],KO,.int .u32 1,.int .i32 0,.int .u32 0,.str g,.bool false,.bool false,.jD,KO]:=by refine E9 (CD fun _=>.cl) (fn:=fn49) rfl (Pf:=zL) rfl (H:=[]) (obs:=[]) rfl rfl rfl ?_;rw[show zL [] []=zK from rfl,run49];refine bO _ (do_io hU) ?_;rfl
end
end Go.Ab.jF


namespace Go.Ab.jF
open Go Go.Ab
variable{g:ji} {n:Int}
theorem zaq:BK B0 Mo 16 [.str g]=some [.int .u32 0,.int .i32 0,.int .u32 0,.str g,.bool false,.bool false,.jD,.jK]:=by refine E9 (CD fun _=>.cl) (fn:=fn16) rfl (Pf:=zG) rfl (H:=[]) (obs:=[]) rfl rfl rfl ?_;rw[show zG [] []=Mo from rfl,run16];rfl
theorem ax (hU:Ax B0 .cl (.fn 80 []) [.str g]=some (.jE [.int .i64 n,.bool false])) {v x:W} (hv:jN v=true) (U:AZ v=true) (O:A3 v 2 1 false=some x) (h3:Ad (.len .slice (.c x))=some (.int .i64 0)) :
  BK B0 IS 27 [v,.int .u32 0,.int .i32 0,.int .u32 0,.str g,.bool false,.bool false,.jD,.jK]=some [.agg [.bool false,.bool false,.jD],KO,.int .u32 1,.int .i32 0,.int .u32 0,.str g,.bool false,.bool false,.jD,KO]:=by
 refine E9 (CD fun _=>.cl) (fn:=uK) rfl (Pf:=Ry) rfl (H:=[]) (obs:=[]) rfl rfl (by simp[Ap,jN,hv]) ?_;rw[show Ry [] []=IS from rfl,run27];unfold wa wb wc wd wg wl wn wv;refine cO U ?_;refine bO x O ?_;refine bO _ h3 ?_;refine bO (.bool true) rfl ?_;refine iO ?_;refine bO _ (zap hU) ?_;rfl
end Go.Ab.jF


namespace Go.Ab.jF
open Go Go.Ab
variable{E:Type} {B:KB} {a:jI} {dep:Nat} {f v:W} {g:ji} {vs:jh} {e:E} {h:AA E}
theorem Tu {α β:Type} {K:E->Option β} (Z:Nat->α->E) (l:List jh) (P:Nat->α->Prop) (Q:β->Prop) (T:∀ {e'},Ep h dep l e=some e'->DU B h dep f e=some e') {a0:α} (he0:e=Z 0 a0) (h0:P 0 a0)
  (hs:∀ i a (hi:i < l.length),P i a->(∃ a',h dep l[i] (Z i a)=some (true,Z (i+1) a')/\P (i+1) a')\/∃ e',h dep l[i] (Z i a)=some (false,e')/\∃ r,K e'=some r/\Q r)
  (he:∀ a,P l.length a->∃ r,K (Z l.length a)=some r/\Q r):∃ r,Ac (DU B h dep f e) K=some r/\Q r:=by
 obtain⟨e',U,r,O,h3⟩:=WO (h:=h) (d:=dep) Z l P (fun e'=>∃ r,K e'=some r/\Q r) hs he h0;subst he0;refine⟨r,?_,h3⟩;rw[T U];exact O
theorem dyn_run {u:W} {b:jI} (hv:Az v a) (hu:Az u b) (rU:a.n.length<=1000000) (hlb:b.n.length<=1000000) (hg:CQ g=true) :
  ∃ w,Ax B0 .cl (.fn 53 []) [.str g,v,u]=some (.jE [w,I (jI.dy g a b).2])/\Az w (jI.dy g a b).1:=by
 obtain⟨w,U,O⟩:=adyR hv hu rU hlb g;refine⟨w,HS (by simp[Ap,jN,hv.ok,hu.ok]) ?_,O⟩;rw[run53];unfold wa wb wd wv;rw[BF hv,cT,BF hu,cT,Ub,bV,hg];simp only[Am,iH,Cj hv,Cj hu,bV,U,BS,dP,dR,Cq O,cT,Ct O]
theorem zar (hv:Az v a) (rU:a.n.length<=1000000) (hg:D6 g=true) :
  ∃ w,Ax B0 .cl (.fn 58 []) [.str g,v]=some (.jE [w,I (jI.q7 g a).2])/\Az w (jI.q7 g a).1:=by
 obtain⟨w,U,O⟩:=amonR hv rU g;refine⟨w,Ce (by simp[Ap,jN,hv.ok]) ?_,O⟩;rw[run58];unfold wa wb wd wv;rw[BF hv,cT,TB,bV,hg];simp only[Am,iH,Cj hv,bV,U,BS,dP,dR,Cq O,cT,Ct O]
theorem Wg (hv:Az v a) (c:Int):∃ w,Ax B0 .cl (.fn 52 []) [v,I c]=some (.jE [w,CN c])/\Az w (if c=0 then a else A2):=by by_cases h:c=0;{subst h;refine⟨v,Ce (by simp[Ap,jN,hv.ok,I]) ?_,by rw[iJ rfl];exact hv⟩;rw[run52];unfold wd wk;rw[BF hv,cT,iD,Cf,bV];simp only[Am,bne_self_eq_false,dE,iG,Cj hv,bV,Cq hv,cT,Ct hv];rfl};{refine⟨C8,Ce (by simp[Ap,jN,hv.ok,I]) ?_,by rw[iI h];exact Bk⟩;rw[run52];unfold wd wk;rw[BF hv,cT,iD,Cf,bV];rw[Am,iJ (by simpa using h),show Ad (.build [I 0] [(0,(1,.c (I c)))])=some (.agg [I c]) from rfl,bV,show CN c=.iface 86 (.agg [I c]) from iI h];rfl}
def Ij (vs:jh):List jh:=(List.range vs.length).map fun i=>[I ((vs.length - 1 - i:Nat):Int),vs.getD (vs.length - 1 - i) .undef]
theorem back_fn (f:Bool) (ln:Ap vs=true):Ax B0 .cl (.fn 51 []) [.sl 3 vs f]=some (.fn 82 [.ptr [.sl 3 vs f] 0]):=by
 refine Bm (by simp[Ap,jN,ln]) ?_;rw[run51,show AZ (.sl 3 vs f)=true from rfl,cT];have:A6 (.fn 82 [.ptr [.sl 3 vs f] 0])=true:=by simp[A6,jN,Ap,ln]
 show Ae (A6 (.fn 82 [.ptr [.sl 3 vs f] 0])) _=_;rw[this];rfl
theorem dD (h:AA E) (dep:Nat) (f:Bool) (ln:Ap vs=true) (hl:vs.length<=1000000) (hs:∀ v∈vs,∃ a b c,v=.agg [a,b,c]) {e':E} (hy:Ep h dep (Ij vs) e=some e') :
  DU B0 h dep (.fn 82 [.ptr [.sl 3 vs f] 0]) e=some e':=by
 refine PR (CD fun _=>.cl) (g:=82) (fn:=fn82) rfl (by simp[Ap,jN,ln]) (dS rfl) (u:=.jE []) ?_;simp only[dI,dW];have l1:Ad (.load 1 false (.c (.ptr [.sl 3 vs f] 0)))=some (.sl 3 vs f):=rfl;have hlen:(Ij vs).length=vs.length:=by simp[Ij]
 rw[run82];unfold wc wh wi;rw[l1,bV,G4,bV,iD,iD,GV,Dc (by omega) (by omega),bV,show AY [nI dep,.ptr [.sl 3 vs f] 0,I ((vs.length:Int) - 1)]=true from rfl,cT]
 have hgo:∀ i,i < vs.length->(Ij vs)[i]?=some [I ((vs.length - 1 - i:Nat):Int),vs.getD (vs.length - 1 - i) .undef]/\∃ a b c,vs[vs.length - 1 - i]?=some (.agg [a,b,c])/\vs.getD (vs.length - 1 - i) .undef=.agg [a,b,c]:=by
  intro i hi;refine⟨by simp[Ij,hi],?_⟩;have jP:vs.length - 1 - i < vs.length:=by omega
  obtain⟨a,b,c,habc⟩:=hs _ (eW jP);exact⟨a,b,c,by rw[dQ jP,habc],by rw[dO,dQ jP,habc];rfl⟩
 have e0:∀ i,i < vs.length->(vs.length:Int) - 1 - (i:Int)=((vs.length - 1 - i:Nat):Int):=by intro i hi;omega
 rw[show (vs.length:Int) - 1=(vs.length:Int) - 1 - ((0:Nat):Int) by simp];refine (S8 (h:=h) (d:=dep) (fun i=>[nI dep,.ptr [.sl 3 vs f] 0,I ((vs.length:Int) - 1 - (i:Int))]) (Ij vs) (fun e=>(W.jE [],e)) ?_ ?_ ?_ hy);{intro i hi e e' hq;rw[hlen] at hi;obtain⟨g1,a,b,c,g2,g3⟩:=hgo i hi;rw[(dU.1 g1).2,g3] at hq;simp only[AW,AV,A1];rw[e0 i hi];simp only[iD,Ef,bV,Am];rw[iJ (by simpa using Int.natCast_nonneg _)];simp only[l1,bV,IL g2,IK,Cp,DG,Cl,dN,hq,BH,dK,Am,dE,iG,GV];rw[Dc (by omega) (by omega),show ((vs.length - 1 - i:Nat):Int) - 1=(vs.length:Int) - 1 - ((i+1:Nat):Int) by omega]};{intro i hi e e' hq;rw[hlen] at hi;obtain⟨g1,a,b,c,g2,g3⟩:=hgo i hi;rw[(dU.1 g1).2,g3] at hq;simp only[AW,AV,A1];rw[e0 i hi];simp only[iD,Ef,bV,Am];rw[iJ (by simpa using Int.natCast_nonneg _)];simp only[l1,bV,IL g2,IK,Cp,DG,Cl,dN,hq,BH,d8,Am,iH]};{intro e;rw[hlen];simp only[AW,AV,A1,iD,Ef,bV,Am];rw[iI (by simp;omega)]}
end Go.Ab.jF


namespace Go.Ab.jF
open Go Go.Ab
variable{E:Type} {D:jI->jI->jI×Int} {a b:jI} {f:Bool} {g:ji} {k:Nat} {l:jo} {v x:W}
theorem Nl (a0 a1 a2 a3 a4 a5 a6 a7 a8 a9 rX a11 a12 a13 x:W) (l:jh):J (a0 :: a1 :: a2 :: a3 :: a4 :: a5 :: a6 :: a7 :: a8 :: a9 :: rX :: a11 :: a12 :: a13 :: x :: l) 14=x:=rfl
theorem Nk (a0 a1 a2 a3 a4 a5 a6 a7 a8 a9 rX a11 a12 a13 a14 x:W) (l:jh):J (a0 :: a1 :: a2 :: a3 :: a4 :: a5 :: a6 :: a7 :: a8 :: a9 :: rX :: a11 :: a12 :: a13 :: a14 :: x :: l) 15=x:=rfl
def fresh (g:ji):jh:=[.int .u32 0,.int .i32 0,.int .u32 0,.str g,.bool false,.bool false,.jD,.jK]
def GW (D:jI->jI->jI×Int):ju->jI->jI×Int
 | [],o=>(o,0)
 | x :: H,o=>if (D x o).2=0 then GW D H (D x o).1 else (A2,(D x o).2)
def Df (D:jI->jI->jI×Int) (N:jI×Int) (b:jI):jI×Int :=
 match b.n.reverse with
 | []=>N
 | n :: r=>GW D (r.map (BZ b.ru)) (BZ b.ru n)
structure u6 (g:ji) (D:jI->jI->jI×Int):Prop where
 run:∀ {v u:W} {a b:jI},Az v a->Az u b->a.n.length<=400000->b.n.length<=400000->∃ w,Ax B0 .cl (.fn 53 []) [.str g,v,u]=some (.jE [w,I (D a b).2])/\Az w (D a b).1
 le:∀ a b,(D a b).1.n.length<=400000
theorem YP {D:jI->jI->jI×Int} (hD:∀ a b,(D a b).1.n.length<=400000):∀ (l:ju) (o:jI),o.n.length<=400000->(GW D l o).1.n.length<=400000
 | [],_,h=>h
 | x :: H,o,h=>by
  unfold GW;split;{exact YP hD H _ (hD x o)};{simp[A2]}
theorem OU (h:b.n≠[]):∃ r m,b.n=r.reverse++[m]/\b.n.reverse=m :: r:=by
 cases T:b.n.reverse with
 | nil=>exact iW (List.reverse_eq_nil_iff.1 T) h
 | cons m r =>
  refine⟨r,m,?_,rfl⟩;have:=iP List.reverse T;simpa using this
theorem sl_hi {m:Nat} {H:jh} (h:m<=H.length):Ad (.slice k (.c (.sl k H f)) none (some (.c (I m))) none)=some (.sl k (H.take m) (f&&m==H.length)):=by simp[Ad,exec,RX.ev,CH,C9,DL,AN,I,h,FV]
theorem Oq (c:Int):Af (CN c) 0=CN c:=by unfold CN;split<;>rfl
theorem OO (c:Int):Aw (CN c) 1=true:=by unfold CN;split<;>rfl
theorem itm_agg (ru:Bool) (n:Int):W.agg [Af (B2 ru n) 0,Af (B2 ru n) 1,Af (B2 ru n) 2]=B2 ru n:=rfl
theorem SO (hD:u6 g D) (N:jI×Int) (hv:Az v b) (hl:b.n.length<=1000000) (jW:b.n≠[]) :
  ∃ w,BK B0 IS 27 (v :: fresh g)=some (w :: CN (Df D N b).2 :: fresh g)/\Az w (Df D N b).1:=by
 obtain⟨x,rfl,A⟩:=hv.get
 suffices key:∃ rs,DJ (AD B0 fun _=>.cl) uK IS (.agg [.bool b.li,.bool b.ru,x] :: fresh g)=some rs/\∃ w,rs=w :: CN (Df D N b).2 :: fresh g/\Az w (Df D N b).1 by
  obtain⟨rs,U,w,rfl,O⟩:=key;exact⟨w,E9 (CD fun _=>.cl) (fn:=uK) rfl (Pf:=Ry) rfl (H:=[]) (obs:=[]) rfl rfl (by simp[Ap,jN,A.ok,fresh]) U,O⟩
 obtain⟨r,m,hb,hbr⟩:=OU jW;have sP:0 < b.n.length:=by rw[hb];simp
 have hrl:r.length+1=b.n.length:=by rw[hb];simp
 have hR:Df D N b=GW D (r.map (BZ b.ru)) (BZ b.ru m):=by unfold Df;rw[hbr]
 have mG:b.n.map (B2 b.ru)=r.reverse.map (B2 b.ru)++[B2 b.ru m]:=by rw[hb];simp
 unfold fresh;rw[run27];unfold wa wb wc wd wg wl wn wv;rw[JL A,cT];simp only[BT,BG,Gn,ID,bV,A.len,iD,Da,Am];rw[iI (by simp;omega),Ss A,bV,Ye A,bV];rw[aZ (f:=.fn 56 [.ptr [.bool b.li,.bool b.ru,x] 0]) (l:=b.n.map (BZ b.ru)) (vs:=b.n.map (B2 b.ru)) (by simp[jN,Ap,A.ok]) (Q0 _ _) (by simpa using hl) fun h e e' hq=>VR h 0 A hl (by rw[eo] at hq;exact hq),bV,G4,bV];rw[dY,iD,GV,Dc (by omega) (by omega),bV,show (b.n.length:Int) - 1=((r.length:Nat):Int) by omega];have hlast:(b.n.map (B2 b.ru))[r.length]?=some (.agg [.bool false,.bool b.ru,.sl 1 [I m] false]):=by rw[mG,fN (by simp)];simp[B2]
 rw[IL hlast,bV,IK,bV,show Aw (.agg [.bool false,.bool b.ru,.sl 1 [I m] false]) 3=true from rfl,cT];rw[bV,GV,Dc (by omega) (by omega),bV,show (b.n.length:Int) - 1=((r.length:Nat):Int) by omega];rw[sl_hi (k:=3) (m:=r.length) (by rw[dY];omega),bV];have qV:(b.n.map (B2 b.ru)).take r.length=r.reverse.map (B2 b.ru):=by rw[mG,gk (by simp)];exact dV (by simp)
 rw[qV];generalize zd:r.reverse.map (B2 b.ru)=us;have husl:us.length=r.length:=by rw[<-zd];simp
 have husok:Ap us=true:=by rw[<-zd];exact (Q0 b.ru r.reverse).ok
 have hust:∀ v∈us,∃ a b c,v=.agg [a,b,c]:=by intro v hv;rw[<-zd] at hv;obtain⟨n,_,rfl⟩:=dJ.1 hv;exact⟨_,_,_,rfl⟩
 have oz:(Ij us).length=r.length:=by simp[Ij,husl]
 have hbi:∀ i (hi:i < r.length) (O:i < (Ij us).length),(Ij us)[i]=[I ((r.length - 1 - i:Nat):Int),B2 b.ru r[i]]:=by intro i hi O;simp only[Ij,gv,ij,husl];rw[<-zd,dO,dT,List.getElem?_reverse (by omega),show r.length - 1 - (r.length - 1 - i)=i by omega,dQ hi];rfl
 rw[back_fn _ husok,bV,hR];clear hR;generalize hRR:GW D (r.map (BZ b.ru)) (BZ b.ru m)=R
 let z16:W:=.fn 82 [.ptr [.sl 3 us (false&&r.length==(b.n.map (B2 b.ru)).length)] 0]
 refine Tu (fun _ w=>(([z16,.int .u32 0,.int .i32 0,.int .u32 0,.str g,.bool false,.bool false,.jD,.jK,.bool false,.bool false,.jD,.jK,Af w 0,Af w 1,Af w 2],(none,())):Is Unit)) (Ij us)
  (fun i w=>∃ o,Az w o/\o.n.length<=400000/\GW D ((r.drop i).map (BZ b.ru)) o=R)
  (fun rs=>∃ w,rs=w :: CN R.2 :: fresh g/\Az w R.1)
  (fun hq=>dD _ 0 _ husok (by omega) hust hq) (a0:=B2 b.ru m) rfl ⟨BZ b.ru m,Ib _ _,by simp[BZ],hRR⟩ ?_ ?_
 ·rintro i w hi ⟨o,hw,ho,hq⟩;have oJ:i < r.length:=by omega
  rw[hbi i oJ hi];rw[eX oJ,dI] at hq;unfold GW at hq;obtain⟨w2,U,O⟩:=hD.run (Ib b.ru r[i]) hw (by simp[BZ]) ho;obtain⟨w3,h3,h4⟩:=Wg O (D (BZ b.ru r[i]) o).2;simp only[EI,iH,AW,AV,A1,Bc,BD,Cd,B9,Cm,CS,Ff,HH,JN,LO,LN,Nl,Nk];rw[show ER [I ((r.length - 1 - i:Nat):Int),B2 b.ru r[i]] 2=true from rfl,cT,show Aw (B2 b.ru r[i]) 3=true from rfl,cT,itm_agg,Ct hw,U,bV];simp only[BS,dP,dR,bV,h3,Cq h4,cT,Uh,Am];by_cases hc:(D (BZ b.ru r[i]) o).2=0;{left;refine⟨w3,?_,(D (BZ b.ru r[i]) o).1,by rw[iJ hc] at h4;exact h4,hD.le _ _,by rw[iJ hc] at hq;exact hq⟩;rw[iI (by simpa using hc)]};{right;rw[iJ (by simpa using hc)];rw[iI hc] at hq;refine⟨_,by rw[OO,cT],?_⟩;refine⟨_,rfl,C8,?_,by rw[<-hq];exact Bk⟩;rw[<-hq,Oq];rfl}
 {rintro w ⟨o,hw,ho,hq⟩;rw[oz,gg,dW] at hq;unfold GW at hq;refine⟨_,rfl,w,?_,by rw[<-hq];exact hw⟩;rw[<-hq];simp only[AW,AV,A1,Bc,BD,Cd,B9,Cm,CS,Ff,HH,JN,LO,LN,Nl,Nk,Ct hw];rfl}
def NO (ru:Bool) (l:jo) (i:Nat):W:=.agg [.bool true,.bool ru,.sl 1 (An (l.take (i+1))) true]
def EX (ru:Bool) (l:jo) (i:Nat):jI:=⟨true,ru,l.take (i+1)⟩
theorem head_is (ru:Bool) (l:jo) (i:Nat):Az (NO ru l i) (EX ru l i):=.mk _ _ _ _ (.sl _ _)
theorem zas (h:Bh x a.n):Ax B0 .cl (.fn 30 []) [.agg [.bool a.li,.bool a.ru,x]]=some (.fn 55 [.ptr [.bool a.li,.bool a.ru,x] 0]):=by
 refine Bm (by simp[Ap,jN,h.ok]) ?_;rw[run30,JL h,cT];have:A6 (.fn 55 [.ptr [.bool a.li,.bool a.ru,x] 0])=true:=by simp[A6,jN,Ap,h.ok]
 show Ae (A6 (.fn 55 [.ptr [.bool a.li,.bool a.ru,x] 0])) _=_;rw[this];rfl
theorem hi3 (h:k<=l.length):Ad (.slice 1 (.c (.sl 1 (An l) f)) none (some (.c (I k))) (some (.c (I k))))=some (.sl 1 (An (l.take k)) true):=by
 have O:k<=(An l).length:=by rw[BA];exact h
 simp[Ad,exec,RX.ev,CH,C9,DL,AN,I,O,Ln,FV]
theorem aR (h:AA E) (dep:Nat) (A:Bh x a.n) (hl:a.n.length<=1000000) {e e':E} (hy:Ep h dep ((List.range a.n.length).map fun i=>[NO a.ru a.n i]) e=some e') :
  DU B0 h dep (.fn 55 [.ptr [.bool a.li,.bool a.ru,x] 0]) e=some e':=by
 refine PR (CD fun _=>.cl) (g:=55) (fn:=fn55) rfl (by simp[Ap,jN,A.ok]) (dS rfl) (u:=.jE []) ?_;simp only[dI,dW];rw[run55];unfold wc wh wi wj wo;rw[PM,bV,PL,bV,PE,bV,A.len,bV,show AY [nI dep,.ptr [.bool a.li,.bool a.ru,x] 0,I a.n.length,.int .i64 0]=true from rfl,cT]
 have hsl:∀ i,i < a.n.length->Ad (.slice 1 (.c x) none (some (.c (I ((i+1:Nat):Int)))) (some (.c (I ((i+1:Nat):Int)))))=some (.sl 1 (An (a.n.take (i+1))) true):=by
  intro i hi;generalize hn:a.n=n at A hi;cases A with
  | nil=>simp at hi
  | sl l f=>exact hi3 (by omega)
 have hbd:∀ (ru:Bool) (l:jo),Ad (.build [.bool false,.bool false,.jD] [(0,(1,.c (.bool true))),(1,(1,.c (.bool ru))),(2,(1,.c (.sl 1 (An l) true)))])=some (.agg [.bool true,.bool ru,.sl 1 (An l) true]):=fun _ _=>rfl;refine (S8 (h:=h) (d:=dep) (fun i=>[nI dep,.ptr [.bool a.li,.bool a.ru,x] 0,I a.n.length,I i]) ((List.range a.n.length).map fun i=>[NO a.ru a.n i]) (fun e=>(W.jE [],e)) ?_ ?_ ?_ hy);{intro i hi e e' hq;rw[dY,ix] at hi;rw[gv,ij] at hq;simp only[AW,AV,A1,Bc,AS,bV,Am];rw[iJ (by simpa using hi)];simp only[PM,RY,PL,RJ,PE,bV,iD,BN,Cs (by omega:i < 9223372036854775807),hsl i hi,hbd];rw[show W.agg [.bool true,.bool a.ru,.sl 1 (An (a.n.take (i+1))) true]=NO a.ru a.n i from rfl];simp only[Cp,DG,Cl,dN,hq,bV,BH,dK,Am,dE,iG]};{intro i hi e e' hq;rw[dY,ix] at hi;rw[gv,ij] at hq;simp only[AW,AV,A1,Bc,AS,bV,Am];rw[iJ (by simpa using hi)];simp only[PM,RY,PL,RJ,PE,bV,iD,BN,Cs (by omega:i < 9223372036854775807),hsl i hi,hbd];rw[show W.agg [.bool true,.bool a.ru,.sl 1 (An (a.n.take (i+1))) true]=NO a.ru a.n i from rfl];simp only[Cp,DG,Cl,dN,hq,bV,BH,d8,Am,iH]};{intro e;rw[dY,ix];simp only[AW,AV,A1,Bc,AS,bV,Am,gE,iN,dE,iG]}
end Go.Ab.jF


namespace Go.Ab.jF
open Go Go.Ab
variable{F:jI->jI×Int} {a b:jI} {fv v:W} {g:ji} {l:ju} {vs:jh}
def EA (F:jI->jI×Int):ju->Sum Int ju
 | []=>.inr []
 | a :: l=>if (F a).2=0 then (match EA F l with
  | .inl c=>.inl c
  | .inr r=>.inr ((F a).1 :: r)) else .inl (F a).2
theorem Oa (F:jI->jI×Int) (a:jI) (l:ju):EA F (a :: l)=if (F a).2=0 then (match EA F l with
  | .inl c=>.inl c
  | .inr r=>.inr ((F a).1 :: r)) else .inl (F a).2:=rfl
def HT (acc:ju):Sum Int ju->Sum Int ju
 | .inl c=>.inl c
 | .inr r=>.inr (acc++r)
theorem QA (x:Sum Int ju):HT [] x=x:=by cases x<;>rfl
def C5 (F:jI->jI×Int) (b:jI) (l:ju):jI×Int :=
 match EA F l with
 | .inl c=>(A2,c)
 | .inr r=>(EC b.li b.ru r,Cz b.li r)
theorem TY (h:Az v a):AX 3 [v]=true:=by obtain⟨x,rfl,A⟩:=h.get;exact Ri A
theorem YF (h:Az v a):Ad (.build [.bool false,.bool false,.jD] [(0,(3,.c v))])=some v:=by obtain⟨x,rfl,A⟩:=h.get;exact Ss A
theorem u7 (hv:Az v b) (hf:jN fv=true) (mG:EE vs l) (hl:l.length<=1000000)
  (T:∀ {E:Type} (h:AA E) {e e':E},Ep h 0 (vs.map fun v=>[v]) e=some e'->DU B0 h 0 fv e=some e')
  (hdo:∀ {v:W} {a:jI},Az v a->a∈l->∃ w,BK B0 IS 27 (v :: fresh g)=some (w :: CN (F a).2 :: fresh g)/\Az w (F a).1) (hF:∀ a∈l,(F a).1.n.length<=1000000) :
  ∃ w,BK B0 O9 29 (v :: fv :: fresh g)=some (w :: CN (C5 F b l).2 :: fresh g)/\Az w (C5 F b l).1:=by
 suffices key:∃ rs,DJ (AD B0 fun _=>.cl) K7 O9 (v :: fv :: fresh g)=some rs/\∃ w,rs=w :: CN (C5 F b l).2 :: fresh g/\Az w (C5 F b l).1 by
  obtain⟨rs,U,w,rfl,O⟩:=key;exact⟨w,E9 (CD fun _=>.cl) (fn:=K7) rfl (Pf:=Nz) rfl (H:=[.cv .jK,.cv .jK,.fn 1000027 []]) (obs:=[]) rfl rfl (by simp[Ap,jN,hv.ok,hf,fresh]) U,O⟩
 have hlen:=mG.len;unfold fresh;rw[run86_0];unfold wa wb wd wn;rw[BF hv,cT]
 refine Tu (fun i H=>(([fv,.int .u32 0,.int .i32 0,.int .u32 0,.str g,.bool false,.bool false,.jD,.jK,v,.bool false,.bool false,.jD,.jK,nI i,.sl 3 H false],(none,())):Is Unit)) (vs.map fun v=>[v])
  (fun i H=>∃ acc,EE H acc/\H.length=i/\(∀ a∈acc,a.n.length<=1000000)/\EA F l=HT acc (EA F (l.drop i)))
  (fun rs=>∃ w,rs=w :: CN (C5 F b l).2 :: fresh g/\Az w (C5 F b l).1)
  (fun hq=>T _ hq) (a0:=[]) rfl ⟨[],.nil,rfl,by simp,by rw[eJ];exact (QA _).symm⟩ ?_ ?_
 ·rintro i H hi ⟨acc,ha,ox,kS,hq⟩;rw[dY] at hi;have oJ:i < l.length:=by omega
  obtain⟨u,h3,h4⟩:=mG.get i oJ;have hu:vs[i]=u:=by rw[dQ hi] at h3;exact fy h3
  rw[gv,hu];rw[eX oJ] at hq;rw[Oa] at hq;obtain⟨w,U,O⟩:=hdo h4 (eW oJ);unfold fresh at U;simp only[EI,iH,AW,AV,A1,Bc,BD,Cd,B9,Cm,CS,Ff,HH,JN,LO,LN,Nl,Nk];rw[show ER [u] 1=true by simp[ER,Ap,h4.ok],cT,Cq h4,cT,Ct h4,U,bV];simp only[AW,AV,A1,Bc,BD,Cd,B9,Cm,CS,Ff];rw[Cq O,cT,Uh,bV,Am];by_cases hc:(F l[i]).2=0;{left;rw[iI (by simpa using hc),Ct O,TY O,cT];rw[iJ hc] at hq;refine⟨H++[w],?_,acc++[(F l[i]).1],ha.snoc O,by simp[ox],?_,?_⟩;{simp only[JK,JF,Ji,Cp,DG,dN,BB,TQ,Ui,UK,IB,List.length_singleton,eJ,hH,gS,ox];rw[show decide (0+1<=1)=true from rfl,cT,show (decide (i<=i)&&decide (i+1<=2147483648))=true by simp;omega,cT,dV (by omega)]};{intro a h;rcases dX.1 h with h | h;{exact kS a h};{rw[ep.1 h];exact hF _ (eW oJ)}};{rw[hq];cases EA F (l.drop (i+1))<;>simp[HT]}}
  ·right;rw[iJ (by simpa using hc),OO,cT];rw[iI hc] at hq;refine⟨_,rfl,?_⟩;have hA:C5 F b l=(A2,(F l[i]).2):=by unfold C5;rw[hq];rfl
   rw[hA];refine⟨_,rfl,C8,?_,Bk⟩;rw[Oq];rfl
 ·rintro H ⟨acc,ha,ox,kS,hq⟩;rw[dY,hlen,gg] at hq;rw[dY] at ox;have hA:C5 F b l=(EC b.li b.ru acc,Cz b.li acc):=by unfold C5;rw[hq];simp[EA,HT]
  rw[hA];have hal:=ha.len;obtain⟨w,U,O⟩:=VT hv (.sl false ha) (by omega) kS;simp only[AW,AV,A1,Bc,BD,Cd,B9,Cm,CS,Ff,HH,JN,LO,LN,Nl,Nk,Cp,DG,dN,BB];rw[show ∀ X Y:Option jh,CJ (He none) X Y=X from fun _ _=>rfl,Cj hv,bV,YF hv,bV,dY,show vs.length=H.length by omega,Rx,U,bV];simp only[BS,dP,dR,bV,Cq O,OO,cT,Ct O,Oq];exact⟨_,rfl,w,rfl,O⟩
theorem u9 (hv:Az v b) (hf:jN fv=true) (mG:EE vs l) (hl:l.length<=1000000)
  (T:∀ {E:Type} (h:AA E) {e e':E},Ep h 0 (vs.map fun v=>[v]) e=some e'->DU B0 h 0 fv e=some e')
  (hdo:∀ {v:W} {a:jI},Az v a->a∈l->∃ w,BK B0 uN 33 (v :: fresh g)=some (w :: CN (F a).2 :: fresh g)/\Az w (F a).1) (hF:∀ a∈l,(F a).1.n.length<=1000000) :
  ∃ w,BK B0 O8 29 (v :: fv :: fresh g)=some (w :: CN (C5 F b l).2 :: fresh g)/\Az w (C5 F b l).1:=by
 suffices key:∃ rs,DJ (AD B0 fun _=>.cl) K7 O8 (v :: fv :: fresh g)=some rs/\∃ w,rs=w :: CN (C5 F b l).2 :: fresh g/\Az w (C5 F b l).1 by
  obtain⟨rs,U,w,rfl,O⟩:=key;exact⟨w,E9 (CD fun _=>.cl) (fn:=K7) rfl (Pf:=Nz) rfl (H:=[.cv .jK,.cv .jK,.fn 1000033 []]) (obs:=[]) rfl rfl (by simp[Ap,jN,hv.ok,hf,fresh]) U,O⟩
 have hlen:=mG.len;unfold fresh;rw[run86_1];unfold wa wb wd wn;rw[BF hv,cT]
 refine Tu (fun i H=>(([fv,.int .u32 0,.int .i32 0,.int .u32 0,.str g,.bool false,.bool false,.jD,.jK,v,.bool false,.bool false,.jD,.jK,nI i,.sl 3 H false],(none,())):Is Unit)) (vs.map fun v=>[v])
  (fun i H=>∃ acc,EE H acc/\H.length=i/\(∀ a∈acc,a.n.length<=1000000)/\EA F l=HT acc (EA F (l.drop i)))
  (fun rs=>∃ w,rs=w :: CN (C5 F b l).2 :: fresh g/\Az w (C5 F b l).1)
  (fun hq=>T _ hq) (a0:=[]) rfl ⟨[],.nil,rfl,by simp,by rw[eJ];exact (QA _).symm⟩ ?_ ?_
 ·rintro i H hi ⟨acc,ha,ox,kS,hq⟩;rw[dY] at hi;have oJ:i < l.length:=by omega
  obtain⟨u,h3,h4⟩:=mG.get i oJ;have hu:vs[i]=u:=by rw[dQ hi] at h3;exact fy h3
  rw[gv,hu];rw[eX oJ] at hq;rw[Oa] at hq;obtain⟨w,U,O⟩:=hdo h4 (eW oJ);unfold fresh at U;simp only[EI,iH,AW,AV,A1,Bc,BD,Cd,B9,Cm,CS,Ff,HH,JN,LO,LN,Nl,Nk];rw[show ER [u] 1=true by simp[ER,Ap,h4.ok],cT,Cq h4,cT,Ct h4,U,bV];simp only[AW,AV,A1,Bc,BD,Cd,B9,Cm,CS,Ff];rw[Cq O,cT,Uh,bV,Am];by_cases hc:(F l[i]).2=0;{left;rw[iI (by simpa using hc),Ct O,TY O,cT];rw[iJ hc] at hq;refine⟨H++[w],?_,acc++[(F l[i]).1],ha.snoc O,by simp[ox],?_,?_⟩;{simp only[JK,JF,Ji,Cp,DG,dN,BB,TQ,Ui,UK,IB,List.length_singleton,eJ,hH,gS,ox];rw[show decide (0+1<=1)=true from rfl,cT,show (decide (i<=i)&&decide (i+1<=2147483648))=true by simp;omega,cT,dV (by omega)]};{intro a h;rcases dX.1 h with h | h;{exact kS a h};{rw[ep.1 h];exact hF _ (eW oJ)}};{rw[hq];cases EA F (l.drop (i+1))<;>simp[HT]}}
  ·right;rw[iJ (by simpa using hc),OO,cT];rw[iI hc] at hq;refine⟨_,rfl,?_⟩;have hA:C5 F b l=(A2,(F l[i]).2):=by unfold C5;rw[hq];rfl
   rw[hA];refine⟨_,rfl,C8,?_,Bk⟩;rw[Oq];rfl
 ·rintro H ⟨acc,ha,ox,kS,hq⟩;rw[dY,hlen,gg] at hq;rw[dY] at ox;have hA:C5 F b l=(EC b.li b.ru acc,Cz b.li acc):=by unfold C5;rw[hq];simp[EA,HT]
  rw[hA];have hal:=ha.len;obtain⟨w,U,O⟩:=VT hv (.sl false ha) (by omega) kS;simp only[AW,AV,A1,Bc,BD,Cd,B9,Cm,CS,Ff,HH,JN,LO,LN,Nl,Nk,Cp,DG,dN,BB];rw[show ∀ X Y:Option jh,CJ (He none) X Y=X from fun _ _=>rfl,Cj hv,bV,YF hv,bV,dY,show vs.length=H.length by omega,Rx,U,bV];simp only[BS,dP,dR,bV,Cq O,OO,cT,Ct O,Oq];exact⟨_,rfl,w,rfl,O⟩
end Go.Ab.jF


namespace Go.Ab.jF
open Go Go.Ab
variable{D:jI->jI->jI×Int} {M:jI->jI×Int} {N r:jI×Int} {a b:jI} {g:ji} {n:Int} {rs:jh} {v:W}
structure Sw (g:ji) (M:jI->jI×Int):Prop where
 run:∀ {v:W} {a:jI},Az v a->a.n.length<=400000->∃ w,Ax B0 .cl (.fn 58 []) [.str g,v]=some (.jE [w,I (M a).2])/\Az w (M a).1
 le:∀ a,(M a).1.n.length<=400000
def GD (r:jI×Int):jI×Int:=(if r.2=0 then r.1 else A2,r.2)
theorem orNo_le (h:r.1.n.length<=400000):(GD r).1.n.length<=400000:=by unfold GD;dsimp only;split;{exact h};{simp[A2]}
theorem zat (hM:Sw g M) (hv:Az v a) (hl:a.n.length<=400000) :
  ∃ w,BK B0 uN 33 (v :: fresh g)=some (w :: CN (GD (M a)).2 :: fresh g)/\Az w (GD (M a)).1:=by
 obtain⟨w,U,O⟩:=hM.run hv hl;obtain⟨u,h3,h4⟩:=Wg O (M a).2;refine⟨u,E9 (CD fun _=>.cl) (fn:=fn33) rfl (Pf:=zJ) rfl (H:=[]) (obs:=[]) rfl rfl (by simp[Ap,jN,hv.ok,fresh]) ?_,h4⟩;unfold fresh;rw[show zJ [] []=uN from rfl,run33];unfold wa wb wd wv;rw[BF hv,cT,Cj hv,bV,U,bV];simp only[BS,dP,dR,bV,h3,Cq h4,cT,Ct h4];rfl
def FM (b:jI):ju:=(List.range b.n.length).map (EX b.ru b.n)
theorem zau (b:jI):EE ((List.range b.n.length).map (NO b.ru b.n)) (FM b):=by
 unfold FM;induction List.range b.n.length with
 | nil=>exact .nil
 | cons i l ih=>exact .cons (head_is _ _ _) ih
def FN (D:jI->jI->jI×Int) (N:jI×Int) (b:jI):jI×Int:=C5 (Df D N) b (FM b)
def F8 (M:jI->jI×Int) (b:jI):jI×Int:=C5 (fun a=>GD (M a)) b (b.n.map (BZ b.ru))
theorem Uq (hD:∀ a b,(D a b).1.n.length<=400000) (h:b.n≠[]):(Df D N b).1.n.length<=400000:=by obtain⟨r,m,_,hbr⟩:=OU h;unfold Df;rw[hbr];exact YP hD _ _ (by simp[BZ])
theorem zav (hD:u6 g D) (N:jI×Int) (hv:Az v b) (hl:b.n.length<=1000000) :
  ∃ w,BK B0 uL 28 (v :: fresh g)=some (w :: CN (FN D N b).2 :: fresh g)/\Az w (FN D N b).1:=by
 obtain⟨x,rfl,A⟩:=hv.get;have hfok:jN (.fn 55 [.ptr [.bool b.li,.bool b.ru,x] 0])=true:=by simp[jN,Ap,A.ok]
 have k9:∀ a∈FM b,a.n≠[]/\a.n.length<=1000000:=by intro a ha;obtain⟨i,hi,rfl⟩:=dJ.1 ha;rw[fI] at hi;constructor;{intro he;have:=iP List.length he;simp only[EX,eV,fF] at this;omega};{simp only[EX,eV];omega}
 obtain⟨w,U,O⟩:=u7 (g:=g) (F:=Df D N) hv hfok (zau b) (by simpa[FM] using hl) (fun h e e' hq=>aR h 0 A hl (by rw[eo] at hq;exact hq))
  (fun h ha=>SO hD N h (k9 _ ha).2 (k9 _ ha).1) (fun a ha=>fj (Uq hD.le (k9 a ha).1) (by decide))
 refine⟨w,E9 (CD fun _=>.cl) (fn:=fn28) rfl (Pf:=zH) rfl (H:=[]) (obs:=[]) rfl rfl (by simp[Ap,jN,A.ok,fresh]) ?_,O⟩;unfold fresh at U |-;rw[show zH [] []=uL from rfl,run28];unfold wd wv;rw[BF hv,cT,Cj hv,bV,bV,Ss A,bV,zas A,bV,U,bV];simp only[AW,AV,A1,Bc,BD,Cd,B9,Cm,CS,Ff,Cq O,cT,Ct O];rfl
theorem vd (hM:Sw g M) (hv:Az v b) (hl:b.n.length<=1000000) :
  ∃ w,BK B0 uM 31 (v :: fresh g)=some (w :: CN (F8 M b).2 :: fresh g)/\Az w (F8 M b).1:=by
 obtain⟨x,rfl,A⟩:=hv.get;have hfok:jN (.fn 56 [.ptr [.bool b.li,.bool b.ru,x] 0])=true:=by simp[jN,Ap,A.ok]
 have k9:∀ a∈b.n.map (BZ b.ru),a.n.length<=400000:=by intro a ha;obtain⟨i,hi,rfl⟩:=dJ.1 ha;simp[BZ]
 obtain⟨w,U,O⟩:=u9 (g:=g) (F:=fun a=>GD (M a)) hv hfok (Q0 b.ru b.n) (by simpa using hl) (fun h e e' hq=>VR h 0 A hl (by rw[eo] at hq;exact hq))
  (fun h ha=>zat hM h (k9 _ ha)) (fun a ha=>fj (orNo_le (hM.le a)) (by decide))
 refine⟨w,E9 (CD fun _=>.cl) (fn:=fn31) rfl (Pf:=zI) rfl (H:=[]) (obs:=[]) rfl rfl (by simp[Ap,jN,A.ok,fresh]) ?_,O⟩;unfold fresh at U |-;rw[show zI [] []=uM from rfl,run31];unfold wd wv;rw[BF hv,cT,Cj hv,bV,bV,Ss A,bV,Ye A,bV,U,bV];simp only[AW,AV,A1,Bc,BD,Cd,B9,Cm,CS,Ff,Cq O,cT,Ct O];rfl
def Cc (b:jI) (r:jI×Int):jI×Int:=if b.right then r else (A2,114)
theorem check_0 (hv:Az v b) (hl:b.n.length<=1000000) (hrl:rs.length=8)
  (h:b.right=true->∃ w,BK B0 IS 27 (v :: fresh g)=some (w :: CN r.2 :: rs)/\Az w r.1) :
  ∃ w rs,BK B0 Pc 15 (v :: fresh g)=some (w :: I (Cc b r).2 :: rs)/\Az w (Cc b r).1:=by
 have key:∃ w rs,DJ (AD B0 fun _=>.cl) IU Pc (v :: fresh g)=some (w :: I (Cc b r).2 :: rs)/\Az w (Cc b r).1:=by
  unfold fresh Cc;rw[run48_0];unfold wd wi wv;rw[BF hv,cT,Cj hv,bV,MB hv hl,bV,BH,bV,Am];cases hb:b.right with
  | false=>exact⟨_,_,rfl,Bk⟩
  | true =>
   obtain⟨w,U,O⟩:=h hb;unfold fresh at U;rw[show (!true)=false from rfl];simp only[dE,iG,iH,bV,U,AW,AV,Cq O,cT,TL,Ct O];exact⟨_,_,rfl,O⟩
 obtain⟨w,rs,U,O⟩:=key;exact⟨w,rs,E9 (CD fun _=>.cl) (fn:=IU) rfl (Pf:=L6) rfl (H:=[.cv .jK,.fn 1000027 []]) (obs:=[]) rfl rfl (by simp[Ap,jN,hv.ok,fresh]) U,O⟩
theorem check_1 (hv:Az v b) (hl:b.n.length<=1000000)
  (h:b.right=true->∃ w,BK B0 uL 28 (v :: fresh g)=some (w :: CN r.2 :: rs)/\Az w r.1) :
  ∃ w rs,BK B0 Pb 15 (v :: fresh g)=some (w :: I (Cc b r).2 :: rs)/\Az w (Cc b r).1:=by
 have key:∃ w rs,DJ (AD B0 fun _=>.cl) IU Pb (v :: fresh g)=some (w :: I (Cc b r).2 :: rs)/\Az w (Cc b r).1:=by
  unfold fresh Cc;rw[run48_1];unfold wd wi wv;rw[BF hv,cT,Cj hv,bV,MB hv hl,bV,BH,bV,Am];cases hb:b.right with
  | false=>exact⟨_,_,rfl,Bk⟩
  | true =>
   obtain⟨w,U,O⟩:=h hb;unfold fresh at U;rw[show (!true)=false from rfl];simp only[dE,iG,iH,bV,U,AW,AV,Cq O,cT,TL,Ct O];exact⟨_,_,rfl,O⟩
 obtain⟨w,rs,U,O⟩:=key;exact⟨w,rs,E9 (CD fun _=>.cl) (fn:=IU) rfl (Pf:=L6) rfl (H:=[.cv .jK,.fn 28 []]) (obs:=[]) rfl rfl (by simp[Ap,jN,hv.ok,fresh]) U,O⟩
theorem check_2 (hv:Az v b) (hl:b.n.length<=1000000)
  (h:b.right=true->∃ w,BK B0 uM 31 (v :: fresh g)=some (w :: CN r.2 :: rs)/\Az w r.1) :
  ∃ w rs,BK B0 Pa 15 (v :: fresh g)=some (w :: I (Cc b r).2 :: rs)/\Az w (Cc b r).1:=by
 have key:∃ w rs,DJ (AD B0 fun _=>.cl) IU Pa (v :: fresh g)=some (w :: I (Cc b r).2 :: rs)/\Az w (Cc b r).1:=by
  unfold fresh Cc;rw[run48_2];unfold wd wi wv;rw[BF hv,cT,Cj hv,bV,MB hv hl,bV,BH,bV,Am];cases hb:b.right with
  | false=>exact⟨_,_,rfl,Bk⟩
  | true =>
   obtain⟨w,U,O⟩:=h hb;unfold fresh at U;rw[show (!true)=false from rfl];simp only[dE,iG,iH,bV,U,AW,AV,Cq O,cT,TL,Ct O];exact⟨_,_,rfl,O⟩
 obtain⟨w,rs,U,O⟩:=key;exact⟨w,rs,E9 (CD fun _=>.cl) (fn:=IU) rfl (Pf:=L6) rfl (H:=[.cv .jK,.fn 31 []]) (obs:=[]) rfl rfl (by simp[Ap,jN,hv.ok,fresh]) U,O⟩
theorem QV (hv:Az v b) (hl:b.n.length<=1000000) (hrl:rs.length=8)
  (h:b.right=true->∃ w,BK B0 IS 27 (v :: fresh g)=some (w :: CN r.2 :: rs)/\Az w r.1) :
  ∃ w,Ax B0 .cl (.fn 5 []) [.str g,v]=some (.jE [w,I (Cc b r).2])/\Az w (Cc b r).1:=by
 obtain⟨w,rs,U,O⟩:=check_0 hv hl hrl h;refine⟨w,El (by simp[Ap,jN,hv.ok]) ?_,O⟩;unfold fresh at U;rw[dI,dI,dW,run5,BF hv,cT,Cj hv,bV,zaq,bV];simp only[AW,AV,A1,Bc,BD,Cd,B9,Cm,U,bV,Cq O,cT,Ct O]
theorem zaw (hD:u6 g D) (N:jI×Int) (hv:Az v b) (hl:b.n.length<=1000000) :
  ∃ w,Ax B0 .cl (.fn 8 []) [.str g,v]=some (.jE [w,I (Cc b (FN D N b)).2])/\Az w (Cc b (FN D N b)).1:=by
 obtain⟨w,rs,U,O⟩:=check_1 hv hl fun _=>zav hD N hv hl;refine⟨w,El (by simp[Ap,jN,hv.ok]) ?_,O⟩;unfold fresh at U;rw[dI,dI,dW,run8,BF hv,cT,Cj hv,bV,zaq,bV];simp only[AW,AV,A1,Bc,BD,Cd,B9,Cm,U,bV,Cq O,cT,Ct O]
theorem zax (hM:Sw g M) (hv:Az v b) (hl:b.n.length<=1000000) :
  ∃ w,Ax B0 .cl (.fn 10 []) [.str g,v]=some (.jE [w,I (Cc b (F8 M b)).2])/\Az w (Cc b (F8 M b)).1:=by
 obtain⟨w,rs,U,O⟩:=check_2 hv hl fun _=>vd hM hv hl;refine⟨w,El (by simp[Ap,jN,hv.ok]) ?_,O⟩;unfold fresh at U;rw[dI,dI,dW,run10,BF hv,cT,Cj hv,bV,zaq,bV];simp only[AW,AV,A1,Bc,BD,Cd,B9,Cm,U,bV,Cq O,cT,Ct O]
def ve (D:jI->jI->jI×Int) (b:jI):jI×Int:=Df D (A2,102) b
theorem red_run (hD:u6 g D) (hU:Ax B0 .cl (.fn 80 []) [.str g]=some (.jE [.int .i64 n,.bool false])) (hv:Az v b) (hl:b.n.length<=1000000) :
  ∃ w,Ax B0 .cl (.fn 5 []) [.str g,v]=some (.jE [w,I (Cc b (ve D b)).2])/\Az w (Cc b (ve D b)).1:=by
 by_cases hn:b.n=[]
 ·obtain⟨x,rfl,A⟩:=hv.get;have hR:ve D b=(A2,102):=by unfold ve Df;rw[hn];rfl
  refine QV hv hl (rs:=[.int .u32 1,.int .i32 0,.int .u32 0,.str g,.bool false,.bool false,.jD,KO]) rfl fun _=>⟨C8,?_,?_⟩;{rw[hR];exact ax hU hv.ok (JL A) (Gn _ _ _) (by rw[A.len,hn];rfl)};{rw[hR];exact Bk}
 {exact QV hv hl rfl fun _=>SO hD _ hv hl hn}
end Go.Ab.jF


namespace Go.Ab.jF
open Go Go.Ab
theorem UG {f:Int->Int->Int×NE}:∀ {l:List (Int×Int)} {r:jo},Dj f l=.inr r->r.length=l.length
 | [],r,h=>by unfold Dj at h;cases h;rfl
 | p :: l,r,h=>by
  unfold Dj at h;split at h;·cases h
  ·split at h;·cases h
   {rename_i r' T;cases h;simp[UG T]}
theorem T3 {f:Int->Int×NE}:∀ {l:jo} {r:jo},FS f l=.inr r->r.length=l.length
 | [],r,h=>by unfold FS at h;cases h;rfl
 | p :: l,r,h=>by
  unfold FS at h;split at h;·cases h
  ·split at h;·cases h
   {rename_i r' T;cases h;simp[T3 T]}
theorem Tv (a b:jI):∀ (n i:Nat),(Dk a b i n).length=n
 | 0,_=>rfl
 | n+1,i=>by unfold Dk;rw[eS,Tv a b n (i+1)]
theorem Jt:A2.n.length<=400000:=by simp[A2]
theorem dy_le (g:ji) (a b:jI):(jI.dy g a b).1.n.length<=400000:=by
 unfold jI.dy;split;{exact Jt};split;{exact Jt};split;{exact Jt};split;{exact Jt};rename_i U _ h3 _;split;{exact Jt}
 ·rename_i r T;have U:(a.right&&b.right)=true:=by cases h:(a.right&&b.right)<;>simp_all
  simp only[dF] at U;have hs:=QR U.1 U.2 (Decidable.not_not.1 h3);show r.length<=400000;rw[UG T,Tv];have:=hs.2.1;omega
theorem mon_le (g:ji) (a:jI):(jI.q7 g a).1.n.length<=400000:=by
 unfold jI.q7;split;{exact Jt};split;{exact Jt};split;{exact Jt};rename_i U _ _;split;{exact Jt}
 ·rename_i r T;have U:a.right=true:=by cases h:a.right<;>simp_all
  show r.length<=400000;rw[T3 T];have:=G3 U;omega
end Go.Ab.jF


namespace Go.Ab
def X7 (oD:ja->jh->jx) (c:Ik):Ik:=fun E h dep g args e =>
 match dep,oD g args with
 | 0,some r=>some (r,[],e)
 | _,_=>c E h dep g args e
def Po (oD:ja->jh->jx) (sp:ja->(Nm->jk)->jh->js) (jO:ja->jt):Nat->Bp
 | 0=>Fh sp jO 0
 | n+1=>{Fh sp jO 0 with call:=X7 oD (JU (Po oD sp jO n) n jO),io:=Hp (Po oD sp jO n) n jO}
def zay (oD:ja->jh->jx) (sp:ja->(Nm->jk)->jh->js) (jO:ja->jt) (n:Nat):Ik:=(Po oD sp jO n).call
section oD
variable {oD:ja->jh->jx} {sp:ja->(Nm->jk)->jh->js} {jO:ja->jt}
 (hm:∀ g args r,oD g args=some r->∃ n,Br sp jO n Unit AI 0 g args ()=some (r,[],()))
include hm
theorem vf:∀ n,Ht (Po oD sp jO n) (Fh sp jO):=by
 intro n;induction n with
 | zero=>exact Yv 0
 | succ n ih =>
  have hk:=WL ih n jO;refine Ht.sx ⟨fun k=>rfl,?_,fun k=>rfl,fun k=>rfl,fun k=>rfl,fun g dst σ vs out h=>Yf ih n jO g dst σ vs out h⟩ rfl rfl rfl rfl;intro E1 E2 RE U O hh dep g args e1 e2 he r obs lG h;simp only[Po,X7] at h;split at h;{rename_i r' T;cases h;obtain⟨m,oY⟩:=hm g args r T;obtain⟨_,rfl,a,ha⟩:=Ti m Unit E2 (fun _ e=>e2=e) AI (fun k=>O (k - 1)) (fun _ _ _ _ _ _ _ h=>by cases h) 0 g args () e2 rfl r [] () oY;exact⟨e2,he,a,fun k hk=>ha (k+1) (by omega)⟩};{exact hk E1 E2 RE U O hh _ g args e1 e2 he r obs lG h}
theorem ev_memo {n:Nat} {g:ja} {args:jh} {r:W} (h:zay oD sp jO n Unit AI 0 g args ()=some (r,[],())):∃ m,Br sp jO m Unit AI 0 g args ()=some (r,[],()):=by obtain⟨m,oY⟩:=Tm (vf hm n) g args h;exact⟨m,oY m (dH _)⟩
end oD
mutual
def zaz:W->W->Bool
 | .bool a,.bool b=>a==b
 | .int k n,.int k' n'=>decide (k=k')&&decide (n=n')
 | .str s,.str s'=>decide (s=s')
 | .jD,.jD=>true
 | .jK,.jK=>true
 | .agg cs,.agg mn=>NC cs mn
 | .sl k H f,.sl k' xs' f'=>decide (k=k')&&(f==f')&&NC H xs'
 | _,_=>false
def NC:jh->jh->Bool
 | [],[]=>true
 | x :: H,y :: ys=>zaz x y&&NC H ys
 | _,_=>false
end
mutual
theorem zaA:∀ (x y:W),zaz x y=true->x=y
 | x,y,h=>by
  unfold zaz at h;split at h;{simpa using h};{simp only[dF,iK] at h;rw[h.1,h.2]};{simp only[iK] at h;rw[h]};{rfl};{rfl};{rename_i cs mn;rw[QD cs mn h]};{rename_i k H f k' xs' f';simp only[dF,iK,iL] at h;rw[h.1.1,h.1.2,QD H xs' h.2]};{cases h}
theorem QD:∀ (H ys:jh),NC H ys=true->H=ys
 | H,ys,h=>by
  unfold NC at h;split at h;{rfl};{rename_i x H y ys;simp only[dF] at h;rw[zaA x y h.1,QD H ys h.2]};{cases h}
end
abbrev K2:=List (ja×jh×W)
def Rj:K2->ja->jh->jx
 | [],_,_=>none
 | p :: l,g,args=>if p.1=g/\NC p.2.1 args=true then some p.2.2 else Rj l g args
def KM (sp:ja->(Nm->jk)->jh->js) (jO:ja->jt) (l:K2):Prop :=
 ∀ p∈l,∃ n,Br sp jO n Unit AI 0 p.1 p.2.1 ()=some (p.2.2,[],())
theorem P3 {sp:ja->(Nm->jk)->jh->js} {jO:ja->jt}:KM sp jO []:=fun _ h=>by cases h
variable{l:K2}
theorem D2 {sp:ja->(Nm->jk)->jh->js} {jO:ja->jt} {g:ja} {args:jh} {r:W} 
  (h:∃ n,Br sp jO n Unit AI 0 g args ()=some (r,[],())) (hl:KM sp jO l):KM sp jO ((g,args,r) :: l):=fun p hp=>by
 rcases dM.1 hp with rfl | hp;{exact h};{exact hl p hp}
theorem Wm {sp:ja->(Nm->jk)->jh->js} {jO:ja->jt}:∀ {l:K2},KM sp jO l->∀ g args r,Rj l g args=some r->∃ n,Br sp jO n Unit AI 0 g args ()=some (r,[],())
 | [],_,_,_,_,h=>by cases h
 | p :: l,hl,g,args,r,h=>by
  unfold Rj at h;split at h
  ·rename_i hp;cases h;have:=hl p d7
   rwa [hp.1,QD _ _ hp.2] at this
  {exact Wm (fun q hq=>hl q (dZ _ hq)) g args r h}
theorem BW {sp:ja->(Nm->jk)->jh->js} {jO:ja->jt} (hl:KM sp jO l) {n:Nat} {g:ja} {args:jh} {r:W}
  (h:zay (Rj l) sp jO n Unit AI 0 g args ()=some (r,[],())):∃ m,Br sp jO m Unit AI 0 g args ()=some (r,[],()):=ev_memo (Wm hl) h
end Go.Ab

