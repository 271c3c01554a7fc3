/- Part 10 of a proof: laws of a machine. -/
import Derived.Test.YthakoglihciegaaGreatDoorK05
import Derived.Test.YthakoglihciegaaGreatDoorK09
set_option linter.all false

namespace Go.Ab.jF.Sh
open Go Go.Ab Go.Ab.jF
variable{a:jI} {args:jn} {d:Nat->Bu} {es:jh} {f fr:Bool} {fn:Au} {g:ja} {j:Nat} {l:jo} {u v:W}
theorem dw (ht:A9 g=some fn) (hg:GU g) (ha:Bj args) (hu:∀ x∈args,FP x=false) (hl:Nat.ble args.length fn.nt=true)
  (T:AH (AD B0 d) fn .cl AI 0 args ()=some (u,())) (lF:fn.io=false:=by rfl) (hb:Nat.blt g CR=true:=by rfl):Ax B0 .cl (.fn g []) (AP args)=some u:=callK ht hg ha hu rfl hl T lF hb
variable{args:jh}
theorem lend (ht:A9 g=some fn) (ha:Ap args=true) (hl:Nat.ble args.length fn.nt=true)
  (T:AH (AD B0 d) fn .cl AI 0 (args.map KV.cv) ()=some (u,())) (nD:(u.free&&!GI A9 g)=fr):Bd B0 .cl fr g args=some u :=
 PU (CD d) ht ha (dS hl) T nD
theorem QT (n:Int):AB 1 1 [I n] 0 (Ah [I n])=.sl 1 (An [n]) false:=rfl
def Mp (n:Int):W:=.agg [.bool false,.bool false,.sl 1 (An [n]) false]
def oW (n:Int):jI:=⟨false,false,[n]⟩
theorem Rg (n:Int):Az (Mp n) (oW n):=.mk _ _ _ _ (.sl _ _)
theorem X1 (n:Int):Ax B0 .cl (.fn 166 []) [I n]=some (Mp n):=by refine Bm rfl ?_;rw[run166,Fu,QT];rfl
def kQ (r:Bool):Int:=if r then 32 else 0
theorem Ys (r:Bool):Ax B0 .cl (.fn 202 []) [.bool r]=some (I (kQ r)):=by refine Bm rfl ?_;rw[run202];cases r<;>rfl
theorem ct (l:jo):F7 (An l)=true:=by
 induction l with
 | nil=>rfl
 | cons a l ih=>simpa[An,F7,W.free,I] using ih
theorem zaC (ht:A9 g=some fn) (ha:Ap args=true) (hl:Nat.ble args.length fn.nt=true)
  (T:AH (AD B0 d) fn (.own 1) AI 0 (args.map KV.cv) ()=some (.sl 1 (An l) false,())) (hle:fn.kr=false:=by rfl):Bd B0 (.own 1) true g args=some (.sl 1 (An l) false):=by
 obtain⟨r,obs,U,O⟩:=MW (CD d) ht (hn:=fun _=>AI) noH (Ps ha) Pq (by simpa using dS hl) T;rw[Nu] at O;have hL:B0.L Unit AI 0 g args ()=some (r,obs,()):=Kz O
 have mv:(r.free&&obs.all Ob.free)=true:=by
  unfold EY at U;simp only[Dq] at U;split at U
  ·rename_i r' j oV;split at oV
   ·rename_i V k' o n nx H ho;obtain⟨c1,c2⟩:=BC oV;cases c2;obtain⟨c3,c4⟩:=BC U;injection c4 with c4;injection c4 with _ c4 _;subst c4;simp only[iL] at c3
    match obs,ho,c3 with
    | [o],ho,_ =>
     simp at ho;subst ho;simp[W.free,Ob.free,ct]
    | [],ho,_=>simp at ho
    | _ :: _ :: _,_,c3=>simp at c3
   {cases oV}
  {cases U}
 unfold Bd;rw[(DQ ha).2];have pr:B0.kr g=false:=by show GI A9 g=false;unfold GI;rw[ht];exact hle
 simp only[dE,iG,hL,mv,pr,d8,f9,iU,AO];exact U
def Dr (c:Int):W:=if c=0 then .jK else .iface 210 (.agg [I c])
theorem zak:Dr 0=.jK:=rfl
theorem UD (c:Int):jN (Dr c)=true:=by unfold Dr;split<;>rfl
theorem FI (c:Int):Ad (.bin .neq .iface true (.c (Dr c)) (.c .jK))=some (.bool (decide (c≠0))):=by unfold Dr;by_cases h:c=0;{simp only[h,iH];rfl};{rw[iI h,show decide (c≠0)=true by simp[h]];rfl}
theorem O4 (c:Int):Ad (.bin .eql .iface true (.c (Dr c)) (.c .jK))=some (.bool (decide (c=0))):=by unfold Dr;by_cases h:c=0;{simp only[h,iH];rfl};{rw[iI h,show decide (c=0)=false by simp[h]];rfl}
theorem Jk:Ad (.build [.bool false,.bool false,.jD] [])=some (.agg [.bool false,.bool false,.jD]):=rfl
theorem Ov (c:Int):Ax B0 .cl (.fn 117 []) [Dr c]=some (I c):=by refine Bm (by simp[Ap,UD]) ?_;rw[run117];unfold Dr;by_cases h:c=0;{subst h;rfl};{simp only[h,iG];rfl}
theorem S0 (h:Az v a) (hl:a.n.length<=1000000):Ax B0 .cl (.fn 169 []) [v]=some (.bool (!a.right)):=by obtain⟨x,rfl,A⟩:=h.get;refine Bm (by simp[Ap,h.ok]) ?_;rw[run169];unfold wd wi wv;rw[DS,Cg rfl rfl A.cell,AO];simp only[BT,BG,ID,At,MB h hl,BH]
theorem IL {H:jh} {a b c:W} (h:H[j]?=some (.agg [a,b,c])):Ad (.jJ 3 (.c (.sl 3 H f)) (.c (I j)))=some (.ptr [a,b,c] 0):=by rw[I,MC (by omega) h];rfl
theorem right1 (h:Az v a) (hl:a.n.length<=1000000):Bd B0 .cl true 116 [.sl 3 [v] false]=some (.bool a.right):=by
 have hi:Ax B0 .cl (.fn 204 []) [.sl 3 [v] false,.fn 169 []]=some (I (if a.right then -1 else 0)):=by
  refine Ce (by simp[Ap,jN,h.ok]) ?_;rw[zU];unfold wc wj wo;rw[G4];simp only[At];rw[show AY [.sl 3 [v] false,.fn 169 [],.int .i64 (([v].length:Nat):Int),.int .i64 0]=true from rfl,AO];have he:=S0 h hl;obtain⟨x,rfl,A⟩:=h.get;cases T:a.right with
  | false =>
   refine B3 ?_;simp only[AW,AV,A1,Bc,Bg,AS,At,Am];rw[show Ad (.jJ 3 (.c (.sl 3 [.agg [.bool a.li,.bool a.ru,x]] false)) (.c (I 0)))=some (.ptr [.bool a.li,.bool a.ru,x] 0) from IL (j:=0) rfl];simp only[At,IK,he,T,d8,Am];rfl
  | true =>
   rw[DE (s':=([.sl 3 [.agg [.bool a.li,.bool a.ru,x]] false,.fn 169 [],I 1,I 1],()))];{exact B3 rfl};{simp only[AW,AV,A1,Bc,Bg,AS,At,Am];rw[show Ad (.jJ 3 (.c (.sl 3 [.agg [.bool a.li,.bool a.ru,x]] false)) (.c (I 0)))=some (.ptr [.bool a.li,.bool a.ru,x] 0) from IL (j:=0) rfl];simp only[At,IK,he,T,dK,Am];rfl}
 have hc:Ax B0 .cl (.fn 168 []) [.sl 3 [v] false,.fn 169 []]=some (.bool (!a.right)):=by refine Ce (by simp[Ap,jN,h.ok]) ?_;rw[zT,hi];simp only[At,Bg,Ef];cases a.right<;>rfl
 refine lend (d:=fun _=>.cl) rfl (by simp[Ap,jN,h.ok]) rfl ?_ rfl;rw[dI,dW,zR,hc];cases a.right<;>rfl
theorem right2 {b:jI} (h:Az v a) (hu:Az u b) (hl:a.n.length<=1000000) (hm:b.n.length<=1000000):Bd B0 .cl true 116 [.sl 3 [v,u] false]=some (.bool (a.right&&b.right)):=by
 have hi:Ax B0 .cl (.fn 204 []) [.sl 3 [v,u] false,.fn 169 []]=some (I (if a.right then (if b.right then -1 else 1) else 0)):=by
  refine Ce (by simp[Ap,jN,h.ok,hu.ok]) ?_;rw[zU];unfold wc wj wo;rw[G4];simp only[At];rw[show AY [.sl 3 [v,u] false,.fn 169 [],.int .i64 (([v,u].length:Nat):Int),.int .i64 0]=true from rfl,AO];have he:=S0 h hl;have qN:=S0 hu hm;obtain⟨x,rfl,A⟩:=h.get;obtain⟨y,rfl,hy⟩:=hu.get;have i0:Ad (.jJ 3 (.c (.sl 3 [.agg [.bool a.li,.bool a.ru,x],.agg [.bool b.li,.bool b.ru,y]] false)) (.c (I 0)))=some (.ptr [.bool a.li,.bool a.ru,x] 0):=IL (j:=0) rfl;have i1:Ad (.jJ 3 (.c (.sl 3 [.agg [.bool a.li,.bool a.ru,x],.agg [.bool b.li,.bool b.ru,y]] false)) (.c (I 1)))=some (.ptr [.bool b.li,.bool b.ru,y] 0):=IL (j:=1) rfl;cases T:a.right with
  | false =>
   refine B3 ?_;simp only[AW,AV,A1,Bc,Bg,AS,At,Am];rw[i0];simp only[At,IK,he,T,d8,Am];rfl
  | true =>
   rw[DE (s':=([.sl 3 [.agg [.bool a.li,.bool a.ru,x],.agg [.bool b.li,.bool b.ru,y]] false,.fn 169 [],I 2,I 1],()))]
   ·cases mL:b.right with
    | false =>
     refine B3 ?_;simp only[AW,AV,A1,Bc,Bg,AS,At,Am];rw[i1];simp only[At,IK,qN,mL,d8,Am];rfl
    | true =>
     rw[DE (s':=([.sl 3 [.agg [.bool a.li,.bool a.ru,x],.agg [.bool b.li,.bool b.ru,y]] false,.fn 169 [],I 2,I 2],()))];{exact B3 rfl};{simp only[AW,AV,A1,Bc,Bg,AS,At,Am];rw[i1];simp only[At,IK,qN,mL,dK,Am];rfl}
   {simp only[AW,AV,A1,Bc,Bg,AS,At,Am];rw[i0];simp only[At,IK,he,T,dK,Am];rfl}
 have hc:Ax B0 .cl (.fn 168 []) [.sl 3 [v,u] false,.fn 169 []]=some (.bool (!(a.right&&b.right))):=by refine Ce (by simp[Ap,jN,h.ok,hu.ok]) ?_;rw[zT,hi];simp only[At,Bg,Ef];cases a.right<;>cases b.right<;>rfl
 refine lend (d:=fun _=>.cl) rfl (by simp[Ap,jN,h.ok,hu.ok]) rfl ?_ rfl;rw[dI,dW,zR,hc];cases a.right<;>cases b.right<;>rfl
def gR:ji:=[226,141,180]
def gI:ji:=[226,141,179]
def gC:ji:=[44]
def gT:ji:=[226,140,189]
def gU:ji:=[226,134,145]
def gD:ji:=[226,134,147]
def gN:ji:=[226,137,162]
def Jp (g:ji):W :=
 if g=gR then .fn 152 [] else if g=gI then .fn 154 [] else if g=gC then .fn 156 [] else if g=gT then .fn 160 [] else if g=gU then .fn 162 [] else if g=gN then .fn 165 [] else .jV
def Cn (g:ji):W :=
 if g=gR then .fn 153 [] else if g=gI then .fn 155 [] else if g=gC then .fn 159 [] else if g=gT then .fn 161 [] else if g=gU then .fn 163 [] else if g=gD then .fn 164 [] else if g=gN then .fn 167 [] else .jV
def funs:W:=.ki [.str gR,.agg [.fn 152 [],.fn 153 []],.str gI,.agg [.fn 154 [],.fn 155 []],.str gC,.agg [.fn 156 [],.fn 159 []],.str gT,.agg [.fn 160 [],.fn 161 []],.str gU,.agg [.fn 162 [],.fn 163 []],.str gD,.agg [.jV,.fn 164 []],.str gN,.agg [.fn 165 [],.fn 167 []]]
theorem Yo:Ax B0 .cl (.fn 115 []) []=some funs:=by obtain⟨n,h⟩:=e66_0;exact Dw (by decide) h rfl rfl
theorem CB {g x:ji} (h:¬ g=x):Ed (.str g) (.str x :: v :: es)=Ed (.str g) es:=by
 have:(g==x)=false:=by simp[h]
 simp[Ed,JX,this]
theorem X9 (g:ji):Ad (.lookup .str (.agg [.jV,.jV]) false (.c funs) (.c (.str g)))=some (.agg [Jp g,Cn g]):=by unfold Jp Cn;by_cases U:g=gR;{subst U;rfl};by_cases O:g=gI;{subst O;rfl};by_cases h3:g=gC;{subst h3;rfl};by_cases h4:g=gT;{subst h4;rfl};by_cases h5:g=gU;{subst h5;rfl};by_cases h6:g=gD;{subst h6;rfl};by_cases h7:g=gN;{subst h7;rfl};simp only[U,O,h3,h4,h5,h6,h7,iG];unfold funs;simp only[Ad,exec,RX.ev];rw[CB U,CB O,CB h3,CB h4,CB h5,CB h6,CB h7];rfl
end Go.Ab.jF.Sh


namespace Go.Ab.jF.Sh
open Go Go.Ab Go.Ab.jF
variable{a:jI} {k n:Nat} {v y:W}
def BU (a:jI):Int:=if a.n.length≠1 then 111 else if a.ru then 102 else 0
def A4 (a:jI):Int:=if BU a=0 then a.n.headD 0 else 0
theorem Qr (h:Az v a) (hl:a.n.length<=1000000):Ax B0 .cl (.fn 197 []) [v]=some (.jE [I (A4 a),Dr (BU a)]):=by
 obtain⟨x,rfl,A⟩:=h.get;refine Bm (by simp[Ap,h.ok]) ?_;rw[run197];unfold wc wf wg wh wr;rw[DS,Cg rfl rfl A.cell,AO];simp only[BT,BG,H6,GN,Gn,At,A.len,Bg,Cf,Am];unfold A4 BU;by_cases U:a.n.length=1
 ·have e:(((a.n.length:Int) != 1)=true)↔False:=by simp[U]
  have e2:¬ (a.n.length≠1):=by simp[U]
  simp only[e,e2,iG];cases T:a.ru with
  | true =>
   simp only[iH];rfl
  | false =>
   simp only[dE,iG];have hi:=A.idx (i:=0) (by omega);rw[show ((0:Nat):Int)=0 from rfl] at hi;rw[hi];simp only[At,C0];have:a.n.headD 0=a.n[0]'(by omega):=by rw[List.headD_eq_head?_getD,List.head?_eq_getElem?,dQ (by omega)];rfl
   rw[this];rfl
 ·have e:(((a.n.length:Int) != 1)=true):=by simp;omega
  simp only[e,iH];rw[iJ U];rfl
theorem Zt {b c:W} {x z:W} (hb:b.cells=[b]) (hc:c.cells=[c]) (vb:b.isVal=true) (vc:c.isVal=true) :
  Ad (.build [x,y,z] [(0,(1,.c b)),(2,(1,.c c))])=some (.agg [b,y,c]):=by
 simp[Ad,exec,ET,RX.ev,hb,hc,vb,vc,j0,AN]
def Jn (v:W):W:=.agg [.bool true,.bool false,v]
def EV (r:Bool) (v:W):W:=.agg [.bool true,.bool r,v]
theorem VQ:Ax B0 .cl (.fn 195 []) [.jD]=some (Jn .jD):=by refine Bm rfl ?_;rw[z6,Zt rfl rfl rfl rfl];rfl
theorem ZX (l:jo) (f:Bool):Bd B0 .cl false 195 [.sl 1 (An l) f]=some (Jn (.sl 1 (An l) f)):=by refine lend (d:=fun _=>.cl) rfl (by simp[Ap,jN,E8]) rfl ?_ rfl;rw[dI,dW,z6,Zt rfl rfl rfl rfl];rfl
theorem Ol (h:Az v a) (l:jo) (f:Bool):Bd B0 .cl false 157 [v,.sl 1 (An l) f]=some (EV a.ru (.sl 1 (An l) f)):=by obtain⟨x,rfl,A⟩:=h.get;refine lend (d:=fun _=>.cl) rfl (by simp[Ap,jN,E8,A.ok]) rfl ?_ rfl;rw[dI,dI,dW,zY,DS,Cg rfl rfl A.cell,AO];simp only[BT,BG,GN,At];rw[Pu rfl rfl rfl rfl rfl rfl];rfl
theorem vg (h:Az v a):Ax B0 .cl (.fn 157 []) [v,.sl 1 [] false]=some (EV a.ru (.sl 1 (An []) false)):=by obtain⟨x,rfl,A⟩:=h.get;refine Ce (by simp[Ap,jN,A.ok]) ?_;rw[zY,DS,Cg rfl rfl A.cell,AO];simp only[BT,BG,GN,At];rw[Pu rfl rfl rfl rfl rfl rfl];rfl
theorem U3 (h:n<=1000000):K5 (I n) (I n)=some n:=by
 have:n<=Gl:=by unfold Gl;omega
 simp[K5,I,DL,Ae,this]
theorem OM (h:Az v a) (hl:a.n.length<=1000000):Ax B0 (.own 1) (.fn 158 []) [v]=some (.sl 1 (An a.n) false):=by
 obtain⟨x,rfl,A⟩:=h.get;refine Bm (by simp[Ap,h.ok]) ?_;rw[run158];unfold wc wg;rw[DS,Cg rfl rfl A.cell,AO];simp only[BT,BG,Gn,At,A.len,U3 hl,A.elems];have e:A5 (A5 (Aq 0 (HO a.n.length (.int .i64 0))) (Aq a.n.length (An a.n))) (AE (As 0 (Ah (Aq a.n.length (An a.n)))) (HO a.n.length (.int .i64 0)))=An a.n:=by simp[BA,dV]
 rw[e];simp[BA]
def Hm (g:ja) (v:W) (r:jI) (c:Int):Prop:=∃ y,Ax B0 .cl (.fn g []) [v]=some (.jE [y,Dr c])/\Az y r
theorem Cq (h:Az y a):Aw y 3=true:=by obtain⟨x,rfl,A⟩:=h.get;exact Jz (Cg rfl rfl A.cell)
theorem zaD (h:Az y a):W.agg [Af y 0,Af y 1,Af y 2]=y:=by obtain⟨x,rfl,A⟩:=h.get;rfl
def Ny (a:jI):jI:=⟨true,false,if a.li then [(a.n.length:Int)] else []⟩
theorem QC (h:Az v a) (hl:a.n.length<=1000000):Hm 152 v (Ny a) 0:=by
 obtain⟨x,rfl,A⟩:=h.get;cases mi:a.li with
 | false =>
  refine⟨Jn .jD,?_,by unfold Ny;rw[mi];exact .mk _ _ _ _ .nil⟩;rw[<-mi];refine Bm (by simp[Ap,h.ok]) ?_;rw[zV];unfold wc we wg wi wv;rw[DS,Cg rfl rfl A.cell,AO];simp only[BT,BG,H6,At,BH,mi,Am,d8,iH,VQ];rfl
 | true =>
  refine⟨Jn (.sl 1 (An [(a.n.length:Int)]) false),?_,by unfold Ny;rw[mi];exact .mk _ _ _ _ (.sl _ _)⟩;rw[<-mi];refine Bm (by simp[Ap,h.ok]) ?_;rw[zV];unfold wc we wg wi wv;rw[DS,Cg rfl rfl A.cell,AO];simp only[BT,BG,H6,Gn,At,BH,mi,Am,dK,dE,iG,A.len,Fu,AO,QT,ZX];rfl
theorem vh (h:Az v a) (hl:a.n.length<=1000000):Hm 156 v ⟨true,a.ru,a.n⟩ 0:=by
 obtain⟨x,rfl,A⟩:=h.get;refine⟨EV a.ru (.sl 1 (An a.n) false),?_,.mk _ _ _ _ (.sl _ _)⟩;refine Bm (by simp[Ap,h.ok]) ?_;rw[run156];unfold wd;rw[DS,Cg rfl rfl A.cell,AO];simp only[BT,BG,ID,At,OM h hl,BB];have e:AB 1 1 (An a.n) 0 (Ah (An a.n))=.sl 1 (An a.n) false:=by simp[AB]
 rw[e,Ol h];rfl
theorem Ko (l:jo):AB 1 1 (An l) 0 (Ah (An l))=.sl 1 (An l) false:=by simp[AB]
theorem Oy (l:jo) (hk:k<=l.length):AB 1 1 (An l) 0 k=.sl 1 (An (l.take k)) false:=by
 have:k<=(An l).length:=by rw[BA];exact hk
 simp[AB,this,Ln]
theorem zaE (l:jo) {o:Nat} (hk:o+n<=l.length):AB 1 1 (An l) o n=.sl 1 (An ((l.drop o).take n)) false:=by
 have:o+n<=(An l).length:=by rw[BA];exact hk
 simp[AB,this,Ln,Xr]
def EX (a:jI):jI:=⟨false,a.ru,(a.n++[kQ a.ru]).take 1⟩
theorem zaF (h:Az v a) (hl:a.n.length<=1000000):Hm 162 v (EX a) 0:=by
 obtain⟨x,rfl,A⟩:=h.get;refine⟨.agg [.bool false,.bool a.ru,.sl 1 (An ((a.n++[kQ a.ru]).take 1)) false],?_,.mk _ _ _ _ (.sl _ _)⟩;refine Bm (by simp[Ap,h.ok]) ?_;rw[run162];unfold wd wf wv;rw[DS,Cg rfl rfl A.cell,AO];simp only[BT,BG,ID,GN,At,OM h hl,Ys,BB,Fu,AO];have e0:Ay (As 0 (Ah [I (kQ a.ru)])) (Ah [I (kQ a.ru)])=true:=rfl
 have e1:Bb (Ay (Ah (An a.n)) (Ah (An a.n))) (Ay (As (Ah (An a.n)) (Ah (Aq (Ah [I (kQ a.ru)]) (AE 0 [I (kQ a.ru)])))) 2147483648)=true:=by
  have:a.n.length+1<=2147483648:=by omega
  simp[BA,this]
 have e2:As (Ah (An a.n)) (Ah (Aq (Ah [I (kQ a.ru)]) (AE 0 [I (kQ a.ru)])))=a.n.length+1:=by simp[BA]
 have e3:A5 (Aq (Ah (An a.n)) (An a.n)) (Aq (Ah [I (kQ a.ru)]) (AE 0 [I (kQ a.ru)]))=An (a.n++[kQ a.ru]):=by rw[show Aq (Ah [I (kQ a.ru)]) (AE 0 [I (kQ a.ru)])=[I (kQ a.ru)] from rfl];simp[An,dV]
 have e4:∀ k,1<=k->Ev (some (.int .i64 1)) (a.n.length+1) k=some 1:=by intro k hk;simp[Ev,C9,DL,AN,hk]
 rw[e0,e1,e2,e3,e4 _ (by omega)];simp only[AO,At];rw[e4 _ (by omega)];simp only[At];rw[Oy _ (by simp)];have e5:Aw (W.bool a.ru) 1=true:=rfl;have e6:Af (W.bool a.ru) 0=.bool a.ru:=rfl;rw[e5,e6,AO];have e7:A6 (.jE [.agg [.bool false,.bool a.ru,.sl 1 (An ((a.n++[kQ a.ru]).take 1)) false],.jK])=true:=by simp[A6,jN,Ap,E8]
 rw[e7,AO];rfl
theorem len_run (h:Az v a):Hm 165 v (oW a.n.length) 0:=by obtain⟨x,rfl,A⟩:=h.get;refine⟨Mp a.n.length,?_,Rg _⟩;refine Bm (by simp[Ap,h.ok]) ?_;rw[run165];unfold wc wg wv;rw[DS,Cg rfl rfl A.cell,AO];simp only[BT,BG,Gn,At,A.len,X1];rfl
def E0 (n:Nat):jo:=(List.range n).map fun i=>((i+1:Nat):Int)
theorem WP (n:Nat):E0 (n+1)=E0 n++[((n+1:Nat):Int)]:=by simp[E0,List.range_succ]
theorem Jv (n:Nat):(E0 n).length=n:=by simp[E0]
def Eu (a:jI):Int:=if BU a≠0 then BU a else if A4 a < 0 then 102 else if 200 < A4 a then 113 else 0
def Gw (a:jI):jI:=if Eu a=0 then ⟨true,false,E0 (A4 a).toNat⟩ else A2
theorem vi (h:Az v a) (hl:a.n.length<=1000000):Hm 154 v (Gw a) (Eu a):=by
 have nD:=Qr h hl;obtain⟨x,rfl,A⟩:=h.get;by_cases h0:Eu a=0
 ·refine⟨Jn (.sl 1 (An (E0 (A4 a).toNat)) false),?_,by unfold Gw;rw[iJ h0];exact .mk _ _ _ _ (.sl _ _)⟩;have U:BU a=0:=by unfold Eu at h0;by_cases U:BU a=0;{exact U};{rw[iJ U] at h0;exact iW h0 U}
  have O:¬ A4 a < 0:=by intro O;unfold Eu at h0;rw[iI (by simpa using U),iJ O] at h0;cases h0
  have h3:¬ 200 < A4 a:=by intro h3;unfold Eu at h0;rw[iI (by simpa using U),iI O,iJ h3] at h0;cases h0
  rw[h0];refine Bm (by simp[Ap,h.ok]) ?_;rw[zW];unfold wa wb wd wj wm wn wo wv;rw[DS,Cg rfl rfl A.cell,AO];simp only[BT,BG,ID,At,nD,BS,dP,dR,FI,Am,U];simp only[iX,iQ,iN,dE,iG,Bg,AS,CT,At,Am,O,h3,VQ];rw[show Aw (Jn .jD) 3=true from rfl,show Af (Jn .jD) 2=.jD from rfl,show Af (Jn .jD) 0=.bool true from rfl,show Af (Jn .jD) 1=.bool false from rfl,AO];obtain⟨N,hN⟩:∃ N:Nat,A4 a=N:=⟨(A4 a).toNat,by omega⟩;rw[hN] at h3 |-;have hN2:N<=200:=by omega
  rw[show AY [I N,I 0]=true from rfl,AO];simp only[CU]
  have:=G7 (step:=(fun b=>Ac (Ad (.bin .lss .num false (.c (J b.1 1)) (.c (J b.1 0)))) (fun d=>Ai d (Ac (Ad (.bin .add .num true (.c (J b.1 1)) (.c (I 1)))) (fun d =>
   Ae (AX 1 [d]) (Ae (Ay (As 0 (Ah [d])) (Ah [d])) (Ae (Bb (Ay (Aj (J b.1 7)) (Ah (Ao (J b.1 8)))) (Ay (As (Aj (J b.1 7)) (Ah
   (Aq (Ah [d]) (AE 0 [d])))) 2147483648)) (Ac (Ad (.bin .add .num true (.c (J b.1 1)) (.c (I 1)))) (fun e=>some (.inl ([J b.1 0,e,J b.1
   2,J b.1 3,J b.1 4,J b.1 5,J b.1 6,nI (As (Aj (J b.1 7)) (Ah (Aq (Ah [d]) (AE 0 [d])))),.sl 1 (A5 (Aq (Aj (J b.1 7)) (Ao
   (J b.1 8))) (Aq (Ah [d]) (AE 0 [d]))) false],b.2)))))))) (Ac (Ae (A6 (W.jE [.agg [J b.1 5,J b.1 6,AB 1 1 (Ao (J b.1 8)) 0 (Aj (J
   b.1 7))],.jK])) (some (W.jE [.agg [J b.1 5,J b.1 6,AB 1 1 (Ao (J b.1 8)) 0 (Aj (J b.1 7))],.jK],b.2))) fun b=>some (.inr b)))))
   (s0:=(([I N,I 0,.bool false,.bool false,.jD,.bool true,.bool false,nI 0,.sl 1 [] false],()):jh×Unit)) (r:=(.jE [Jn (.sl 1 (An (E0 N)) false),.jK],()))
   (fun i=>([I N,I i,.bool false,.bool false,.jD,.bool true,.bool false,I i,.sl 1 (An (E0 i)) false],())) N rfl (fun i jP=>?_) ?_
  {exact this}
  ·simp only[AW,AV,A1,Bc,BD,Cd,B9,Cm,CS,AS,At,Am];rw[iJ (by simpa using jP)];simp only[BN,At,Cs (by omega:i < 9223372036854775807),Fu,AO];rw[show Ay (As 0 (Ah [I ((i+1:Nat):Int)])) (Ah [I ((i+1:Nat):Int)])=true from rfl,AO]
   have e1:Bb (Ay (Aj (I i)) (Ah (Ao (.sl 1 (An (E0 i)) false)))) (Ay (As (Aj (I i)) (Ah (Aq (Ah [I ((i+1:Nat):Int)]) (AE 0 [I ((i+1:Nat):Int)])))) 2147483648)=true:=by
    have:i+1<=2147483648:=by omega
    simp[BA,Jv,this]
   rw[e1,AO];have e2:As (Aj (I i)) (Ah (Aq (Ah [I ((i+1:Nat):Int)]) (AE 0 [I ((i+1:Nat):Int)])))=i+1:=by simp
   have e3:A5 (Aq (Aj (I i)) (Ao (.sl 1 (An (E0 i)) false))) (Aq (Ah [I ((i+1:Nat):Int)]) (AE 0 [I ((i+1:Nat):Int)]))=An (E0 (i+1)):=by rw[WP];have:(An (E0 i)).take i=An (E0 i):=dV (by simp[BA,Jv]);simp[An] at this |-;simpa using this
   rw[e2,e3];rfl
  ·simp only[AW,AV,A1,Bc,BD,Cd,B9,Cm,CS,AS,At,Am,BB];rw[iI (by simp)];have e1:AB 1 1 (An (E0 N)) 0 (Aj (I N))=.sl 1 (An (E0 N)) false:=by have:=Oy (E0 N) (k:=N) (by rw[Jv];exact dH _);rw[dV (by rw[Jv];exact dH _)] at this;simpa using this
   rw[e1];have e7:A6 (.jE [.agg [.bool true,.bool false,.sl 1 (An (E0 N)) false],.jK])=true:=by simp[A6,jN,Ap,E8]
   rw[e7];rfl
 {refine⟨.agg [.bool false,.bool false,.jD],?_,by unfold Gw;rw[iI h0];exact Bk⟩;refine Bm (by simp[Ap,h.ok]) ?_;rw[zW];unfold wa wb wd wj wm wn wo wv;rw[DS,Cg rfl rfl A.cell,AO];simp only[BT,BG,ID,At,nD,BS,dP,dR,FI,Am];unfold Eu at h0 |-;by_cases U:BU a=0;{simp only[U,iX,iQ,iN,dE,iG,Bg,AS,CT,At,Am] at h0 |-;by_cases O:A4 a < 0;{simp only[O,iM,iH];rfl};{simp only[O,iN,dE,iG] at h0 |-;by_cases h3:200 < A4 a;{simp only[h3,iM,iH];rfl};{simp only[h3,iG] at h0;exact iW trivial h0}}};{simp only[U,iX,iV,iM,iH];try rfl}}
end Go.Ab.jF.Sh


namespace Go.Ab.jF.Sh
open Go Go.Ab Go.Ab.jF
variable{a:jI} {i k:Nat} {l:jo} {n:Int} {v:W}
def IT (i:Nat) (l:jo):jo:=(List.range l.length).map fun k=>if k < i\/l.length - i<=k then l.getD (l.length - 1 - k) 0 else l.getD k 0
theorem Lq (i:Nat) (l:jo):(IT i l).length=l.length:=by simp[IT]
theorem ML (h:k < l.length):(IT i l)[k]?=some (if k < i\/l.length - i<=k then l.getD (l.length - 1 - k) 0 else l.getD k 0):=by unfold IT;rw[dT,fA h];rfl
theorem vj (l:jo):IT 0 l=l:=by
 apply eO;intro k;by_cases h:k < l.length
 ·rw[ML h];have:¬ (k < 0\/l.length - 0<=k):=by omega
  rw[iI this,dO,dQ h];rfl
 {rw[ew (by rw[Lq];omega),ew (by omega)]}
theorem zaG (l:jo):IT (l.length / 2) l=l.reverse:=by
 apply eO;intro k;by_cases h:k < l.length
 ·rw[ML h,List.getElem?_reverse h];have e:∀ m,m < l.length->l[m]?=some (l.getD m 0):=fun m hm=>by rw[dO,dQ hm];rfl
  rw[e _ (by omega)];by_cases hc:k < l.length / 2\/l.length - l.length / 2<=k;{rw[iJ hc]}
  ·rw[iI hc];have:k=l.length - 1 - k:=by omega
   rw[<-this]
 {rw[ew (by rw[Lq];omega),ew (by simp;omega)]}
theorem WC (h:l[k]?=some n):IP (An l) (As 0 k) 0 1 false=some (I n):=by
 have:(An l)[k]?=some (I n):=by simp[An,h]
 simp[IP,this]
theorem Od (h:k < l.length):F9 1 (An l) (As 0 k) 0 1 (I n)=some (An (l.set k n)):=by
 have:(An l)[k]?=some (I l[k]):=Yk h;have e:(An l).set k (I n)=An (l.set k n):=by simp[An,fU]
 simp only[F9,JK,eu,this,I];rw[<-e];rfl
theorem nW (n:Nat):Fl (I n)=some n:=zl .i64 n
theorem vk (h:2*i+2<=l.length):((IT i l).set i (l.getD (l.length - 1 - i) 0)).set (l.length - 1 - i) (l.getD i 0)=IT (i+1) l:=by apply eO;intro k;by_cases hk:k < l.length;{rw[ML hk,gr,gr,gz,Lq,ML hk];by_cases U:l.length - 1 - i=k;{subst U;rw[iJ rfl,iJ (by omega),iJ (by omega)];congr 2;omega};{rw[iI U];by_cases O:i=k;{subst O;rw[iJ rfl,iJ (by omega),iJ (by omega)]};{rw[iI O];by_cases h3:k < i\/l.length - i<=k;{rw[iJ h3,iJ (by omega)]};{rw[iI h3,iI (by omega)]}}}};{rw[ew (by simp[Lq];omega),ew (by rw[Lq];omega)]}
theorem wsub {a b:Int} (U : -9223372036854775808<=a - b) (O:a - b<=9223372036854775807):IntKind.i64.wrap (a - b)=a - b:=Dc U O
set_option maxHeartbeats 800000 in
theorem ap (l:jo) (hl:l.length<=1000000):BK B0 Py 201 [nI (Ah (An l)),.sl 1 (An l) false]=some [.sl 1 (An l.reverse) false]:=by
 refine E9 (cfg:=AD B0 fun _=>.cl) (CD _) (fn:=RR) rfl (Pf:=UN) rfl (H:=[]) (obs:=[]) rfl rfl (by simp[Ap,jN,E8]) ?_;rw[show UN [] []=Py from rfl,run201];unfold wj wo;have hn:nI (Ah (An l))=I l.length:=by simp[BA,I]
 rw[hn];simp only[AW,AV,Cl,dN,BB];rw[show nI l.length=I l.length from rfl];simp only[Bg,GV,At];rw[wsub (by omega) (by omega),show AY [I l.length,I 0,I ((l.length:Int) - 1)]=true from rfl,AO];refine G7 (fun i=>([I l.length,I i,I ((l.length:Int) - 1 - i),.sl 1 (An (IT i l)) false],())) (l.length / 2) (by rw[vj];simp) (fun i jP=>?_) ?_
 ·simp only[AW,AV,A1,Bc,AS,At,Am,Cl,dN,BB,nW];have hj:(l.length:Int) - 1 - i=((l.length - 1 - i:Nat):Int):=by omega
  have e0:decide ((i:Int) < (l.length:Int) - 1 - i)=true:=by simp;omega
  rw[e0];simp only[iH];rw[hj,nW];have g1:(IT i l)[l.length - 1 - i]?=some (l.getD (l.length - 1 - i) 0):=by rw[ML (by omega),iI (by omega)]
  have g2:(IT i l)[i]?=some (l.getD i 0):=by rw[ML (by omega),iI (by omega)]
  have c1:CG (l.length - 1 - i) l.length=true:=by simp;omega
  have c2:CG i l.length=true:=by simp;omega
  simp only[At,c1,c2,AO];rw[WC g1];simp only[At];rw[WC g2];simp only[At];rw[Od (by rw[Lq];omega)];simp only[At];rw[Od (by rw[gz,Lq];omega),vk (by omega)];simp only[At,BN,GV,Cs (by omega:i < 9223372036854775807)];rw[wsub (by omega) (by omega)];have e3:((l.length - 1 - i:Nat):Int) - 1=(l.length:Int) - 1 - ((i+1:Nat):Int):=by omega
  rw[e3];rfl
 ·simp only[AW,AV,A1,Bc,AS,At,Am,BB];have e0:decide (((l.length / 2:Nat):Int) < (l.length:Int) - 1 - ((l.length / 2:Nat):Int))=false:=by simp;omega
  rw[e0,zaG];rfl
theorem ZU (h:Az v a) (hl:a.n.length<=1000000):Hm 160 v ⟨a.li,a.ru,a.n.reverse⟩ 0:=by
 have ho:=OM h hl;obtain⟨x,rfl,A⟩:=h.get;refine⟨.agg [.bool a.li,.bool a.ru,.sl 1 (An a.n.reverse) false],?_,.mk _ _ _ _ (.sl _ _)⟩;refine dw (d:=fun _=>.cl) (args:=[.agg [.cv (.bool a.li),.cv (.bool a.ru),.cv x]]) (fn:=zF) rfl (by decide) ⟨⟨rfl,rfl,A.ok,trivial⟩,trivial⟩ (fun y hy=>by simp at hy;subst hy;rfl) rfl ?_;rw[run160,ho];simp only[At,BB];have:=ap a.n hl;unfold Py at this;rw[this];have e:AB 1 1 (Ao (J [.sl 1 (An a.n.reverse) false] 0)) 0 (Ah (An a.n))=.sl 1 (An a.n.reverse) false:=by simp[AB,BA,An,dV]
 simp only[At];rw[e];have e7:A6 (.jE [.agg [.bool a.li,.bool a.ru,.sl 1 (An a.n.reverse) false],.jK])=true:=by simp[A6,jN,Ap,E8]
 rw[e7];rfl
end Go.Ab.jF.Sh


namespace Go.Ab.jF.Sh
open Go Go.Ab Go.Ab.jF
variable{a b:jI} {l:jo} {n:Int} {v x:W}
inductive GF:W->jI->jI->Prop
 | mk (l1 r1 l2 r2:Bool) (x y:W) (b a:jo) (A:Bh x b) (hy:Bh y a):GF (.agg [.bool l1,.bool r1,x,.bool l2,.bool r2,y]) ⟨l1,r1,b⟩ ⟨l2,r2,a⟩
theorem GF.get (h:GF v b a):∃ x y,v=.agg [.bool b.li,.bool b.ru,x,.bool a.li,.bool a.ru,y]/\Bh x b.n/\Bh y a.n:=by obtain⟨_,_,_,_,x,y,_,_,A,hy⟩:=h;exact⟨x,y,rfl,A,hy⟩
theorem GF.ok (h:GF v b a):jN v=true:=by obtain⟨x,y,rfl,A,hy⟩:=h.get;simp[jN,Ap,A.ok,hy.ok]
theorem val6 {a b c d e f:W} (ha:a.jZ=true) (hb:b.jZ=true) (hc:c.jZ=true) (hd:d.jZ=true) (he:e.jZ=true) (hf:f.jZ=true):(W.agg [a,b,c,d,e,f]).isVal=true:=by simp[W.isVal,ha,hb,hc,hd,he,hf]
theorem GF.val (h:GF v b a):AZ v=true:=by obtain⟨x,y,rfl,A,hy⟩:=h.get;exact val6 rfl rfl A.cell rfl rfl hy.cell
theorem Rc (a b c d e f:W):Ci [a,b,c,d,e,f] 1 1 false=some b:=rfl
theorem sel6_0 (a b c d e f:W):Ci [a,b,c,d,e,f] 0 1 false=some a:=rfl
theorem HG (a b c d e f:W):Ci [a,b,c,d,e,f] 2 1 false=some c:=rfl
theorem zaH (a b c d e f:W):Ci [a,b,c,d,e,f] 3 1 false=some d:=rfl
theorem UU (a b c d e f:W):Ci [a,b,c,d,e,f] 4 1 false=some e:=rfl
theorem UT (a b c d e f:W):Ci [a,b,c,d,e,f] 5 1 false=some f:=rfl
theorem Kx (a b c d e f:W):Ci [a,b,c,d,e,f] 0 3 true=some (.agg [a,b,c]):=rfl
theorem JM (a b c d e f:W):Ci [a,b,c,d,e,f] 3 3 true=some (.agg [d,e,f]):=rfl
theorem LJ (a b c d e f:W):Ci [a,b,c,d,e,f] 0 6 true=some (.agg [a,b,c,d,e,f]):=rfl
theorem Ho (li ru:Bool) (h:Bh x l):Az (.agg [.bool li,.bool ru,x]) ⟨li,ru,l⟩:=.mk _ _ _ _ h
theorem dm (h:GF v b a) (hb:b.n.length<=1000000) (ha:a.n.length<=1000000):Hm 167 v (oW (if a.same b then 0 else 1)) 0:=by
 obtain⟨x,y,rfl,A,hy⟩:=h.get;refine⟨Mp (if a.same b then 0 else 1),?_,Rg _⟩;refine El (by simp[Ap,h.ok]) ?_;have hs:=zaa (Ho a.li a.ru hy) (Ho b.li b.ru A) ha hb;rw[dI,dW,run167];unfold wd wv;rw[h.val,AO];simp only[BT,BG,Kx,JM,At,hs,Am,Bg,X1];cases hq:a.same b with
 | true=>rfl
 | false=>rfl
theorem zaI (hv:Bh v l) (hl:l.length<=1000000) (n:Int):Ax B0 .cl (.fn 198 []) [v,I n]=some (I (CW (fun x=>n==x) 0 l)):=by
 refine Ce (by simp[Ap,hv.ok]) ?_;rw[run198];unfold wc wh wj wo wq wr;rw[hv.len];simp only[At];have h0:AY [v,I n,I l.length,.int .i64 0]=true:=by simp[AY,hv.qZ,Bg]
 rw[h0,AO]
 have key:∀ m i,i+m=l.length->Be (fun a=>Ac (Ad (.bin .lss .num false (.c (J a.1 3)) (.c (J a.1 2)))) fun b=>Ai b (Ac (Ad (.jJ 1 (.c (J a.1 0)) (.c (J a.1 3)))) fun b=>Ac (Ad (.load 1 false (.c b))) fun b=>Ac (Ad (.bin .eql .num false (.c (J a.1 1)) (.c b))) fun b=>Ai b (Ac (some (J a.1 3,a.2)) fun a=>some (.inr a)) (Ac (Ad (.bin .add .num true (.c (J a.1 3)) (.c (.int .i64 1)))) fun b=>some (.inl ([J a.1 0,J a.1 1,J a.1 2,b],a.2)))) (Ac (some (.int .i64 (-1),a.2)) fun a=>some (.inr a))) (([v,I n,I l.length,I i],()):jh×Unit)=some (I (CW (fun x=>n==x) i (l.drop i)),()):=by
  intro m;induction m with
  | zero =>
   intro i hi;refine B3 ?_;have:i=l.length:=by omega
   subst this;simp[CW];rfl
  | succ m ih =>
   intro i hi;have jP:i < l.length:=by omega
   rw[GH jP];by_cases hpx:n=l[i];{refine B3 ?_;simp only[AW,AV,A1,Bc,AS,At,Am];rw[iJ (by simpa using jP),hv.idx jP];simp[hpx,CW]};{rw[DE (s':=([v,I n,I l.length,I ((i+1:Nat):Int)],()))];{rw[ih (i+1) (by omega)];simp[CW,hpx]};{simp only[AW,AV,A1,Bc,AS,At,Am];rw[iJ (by simpa using jP),hv.idx jP];simp[hpx,Bg,Cs (by omega:i < 9223372036854775807)]}}
 have:=key l.length 0 (by omega);simpa[Bg] using this
theorem zaJ (h0:0<=n) (U:n<=1000000):Ax B0 (.own 1) (.fn 218 []) [.jD,I n]=some (.sl 1 [] false):=by
 have hs:B0.sp 218 (fun _=>none) [.jD,I n]=some {v:=.arr (0,0) 1 0 0,new:=[.arr 1 0 []]}:=by
  have:Bq 218 (fun _=>none) [.jD,I n]=some {v:=.arr (0,0) 1 0 0,new:=[.arr 1 0 []]}:=by simp[Bq,Rb,I,h0,U]
  exact this
 have e:spO B0.sp (Ba 218) (BI 218 [.jD,I n] [])=some (some (.arr (0,0) 1 0 0,[.arr 1 0 []])):=by show spO B0.sp 218 [.jD,I n]=_;unfold spO;rw[hs];rfl
 unfold Ax;dsimp only
 rw[e];rfl
theorem WG {u:W} {m:jo} (hu:Bh u l) (hv:Bh v m) (hl:l.length<=400000) (hm:m.length<=400000):Bd B0 (.own 1) true 200 [.sl 1 [u,v] false]=some (.sl 1 (An (l++m)) false):=by
 refine zaC (d:=fun _=>.cl) rfl (by simp[Ap,jN,hu.ok,hv.ok]) rfl ?_;rw[dI,dW,run200];unfold wc wh wj wm wo wp wr;rw[G4];simp only[At];rw[show AY [.sl 1 [u,v] false,.int .i64 0,.sl 1 [u,v] false,.int .i64 (([u,v].length:Nat):Int),.int .i64 0]=true from rfl,AO];have i0:Ad (.jJ 1 (.c (.sl 1 [u,v] false)) (.c (I 0)))=some (.ptr [u] 0):=by have:=MC (k:=.i64) (H:=[u,v]) (j:=0) (n:=1) (f:=false) (v:=u) (by omega) rfl;rw[hu.cells] at this;exact this
 have i1:Ad (.jJ 1 (.c (.sl 1 [u,v] false)) (.c (I 1)))=some (.ptr [v] 0):=by have:=MC (k:=.i64) (H:=[u,v]) (j:=1) (n:=1) (f:=false) (v:=v) (by omega) rfl;rw[hv.cells] at this;exact this
 have l1:∀ w:W,Ad (.load 1 false (.c (.ptr [w] 0)))=some w:=fun w=>by rw[Ll];rfl
 rw[DE (s':=([.sl 1 [u,v] false,I l.length,.sl 1 [u,v] false,I 2,I 1],()))]
 ·rw[DE (s':=([.sl 1 [u,v] false,I ((l.length:Int)+m.length),.sl 1 [u,v] false,I 2,I 2],()))]
  ·refine B3 ?_;simp only[AW,AV,A1,Bc,BD,Bg,AS,At,Am];rw[iI (by decide),zaJ (by omega) (by omega)];simp only[At,G4,BB];rw[show AY [nI (Ah []),.sl 1 [u,v] false,.int .i64 (([u,v].length:Nat):Int),I 0]=true from rfl,AO];rw[DE (s':=([I l.length,.sl 1 [u,v] false,I 2,I 1,.sl 1 (An l) false],()))]
   ·rw[DE (s':=([I ((l.length+m.length:Nat):Int),.sl 1 [u,v] false,I 2,I 2,.sl 1 (An (l++m)) false],()))]
    ·rw[B3 (r:=(.sl 1 (An (l++m)) false,()))];{rfl}
     ·simp only[AW,AV,A1,Bc,BD,Bg,AS,At,Am,BB];rw[iI (by decide)];have:FF (Aj (I ((l.length+m.length:Nat):Int))) (Ah (An (l++m)))=true:=by simp[BA];omega
      rw[this];rfl
    ·simp only[AW,AV,A1,Bc,BD,Bg,AS,At,Am,BB];rw[iJ (by decide),i1];simp only[At,l1,hv.elems]
     have e1:Bb (Ay (Aj (I l.length)) (Ah (An l))) (Ay (As (Aj (I l.length)) (Ah (An m))) 2147483648)=true:=by
      have:l.length+m.length<=2147483648:=by omega
      simp[BA,this]
     rw[e1,AO];have e2:A5 (Aq (Aj (I l.length)) (An l)) (An m)=An (l++m):=by have:(An l).take l.length=An l:=dV (by rw[BA];exact dH _);simp[this,Uc]
     rw[e2];have e3:nI (As (Aj (I l.length)) (Ah (An m)))=I ((l.length+m.length:Nat):Int):=by simp[BA,I]
     rw[e3];rfl
   ·simp only[AW,AV,A1,Bc,BD,Bg,At,Am,BB];rw[show nI (Ah [])=I 0 from rfl];rw[show I (([u,v].length:Nat):Int)=I 2 from rfl];simp only[AS,At,Am];rw[iJ (by decide),i0];simp only[At,l1,hu.elems]
    have e1:Bb (Ay (Aj (I 0)) (Ah [])) (Ay (As (Aj (I 0)) (Ah (An l))) 2147483648)=true:=by
     have:l.length<=2147483648:=by omega
     simp[BA,this]
    rw[e1,AO];have e2:A5 (Aq (Aj (I 0)) []) (An l)=An l:=by simp
    rw[e2];have e3:nI (As (Aj (I 0)) (Ah (An l)))=I l.length:=by simp[BA,I]
    rw[e3];rfl
  {simp only[AW,AV,A1,Bc,BD,Bg,AS,At,Am];rw[iJ (by decide),i1];simp only[At,l1,hv.len,BN,AS,Am];rw[Dc (by omega) (by omega),iI (by simp;omega)];rfl}
 {simp only[AW,AV,A1,Bc,BD,Bg];rw[show I (([u,v].length:Nat):Int)=I 2 from rfl];simp only[AS,At,Am];rw[iJ (by decide),i0];simp only[At,l1,hu.len,BN,AS,Am];rw[Dc (by omega) (by omega),iI (by simp)];simp;rfl}
def FL (a:jI):Bool:=a.ru&&decide (0 < a.n.length)
theorem MK (h:Az v a):Ax B0 .cl (.fn 199 []) [v]=some (.bool (FL a)):=by
 obtain⟨x,rfl,A⟩:=h.get;refine Bm (by simp[Ap,h.ok]) ?_;rw[run199];unfold wc wf wg;rw[DS,Cg rfl rfl A.cell,AO];simp only[BT,BG,GN,Gn,At,A.len,Bg,CT,Am];unfold FL;have:decide ((0:Int) < (a.n.length:Int))=decide (0 < a.n.length):=by rw[fe,iS,iS];omega
 rw[this];cases a.ru<;>rfl
def FO (a b:jI):Int:=if 0 < a.n.length/\0 < b.n.length/\a.ru≠b.ru then 102 else if 200 < a.n.length+b.n.length then 113 else 0
def mm (a b:jI):jI:=if FO a b=0 then ⟨true,FL a||(FL b||(a.ru&&b.ru)),a.n++b.n⟩ else A2
theorem zaK (h:GF v b a) (hb:b.n.length<=400000) (ha:a.n.length<=400000):Hm 159 v (mm a b) (FO a b):=by
 obtain⟨x,y,rfl,A,hy⟩:=h.get;have hta:=MK (Ho a.li a.ru hy);have htb:=MK (Ho b.li b.ru A);have hcc:=WG hy A ha hb;have e1:∀ l:jo,decide ((0:Int) < (l.length:Int))=decide (0 < l.length):=by intro l;rw[fe,iS,iS];omega
 have e2:decide ((200:Int) < (a.n.length:Int)+(b.n.length:Int))=decide (200 < a.n.length+b.n.length):=by rw[fe,iS,iS];omega
 have oks:AX 1 [y,x]=true:=by simp[AX,A.val,hy.val,A.cells,hy.cells]
 have slO2:AB 1 1 [y,x] 0 (Ah [y,x])=.sl 1 [y,x] false:=rfl;have fin:∀ r:Bool,A6 (.jE [.agg [.bool true,.bool r,AB 1 1 (An (a.n++b.n)) 0 (Ah (An (a.n++b.n)))],.jK])=true:=fun r=>by rw[Ko];simp[A6,jN,Ap,E8]
 by_cases h0:FO a b=0
 ·refine⟨.agg [.bool true,.bool (FL a||(FL b||(a.ru&&b.ru))),.sl 1 (An (a.n++b.n)) false],?_,by unfold mm;rw[iJ h0];exact .mk _ _ _ _ (.sl _ _)⟩;have U:¬ (0 < a.n.length/\0 < b.n.length/\a.ru≠b.ru):=fun h=>by unfold FO at h0;rw[iJ h] at h0;cases h0
  have O:¬ 200 < a.n.length+b.n.length:=fun h=>by unfold FO at h0;rw[iI U,iJ h] at h0;cases h0
  rw[h0];refine Bm (by simp[Ap,h.ok]) ?_;rw[zS];unfold wc wd wf wg wp wv;rw[h.val,AO];simp only[BT,BG,Rc,HG,UU,UT,Kx,JM,At,A.len,hy.len,Bg,CT,BN,Am,Hy,e1,hta,htb,oks,AO,slO2,hcc,BB,fin]
  have c1:(if decide (0 < a.n.length)=true then (if decide (0 < b.n.length)=true then some (W.bool (!(a.ru==b.ru))) else some (.bool false)) else some (.bool false))=some (.bool false):=by
   by_cases q1:0 < a.n.length
   ·by_cases q2:0 < b.n.length
    {have:a.ru=b.ru:=fh fun q=>U ⟨q1,q2,q⟩;simp[q1,q2,this]};{simp[q1,q2]}
   {simp[q1]}
  rw[c1];simp only[At,Am,dE,iG];rw[Dc (by omega) (by omega),e2,iT O];simp only[Am,dE,iG];rw[Ko];have ta:FL ⟨a.li,a.ru,a.n⟩=FL a:=rfl;have tb:FL ⟨b.li,b.ru,b.n⟩=FL b:=rfl;rw[ta,tb];have fin2:∀ r:Bool,A6 (.jE [.agg [.bool true,.bool r,.sl 1 (An (a.n++b.n)) false],.jK])=true:=fun r=>by simp[A6,jN,Ap,E8]
  have oc:∀ r:Bool,Aw (W.bool r) 1=true:=fun _=>rfl;have cp:∀ r:Bool,Af (W.bool r) 0=.bool r:=fun _=>rfl;rw[oc,cp,fin2];cases FL a<;>cases FL b<;>cases a.ru<;>simp[fin2,zak]
 ·refine⟨.agg [.bool false,.bool false,.jD],?_,by unfold mm;rw[iI h0];exact Bk⟩;refine Bm (by simp[Ap,h.ok]) ?_;rw[zS];unfold wc wd wf wg wp wv;rw[h.val,AO];simp only[BT,BG,Rc,HG,UU,UT,At,A.len,hy.len,Bg,CT,BN,Am,Hy,e1];unfold FO at h0 |-;by_cases U:0 < a.n.length/\0 < b.n.length/\a.ru≠b.ru
  ·rw[iJ U];obtain⟨q1,q2,q3⟩:=U;have:(a.ru==b.ru)=false:=by simpa using q3
   simp only[q1,q2,this,iM,iH,At,Am,d8];rfl
  ·rw[iI U] at h0 |-
   have c1:(if decide (0 < a.n.length)=true then (if decide (0 < b.n.length)=true then some (W.bool (!(a.ru==b.ru))) else some (.bool false)) else some (.bool false))=some (.bool false):=by
    by_cases q1:0 < a.n.length
    ·by_cases q2:0 < b.n.length
     {have:a.ru=b.ru:=fh fun q=>U ⟨q1,q2,q⟩;simp[q1,q2,this]};{simp[q1,q2]}
    {simp[q1]}
   rw[c1];simp only[At,Am,dE,iG];rw[Dc (by omega) (by omega),e2];by_cases O:200 < a.n.length+b.n.length;{rw[iJ O,iR O];rfl};{rw[iI O] at h0;exact iW rfl h0}
end Go.Ab.jF.Sh


namespace Go.Ab.jF.Sh
open Go Go.Ab Go.Ab.jF
variable{a b:jI} {c i k:Nat} {l:jo} {n:Int} {v:W}
theorem Bh.lo (h:Bh v l) (hk:k<=l.length):∃ u,Ad (.slice 1 (.c v) (some (.c (I k))) none none)=some u/\Bh u (l.drop k):=by
 cases h with
 | nil =>
  have:k=0:=by simpa using hk
  subst this;exact⟨.jD,by simp[Ad,exec,RX.ev,CH,C9,DL,AN,I,FV],.nil⟩
 | sl _ f =>
  have nk:k<=(An l).length:=by rw[BA];exact hk
  refine⟨.sl 1 (An (l.drop k)) f,?_,.sl _ _⟩;simp[Ad,exec,RX.ev,CH,C9,DL,AN,I,nk,Xr,FV]
theorem Bh.himx (h:Bh v l) (hk:k<=l.length):∃ u,Ad (.slice 1 (.c v) none (some (.c (I k))) (some (.c (I k))))=some u/\Bh u (l.take k):=by
 cases h with
 | nil =>
  have:k=0:=by simpa using hk
  subst this;exact⟨.jD,by simp[Ad,exec,RX.ev,CH,C9,DL,AN,I,FV],.nil⟩
 | sl _ f =>
  have nk:k<=(An l).length:=by rw[BA];exact hk
  refine⟨.sl 1 (An (l.take k)) true,?_,.sl _ _⟩;simp[Ad,exec,RX.ev,CH,C9,DL,AN,I,nk,Ln,FV]
def ky (a b:jI) (n:Int):Int:=if CW (fun x=>n==x) 0 a.n < 0\/a.ru≠b.ru then (a.n.length:Int)+1 else CW (fun x=>n==x) 0 a.n+1
def KH (a:jI):Int:=if a.li then 0 else 111
def mP (a b:jI):jI:=if a.li then ⟨b.li,false,b.n.map (ky a b)⟩ else A2
theorem idxP_le (p:Int->Bool):∀ (l:jo) (i:Nat), -1<=CW p i l/\CW p i l<=i+l.length:=by
 intro l;induction l with
 | nil=>intro i;simp[CW]
 | cons x l ih =>
  intro i;simp only[CW];split;{simp only[eS];omega};{have:=ih (i+1);simp only[eS];omega}
theorem Iz (hc:c=l.length):A5 (Aq c (An l)) (Aq (Ah [I n]) (AE 0 [I n]))=An (l++[n]):=by subst hc;rw[show Aq (Ah [I n]) (AE 0 [I n])=[I n] from rfl];simp[An,dV]
theorem IA (hc:c=l.length) (hl:l.length<=1000000):Bb (Ay c (Ah (An l))) (Ay (As c (Ah (Aq (Ah [I n]) (AE 0 [I n])))) 2147483648)=true:=by
 subst hc;have:l.length+1<=2147483648:=by omega
 simp[BA,this]
theorem Jf (c:Nat):nI (As c (Ah (Aq (Ah [I n]) (AE 0 [I n]))))=I ((c+1:Nat):Int):=by simp[I]
theorem Iu (h:i < l.length):l.take (i+1)=l.take i++[l[i]]:=by rw[List.take_succ_eq_append_getElem h]
set_option maxHeartbeats 1000000 in
theorem Z2 (h:GF v b a) (hb:b.n.length<=400000) (ha:a.n.length<=400000):Hm 155 v (mP a b) (KH a):=by
 obtain⟨x,y,rfl,A,hy⟩:=h.get;by_cases mi:a.li=true
 case neg =>
  rw[gY] at mi;refine⟨.agg [.bool false,.bool false,.jD],?_,by unfold mP;rw[mi];exact Bk⟩;refine Bm (by simp[Ap,h.ok]) ?_;rw[zX];unfold wc we wf wg wh wi wj wm wo wr wv;rw[h.val,AO];simp only[BT,BG,zaH,At,BH,mi,Am,d8,iH];unfold KH;rw[mi];rfl
 case pos =>
  refine⟨.agg [.bool b.li,.bool false,.sl 1 (An (b.n.map (ky a b))) false],?_,by unfold mP;rw[mi];exact .mk _ _ _ _ (.sl _ _)⟩;rw[show KH a=0 by unfold KH;rw[mi];rfl];refine Bm (by simp[Ap,h.ok]) ?_;rw[zX];unfold wc we wf wg wh wi wj wm wo wr wv;rw[h.val,AO];simp only[BT,BG,sel6_0,HG,zaH,At,BH,mi,Am,dK,dE,iG];rw[show Ad (.build [.bool false,.bool false,.jD] [(0,(1,.c (.bool b.li)))])=some (.agg [.bool b.li,.bool false,.jD]) from rfl];simp only[At,A.len,Jz (a:=.bool b.li) (b:=.bool false) (c:=.jD) rfl,AO,HA,Hz,Ha,CU];rw[show AY [x,I b.n.length,.int .i64 0]=true by simp[AY,A.qZ,Bg],AO];refine G7 (fun i=>([x,I b.n.length,I i,.agg [.bool b.li,.bool b.ru,x,.bool true,.bool a.ru,y],.bool false,.bool false,.jD,.bool b.li,.bool false,I i,.sl 1 (An ((b.n.take i).map (ky a b))) false],())) b.n.length (by simp[An,I]) (fun i jP=>?_) ?_
  ·have n9:∀ (a0 a1 a2 a3 a4 a5 a6 a7 a8 a9:W) (l:jh),J (a0 :: a1 :: a2 :: a3 :: a4 :: a5 :: a6 :: a7 :: a8 :: a9 :: l) 9=a9:=fun _ _ _ _ _ _ _ _ _ _ _=>rfl;have n10:∀ (a0 a1 a2 a3 a4 a5 a6 a7 a8 a9 rX:W) (l:jh),J (a0 :: a1 :: a2 :: a3 :: a4 :: a5 :: a6 :: a7 :: a8 :: a9 :: rX :: l) 10=rX:=fun _ _ _ _ _ _ _ _ _ _ _ _=>rfl;simp only[AW,AV,A1,Bc,BD,Cd,B9,Cm,CS,n9,n10,AS,At,Am,Cl,dN,BB];rw[iJ (by simpa using jP),A.idx jP];simp only[At,C0,BG,UT,zaI hy (by omega),UU,Rc,Hy,Bg,AS,Am];have hle:=idxP_le (fun x=>b.n[i]==x) a.n 0;have w7:((b.n.take i).map (ky a b)).length=i:=by simp;omega
   have hfin:((b.n.take i).map (ky a b))++[ky a b b.n[i]]=(b.n.take (i+1)).map (ky a b):=by rw[Iu jP,fk];rfl
   by_cases hc:CW (fun x=>b.n[i]==x) 0 a.n < 0\/a.ru≠b.ru
   ·have e1:(if decide (CW (fun x=>b.n[i]==x) 0 a.n < 0)=true then some (W.bool true) else some (W.bool (!(a.ru==b.ru))))=some (.bool true):=by rcases hc with hc | hc;{simp[hc]};{by_cases q:CW (fun x=>b.n[i]==x) 0 a.n < 0<;>simp[q,hc]}
    rw[e1];simp only[At,Am,iH,hy.len,BN];have e2:IntKind.i64.wrap ((a.n.length:Int)+1)=ky a b b.n[i]:=by rw[Dc (by omega) (by omega)];unfold ky;rw[iJ hc]
    rw[e2];simp only[At,Fu,AO];rw[show Ay (As 0 (Ah [I (ky a b b.n[i])])) (Ah [I (ky a b b.n[i])])=true from rfl,IA w7.symm (by omega),Iz w7.symm,Jf];simp only[AO,Cs (by omega:i < 9223372036854775807),hfin]
   ·have e1:(if decide (CW (fun x=>b.n[i]==x) 0 a.n < 0)=true then some (W.bool true) else some (W.bool (!(a.ru==b.ru))))=some (.bool false):=by have q1:¬ CW (fun x=>b.n[i]==x) 0 a.n < 0:=fun q=>hc (.inl q);have q2:a.ru=b.ru:=fh fun q=>hc (.inr q);rw[iT q1,q2];simp
    rw[e1];simp only[At,Am,dE,iG,BN];have e2:IntKind.i64.wrap (CW (fun x=>b.n[i]==x) 0 a.n+1)=ky a b b.n[i]:=by rw[Dc (by omega) (by omega)];unfold ky;rw[iI hc]
    rw[e2];simp only[At,Fu,AO];rw[show Ay (As 0 (Ah [I (ky a b b.n[i])])) (Ah [I (ky a b b.n[i])])=true from rfl,IA w7.symm (by omega),Iz w7.symm,Jf];simp only[AO,Cs (by omega:i < 9223372036854775807),hfin]
  ·have n9:∀ (a0 a1 a2 a3 a4 a5 a6 a7 a8 a9:W) (l:jh),J (a0 :: a1 :: a2 :: a3 :: a4 :: a5 :: a6 :: a7 :: a8 :: a9 :: l) 9=a9:=fun _ _ _ _ _ _ _ _ _ _ _=>rfl;have n10:∀ (a0 a1 a2 a3 a4 a5 a6 a7 a8 a9 rX:W) (l:jh),J (a0 :: a1 :: a2 :: a3 :: a4 :: a5 :: a6 :: a7 :: a8 :: a9 :: rX :: l) 10=rX:=fun _ _ _ _ _ _ _ _ _ _ _ _=>rfl;simp only[AW,AV,A1,Cm,CS,n9,n10,AS,At,Am,Cl,dN,BB];rw[iI (by simp),fM];have e1:AB 1 1 (An (b.n.map (ky a b))) 0 b.n.length=.sl 1 (An (b.n.map (ky a b))) false:=by have:=Ko (b.n.map (ky a b));simpa[BA] using this
   rw[e1];have e7:A6 (.jE [.agg [.bool b.li,.bool false,.sl 1 (An (b.n.map (ky a b))) false],.jK])=true:=by simp[A6,jN,Ap,E8]
   rw[e7];rfl
def Dt (lo hi:Int) (a:jI):Int:=if BU a=0/\(A4 a < lo\/hi < A4 a) then 113 else BU a
theorem WN (h:GF v b a) (ha:a.n.length<=1000000) (lo hi:Int):Ax B0 .cl (.fn 196 []) [v,I lo,I hi]=some (.jE [I (A4 a),Dr (Dt lo hi a)]):=by
 obtain⟨x,y,rfl,A,hy⟩:=h.get;have hf:=Qr (Ho a.li a.ru hy) ha;refine HS (by simp[Ap,h.ok]) ?_;rw[run196];unfold wa wb wo wu wv;rw[h.val,AO];simp only[BT,BG,JM,At,hf,BS,dP,dR,O4,Am,AS,CT];have ef:BU ⟨a.li,a.ru,a.n⟩=BU a:=rfl;have en:A4 ⟨a.li,a.ru,a.n⟩=A4 a:=rfl;rw[ef,en];unfold Dt;by_cases U:BU a=0
 ·by_cases O:A4 a < lo
  {simp only[U,O,iM,iH,At,Am,true_or,true_and];rfl}
  ·by_cases h3:hi < A4 a
   {simp only[U,O,h3,iM,iN,iH,dE,iG,At,Am,or_true,true_and];rfl};{simp only[U,O,h3,iM,iN,iH,dE,iG,At,Am,or_false,and_false]}
 {simp only[U,iN,dE,iG,At,Am,false_and]}
def Em (a b:jI):Int:=if Dt (-9223372036854775808) 200 a≠0 then Dt (-9223372036854775808) 200 a else if A4 a < 0 then 102 else if 0 < A4 a/\b.n.length=0 then 110 else 0
def GZ (b:jI) (n:Nat):jo:=(List.range n).map fun i=>b.n.getD (i%b.n.length) 0
def rD (a b:jI):jI:=if Em a b=0 then ⟨true,b.ru,GZ b (A4 a).toNat⟩ else A2
theorem Yx (b:jI) (n:Nat):GZ b (n+1)=GZ b n++[b.n.getD (n%b.n.length) 0]:=by simp[GZ,List.range_succ]
theorem JJ (b:jI) (n:Nat):(GZ b n).length=n:=by simp[GZ]
set_option maxHeartbeats 1000000 in
theorem ar (h:GF v b a) (hb:b.n.length<=400000) (ha:a.n.length<=400000):Hm 153 v (rD a b) (Em a b):=by
 have ham:=WN h (by omega) (-9223372036854775808) 200;obtain⟨x,y,rfl,A,hy⟩:=h.get;have elen:((b.n.length:Int)==0)=decide (b.n.length=0):=by rw[fe,iL,iS];omega
 by_cases U:Dt (-9223372036854775808) 200 a=0
 ·by_cases O:A4 a < 0
  ·have hE:Em a b=102:=by unfold Em;rw[iI (by simpa using U),iJ O]
   refine⟨.agg [.bool false,.bool false,.jD],?_,by unfold rD;rw[hE,iI (by decide)];exact Bk⟩;rw[hE];refine Bm (by simp[Ap,h.ok]) ?_;rw[Rd];unfold wa wb wc wd wg wh wj wl wm wn wo wr wv;rw[h.val,AO];simp only[BT,BG,LJ,At,Bg,ham,BS,dP,dR,O4,Am,AS,U,O,iM,iH];rfl
  ·by_cases h3:0 < A4 a/\b.n.length=0
   ·have hE:Em a b=110:=by unfold Em;rw[iI (by simpa using U),iI O,iJ h3]
    refine⟨.agg [.bool false,.bool false,.jD],?_,by unfold rD;rw[hE,iI (by decide)];exact Bk⟩;rw[hE];refine Bm (by simp[Ap,h.ok]) ?_;rw[Rd];unfold wa wb wc wd wg wh wj wl wm wn wo wr wv;rw[h.val,AO];simp only[BT,BG,LJ,HG,At,Bg,ham,BS,dP,dR,O4,FI,Am,AS,CT,Da,A.len,U,O,h3.1,h3.2,iM,iN,iH,dE,iG,iX,iQ];rfl
   ·have hE:Em a b=0:=by unfold Em;rw[iI (by simpa using U),iI O,iI h3]
    refine⟨EV b.ru (.sl 1 (An (GZ b (A4 a).toNat)) false),?_,by unfold rD;rw[iJ hE];exact .mk _ _ _ _ (.sl _ _)⟩;rw[hE];refine Bm (by simp[Ap,h.ok]) ?_;rw[Rd];unfold wa wb wc wd wg wh wj wl wm wn wo wr wv;rw[h.val,AO];have h4:¬ 200 < A4 a:=fun q=>by unfold Dt at U;by_cases q2:BU a=0;{rw[iJ ⟨q2,.inr q⟩] at U;cases U};{rw[iI fun q3=>q2 q3.1] at U;exact q2 U}
    obtain⟨N,hN⟩:∃ N:Nat,A4 a=N:=⟨(A4 a).toNat,by omega⟩;simp only[BT,BG,LJ,HG,At,Bg,ham,BS,dP,dR,O4,FI,Am,AS,CT,Da,A.len,U,O,elen,iM,iN,iH,dE,iG,iX,iQ];rw[show Ad (.build [I 0] [(0,(1,.c (I 110)))])=some (.agg [I 110]) from rfl];simp only[At];have e0:(if decide (0 < A4 a)=true then some (W.bool (decide (b.n.length=0))) else some (.bool false))=some (.bool false):=by by_cases q:0 < A4 a;{have:¬ b.n.length=0:=fun q2=>h3 ⟨q,q2⟩;simp only[q,this,iM,iN,iH]};{simp only[q,iN,dE,iG]}
    rw[e0];simp only[At,Am,dE,iG];rw[hN] at h3 h4 |-;have hN2:N<=200:=by omega
    rw[show AY [nI 0,I N,I 0]=true from rfl,AO];refine G7 (fun i=>([I i,I N,I i,.agg [.bool b.li,.bool b.ru,x,.bool a.li,.bool a.ru,y],.bool false,.bool false,.jD,.sl 1 (An (GZ b i)) false],())) N rfl (fun i jP=>?_) ?_
    ·have oz:0 < b.n.length:=by rcases gL b.n.length with q | q;{exact iW ⟨by omega,q⟩ h3};{exact q}
     have hmod:i%b.n.length < b.n.length:=gn _ oz;simp only[AW,AV,A1,Bc,BD,Cd,B9,Cm,AS,At,Am,Cl,dN,BB];rw[iJ (by simpa using jP)];simp only[BG,HG,At,A.len];have er:Ad (.bin .rem .num false (.c (I i)) (.c (I b.n.length)))=some (I ((i%b.n.length:Nat):Int)):=by rw[I,I,Jx _ _ (by omega)];rfl
     rw[er];simp only[At,A.idx hmod,C0,Fu,AO];have ei:b.n[i%b.n.length]=b.n.getD (i%b.n.length) 0:=by rw[dO,dQ hmod];rfl
     rw[ei,show Ay (As 0 (Ah [I (b.n.getD (i%b.n.length) 0)])) (Ah [I (b.n.getD (i%b.n.length) 0)])=true from rfl,IA (JJ b i).symm (by rw[JJ];omega),Iz (JJ b i).symm,Jf,<-Yx];simp only[AO,BN,At,Cs (by omega:i < 9223372036854775807)]
    ·simp only[AW,AV,A1,Bc,Cm,AS,At,Am,Cl,dN,BB];rw[iI (by simp)];simp only[BG,Kx,At];have e1:AB 1 1 (An (GZ b N)) 0 N=.sl 1 (An (GZ b N)) false:=by have:=Ko (GZ b N);simpa[BA,JJ] using this
     rw[e1,Ol (Ho b.li b.ru A)];rfl
 ·have hE:Em a b=Dt (-9223372036854775808) 200 a:=by unfold Em;rw[iJ U]
  refine⟨.agg [.bool false,.bool false,.jD],?_,by unfold rD;rw[hE,iI U];exact Bk⟩;rw[hE];refine Bm (by simp[Ap,h.ok]) ?_;rw[Rd];unfold wa wb wc wd wg wh wj wl wm wn wo wr wv;rw[h.val,AO];simp only[BT,BG,LJ,At,Bg,ham,BS,dP,dR,O4,FI,Am,U,iN,dE,iG,iX,iV,iM,iH]
  try rfl
end Go.Ab.jF.Sh


namespace Go.Ab.jF.Sh
open Go Go.Ab Go.Ab.jF
variable{a b:jI} {k:Nat} {n:Int} {v:W}
def GL (n:Int) (k:Nat):Nat:=(n%(k:Int)).toNat
def ll (n:Int) (l:jo):jo:=l.drop (GL n l.length)++l.take (GL n l.length)
def oX (a b:jI):jI:=if BU a=0 then ⟨b.li,b.ru,if b.n.length=0 then [] else ll (A4 a) b.n⟩ else A2
theorem N9 (hk:0 < k):GL n k < k:=by unfold GL;have U:=Int.emod_nonneg n (show (k:Int)≠0 by omega);have O:=Int.emod_lt_of_pos n (show (0:Int) < (k:Int) by omega);omega
theorem XN (hk:0 < k) (hs:k<=1000000):IntKind.i64.wrap (n.tmod k+k)=n.tmod k+k/\(n.tmod k+k).tmod k=(GL n k:Int):=by
 have O:=iy n (show (0:Int) < (k:Int) by omega);have U : -(k:Int) < n.tmod k:=by have:=iy (-n) (show (0:Int) < (k:Int) by omega);rw[Int.neg_tmod] at this;omega
 refine⟨Dc (by omega) (by omega),?_⟩;rw[Int.tmod_eq_emod_of_nonneg (by omega)];unfold GL;rw[Int.toNat_of_nonneg (Int.emod_nonneg n (show (k:Int)≠0 by omega)),Int.add_emod_right];have e:=Int.tmod_add_mul_tdiv n k;have:n.tmod k=n+k*(-(n.tdiv k)):=by rw[Int.mul_neg];omega
 rw[this,Int.add_mul_emod_self_left]
set_option maxHeartbeats 1000000 in
theorem bI (h:GF v b a) (hb:b.n.length<=400000) (ha:a.n.length<=400000):Hm 161 v (oX a b) (BU a):=by
 obtain⟨x,y,rfl,A,hy⟩:=h.get;have hf:=Qr (Ho a.li a.ru hy) (by simpa using (by omega:a.n.length<=1000000));have ho:=OM (Ho b.li b.ru A) (by simpa using (by omega:b.n.length<=1000000));have ef:BU ⟨a.li,a.ru,a.n⟩=BU a:=rfl;have en:A4 ⟨a.li,a.ru,a.n⟩=A4 a:=rfl;rw[ef,en] at hf;have oc:Aw (.agg [.bool b.li,.bool b.ru,x]) 3=true:=Jz (Cg rfl rfl A.cell);have e0:∀ l:jo,decide ((0:Int) < (l.length:Int))=decide (0 < l.length):=by intro l;rw[fe,iS,iS];omega
 by_cases U:BU a=0
 ·have fin:∀ l:jo,A6 (.jE [.agg [.bool b.li,.bool b.ru,.sl 1 (An l) false],.jK])=true:=fun l=>by simp[A6,jN,Ap,E8]
  by_cases O:0 < b.n.length
  ·have hk:=N9 (n:=A4 a) O;obtain⟨p,hp1,tA⟩:=Bh.lo A (k:=GL (A4 a) b.n.length) (by omega);obtain⟨q,hq1,pd⟩:=Bh.himx A (k:=GL (A4 a) b.n.length) (by omega);have hcc:=WG tA pd (by simp;omega) (by simp;omega);obtain⟨w1,w2⟩:=XN (n:=A4 a) O (by omega);refine⟨.agg [.bool b.li,.bool b.ru,.sl 1 (An (ll (A4 a) b.n)) false],?_,by unfold oX;rw[iJ U,iI (by omega)];exact .mk _ _ _ _ (.sl _ _)⟩;rw[U];refine Bm (by simp[Ap,h.ok]) ?_;rw[UW];unfold wa wb wc wd wg wn wp wv;rw[h.val,AO];simp only[BT,BG,JM,Kx,HG,At,hf,BS,dP,dR,FI,U,iX,iQ,iN,Am,dE,iG,oc,AO,ho,A.len,Bg,CT,e0,O,iM,iH];have r1:Ad (.bin .rem .num false (.c (I (A4 a))) (.c (I b.n.length)))=some (I ((A4 a).tmod b.n.length)):=by rw[I,I,Jx _ _ (by omega)];rfl
   have r2:∀ m:Int,Ad (.bin .rem .num false (.c (I m)) (.c (I b.n.length)))=some (I (m.tmod b.n.length)):=fun m=>by rw[I,I,Jx _ _ (by omega)];rfl
   rw[r1];simp only[At,BN,w1,r2,w2,hp1,hq1];rw[show AX 1 [p,q]=true by simp[AX,tA.val,pd.val,tA.cells,pd.cells],AO,show AB 1 1 [p,q] 0 (Ah [p,q])=.sl 1 [p,q] false from rfl,hcc];simp only[At,BB,Ko,HA,Hz,fin,AO];rfl
  {have oQ:b.n=[]:=fK.1 (by omega);refine⟨.agg [.bool b.li,.bool b.ru,.sl 1 (An b.n) false],?_,by unfold oX;rw[iJ U,iJ (by omega),oQ];exact .mk _ _ _ _ (.sl _ _)⟩;rw[U];refine Bm (by simp[Ap,h.ok]) ?_;rw[UW];unfold wa wb wc wd wg wn wp wv;rw[h.val,AO];simp only[BT,BG,JM,Kx,HG,At,hf,BS,dP,dR,FI,U,iX,iQ,iN,Am,dE,iG,oc,AO,ho,A.len,Bg,CT,e0,O,BB,Ko,HA,Hz,fin];rfl}
 ·refine⟨.agg [.bool false,.bool false,.jD],?_,by unfold oX;rw[iI U];exact Bk⟩;refine Bm (by simp[Ap,h.ok]) ?_;rw[UW];unfold wa wb wc wd wg wn wp wv;rw[h.val,AO];simp only[BT,BG,JM,At,hf,BS,dP,dR,FI,U,iX,iV,iM,Am,iH]
  try rfl
def lW (n:Int) (l:jo):jo:=if 0<=n then l.drop (min n l.length).toNat else l.take (max ((l.length:Int)+max n (-(l.length:Int))) 0).toNat
def mX (a b:jI):jI:=if BU a=0 then ⟨true,b.ru,lW (A4 a) b.n⟩ else A2
theorem minI (a b:Int):Ad (.j6 false [.c (I a),.c (I b)])=some (I (min a b)):=by
 simp only[Ad,exec,dI,dW,RX.ev,Ic,I,AN];by_cases h:b < a
 ·have:min a b=b:=by omega
  simp[h,this]
 ·have:min a b=a:=by omega
  simp[h,this]
theorem maxI (a b:Int):Ad (.j6 true [.c (I a),.c (I b)])=some (I (max a b)):=by
 simp only[Ad,exec,dI,dW,RX.ev,Ic,I,AN];by_cases h:a < b
 ·have:max a b=b:=by omega
  simp[h,this]
 ·have:max a b=a:=by omega
  simp[h,this]
theorem negI (n:Int):Ad (.un .neg (.c (I n)))=some (I (IntKind.i64.wrap (0 - n))):=XX n
theorem Zu {d top:Nat} (h0:0<=n) (U:n<=top):Ev (some (I n)) d top=some n.toNat:=by
 have:n.toNat<=top:=by omega
 simp[Ev,C9,DL,AN,I,h0,this]
theorem Tl (d top:Nat):Ev none d top=some d:=rfl
set_option maxHeartbeats 1000000 in
theorem zaL (h:GF v b a) (hb:b.n.length<=400000) (ha:a.n.length<=400000):Hm 164 v (mX a b) (BU a):=by
 obtain⟨x,y,rfl,A,hy⟩:=h.get;have hf:=Qr (Ho a.li a.ru hy) (by simpa using (by omega:a.n.length<=1000000));have ho:=OM (Ho b.li b.ru A) (by simpa using (by omega:b.n.length<=1000000));have ef:BU ⟨a.li,a.ru,a.n⟩=BU a:=rfl;have en:A4 ⟨a.li,a.ru,a.n⟩=A4 a:=rfl;rw[ef,en] at hf;have fin:∀ (r:Bool) (l:jo),Aw (EV r (.sl 1 (An l) false)) 3=true:=fun r l=>rfl;by_cases U:BU a=0
 ·by_cases O:0<=A4 a
  ·obtain⟨m,hm⟩:∃ m:Nat,min (A4 a) b.n.length=m:=⟨(min (A4 a) b.n.length).toNat,by omega⟩;have rH:m<=b.n.length:=by omega
   refine⟨EV b.ru (.sl 1 (An (b.n.drop m)) false),?_,by
    have e:lW (A4 a) b.n=b.n.drop m:=by unfold lW;rw[iJ O,hm];rfl
    unfold mX;rw[iJ U,e];exact .mk _ _ _ _ (.sl _ _)⟩
   rw[U];refine Bm (by simp[Ap,h.ok]) ?_;rw[UV];unfold wa wb wc wd wg wn wp wv;rw[h.val,AO];simp only[BT,BG,JM,Kx,HG,At,hf,BS,dP,dR,FI,U,iX,iQ,iN,Am,dE,iG,ho,A.len,Bg,Ef,O,iM,iH,minI,hm,BB,Tl];rw[Zu (by omega) (by simp[BA];omega)];simp only[At,JF,BA,dN,eqN_eq,zk,IB,uA,JK,subN_eq,eu];by_cases h3:b.n.length=m/\0 < m;{rw[iJ (by simp[h3.1,h3.2])];rw[vg (Ho b.li b.ru A)];have:b.n.drop m=[]:=eP (by omega);rw[this];rfl};{rw[iI (by simpa using h3)];rw[zaE _ (by omega),dV (by simp),Ol (Ho b.li b.ru A)];simp only[At,fin,AO];rfl}
  ·obtain⟨m,hm⟩:∃ m:Nat,max ((b.n.length:Int)+max (A4 a) (-(b.n.length:Int))) 0=m:=⟨(max ((b.n.length:Int)+max (A4 a) (-(b.n.length:Int))) 0).toNat,by omega⟩;have rH:m<=b.n.length:=by omega
   refine⟨EV b.ru (.sl 1 (An (b.n.take m)) false),?_,by
    have e:lW (A4 a) b.n=b.n.take m:=by unfold lW;rw[iI O,hm];rfl
    unfold mX;rw[iJ U,e];exact .mk _ _ _ _ (.sl _ _)⟩
   rw[U];refine Bm (by simp[Ap,h.ok]) ?_;rw[UV];unfold wa wb wc wd wg wn wp wv;rw[h.val,AO];simp only[BT,BG,JM,Kx,HG,At,hf,BS,dP,dR,FI,U,iX,iQ,iN,Am,dE,iG,ho,A.len,Bg,Ef,O,negI,maxI,BB,Tl,BN];rw[Dc (n:=0 - (b.n.length:Int)) (by omega) (by omega),show (0:Int) - (b.n.length:Int) = -(b.n.length:Int) by omega,Dc (by omega) (by omega),hm];rw[Zu (by omega) (by simp[BA];omega)];simp only[At,dN];rw[Oy _ rH,Ol (Ho b.li b.ru A)];simp only[At,fin,AO];rfl
 ·refine⟨.agg [.bool false,.bool false,.jD],?_,by unfold mX;rw[iI U];exact Bk⟩;refine Bm (by simp[Ap,h.ok]) ?_;rw[UV];unfold wa wb wc wd wg wn wp wv;rw[h.val,AO];simp only[BT,BG,JM,At,hf,BS,dP,dR,FI,U,iX,iV,iM,Am,iH]
  try rfl
end Go.Ab.jF.Sh


namespace Go.Ab.jF.Sh
open Go Go.Ab Go.Ab.jF
variable{a b r:jI} {c f:Int} {g:ja} {i k:Nat} {u v:W}
def pk (b:jI) (f:Int) (j:Nat):Int:=if 0<=f+j/\f+j < b.n.length then b.n.getD (f+j).toNat 0 else kQ b.ru
def Fm (b:jI) (f:Int) (k i:Nat):jo:=(List.range k).map fun j=>if j < i then pk b f j else 0
def tkF (b:jI) (n:Int):Int:=if n < 0 then (b.n.length:Int)+n else 0
def FD (n:Int):Nat:=if n < 0 then (-n).toNat else n.toNat
def H5 (b:jI) (n:Int):jo:=(List.range (FD n)).map fun j=>pk b (tkF b n) j
def Id (a:jI):Int:=Dt (-200) 200 a
def mY (a b:jI):jI:=if Id a=0 then ⟨true,b.ru,H5 b (A4 a)⟩ else A2
theorem Lx (b:jI) (f:Int) (k i:Nat):(Fm b f k i).length=k:=by simp[Fm]
theorem Uo {j:Nat} (h:j < k):(Fm b f k i)[j]?=some (if j < i then pk b f j else 0):=by unfold Fm;rw[dT,fA h];rfl
theorem zaM (b:jI) (f:Int) (k:Nat):An (Fm b f k 0)=List.replicate k (I 0):=by apply eO;intro j;by_cases h:j < k;{simp[An,Uo h,h]};{rw[ew (by rw[BA,Lx];omega),ew (by simp;omega)]}
theorem tkL_end (b:jI) (f:Int) (k:Nat):Fm b f k k=(List.range k).map fun j=>pk b f j:=by unfold Fm;apply eD;intro j hj;rw[iJ (fI.1 hj)]
theorem Un (h:i < k):(Fm b f k i).set i (pk b f i)=Fm b f k (i+1):=by apply eO;intro j;by_cases hj:j < k;{rw[gr,Uo hj,Uo hj,Lx];by_cases U:i=j;{subst U;rw[iJ rfl,iJ h,iJ (by omega)]};{rw[iI U];by_cases O:j < i;{rw[iJ O,iJ (by omega)]};{rw[iI O,iI (by omega)]}}};{rw[ew (by rw[gz,Lx];omega),ew (by rw[Lx];omega)]}
set_option maxHeartbeats 2000000 in
theorem vl {x y:W} (A:Bh x b.n) (hy:Bh y a.n) (hb:b.n.length<=400000) (f:Int) (k:Nat) (hk:k<=200) (hf : -1000000<=f/\f<=1000000) :
  Be (fun d=>Ac (Ad (.bin .lss .num false (.c (J d.1 3)) (.c (J d.1 2)))) fun e=>Ai e (Ac (A3 (J d.1 4) 1 1 false) fun e=>Ac (Ax B0 .cl (.fn 202 []) [e]) fun e=>Ac (Fl (J d.1 3)) fun g=>Ae (CG g (Aj (J d.1 1))) (Ac (F9 1 (Ao (J d.1 8)) (As 0 g) 0 1 e) fun e=>Ac (Ad (.bin .add .num false (.c (J d.1 0)) (.c (J d.1 3)))) fun g=>Ac (Ac (Ad (.bin .geq .num true (.c g) (.c (W.int .i64 0)))) fun e=>Ai e (Ac (A3 (J d.1 4) 2 1 false) fun d=>Ac (Ad (.len .slice (.c d))) fun d=>Ac (Ad (.bin .lss .num false (.c g) (.c d))) fun d=>some d) (some (W.bool false))) fun h=>Ai h (Ac (A3 (J d.1 4) 2 1 false) fun h=>Ac (Ad (.jJ 1 (.c h) (.c g))) fun g=>Ac (Ad (.load 1 false (.c g))) fun g=>Ac (Fl (J d.1 3)) fun h=>Ae (CG h (Aj (J d.1 1))) (Ac (F9 1 e (As 0 h) 0 1 g) fun e=>Ac (Ad (.bin .add .num true (.c (J d.1 3)) (.c (W.int .i64 1)))) fun g=>some (.inl ([J d.1 0,nI (Aj (J d.1 1)),J d.1 2,g,J d.1 4,J d.1 5,J d.1 6,J d.1 7,W.sl 1 e false],d.2)))) (Ac (Ad (.bin .add .num true (.c (J d.1 3)) (.c (W.int .i64 1)))) fun g=>some (.inl ([J d.1 0,nI (Aj (J d.1 1)),J d.1 2,g,J d.1 4,J d.1 5,J d.1 6,J d.1 7,W.sl 1 e false],d.2))))) (Ac (Ac (A3 (J d.1 4) 0 3 true) fun e=>Ac (Bd B0 .cl false 157 [e,AB 1 1 (Ao (J d.1 8)) 0 (Aj (J d.1 1))]) fun e=>Ae (Aw e 3) (some (W.jE [W.agg [Af e 0,Af e 1,Af e 2],W.jK],d.2))) fun d=>some (.inr d))) (([I f,I k,I k,I 0,.agg [.bool b.li,.bool b.ru,x,.bool a.li,.bool a.ru,y],.bool false,.bool false,.jD,.sl 1 (List.replicate k (I 0)) false],()):jh×Unit) =
   some (.jE [EV b.ru (.sl 1 (An (Fm b f k k)) false),.jK],()):=by
 refine G7 (fun i=>([I f,I k,I k,I i,.agg [.bool b.li,.bool b.ru,x,.bool a.li,.bool a.ru,y],.bool false,.bool false,.jD,.sl 1 (An (Fm b f k i)) false],())) k (by rw[zaM];rfl) (fun i jP=>?_) ?_
 ·simp only[AW,AV,A1,Bc,BD,Cd,B9,Cm,CS,AS,At,Am,Cl,dN,BB,nW,BT,BG,Rc,HG,Ys];rw[iJ (by simpa using jP)];have c1:CG i k=true:=by simpa using jP
  rw[c1,Od (by rw[Lx];exact jP)];simp only[AO,At,BN];rw[Dc (n:=f+(i:Int)) (by omega) (by omega)];simp only[Bg,Ef,AS,At,Am,A.len];by_cases U:0<=f+(i:Int)
  ·by_cases O:f+(i:Int) < b.n.length
   ·obtain⟨m,hm⟩:∃ m:Nat,f+(i:Int)=m:=⟨(f+i).toNat,by omega⟩;have rH:m < b.n.length:=by omega
    have e1:(if decide (0<=f+(i:Int))=true then some (W.bool (decide (f+(i:Int) < b.n.length))) else some (.bool false))=some (.bool true):=by simp only[U,O,iM,iH]
    rw[e1];simp only[At,Am,iH];rw[hm,A.idx rH];simp only[At,C0];rw[Od (by rw[gz,Lx];exact jP)];have e2:((Fm b f k i).set i (kQ b.ru)).set i b.n[m]=Fm b f k (i+1):=by rw[List.set_set,<-Un jP];congr 1;unfold pk;rw[iJ ⟨U,O⟩,hm,dN,dO,dQ rH];rfl
    rw[e2];simp only[At,BN,Cs (by omega:i < 9223372036854775807)];rfl
   ·have e1:(if decide (0<=f+(i:Int))=true then some (W.bool (decide (f+(i:Int) < b.n.length))) else some (.bool false))=some (.bool false):=by simp only[U,O,iM,iN,iH]
    rw[e1];simp only[At,Am,dE,iG];have e2:(Fm b f k i).set i (kQ b.ru)=Fm b f k (i+1):=by rw[<-Un jP];congr 1;unfold pk;rw[iI fun q=>O q.2]
    rw[e2];simp only[At,BN,Cs (by omega:i < 9223372036854775807)];rfl
  ·have e1:(if decide (0<=f+(i:Int))=true then some (W.bool (decide (f+(i:Int) < b.n.length))) else some (.bool false))=some (.bool false):=by simp only[U,iN,dE,iG]
   rw[e1];simp only[At,Am,dE,iG];have e2:(Fm b f k i).set i (kQ b.ru)=Fm b f k (i+1):=by rw[<-Un jP];congr 1;unfold pk;rw[iI fun q=>U q.1]
   rw[e2];simp only[At,BN,Cs (by omega:i < 9223372036854775807)];rfl
 ·simp only[AW,AV,A1,Bc,BD,CS,AS,At,Am,Cl,dN,BB];rw[iI (by simp)];simp only[BT,BG,Kx,At];have e1:AB 1 1 (An (Fm b f k k)) 0 k=.sl 1 (An (Fm b f k k)) false:=by have:=Ko (Fm b f k k);simpa[BA,Lx] using this
  rw[e1,Ol (Ho b.li b.ru A)]
  try rfl
set_option maxHeartbeats 1000000 in
theorem QB (h:GF v b a) (hb:b.n.length<=400000) (ha:a.n.length<=400000):Hm 163 v (mY a b) (Id a):=by
 have ham:=WN h (by omega) (-200) 200;obtain⟨x,y,rfl,A,hy⟩:=h.get;have ee:Id a=Dt (-200) 200 a:=rfl;by_cases U:Dt (-200) 200 a=0
 ·have h3:BU a=0/\¬ A4 a < -200/\¬ 200 < A4 a:=by unfold Dt at U;by_cases q:BU a=0/\(A4 a < -200\/200 < A4 a);{rw[iJ q] at U;cases U};{rw[iI q] at U;exact⟨U,fun q2=>q ⟨U,.inl q2⟩,fun q2=>q ⟨U,.inr q2⟩⟩}
  have hl:=vl A hy hb (tkF b (A4 a)) (FD (A4 a)) (by unfold FD;split<;>omega) (by unfold tkF;split<;>omega);rw[tkL_end] at hl;simp only[BT,BG,LJ,HG,At,Bg,ham,BS,dP,dR,FI,U,iX,iQ,iN,Am,dE,iG,AS,A.len,BN,negI] at hl;refine⟨EV b.ru (.sl 1 (An (H5 b (A4 a))) false),?_,by unfold mY;rw[iJ (ee.trans U)];exact .mk _ _ _ _ (.sl _ _)⟩;rw[ee,U];refine Bm (by simp[Ap,h.ok]) ?_;rw[zZ];unfold wa wb wc wd wf wg wh wj wm wn wo wp wr wv;rw[h.val,AO];simp only[BT,BG,LJ,HG,At,Bg,ham,BS,dP,dR,FI,U,iX,iQ,iN,Am,dE,iG,AS,A.len,BN,negI];by_cases O:A4 a < 0
  ·have ef:tkF b (A4 a)=(b.n.length:Int)+A4 a:=by unfold tkF;rw[iJ O]
   have ek:((FD (A4 a):Nat):Int) = -(A4 a):=by unfold FD;rw[iJ O];omega
   simp only[O,iM,iH];rw[Dc (n:=(b.n.length:Int)+A4 a) (by omega) (by omega),Dc (n:=0 - A4 a) (by omega) (by omega),show (0:Int) - A4 a = -(A4 a) by omega,<-ef,<-ek,U3 (by unfold FD;split<;>omega)];simp only[At];rw[show AY [I (tkF b (A4 a)),nI (FD (A4 a)),nI (FD (A4 a)),I 0]=true from rfl,AO];exact hl
  ·have ef:tkF b (A4 a)=0:=by unfold tkF;rw[iI O]
   have ek:A4 a=((FD (A4 a):Nat):Int):=by unfold FD;rw[iI O];omega
   simp only[O,iN,dE,iG]
   have em:K5 (I (A4 a)) (I (A4 a))=some (FD (A4 a)):=by
    have:=U3 (n:=FD (A4 a)) (by unfold FD;split<;>omega)
    rwa [<-ek] at this
   rw[em];simp only[At];rw[show AY [I 0,nI (FD (A4 a)),nI (FD (A4 a)),I 0]=true from rfl,AO];rw[ef] at hl;have et:H5 b (A4 a)=(List.range (FD (A4 a))).map fun j=>pk b 0 j:=by unfold H5;rw[ef]
   rw[et];exact hl
 ·refine⟨.agg [.bool false,.bool false,.jD],?_,by unfold mY;rw[iI fun q=>U (ee.symm.trans q)];exact Bk⟩;rw[ee];refine Bm (by simp[Ap,h.ok]) ?_;rw[zZ];unfold wa wb wc wd wf wg wh wj wm wn wo wp wr wv;rw[h.val,AO];simp only[BT,BG,LJ,At,Bg,ham,BS,dP,dR,FI,U,iX,iV,iM,Am,iH]
  try rfl
def lO (g:ji) (b:jI):Int :=
 if b.right=false then 114
 else if g=gR then 0 else if g=gI then Eu b else if g=gC then 0 else if g=gT then 0 else if g=gU then 0 else if g=gN then 0 else 102
def lI (g:ji) (b:jI):jI :=
 if b.right=false then A2
 else if g=gR then Ny b else if g=gI then Gw b else if g=gC then ⟨true,b.ru,b.n⟩ else if g=gT then ⟨b.li,b.ru,b.n.reverse⟩ else if g=gU then EX b else if g=gN then oW b.n.length else A2
theorem HC (f:ja):Ad (.bin .eql .func true (.c (.fn f [])) (.c .jV))=some (.bool false):=rfl
theorem Ze:Ad (.bin .eql .func true (.c .jV) (.c .jV))=some (.bool true):=rfl
theorem Ri (h:Az v a):AX 3 [v]=true:=by obtain⟨x,rfl,A⟩:=h.get;simp[AX,Cg (a:=.bool a.li) (b:=.bool a.ru) rfl rfl A.cell]
theorem Ut (h:Az v a) (hu:Az u b):AX 3 [v,u]=true:=by obtain⟨x,rfl,A⟩:=h.get;obtain⟨y,rfl,hy⟩:=hu.get;simp[AX,Cg (a:=.bool a.li) (b:=.bool a.ru) rfl rfl A.cell,Cg (a:=.bool b.li) (b:=.bool b.ru) rfl rfl hy.cell]
theorem BF (h:Az v a):AZ v=true:=by obtain⟨x,rfl,A⟩:=h.get;exact Cg rfl rfl A.cell
theorem Cj (h:Az v a):A3 v 0 3 true=some v:=by obtain⟨x,rfl,A⟩:=h.get;rfl
theorem Hw (h:Hm g v r c):∃ y,Az y r/\(Ac (Ax B0 .cl (.fn g []) [v]) fun a=>Ac (Ad (.extract 0 (.c a))) fun b=>Ac (Ad (.extract 1 (.c a))) fun a=>Ae (Aw b 3) (Ac (Ax B0 .cl (.fn 117 []) [a]) fun a=>some (W.jE [.agg [Af b 0,Af b 1,Af b 2],a],())))=some (.jE [y,I c],()):=by obtain⟨y,U,O⟩:=h;refine⟨y,O,?_⟩;rw[U];simp only[At,BS,dP,dR,Cq O,AO,Ov,zaD O]
theorem o6 (g:ji) (h:Az v b) (hl:b.n.length<=1000000):∃ y,Ax B0 .cl (.fn 88 []) [.str g,v]=some (.jE [y,I (lO g b)])/\Az y (lI g b):=by
 have key:∃ y,Az y (lI g b)/\AH (AD B0 fun _=>.cl) fn88 .cl AI 0 [.cv (.str g),.cv v] ()=some (.jE [y,I (lO g b)],()):=by
  rw[run88];unfold wa wb wd wi wv;rw[BF h,AO,Yo];simp only[At,X9,Cj h,Ri h,AO]
  rw[show Aw (.agg [Jp g,Cn g]) 2=true by
   unfold Jp Cn Aw;simp only[W.isVal];by_cases U:g=gR;· simp[U,W.jZ]
   by_cases O:g=gI;· simp[U,O,W.jZ]
   by_cases h3:g=gC;· simp[U,O,h3,W.jZ]
   by_cases h4:g=gT;· simp[U,O,h3,h4,W.jZ]
   by_cases h5:g=gU;· simp[U,O,h3,h4,h5,W.jZ]
   by_cases h6:g=gD;· simp[U,O,h3,h4,h5,h6,W.jZ]
   by_cases h7:g=gN;· simp[U,O,h3,h4,h5,h6,h7,W.jZ]
   simp[U,O,h3,h4,h5,h6,h7,W.jZ],AO]
  have e0:AB 3 3 [v] 0 (Ah [v])=.sl 3 [v] false:=rfl;rw[e0,right1 h hl];simp only[At,BH,Am];unfold lO lI;cases T:b.right with
  | false=>exact⟨_,Bk,rfl⟩
  | true =>
   simp only[dK,dE,iG];rw[show Af (.agg [Jp g,Cn g]) 0=Jp g from rfl];unfold Jp;by_cases U:g=gR;{simp only[U,iH,HC,At,Am,dE,iG];exact Hw (QC h hl)};simp only[U,iG];by_cases O:g=gI;{simp only[O,iH,HC,At,Am,dE,iG];exact Hw (vi h hl)};simp only[O,iG];by_cases h3:g=gC;{simp only[h3,iH,HC,At,Am,dE,iG];exact Hw (vh h hl)};simp only[h3,iG];by_cases h4:g=gT;{simp only[h4,iH,HC,At,Am,dE,iG];exact Hw (ZU h hl)};simp only[h4,iG];by_cases h5:g=gU;{simp only[h5,iH,HC,At,Am,dE,iG];exact Hw (zaF h hl)};simp only[h5,iG];by_cases h6:g=gN;{simp only[h6,iH,HC,At,Am,dE,iG];exact Hw (len_run h)};simp only[h6,iG,Ze,At,Am,iH];exact⟨_,Bk,rfl⟩
 obtain⟨y,U,O⟩:=key;refine⟨y,?_,U⟩;exact El (by simp[Ap,jN,h.ok]) O
def nG (g:ji) (a b:jI):Int :=
 if (a.right&&b.right)=false then 114
 else if g=gR then Em a b else if g=gI then KH a else if g=gC then FO a b else if g=gT then BU a else if g=gU then Id a else if g=gD then BU a else if g=gN then 0 else 102
def nf (g:ji) (a b:jI):jI :=
 if (a.right&&b.right)=false then A2
 else if g=gR then rD a b else if g=gI then mP a b else if g=gC then mm a b else if g=gT then oX a b else if g=gU then mY a b else if g=gD then mX a b else if g=gN then oW (if a.same b then 0 else 1) else A2
theorem bP (h:Az v a) (hu:Az u b):∃ p,Ad (.build [.bool false,.bool false,.jD,.bool false,.bool false,.jD] [(0,(3,.c u)),(3,(3,.c v))])=some p/\GF p b a:=by obtain⟨x,rfl,A⟩:=h.get;obtain⟨y,rfl,hy⟩:=hu.get;refine⟨.agg [.bool b.li,.bool b.ru,y,.bool a.li,.bool a.ru,x],?_,.mk _ _ _ _ _ _ _ _ hy A⟩;simp[Ad,exec,ET,RX.ev,Cg (a:=.bool a.li) (b:=.bool a.ru) rfl rfl A.cell,Cg (a:=.bool b.li) (b:=.bool b.ru) rfl rfl hy.cell,j0,AN]
theorem dy_key (g:ji) (h:Az v a) (hu:Az u b) (ha:a.n.length<=400000) (hb:b.n.length<=400000) :
  ∃ y,Az y (nf g a b)/\AH (AD B0 fun _=>.cl) fn85 .cl AI 0 [.cv (.str g),.cv v,.cv u] ()=some (.jE [y,I (nG g a b)],()):=by
 obtain⟨p,hp1,tA⟩:=bP h hu;rw[run85];unfold wa wb wd wi wv;rw[BF h,BF hu,AO,AO,Yo];simp only[At,X9,Cj h,Cj hu,Ut h hu,AO,hp1]
 rw[show Aw (.agg [Jp g,Cn g]) 2=true by
  unfold Jp Cn Aw;simp only[W.isVal];by_cases U:g=gR;· simp[U,W.jZ]
  by_cases O:g=gI;· simp[U,O,W.jZ]
  by_cases h3:g=gC;· simp[U,O,h3,W.jZ]
  by_cases h4:g=gT;· simp[U,O,h3,h4,W.jZ]
  by_cases h5:g=gU;· simp[U,O,h3,h4,h5,W.jZ]
  by_cases h6:g=gD;· simp[U,O,h3,h4,h5,h6,W.jZ]
  by_cases h7:g=gN;· simp[U,O,h3,h4,h5,h6,h7,W.jZ]
  simp[U,O,h3,h4,h5,h6,h7,W.jZ],AO]
 have e0:AB 3 3 [v,u] 0 (Ah [v,u])=.sl 3 [v,u] false:=rfl;rw[e0,right2 h hu (by omega) (by omega)];simp only[At,BH,Am];unfold nG nf;cases T:(a.right&&b.right) with
 | false=>exact⟨_,Bk,rfl⟩
 | true =>
  simp only[dK,dE,iG];rw[show Af (.agg [Jp g,Cn g]) 1=Cn g from rfl];unfold Cn;by_cases U:g=gR;{simp only[U,iH,HC,At,Am,dE,iG];exact Hw (ar tA hb ha)};simp only[U,iG];by_cases O:g=gI;{simp only[O,iH,HC,At,Am,dE,iG];exact Hw (Z2 tA hb ha)};simp only[O,iG];by_cases h3:g=gC;{simp only[h3,iH,HC,At,Am,dE,iG];exact Hw (zaK tA hb ha)};simp only[h3,iG];by_cases h4:g=gT;{simp only[h4,iH,HC,At,Am,dE,iG];exact Hw (bI tA hb ha)};simp only[h4,iG];by_cases h5:g=gU;{simp only[h5,iH,HC,At,Am,dE,iG];exact Hw (QB tA hb ha)};simp only[h5,iG];by_cases h6:g=gD;{simp only[h6,iH,HC,At,Am,dE,iG];exact Hw (zaL tA hb ha)};simp only[h6,iG];by_cases h7:g=gN;{simp only[h7,iH,HC,At,Am,dE,iG];exact Hw (dm tA (by omega) (by omega))};simp only[h7,iG,Ze,At,Am,iH];exact⟨_,Bk,rfl⟩
theorem rW (g:ji) (h:Az v a) (hu:Az u b) (ha:a.n.length<=400000) (hb:b.n.length<=400000):∃ y,Ax B0 .cl (.fn 85 []) [.str g,v,u]=some (.jE [y,I (nG g a b)])/\Az y (nf g a b):=by obtain⟨y,U,O⟩:=dy_key g h hu ha hb;refine⟨y,?_,U⟩;exact El (by simp[Ap,jN,h.ok,hu.ok]) O
end Go.Ab.jF.Sh


namespace Go.Ab.jF.Sh
open Go Go.Ab Go.Ab.jF
variable{β:Type} {g:ji} {l:jo} {n:Int} {v:W}
theorem Ca {a:jI} (h:Az v a):Bh (Af v 2) a.n:=by obtain⟨x,rfl,A⟩:=h.get;exact A
theorem EU {a:jI} (h:Az v a):A3 v 0 1 false=some (.bool a.li):=by obtain⟨x,rfl,A⟩:=h.get;rfl
theorem Cy {a:jI} (h:Az v a):A3 v 1 1 false=some (.bool a.ru):=by obtain⟨x,rfl,A⟩:=h.get;rfl
theorem B5 {a:jI} (h:Az v a):A3 v 2 1 false=some (Af v 2):=by obtain⟨x,rfl,A⟩:=h.get;rfl
theorem idx0 (h:Bh v (n :: l)):Ad (.jJ 1 (.c v) (.c (.int .i64 0)))=some (.ptr [I n] 0):=h.idx (i:=0) (by simp)
theorem bV {α:Type} (a:α) (f:α->Option β):Ac (some a) f=f a:=eK rfl rfl
theorem cT (a:Option β):Ae true a=a:=eK rfl rfl
theorem iD (n:Int):W.int .i64 n=I n:=eK rfl rfl
section
variable {a b:jI}
theorem mon_R (h:b.right=true):lO gR b=0/\lI gR b=Ny b:=by unfold lO lI;simp[h]
theorem mon_I (h:b.right=true):lO gI b=Eu b/\lI gI b=Gw b:=by unfold lO lI;simp[h,show ¬ gI=gR by decide]
theorem mon_C (h:b.right=true):lO gC b=0/\lI gC b=⟨true,b.ru,b.n⟩:=by unfold lO lI;simp[h,show ¬ gC=gR by decide,show ¬ gC=gI by decide]
theorem mon_T (h:b.right=true):lO gT b=0/\lI gT b=⟨b.li,b.ru,b.n.reverse⟩:=by unfold lO lI;simp[h,show ¬ gT=gR by decide,show ¬ gT=gI by decide,show ¬ gT=gC by decide]
theorem mon_U (h:b.right=true):lO gU b=0/\lI gU b=EX b:=by unfold lO lI;simp[h,show ¬ gU=gR by decide,show ¬ gU=gI by decide,show ¬ gU=gC by decide,show ¬ gU=gT by decide]
theorem mon_N (h:b.right=true):lO gN b=0/\lI gN b=oW b.n.length:=by unfold lO lI;simp[h,show ¬ gN=gR by decide,show ¬ gN=gI by decide,show ¬ gN=gC by decide,show ¬ gN=gT by decide,show ¬ gN=gU by decide]
theorem sG (h:b.right=false):lO g b=114/\lI g b=A2:=by unfold lO lI;simp[h]
theorem qt (h:(a.right&&b.right)=false):nG g a b=114/\nf g a b=A2:=by unfold nG nf;rw[iJ h,iJ h];exact⟨rfl,rfl⟩
theorem dy_R (ha:a.right=true) (h:b.right=true):nG gR a b=Em a b/\nf gR a b=rD a b:=by unfold nG nf;simp[h,ha]
theorem dy_I (ha:a.right=true) (h:b.right=true):nG gI a b=KH a/\nf gI a b=mP a b:=by unfold nG nf;simp[h,ha,show ¬ gI=gR by decide]
theorem dy_C (ha:a.right=true) (h:b.right=true):nG gC a b=FO a b/\nf gC a b=mm a b:=by unfold nG nf;simp[h,ha,show ¬ gC=gR by decide,show ¬ gC=gI by decide]
theorem dy_T (ha:a.right=true) (h:b.right=true):nG gT a b=BU a/\nf gT a b=oX a b:=by unfold nG nf;simp[h,ha,show ¬ gT=gR by decide,show ¬ gT=gI by decide,show ¬ gT=gC by decide]
theorem dy_U (ha:a.right=true) (h:b.right=true):nG gU a b=Id a/\nf gU a b=mY a b:=by unfold nG nf;simp[h,ha,show ¬ gU=gR by decide,show ¬ gU=gI by decide,show ¬ gU=gC by decide,show ¬ gU=gT by decide]
theorem dy_D (ha:a.right=true) (h:b.right=true):nG gD a b=BU a/\nf gD a b=mX a b:=by unfold nG nf;simp[h,ha,show ¬ gD=gR by decide,show ¬ gD=gI by decide,show ¬ gD=gC by decide,show ¬ gD=gT by decide,show ¬ gD=gU by decide]
theorem dy_N (ha:a.right=true) (h:b.right=true):nG gN a b=0/\nf gN a b=oW (if a.same b then 0 else 1):=by unfold nG nf;simp[h,ha,show ¬ gN=gR by decide,show ¬ gN=gI by decide,show ¬ gN=gC by decide,show ¬ gN=gT by decide,show ¬ gN=gU by decide,show ¬ gN=gD by decide]
end
theorem WX (n:Int):(oW n).right=true:=by simp[jI.right,oW]
end Go.Ab.jF.Sh


namespace Go.Ab.jF.Sh
open Go Go.Ab Go.Ab.jF
variable{a:jI} {l:jo}
theorem G3 (h:a.right=true):a.n.length<=200:=by
 unfold jI.right at h;rw[dF] at h;have O:=h.2;split at O;{simpa using O}
 ·have:a.n.length=1:=by simpa using O
  omega
theorem lq (h:a.right=true) (T:a.ru=true):∀ n∈a.n,Fk n=true:=by
 unfold jI.right at h;rw[dF] at h;have U:=h.1;rw[T] at U;simp only[ez,fO] at U;intro n hn;cases hq:Fk n with
 | true=>rfl
 | false =>
  have:(a.n.any fun n=>!Fk n)=true:=iz.2 ⟨n,hn,by simp[hq]⟩;rw[this] at U;cases U
theorem kH {li ru:Bool} (U:ru=true->∀ n∈l,Fk n=true) (O:if li then l.length<=200 else l.length=1):(⟨li,ru,l⟩:jI).right=true:=by
 unfold jI.right;rw[dF];refine⟨?_,?_⟩
 ·cases ru with
  | false=>rfl
  | true =>
   simp only[ez,fO];rw[Bool.eq_false_iff];intro ha;obtain⟨n,hn,hq⟩:=iz.1 ha;rw[U rfl n hn] at hq;cases hq
 ·cases li with
  | true=>simpa using O
  | false=>simpa using O
end Go.Ab.jF.Sh


namespace Go.Ab.jF.Sh
open Go Go.Ab Go.Ab.jF
variable{a b:jI} {i:Nat} {l:jo} {r:Bool}
theorem Mv:A2.right=false:=by simp[jI.right,A2]
theorem rune_32:Fk 32=true:=by decide
theorem TH (a:jI):BU a=0\/BU a=111\/BU a=102:=by unfold BU;split;{exact .inr (.inl rfl)};{split;{exact .inr (.inr rfl)};{exact .inl rfl}}
theorem Zx (lo hi:Int) (a:jI):Dt lo hi a=0\/Dt lo hi a=111\/Dt lo hi a=102\/Dt lo hi a=113:=by unfold Dt;split;{exact .inr (.inr (.inr rfl))};{rcases TH a with h | h | h;{exact .inl h};{exact .inr (.inl h)};{exact .inr (.inr (.inl h))}}
theorem XK {lo hi:Int} (h:Dt lo hi a=0):BU a=0/\lo<=A4 a/\A4 a<=hi:=by unfold Dt at h;by_cases q:BU a=0/\(A4 a < lo\/hi < A4 a);{rw[iJ q] at h;cases h};{rw[iI q] at h;refine⟨h,?_,?_⟩;{exact Int.not_lt.1 fun q2=>q ⟨h,.inl q2⟩};{exact Int.not_lt.1 fun q2=>q ⟨h,.inr q2⟩}}
theorem Yn (h:i < l.length) (d:Int):l.getD i d∈l:=by rw[dO,dQ h];exact eW h
theorem Xx (h:r=true):Fk (kQ r)=true:=by rw[h];exact rune_32
theorem qf (g:ji) (b:jI):(lO g b=0↔(lI g b).right=true)/\(lO g b=114->b.right=false):=by
 cases hq:b.right with
 | false =>
  obtain⟨e1,e2⟩:=sG (g:=g) hq;rw[e1,e2,Mv];simp
 | true =>
  have hl:=G3 hq;have T:=lq hq;have fin:∀ {e:Int} {r:jI},(e=0->r.right=true)->(e≠0->r=A2)->e≠114->(e=0↔r.right=true)/\(e=114->true=false):=by intro e r U O h3;refine⟨⟨U,fun h=>?_⟩,fun h=>iW h h3⟩;refine fh fun jW=>?_;rw[O jW,Mv] at h;cases h
  by_cases U:g=gR;{subst U;obtain⟨e1,e2⟩:=mon_R hq;rw[e1,e2];exact fin (fun _=>kH (fun h=>by cases h) (by rw[iJ rfl];split<;>simp)) (fun h=>iW rfl h) (by decide)};by_cases O:g=gI
  ·subst O;obtain⟨e1,e2⟩:=mon_I hq;rw[e1,e2];refine fin (fun h=>?_) (fun h=>?_) ?_;{unfold Gw;rw[iJ h];refine kH (fun h=>by cases h) ?_;rw[iJ rfl,Jv];unfold Eu at h;by_cases q1:BU b≠0;{rw[iJ q1] at h;exact iW h q1};{rw[iI q1] at h;by_cases q2:A4 b < 0;{rw[iJ q2] at h;cases h};{rw[iI q2] at h;by_cases q3:200 < A4 b;{rw[iJ q3] at h;cases h};{omega}}}};{unfold Gw;rw[iI h]}
   ·unfold Eu;rcases TH b with q | q | q<;>rw[q]
    {rw[iI (by simp)];split;{decide};{split<;>decide}};{rw[iJ (by decide)];decide};{rw[iJ (by decide)];decide}
  by_cases h3:g=gC;{subst h3;obtain⟨e1,e2⟩:=mon_C hq;rw[e1,e2];exact fin (fun _=>kH T (by simpa using hl)) (fun h=>iW rfl h) (by decide)};by_cases h4:g=gT;{subst h4;obtain⟨e1,e2⟩:=mon_T hq;rw[e1,e2];refine fin (fun _=>kH (fun h n hn=>T h n (ip.1 hn)) ?_) (fun h=>iW rfl h) (by decide);unfold jI.right at hq;rw[dF] at hq;have:=hq.2;rw[List.length_reverse];split at this<;>simp_all};by_cases h5:g=gU
  ·subst h5;obtain⟨e1,e2⟩:=mon_U hq;rw[e1,e2];refine fin (fun _=>kH (fun h n hn=>?_) (by simp)) (fun h=>iW rfl h) (by decide);rcases dX.1 (eE hn) with hm | hm;{exact T h n hm}
   {simp only[ep] at hm;subst hm;exact Xx h}
  by_cases h6:g=gN;{subst h6;obtain⟨e1,e2⟩:=mon_N hq;rw[e1,e2];exact fin (fun _=>WX _) (fun h=>iW rfl h) (by decide)};have e1:lO g b=102:=by unfold lO;simp[hq,U,O,h3,h4,h5,h6]
  have e2:lI g b=A2:=by unfold lI;simp[hq,U,O,h3,h4,h5,h6]
  rw[e1,e2];exact fin (fun h=>by cases h) (fun _=>rfl) (by decide)
theorem q8 (g:ji) (a b:jI):(nG g a b=0↔(nf g a b).right=true)/\(nG g a b=114->(a.right&&b.right)=false):=by
 cases hq:(a.right&&b.right) with
 | false =>
  obtain⟨e1,e2⟩:=qt (g:=g) hq;rw[e1,e2,Mv];simp
 | true =>
  rw[dF] at hq;obtain⟨ha,hb⟩:=hq;have hl:=G3 hb;have rU:=G3 ha;have T:=lq hb;have mi:if b.li then b.n.length<=200 else b.n.length=1:=by have wK:=hb;unfold jI.right at wK;rw[dF] at wK;have:=wK.2;split at this;{rename_i q;rw[iJ q];simpa using this};{rename_i q;rw[iI q];simpa using this}
  have fin:∀ {e:Int} {r:jI},(e=0->r.right=true)->(e≠0->r=A2)->e≠114->(e=0↔r.right=true)/\(e=114->true=false):=by intro e r U O h3;refine⟨⟨U,fun h=>?_⟩,fun h=>iW h h3⟩;refine fh fun jW=>?_;rw[O jW,Mv] at h;cases h
  have f114:BU a≠114:=by rcases TH a with q | q | q<;>rw[q]<;>decide
  by_cases U:g=gR
  ·subst U;obtain⟨e1,e2⟩:=dy_R ha hb;rw[e1,e2];refine fin (fun h=>?_) (fun h=>?_) ?_;{unfold rD;rw[iJ h];unfold Em at h;by_cases q1:Dt (-9223372036854775808) 200 a≠0;{rw[iJ q1] at h;exact iW h q1};{rw[iI q1] at h;have q0:=XK (Classical.not_not.1 q1);by_cases q2:A4 a < 0;{rw[iJ q2] at h;cases h};{rw[iI q2] at h;by_cases q3:0 < A4 a/\b.n.length=0;{rw[iJ q3] at h;cases h};{refine kH (fun mF n hn=>?_) (by rw[iJ rfl,JJ];omega);unfold GZ at hn;obtain⟨i,hi,rfl⟩:=dJ.1 hn;have hi:=fI.1 hi;exact T mF _ (Yn (gn _ (by omega)) 0)}}}};{unfold rD;rw[iI h]}
   ·unfold Em;rcases Zx (-9223372036854775808) 200 a with q | q | q | q<;>rw[q]
    {rw[iI (by simp)];split;{decide};{split<;>decide}};{rw[iJ (by decide)];decide};{rw[iJ (by decide)];decide};{rw[iJ (by decide)];decide}
  by_cases O:g=gI
  ·subst O;obtain⟨e1,e2⟩:=dy_I ha hb;rw[e1,e2];unfold KH mP;cases hal:a.li with
   | true=>exact fin (fun _=>kH (fun h=>by cases h) (by rw[dY];exact mi)) (fun h=>iW rfl h) (by decide)
   | false=>exact fin (fun h=>by cases h) (fun _=>rfl) (by decide)
  by_cases h3:g=gC
  ·subst h3;obtain⟨e1,e2⟩:=dy_C ha hb;rw[e1,e2];refine fin (fun h=>?_) (fun h=>?_) ?_
   ·unfold mm;rw[iJ h];unfold FO at h;by_cases q1:0 < a.n.length/\0 < b.n.length/\a.ru≠b.ru;{rw[iJ q1] at h;cases h}
    ·rw[iI q1] at h;by_cases q2:200 < a.n.length+b.n.length;{rw[iJ q2] at h;cases h}
     ·refine kH (fun mF n hn=>?_) (by simp;omega);have hcase:(a.ru=true\/a.n=[])/\(b.ru=true\/b.n=[]):=by cases ea:a.ru<;>cases eb:b.ru;{simp[FL,ea,eb] at mF};{simp[FL,ea,eb] at mF;refine⟨.inr ?_,.inl rfl⟩;rcases gL a.n.length with q | q;{exact fK.1 q};{exact iW ⟨q,mF,by rw[ea,eb];decide⟩ q1}};{simp[FL,ea,eb] at mF;refine⟨.inl rfl,.inr ?_⟩;rcases gL b.n.length with q | q;{exact fK.1 q};{exact iW ⟨mF,q,by rw[ea,eb];decide⟩ q1}};{exact⟨.inl rfl,.inl rfl⟩}
      rcases dX.1 hn with hm | hm
      {rcases hcase.1 with q | q;{exact lq ha q n hm};{rw[q] at hm;cases hm}};{rcases hcase.2 with q | q;{exact T q n hm};{rw[q] at hm;cases hm}}
   {unfold mm;rw[iI h]};{unfold FO;split;{decide};{split<;>decide}}
  by_cases h4:g=gT
  ·subst h4;obtain⟨e1,e2⟩:=dy_T ha hb;rw[e1,e2];refine fin (fun h=>?_) (fun h=>?_) f114
   ·unfold oX;rw[iJ h];by_cases q:b.n.length=0;{rw[iJ q];refine kH (fun _ n hn=>by cases hn) ?_;rw[q] at mi;exact mi}
    ·rw[iI q];refine kH (fun mF n hn=>?_) ?_;{unfold ll at hn;rcases dX.1 hn with hm | hm;{exact T mF n (e8 hm)};{exact T mF n (eE hm)}}
     ·have hk:=N9 (n:=A4 a) (k:=b.n.length) (by omega);have:(ll (A4 a) b.n).length=b.n.length:=by unfold ll;rw[eA,List.length_drop,eV];omega
      rw[this];exact mi
   {unfold oX;rw[iI h]}
  by_cases h5:g=gU;{subst h5;obtain⟨e1,e2⟩:=dy_U ha hb;rw[e1,e2];refine fin (fun h=>?_) (fun h=>?_) ?_;{have q0:=XK (lo := -200) (hi:=200) (a:=a) h;unfold mY;rw[iJ h];refine kH (fun mF n hn=>?_) ?_;{unfold H5 at hn;obtain⟨j,hj,rfl⟩:=dJ.1 hn;unfold pk;split;{rename_i q;exact T mF _ (Yn (by omega) 0)};{exact Xx mF}};{rw[iJ rfl];unfold H5 FD;rw[dY,ix];split<;>omega}};{unfold mY;rw[iI h]};{unfold Id;rcases Zx (-200) 200 a with q | q | q | q<;>rw[q]<;>decide}};by_cases h6:g=gD;{subst h6;obtain⟨e1,e2⟩:=dy_D ha hb;rw[e1,e2];refine fin (fun h=>?_) (fun h=>?_) f114;{unfold mX;rw[iJ h];refine kH (fun mF n hn=>?_) ?_;{unfold lW at hn;split at hn;{exact T mF n (e8 hn)};{exact T mF n (eE hn)}};{rw[iJ rfl];unfold lW;split;{rw[List.length_drop];omega};{rw[eV];omega}}};{unfold mX;rw[iI h]}};by_cases h7:g=gN;{subst h7;obtain⟨e1,e2⟩:=dy_N ha hb;rw[e1,e2];exact fin (fun _=>WX _) (fun h=>iW rfl h) (by decide)};have e1:nG g a b=102:=by unfold nG;simp[ha,hb,U,O,h3,h4,h5,h6,h7]
  have e2:nf g a b=A2:=by unfold nf;simp[ha,hb,U,O,h3,h4,h5,h6,h7]
  rw[e1,e2];exact fin (fun h=>by cases h) (fun _=>rfl) (by decide)
theorem dyA_len (g:ji) (hl:a.n.length<=202) (hm:b.n.length<=202):(nf g a b).n.length<=400000:=by by_cases h:(nf g a b).right=true;{have:=G3 h;omega};{have O:=(q8 g a b).1;have h3:nG g a b≠0:=fun q=>h (O.1 q);unfold nG at h3;unfold nf;by_cases q:(a.right&&b.right)=false;{rw[iJ q];simp[A2]};{rw[iI q] at h3 |-;by_cases U:g=gR;{simp only[U,iH] at h3 |-;unfold rD;rw[iI h3];simp[A2]};simp only[U,iG] at h3 |-;by_cases O:g=gI;{simp only[O,iH] at h3 |-;unfold mP;split;{simp;omega};{simp[A2]}};simp only[O,iG] at h3 |-;by_cases h4:g=gC;{simp only[h4,iH] at h3 |-;unfold mm;rw[iI h3];simp[A2]};simp only[h4,iG] at h3 |-;by_cases h5:g=gT;{simp only[h5,iH] at h3 |-;unfold oX;rw[iI h3];simp[A2]};simp only[h5,iG] at h3 |-;by_cases h6:g=gU;{simp only[h6,iH] at h3 |-;unfold mY;rw[iI h3];simp[A2]};simp only[h6,iG] at h3 |-;by_cases h7:g=gD;{simp only[h7,iH] at h3 |-;unfold mX;rw[iI h3];simp[A2]};simp only[h7,iG] at h3 |-;split<;>simp[A2,oW]}}
theorem zaN (g:ji) (hm:b.n.length<=202):(lI g b).n.length<=400000:=by by_cases h:(lI g b).right=true;{have:=G3 h;omega};{have O:=(qf g b).1;have h3:lO g b≠0:=fun q=>h (O.1 q);unfold lO at h3;unfold lI;by_cases q:b.right=false;{rw[iJ q];simp[A2]};{rw[iI q] at h3 |-;by_cases U:g=gR;{simp[U] at h3};simp only[U,iG] at h3 |-;by_cases O:g=gI;{simp only[O,iH] at h3 |-;unfold Gw;rw[iI h3];simp[A2]};simp only[O,iG] at h3 |-;by_cases h4:g=gC;{simp[h4] at h3};simp only[h4,iG] at h3 |-;by_cases h5:g=gT;{simp[h5] at h3};simp only[h5,iG] at h3 |-;by_cases h6:g=gU;{simp[h6] at h3};simp only[h6,iG] at h3 |-;split<;>simp[A2,oW]}}
end Go.Ab.jF.Sh


namespace Go.Ab.jF
open Go Go.Ab
variable{a:jI} {b c:Bool} {l:jo} {x y:W}
theorem vm:Ax B0 .cl (.fn 4 []) []=some (.bool true):=by obtain⟨n,h⟩:=zaB;exact Dw (by decide) h rfl rfl
def jI.cut (a:jI):jI:=⟨a.li,a.ru,a.n.take 40⟩
theorem cut_get (A:Bh x a.n):∃ y,Ad (.slice 1 (.c x) none (some (.c (I (min a.n.length 40:Nat)))) none)=some y/\Bh y a.cut.n:=by
 obtain⟨y,hy,hl⟩:=A.hi (k:=min a.n.length 40) (by omega);refine⟨y,hy,?_⟩;have e:a.n.take (min a.n.length 40)=a.n.take 40:=by rcases Nat.le_total a.n.length 40 with h | h;{rw[eG h,fM,dV h]};{rw[ii h]}
 rw[e] at hl;exact hl
theorem cut_len (a:jI):a.cut.n.length<=40:=by unfold jI.cut;rw[eV];omega
theorem vo (h:Bh y l):RB y (.agg [.bool b,.bool c,x]) 2 1=true:=by cases h<;>rfl
theorem zaO (h:Bh y l):In y (.agg [.bool b,.bool c,x]) 2=.agg [.bool b,.bool c,y]:=by cases h<;>rfl
end Go.Ab.jF


namespace Go.Ab.jF
open Go Go.Ab
variable{b:jI}
theorem Na (T:b.right=true):(b.li=false->b.n.length=1)/\b.n.length<=200:=by refine⟨fun h=>?_,QE T⟩;unfold jI.right at T;simp only[dF,h] at T;simpa using T.2
end Go.Ab.jF

