/- Part 8 of a proof: laws of a machine. -/
import Derived.Test.YtekfceoganklgaaGreatDoorK05
import Derived.Test.YtekfceoganklgaaGreatDoorK03
import Derived.Test.YtekfceoganklgaaGreatDoorK04
set_option linter.all false

namespace Go.Ab.mm
open Go Go.Ab
theorem pd {g:lL} {fn:Ah} {sh:Bn} {x0:PV} {u:PV} (ha:AB [x0]=true) (hr:BV (BJ B0 fun _=>.cl) fn sh AL 0 [.cv x0] ()=some (u,())) (ht:Br g=some fn:=by rfl) (hg:Qw g:=by decide) (hl:Nat.ble ([x0]:lS).length fn.nt=true:=by rfl) (hio:fn.io=false:=by rfl) (hb:Nat.blt g Dj=true:=by rfl):AJ B0 sh (.fn g []) [x0]=some u:=call ht hg ha hl hr hio hb
theorem call2 {g:lL} {fn:Ah} {sh:Bn} {x0 x1:PV} {u:PV} (ha:AB [x0,x1]=true) (hr:BV (BJ B0 fun _=>.cl) fn sh AL 0 [.cv x0,.cv x1] ()=some (u,())) (ht:Br g=some fn:=by rfl) (hg:Qw g:=by decide) (hl:Nat.ble ([x0,x1]:lS).length fn.nt=true:=by rfl) (hio:fn.io=false:=by rfl) (hb:Nat.blt g Dj=true:=by rfl):AJ B0 sh (.fn g []) [x0,x1]=some u:=call ht hg ha hl hr hio hb
theorem call3 {g:lL} {fn:Ah} {sh:Bn} {x0 x1 x2:PV} {u:PV} (ha:AB [x0,x1,x2]=true) (hr:BV (BJ B0 fun _=>.cl) fn sh AL 0 [.cv x0,.cv x1,.cv x2] ()=some (u,())) (ht:Br g=some fn:=by rfl) (hg:Qw g:=by decide) (hl:Nat.ble ([x0,x1,x2]:lS).length fn.nt=true:=by rfl) (hio:fn.io=false:=by rfl) (hb:Nat.blt g Dj=true:=by rfl):AJ B0 sh (.fn g []) [x0,x1,x2]=some u:=call ht hg ha hl hr hio hb
variable{α:Type} {b:Bool} {c:TC} {f u v:PV} {i k:Nat} {l:l9} {n:Int} {p:Int->Bool}
theorem w64 (U : -9223372036854775808<=n) (H:n<=9223372036854775807):IntKind.i64.wrap n=n:=IntWalk.i64_in _ ⟨U,H⟩
def I (n:Int):PV:=.int .i64 n
def Gy (l:l9):lS:=l.map I
theorem Z3 (l:l9):(Gy l).length=l.length:=by simp[Gy]
theorem zcO (h:i < l.length):(Gy l)[i]?=some (I l[i]):=by simp[Gy,h]
theorem xG (l:l9) (k:Nat):(Gy l).take k=Gy (l.take k):=by simp[Gy,List.map_take]
theorem xH (l:l9):AB (Gy l)=true:=by
 induction l with
 | nil=>rfl
 | cons a l ih=>simpa[Gy,AB,Ax,I] using ih
inductive BL:PV->l9->Prop
 | nil:BL .mu []
 | sl (l:l9) (f:Bool):BL (.sl 1 (Gy l) f) l
theorem BL.ok (h:BL v l):Ax v=true:=by
 cases h with
 | nil=>rfl
 | sl f=>simp[Ax,xH]
theorem BL.cells (h:BL v l):v.cells=[v]:=by cases h<;>rfl
theorem BL.val (h:BL v l):v.isVal=true:=by cases h<;>rfl
theorem BL.cell (h:BL v l):v.o5=true:=by cases h<;>rfl
theorem BL.vi (h:BL v l):B2 v=false:=by cases h<;>rfl
theorem BL.len (h:BL v l):Ae (.len .slice (.c v))=some (I l.length):=by
 cases h with
 | nil=>rfl
 | sl f=>rw[Yz,Z3];rfl
theorem BL.idx (h:BL v l) (hi:i < l.length):Ae (.mw 1 (.c v) (.c (I i)))=some (.ptr [I l[i]] 0):=by
 cases h with
 | nil=>simp at hi
 | sl f=>exact Yx (by omega) (zcO hi)
theorem BL.hi (h:BL v l) (hk:k<=l.length):∃ u,Ae (.slice 1 (.c v) none (some (.c (I k))) none)=some u/\BL u (l.take k):=by
 cases h with
 | nil =>
  have:k=0:=by simpa using hk
  subst this;exact⟨.mu,by simp[Ae,exec,RX.ev,Cz,DQ,Fk,Av,I,Hy],.nil⟩
 | sl _ f =>
  have qv:k<=(Gy l).length:=by rw[Z3];exact hk
  refine⟨.sl 1 (Gy (l.take k)) (f&&k==(Gy l).length),?_,.sl _ _⟩;simp[Ae,exec,RX.ev,Cz,DQ,Fk,Av,I,qv,xG,Hy]
@[simp] theorem Mg (n:Int):Ae (.load 1 false (.c (.ptr [I n] 0)))=some (I n):=rfl
@[simp] theorem Cc (a n:Int):Ae (.bin .lss c b (.c (I a)) (.c (I n)))=some (.bool (decide (a < n))):=Ng a n
@[simp] theorem MF (a n:Int):Ae (.bin .eql c b (.c (I a)) (.c (I n)))=some (.bool (a==n)):=ZH a n
@[simp] theorem IT (a n:Int):Ae (.bin .neq c b (.c (I a)) (.c (I n)))=some (.bool (a != n)):=zbr a n
@[simp] theorem DG (a n:Int):Ae (.bin .add c b (.c (I a)) (.c (I n)))=some (I (IntKind.i64.wrap (a+n))):=UR a n
@[simp] theorem I_sub (a n:Int):Ae (.bin .sub c b (.c (I a)) (.c (I n)))=some (I (IntKind.i64.wrap (a - n))):=zbq a n
@[simp] theorem zcP (a n:Int):Ae (.bin .geq c b (.c (I a)) (.c (I n)))=some (.bool (decide (n<=a))):=zbu a n
@[simp] theorem Qx (a n:Int):Ae (.bin .leq c b (.c (I a)) (.c (I n)))=some (.bool (decide (a<=n))):=zbs a n
@[simp] theorem Qy (a n:Int):Ae (.bin .gtr c b (.c (I a)) (.c (I n)))=some (.bool (decide (n < a))):=zbt a n
theorem G9 (n:Int):PV.int .i64 n=I n:=rfl
@[simp] theorem okV_I (n:Int):Ax (I n)=true:=rfl
@[simp] theorem cells_I (n:Int):(I n).cells=[I n]:=rfl
@[simp] theorem isUndef_I (n:Int):B2 (I n)=false:=rfl
@[simp] theorem isVal_I (n:Int):(I n).isVal=true:=rfl
@[simp] theorem isCell_I (n:Int):(I n).o5=true:=rfl
@[simp] theorem natP_I (n:Int):Bj (I n)=n.toNat:=rfl
theorem Em (h:i < 9223372036854775807):IntKind.i64.wrap ((i:Int)+1)=((i+1:Nat):Int):=by rw[w64 (by omega) (by omega)];omega
structure BM where
 li:Bool
 ru:Bool
 n:l9
inductive B6:PV->BM->Prop
 | mk (li ru:Bool) (x:PV) (l:l9) (h:BL x l):B6 (.agg [.bool li,.bool ru,x]) ⟨li,ru,l⟩
variable{a:BM}
theorem B6.ok (h:B6 v a):Ax v=true:=by obtain⟨li,ru,x,l,h⟩:=h;simp[Ax,AB,h.ok]
theorem B6.get (h:B6 v a):∃ x,v=.agg [.bool a.li,.bool a.ru,x]/\BL x a.n:=by obtain⟨li,ru,x,l,h⟩:=h;exact⟨x,rfl,h⟩
@[simp] theorem LW (cs:lS):Fy (.agg cs)=(PV.agg cs).isVal:=rfl
theorem MI {a b c:PV} (ha:a.o5=true) (hb:b.o5=true) (hc:c.o5=true):(PV.agg [a,b,c]).isVal=true:=by simp[PV.isVal,ha,hb,hc]
theorem VM (a b c:PV):Cd [a,b,c] 0 1 false=some a:=rfl
theorem VL (a b c:PV):Cd [a,b,c] 1 1 false=some b:=rfl
theorem VK (a b c:PV):Cd [a,b,c] 2 1 false=some c:=rfl
theorem build3 {z a b c:PV} (ha:a.cells=[a]) (hb:b.cells=[b]) (hc:c.cells=[c]) (va:a.isVal=true) (vb:b.isVal=true) (vc:c.isVal=true) (x y:PV) :
  Ae (.build [x,y,z] [(0,(1,.c a)),(1,(1,.c b)),(2,(1,.c c))])=some (.agg [a,b,c]):=by
 simp[Ae,exec,EK,RX.ev,ha,hb,hc,va,vb,vc,nc,Av]
theorem zcQ {a b c:PV} (h:(PV.agg [a,b,c]).isVal=true):FH (.agg [a,b,c]) 3=true:=by simp[FH,h]
@[simp] theorem zcR (a b c:PV):BD (.agg [a,b,c]) 0=a:=rfl
@[simp] theorem zcS (a b c:PV):BD (.agg [a,b,c]) 1=b:=rfl
@[simp] theorem zcT (a b c:PV):BD (.agg [a,b,c]) 2=c:=rfl
theorem min_run {n:Nat} (k:Nat) (c:Int) (hc:c=k):Ae (.nQ false [.c (I n),.c (.int .i64 c)])=some (I (min n k:Nat)):=by
 subst hc;simp only[Ae,exec,iE,jj,RX.ev,N0,I];by_cases h:n<=k
 ·have:¬ (k:Int) < (n:Int):=by omega
  simp[this,jf h,Av]
 ·have:(k:Int) < (n:Int):=by omega
  simp[this,Nat.min_eq_right (by omega:k<=n),Av]
def BM.ug (a:BM):BM:=⟨a.li,a.ru,a.n.take 202⟩
theorem few_run (h:B6 v a):∃ u,AJ B0 .cl (.fn 12 []) [v]=some u/\B6 u a.ug:=by
 obtain⟨x,rfl,O⟩:=h.get;obtain⟨y,hy,hl⟩:=O.hi (k:=min a.n.length 202) (by omega);have e:a.n.take (min a.n.length 202)=a.n.take 202:=by rcases Nat.le_total a.n.length 202 with h | h;{rw[jf h,jA,jb h]};{rw[Nat.min_eq_right h]}
 rw[e] at hl;refine⟨.agg [.bool a.li,.bool a.ru,y],?_,.mk _ _ _ _ hl⟩;refine pd (by simp[AB,h.ok]) ?_;rw[run12,LW,MI rfl rfl O.cell,FF];simp only[Vk,Ub,VM,VL,VK,AU,O.len];rw[min_run 202 202 rfl];simp only[AU,hy];rw[build3 (a:=.bool a.li) (b:=.bool a.ru) (c:=y) rfl rfl hl.cells rfl rfl hl.val];simp only[AU,zcQ (MI (a:=.bool a.li) (b:=.bool a.ru) rfl rfl hl.cell),FF,zcR,zcS,zcT]
def Ev (n:Int):Bool:=decide (0<=n)&&(decide (n<=1114111)&&(decide (n < 55296)||decide (57343 < n)))
theorem zcU (n:Int):AJ B0 .cl (.fn 60 []) [I n]=some (.bool (Ev n)):=by refine pd rfl ?_;rw[run60];simp only[G9,zcP,Qx,Cc,Qy,AU,BT];unfold Ev;by_cases U:0<=n<;>by_cases H:n<=1114111<;>by_cases h3:n < 55296<;>simp[U,H,h3]
theorem xI (n:Int):AJ B0 .cl (.fn 59 []) [I n]=some (.bool (!Ev n)):=by refine pd rfl ?_;rw[run59,zcU];simp
def LB (p:Int->Bool) (i:Nat):l9->Int
 | [] => -1
 | x :: l=>if p x then (i:Int) else LB p (i+1) l
theorem zcV (p:Int->Bool):∀ (l:l9) (i:Nat),decide (0<=LB p i l)=l.any p:=by
 intro l;induction l with
 | nil=>intro i;rfl
 | cons x l ih =>
  intro i;simp only[LB,List.any_cons];by_cases O:p x=true;{simp[O]};{have:=ih (i+1);simp only[O,iq,lm,this];simp[O]}
theorem In {l:List α} (h:i < l.length):l.drop i=l[i] :: l.drop (i+1):=by rw[ko h]
theorem ri (hv:BL v l) (hl:l.length<=1000000) (hf:Ax f=true) (hu:B2 f=false) (hp:∀ n∈l,AJ B0 .cl f [I n]=some (.bool (p n))) :
  AJ B0 .cl (.fn 90 []) [v,f]=some (I (LB p 0 l)):=by
 refine call2 (by simp[AB,hv.ok,hf]) ?_;rw[run90,hv.len];simp only[AU];have h0:BF [v,f,I l.length,.int .i64 0]=true:=by simp[BF,hv.vi,hu,G9]
 rw[h0,FF]
 have key:∀ m i,i+m=l.length->Bz (fun a=>Aa (Ae (.bin .lss .num false (.c (Af a.1 3)) (.c (Af a.1 2)))) fun b=>AH b (Aa (Ae (.mw 1 (.c (Af a.1 0)) (.c (Af a.1 3)))) fun b=>Aa (Ae (.load 1 false (.c b))) fun b=>Aa (AJ B0 .cl (Af a.1 1) [b]) fun b=>AH b (Aa (some (Af a.1 3,a.2)) fun a=>some (.inr a)) (Aa (Ae (.bin .add .num true (.c (Af a.1 3)) (.c (.int .i64 1)))) fun b=>some (.inl ([Af a.1 0,Af a.1 1,Af a.1 2,b],a.2)))) (Aa (some (.int .i64 (-1),a.2)) fun a=>some (.inr a))) (([v,f,I l.length,I i],()):lS×Unit)=some (I (LB p i (l.drop i)),()):=by
  intro m;induction m with
  | zero =>
   intro i hi;refine EC ?_;have:i=l.length:=by omega
   subst this;simp[LB];rfl
  | succ m ih =>
   intro i hi;have mL:i < l.length:=by omega
   rw[In mL];by_cases hpx:p l[i]=true;{refine EC ?_;simp only[CQ,BP,BY,Er,Cc,AU,BT];rw[lu (by simpa using mL),hv.idx mL];simp[hp _ (jF mL),hpx,LB]};{rw[Hs (s':=([v,f,I l.length,I ((i+1:Nat):Int)],()))];{rw[ih (i+1) (by omega)];simp[LB,hpx]};{simp only[CQ,BP,BY,Er,Cc,AU,BT];rw[lu (by simpa using mL),hv.idx mL];simp[hp _ (jF mL),hpx,G9,Em (by omega:i < 9223372036854775807)]}}
 have:=key l.length 0 (by omega);simpa[G9] using this
theorem any_run (hv:BL v l) (hl:l.length<=1000000) (hf:Ax f=true) (hu:B2 f=false) (hp:∀ n∈l,AJ B0 .cl f [I n]=some (.bool (p n))) :
  AJ B0 .cl (.fn 61 []) [v,f]=some (.bool (l.any p)):=by
 refine call2 (by simp[AB,hv.ok,hf]) ?_;rw[run61,ri hv hl hf hu hp];simp only[AU,G9,zcP,zcV]
def BM.right (a:BM):Bool:=!(a.ru&&a.n.any fun n=>!Ev n)&&(if a.li then decide (a.n.length<=200) else decide (a.n.length=1))
theorem xJ (h:B6 v a) (hl:a.n.length<=1000000):AJ B0 .cl (.fn 35 []) [v]=some (.bool a.right):=by
 obtain⟨x,rfl,O⟩:=h.get;refine pd (by simp[AB,h.ok]) ?_;rw[run35,LW,MI rfl rfl O.cell,FF];have ha:=any_run (f:=.fn 59 []) (p:=fun n=>!Ev n) O hl rfl rfl fun n _=>xI n;simp only[Vk,Ub,VM,VL,VK,AU,O.len,ha,BT,G9,Qx,MF];unfold BM.right
 have e1:decide ((a.n.length:Int)<=200)=decide (a.n.length<=200):=by
  by_cases h:a.n.length<=200;{simp[h];omega}
  ·have:¬ (a.n.length:Int)<=200:=by omega
   simp[h,this]
 have e2:((a.n.length:Int)==1)=decide (a.n.length=1):=by
  by_cases h:a.n.length=1;{simp[h]}
  ·have:¬ (a.n.length:Int)=1:=by omega
   simp[h,this]
 rw[e1,e2];cases a.ru<;>cases a.li<;>cases a.n.any (fun n=>!Ev n)<;>simp
def D9:l9->l9->Bool
 | [],[]=>true
 | x :: Z,y :: ys=>x==y&&D9 Z ys
 | _,_=>false
theorem Vz:∀ (a b:l9),D9 a b=true↔a=b:=by
 intro a;induction a with
 | nil=>intro b;cases b<;>simp[D9]
 | cons x a ih=>intro b;cases b<;>simp[D9,ih]
theorem xK {m:l9} (hv:BL v l) (hu:BL u m) (hl:l.length<=1000000) (hm:m.length<=1000000):AJ B0 .cl (.fn 37 []) [v,u]=some (.bool (D9 l m)):=by
 refine call2 (by simp[AB,hv.ok,hu.ok]) ?_;rw[run37,hv.len,hu.len];simp only[AU,IT,BT];by_cases tr:l.length=m.length
 ·have U:(((l.length:Int) != (m.length:Int))=true)↔False:=by simp[tr]
  simp only[U,lm];have h0:BF [v,u,I l.length,.int .i64 0]=true:=by simp[BF,hv.vi,hu.vi,G9]
  rw[h0,FF]
  have key:∀ k i,i+k=l.length->Bz (fun a=>Aa (Ae (.bin .lss .num false (.c (Af a.1 3)) (.c (Af a.1 2)))) fun b=>AH b (Aa (Ae (.mw 1 (.c (Af a.1 0)) (.c (Af a.1 3)))) fun b=>Aa (Ae (.load 1 false (.c b))) fun b=>Aa (Ae (.mw 1 (.c (Af a.1 1)) (.c (Af a.1 3)))) fun d=>Aa (Ae (.load 1 false (.c d))) fun d=>Aa (Ae (.bin .neq .num false (.c b) (.c d))) fun b=>AH b (Aa (some (PV.bool false,a.2)) fun a=>some (.inr a)) (Aa (Ae (.bin .add .num true (.c (Af a.1 3)) (.c (.int .i64 1)))) fun b=>some (.inl ([Af a.1 0,Af a.1 1,Af a.1 2,b],a.2)))) (Aa (some (PV.bool true,a.2)) fun a=>some (.inr a))) (([v,u,I l.length,I i],()):lS×Unit)=some (.bool (D9 (l.drop i) (m.drop i)),()):=by
   intro k;induction k with
   | zero =>
    intro i hi;refine EC ?_;have H:l.drop i=[]:=j7 (by omega);have h3:m.drop i=[]:=j7 (by omega);have:¬ (i < l.length):=by omega
    simp[H,h3,D9,this]
   | succ k ih =>
    intro i hi;have mL:i < l.length:=by omega
    have oj:i < m.length:=by omega
    rw[In mL,In oj];by_cases O:l[i]=m[i];{rw[Hs (s':=([v,u,I l.length,I ((i+1:Nat):Int)],()))];{rw[ih (i+1) (by omega)];simp[D9,O]};{simp only[CQ,BP,BY,Er,Cc,AU,BT];rw[lu (by simpa using mL),hv.idx mL,hu.idx oj];simp[O,G9,Em (by omega:i < 9223372036854775807)]}};{refine EC ?_;simp only[CQ,BP,BY,Er,Cc,AU,BT];rw[lu (by simpa using mL),hv.idx mL,hu.idx oj];simp[O,D9]}
  have:=key l.length 0 (by omega);simpa[G9] using this
 ·have:¬ (l.length:Int)=(m.length:Int):=by omega
  have H:D9 l m=false:=by
   cases he:D9 l m with
   | false=>rfl
   | true=>exact lH (lD List.length ((Vz l m).1 he)) tr
  simp[this,H]
def BM.same (a b:BM):Bool:=a.li==b.li&&(a.ru==b.ru&&D9 a.n b.n)
theorem zcW {b:BM} (hv:B6 v a) (hu:B6 u b) (ha:a.n.length<=1000000) (hb:b.n.length<=1000000):AJ B0 .cl (.fn 22 []) [v,u]=some (.bool (a.same b)):=by obtain⟨x,rfl,O⟩:=hv.get;obtain⟨y,rfl,hy⟩:=hu.get;refine call2 (by simp[AB,hv.ok,hu.ok]) ?_;rw[run22,LW,LW,MI rfl rfl O.cell,MI rfl rfl hy.cell,FF,FF];simp only[Vk,Ub,VM,VL,VK,AU,RB,BT,xK O hy ha hb];unfold BM.same;cases (a.li==b.li)<;>cases (a.ru==b.ru)<;>simp
end Go.Ab.mm


namespace Go.Ab.mm
open Go Go.Ab
variable{β:Type} {a:BM} {u v:PV}
theorem Nr (h:B6 v a):Fy v=true:=by obtain⟨x,rfl,O⟩:=h.get;rw[LW,MI rfl rfl O.cell]
theorem zcX (h:B6 v a):AN v 0 3 true=some v:=by obtain⟨x,rfl,O⟩:=h.get;rfl
theorem Mz (h:B6 v a):BL (BD v 2) a.n:=by obtain⟨x,rfl,O⟩:=h.get;exact O
theorem N9 (h:B6 v a):AN v 0 1 false=some (.bool a.li):=by obtain⟨x,rfl,O⟩:=h.get;rfl
theorem IN (h:B6 v a):AN v 1 1 false=some (.bool a.ru):=by obtain⟨x,rfl,O⟩:=h.get;rfl
theorem IM (h:B6 v a):AN v 2 1 false=some (BD v 2):=by obtain⟨x,rfl,O⟩:=h.get;rfl
theorem bV {α:Type} (a:α) (f:α->Option β):Aa (some a) f=f a:=Eq.trans rfl rfl
theorem cT (a:Option β):AC true a=a:=Eq.trans rfl rfl
theorem iD (n:Int):PV.int .i64 n=I n:=Eq.trans rfl rfl
theorem BN (a b:Option β):AH (.bool true) a b=a:=rfl
theorem Ci (a b:Option β):AH (.bool false) a b=b:=rfl
theorem Yr (n:Int):AJ B0 .cl (.fn 51 []) [I n]=some (.bool (Ev n)):=by refine pd rfl ?_;rw[run51];simp only[G9,zcP,Qx,Cc,Qy,AU,BT];unfold Ev;by_cases U:0<=n<;>by_cases H:n<=1114111<;>by_cases h3:n < 55296<;>simp[U,H,h3]
theorem fj (h:B6 v a) (hl:a.n.length<=1000000):AJ B0 .cl (.fn 27 []) [v]=some (.bool a.right):=by
 refine pd (by simp[AB,h.ok]) ?_;rw[run27,Nr h,cT];rw[show BF [.int .i64 0]=true from rfl,cT];have lx:=Mz h
 have tail:(if a.li=true then (if decide ((a.n.length:Int)<=200)=true then some (PV.bool true) else if (!a.li)=true then some (.bool ((a.n.length:Int)==1)) else some (.bool false)) else if (!a.li)=true then some (.bool ((a.n.length:Int)==1)) else some (.bool false))=some (PV.bool (if a.li then decide (a.n.length<=200) else decide (a.n.length=1))):=by
  have e1:decide ((a.n.length:Int)<=200)=decide (a.n.length<=200):=by
   by_cases h:a.n.length<=200;{simp[h];omega}
   ·have:¬ (a.n.length:Int)<=200:=by omega
    simp[h,this]
  have e2:((a.n.length:Int)==1)=decide (a.n.length=1):=by
   by_cases h:a.n.length=1;{simp[h]}
   ·have:¬ (a.n.length:Int)=1:=by omega
    simp[h,this]
  rw[e1,e2];cases a.li;{simp};{by_cases h:a.n.length<=200<;>simp[h]}
 have key:∀ m i,i+m=a.n.length->Bz (fun b=>Aa (Aa (AN (Af b.1 1) 2 1 false) fun d=>Aa (Ae (.len .slice (.c d))) fun d=>Aa (Ae (.bin .lss .num false (.c (Af b.1 0)) (.c d))) fun d=>AH d (Aa (AN (Af b.1 1) 1 1 false) fun b=>some b) (some (PV.bool false))) fun d=>AH d (Aa (AN (Af b.1 1) 2 1 false) fun d=>Aa (Ae (.mw 1 (.c d) (.c (Af b.1 0)))) fun d=>Aa (Ae (.load 1 false (.c d))) fun d=>Aa (AJ B0 .cl (.fn 51 []) [d]) fun d=>Aa (Ae (.un .not (.c d))) fun d=>AH d (Aa (some (PV.bool false,b.2)) fun b=>some (.inr b)) (Aa (Ae (.bin .add .num true (.c (Af b.1 0)) (.c (.int .i64 1)))) fun d=>some (.inl ([d,Af b.1 1],b.2)))) (Aa (Aa (Aa (AN (Af b.1 1) 0 1 false) fun d=>AH d (Aa (AN (Af b.1 1) 2 1 false) fun d=>Aa (Ae (.len .slice (.c d))) fun d=>Aa (Ae (.bin .leq .num true (.c d) (.c (.int .i64 200)))) fun d=>AH d (some (PV.bool true)) (Aa (AN (Af b.1 1) 0 1 false) fun d=>Aa (Ae (.un .not (.c d))) fun d=>AH d (Aa (AN (Af b.1 1) 2 1 false) fun b=>Aa (Ae (.len .slice (.c b))) fun b=>Aa (Ae (.bin .eql .num true (.c b) (.c (.int .i64 1)))) fun b=>some b) (some (PV.bool false)))) (Aa (AN (Af b.1 1) 0 1 false) fun d=>Aa (Ae (.un .not (.c d))) fun d=>AH d (Aa (AN (Af b.1 1) 2 1 false) fun b=>Aa (Ae (.len .slice (.c b))) fun b=>Aa (Ae (.bin .eql .num true (.c b) (.c (.int .i64 1)))) fun b=>some b) (some (PV.bool false)))) fun d=>some (d,b.2)) fun b=>some (.inr b))) (([I i,v],()):lS×Unit)=some (.bool (!(a.ru&&(a.n.drop i).any fun n=>!Ev n)&&(if a.li then decide (a.n.length<=200) else decide (a.n.length=1))),()):=by
  intro m;induction m with
  | zero =>
   intro i hi;refine EC ?_;have hd0:a.n.drop i=[]:=j7 (by omega);have mL:¬ ((i:Int) < (a.n.length:Int)):=by omega
   simp only[CQ,BP,N9 h,IM h,lx.len,bV,Cc,mL,lC,Ci,BT,Hu,iD,Qx,MF,hd0,List.any_nil,Bool.and_false,kc,jr];rw[tail];rfl
  | succ m ih =>
   intro i hi;have mL:i < a.n.length:=by omega
   have oj:(i:Int) < (a.n.length:Int):=by omega
   cases rM:a.ru with
   | false =>
    refine EC ?_;simp only[CQ,BP,N9 h,IN h,IM h,lx.len,bV,Cc,oj,lz,BN,rM,Ci,BT,Hu,iD,Qx,MF,jM,kc,jr];rw[tail];rfl
   | true =>
    rw[In mL,List.any_cons];cases hq:Ev a.n[i] with
    | false =>
     refine EC ?_;simp only[CQ,BP,IN h,IM h,lx.len,bV,Cc,oj,lz,BN,rM,lx.idx mL,Mg,Yr,hq,Hu,kc,Bool.true_or,iZ,jC,jM]
    | true =>
     rw[Hs (s':=([I ((i+1:Nat):Int),v],()))];{rw[ih (i+1) (by omega),rM];simp only[jC,j9]};{simp only[CQ,BP,IN h,IM h,lx.len,bV,Cc,oj,lz,BN,rM,lx.idx mL,Mg,Yr,hq,Hu,jC,Ci,iD,DG,Em (by omega:i < 9223372036854775807)]}
 have:=key a.n.length 0 (by omega);unfold BM.right;simpa[G9] using this
theorem xL {l m:l9} (hv:BL v l) (hu:BL u m) (hl:l.length<=1000000) (hm:m.length<=1000000):AJ B0 .cl (.fn 38 []) [v,u]=some (.bool (D9 l m)):=by
 refine call2 (by simp[AB,hv.ok,hu.ok]) ?_;rw[run38,hv.len,hu.len];simp only[bV,IT,BT];by_cases tr:l.length=m.length
 ·have U:(((l.length:Int) != (m.length:Int))=true)↔False:=by simp[tr]
  simp only[U,lm];have h0:BF [v,u,.int .i64 0]=true:=by simp only[BF,jp,hv.vi,hu.vi];rfl
  rw[h0,cT]
  have key:∀ k i,i+k=l.length->Bz (fun a=>Aa (Ae (.len .slice (.c (Af a.1 0)))) fun b=>Aa (Ae (.bin .lss .num false (.c (Af a.1 2)) (.c b))) fun b=>AH b (Aa (Ae (.mw 1 (.c (Af a.1 0)) (.c (Af a.1 2)))) fun b=>Aa (Ae (.load 1 false (.c b))) fun b=>Aa (Ae (.mw 1 (.c (Af a.1 1)) (.c (Af a.1 2)))) fun d=>Aa (Ae (.load 1 false (.c d))) fun d=>Aa (Ae (.bin .neq .num false (.c b) (.c d))) fun b=>AH b (Aa (some (PV.bool false,a.2)) fun a=>some (.inr a)) (Aa (Ae (.bin .add .num true (.c (Af a.1 2)) (.c (.int .i64 1)))) fun b=>some (.inl ([Af a.1 0,Af a.1 1,b],a.2)))) (Aa (some (PV.bool true,a.2)) fun a=>some (.inr a))) (([v,u,I i],()):lS×Unit)=some (.bool (D9 (l.drop i) (m.drop i)),()):=by
   intro k;induction k with
   | zero =>
    intro i hi;refine EC ?_;have H:l.drop i=[]:=j7 (by omega);have h3:m.drop i=[]:=j7 (by omega);have mL:¬ ((i:Int) < (l.length:Int)):=by omega
    simp only[CQ,BP,BY,hv.len,bV,Cc,mL,lC,Ci,H,h3,D9]
   | succ k ih =>
    intro i hi;have mL:i < l.length:=by omega
    have pM:i < m.length:=by omega
    have oj:(i:Int) < (l.length:Int):=by omega
    rw[In mL,In pM];cases O:(l[i]==m[i]) with
    | true =>
     have hb:(l[i] != m[i])=false:=by simp[bne,O]
     rw[Hs (s':=([v,u,I ((i+1:Nat):Int)],()))];{rw[ih (i+1) (by omega)];simp only[D9,O,jr]};{simp only[CQ,BP,BY,hv.len,bV,Cc,oj,lz,BN,hv.idx mL,hu.idx pM,Mg,IT,hb,Ci,iD,DG,Em (by omega:i < 9223372036854775807)]}
    | false =>
     have hb:(l[i] != m[i])=true:=by simp[bne,O]
     refine EC ?_;simp only[CQ,BP,BY,hv.len,bV,Cc,oj,lz,BN,hv.idx mL,hu.idx pM,Mg,IT,hb,D9,O,jM]
  have:=key l.length 0 (by omega);simpa[G9] using this
 ·have:¬ (l.length:Int)=(m.length:Int):=by omega
  have H:D9 l m=false:=by
   cases he:D9 l m with
   | false=>rfl
   | true=>exact lH (lD List.length ((Vz l m).1 he)) tr
  simp[this,H]
theorem xM {b:BM} (hv:B6 v a) (hu:B6 u b) (ha:a.n.length<=1000000) (hb:b.n.length<=1000000):AJ B0 .cl (.fn 23 []) [v,u]=some (.bool (a.same b)):=by refine call2 (by simp[AB,hv.ok,hu.ok]) ?_;rw[run23,Nr hv,Nr hu,cT,cT];simp only[N9 hv,N9 hu,IN hv,IN hu,IM hv,IM hu,bV,RB,BT,xL (Mz hv) (Mz hu) ha hb];unfold BM.same;cases (a.li==b.li)<;>cases (a.ru==b.ru)<;>simp
end Go.Ab.mm


namespace Go.Ab.mm
open Go Go.Ab
variable{R:Type} {b k:Bool} {c:TC} {n:Int} {u:Nat}
abbrev Tx:=l4
theorem Zi (h0:0<=n) (U:n < 256):KW (.int .u8 n)=some (UInt8.ofNat n.toNat):=by simp only[KW];rw[lu ⟨h0,U⟩]
theorem WI:∀ (l:l9),(∀ x∈l,0<=x/\x < 256)->Ef (l.map (PV.int .u8))=some (l.map fun x=>UInt8.ofNat x.toNat)
 | [],_=>rfl
 | x :: l,h=>by
  have ih:=WI l fun y hy=>h y (iA _ hy);simp only[iE,Ef,Zi (h x iw).1 (h x iw).2,ih]
theorem dA (l:l9) (h:∀ x∈l,0<=x/\x < 256):Ae (.ofBytes (.c (.sl 1 (l.map (PV.int .u8)) false)))=some (.str (l.map fun x=>UInt8.ofNat x.toNat)):=by simp only[Ae,exec,RX.ev,Qq,kc,Av,lq,DD,lF,WI l h]
theorem fE (l:l9):Ep 1 (l.map (PV.int .u8))=true:=by simp only[Ep,iy,ii];rintro x ⟨y,_,rfl⟩;rfl
theorem Zh (l:l9) (h:∀ x∈l,0<=x/\x < 256) (K:PV->Option R) :
  AC (Ep 1 (l.map (PV.int .u8))) (AC (Dd (BR 0 (AT (l.map (PV.int .u8)))) (AT (l.map (PV.int .u8)))) (Aa (Ae (.ofBytes (.c (.sl 1 (B9 (AT (l.map (PV.int .u8))) (Et 0 (l.map (PV.int .u8)))) false)))) K))=K (.str (l.map fun x=>UInt8.ofNat x.toNat)):=by
 rw[fE,FF];simp only[Pv,Sx,Sb,O8,Vc,iO,ik,lz,FF,j8,jA];rw[dA l h,AU]
def Ea (s:Tx):lS:=Cm s
theorem JA (s:Tx):(Ea s).length=s.length:=by simp[Ea,Cm]
theorem cU (s t:Tx):Ea (s++t)=Ea s++Ea t:=by simp[Ea,Cm]
theorem UW:∀ s:Tx,AB (Ea s)=true
 | []=>rfl
 | b :: s=>UW s
abbrev bs (t:Tx):PV:=.sl 1 (Ea t) false
theorem ED (t:Tx):Bl (bs t)=Ea t:=rfl
theorem D1 (n:Nat):Bj (I n)=n:=rfl
theorem ws_used (s t:Tx) (h:t.length+s.length<=2147483648):Cs B0 Sl 13 [.str s,I (t.length:Nat),bs t]=some [I (s.length:Nat),.mB,I ((t++s).length:Nat),bs (t++s)]:=by refine Rf (JG fun _=>.cl) (fn:=MN) rfl (Pf:=K8) rfl (Z:=[]) (obs:=[.cells 40 [.ref (0,0) 0,.cv (.bool false)],.arr 1 5 []]) rfl rfl (by simp[AB,Ax,bs,UW,I]) ?_;rw[show K8 [] [.cells 40 [.ref (0,0) 0,.cv (.bool false)],.arr 1 5 []]=Sl from rfl,run13_0];rw[show N3 1 (.str s)=some (Ea s) from rfl,AU,D1,ED];simp only[Pv,JA,Sx,Sb,VF,ik,lz,jr,O8,VE];rw[show decide (t.length+s.length<=2147483648)=true by simpa using h,FF,Yy,AU];rw[jb (by rw[JA];exact ik _)];simp[bs,cU,I]
theorem ws_new (s:Tx) (h:s.length<=2147483648):Cs B0 Sk 13 [.str s,.mJ,.mu]=some [I (s.length:Nat),.mB,I (s.length:Nat),bs s]:=by refine Rf (JG fun _=>.cl) (fn:=MN) rfl (Pf:=K8) rfl (Z:=[]) (obs:=[]) rfl rfl (by simp[AB,Ax]) ?_;rw[show K8 [] []=Sk from rfl,run13_1];rw[show PA .mJ=true from rfl,FF,show N3 1 (.str s)=some (Ea s) from rfl,AU];rw[show wo 1 .mu (Ea s)=some (Ea s) by simp[wo,JA,EH,AC,h],AU,Yy,AU];simp[bs,JA,I,Pv]
theorem wb_used (b:UInt8) (t:Tx) (h:t.length+1<=2147483648):Cs B0 Sj 17 [.int .u8 b.toNat,I (t.length:Nat),bs t]=some [.mB,I ((t++[b]).length:Nat),bs (t++[b])]:=by refine Rf (JG fun _=>.cl) (fn:=MM) rfl (Pf:=K7) rfl (Z:=[]) (obs:=[.cells 40 [.ref (0,0) 0,.cv (.bool false)],.arr 1 5 []]) rfl rfl (by simp[AB,Ax,bs,UW,I]) ?_;rw[show K7 [] [.cells 40 [.ref (0,0) 0,.cv (.bool false)],.arr 1 5 []]=Sj from rfl,run17_0];rw[show Ep 1 [.int .u8 b.toNat]=true from rfl,FF,D1,ED];simp only[Pv,JA,Sx,Sb,VF,ik,lz,jr,O8,VE,Vc,j8,List.length_singleton,iO,FF,List.take_succ_cons,List.take_zero];rw[show decide (t.length+1<=2147483648)=true by simpa using h,FF];rw[jb (by rw[JA];exact ik _)];simp[bs,cU,I,nI,Ea,Cm]
theorem wb_new (b:UInt8):Cs B0 Si 17 [.int .u8 b.toNat,.mJ,.mu]=some [.mB,I ((1:Nat):Int),bs [b]]:=by refine Rf (JG fun _=>.cl) (fn:=MM) rfl (Pf:=K7) rfl (Z:=[]) (obs:=[]) rfl rfl (by simp[AB,Ax]) ?_;rw[show K7 [] []=Si from rfl,run17_1];rfl
def CK (n:Int):Prop := -9223372036854775808<=n/\n<=9223372036854775807
def Ez (n:Int):Tx:=if n < 0 then 194 :: 175 :: Lib.decDigits n.natAbs else Lib.decDigits n.toNat
theorem dec_pos (u:Nat):0 < (Lib.decDigits u).length:=by rw[Lib.decDigits];split;{simp};{simp}
theorem KE:∀ (k u:Nat),u < 10 ^ (k+1)->(Lib.decDigits u).length<=k+1
 | 0,u,h=>by
  rw[Lib.decDigits,dif_pos (by simpa using h)];simp
 | k+1,u,h=>by
  rw[Lib.decDigits];split;{simp}
  ·have H:u / 10 < 10 ^ (k+1):=by rw[Nat.pow_succ] at h;omega
   have:=KE k (u / 10) H;simp;omega
theorem KD (h:CK n):(Ez n).length<=22:=by
 unfold Ez;obtain⟨U,H⟩:=h;split
 ·have:=KE 19 n.natAbs (by have:(10:Nat) ^ 20=100000000000000000000:=(by decide);omega)
  simp;omega
 ·have:=KE 19 n.toNat (by have:(10:Nat) ^ 20=100000000000000000000:=(by decide);omega)
  omega
theorem dig_ne (n:Int):Ez n≠[]:=by
 unfold Ez;split;{simp}
 ·intro h;have:=dec_pos n.toNat
  rw[h] at this;simp at this
theorem Za (h:u < 10):Lib.decDigits u=[UInt8.ofNat (48+u)]:=by rw[Lib.decDigits,dif_pos h]
theorem bH (h:¬ u < 10):Lib.decDigits u=Lib.decDigits (u / 10)++Lib.decDigits (u%10):=by rw[Lib.decDigits,dif_neg h,Za (Nat.mod_lt _ (by decide))]
theorem C6 {a b:Tx} (h:a.length+b.length<=1000000):Ae (.bin .add c k (.c (.str a)) (.c (.str b)))=some (.str (a++b)):=zbw a b (by unfold PP;omega)
theorem Pc:∀ (k:Nat) (u:Nat),u < k->u < 10 ^ 19->AJ B0 .cl (.fn 19 []) [I (u:Int)]=some (.str (Lib.decDigits u))
 | 0,_,h,_=>lH h (Nat.not_lt_zero _)
 | k+1,u,hk,hu=>by
  have oC:(u:Int) < 10000000000000000000:=by have:(10:Nat) ^ 19=10000000000000000000:=(by decide);omega
  refine pd rfl ?_;rw[run19];have hn0:¬ (u:Int) < 0:=by omega
  simp only[I,Ng,AU,BT,hn0,lC,iq,lm];by_cases h10:u < 10
  ·have h10':(u:Int) < 10:=by omega
   simp only[h10',lz,lq,UR,Ul,AU];rw[IntWalk.i64_in _ (by constructor<;>omega)];have e:IntKind.u8.wrap (48+(u:Int))=48+(u:Int):=by unfold IntKind.wrap;simp only[IntKind.bits,IntKind.signed,jM,iq,lm];omega
   rw[e];have:=Zh [48+(u:Int)] (by intro x O;simp only[iU] at O;subst O;omega) (fun a=>some (a,()));rw[iE,jj] at this;rw[this,Za h10];simp only[iE,jj];rw[show (48+(u:Int)).toNat=48+u by omega]
  ·have h10':¬ (u:Int) < 10:=by omega
   simp only[h10',lC,iq,lm];rw[UP _ _ (by decide),AU];have e1:IntKind.i64.wrap ((u:Int).tdiv 10)=((u / 10:Nat):Int):=by rw[lh (by omega),IntWalk.i64_in _ (by constructor<;>omega)];omega
   have e2:(u:Int).tmod 10=((u%10:Nat):Int):=by rw[lj (by omega)];omega
   rw[e1];have U:=Pc k (u / 10) (by omega) (by omega);have H:=Pc k (u%10) (by omega) (by omega);unfold I at U H;rw[U,AU,UO _ _ (by decide),AU,e2,H,AU,bH h10];have l1:=KE 18 (u / 10) (by omega);have l2:=KE 18 (u%10) (by omega);rw[C6 (by omega),AU]
theorem ZE:∀ (k:Nat) (u:Nat),u < k->0 < u->u<=9223372036854775808->AJ B0 .cl (.fn 19 []) [I (-(u:Int))]=some (.str (194 :: 175 :: Lib.decDigits u))
 | 0,_,h,_,_=>lH h (Nat.not_lt_zero _)
 | k+1,u,hk,h0,hu=>by
  have h19:(10:Nat) ^ 19=10000000000000000000:=by decide
  refine pd rfl ?_;rw[run19];have hn0 : -(u:Int) < 0:=by omega
  simp only[I,Ng,AU,BT,hn0,lz,lq];rw[UP _ _ (by decide),AU];have e1:IntKind.i64.wrap ((-(u:Int)).tdiv 10) = -((u / 10:Nat):Int):=by rw[Int.neg_tdiv,lh (by omega),IntWalk.i64_in _ (by constructor<;>omega)];omega
  rw[e1,ZH,AU,AU,BT];by_cases h10:u < 10
  ·have hq:(-((u / 10:Nat):Int)==0)=true:=by rw[ly];omega
   rw[lu hq,ZG,AU];rw[IntWalk.i64_in _ (by constructor<;>omega)];have U:=Pc (u+1) u (by omega) (by omega);unfold I at U;rw[show (0:Int) - -(u:Int)=(u:Int) by omega,U,AU];have l1:=KE 18 u (by omega);rw[C6 (by simp;omega),AU];rfl
  ·have hq:¬ (-((u / 10:Nat):Int)==0)=true:=by rw[ly];omega
   rw[lr hq];have U:=ZE k (u / 10) (by omega) (by omega) (by omega);unfold I at U;rw[AU,U,AU,UO _ _ (by decide),AU,ZG,AU];have e2:(-(u:Int)).tmod 10 = -((u%10:Nat):Int):=by rw[Int.neg_tmod,lj (by omega)];omega
   rw[e2,show (0:Int) - -((u%10:Nat):Int)=((u%10:Nat):Int) by omega,IntWalk.i64_in _ (by constructor<;>omega)];have H:=Pc (u%10+1) (u%10) (by omega) (by omega);unfold I at H;rw[H,AU];have l1:=KE 18 (u / 10) (by omega);have l2:=KE 18 (u%10) (by omega);rw[C6 (by simp;omega),AU,bH h10];rfl
theorem UN (h:CK n):AJ B0 .cl (.fn 19 []) [I n]=some (.str (Ez n)):=by
 obtain⟨U,H⟩:=h;unfold Ez;by_cases hn:n < 0;{have:=ZE (n.natAbs+1) n.natAbs (by omega) (by omega) (by omega);rw[show (-(n.natAbs:Int))=n by omega] at this;rw[lu hn];exact this}
 ·have h19:(10:Nat) ^ 19=10000000000000000000:=by decide
  have:=Pc (n.toNat+1) n.toNat (by omega) (by omega);rw[show ((n.toNat:Nat):Int)=n by omega] at this;rw[lr hn];exact this
theorem aj:∀ (k u:Nat),u < k->(45:UInt8) ∉ Lib.decDigits u
 | 0,_,h=>lH h (Nat.not_lt_zero _)
 | k+1,u,h=>by
  rw[Lib.decDigits]
  have key:∀ v:Nat,v < 10->(45:UInt8)≠UInt8.ofNat (48+v):=by
   intro v hv;have:v=0\/v=1\/v=2\/v=3\/v=4\/v=5\/v=6\/v=7\/v=8\/v=9:=by omega
   rcases this with rfl | rfl | rfl | rfl | rfl | rfl | rfl | rfl | rfl | rfl<;>decide
  split;{rename_i h10;simpa using key u h10}
  ·intro hm;rcases iH.1 hm with hm | hm;{exact aj k (u / 10) (by omega) hm}
   {simp only[iU] at hm;exact key (u%10) (Nat.mod_lt _ (by decide)) hm}
theorem YX:∀ (s:Tx) (c:UInt8),c ∉ s->Lib.index s [c] = -1
 | [],c,_=>rfl
 | b :: s,c,h=>by
  have ih:=YX s c fun hm=>h (iA _ hm);have mP:¬ c=b:=fun e=>h (e ▸ iw);simp only[Lib.index,List.isPrefixOf,Bool.and_true,ly,mP,lm,ih,lq]
variable{c:UInt8} {new s:Tx}
theorem ZC (h:c ∉ s) (n:Int):Lib.replace s [c] new n=s:=by
 have hi:=YX s c h;unfold Lib.replace;split;{rfl}
 ·have:Lib.replaceNum s [c] n=0:=by unfold Lib.replaceNum;rw[Lib.count_miss hi];split;{rfl};{rename_i hc;omega}
  rw[this];rfl
theorem xN (hn:[c]≠new):Lib.replace (c :: s) [c] new 1=new++s:=by
 have hi:Lib.index (c :: s) [c]=((0:Nat):Int):=by simp[Lib.index,List.isPrefixOf]
 have hc:=Lib.count_hit (s:=c :: s) (sub:=[c]) (i:=0) (by simp) hi;unfold Lib.replace;rw[lr (by simpa using hn)];have:Lib.replaceNum (c :: s) [c] 1=1:=by unfold Lib.replaceNum;rw[lr (by omega)];rfl
 rw[this,Lib.replaceK_hit _ _ _ _ 0 hi];simp[Lib.replaceK]
theorem ZW (h:CK n):HR n=if n < 0 then 45 :: Lib.decDigits n.natAbs else Lib.decDigits n.toNat:=Vr n h.1 h.2
theorem YV (h:CK n):Lib.replace (HR n) [45] [194,175] 1=Ez n:=by rw[ZW h];unfold Ez;split;{exact xN (by decide)};{exact ZC (aj (n.toNat+1) _ (by omega)) 1}
theorem ZV (h:CK n):(HR n).length<=22:=by rw[ZW h];have:=KD h;unfold Ez at this;split<;>rename_i hn<;>simp only[hn,lq,lm,iM] at this |-<;>omega
theorem Uk {qh:Tx} (U:s.length<=65536) (H:new.length<=65536) (h3:1<=qh.length):AJ B0 .cl (.fn 14 []) [.str s,.str qh,.str new,.int .i64 n]=some (.str (Lib.replace s qh new n)):=by refine Ud (JG fun _=>.cl) (cap:=[]) ?_ rfl;show PH [.str s,.str qh,.str new,.int .i64 n]=_;simp only[PH];rw[lu ⟨U,H,h3⟩]
theorem xO (h:CK n):AJ B0 .cl (.fn 15 []) [.int .i64 n]=some (.str (HR n)):=by refine Ud (JG fun _=>.cl) (cap:=[]) ?_ rfl;show PJ [.int .i64 n]=_;simp only[PJ];rw[lu (show _/\_ from h)]
theorem zcY (h:CK n):AJ B0 .cl (.fn 91 []) [.int .i64 n,.int .i64 10]=some (.str (HR n)):=by refine Ud (JG fun _=>.cl) (cap:=[]) ?_ rfl;show Qb [.int .i64 n,.int .i64 10]=_;simp only[Qb];rw[lu (show _/\_ from h)]
theorem bG (h:CK n):AJ B0 .cl (.fn 63 []) [I n]=some (.str (Ez n)):=by refine pd rfl ?_;rw[run63];unfold I;rw[zcY h,AU,Uk (by have:=ZV h;omega) (by simp) (by simp),AU,YV h]
def BC (n:Int):Tx:=(Utf8.encode n).data.toList
theorem QQ (h:Ev n=true):Utf8.valid n=true/\0<=n/\n<=1114111:=by unfold Ev at h;simp only[ie,kg,lw] at h;refine⟨?_,h.1,h.2.1⟩;unfold Utf8.valid;simp only[kg,ie,lw];omega
theorem SJ (h:Ev n=true):BC n=if n < 128 then [UInt8.ofNat n.toNat] else if n < 2048 then [UInt8.ofNat (192+n.toNat / 64),UInt8.ofNat (128+n.toNat%64)]
  else if n < 65536 then [UInt8.ofNat (224+n.toNat / 4096),UInt8.ofNat (128+n.toNat / 64%64),UInt8.ofNat (128+n.toNat%64)]
  else [UInt8.ofNat (240+n.toNat / 262144),UInt8.ofNat (128+n.toNat / 4096%64),UInt8.ofNat (128+n.toNat / 64%64),UInt8.ofNat (128+n.toNat%64)]:=by
 obtain⟨hv,h0,U⟩:=QQ h;unfold BC Utf8.encode;simp only[hv,lq];by_cases c1:n < 128;{rw[lu c1,lu (show n.toNat < 128 by omega)]};{rw[lr c1,lr (show ¬ n.toNat < 128 by omega)];by_cases c2:n < 2048;{rw[lu c2,lu (show n.toNat < 2048 by omega)]};{rw[lr c2,lr (show ¬ n.toNat < 2048 by omega)];by_cases c3:n < 65536;{rw[lu c3,lu (show n.toNat < 65536 by omega)]};{rw[lr c3,lr (show ¬ n.toNat < 65536 by omega)]}}}
theorem bE (h:Ev n=true):(BC n).length<=4:=by
 rw[SJ h]
 repeat' split
 all_goals simp
theorem u8_in (h0:0<=n) (U:n < 256):IntKind.u8.wrap n=n:=by unfold IntKind.wrap;simp only[IntKind.bits,IntKind.signed,jM,iq,lm];omega
variable{c:TC}
theorem zcZ (u k:Nat) (hk:0 < k) (hu:u<=2000000):Ae (.bin .quo c b (.c (.int .i64 (u:Int))) (.c (.int .i64 (k:Int))))=some (.int .i64 ((u / k:Nat):Int)):=by rw[UP _ _ (by omega),lh (by omega)];have e:(u:Int) / (k:Int)=((u / k:Nat):Int):=rfl;have H:=Nat.div_le_self u k;have h3:((u / k:Nat):Int)<=(u:Int):=Int.ofNat_le.2 H;have h4:=Int.natCast_nonneg (u / k);generalize ((u / k:Nat):Int)=z at e h3 h4 |-;rw[e,IntWalk.i64_in _ ⟨by omega,by omega⟩]
theorem q64 (u:Nat) (hu:u<=2000000):Ae (.bin .quo c b (.c (.int .i64 (u:Int))) (.c (.int .i64 64)))=some (.int .i64 ((u / 64:Nat):Int)):=zcZ u 64 (by decide) hu
theorem q4096 (u:Nat) (hu:u<=2000000):Ae (.bin .quo c b (.c (.int .i64 (u:Int))) (.c (.int .i64 4096)))=some (.int .i64 ((u / 4096:Nat):Int)):=zcZ u 4096 (by decide) hu
theorem q262144 (u:Nat) (hu:u<=2000000):Ae (.bin .quo c b (.c (.int .i64 (u:Int))) (.c (.int .i64 262144)))=some (.int .i64 ((u / 262144:Nat):Int)):=zcZ u 262144 (by decide) hu
theorem Of (u:Nat):Ae (.bin .rem c b (.c (.int .i64 (u:Int))) (.c (.int .i64 64)))=some (.int .i64 ((u%64:Nat):Int)):=by rw[UO _ _ (by decide),lj (by omega)];rfl
theorem Tn (k u:Nat) (h:k+u<=2000000):Ae (.bin .add c b (.c (.int .i64 (k:Int))) (.c (.int .i64 (u:Int))))=some (.int .i64 ((k+u:Nat):Int)):=by rw[UR,IntWalk.i64_in _ (by constructor<;>omega)];rfl
theorem a192 (u:Nat) (h:u<=1000):Ae (.bin .add c b (.c (.int .i64 192)) (.c (.int .i64 (u:Int))))=some (.int .i64 ((192+u:Nat):Int)):=Tn 192 u (by omega)
theorem a224 (u:Nat) (h:u<=1000):Ae (.bin .add c b (.c (.int .i64 224)) (.c (.int .i64 (u:Int))))=some (.int .i64 ((224+u:Nat):Int)):=Tn 224 u (by omega)
theorem a240 (u:Nat) (h:u<=1000):Ae (.bin .add c b (.c (.int .i64 240)) (.c (.int .i64 (u:Int))))=some (.int .i64 ((240+u:Nat):Int)):=Tn 240 u (by omega)
theorem xP (u:Nat) (h:u<=1000):Ae (.bin .add c b (.c (.int .i64 128)) (.c (.int .i64 (u:Int))))=some (.int .i64 ((128+u:Nat):Int)):=Tn 128 u (by omega)
theorem IR (u:Nat) (h:u < 256):Ae (.conv .u8 (.c (.int .i64 (u:Int))))=some (.int .u8 (u:Int)):=by rw[Ul,u8_in (by omega) (by omega)]
theorem Ru (l:lU) (h:∀ x∈l,x < 256) (K:PV->Option R) :
  AC (Ep 1 (l.map fun (x:Nat)=>PV.int .u8 (x:Int))) (AC (Dd (BR 0 (AT (l.map fun (x:Nat)=>PV.int .u8 (x:Int)))) (AT (l.map fun (x:Nat)=>PV.int .u8 (x:Int)))) (Aa (Ae (.ofBytes (.c (.sl 1 (B9 (AT (l.map fun (x:Nat)=>PV.int .u8 (x:Int))) (Et 0 (l.map fun (x:Nat)=>PV.int .u8 (x:Int)))) false)))) K))=K (.str (l.map UInt8.ofNat)):=by
 have:=Zh (l.map fun (x:Nat)=>(x:Int)) (by
  intro x O;obtain⟨y,hy,rfl⟩:=ii.1 O;have:=h y hy;omega) K
 simp only[iK] at this;exact this
theorem utf_run (h:Ev n=true):AJ B0 .cl (.fn 28 []) [I n]=some (.str (BC n)):=by
 obtain⟨hv,h0,U⟩:=QQ h;obtain⟨u,rfl⟩:=Int.eq_ofNat_of_zero_le h0;have hu:u<=1114111:=by omega
 refine pd rfl ?_;rw[run28,SJ h];unfold I;rw[Int.toNat_natCast,Ng,AU,BT];by_cases c1:(u:Int) < 128;{rw[lu (by simpa using c1),lu c1,IR _ (by omega),AU];exact Ru [u] (by intro x O;simp only[iU] at O;omega) (fun z=>some (z,()))};rw[lr (by simpa using c1),lr c1,Ng,AU,BT];by_cases c2:(u:Int) < 2048;{rw[lu (by simpa using c2),lu c2,q64 u (by omega),AU,a192 _ (by omega),AU,IR _ (by omega),AU,Of,AU,xP _ (by omega),AU,IR _ (by omega),AU];exact Ru [192+u / 64,128+u%64] (by intro x O;simp only[im,jZ,or_false] at O;omega) (fun z=>some (z,()))};rw[lr (by simpa using c2),lr c2,Ng,AU,BT];by_cases c3:(u:Int) < 65536
 ·rw[lu (by simpa using c3),lu c3,q4096 u (by omega),AU,a224 _ (by omega),AU,IR _ (by omega),AU,q64 u (by omega),AU,Of,AU,xP _ (by omega),AU,IR _ (by omega),AU,
   Of,AU,xP _ (by omega),AU,IR _ (by omega),AU]
  exact Ru [224+u / 4096,128+u / 64%64,128+u%64] (by intro x O;simp only[im,jZ,or_false] at O;omega) (fun z=>some (z,()))
 rw[lr (by simpa using c3),lr c3,q262144 u (by omega),AU,a240 _ (by omega),AU,IR _ (by omega),AU,q4096 u (by omega),AU,Of,AU,xP _ (by omega),AU,IR _ (by omega),AU,
  q64 u (by omega),AU,Of,AU,xP _ (by omega),AU,IR _ (by omega),AU,Of,AU,xP _ (by omega),AU,IR _ (by omega),AU]
 exact Ru [240+u / 262144,128+u / 4096%64,128+u / 64%64,128+u%64] (by intro x O;simp only[im,jZ,or_false] at O;omega) (fun z=>some (z,()))
end Go.Ab.mm


namespace Go.Ab.mm
open Go Go.Ab
variable{a:BM} {i:Nat} {l:l9} {n:Int} {ru:Bool} {v:PV}
theorem wsN (s:Tx) (h:s.length<=1000000):Cs B0 (.mk [.ref (0,0) 0,.cv (.bool false)] [.cells 40 [.cv (.bool false),.cv (.bool false)]] (.mn [.cv (.bool false),.cv (.bool false)]) [.cells 40 [.ref (0,0) 0,.arr (1,0) 1 0 0]] [.arr 1 5 []] []) 13 [.str s,.mJ,.mu]=some [I (s.length:Nat),.mB,I (s.length:Nat),bs s]:=ws_new s (by omega)
theorem wsU (s t:Tx) (h:t.length+s.length<=1000000):Cs B0 (.mk [.ref (0,0) 0,.cv (.bool false)] [.cells 40 [.ref (0,0) 0,.arr (0,1) 1 0 0],.arr 1 5 []] (.mn [.cv (.bool false),.cv (.bool false)]) [.cells 40 [.ref (0,0) 0,.arr (0,1) 1 0 0],.arr 1 5 []] [] [1]) 13 [.str s,I (t.length:Nat),bs t]=some [I (s.length:Nat),.mB,I ((t++s).length:Nat),bs (t++s)]:=ws_used s t (by omega)
theorem wbN:Cs B0 (.mk [.ref (0,0) 0,.cv (.bool false)] [.cells 40 [.cv (.bool false),.cv (.bool false)]] (.cv (.bool false)) [.cells 40 [.ref (0,0) 0,.arr (1,0) 1 0 0]] [.arr 1 5 []] []) 17 [.int .u8 10,.mJ,.mu]=some [.mB,I ((1:Nat):Int),bs [10]]:=wb_new 10
theorem wbU (t:Tx) (h:t.length+1<=1000000):Cs B0 (.mk [.ref (0,0) 0,.cv (.bool false)] [.cells 40 [.ref (0,0) 0,.arr (0,1) 1 0 0],.arr 1 5 []] (.cv (.bool false)) [.cells 40 [.ref (0,0) 0,.arr (0,1) 1 0 0],.arr 1 5 []] [] [1]) 17 [.int .u8 10,I (t.length:Nat),bs t]=some [.mB,I ((t++[10]).length:Nat),bs (t++[10])]:=wb_used 10 t (by omega)
theorem aJ {t:Tx} (h0:t≠[]) (U:t.length<=1000000):(AC (Mc t.length (Ea t)) (some (IG (B9 t.length (Ea t)),())):Option (PV×Unit))=some (.str t,()):=by
 have hb:∀ s:Tx,Ef (Ea s)=some s:=by
  intro s;induction s with
  | nil=>rfl
  | cons b s ih =>
   unfold Ea Cm at ih |-;rw[iE];have:KW (.int .u8 (b.toNat:Int))=some b:=by have mL:=b.toNat_lt;rw[Zi (by omega) (by omega)];simp
   simp only[Ef,this,ih]
 have hp:0 < t.length:=kG.2 h0
 rw[show Mc t.length (Ea t)=true by
  unfold Mc;rw[jb (by rw[JA];exact ik _),hb,JA];have H:t.length<=EH:=by unfold EH;omega
  simp[hp,H],FF]
 rw[O8,jb (by rw[JA];exact ik _)];rw[show IG (Ea t)=.str t by unfold IG;rw[hb]]
def DB (ru:Bool) (i:Nat) (n:Int):Tx:=if ru then (if n=39 then [39,39] else BC n) else if 0 < i then 32 :: Ez n else Ez n
def Bx (ru:Bool):Nat->l9->Tx
 | _,[]=>[]
 | i,n :: l=>DB ru i n++Bx ru (i+1) l
theorem XI (ru:Bool):∀ (l m:l9) (i:Nat),Bx ru i (l++m)=Bx ru i l++Bx ru (i+l.length) m
 | [],m,i=>by simp[Bx]
 | n :: l,m,i=>by
  simp only[ki,Bx,XI ru l m (i+1),iX,iM];rw[show i+1+l.length=i+(l.length+1) by omega]
theorem WU (ru:Bool) (h:i < l.length):Bx ru 0 (l.take (i+1))=Bx ru 0 (l.take i)++DB ru i l[i]:=by rw[ll h,XI];simp only[Bx,j6,j5,iO];rw[jf (by omega)]
def Fit (ru:Bool) (n:Int):Prop:=CK n/\(ru=true->Ev n=true)
theorem Rd (h:Fit ru n):(DB ru i n).length<=23:=by
 unfold DB;cases ru with
 | true =>
  simp only[lq];split;{simp};{have:=bE (h.2 rfl);omega}
 | false =>
  simp only[iq,lm];have:=KD h.1;split;{simp only[iM];omega};{omega}
theorem ZX (h:Fit ru n):DB ru i n≠[]:=by
 unfold DB;cases ru with
 | true =>
  simp only[lq];split;{simp}
  ·rw[SJ (h.2 rfl)]
   repeat' split
   all_goals simp
 | false =>
  simp only[iq,lm];split;{simp};{exact dig_ne n}
theorem MY {ru:Bool}:∀ (l:l9) (i:Nat),(∀ n∈l,Fit ru n)->(Bx ru i l).length<=23*l.length
 | [],i,_=>by simp[Bx]
 | n :: l,i,h=>by
  have U:=Rd (i:=i) (h n iw);have H:=MY l (i+1) fun m hm=>h m (iA _ hm);simp only[Bx,iQ,iM];omega
theorem zc0 (h:Ev n=true) (hn:n≠39):(39:UInt8) ∉ BC n:=by
 obtain⟨_,h0,U⟩:=QQ h;have key:∀ k v:Nat,128<=k->k+v < 256->(39:UInt8)≠UInt8.ofNat (k+v):=by intro k v hk hv e;have:=lD UInt8.toNat e;simp only[UInt8.toNat_ofNat',UInt8.reduceToNat] at this;omega
 rw[SJ h];split;{intro hm;simp only[iU] at hm;have:=lD UInt8.toNat hm;simp only[UInt8.toNat_ofNat',UInt8.reduceToNat] at this;omega};{rename_i c1;split;{rename_i c2;intro hm;simp only[im,jZ,or_false] at hm;rcases hm with hm | hm;{exact key _ _ (by omega) (by omega) hm};{exact key _ _ (by omega) (by omega) hm}};{rename_i c2;split;{rename_i c3;intro hm;simp only[im,jZ,or_false] at hm;rcases hm with hm | hm | hm;{exact key _ _ (by omega) (by omega) hm};{exact key _ _ (by omega) (by omega) hm};{exact key _ _ (by omega) (by omega) hm}};{intro hm;simp only[im,jZ,or_false] at hm;rcases hm with hm | hm | hm | hm;{exact key _ _ (by omega) (by omega) hm};{exact key _ _ (by omega) (by omega) hm};{exact key _ _ (by omega) (by omega) hm};{exact key _ _ (by omega) (by omega) hm}}}}
theorem Yu (h:Ev n=true):AJ B0 .cl (.fn 62 []) [.str (BC n),.str [39],.str [39,39]]=some (.str (DB true 0 n)):=by refine call3 rfl ?_;rw[run62];rw[Uk (by have:=bE h;omega) (by simp) (by simp),AU];unfold DB;simp only[lq];by_cases hn:n=39;{subst hn;rfl};{rw[lr hn,ZC (zc0 h hn)]}
theorem Yp (h:Ev n=true):Ae (.conv .i32 (.c (I n)))=some (.int .i32 n):=by obtain⟨_,h0,U⟩:=QQ h;rw[I,Ul];rw[IntWalk.i32_in _ (by constructor<;>omega)]
theorem Xu (n:Int):Ae (.oe (.c (.int .i32 n)))=some (.str (BC n)):=rfl
theorem gG (h:B6 v a) (hl:a.n.length<=1000) (hf:∀ n∈a.n,Fit a.ru n) (x:PV) (O:BL x a.n) :
  ∀ m i,i+m=a.n.length->0 < i->Bz (NR B0) (([x,I a.n.length,I i,v,I ((Bx a.ru 0 (a.n.take i)).length:Nat),bs (Bx a.ru 0 (a.n.take i))],()):lS×Unit)=some (.str (Bx a.ru 0 a.n),()):=by
 have hlen:∀ i,(Bx a.ru 0 (a.n.take i)).length<=23*1000:=fun i=>by
  have:=MY (ru:=a.ru) (a.n.take i) 0 fun n hn=>hf n (ja hn);have H:(a.n.take i).length<=a.n.length:=by simp;omega
  omega
 intro m;induction m with
 | zero =>
  intro i hi h0;obtain rfl:i=a.n.length:=by omega
  refine EC ?_;unfold NR;have mL:¬ ((a.n.length:Int) < (a.n.length:Int)):=by omega
  simp only[CQ,BP,BY,Er,Mt,nth_5,Cc,mL,lC,bV,Ci,D1,ED];rw[aJ _ (by have:=hlen a.n.length;omega),jA];{rfl}
  ·rw[jA]
   obtain⟨n,l,zz⟩:∃ n l,a.n=n :: l:=by
    cases hc:a.n with
    | nil=>rw[hc] at h0;simp at h0
    | cons n l=>exact⟨n,l,rfl⟩
   rw[zz];simp only[Bx];intro he;exact ZX (hf n (by rw[zz];exact iw)) (kj.1 he).1
 | succ m ih =>
  intro i hi h0;have mL:i < a.n.length:=by omega
  have oj:(i:Int) < (a.n.length:Int):=by omega
  have tG:=hf _ (jF mL);have tt:=Rd (i:=i) tG;have tu:=hlen i;have hs:=WU a.ru mL;rw[Hs (s':=([x,I a.n.length,I ((i+1:Nat):Int),v,I ((Bx a.ru 0 (a.n.take (i+1))).length:Nat),bs (Bx a.ru 0 (a.n.take (i+1)))],()))];{exact ih (i+1) (by omega) (by omega)}
  ·unfold NR;simp only[CQ,BP,BY,Er,Mt,nth_5,Cc,oj,lz,bV,BN,O.idx mL,Mg,IN h,D1,ED];rw[hs];have uh:∀ k:Nat,nI k=I k:=fun k=>rfl;cases rM:a.ru with
   | true =>
    rw[rM] at tG tt tu;have hr:=tG.2 rfl;simp only[BN,Yp hr,bV,Xu,Yu hr,uh];rw[show DB true 0 a.n[i]=DB true i a.n[i] from rfl,wsU _ _ (by omega)];simp only[bV,iD,DG,Em (by omega:i < 9223372036854775807)];rfl
   | false =>
    rw[rM] at tG tt tu;have hi0:(0:Int) < (i:Int):=by omega
    have hd:=KD tG.1;have hit:DB false i a.n[i]=32 :: Ez a.n[i]:=by unfold DB;simp only[iq,lm,h0,lq]
    rw[hit] at tt |-;simp only[Ci,iD,Qy,bV,hi0,lz,BN,bG tG.1,uh];rw[C6 (a:=[32]) (by simp;omega),bV,wsU _ _ (by simp at tt |-;omega)];simp only[bV,DG,Em (by omega:i < 9223372036854775807)];rfl
theorem xQ (h:B6 v a) (hl:a.n.length<=1000) (hf:∀ n∈a.n,Fit a.ru n):AJ B0 .cl (.fn 36 []) [v]=some (.str (Bx a.ru 0 a.n)):=by
 refine pd (by simp[AB,h.ok]) ?_;rw[run36,Nr h,cT,IM h,bV];have O:=Mz h;rw[O.len,bV];cases hc:a.n with
 | nil =>
  simp only[jq,iD,Cc,bV];rfl
 | cons n l =>
  have U:(0:Int) < (a.n.length:Int):=by rw[hc];simp only[iM];omega
  have mL:0 < a.n.length:=by omega
  have hg:a.n[0]=n:=by simp[hc]
  have pY:=hf n (by rw[hc];exact iw);have o7:=O.idx mL;rw[hg] at o7;have tt:=Rd (i:=0) pY;have ht1:Bx a.ru 0 (a.n.take 1)=DB a.ru 0 n:=by rw[hc];simp[Bx]
  have key:=gG h hl hf _ O (a.n.length - 1) 1 (by omega) (by omega);rw[ht1] at key;rw[show Bx a.ru 0 (n :: l)=Bx a.ru 0 a.n by rw[hc]];have hnu:BF [BD v 2,I a.n.length,I 1]=true:=by simp only[BF,jp,O.vi];rfl
  have uh:∀ k:Nat,nI k=I k:=fun k=>rfl;have e01:IntKind.i64.wrap (0+1)=1:=by decide
  rw[show ((n :: l).length:Nat)=a.n.length by rw[hc]];simp only[iD,Cc,U,lz,bV,BN];rw[show I 0=I ((0:Nat):Int) from rfl,o7];simp only[bV,Mg,IN h];cases rM:a.ru with
  | true =>
   rw[rM] at pY tt key;have hr:=pY.2 rfl;simp only[BN,Yp hr,bV,Xu,Yu hr];rw[wsN _ (by omega)];simp only[bV,DG,BY,Er,D1,ED,uh];rw[show IntKind.i64.wrap (((0:Nat):Int)+1)=1 from e01,hnu,cT];exact key
  | false =>
   rw[rM] at pY tt key;have hit:DB false 0 n=Ez n:=rfl;rw[hit] at tt key;have hz:decide ((((0:Nat):Int)) < (((0:Nat):Int)))=false:=by decide
   simp only[Ci,Qy,bV,hz,bG pY.1];rw[wsN _ (by omega)];simp only[bV,DG,BY,Er,D1,ED,uh];rw[show IntKind.i64.wrap (((0:Nat):Int)+1)=1 from e01,hnu,cT];exact key
def Fg (a:BM):Tx :=
 if a.right then
  if a.li&&decide (a.n.length=1) then 44 :: (if a.ru then 39 :: (Bx a.ru 0 a.n++[39]) else Bx a.ru 0 a.n)
  else if a.ru then 39 :: (Bx a.ru 0 a.n++[39]) else if a.n=[] then [226,141,179,48] else Bx a.ru 0 a.n
 else []
theorem Q7 (h:a.right=true) (hi:∀ n∈a.n,CK n):(∀ n∈a.n,Fit a.ru n)/\a.n.length<=200:=by
 unfold BM.right at h;simp only[ie,jt,Bool.and_eq_false_iff] at h;obtain⟨U,H⟩:=h;refine⟨fun n hn=>⟨hi n hn,fun hr=>?_⟩,?_⟩
 ·rcases U with U | U;{rw[hr] at U;cases U}
  {have:=List.any_eq_false.1 U n hn;simpa using this}
 ·cases tu:a.li with
  | true=>rw[tu] at H;simpa using H
  | false=>rw[tu] at H;simp at H;omega
theorem gH (hf:∀ n∈l,Fit ru n):Bx ru 0 l=[]↔l=[]:=by
 cases l with
 | nil=>simp[Bx]
 | cons n l =>
  simp only[Bx,kj,reduceCtorEq,iff_false];rintro ⟨U,_⟩;exact ZX (hf n iw) U
theorem xR (hi:∀ n∈a.n,CK n):(Fg a).length<=5000:=by
 unfold Fg;split
 ·rename_i hr;obtain⟨hf,hl⟩:=Q7 hr hi;have:=MY (ru:=a.ru) a.n 0 hf
  repeat' split
  all_goals simp
  all_goals omega
 {simp}
theorem YA (h:B6 v a) (hl:a.n.length<=202) (hi:∀ n∈a.n,CK n):AJ B0 .cl (.fn 16 []) [v]=some (.str (Fg a)):=by
 refine pd (by simp[AB,h.ok]) ?_;rw[run16,Nr h,cT,zcX h,bV,xJ h (by omega),bV,Hu,bV,BT];unfold Fg;cases hr:a.right with
 | false=>simp
 | true =>
  obtain⟨hf,h200⟩:=Q7 hr hi;have hlen:=MY (ru:=a.ru) a.n 0 hf;have O:=Mz h;have qL:=gH hf
  have he1:((a.n.length:Int)==1)=decide (a.n.length=1):=by
   by_cases U:a.n.length=1;{simp[U]}
   ·have:¬ (a.n.length:Int)=1:=by omega
    simp[U,this]
  simp only[jC,iq,lm,bV,xQ h (by omega) hf,IN h,N9 h,IM h,O.len,iD,MF,he1];cases rM:a.ru with
  | true =>
   rw[rM] at hlen;simp only[BN];rw[C6 (a:=[39]) (by simp;omega),bV,C6 (by simp;omega),bV];have mP:¬ (39 :: (Bx true 0 a.n++[39]))=[]:=by simp
   cases tu:a.li with
   | true =>
    simp only[BN,bV,BT,jr];by_cases U:a.n.length=1;{simp only[U,lz,lq,ki,jz];rw[C6 (a:=[44]) (by simp;omega),bV];rfl};{simp[U]}
   | false =>
    simp only[Ci,bV,jM,lq];simp
  | false =>
   rw[rM] at hlen qL;simp only[Ci];cases tu:a.li with
   | true =>
    simp only[BN,bV,BT,jr];by_cases U:a.n.length=1;{simp only[U,lz,lq];rw[C6 (a:=[44]) (by simp;omega),bV];rfl};{simp only[U,lC,iq,lm,UQ,bV,BT];by_cases h0:a.n=[];{simp[h0,Bx]};{have:¬ Bx false 0 a.n=[]:=fun e=>h0 (qL.1 e);simp[h0,this]}}
   | false =>
    simp only[Ci,bV,jM,iq,lm,UQ,BT];by_cases h0:a.n=[];{simp[h0,Bx]};{have:¬ Bx false 0 a.n=[]:=fun e=>h0 (qL.1 e);simp[h0,this]}
theorem dZ (h:B6 v a) (hl:a.n.length<=1000) (hf:∀ n∈a.n,Fit a.ru n) (R:PV×Unit) (hR:∀ x y:PV×Unit,x=y->True) :
  ∀ m i,i+m=a.n.length->∃ q,Mf B0 (([.str (Bx a.ru 0 a.n),I a.n.length,v],()):lS×Unit)=q/\Bz (Mf B0) (([.str (Bx a.ru 0 (a.n.take i)),I i,v],()):lS×Unit)=Bz (Mf B0) (([.str (Bx a.ru 0 a.n),I a.n.length,v],()):lS×Unit):=by
 have O:=Mz h
 have hlen:∀ i,(Bx a.ru 0 (a.n.take i)).length<=23*1000:=fun i=>by
  have:=MY (ru:=a.ru) (a.n.take i) 0 fun n hn=>hf n (ja hn);have H:(a.n.take i).length<=a.n.length:=by simp;omega
  omega
 intro m;induction m with
 | zero =>
  intro i hi;obtain rfl:i=a.n.length:=by omega
  exact⟨_,rfl,by rw[jA]⟩
 | succ m ih =>
  intro i hi;have mL:i < a.n.length:=by omega
  have oj:(i:Int) < (a.n.length:Int):=by omega
  have tG:=hf _ (jF mL);have tt:=Rd (i:=i) tG;have tu:=hlen i;have hs:=WU a.ru mL;refine⟨_,rfl,?_⟩;rw[Hs (s':=([.str (Bx a.ru 0 (a.n.take (i+1))),I ((i+1:Nat):Int),v],()))];{exact (ih (i+1) (by omega)).choose_spec.2}
  ·unfold Mf;simp only[CQ,BP,BY,IM h,bV,O.len,Cc,oj,lz,BN,IN h,O.idx mL,Mg];rw[hs];cases rM:a.ru with
   | true =>
    rw[rM] at tG tt tu;have hr:=tG.2 rfl;simp only[BN,bV,iD,MF];by_cases h39:a.n[i]=39
    ·have hit:DB true i a.n[i]=[39,39]:=by simp[DB,h39]
     rw[hit];simp only[h39,lF,BN];rw[C6 (by simp;omega),bV];simp only[bV,DG,Em (by omega:i < 9223372036854775807)]
    ·have hit:DB true i a.n[i]=BC a.n[i]:=by simp[DB,h39]
     have hb:(a.n[i]==39)=false:=by simpa using h39
     rw[hit] at tt |-;simp only[hb,Ci,BN,bV,utf_run hr];rw[C6 (by omega),bV];simp only[bV,DG,Em (by omega:i < 9223372036854775807)]
   | false =>
    rw[rM] at tG tt tu;have hd:=KD tG.1;simp only[Ci,bV,iD,Qy];by_cases h0:0 < i
    ·have hi0:(0:Int) < (i:Int):=by omega
     have hit:DB false i a.n[i]=32 :: Ez a.n[i]:=by simp[DB,h0]
     rw[hit];simp only[hi0,lz,BN,UN tG.1];rw[C6 (by simp;omega),bV,bV,C6 (by simp;omega),bV];simp only[bV,DG,Em (by omega:i < 9223372036854775807),iX,ki,jz]
    ·have hi0:¬ (0:Int) < (i:Int):=by omega
     have hit:DB false i a.n[i]=Ez a.n[i]:=by simp[DB,h0]
     rw[hit];simp only[hi0,lC,Ci,UN tG.1,bV];rw[C6 (by omega),bV];simp only[bV,DG,Em (by omega:i < 9223372036854775807)]
theorem fm (h:B6 v a) (hr:a.right=true) (hi:∀ n∈a.n,CK n):Bz (Mf B0) (([.str (Bx a.ru 0 a.n),I a.n.length,v],()):lS×Unit)=some (.str (Fg a),()):=by
 obtain⟨hf,h200⟩:=Q7 hr hi;have hlen:=MY (ru:=a.ru) a.n 0 hf;have O:=Mz h;have mL:¬ (a.n.length:Int) < (a.n.length:Int):=by omega
 have he1:((a.n.length:Int)==1)=decide (a.n.length=1):=by
  by_cases U:a.n.length=1;{simp[U]}
  ·have:¬ (a.n.length:Int)=1:=by omega
   simp[U,this]
 have he0:((a.n.length:Int)==0)=decide (a.n=[]):=by
  by_cases U:a.n=[];{simp[U]}
  ·have:¬ (a.n.length:Int)=0:=by have:=kG.2 U;omega
   simp[U,this]
 refine EC ?_;unfold Mf Fg;simp only[CQ,BP,BY,IM h,IN h,N9 h,bV,O.len,iD,Cc,MF,mL,lC,Ci,he1,he0,hr,lq];cases rM:a.ru with
 | true =>
  rw[rM] at hlen;simp only[BN,Hu,jC,Ci,bV,lq];rw[C6 (a:=[39]) (by simp;omega),bV,C6 (by simp;omega),bV];cases tu:a.li with
  | true =>
   simp only[BN,bV,BT,jr];by_cases U:a.n.length=1;{simp only[U,lz,lq,ki,jz];rw[C6 (a:=[44]) (by simp;omega),bV];rfl};{simp[U]}
  | false =>
   simp only[Ci,bV,jM];simp
 | false =>
  rw[rM] at hlen;simp only[Ci,Hu,kc,BN,bV];cases tu:a.li with
  | true =>
   simp only[BN,bV,BT,jr];by_cases U:a.n.length=1;{simp only[U,lz,lq];rw[C6 (a:=[44]) (by simp;omega),bV];rfl};{simp only[U,lC,iq,lm,bV];by_cases h0:a.n=[];{simp[h0]};{simp[h0]}}
  | false =>
   simp only[Ci,bV,jM,iq,lm,BT];by_cases h0:a.n=[];{simp[h0]};{simp[h0]}
theorem fk (h:B6 v a) (hl:a.n.length<=202) (hi:∀ n∈a.n,CK n):AJ B0 .cl (.fn 11 []) [v]=some (.str (Fg a)):=by
 refine pd (by simp[AB,h.ok]) ?_;rw[run11,Nr h,cT,zcX h,bV,fj h (by omega),bV,Hu,bV,BT];cases hr:a.right with
 | false=>simp[Fg,hr]
 | true =>
  obtain⟨hf,h200⟩:=Q7 hr hi;simp only[jC,iq,lm];rw[show BF [.str [],.int .i64 0]=true from rfl,cT];exact ((dZ h (by omega) hf (.mB,()) (fun _ _ _=>trivial) a.n.length 0 (by omega)).choose_spec.2).trans (fm h hr hi)
end Go.Ab.mm


namespace Go.Ab.mm
open Go Go.Ab
variable{i:Nat} {A:lS}
structure A9 where
 e:Int
 h:Bool
 a:BM
abbrev mf:=List A9
inductive IsR:PV->A9->Prop
 | mk (r:A9) (x:PV) (O:BL x r.a.n):IsR (.agg [I r.e,.bool r.h,.bool r.a.li,.bool r.a.ru,x]) r
theorem IsR.ok {v:PV} {r:A9} (h:IsR v r):Ax v=true:=by
 cases h with
 | mk r x O=>simp[Ax,AB,O.ok,I]
theorem IsR.get {v:PV} {r:A9} (h:IsR v r):∃ x,v=.agg [I r.e,.bool r.h,.bool r.a.li,.bool r.a.ru,x]/\BL x r.a.n:=by
 cases h with
 | mk r x O=>exact⟨x,rfl,O⟩
inductive E9:lS->mf->Prop
 | nil:E9 [] []
 | cons {v:PV} {r:A9} {A:lS} {l:mf}:IsR v r->E9 A l->E9 (v :: A) (r :: l)
theorem E9.ok {l:mf} (h:E9 A l):AB A=true:=by
 induction h with
 | nil=>rfl
 | cons h _ ih=>simp[AB,h.ok,ih]
theorem E9.len {l:mf} (h:E9 A l):A.length=l.length:=by
 induction h with
 | nil=>rfl
 | cons h _ ih=>simp[ih]
theorem E9.get {l:mf} (h:E9 A l):∀ i (hi:i < l.length),∃ v,A[i]?=some v/\IsR v l[i]:=by
 induction h with
 | nil=>intro i hi;simp at hi
 | cons h _ ih =>
  intro i hi;cases i with
  | zero=>exact⟨_,rfl,h⟩
  | succ i=>exact ih i (by simpa using hi)
theorem E9.snoc {l:mf} {v:PV} {r:A9} (h:E9 A l) (hv:IsR v r):E9 (A++[v]) (l++[r]):=by
 induction h with
 | nil=>exact .cons hv .nil
 | cons h _ ih=>exact .cons h ih
inductive D8:PV->mf->Prop
 | nil:D8 .mu []
 | sl {A:lS} {l:mf} (f:Bool) (h:E9 A l):D8 (.sl 5 A f) l
theorem D8.ok {v:PV} {l:mf} (h:D8 v l):Ax v=true:=by
 cases h with
 | nil=>rfl
 | sl f h=>simpa[Ax] using h.ok
theorem D8.vi {v:PV} {l:mf} (h:D8 v l):B2 v=false:=by cases h<;>rfl
theorem D8.len {v:PV} {l:mf} (h:D8 v l):Ae (.len .slice (.c v))=some (I l.length):=by
 cases h with
 | nil=>rfl
 | sl f h=>rw[Yz,h.len];rfl
theorem D8.idx {v:PV} {l:mf} (h:D8 v l) (hi:i < l.length):∃ x,BL x l[i].a.n/\Ae (.mw 5 (.c v) (.c (I i)))=some (.ptr [I l[i].e,.bool l[i].h,.bool l[i].a.li,.bool l[i].a.ru,x] 0):=by
 cases h with
 | nil=>simp at hi
 | sl f h =>
  obtain⟨v,hv,hr⟩:=h.get i hi;obtain⟨x,rfl,O⟩:=hr.get;exact⟨x,O,by rw[I,Yx (by omega) hv];rfl⟩
section
variable (a b c d x:PV)
theorem f50:Ae (.fieldAddr 0 (.c (.ptr [a,b,c,d,x] 0)))=some (.ptr [a,b,c,d,x] 0):=rfl
theorem f51:Ae (.fieldAddr 1 (.c (.ptr [a,b,c,d,x] 0)))=some (.ptr [a,b,c,d,x] 1):=rfl
theorem f52:Ae (.fieldAddr 2 (.c (.ptr [a,b,c,d,x] 0)))=some (.ptr [a,b,c,d,x] 2):=rfl
theorem l50:Ae (.load 1 false (.c (.ptr [a,b,c,d,x] 0)))=some a:=rfl
theorem l51:Ae (.load 1 false (.c (.ptr [a,b,c,d,x] 1)))=some b:=rfl
theorem l52:Ae (.load 3 true (.c (.ptr [a,b,c,d,x] 2)))=some (.agg [c,d,x]):=rfl
theorem l5a:Ae (.load 5 true (.c (.ptr [a,b,c,d,x] 0)))=some (.agg [a,b,c,d,x]):=rfl
theorem c50:BD (.agg [a,b,c,d,x]) 0=a:=rfl
theorem c51:BD (.agg [a,b,c,d,x]) 1=b:=rfl
theorem c52:BD (.agg [a,b,c,d,x]) 2=c:=rfl
theorem c53:BD (.agg [a,b,c,d,x]) 3=d:=rfl
theorem c54:BD (.agg [a,b,c,d,x]) 4=x:=rfl
theorem s50:AN (.agg [a,b,c,d,x]) 0 1 false=some a:=rfl
theorem s51:AN (.agg [a,b,c,d,x]) 1 1 false=some b:=rfl
theorem s52:AN (.agg [a,b,c,d,x]) 2 3 true=some (.agg [c,d,x]):=rfl
end
theorem val5 (e:Int) (p q r:Bool) {x:PV} {l:l9} (O:BL x l):(PV.agg [I e,.bool p,.bool q,.bool r,x]).isVal=true:=by simp[PV.isVal,PV.o5,O.cell,I]
theorem ok5 (e:Int) (p q r:Bool) {x:PV} {l:l9} (O:BL x l):FH (.agg [I e,.bool p,.bool q,.bool r,x]) 5=true:=by simp[FH,val5 e p q r O]
theorem build5 (e:Int) (p q r:Bool) {x:PV} {l:l9} (O:BL x l):Ae (.build [.int .i64 0,.bool false,.bool false,.bool false,.mu] [(0,(1,.c (I e))),(1,(1,.c (.bool p))),(2,(3,.c (.agg [.bool q,.bool r,x])))])=some (.agg [I e,.bool p,.bool q,.bool r,x]):=by have h3:(PV.agg [.bool q,.bool r,x]).isVal=true:=MI rfl rfl O.cell;simp[Ae,exec,EK,RX.ev,I,PV.isVal,PV.o5,O.cell,nc,Av,PV.cells]
def A9.ug (r:A9):A9:=⟨r.e,r.h,r.a.ug⟩
theorem xS {v:PV} {l:mf} (h:D8 v l) (hl:l.length<=9223372036854775807):∀ m i us,i+m=min l.length 20->E9 us ((l.take i).map A9.ug) ->
  ∃ qb,E9 qb ((l.take 20).map A9.ug)/\Bz (S5 B0) (([v,I i,I i,.sl 5 us false],()):lS×Unit)=some (.sl 5 qb false,()):=by
 intro m;induction m with
 | zero =>
  intro i us hi tw;have ht:l.take i=l.take 20:=by rcases Nat.le_total l.length 20 with hc | hc;{rw[jb (by omega),jb hc]};{rw[show i=20 by omega]}
  rw[ht] at tw;refine⟨us,tw,EC ?_⟩;unfold S5;have hul:us.length=i:=by have:=tw.len;rw[iW,j5] at this;omega
  have hs:slO 5 5 us 0 i=.sl 5 us false:=by unfold slO;rw[lu ⟨rfl,by omega⟩,j8,jb (by omega)]
  have oS:okU (.sl 5 us false)=true:=by show Ax (.sl 5 us false)=true;simpa[Ax] using tw.ok
  simp only[CQ,BP,BY,Er,h.len,bV,iD,Cc,D1,show Bl (.sl 5 us false)=us from rfl,hs,oS,cT];by_cases hc:(i:Int) < (l.length:Int)
  ·have:¬ (i:Int) < 20:=by omega
   simp only[hc,lz,BN,this,lC,bV,Ci]
  {simp only[hc,lC,Ci,bV]}
 | succ m ih =>
  intro i us hi tw;have mL:i < l.length:=by omega
  have oj:(i:Int) < (l.length:Int):=by omega
  have h20:(i:Int) < 20:=by omega
  obtain⟨x,O,o7⟩:=h.idx mL;obtain⟨u,hu,hua⟩:=few_run (B6.mk l[i].a.li l[i].a.ru x _ O);obtain⟨y,rfl,hy⟩:=hua.get;have hul:us.length=i:=by have:=tw.len;rw[iW,j5] at this;omega
  have nP:IsR (.agg [I l[i].e,.bool l[i].h,.bool l[i].a.li,.bool l[i].a.ru,y]) l[i].ug:=.mk (A9.ug l[i]) y hy
  obtain⟨qb,hus',rJ⟩:=ih (i+1) (us++[.agg [I l[i].e,.bool l[i].h,.bool l[i].a.li,.bool l[i].a.ru,y]]) (by omega) (by
   rw[ll mL,jE];exact tw.snoc nP)
  refine⟨qb,hus',?_⟩;rw[Hs (s':=([v,I ((i+1:Nat):Int),I ((i+1:Nat):Int),.sl 5 (us++[.agg [I l[i].e,.bool l[i].h,.bool l[i].a.li,.bool l[i].a.ru,y]]) false],()))];{exact rJ}
  ·unfold S5;have sn:Ep 5 [.agg [I l[i].e,.bool l[i].h,.bool l[i].a.li,.bool l[i].a.ru,y]]=true:=by simp[Ep,val5 _ _ _ _ hy]
   simp only[CQ,BP,BY,Er,h.len,bV,iD,Cc,oj,h20,lz,BN,o7,f50,f51,f52,l50,l51,l52,hu,D1,show Bl (.sl 5 us false)=us from rfl];have hb:=build5 l[i].e l[i].h l[i].a.ug.li l[i].a.ug.ru hy;simp only[iD] at hb;rw[show l[i].a.ug.li=l[i].a.li from rfl,show l[i].a.ug.ru=l[i].a.ru from rfl] at hb;rw[show l[i].a.ug.li=l[i].a.li from rfl,show l[i].a.ug.ru=l[i].a.ru from rfl,hb,bV,sn,cT];have g1:decide (i<=us.length)=true:=decide_eq_true (by omega);have g2:decide (i+1<=2147483648)=true:=decide_eq_true (by omega);simp only[Pv,Sx,Sb,O8,Vc,VE,VF,List.length_singleton,j8,iO,ik,lz,cT,List.take_succ_cons,List.take_zero,g1,g2,iZ,bV,DG,Em (by omega:i < 9223372036854775807)];rw[jb (by omega)];rfl
theorem Zq {v:PV} {l:mf} (h:D8 v l) (hl:l.length<=9223372036854775807):∃ us,E9 us ((l.take 20).map A9.ug)/\AJ B0 .cl (.fn 5 []) [v]=some (.sl 5 us false):=by obtain⟨us,U,H⟩:=xS h hl (min l.length 20) 0 [] (by omega) .nil;refine⟨us,U,?_⟩;refine pd (by simp[AB,h.ok]) ?_;rw[run5];rw[show BF [v,nI 0,.int .i64 0]=true by simp only[BF,jp,h.vi];rfl,cT];exact H
def MK (r:A9):Tx:=(if r.e≠0 then [101,114,114,111,114,32]++Ez r.e else if r.h then Fg r.a else [])++[10]
def Oa (r:A9):Tx:=if r.e≠0 then [101,114,114,111,114,32]++Ez r.e else if r.h then Fg r.a else []
theorem Pq (r:A9):MK r=Oa r++[10]:=rfl
def Cl:mf->Tx
 | []=>[]
 | r :: l=>MK r++Cl l
theorem aA:∀ l m:mf,Cl (l++m)=Cl l++Cl m
 | [],m=>rfl
 | r :: l,m=>by simp only[ki,Cl,aA l m,iX]
def A9.Ok (r:A9):Prop:=CK r.e/\(∀ n∈r.a.n,CK n)/\r.a.n.length<=202
theorem Q8 {r:A9} (h:r.Ok):(Oa r).length<=5000:=by
 unfold Oa;have U:=KD h.1;have H:=xR h.2.1
 repeat' split
 all_goals simp
 all_goals omega
theorem az:∀ l:mf,(∀ r∈l,r.Ok)->(Cl l).length<=5001*l.length
 | [],_=>by simp[Cl]
 | r :: l,h=>by
  have U:=Q8 (h r iw);have H:=az l fun q hq=>h q (iA _ hq);simp only[Cl,Pq,iQ,iM,jq];omega
theorem UG {l:mf} (h:i < l.length):Cl (l.take (i+1))=Cl (l.take i)++MK l[i]:=by rw[ll h,aA];simp[Cl]
theorem allT_ne {l:mf} (h:l≠[]):Cl l≠[]:=by
 cases l with
 | nil=>exact lH rfl h
 | cons r l=>simp[Cl,Pq]
section prints
variable {v:PV} {l:mf} (h:D8 v l) (hl:l.length<=20) (hk:∀ r∈l,r.Ok)
include h hl hk
theorem tlen (i:Nat):(Cl (l.take i)).length<=101000:=by
 have:=az (l.take i) fun r hr=>hk r (ja hr);have H:(l.take i).length<=l.length:=by simp;omega
 omega
theorem aQ (mL:i < l.length):AJ B0 .cl (.fn 15 []) [I l[i].e]=some (.str (HR l[i].e))/\AJ B0 .cl (.fn 14 []) [.str (HR l[i].e),.str [45],.str [194,175],.int .i64 1]=some (.str (Ez l[i].e)):=by have he:=(hk _ (jF mL)).1;refine⟨xO he,?_⟩;rw[Uk (by have:=ZV he;omega) (by simp) (by simp),YV he]
theorem fw:∀ m i,i+m=l.length->0 < i->Bz (Og B0) (([v,I l.length,I i,I ((Cl (l.take i)).length:Nat),bs (Cl (l.take i))],()):lS×Unit)=some (.str (Cl l),()):=by
 intro m;induction m with
 | zero =>
  intro i hi h0;obtain rfl:i=l.length:=by omega
  refine EC ?_;unfold Og;have mL:¬ ((l.length:Int) < (l.length:Int)):=by omega
  simp only[CQ,BP,BY,Er,Mt,Cc,mL,lC,bV,Ci,D1,ED];rw[aJ _ (by have:=tlen h hl hk l.length;omega),jA];{rfl};{rw[jA];exact allT_ne (kG.1 h0)}
 | succ m ih =>
  intro i hi h0;have mL:i < l.length:=by omega
  have oj:(i:Int) < (l.length:Int):=by omega
  obtain⟨x,O,o7⟩:=h.idx mL;have sX:=hk _ (jF mL);have tu:=tlen h hl hk i;have s9:=Q8 sX;have hs:=UG mL;obtain⟨q1,q2⟩:=aQ h hl hk mL;rw[Hs (s':=([v,I l.length,I ((i+1:Nat):Int),I ((Cl (l.take (i+1))).length:Nat),bs (Cl (l.take (i+1)))],()))];{exact ih (i+1) (by omega) (by omega)}
  ·unfold Og;simp only[CQ,BP,BY,Er,Mt,Cc,oj,lz,bV,BN,o7,l5a,ok5 _ _ _ _ O,cT,c50,c51,c52,c53,c54,D1,ED,iD,IT];rw[hs,Pq];unfold Oa at s9 |-;have uh:∀ k:Nat,nI k=I k:=fun k=>rfl;by_cases he:l[i].e=0
   ·have hb:(l[i].e != 0)=false:=by simp[he]
    have hn:¬ l[i].e≠0:=fun hc=>hc he;rw[lr hn] at s9 |-;simp only[hb,Ci,BT];cases hh:l[i].h with
    | true =>
     rw[hh] at s9;simp only[lq] at s9 |-;rw[YA (B6.mk l[i].a.li l[i].a.ru x _ O) sX.2.2 sX.2.1];simp only[bV,uh];rw[wsU _ _ (by show (Cl (l.take i)).length+(Fg l[i].a).length<=1000000;omega)];simp only[bV,BP,BY,Er,D1,ED,uh];rw[show (10:Int)=((10:UInt8).toNat:Int) from rfl];rw[show PV.int .u8 (((10:UInt8).toNat:Nat):Int)=.int .u8 10 from rfl,wbU _ (by simp only[iQ];show (Cl (l.take i)).length+(Fg l[i].a).length+1<=1000000;omega)];simp only[bV,BP,BY,D1,ED,DG,Em (by omega:i < 9223372036854775807),iX]
     all_goals rfl
    | false =>
     simp only[iq,lm,uh];rw[wbU _ (by omega)];simp only[bV,BP,BY,D1,ED,DG,Em (by omega:i < 9223372036854775807),jz]
     all_goals rfl
   ·have hb:(l[i].e != 0)=true:=by simp[he]
    rw[lu he] at s9 |-;simp only[hb,BN];have hd:=KD sX.1;rw[q1,bV,show (I 1:PV)=.int .i64 1 from rfl,q2,bV,C6 (by simp;omega),bV];simp only[uh];rw[wsU _ _ (by simp only[iQ,iM,jq];omega)];simp only[bV,BP,BY,Er,D1,ED,uh];rw[wbU _ (by simp only[iQ,iM,jq];omega)];simp only[bV,BP,BY,D1,ED,iD,DG,Em (by omega:i < 9223372036854775807),iX]
    all_goals rfl
theorem fu:AJ B0 .cl (.fn 6 []) [v]=some (.str (Cl l)):=by
 refine pd (by simp[AB,h.ok]) ?_;rw[run6,h.len,bV];by_cases h0:l.length=0;{have hn:l=[]:=kN.1 h0;subst hn;simp only[jq,iD,Cc,bV];rfl}
 ·have mL:0 < l.length:=by omega
  have oj:(0:Int) < (l.length:Int):=by omega
  obtain⟨x,O,o7⟩:=h.idx mL;have sX:=hk _ (jF mL);have s9:=Q8 sX;obtain⟨q1,q2⟩:=aQ h hl hk mL;have key:=fw h hl hk (l.length - 1) 1 (by omega) (by omega);have ht1:Cl (l.take 1)=MK l[0]:=by have:=UG mL;simpa[Cl] using this
  rw[ht1,Pq] at key;have hnu:BF [v,I l.length,I 1]=true:=by simp only[BF,jp,h.vi];rfl
  have uh:∀ k:Nat,nI k=I k:=fun k=>rfl;have e01:IntKind.i64.wrap (((0:Nat):Int)+1)=1:=by decide
  simp only[iD,Cc,oj,lz,bV,BN];rw[show I 0=I ((0:Nat):Int) from rfl,o7];simp only[bV,l5a,ok5 _ _ _ _ O,cT,c50,c51,c52,c53,c54,IT];unfold Oa at s9 key;by_cases he:l[0].e=0
  ·have hb:(l[0].e != ((0:Nat):Int))=false:=by simp[he]
   have hn:¬ l[0].e≠0:=fun hc=>hc he;rw[lr hn] at s9 key;simp only[hb,Ci,BT];cases hh:l[0].h with
   | true =>
    rw[hh] at s9 key;simp only[lq] at s9 key |-;rw[YA (B6.mk l[0].a.li l[0].a.ru x _ O) sX.2.2 sX.2.1];simp only[bV];rw[wsN _ (by show (Fg l[0].a).length<=1000000;omega)];simp only[bV,BP,BY,Er,D1,ED,uh];rw[wbU _ (by show (Fg l[0].a).length+1<=1000000;omega)];simp only[bV,BP,BY,D1,ED,DG,uh];rw[e01,hnu,cT];exact key
   | false =>
    rw[hh] at key;simp only[iq,lm] at key |-;rw[wbN];simp only[bV,BP,BY,D1,ED,DG,uh];rw[e01,hnu,cT];exact key
  ·have hb:(l[0].e != ((0:Nat):Int))=true:=by simp[he]
   rw[lu he] at s9 key;simp only[hb,BN];have hd:=KD sX.1;rw[q1,bV,show (I 1:PV)=.int .i64 1 from rfl,q2,bV,C6 (by simp;omega),bV];rw[wsN _ (by simp only[iQ,iM,jq];omega)];simp only[bV,BP,BY,Er,D1,ED,uh];rw[wbU _ (by simp only[iQ,iM,jq];omega)];simp only[bV,BP,BY,D1,ED,iD,DG,uh];rw[e01,hnu,cT];exact key
theorem dx:∀ m i,i+m=l.length->Bz (S4 B0) (([v,.str (Cl (l.take i)),I i],()):lS×Unit)=some (.str (Cl l),()):=by
 intro m;induction m with
 | zero =>
  intro i hi;obtain rfl:i=l.length:=by omega
  refine EC ?_;unfold S4;have mL:¬ ((l.length:Int) < (l.length:Int)):=by omega
  simp only[CQ,BP,BY,h.len,bV,Cc,mL,lC,Ci,jA]
 | succ m ih =>
  intro i hi;have mL:i < l.length:=by omega
  have oj:(i:Int) < (l.length:Int):=by omega
  obtain⟨x,O,o7⟩:=h.idx mL;have sX:=hk _ (jF mL);have tu:=tlen h hl hk i;have s9:=Q8 sX;have hs:=UG mL;rw[Hs (s':=([v,.str (Cl (l.take (i+1))),I ((i+1:Nat):Int)],()))];{exact ih (i+1) (by omega)}
  ·unfold S4;simp only[CQ,BP,BY,h.len,bV,Cc,oj,lz,BN,o7,f50,f51,f52,l50,l51,l52,iD,IT];rw[hs,Pq];unfold Oa at s9 |-;by_cases he:l[i].e=0
   ·have hb:(l[i].e != 0)=false:=by simp[he]
    have hn:¬ l[i].e≠0:=fun hc=>hc he;rw[lr hn] at s9 |-;simp only[hb,Ci,BT,iq,lm];cases hh:l[i].h with
    | true =>
     rw[hh] at s9;simp only[lq] at s9 |-;rw[fk (B6.mk l[i].a.li l[i].a.ru x _ O) sX.2.2 sX.2.1,bV];rw[C6 (by show (Cl (l.take i)).length+(Fg l[i].a).length<=1000000;omega),bV,C6 (by simp only[iQ,iM,jq];show (Cl (l.take i)).length+(Fg l[i].a).length+1<=1000000;omega),bV];simp only[bV,DG,Em (by omega:i < 9223372036854775807),iX]
    | false =>
     simp only[iq,lm];rw[C6 (by simp only[iM,jq];omega),bV];simp only[bV,DG,Em (by omega:i < 9223372036854775807),jz]
   ·have hb:(l[i].e != 0)=true:=by simp[he]
    rw[lu he] at s9 |-;simp only[hb,BN,lq];have hd:=KD sX.1;rw[C6 (by simp only[iM,jq];omega),bV];simp only[bV,UN sX.1];rw[C6 (by simp only[iQ,iM,jq];omega),bV,C6 (by simp only[iQ,iM,jq];omega),bV];simp only[bV,DG,Em (by omega:i < 9223372036854775807),iX]
theorem dY:AJ B0 .cl (.fn 7 []) [v]=some (.str (Cl l)):=by refine pd (by simp[AB,h.ok]) ?_;rw[run7];rw[show BF [v,.str [],.int .i64 0]=true by simp only[BF,jp,h.vi];rfl,cT];exact dx h hl hk l.length 0 (by omega)
end prints
def A9.same (r q:A9):Bool:=r.e==q.e&&(r.h==q.h&&r.a.same q.a)
def Ca:mf->mf->Bool
 | [],[]=>true
 | r :: l,q :: m=>r.same q&&Ca l m
 | _,_=>false
theorem zc1 (l:l9):D9 l l=true:=(Vz l l).2 rfl
theorem xU (r:A9):r.same r=true:=by simp[A9.same,BM.same,zc1]
theorem Xk:∀ l:mf,Ca l l=true
 | []=>rfl
 | r :: l=>by simp[Ca,xU,Xk l]
theorem Uj:∀ {l m:mf},Ca l m=true->l.length=m.length
 | [],[],_=>rfl
 | [],_ :: _,h=>by simp[Ca] at h
 | _ :: _,[],h=>by simp[Ca] at h
 | r :: l,q :: m,h=>by
  simp only[Ca,ie] at h;simp[Uj h.2]
section sames
variable {v u:PV} {l m:mf} (h:D8 v l) (hu:D8 u m) (hl:l.length<=20) (hm:m.length<=20) (hk:∀ r∈l,r.Ok) (hkm:∀ r∈m,r.Ok)
include h hu hl hm hk hkm
theorem one_run {r q:A9} {x y:PV} (O:BL x r.a.n) (hy:BL y q.a.n) (U:r.a.n.length<=1000000) (H:q.a.n.length<=1000000) :
  AJ B0 .cl (.fn 21 []) [.agg [I r.e,.bool r.h,.bool r.a.li,.bool r.a.ru,x],.agg [I q.e,.bool q.h,.bool q.a.li,.bool q.a.ru,y]]=some (.bool (r.same q)):=by
 refine call2 (by simp[AB,Ax,O.ok,hy.ok,I]) ?_;rw[run21];rw[LW,val5 _ _ _ _ O,LW,val5 _ _ _ _ hy,cT,cT];simp only[s50,s51,s52,bV,MF,RB,BT,zcW (B6.mk r.a.li r.a.ru x _ O) (B6.mk q.a.li q.a.ru y _ hy) U H];unfold A9.same;cases (r.e==q.e)<;>cases (r.h==q.h)<;>simp
theorem Yn:AJ B0 .cl (.fn 8 []) [v,u]=some (.bool (Ca l m)):=by
 refine call2 (by simp[AB,h.ok,hu.ok]) ?_;rw[run8]
 have h20:AJ B0 .cl (.fn 20 []) [v,u,.fn 21 []]=some (.bool (Ca l m)):=by
  refine call3 (by simp[AB,Ax,h.ok,hu.ok]) ?_;rw[run20,h.len,bV,hu.len,bV,IT,bV,BT];by_cases tr:l.length=m.length
  ·have hb:¬ ((l.length:Int) != (m.length:Int))=true:=by simp[tr]
   rw[lr hb,bV];rw[show BF [u,.fn 21 [],v,I l.length,.int .i64 0]=true by simp only[BF,jp,h.vi,hu.vi];rfl,cT]
   have key:∀ k i,i+k=l.length->Bz (PQ B0) (([u,.fn 21 [],v,I l.length,I i],()):lS×Unit)=some (.bool (Ca (l.drop i) (m.drop i)),()):=by
    intro k;induction k with
    | zero =>
     intro i hi;obtain rfl:i=l.length:=by omega
     refine EC ?_;unfold PQ;have mL:¬ ((l.length:Int) < (l.length:Int)):=by omega
     simp only[CQ,BP,BY,Er,Mt,Cc,mL,lC,bV,Ci,lf];rw[tr,lf];rfl
    | succ k ih =>
     intro i hi;have mL:i < l.length:=by omega
     have pM:i < m.length:=by omega
     have oj:(i:Int) < (l.length:Int):=by omega
     obtain⟨x,O,o7⟩:=h.idx mL;obtain⟨y,hy,hidy⟩:=hu.idx pM;have g1:=(hk _ (jF mL)).2.2;have g2:=(hkm _ (jF pM)).2.2;have nk:=one_run h hu hl hm hk hkm O hy (by omega) (by omega);rw[In mL,In pM];cases hs:l[i].same m[i] with
     | true =>
      rw[Hs (s':=([u,.fn 21 [],v,I l.length,I ((i+1:Nat):Int)],()))];{rw[ih (i+1) (by omega)];simp only[Ca,hs,jr]};{unfold PQ;simp only[CQ,BP,BY,Er,Mt,Cc,oj,lz,bV,BN,o7,hidy,l5a,ok5 _ _ _ _ O,ok5 _ _ _ _ hy,cT,c50,c51,c52,c53,c54,nk,hs,Hu,jC,Ci,iD,DG,Em (by omega:i < 9223372036854775807)]}
     | false =>
      refine EC ?_;unfold PQ;simp only[CQ,BP,BY,Er,Mt,Cc,oj,lz,bV,BN,o7,hidy,l5a,ok5 _ _ _ _ O,ok5 _ _ _ _ hy,cT,c50,c51,c52,c53,c54,nk,hs,Hu,kc,Ca,jM]
   exact key l.length 0 (by omega)
  ·have hb:((l.length:Int) != (m.length:Int))=true:=by simp;omega
   rw[lu hb]
   have:Ca l m=false:=by
    cases hs:Ca l m with
    | false=>rfl
    | true=>exact lH (Uj hs) tr
   rw[this]
 rw[h20,bV]
theorem fi:AJ B0 .cl (.fn 9 []) [v,u]=some (.bool (Ca l m)):=by
 refine call2 (by simp[AB,h.ok,hu.ok]) ?_;rw[run9,h.len,bV,hu.len,bV,IT,bV,BT];by_cases tr:l.length=m.length
 ·have hb:¬ ((l.length:Int) != (m.length:Int))=true:=by simp[tr]
  rw[lr hb];rw[show BF [v,u,.int .i64 0]=true by simp only[BF,jp,h.vi,hu.vi];rfl,cT]
  have key:∀ k i,i+k=l.length->Bz (Qi B0) (([v,u,I i],()):lS×Unit)=some (.bool (Ca (l.drop i) (m.drop i)),()):=by
   intro k;induction k with
   | zero =>
    intro i hi;obtain rfl:i=l.length:=by omega
    refine EC ?_;unfold Qi;have mL:¬ ((l.length:Int) < (l.length:Int)):=by omega
    simp only[CQ,BP,BY,h.len,bV,Cc,mL,lC,Ci,lf];rw[tr,lf];rfl
   | succ k ih =>
    intro i hi;have mL:i < l.length:=by omega
    have pM:i < m.length:=by omega
    have oj:(i:Int) < (l.length:Int):=by omega
    obtain⟨x,O,o7⟩:=h.idx mL;obtain⟨y,hy,hidy⟩:=hu.idx pM;have g1:=(hk _ (jF mL)).2.2;have g2:=(hkm _ (jF pM)).2.2;have nk:=xM (B6.mk l[i].a.li l[i].a.ru x _ O) (B6.mk m[i].a.li m[i].a.ru y _ hy) (by show l[i].a.n.length<=1000000;omega) (by show m[i].a.n.length<=1000000;omega);rw[In mL,In pM];have mP:(l[i].e != m[i].e)=!(l[i].e==m[i].e):=rfl;have pB:Qi B0 (([v,u,I i],()):lS×Unit)=if l[i].same m[i] then some (.inl ([v,u,I ((i+1:Nat):Int)],())) else some (.inr (.bool false,())):=by unfold Qi;simp only[CQ,BP,BY,h.len,bV,Cc,oj,lz,BN,o7,hidy,f50,f51,f52,l50,l51,l52,IT,zbv,nk,Hu,iD,DG,Em (by omega:i < 9223372036854775807),BT,mP];unfold A9.same;rw[show (({li:=l[i].a.li,ru:=l[i].a.ru,n:=l[i].a.n}:BM).same {li:=m[i].a.li,ru:=m[i].a.ru,n:=m[i].a.n})=l[i].a.same m[i].a from rfl];cases (l[i].e==m[i].e)<;>cases (l[i].h==m[i].h)<;>cases (l[i].a.same m[i].a)<;>rfl
    cases hs:l[i].same m[i] with
    | true =>
     rw[hs] at pB;rw[Hs pB,ih (i+1) (by omega)];simp only[Ca,hs,jr]
    | false =>
     rw[hs] at pB;rw[EC pB];simp only[Ca,hs,jM]
  exact key l.length 0 (by omega)
 ·have hb:((l.length:Int) != (m.length:Int))=true:=by simp;omega
  rw[lu hb]
  have:Ca l m=false:=by
   cases hs:Ca l m with
   | false=>rfl
   | true=>exact lH (Uj hs) tr
  rw[this]
end sames
theorem zc2 {l:mf} (h:∀ r∈l,CK r.e/\∀ n∈r.a.n,CK n):∀ r∈(l.take 20).map A9.ug,r.Ok:=by intro r hr;obtain⟨q,hq,rfl⟩:=ii.1 hr;obtain⟨U,H⟩:=h q (ja hq);refine⟨U,fun n hn=>H n (ja hn),?_⟩;show (q.a.n.take 202).length<=202;simp;omega
theorem fT (shown:AJ B0 .cl (.fn 4 []) []=some (.bool true)) {v u:PV} {l m:mf} (h:D8 v l) (hu:D8 u m) (hl:l.length<=9223372036854775807) (hm:m.length<=9223372036854775807)
  (hk:∀ r∈l,CK r.e/\∀ n∈r.a.n,CK n) (hkm:∀ r∈m,CK r.e/\∀ n∈r.a.n,CK n) :
  BV (BJ B0 fun _=>.cl) fn3 (.cl) AL 0 [.cv v,.cv u] ()=some (.bool true,()):=by
 obtain⟨A,U,H⟩:=Zq h hl;obtain⟨us,g1,g2⟩:=Zq hu hm;have k1:=zc2 hk;have k2:=zc2 hkm;have n1:((l.take 20).map A9.ug).length<=20:=by simp;omega
 have n2:((m.take 20).map A9.ug).length<=20:=by simp;omega
 have i1:D8 (.sl 5 A false) _:=.sl false U;have i2:D8 (.sl 5 us false) _:=.sl false g1;rw[run3,shown,bV,H,bV,g2,bV,BN,fu i1 n1 k1,bV,dY i1 n1 k1,bV,UQ,bV];simp only[lF,BN];rw[Yn i1 i2 n1 n2 k1 k2,bV,fi i1 i2 n1 n2 k1 k2,bV,RB,bV];simp only[lF,BN];rw[Yn i1 i1 n1 n1 k1 k1,bV,Xk]
end Go.Ab.mm


namespace Go.Ab
def U0 (ph:lL->lS->mc) (c:Ha):Ha:=fun E h dep g args e =>
 match dep,ph g args with
 | 0,some r=>some (r,[],e)
 | _,_=>c E h dep g args e
section ph
variable {ph:lL->lS->mc} {sp:lL->(Nm->lV)->lS->l5} {mq:lL->l6}
 (hm:∀ g args r,ph g args=some r->∃ n,Ei sp mq n Unit AL 0 g args ()=some (r,[],()))
include hm
end ph
mutual
def zc3:PV->PV->Bool
 | .bool a,.bool b=>a==b
 | .int k n,.int k' n'=>decide (k=k')&&decide (n=n')
 | .str s,.str s'=>decide (s=s')
 | .mu,.mu=>true
 | .mB,.mB=>true
 | .ni,.ni=>true
 | .mJ,.mJ=>true
 | .ref J o,.ref nr o'=>decide (J=nr)&&decide (o=o')
 | .ptr cs o,.ptr og o'=>decide (o=o')&&Ca cs og
 | .agg cs,.agg og=>Ca cs og
 | .sl k Z f,.sl k' yI f'=>decide (k=k')&&(f==f')&&Ca Z yI
 | _,_=>false
def Ca:lS->lS->Bool
 | [],[]=>true
 | x :: Z,y :: ys=>zc3 x y&&Ca Z ys
 | _,_=>false
end
mutual
theorem zc4:∀ (x y:PV),zc3 x y=true->x=y
 | x,y,h=>by
  unfold zc3 at h;split at h;{simpa using h};{simp only[ie,lw] at h;rw[h.1,h.2]};{simp only[lw] at h;rw[h]};{rfl};{rfl};{rfl};{rfl};{simp only[ie,lw] at h;rw[h.1,h.2]};{rename_i cs o og o';simp only[ie,lw] at h;rw[h.1,Jn cs og h.2]};{rename_i cs og;rw[Jn cs og h]};{rename_i k Z f k' yI f';simp only[ie,lw,ly] at h;rw[h.1.1,h.1.2,Jn Z yI h.2]};{cases h}
theorem Jn:∀ (Z ys:lS),Ca Z ys=true->Z=ys
 | Z,ys,h=>by
  unfold Ca at h;split at h;{rfl};{rename_i x Z y ys;simp only[ie] at h;rw[zc4 x y h.1,Jn Z ys h.2]};{cases h}
end
abbrev DS:=List (lL×lS×PV)
def DM:DS->lL->lS->mc
 | [],_,_=>none
 | p :: l,g,args=>if p.1=g/\Ca p.2.1 args=true then some p.2.2 else DM l g args
def Dk (sp:lL->(Nm->lV)->lS->l5) (mq:lL->l6) (l:DS):Prop :=
 ∀ p∈l,∃ n,Ei sp mq n Unit AL 0 p.1 p.2.1 ()=some (p.2.2,[],())
theorem Hp {sp:lL->(Nm->lV)->lS->l5} {mq:lL->l6}:Dk sp mq []:=fun _ h=>by cases h
variable{l:DS}
theorem Ao {sp:lL->(Nm->lV)->lS->l5} {mq:lL->l6} {g:lL} {args:lS} {r:PV} 
  (h:∃ n,Ei sp mq n Unit AL 0 g args ()=some (r,[],())) (hl:Dk sp mq l):Dk sp mq ((g,args,r) :: l):=fun p hp=>by
 rcases im.1 hp with rfl | hp;{exact h};{exact hl p hp}
theorem MX {sp:lL->(Nm->lV)->lS->l5} {mq:lL->l6}:∀ {l:DS},Dk sp mq l->∀ g args r,DM l g args=some r->∃ n,Ei sp mq n Unit AL 0 g args ()=some (r,[],())
 | [],_,_,_,_,h=>by cases h
 | p :: l,hl,g,args,r,h=>by
  unfold DM at h;split at h
  ·rename_i hp;cases h;have:=hl p iw
   rwa [hp.1,Jn _ _ hp.2] at this
  {exact MX (fun q hq=>hl q (iA _ hq)) g args r h}
end Go.Ab


namespace Go.Ab
variable{α β:Type}
noncomputable section
section Cp
variable {R:Type}
def fN (n:Nat) (K:Nat->R):R:=match n with
 | 0=>K 0
 | m+1=>K (Nat.succ m)
def fI (n:Int) (K:Int->R):R:=match n with
 | .ofNat m=>fN m fun m=>K (.ofNat m)
 | .negSucc m=>fN m fun m=>K (.negSucc m)
def fB (b:Bool) (K:Bool->R):R:=match b with
 | true=>K true
 | false=>K false
def fKd (k:lN) (K:lN->R):R:=match k with
 | .i8=>K .i8 | .i16=>K .i16 | .i32=>K .i32 | .i64=>K .i64
 | .u8=>K .u8 | .u16=>K .u16 | .u32=>K .u32 | .u64=>K .u64
def fS:l4->(l4->R)->R
 | [],K=>K []
 | x :: Z,K=>fS Z fun Z=>K (x :: Z)
def fP (p:α×β) (K:α×β->R):R:=match p with
 |(a,b)=>K (a,b)
def fSp {α:Type}:List α->(List α->R)->R
 | [],K=>K []
 | x :: Z,K=>fSp Z fun Z=>K (x :: Z)
mutual
def fV (d:Bool):PV->(PV->R)->R
 | .undef,K=>K .undef
 | .bool b,K=>fB b fun b=>K (.bool b)
 | .int k n,K=>fKd k fun k=>fI n fun n=>K (.int k n)
 | .str s,K=>fS s fun s=>K (.str s)
 | .mu,K=>K .mu | .mJ,K=>K .mJ | .nn,K=>K .nn | .mB,K=>K .mB | .ni,K=>K .ni
 | .sl k Z f,K=>match d with
  | true=>Dt true Z fun Z=>K (.sl k Z f)
  | false=>fSp Z fun Z=>K (.sl k Z f)
 | .ptr cs o,K=>match d with
  | true=>Dt true cs fun cs=>K (.ptr cs o)
  | false=>fSp cs fun cs=>K (.ptr cs o)
 | .agg cs,K=>Dt d cs fun cs=>K (.agg cs)
 | .iface t x,K=>fV d x fun x=>K (.iface t x)
 | .fn f cap,K=>Dt d cap fun cap=>K (.fn f cap)
 | .mF l,K=>K (.mF l)
 | .mn Z,K=>Dt d Z fun Z=>K (.mn Z)
 | .nb es,K=>match d with
  | true=>Dt true es fun es=>K (.nb es)
  | false=>fSp es fun es=>K (.nb es)
 | .mY g t,K=>K (.mY g t)
 | .ref J o,K=>fP J fun J=>fN o fun o=>K (.ref J o)
 | .my J k i o,K=>fP J fun J=>fN i fun i=>fN o fun o=>K (.my J k i o)
 | .arr J k o n,K=>fP J fun J=>fN o fun o=>fN n fun n=>K (.arr J k o n)
 | .mp J,K=>fP J fun J=>K (.mp J)
 | .it J,K=>fP J fun J=>K (.it J)
def Dt (d:Bool):lS->(lS->R)->R
 | [],K=>K []
 | x :: Z,K=>fV d x fun x=>Dt d Z fun Z=>K (x :: Z)
end
def fH:PV->(PV->R)->R
 | .undef,K=>K .undef
 | .bool b,K=>K (.bool b) | .int k n,K=>K (.int k n) | .str s,K=>K (.str s)
 | .mu,K=>K .mu | .mJ,K=>K .mJ | .nn,K=>K .nn | .mB,K=>K .mB | .ni,K=>K .ni
 | .sl k Z f,K=>K (.sl k Z f)
 | .ptr cs o,K=>K (.ptr cs o)
 | .agg cs,K=>Dt false cs fun cs=>K (.agg cs)
 | .iface t x,K=>fV false x fun x=>K (.iface t x)
 | .fn f cap,K=>Dt false cap fun cap=>K (.fn f cap)
 | .mF l,K=>K (.mF l)
 | .mn Z,K=>Dt false Z fun Z=>K (.mn Z)
 | .nb es,K=>K (.nb es)
 | .mY g t,K=>K (.mY g t)
 | .ref J o,K=>fP J fun J=>K (.ref J o)
 | .my J k i o,K=>fP J fun J=>K (.my J k i o)
 | .arr J k o n,K=>fP J fun J=>K (.arr J k o n)
 | .mp J,K=>fP J fun J=>K (.mp J)
 | .it J,K=>fP J fun J=>K (.it J)
def fHL (l:lS):(lS->R)->R:=List.rec (motive:=fun _=>(lS->R)->R) (fun K=>K []) (fun x _ ih K=>fH x fun x=>ih fun Z=>K (x :: Z)) l
def fOb (d:Bool):Ob->(Ob->R)->R
 | .cells ty cs,K=>Dt d cs fun cs=>K (.cells ty cs)
 | .arr k ty Z,K=>match d with
  | true=>Dt true Z fun Z=>K (.arr k ty Z)
  | false=>fSp Z fun Z=>K (.arr k ty Z)
 | .map es,K=>Dt d es fun es=>K (.map es)
 | .mD s p,K=>fN p fun p=>K (.mD s p)
def fObs (d:Bool):lY->(lY->R)->R
 | [],K=>K []
 | x :: Z,K=>fOb d x fun x=>fObs d Z fun Z=>K (x :: Z)
def fObH:Ob->(Ob->R)->R
 | .cells ty cs,K=>Dt false cs fun cs=>K (.cells ty cs)
 | .arr k ty Z,K=>K (.arr k ty Z)
 | .map es,K=>Dt false es fun es=>K (.map es)
 | .mD s p,K=>K (.mD s p)
def Qv:lY->(lY->R)->R
 | [],K=>K []
 | x :: Z,K=>fObH x fun x=>Qv Z fun Z=>K (x :: Z)
def fOL:List lY->(List lY->R)->R
 | [],K=>K []
 | x :: Z,K=>Qv x fun x=>fOL Z fun Z=>K (x :: Z)
def fSt (V:St) (K:St->R):R:=match V with
 | ⟨tmps,mi,mj⟩=>fHL tmps fun tmps=>fOL mi fun mi=>fHL mj fun mj=>K ⟨tmps,mi,mj⟩
def fTm (V:St) (K:St->R):R:=match V with
 | ⟨tmps,mi,mj⟩=>fHL tmps fun tmps=>K ⟨tmps,mi,mj⟩
def fUpd (u:Option (Nm×Ob)) (K:Option (Nm×Ob)->R):R:=match u with
 | none=>K none
 | some (J,o)=>fP J fun J=>fOb false o fun o=>K (some (J,o))
def SK:An->Bool
 | .call _ _=>true
 | .nS _=>true
 | _=>false
def fUps:List (Nm×Ob)->(List (Nm×Ob)->R)->R
 | [],K=>K []
 | p :: l,K=>match p with
  |(J,o)=>fP J fun J=>fOb true o fun o=>fUps l fun l=>K ((J,o) :: l)
def xV (d:Bool) (o:Al) (K:Al->R):R:=match o with
 | ⟨v,new,nf,kill,mX,gone,nh,io,slot⟩=>fV d v fun v=>fObs d new fun new=>fUpd nf fun nf=>fUps nh fun nh=>K ⟨v,new,nf,kill,mX,gone,nh,io,slot⟩
end Cp
def Hm (l:List α):Nat->Option α:=List.rec (motive:=fun _=>Nat->Option α) (fun _=>none) (fun x _ ih n=>Nat.rec (motive:=fun _=>Option α) (some x) (fun m _=>ih m) n) l
def LA (l:lS):Nat->PV:=List.rec (motive:=fun _=>Nat->PV) (fun _=>.undef) (fun x _ ih n=>Nat.rec (motive:=fun _=>PV) x (fun m _=>ih m) n) l
def setR (l:lS):Nat->PV->lS:=List.rec (motive:=fun _=>Nat->PV->lS) (fun _ _=>[]) (fun x Z ih n v=>Nat.rec (motive:=fun _=>lS) (v :: Z) (fun m _=>x :: ih m v) n) l
def Mu (σ:List lY) (J:Nm):lV:=match Hm σ J.1 with
 | some l=>Hm l J.2
 | none=>none
def RX.evR (tm:lS):RX->RX
 | .t i=>.c (LA tm i)
 | .c v=>.c v
def RX.evF (tm:lS):RX->PV
 | .t i=>LA tm i
 | .c v=>v
def Do (m i:Nat):Bool:=Nat.beq (Nat.land (Nat.shiftRight m i) 1) 1
def Es:lU->Nat
 | []=>0
 | d :: ds=>Nat.lor (Nat.shiftLeft 1 d) (Es ds)
def PT (m:Nat) (b:Bool):Nat->lS->lS
 | _,[]=>[]
 | i,v :: A=>(match Do m i with
  | true=>bif b then v else .undef
  | false=>bif b then .undef else v) :: PT m b (Nat.succ i) A
def Po:Nat->lS->lU
 | _,[]=>[]
 | i,v :: A=>match v with
  | .undef=>i :: Po (Nat.succ i) A
  | _=>Po (Nat.succ i) A
def Hq (R:lW):Nat->List lY->lU
 | _,[]=>[]
 | i,l :: ls=>match l with
  | []=>Hq R (Nat.succ i) ls
  | _ :: _=>match R.all fun J=>J.1 != i with
   | true=>i :: Hq R (Nat.succ i) ls
   | false=>Hq R (Nat.succ i) ls
def UJ (ds:lU) (V:St):St:={V with tmps:=PT (Es ds) false 0 V.tmps}
def Ut (ks:lU) (V:St):St:={V with tmps:=PT (Es ks) true 0 V.tmps}
def UI (V:St):lU:=Hq (Ar V.tmps++Ar V.mj++V.mi.flatMap fun l=>l.flatMap Ob.names) 0 V.mi
def aE (V:St):lU:=Po 0 V.tmps
def R7 (m:Nat):Nat->List lY->List lY
 | _,[]=>[]
 | i,l :: ls=>(match Do m i with
  | true=>[]
  | false=>l) :: R7 m (Nat.succ i) ls
def SS (mi:List lY):lU->Bool
 | []=>true
 | d :: ds=>match Hm mi d with
  | some (_ :: _)=>false
  | _=>SS mi ds
def SN (ds:lU) (V:St):St :=
 let V:=CF (fun m=>match Do (Es ds) m.1 with | true=>some none | false=>none) V
 {V with mi:=R7 (Es ds) 0 V.mi}
def SM (ds:lU) (V:St):St:=match SS V.mi ds with
 | true=>V
 | false=>SN ds V
def SL (V:St):St:=match UI V with
 | []=>V
 | d :: ds=>SN (d :: ds) V
def Tk (ds:lU) (V:St):St:=SL (UJ ds V)
def Mi (m:Nat):Nat->lS->Bool
 | _,[]=>true
 | i,v :: A=>match v with
  | .arr J _ _ _=>(match Do m i with
   | true=>(match J with
    |(a,b)=>(match Nat.beq a i with
     | true=>(match b with
      | 0=>Mi m (Nat.succ i) A
      | _+1=>false)
     | false=>false))
   | false=>Mi m (Nat.succ i) A)
  | _=>Mi m (Nat.succ i) A
def Pb {R:Type}:lU->St->(St->R)->R
 | [],V,K=>K V
 | t :: mT,V,K=>match LA V.tmps t with
  | .arr J k o n=>fSt (G3 t V) fun V=>Pb mT V K
  | _=>Pb mT V K
def VU {R:Type} (mT:lU) (grow:List (Nat×Nat)) (V:St) (K:St->R):R:=match Mi (Es mT) 0 V.tmps with
 | true=>K (grow.foldl (fun V (t,k)=>GO t k V) V)
 | false=>Pb mT V fun V=>K (grow.foldl (fun V (t,k)=>GO t k V) V)
def Qg (mT:lU) (grow:List (Nat×Nat)) (V:St):St:=VU mT grow V fun V=>fSt V fun V=>Tk (aE V) V
def SY (live:Option lU) (V:St):St :=
 match live with
 | none=>V
 | some ks=>SL (Ut ks V)
def VJ (o:Al):Bool:=Bb o&&o.new.isEmpty
def Mp (V:St) (dst:lT) (o:Al):St:=match VJ o with
 | true=>(match dst with
  | some d=>{V with tmps:=setR V.tmps d o.v}
  | none=>V)
 | false=>apply V dst o
def Wb (o:AD) (V:St):Bool :=
 if DO o.op then
  match o.dst with
  | some d=>match Hm V.mi d with
   | some []=>true
   | _=>false
  | none=>match o.op with
   | .call _ _=>true
   | _=>false
 else true
def outQ (M:AK) {E:Type} (h:AF E) (dep:Nat) (o:AD) (V:St) (e:E):Option (Al×E) :=
 Av (Wb o V) (match o.op with
  | .call f args=>match Cj M h dep (o.dst.getD 0) (Mu V.mi) [] (f.evR V.tmps) (args.map (RX.evR V.tmps)) e with
   | some (out,e)=>Av (Jv o.dst out) (some (out,e))
   | none=>none
  | op=>match exec (o.dst.getD 0) (Mu V.mi) [] (op.oB (RX.evR V.tmps)) with
   | some out=>some (out,e)
   | none=>none)
def Sf (ops:l8) (o:AD) (tm:lS):Option Bool :=
 match o.guard with
 | none=>some true
 | some (j,want) =>
  match Hm ops j with
  | some p=>match p.dst with
   | some d=>match LA tm d with
    | .bool b=>some (b==want)
    | .mn []=>some false
    | _=>none
   | none=>none
  | none=>none
def zc5 (M:AK) {E:Type} (h:AF E) (dep:Nat) (ops:l8) (o:AD) (V:St) (e:E):Option (St×E) :=
 match Sf ops o V.tmps with
 | some true=>match outQ M h dep o V e with
  | some (out,e)=>xV (SK o.op) out fun out=>some (Mp V o.dst out,e)
  | none=>none
 | some false=>some (Mp V o.dst {v:=.mn []},e)
 | none=>none
def runQ (M:AK) {E:Type} (h:AF E) (dep:Nat) (ops:l8):l8->St->E->Option (St×E)
 | [],V,e=>some (V,e)
 | o :: rest,V,e=>match zc5 M h dep ops o V e with
  | some (V,e)=>runQ M h dep ops rest V e
  | none=>none
def rnQ (o:AD) (V:St) (out:Al):lW :=
 if D7 o.op&&Bb out then [] else AI (Mu V.mi) (FG o.op (Bb out)) (Ar (o.op.Z.map (RX.evF V.tmps))++out.mX)
def yldQ (op:An) (tm:lS):Bool :=
 match op with
 | .call f args=>match f.evF tm with
  | .mF _=>(Ar (args.map (RX.evF tm))).isEmpty
  | _=>false
 | _=>false
def zc6 (ops:l8) (i:Nat) (o:AD) (V:St) (out:Al):Bk :=
 let A:=o.op.Z.map (RX.evF V.tmps)
 {i,dst:=o.dst,reads:=Jt o.op.Z++CB ops o,rn:=rnQ o V out,rv:=if KR o.op then [] else Gk (Mu V.mi) (rnQ o V out),
  cls:=if C4 o.op&&A5 A then (if yldQ o.op V.tmps then .calls else .other) else if Bb out then .quiet else if CM out then .turns else if FR out then .ios else .other,
  on:=out.v.names++out.new.flatMap Ob.names,tch:=EE out++(out.mX++out.kill.toList),mX:=!(out.mX++out.kill.toList).isEmpty,
  vn:=(Jt o.op.Z++CB ops o).flatMap fun s=>(LA V.tmps s).names
  nw:=out.new.isEmpty&&!DO o.op,ld:=Hl o.op V.tmps out.v,pr:=out.nh.map fun p=>(p.1,Mu V.mi p.1),aft:=out.nh,V:=I5 o.dst o.op V.tmps,sl:=out.slot.map fun r=>(r,(V.mi.getD r []).length)}
def zc7 (M:AK) {E:Type} (h:AF E) (dep:Nat) (ops:l8) (i:Nat) (o:AD) (V:St) (e:E):Option (St×E×Bk) :=
 match Sf ops o V.tmps with
 | some true=>match outQ M h dep o V e with
  | some (out,e)=>xV (SK o.op) out fun out=>some (Mp V o.dst out,e,zc6 ops i o V out)
  | none=>none
 | some false=>some (Mp V o.dst {v:=.mn []},e,{i,cls:=.quiet,dst:=o.dst,reads:=CB ops o,rn:=[],vn:=(CB ops o).flatMap fun s=>(LA V.tmps s).names,nw:=!DO o.op})
 | none=>none
def S0 (M:AK) {E:Type} (h:AF E) (dep:Nat) (ops:l8):List (Nat×Nat)->List Bk->St->E->Option (St×E)
 | [],_,V,e=>some (V,e)
 |(i,pr) :: rest,infos,V,e=>match Hm ops i with
  | some o=>match zc7 M h dep ops i o V e with
   | some (V,e,info)=>Av (infos.all fun j=>pr.testBit j.i||HS j info) (S0 M h dep ops rest (info :: infos) V e)
   | none=>none
  | none=>none
def DC (M:AK) (fuel:Nat):A1->{E:Type}->AF E->Nat->St->E->Option (Ex×St×E)
 | .skip,_,_,_,V,e=>some (.normal,V,e)
 | .region ops none AP,_,h,dep,V,e=>match runQ M h dep ops ops (SM (BI ops) V) e with
  | some (V,e)=>fTm (SY AP V) fun V=>some (.normal,V,e)
  | none=>none
 | .region ops (some pr) AP,_,h,dep,V,e=>match S0 M h dep ops pr [] (SM (BI ops) V) e with
  | some (V,e)=>fTm (SY AP V) fun V=>some (.normal,V,e)
  | none=>none
 | .seq a b,_,h,dep,V,e=>match DC M fuel a h dep V e with
  | some (.normal,V,e)=>DC M fuel b h dep V e
  | r=>r
 | .cond c a b,_,h,dep,V,e=>match c.ev V.tmps with
  | .bool true=>DC M fuel a h dep V e
  | .bool false=>DC M fuel b h dep V e
  | _=>none
 | .block id body,_,h,dep,V,e=>match DC M fuel body h dep V e with
  | some (.exit pw,V,e)=>if pw=id then some (.normal,V,e) else some (.exit pw,V,e)
  | r=>r
 | .loop mT grow body,E,h,dep,V,e=>fSt (Qg mT grow V) fun V =>
  match Dx (fun (s:St×E)=>match DC M fuel body h dep s.1 s.2 with
   | some (.normal,uu,e)=>fSt (Tk (mQ V) uu) fun uu=>fSt (Qg mT grow uu) fun V=>some (.inl (V,e))
   | some (x,V,e)=>some (.inr (x,V,e))
   | none=>none) fuel (V,e) with
  | some (x,V,e)=>some (x,V,e)
  | none=>none
 | .scope body,_,h,dep,V,e=>match DC M fuel body h dep V e with
  | some (.exit id,V,e)=>if id < B4 then some (.exit id,V,e) else none
  | r=>r
 | .norm grow,_,_,_,V,e=>fSt (Qg [] grow (trim V)) fun V=>some (.normal,V,e)
 | .rangeFunc f ps assign body,E,h,dep,V,e =>
  let rnd:AF E->Nat->AF (DU E):=fun h dep l args r =>
   if l=dep then
    match r with
    |(s,none,e) =>
     if args.length=ps.length then
      fSt {s with tmps:=GM ps args s.tmps,mj:=s.tmps++s.mj} fun s1=>match DC M fuel assign h (dep+1) s1 e with
      | some (.normal,s',e)=>match DC M fuel body h (dep+1) s' e with
       | some (x,s',e)=>fSt {s' with tmps:=s'.mj.take s.tmps.length,mj:=s'.mj.drop s.tmps.length} fun s2=>some (x==.normal,(s2,(if x=.normal then none else some x),e))
       | none=>none
      | _=>none
     else none
    | _=>none
   else
    match r with
    |(s,p,e)=>match h l args e with
     | some (b,e)=>some (b,(s,p,e))
     | none=>none
  if JT M (f.ev V.tmps) then Ju M rnd h dep (f.ev V.tmps) V e
  else match KA V (f.ev V.tmps) with
  | some (.fn g cap,V) =>
   match M.call (DU E) (rnd h dep) (dep+1) (AO g) (Bc g [.mF dep] cap) (V,none,e) with
   | some (_,_,s,p,e)=>some (p.getD .normal,s,e)
   | none=>none
  | _=>none
 | .exit id,_,_,_,V,e=>some (.exit id,V,e)
 | .ret,_,_,_,V,e=>some (.ret,V,e)
 | .pZ _ _ _ _,_,_,_,_,_=>none
 | .bad,_,_,_,_,_=>none
def fObD {R:Type}:Ob->(Ob->R)->R
 | .cells ty cs,K=>Dt false cs fun cs=>K (.cells ty cs)
 | .arr k ty Z,K=>Dt false Z fun Z=>K (.arr k ty Z)
 | .map es,K=>Dt false es fun es=>K (.map es)
 | .mD s p,K=>K (.mD s p)
def Tj {R:Type}:lY->(lY->R)->R
 | [],K=>K []
 | x :: Z,K=>fObD x fun x=>Tj Z fun Z=>K (x :: Z)
def VN (M:AK) (n:Nat) (mq:lL->l6):(E:Type)->AF E->Nat->lL->lY->lS->E->Option (St×E):=fun _ h dep g ins A e =>
 match mq g with
 | none=>none
 | some fn=>Av (fn.res.isEmpty&&(decide (A.length<=fn.nt)&&decide (ins.length<=fn.nt)&&decide (0 < fn.nt))) (
  fSt (EQ fn.gone fn.nt ins A) fun st0=>match DC M n fn.code h dep st0 e with
  | some (.exit _,_,_)=>none
  | some (.normal,V,e)=>some (V,e)
  | some (.ret,V,e)=>some (V,e)
  | none=>none)
section C9
variable {R:Type}
theorem JY (n:Nat) (K:Nat->R):fN n K=K n:=by cases n<;>rfl
theorem fI_eq (n:Int) (K:Int->R):fI n K=K n:=by cases n<;>simp only[fI,JY]
theorem fB_eq (b:Bool) (K:Bool->R):fB b K=K b:=by cases b<;>rfl
theorem fKd_eq (k:lN) (K:lN->R):fKd k K=K k:=by cases k<;>rfl
theorem fS_eq:∀ (s:l4) (K:l4->R),fS s K=K s
 | [],_=>rfl
 | x :: Z,K=>by simp only[fS];rw[fS_eq Z]
theorem Lh (p:α×β) (K:α×β->R):fP p K=K p:=rfl
theorem JE {α:Type}:∀ (s:List α) (K:List α->R),fSp s K=K s
 | [],_=>rfl
 | x :: Z,K=>by simp only[fSp];rw[JE Z]
mutual
theorem Qu (d:Bool):∀ (v:PV) (K:PV->R),fV d v K=K v
 | .undef,K | .mu,K | .mJ,K | .nn,K | .mB,K | .ni,K | .mF _,K | .mY _ _,K=>by simp only[fV]
 | .bool b,K=>by simp only[fV,fB_eq]
 | .int k n,K=>by simp only[fV,fKd_eq,fI_eq]
 | .str s,K=>by simp only[fV,fS_eq]
 | .sl k Z f,K=>by cases d<;>simp only[fV,JE];rw[GK true Z]
 | .ptr cs o,K=>by cases d<;>simp only[fV,JE];rw[GK true cs]
 | .nb es,K=>by cases d<;>simp only[fV,JE];rw[GK true es]
 | .agg cs,K=>by simp only[fV];rw[GK d cs]
 | .iface t x,K=>by simp only[fV];rw[Qu d x]
 | .fn f cap,K=>by simp only[fV];rw[GK d cap]
 | .mn Z,K=>by simp only[fV];rw[GK d Z]
 | .ref J o,K=>by simp only[fV,Lh,JY]
 | .my J k i o,K=>by simp only[fV,Lh,JY]
 | .arr J k o n,K=>by simp only[fV,Lh,JY]
 | .mp J,K=>by simp only[fV,Lh]
 | .it J,K=>by simp only[fV,Lh]
theorem GK (d:Bool):∀ (Z:lS) (K:lS->R),Dt d Z K=K Z
 | [],K=>by simp only[Dt]
 | x :: Z,K=>by simp only[Dt];rw[Qu d x,GK d Z]
end
theorem fH_eq (v:PV) (K:PV->R):fH v K=K v:=by cases v<;>simp only[fH,GK,Qu,Lh]
theorem Wf:∀ (Z:lS) (K:lS->R),fHL Z K=K Z
 | [],_=>rfl
 | x :: Z,K=>by
  show fH x (fun x=>fHL Z fun Z=>K (x :: Z))=_;rw[fH_eq,Wf Z]
theorem We (d:Bool) (o:Ob) (K:Ob->R):fOb d o K=K o:=by cases o<;>cases d<;>simp only[fOb,GK,JE,JY]
theorem Vy (d:Bool):∀ (Z:lY) (K:lY->R),fObs d Z K=K Z
 | [],_=>rfl
 | x :: Z,K=>by simp only[fObs];rw[We,Vy d Z]
theorem fObH_eq (o:Ob) (K:Ob->R):fObH o K=K o:=by cases o<;>simp only[fObH,GK]
theorem U8:∀ (Z:lY) (K:lY->R),Qv Z K=K Z
 | [],_=>rfl
 | x :: Z,K=>by simp only[Qv];rw[fObH_eq,U8 Z]
theorem zc8:∀ (Z:List lY) (K:List lY->R),fOL Z K=K Z
 | [],_=>rfl
 | x :: Z,K=>by simp only[fOL];rw[U8,zc8 Z]
theorem KS (V:St) (K:St->R):fSt V K=K V:=by cases V;simp only[fSt,Wf,zc8]
theorem SH (V:St) (K:St->R):fTm V K=K V:=by cases V;simp only[fTm,Wf]
theorem fUpd_eq (u:Option (Nm×Ob)) (K:Option (Nm×Ob)->R):fUpd u K=K u:=by
 cases u with
 | none=>rfl
 | some p=>simp only[fUpd,Lh,We]
theorem bw:∀ (l:List (Nm×Ob)) (K:List (Nm×Ob)->R),fUps l K=K l
 | [],_=>rfl
 |(J,o) :: l,K=>by simp only[fUps,Lh,We];rw[bw l]
theorem R5 (d:Bool) (o:Al) (K:Al->R):xV d o K=K o:=by cases o;simp only[xV,Qu,Vy,fUpd_eq,bw]
end C9
theorem HC {α:Type}:∀ (l:List α) (n:Nat),Hm l n=l[n]?
 | [],_=>by simp[Hm]
 | x :: Z,0=>rfl
 | x :: Z,n+1=>by rw[List.getElem?_cons_succ,<-HC Z n];rfl
theorem L8:∀ (l:lS) (n:Nat),LA l n=l.getD n .undef
 | [],_=>by simp[LA]
 | x :: Z,0=>rfl
 | x :: Z,n+1=>by rw[List.getD_cons_succ,<-L8 Z n];rfl
theorem Vj:∀ (l:lS) (n:Nat) (v:PV),setR l n v=l.set n v
 | [],_,_=>by simp[setR]
 | x :: Z,0,_=>rfl
 | x :: Z,n+1,v=>by rw[List.set_cons_succ,<-Vj Z n];rfl
theorem evR_eq (tm:lS):RX.evR tm=fun x=>.c (x.ev tm):=by
 funext x;cases x with
 | t i=>simp only[RX.evR,RX.ev,L8]
 | c v=>rfl
theorem ZQ (σ:List lY):Mu σ=Ac σ:=by
 funext J;unfold Mu Ac;rw[HC];cases σ[J.1]? with
 | none=>rfl
 | some l=>exact HC l J.2
theorem evF_eq (tm:lS):RX.evF tm=RX.ev tm:=by
 funext x;cases x with
 | t i=>exact L8 tm i
 | c v=>rfl
theorem Ku (m i:Nat):Do m i=m.testBit i:=by
 unfold Do;rw[Nat.testBit_eq_decide_div_mod_eq];show ((m >>> i) &&& 1).beq 1=_;rw[Nat.and_one_is_mod,Nat.shiftRight_eq_div_pow];by_cases h:m / 2 ^ i%2=1;{rw[h];rfl}
 ·cases hb:(m / 2 ^ i%2).beq 1 with
  | false=>simp[h]
  | true=>exact lH (i7 hb) h
theorem Ky (i:Nat):∀ ds:lU,Do (Es ds) i=ds.contains i
 | []=>by rw[Ku];simp[Es]
 | d :: ds=>by
  have ih:=Ky i ds;rw[Ku] at ih |-;show (1 <<< d ||| Es ds).testBit i=_;rw[Nat.testBit_or,ih,Nat.one_shiftLeft,Nat.testBit_two_pow,List.contains_cons];congr 1;by_cases h:i=d;{simp[h]};{have H:¬d=i:=fun e=>h e.symm;simp[h,H]}
theorem Uu (ds:lU) (b:Bool):∀ (l:lS) (i:Nat),PT (Es ds) b i l=(l.zipIdx i).map fun (v,j)=>if ds.contains j=b then v else .undef
 | [],_=>rfl
 | v :: A,i=>by
  simp only[PT,ky,iE,Uu ds b A,Ky];congr 1;cases ds.contains i<;>cases b<;>simp
theorem dS (ds:lU) (V:St):UJ ds V=GG ds V:=by unfold UJ GG;rw[Uu];congr 2;funext p;cases ds.contains p.2<;>simp
theorem dF (ds:lU) (V:St):Ut ds V=GE ds V:=by unfold Ut GE;rw[Uu]
theorem W8:∀ (l:lS) (i:Nat),Po i l=((l.zipIdx i).filter fun (v,_)=>B2 v).map (·.2)
 | [],_=>rfl
 | v :: A,i=>by
  simp only[Po,ky,List.filter_cons,W8 A];cases v<;>simp[B2]
theorem eP (V:St):aE V=mQ V:=W8 _ _
theorem Wu (R:lW):∀ (mi:List lY) (i:Nat) (f:Nat->lY),(∀ j,j < mi.length->f (i+j)=mi.getD j []) ->
  (List.range' i mi.length).filter (fun d=>!(f d).isEmpty&&R.all fun J=>J.1 != d)=Hq R i mi
 | [],_,_,_=>rfl
 | l :: ls,i,f,hf=>by
  have ih:=Wu R ls (i+1) f fun j hj=>by have:=hf (j+1) (by simpa using hj);rw[show i+1+j=i+(j+1) by omega,this];rfl
  have h0:f i=l:=hf 0 (by simp);simp only[iM,List.range'_succ,List.filter_cons,h0,Hq];rw[ih];cases l with
  | nil=>simp
  | cons a l=>cases (R.all fun J=>J.1 != i)<;>simp
theorem WM (V:St):UI V=G0 V:=by unfold UI G0;rw[<-Wu _ V.mi 0 (fun d=>V.mi.getD d []) (fun j _=>by rw[iO]),List.range_eq_range']
theorem XX (ds:lU):∀ (l:List lY) (i:Nat),R7 (Es ds) i l=(l.zipIdx i).map fun (v,j)=>if ds.contains j then [] else v
 | [],_=>rfl
 | v :: A,i=>by
  simp only[R7,ky,iE,XX ds A,Ky];congr 1;cases ds.contains i<;>simp
theorem Zl (mi:List lY):∀ ds:lU,SS mi ds=ds.all fun d=>(mi.getD d []).isEmpty
 | []=>rfl
 | d :: ds=>by
  simp only[SS,jp,Zl mi ds,HC,ip];cases mi[d]? with
  | none=>simp
  | some l=>cases l<;>simp
theorem Zf (ds:lU) (V:St) (h:(ds.all fun d=>(V.mi.getD d []).isEmpty)=false):SN ds V=Cf ds V:=by
 unfold Cf;rw[lr (by rw[h];decide)];unfold SN
 rw[show (fun m:Nm=>match Do (Es ds) m.1 with | true=>some (none:lV) | false=>none)=fun m=>if ds.contains m.1 then some none else none by
  funext m;rw[Ky];cases ds.contains m.1<;>rfl]
 simp only[XX]
theorem Rs (ds:lU) (V:St):SM ds V=Cf ds V:=by unfold SM;rw[Zl];split;{rename_i h;unfold Cf;rw[lu h]};{rename_i h;exact Zf ds V h}
theorem Wt (R:lW):∀ (mi:List lY) (i d:Nat),d∈Hq R i mi->i<=d/\∃ a l,mi[d - i]?=some (a :: l)
 | [],_,_,h=>by simp[Hq] at h
 | l :: ls,i,d,h=>by
  have ih:=Wt R ls (i+1) d;have step:d∈Hq R (i+1) ls->i<=d/\∃ a l',(l :: ls)[d - i]?=some (a :: l'):=fun h=>by obtain⟨U,a,l',H⟩:=ih h;refine⟨by omega,a,l',?_⟩;rw[show d - i=d - (i+1)+1 by omega,List.getElem?_cons_succ];exact H
  simp only[Hq] at h;split at h;{exact step h};{split at h;{rcases im.1 h with rfl | h;{exact⟨ik _,_,_,by rw[Nat.sub_self];rfl⟩};{exact step h}};{exact step h}}
theorem Ze (V:St):SL V=Cf (G0 V) V:=by unfold SL;split;{rename_i h;rw[<-WM,h];rfl};{rename_i d ds h;rw[<-WM,h];refine Zf _ _ ?_;obtain⟨_,a,l,H⟩:=Wt _ V.mi 0 d (by rw[show Hq _ 0 V.mi=d :: ds from h];exact iw);rw[jp,ip,show V.mi[d]?=some (a :: l) from H];rfl}
theorem Pj (ds:lU) (V:St):Tk ds V=drop ds V:=by unfold Tk drop;rw[Ze,dS]
theorem XM (mT:lU):∀ (l:lS) (i t:Nat),Mi (Es mT) i l=true->mT.contains (i+t)=true->∀ J k o n,l.getD t .undef=.arr J k o n->J=(i+t,0)
 | [],_,_,_,_,_,_,_,_=>by simp
 | x :: Z,i,0,h,hc,J,k,o,n=>by
  intro e;simp only[List.getD_cons_zero] at e;subst e;simp only[Mi,Ky] at h;rw[show mT.contains i=true from hc] at h;obtain⟨a,b⟩:=J;dsimp only at h;cases hb:Nat.beq a i with
  | false=>rw[hb] at h;cases h
  | true =>
   rw[hb] at h;cases b with
   | zero=>rw[i7 hb];rfl
   | succ b=>cases h
 | x :: Z,i,t+1,h,hc,J,k,o,n=>by
  rw[List.getD_cons_succ,show i+(t+1)=i+1+t by omega];rw[show i+(t+1)=i+1+t by omega] at hc;refine XM mT Z (i+1) t ?_ hc J k o n;simp only[Mi] at h
  repeat' split at h
  all_goals first | exact h | cases h
theorem Xo (t:Nat) (V:St) (h:∀ J k o n,V.tmps.getD t .undef=.arr J k o n->J=(t,0)):G3 t V=V:=by unfold G3;split;{rename_i J k o n e;rw[lr];exact fun hh=>hh.1 (h J k o n e)};{rfl}
theorem TV (V:St):∀ (mT:lU),(∀ t∈mT,∀ J k o n,V.tmps.getD t .undef=.arr J k o n->J=(t,0))->mT.foldl (fun V t=>G3 t V) V=V
 | [],_=>rfl
 | t :: mT,h=>by rw[jy,Xo t V (h t iw)];exact TV V mT fun u hu=>h u (iA _ hu)
theorem TG {R:Type}:∀ (mT:lU) (V:St) (K:St->R),Pb mT V K=K (mT.foldl (fun V t=>G3 t V) V)
 | [],_,_=>rfl
 | t :: mT,V,K=>by
  rw[jy];simp only[Pb];split;{rw[KS];exact TG mT _ K};{rename_i h;rw[Xo t V fun J k o n e=>lH (by rw[L8];exact e) (h J k o n)];exact TG mT V K}
theorem xW {R:Type} (mT:lU) (grow:List (Nat×Nat)) (V:St) (K:St->R):VU mT grow V K=K (JR mT grow V):=by unfold VU JR;split;{rename_i h;rw[TV V mT fun t ht J k o n e=>by have:=XM mT V.tmps 0 t h (by simpa using ht) J k o n e;simpa using this]};{rw[TG]}
theorem RC (mT:lU) (grow:List (Nat×Nat)) (V:St):Qg mT grow V=norm mT grow V:=by unfold Qg norm;rw[xW,KS,Pj,eP]
theorem Rx (live:Option lU) (V:St):SY live V=Fz live V:=by unfold SY Fz;split;{rfl};{rw[Ze,dF]}
theorem evRs_eq (tm qs:lS) (Z:md):(Z.map fun x=>RX.c (x.ev tm)).map (RX.ev qs)=Z.map (RX.ev tm):=by rw[iK];rfl
theorem XU (d:Nat) (σ:Nm->lV) (T:lS) (op:An):exec d σ [] (op.oB fun x=>.c (x.ev T))=exec d σ T op:=by
 cases op with
 | build z ps=>simp only[An.oB,exec];rw[aa T]
 | slice k x lo hi mx=>simp only[An.oB,exec];rw[Iw,Iw,Iw];rfl
 | nB x lo hi=>simp only[An.oB,exec];rw[Iw,Iw];rfl
 | nQ mx Z=>simp only[An.oB,exec,iK];rfl
 | qf k Z=>simp only[An.oB,exec,iK];rfl
 | mkF f Z=>simp only[An.oB,exec,iK];rfl
 | _=>rfl
theorem Rw (V:St) (dst:lT) (o:Al):Mp V dst o=apply V dst o:=by unfold Mp;split;{rename_i h;obtain⟨v,new,nf,kill,mX,gone,nh,io,slot⟩:=o;simp only[VJ,Bb,ie,jY,iS] at h;obtain⟨⟨⟨⟨⟨⟨rfl,rfl⟩,rfl⟩,rfl⟩,rfl⟩,rfl⟩,rfl⟩:=h;unfold apply;cases dst<;>simp[Vj]};{rfl}
section eval_eq
variable (M:AK) {E:Type} (h:AF E) (dep:Nat) (ops:l8)
theorem Wr (dst:Nat) (σ:Nm->lV) (tm:lS) (f:RX) (args:md) (e:E):Cj M h dep dst σ [] (.c (f.ev tm)) (args.map fun x=>.c (x.ev tm)) e=Cj M h dep dst σ tm f args e:=by have hv:=evRs_eq tm [] args;unfold Cj;simp only[hv];rfl
theorem aT (o:AD) (V:St) (e:E):outQ M h dep o V e=By M h dep o V e:=by
 unfold outQ By;rw[show Wb o V=Ce o V by unfold Wb Ce;simp only[HC]<;>rfl,ZQ,evR_eq];congr 1;cases o.op with
 | call f args=>have hc:=Wr M h dep (o.dst.getD 0) (Ac V.mi) V.tmps f args e;simp only[hc]<;>rfl
 | _=>simp only[XU]<;>rfl
theorem Yb (o:AD) (tm:lS):Sf ops o tm=BO ops o tm:=by unfold Sf BO;simp only[HC,L8]<;>rfl
theorem zc9 (o:AD) (V:St) (e:E):zc5 M h dep ops o V e=stepG M h dep ops o V e:=by unfold zc5 stepG IA;rw[Yb];split<;>rename_i hw<;>simp only[hw,R5,aT,Rw]<;>rfl
theorem aO:∀ (l:l8) (V:St) (e:E),runQ M h dep ops l V e=Dy M h dep ops l V e
 | [],_,_=>rfl
 | o :: l,V,e=>by
  simp only[runQ,Dy,zc9,aO l]<;>rfl
theorem zda (i:Nat) (o:AD) (V:St) (out:Al):zc6 ops i o V out=CN ops i o V out:=by unfold zc6 CN rnQ CI yldQ FU;simp only[evF_eq,ZQ,L8]<;>rfl
theorem zdb (i:Nat) (o:AD) (V:St) (e:E):zc7 M h dep ops i o V e=IL M h dep ops i o V e:=by
 unfold zc7 IL A3;rw[Yb,aT];cases BO ops o V.tmps with
 | none=>rfl
 | some b =>
  cases b with
  | true =>
   cases By M h dep o V e with
   | none=>rfl
   | some p=>simp only[R5,Rw,zda]
  | false=>simp only[Rw,L8]
theorem ZA:∀ (l:List (Nat×Nat)) (infos:List Bk) (V:St) (e:E),S0 M h dep ops l infos V e=FA M h dep ops l infos V e
 | [],_,_,_=>rfl
 |(i,pr) :: l,infos,V,e=>by
  simp only[S0,FA,HC,zdb,ZA l]<;>rfl
end eval_eq
theorem Hv (M:AK) (fuel:Nat):∀ (c:A1) {E:Type} (h:AF E) (dep:Nat) (V:St) (e:E),DC M fuel c h dep V e=Az M fuel c h dep V e
 | .skip,_,_,_,_,_ | .exit _,_,_,_,_,_ | .ret,_,_,_,_,_ | .bad,_,_,_,_,_ | .pZ _ _ _ _,_,_,_,_,_=>by simp only[DC,Az]<;>rfl
 | .rangeFunc f ps a b,_,h,dep,V,e=>by simp only[DC,Az,KS,Hv M fuel a,Hv M fuel b]<;>rfl
 | .norm _,_,_,_,_,_=>by simp only[DC,Az,KS,SH,Rs,Rx,RC,Pj]<;>rfl
 | .region ops none AP,_,h,dep,V,e=>by simp only[DC,Az,KS,SH,Rs,Rx,RC,Pj,aO]<;>rfl
 | .region ops (some pr) AP,_,h,dep,V,e=>by simp only[DC,Az,KS,SH,Rs,Rx,RC,Pj,ZA]<;>rfl
 | .seq a b,_,h,dep,V,e=>by simp only[DC,Az,Hv M fuel a,Hv M fuel b]<;>rfl
 | .cond c a b,_,h,dep,V,e=>by simp only[DC,Az,Hv M fuel a,Hv M fuel b]<;>rfl
 | .block id b,_,h,dep,V,e=>by simp only[DC,Az,Hv M fuel b]<;>rfl
 | .scope b,_,h,dep,V,e=>by simp only[DC,Az,Hv M fuel b]<;>rfl
 | .loop mT grow b,_,h,dep,V,e=>by simp only[DC,Az,KS,SH,Rs,Rx,RC,Pj,Hv M fuel b]<;>rfl
theorem fObD_eq {R:Type} (o:Ob) (K:Ob->R):fObD o K=K o:=by cases o<;>simp only[fObD,GK,JE]
theorem ae {R:Type}:∀ (Z:lY) (K:lY->R),Tj Z K=K Z
 | [],_=>rfl
 | x :: Z,K=>by simp only[Tj];rw[fObD_eq,ae Z]
theorem xX (M:AK) (n:Nat) (mq:lL->l6):VN M n mq=JO M n mq:=by funext E h dep g ins A e;unfold VN JO;simp only[KS,Hv]<;>rfl
end
end Go.Ab


namespace Go.Ab
variable{α β:Type} {l:List (Nat×PV)} {m n:Nat} {p:Nat×PV} {d x:α}
noncomputable section
def BA (d:α) (l:List (Nat×α)):Nat->α:=List.rec (motive:=fun _=>Nat->α) (fun _=>d) (fun p _ ih i=>Bool.rec (motive:=fun _=>α) (ih i) p.2 (Nat.beq p.1 i)) l
theorem O3 (d:α) (i:Nat):BA d [] i=d:=rfl
theorem Ec (d:α) (p:Nat×α) (l:List (Nat×α)) (i:Nat):BA d (p :: l) i=if p.1=i then p.2 else BA d l i:=by
 show Bool.rec (motive:=fun _=>α) (BA d l i) p.2 (Nat.beq p.1 i)=_;cases h:Nat.beq p.1 i with
 | true=>rw[lu (i7 h)]
 | false=>rw[lr (kS h)]
theorem Y2 {α β:Type} (d:α) (f:α->β) (i:Nat):∀ l:List (Nat×α),BA (f d) (l.map fun p=>(p.1,f p.2)) i=f (BA d l i)
 | []=>rfl
 | p :: l=>by
  rw[iE,Ec,Ec,Y2 d f i l];split<;>rfl
theorem WE {α:Type} (d:α) (q:Nat->Bool) (i:Nat):∀ l:List (Nat×α),BA d (l.filter fun p=>q p.1) i=if q i=true then BA d l i else d
 | []=>by simp[O3]
 | p :: l=>by
  rw[List.filter_cons,Ec];have ih:=WE d q i l;by_cases h:p.1=i
  ·subst h;cases hq:q p.1 with
   | true=>rw[lu rfl,Ec,lu rfl,lu rfl,lu rfl]
   | false=>rw[lr (by simp),ih,hq];simp
  ·rw[lr h];cases hq:q p.1 with
   | true=>rw[lu rfl,Ec,lr h,ih]
   | false=>rw[lr (by simp),ih]
def Ct (d:α) (n:Nat) (l:List (Nat×α)):List α:=(List.range n).map (BA d l)
theorem Jz (d:α) (n:Nat) (l:List (Nat×α)):(Ct d n l).length=n:=by simp[Ct]
theorem HD (d:α) (n:Nat) (l:List (Nat×α)) (i:Nat):(Ct d n l)[i]?=if i < n then some (BA d l i) else none:=by unfold Ct;rw[iC];by_cases h:i < n;{rw[jG h,lu h];rfl};{rw[i6 (by simpa using h),lr h];rfl}
theorem HM {l:List (Nat×α)} {Z:List α} (h:Z.length=n) (H:∀ i,i < n->Z[i]?=some (BA d l i)):Ct d n l=Z:=by apply jc;intro i;rw[HD];by_cases hi:i < n;{rw[lu hi,H i hi]};{rw[lr hi,i6 (by omega)]}
theorem VC (d:α) (n:Nat) (l:List (Nat×α)) (i:Nat) (v:α):Ct d n ((i,v) :: l)=(Ct d n l).set i v :=
 HM (by rw[List.length_set,Jz]) fun j hj=>by rw[kK,Ec,Jz,HD,lu hj];by_cases e:i=j;{subst e;simp[hj]};{simp[e]}
theorem VD (d:α) (n:Nat) (l:List (Nat×α)) (f:α->β):Ct (f d) n (l.map fun p=>(p.1,f p.2))=(Ct d n l).map f :=
 HM (by rw[iW,Jz]) fun j hj=>by rw[iC,HD,lu hj,Y2];rfl
theorem Pl (d:α) (n:Nat) (l:List (Nat×α)) (i:Nat):(Ct d n l).getD i d=if i < n then BA d l i else d:=by rw[ip,HD];split<;>rfl
def Ew {α:Type} (e:α->Bool):Nat->List α->List (Nat×α)
 | _,[]=>[]
 | i,x :: Z=>match e x with
  | true=>Ew e (Nat.succ i) Z
  | false=>(i,x) :: Ew e (Nat.succ i) Z
theorem LQ {α:Type} {e:α->Bool} {d:α} (he:∀ x,e x=true->x=d):∀ (l:List α) (i j:Nat),BA d (Ew e i l) j=if j < i then d else l.getD (j - i) d
 | [],i,j=>by simp[Ew,O3]
 | x :: Z,i,j=>by
  have ih:=LQ he Z (i+1) j;have key:BA d ((i,x) :: Ew e (i+1) Z) j=if j < i then d else (x :: Z).getD (j - i) d:=by rw[Ec];by_cases h:i=j;{subst h;simp};{rw[lr h,ih];by_cases H:j < i;{rw[lu (by omega),lu H]};{rw[lr (by omega),lr H,show j - i=j - (i+1)+1 by omega,List.getD_cons_succ]}}
  simp only[Ew];cases h:e x with
  | false=>exact key
  | true =>
   have O:=he x h;show BA d (Ew e (i+1) Z) j=_;rw[<-key,Ec];split;{rename_i H;have H:i=j:=H;show BA d (Ew e (i+1) Z) j=x;rw[ih,lu (by omega),O]};{rfl}
structure Ss where
 nt:Nat
 tm:List (Nat×PV)
 no:Nat
 ob:List (Nat×lY)
 kn:Nat
 kp:List (Nat×PV)
def Ss.V (s:Ss):St:={tmps:=Ct .undef s.nt s.tm,mi:=Ct [] s.no s.ob,mj:=Ct .undef s.kn s.kp}
def Ss.of (V:St):Ss:=⟨V.tmps.length,Ew B2 0 V.tmps,V.mi.length,Ew List.isEmpty 0 V.mi,V.mj.length,Ew B2 0 V.mj⟩
theorem Il (x:PV) (h:B2 x=true):x=.undef:=by cases x<;>first | rfl | (simp[B2] at h)
theorem OS (x:List α) (h:x.isEmpty=true):x=[]:=by cases x<;>first | rfl | (simp at h)
theorem HQ (V:St):(Ss.of V).V=V:=by
 obtain⟨tmps,mi,mj⟩:=V;simp only[Ss.of,Ss.V]
 rw[HM (Z:=tmps) rfl fun i hi=>by rw[LQ Il,lr (by omega),ip,kM,iG hi];rfl,
  HM (Z:=mi) rfl fun i hi=>by rw[LQ OS,lr (by omega),ip,kM,iG hi];rfl,
  HM (Z:=mj) rfl fun i hi=>by rw[LQ Il,lr (by omega),ip,kM,iG hi];rfl]
def Ss.frame (nt:Nat) (args:lS):Ss:=⟨args.length+(nt - args.length),Ew B2 0 args,nt,[],0,[]⟩
theorem Z7 (nt:Nat) (args:lS):(Ss.frame nt args).V={tmps:=args++List.replicate (nt - args.length) .undef,mi:=List.replicate nt [],mj:=[]}:=by
 simp only[Ss.frame,Ss.V]
 rw[HM (Z:=args++List.replicate (nt - args.length) .undef) (by simp) fun i hi=>by
  rw[LQ Il,lr (by omega),kM,ip];by_cases h:i < args.length
  ·rw[jd h,iG h];rfl
  ·rw[js (by omega),kL,lu (by omega),i6 (l:=args) (by omega)];rfl,
  HM (Z:=List.replicate nt []) (by simp) fun i hi=>by rw[kL,lu hi];rfl]
 rfl
def Ss.t (s:Ss) (i:Nat):PV:=match Nat.blt i s.nt with
 | true=>BA .undef s.tm i
 | false=>.undef
def Ss.o (s:Ss) (i:Nat):lY:=match Nat.blt i s.no with
 | true=>BA [] s.ob i
 | false=>[]
theorem Ix (a b:Nat):Nat.blt a b=decide (a < b):=by rw[jN,jk,lw]
theorem J3 (s:Ss) (i:Nat):s.t i=s.V.tmps.getD i .undef:=by unfold Ss.t Ss.V;rw[Pl,Ix];by_cases h:i < s.nt<;>simp[h]
theorem o_eq (s:Ss) (i:Nat):s.o i=s.V.mi.getD i []:=by unfold Ss.o Ss.V;rw[Pl,Ix];by_cases h:i < s.no<;>simp[h]
def IQ (s:Ss) (J:Nm):lV:=match Nat.blt J.1 s.no with
 | true=>Hm (BA [] s.ob J.1) J.2
 | false=>none
theorem Pd (s:Ss):IQ s=Ac s.V.mi:=by funext J;unfold IQ Ac Ss.V;rw[HD,Ix];by_cases h:J.1 < s.no;{simp only[h,lz,lq,HC]};{simp only[h,lC,lm]}
def RX.evS (s:Ss):RX->RX
 | .t i=>.c (s.t i)
 | .c v=>.c v
def RX.evP (s:Ss):RX->PV
 | .t i=>s.t i
 | .c v=>v
theorem evS_eq (s:Ss):RX.evS s=fun x=>.c (x.ev s.V.tmps):=by
 funext x;cases x with
 | t i=>simp only[RX.evS,RX.ev,J3]
 | c v=>rfl
theorem SI (s:Ss):RX.evP s=RX.ev s.V.tmps:=by
 funext x;cases x with
 | t i=>exact J3 s i
 | c v=>rfl
section Cp
variable {R:Type}
def fTS:List (Nat×PV)->(List (Nat×PV)->R)->R
 | [],K=>K []
 | p :: l,K=>match p with
  |(j,x)=>fN j fun j=>fH x fun x=>fTS l fun l=>K ((j,x) :: l)
def fOS:List (Nat×lY)->(List (Nat×lY)->R)->R
 | [],K=>K []
 | p :: l,K=>match p with
  |(j,x)=>fN j fun j=>Qv x fun x=>fOS l fun l=>K ((j,x) :: l)
def Fb (s:Ss) (K:Ss->R):R:=match s with
 | ⟨nt,tm,no,ob,kn,kp⟩=>fN nt fun nt=>fTS tm fun tm=>fN no fun no=>fOS ob fun ob=>fN kn fun kn=>fTS kp fun kp=>K ⟨nt,tm,no,ob,kn,kp⟩
theorem zdc:∀ (l:List (Nat×PV)) (K:List (Nat×PV)->R),fTS l K=K l
 | [],_=>rfl
 |(j,x) :: l,K=>by simp only[fTS,JY,fH_eq];rw[zdc l]
theorem zdd:∀ (l:List (Nat×lY)) (K:List (Nat×lY)->R),fOS l K=K l
 | [],_=>rfl
 |(j,x) :: l,K=>by simp only[fOS,JY,U8];rw[zdd l]
theorem HL (s:Ss) (K:Ss->R):Fb s K=K s:=by cases s;simp only[Fb,JY,zdc,zdd]
end Cp
def Td (ks:lU) (tm:List (Nat×PV)):List (Nat×PV):=ks.map fun k=>(k,BA .undef tm k)
theorem XG (tm:List (Nat×PV)) (i:Nat):∀ ks:lU,BA .undef (Td ks tm) i=if ks.contains i=true then BA .undef tm i else .undef
 | []=>by simp[Td,O3]
 | k :: ks=>by
  have ih:=XG tm i ks;unfold Td at ih |-;rw[iE,Ec,ih,List.contains_cons];by_cases h:k=i;{subst h;simp};{have H:¬i=k:=fun e=>h e.symm;simp[h,H]}
def Rc (ks:lU) (s:Ss):Ss:={s with tm:=Td ks s.tm}
theorem L5 (l:List α) (f:α×Nat->β) (i:Nat):(l.zipIdx.map f)[i]?=(l[i]?).map fun a=>f (a,i):=by rw[iC,jD,kx,iO];rfl
theorem WB (ks:lU) (s:Ss):(Rc ks s).V=GE ks s.V:=by
 unfold GE Rc Ss.V;dsimp only
 rw[HM (Z:=(Ct .undef s.nt s.tm).zipIdx.map fun (v,i)=>if ks.contains i then v else .undef) (by simp[Jz]) fun i hi=>by rw[L5,HD,lu hi,XG];rfl]
def Ek {α:Type} (e:α->Bool) (m:Nat):List (Nat×α)->List (Nat×α)
 | []=>[]
 | p :: l=>match Do m p.1 with
  | true=>Ek e m l
  | false=>match e p.2 with
   | true=>Ek e (Nat.lor m (Nat.shiftLeft 1 p.1)) l
   | false=>p :: Ek e (Nat.lor m (Nat.shiftLeft 1 p.1)) l
theorem bit_or (m j i:Nat):Do (Nat.lor m (Nat.shiftLeft 1 j)) i=(Do m i||decide (j=i)):=by rw[Ku,Ku];show (m ||| 1 <<< j).testBit i=_;rw[Nat.testBit_or,Nat.one_shiftLeft,Nat.testBit_two_pow]
theorem Im {α:Type} {e:α->Bool} {d:α} (he:∀ x,e x=true->x=d) (hd:e d=true):∀ (l:List (Nat×α)) (m j:Nat) (x:α),(j,x)∈Ek e m l↔(e x=false/\BA d l j=x/\Do m j=false)
 | [],m,j,x=>by
  simp only[Ek,jZ,false_iff,O3];rintro ⟨U,rfl,_⟩;rw[hd] at U;cases U
 | p :: l,m,j,x=>by
  simp only[Ek];cases hb:Do m p.1 with
  | true =>
   show (j,x)∈Ek e m l↔_;rw[Im he hd l,Ec];constructor;{rintro ⟨U,H,h3⟩;refine⟨U,?_,h3⟩;rw[lr (fun h=>by rw[h] at hb;rw[hb] at h3;cases h3),H]};{rintro ⟨U,H,h3⟩;rw[lr fun h=>by rw[h] at hb;rw[hb] at h3;cases h3] at H;exact⟨U,H,h3⟩}
  | false =>
   have step:(j,x)∈Ek e (Nat.lor m (Nat.shiftLeft 1 p.1)) l↔(e x=false/\BA d l j=x/\Do m j=false/\p.1≠j):=by rw[Im he hd l,bit_or,jX,decide_eq_false_iff_not]
   cases O:e p.2 with
   | true =>
    show (j,x)∈Ek e _ l↔_;rw[step,Ec];constructor;{rintro ⟨U,H,h3,h4⟩;exact⟨U,by rw[lr h4,H],h3⟩};{rintro ⟨U,H,h3⟩;by_cases h:p.1=j;{rw[lu h] at H;rw[H] at O;rw[O] at U;cases U};{rw[lr h] at H;exact⟨U,H,h3,h⟩}}
   | false =>
    show (j,x)∈p :: Ek e _ l↔_;rw[im,step,Ec];constructor;{rintro (h | ⟨U,H,h3,h4⟩);{subst h;exact⟨O,by rw[lu rfl],hb⟩};{exact⟨U,by rw[lr h4,H],h3⟩}};{rintro ⟨U,H,h3⟩;by_cases h:p.1=j;{rw[lu h] at H;left;rw[<-h,<-H]};{rw[lr h] at H;exact .inr ⟨U,H,h3,h⟩}}
theorem Xx (J:Nm):∀ Z:lS,J∈Ar Z↔∃ x∈Z,J∈x.names
 | []=>by simp[Ar]
 | x :: Z=>by simp[Ar,Xx J Z]
def NQ (n:Nat) (l:List (Nat×PV)):lW:=l.flatMap fun p=>match Nat.blt p.1 n with
 | true=>p.2.names
 | false=>[]
def Su (n:Nat) (l:List (Nat×lY)):lW:=l.flatMap fun p=>match Nat.blt p.1 n with
 | true=>p.2.flatMap Ob.names
 | false=>[]
theorem bc {l:List (Nat×α)}:x∈Ct d n l↔∃ i,i < n/\BA d l i=x:=by simp[Ct]
theorem Xw (J:Nm) (n:Nat) (tm:List (Nat×PV)):J∈NQ n (Ek B2 0 tm)↔J∈Ar (Ct .undef n tm):=by
 have hb:∀ i,Do 0 i=false:=fun i=>by rw[Ku];simp
 rw[Xx];unfold NQ;simp only[ji,bc];constructor;{rintro ⟨⟨j,x⟩,U,H⟩;rw[Im Il rfl] at U;rw[Ix] at H;by_cases h:j < n;{simp only[h,lz] at H;exact⟨x,⟨j,h,U.2.1⟩,H⟩};{simp[h] at H}};{rintro ⟨x,⟨i,U,H⟩,h3⟩;refine⟨(i,x),?_,?_⟩;{rw[Im Il rfl];refine⟨?_,H,hb i⟩;cases x<;>first | rfl | (simp[PV.names] at h3)};{rw[Ix];simp only[U,lz];exact h3}}
theorem fK (J:Nm) (n:Nat) (ob:List (Nat×lY)):J∈Su n (Ek List.isEmpty 0 ob)↔J∈(Ct [] n ob).flatMap fun l=>l.flatMap Ob.names:=by
 have hb:∀ i,Do 0 i=false:=fun i=>by rw[Ku];simp
 unfold Su;rw[ji,ji];simp only[bc];constructor;{rintro ⟨⟨j,x⟩,U,H⟩;rw[Im OS rfl] at U;rw[Ix] at H;by_cases h:j < n;{simp only[h,lz] at H;exact⟨x,⟨j,h,U.2.1⟩,H⟩};{simp[h] at H}};{rintro ⟨x,⟨i,U,H⟩,h3⟩;refine⟨(i,x),?_,?_⟩;{rw[Im OS rfl];refine⟨?_,H,hb i⟩;cases x<;>first | rfl | (simp at h3)};{rw[Ix];simp only[U,lz];exact h3}}
def zde (R:lW) (d:Nat):Bool:=R.all fun J=>!Nat.beq J.1 d
def unS (s:Ss):lU:=fSp (Ek List.isEmpty 0 s.ob) fun zzd=>fSp (NQ s.nt (Ek B2 0 s.tm)++(NQ s.kn (Ek B2 0 s.kp)++Su s.no zzd)) fun R =>
 (zzd.filter fun p=>Nat.blt p.1 s.no&&zde R p.1).map (·.1)
theorem Vf (s:Ss) (d:Nat):d∈unS s↔d∈G0 s.V:=by
 have hb:∀ i,Do 0 i=false:=fun i=>by rw[Ku];simp
 unfold unS G0;rw[JE,JE];simp only[ii,ju,jS,ie,Ix,lw,zde,iy,jt];have hR:∀ J,J∈NQ s.nt (Ek B2 0 s.tm)++(NQ s.kn (Ek B2 0 s.kp)++Su s.no (Ek List.isEmpty 0 s.ob))↔J∈Ar s.V.tmps++Ar s.V.mj++s.V.mi.flatMap fun l=>l.flatMap Ob.names:=by intro J;rw[iH,iH,iH,iH,Xw,Xw,fK,or_assoc];rfl
 constructor;{rintro ⟨⟨j,x⟩,⟨U,H,h3⟩,h4⟩;have h4:j=d:=h4;subst h4;rw[Im OS rfl] at U;refine⟨by rw[show s.V.mi.length=s.no from Jz _ _ _];exact H,?_,fun J sP=>?_⟩;{rw[show s.V.mi.getD j []=x by rw[show s.V.mi=Ct [] s.no s.ob from rfl,Pl,lu H];exact U.2.1];exact U.1};{have:=h3 J ((hR J).2 sP);simpa using kS this}}
 ·rintro ⟨U,H,h3⟩;have U:d < s.no:=by rw[show s.V.mi.length=s.no from Jz _ _ _] at U;exact U
  refine⟨(d,s.V.mi.getD d []),⟨?_,U,fun J sP=>?_⟩,rfl⟩;{rw[Im OS rfl];refine⟨H,?_,hb d⟩;rw[show s.V.mi=Ct [] s.no s.ob from rfl,Pl,lu U]}
  ·have:=h3 J ((hR J).1 sP);cases hq:Nat.beq J.1 d with
   | false=>rfl
   | true=>have e:=i7 hq;simp[e] at this
theorem X1 {ds ds':lU} (h:∀ d,d∈ds↔d∈ds') (V:St):Cf ds V=Cf ds' V:=by
 have hc:∀ d,ds.contains d=ds'.contains d:=fun d=>by rw[jN,jl,jl,h d]
 unfold Cf
 rw[show (ds.all fun d=>(V.mi.getD d []).isEmpty)=ds'.all fun d=>(V.mi.getD d []).isEmpty by
  rw[jN,iy,iy];exact⟨fun q d hd=>q d ((h d).2 hd),fun q d hd=>q d ((h d).1 hd)⟩]
 simp only[hc]
def subF (m:Nat) (J:Nm):Option lV:=match Do m J.1 with
 | true=>some none
 | false=>none
def subS (f:Nm->Option lV) (s:Ss):Ss:={s with tm:=s.tm.map fun p=>(p.1,p.2.sub f),ob:=s.ob.map fun p=>(p.1,p.2.map (Ob.sub f)),kp:=s.kp.map fun p=>(p.1,p.2.sub f)}
theorem Ue (f:Nm->Option lV):∀ Z:lS,AM f Z=Z.map (PV.sub f)
 | []=>rfl
 | x :: Z=>by simp[AM,Ue f Z]
theorem aI (f:Nm->Option lV) (s:Ss):(subS f s).V=CF f s.V:=by
 unfold subS CF Ss.V;dsimp only
 have U:=VD (PV.undef) s.nt s.tm (PV.sub f);rw[show PV.undef.sub f=.undef by simp only[PV.sub]] at U;have H:Ct [] s.no (s.ob.map fun p=>(p.1,p.2.map (Ob.sub f)))=(Ct [] s.no s.ob).map (List.map (Ob.sub f)):=VD [] s.no s.ob (List.map (Ob.sub f));have h3:=VD (PV.undef) s.kn s.kp (PV.sub f);rw[show PV.undef.sub f=.undef by simp only[PV.sub]] at h3;rw[U,H,h3,Ue,Ue]
def Sa (ds:lU) (s:Ss):Ss:=fN (Es ds) fun m=>subS (subF m) {s with ob:=s.ob.filter fun p=>!Do m p.1}
theorem X2 (ds:lU) (s:Ss) (h:(ds.all fun d=>(s.V.mi.getD d []).isEmpty)=false):(Sa ds s).V=Cf ds s.V:=by
 unfold Sa;rw[JY,aI];unfold Cf;rw[lr (by rw[h];decide)];have hf:subF (Es ds)=fun m=>if ds.contains m.1 then some none else none:=by funext m;unfold subF;rw[Ky];cases ds.contains m.1<;>rfl
 rw[hf];unfold CF Ss.V;dsimp only
 congr 1
 have e1:Ct [] s.no (s.ob.filter fun p=>!Do (Es ds) p.1)=(Ct [] s.no s.ob).zipIdx.map fun (l,i)=>if ds.contains i then [] else l :=
  HM (by simp[Jz]) fun i hi=>by rw[L5,HD,lu hi,WE [] (fun j=>!Do (Es ds) j),Ky];show some (if ds.contains i=true then [] else BA [] s.ob i)=_;cases ds.contains i<;>rfl
 rw[e1];apply jc;intro i;rw[iC,L5,L5,iC];cases (Ct [] s.no s.ob)[i]? with
 | none=>rfl
 | some l =>
  simp only[iu];split<;>rfl
def PZ (s:Ss):Ss:=match unS s with
 | []=>s
 | d :: ds=>Sa (d :: ds) s
theorem UE (s:Ss):(PZ s).V=Cf (G0 s.V) s.V:=by
 unfold PZ;split;{rename_i h;rw[<-X1 (ds:=[]) fun d=>by rw[<-Vf,h]];rfl}
 ·rename_i d ds h;rw[<-X1 (ds:=d :: ds) fun x=>by rw[<-Vf,h]];refine X2 _ _ ?_;have hd:d∈G0 s.V:=by rw[<-Vf,h];exact iw
  unfold G0 at hd;simp only[ju,ie,jt] at hd;rw[jp,hd.2.1];rfl
def HE (ds:lU) (s:Ss):Ss:=match ds.all fun d=>(s.o d).isEmpty with
 | true=>s
 | false=>Sa ds s
theorem Ua (ds:lU) (s:Ss):(HE ds s).V=Cf ds s.V:=by unfold HE;rw[show (fun d=>(s.o d).isEmpty)=fun d=>(s.V.mi.getD d []).isEmpty by funext d;rw[o_eq]];split;{rename_i h;unfold Cf;rw[lu h]};{rename_i h;exact X2 ds s h}
def Qa (live:Option lU) (s:Ss):Ss:=match live with
 | none=>s
 | some ks=>Fb (Rc ks s) fun s=>PZ s
theorem UK (live:Option lU) (s:Ss):(Qa live s).V=Fz live s.V:=by unfold Qa Fz;split;{rfl};{rw[HL,UE,WB]}
theorem zdf (s:Ss) (d:Nat) (v:PV):Ss.V {s with tm:=(d,v) :: s.tm}={s.V with tmps:=s.V.tmps.set d v}:=by
 unfold Ss.V;dsimp only
 rw[VC]
theorem st_ob (s:Ss) (d:Nat) (v:lY):Ss.V {s with ob:=(d,v) :: s.ob}={s.V with mi:=s.V.mi.set d v}:=by
 unfold Ss.V;dsimp only
 rw[VC]
def putS (s:Ss) (J:Nm) (o:Ob):Ss:=match Nat.blt J.1 s.no with
 | true=>{s with ob:=(J.1,(BA [] s.ob J.1).set J.2 o) :: s.ob}
 | false=>s
theorem putS_eq (s:Ss) (J:Nm) (o:Ob):(putS s J o).V={s.V with mi:=AR s.V.mi J o}:=by unfold putS AR;rw[show s.V.mi[J.1]?=if J.1 < s.no then some (BA [] s.ob J.1) else none from HD _ _ _ _,Ix];by_cases h:J.1 < s.no;{simp only[h,lz,lq];rw[st_ob]};{simp only[h,lC,lm]}
def zdg (J m:Nm):Option lV:=match Nat.beq m.1 J.1 with
 | true=>(match Nat.beq m.2 J.2 with
  | true=>some none
  | false=>none)
 | false=>none
theorem zdh (J:Nm):zdg J=fun m=>if m=J then some none else none:=by
 funext m;obtain⟨a,b⟩:=m;obtain⟨c,d⟩:=J;unfold zdg;cases U:Nat.beq a c with
 | false=>have:=kS U;simp[this]
 | true =>
  cases H:Nat.beq b d with
  | false=>have:=kS H;simp[this]
  | true=>simp[i7 U,i7 H]
def zdi (o:Al):Bool:=o.mX.isEmpty&&o.gone.isEmpty&&o.nh.isEmpty&&o.slot.isNone
def updS (s:Ss) (o:Al):Ss:=match o.nf with
 | some (J,ob)=>putS s J ob
 | none=>s
def Qo (s:Ss) (o:Al):Ss:=match o.kill with
 | some J=>subS (zdg J) s
 | none=>s
def N4 (s:Ss) (dst:lT) (o:Al):Ss:=match VJ o with
 | true=>(match dst with
  | some d=>{s with tm:=(d,o.v) :: s.tm}
  | none=>s)
 | false=>match zdi o with
  | true=>Fb (Qo (updS s o) o) fun s=>(match dst with
   | some d=>(match o.new with
    | []=>{s with tm:=(d,o.v) :: s.tm}
    | a :: ar=>{s with tm:=(d,o.v) :: s.tm,ob:=(d,a :: ar) :: s.ob})
   | none=>s)
  | false=>Ss.of (apply s.V dst o)
def Lx (u:Option (Nm×Ob)) (V:St):St:=match u with
 | some (J,ob)=>{V with mi:=AR V.mi J ob}
 | none=>V
def La (k:Option Nm) (V:St):St:=match k with
 | some J=>CF (fun m=>if m=J then some none else none) V
 | none=>V
theorem updS_eq (s:Ss) (o:Al):(updS s o).V=Lx o.nf s.V:=by
 unfold updS Lx;cases o.nf with
 | none=>rfl
 | some p=>exact putS_eq s p.1 p.2
theorem zdj (s:Ss) (o:Al):(Qo s o).V=La o.kill s.V:=by
 unfold Qo La;cases o.kill with
 | none=>rfl
 | some J=>dsimp only;rw[aI,zdh]
theorem zdk (V:St) (dst:lT) (v:PV) (new:lY) (nf:Option (Nm×Ob)) (kill:Option Nm) (io:Bool):apply V dst ⟨v,new,nf,kill,[],[],[],io,none⟩ =
  (match dst with
  | some d=>{La kill (Lx nf V) with tmps:=(La kill (Lx nf V)).tmps.set d v,mi:=if new.isEmpty then (La kill (Lx nf V)).mi else (La kill (Lx nf V)).mi.set d new}
  | none=>La kill (Lx nf V)):=by
 cases dst<;>cases nf<;>cases kill<;>rfl
theorem Rv (s:Ss) (dst:lT) (o:Al):(N4 s dst o).V=apply s.V dst o:=by
 unfold N4;split
 ·rename_i h;rw[<-Rw];unfold Mp;rw[h];cases dst with
  | none=>rfl
  | some d=>simp only[zdf,Vj]
 ·split
  ·rename_i h;rw[HL];obtain⟨v,new,nf,kill,mX,gone,nh,io,slot⟩:=o;simp only[zdi,ie,jY,iS] at h;obtain⟨⟨⟨rfl,rfl⟩,rfl⟩,rfl⟩:=h;rw[zdk];have e:(Qo (updS s ⟨v,new,nf,kill,[],[],[],io,none⟩) ⟨v,new,nf,kill,[],[],[],io,none⟩).V=La kill (Lx nf s.V):=by rw[zdj,updS_eq]
   generalize Qo (updS s ⟨v,new,nf,kill,[],[],[],io,none⟩) ⟨v,new,nf,kill,[],[],[],io,none⟩=q at e;rw[<-e];cases dst with
   | none=>rfl
   | some d =>
    cases new with
    | nil=>exact zdf q d v
    | cons a ar =>
     show Ss.V {q with tm:=(d,v) :: q.tm,ob:=(d,a :: ar) :: q.ob}=_;rw[zdf {q with ob:=(d,a :: ar) :: q.ob},st_ob];rfl
  {rw[HQ]}
def Wa (o:AD) (s:Ss):Bool :=
 if DO o.op then
  match o.dst with
  | some d=>(match Nat.blt d s.no with
   | true=>(BA [] s.ob d).isEmpty
   | false=>false)
  | none=>match o.op with
   | .call _ _=>true
   | _=>false
 else true
theorem xY (o:AD) (s:Ss):Wa o s=Ce o s.V:=by
 unfold Wa Ce;split
 ·cases o.dst with
  | none=>rfl
  | some d =>
   dsimp only
   rw[show s.V.mi[d]?=if d < s.no then some (BA [] s.ob d) else none from HD _ _ _ _,Ix];by_cases h:d < s.no;{simp only[h,lz,lq];cases BA [] s.ob d<;>rfl};{simp only[h,lC,lm]}
 {rfl}
section ops
variable (M:AK) {E:Type} (h:AF E) (dep:Nat) (ops:l8)
def outS (o:AD) (s:Ss) (e:E):Option (Al×E) :=
 Av (Wa o s) (match o.op with
  | .call f args=>match Cj M h dep (o.dst.getD 0) (IQ s) [] (f.evS s) (args.map (RX.evS s)) e with
   | some (out,e)=>Av (Jv o.dst out) (some (out,e))
   | none=>none
  | op=>match exec (o.dst.getD 0) (IQ s) [] (op.oB (RX.evS s)) with
   | some out=>some (out,e)
   | none=>none)
theorem aS (o:AD) (s:Ss) (e:E):outS M h dep o s e=By M h dep o s.V e:=by
 unfold outS By;rw[xY,Pd,evS_eq];congr 1;cases o.op with
 | call f args=>have hc:=Wr M h dep (o.dst.getD 0) (Ac s.V.mi) s.V.tmps f args e;simp only[hc]<;>rfl
 | _=>simp only[XU]<;>rfl
def Se (o:AD) (s:Ss):Option Bool :=
 match o.guard with
 | none=>some true
 | some (j,want) =>
  match Hm ops j with
  | some p=>match p.dst with
   | some d=>match s.t d with
    | .bool b=>some (b==want)
    | .mn []=>some false
    | _=>none
   | none=>none
  | none=>none
theorem Ya (o:AD) (s:Ss):Se ops o s=BO ops o s.V.tmps:=by unfold Se BO;simp only[HC,J3]<;>rfl
def SZ (o:AD) (s:Ss) (e:E):Option (Ss×E) :=
 match Se ops o s with
 | some true=>match outS M h dep o s e with
  | some (out,e)=>xV (SK o.op) out fun out=>some (N4 s o.dst out,e)
  | none=>none
 | some false=>some (N4 s o.dst {v:=.mn []},e)
 | none=>none
def D2 {E:Type} (q:Ss×E):St×E:=(q.1.V,q.2)
theorem zdl (o:AD) (s:Ss) (e:E):(SZ M h dep ops o s e).map D2=stepG M h dep ops o s.V e:=by
 unfold SZ stepG IA;rw[Ya,aS];cases BO ops o s.V.tmps with
 | none=>rfl
 | some b =>
  cases b with
  | true =>
   cases By M h dep o s.V e with
   | none=>rfl
   | some p=>simp only[R5,iu,D2,Rv]
  | false=>simp only[iu,D2,Rv]
def MJ:l8->Ss->E->Option (Ss×E)
 | [],s,e=>some (s,e)
 | o :: rest,s,e=>match SZ M h dep ops o s e with
  | some (s,e)=>MJ rest s e
  | none=>none
theorem Vl:∀ (l:l8) (s:Ss) (e:E),(MJ M h dep ops l s e).map D2=Dy M h dep ops l s.V e
 | [],_,_=>rfl
 | o :: l,s,e=>by
  simp only[MJ,Dy];rw[<-zdl];cases SZ M h dep ops o s e with
  | none=>rfl
  | some p=>exact Vl l p.1 p.2
def rnS (o:AD) (s:Ss) (out:Al):lW :=
 if D7 o.op&&Bb out then [] else AI (IQ s) (FG o.op (Bb out)) (Ar (o.op.Z.map (RX.evP s))++out.mX)
def yldS (op:An) (s:Ss):Bool :=
 match op with
 | .call f args=>match f.evP s with
  | .mF _=>(Ar (args.map (RX.evP s))).isEmpty
  | _=>false
 | _=>false
def zdm (i:Nat) (o:AD) (s:Ss) (out:Al):Bk :=
 let A:=o.op.Z.map (RX.evP s)
 {i,dst:=o.dst,reads:=Jt o.op.Z++CB ops o,rn:=rnS o s out,rv:=if KR o.op then [] else Gk (IQ s) (rnS o s out),
  cls:=if C4 o.op&&A5 A then (if yldS o.op s then .calls else .other) else if Bb out then .quiet else if CM out then .turns else if FR out then .ios else .other,
  on:=out.v.names++out.new.flatMap Ob.names,tch:=EE out++(out.mX++out.kill.toList),mX:=!(out.mX++out.kill.toList).isEmpty,
  vn:=(Jt o.op.Z++CB ops o).flatMap fun i=>(s.t i).names
  nw:=out.new.isEmpty&&!DO o.op,ld:=Hl o.op s.V.tmps out.v,pr:=out.nh.map fun p=>(p.1,IQ s p.1),aft:=out.nh,V:=I5 o.dst o.op s.V.tmps,sl:=out.slot.map fun r=>(r,(s.V.mi.getD r []).length)}
theorem zdn (i:Nat) (o:AD) (s:Ss) (out:Al):zdm ops i o s out=CN ops i o s.V out:=by unfold zdm CN rnS CI yldS FU;simp only[SI,Pd,J3]<;>rfl
def Sh (i:Nat) (o:AD) (s:Ss) (e:E):Option (Ss×E×Bk) :=
 match Se ops o s with
 | some true=>match outS M h dep o s e with
  | some (out,e)=>xV (SK o.op) out fun out=>some (N4 s o.dst out,e,zdm ops i o s out)
  | none=>none
 | some false=>some (N4 s o.dst {v:=.mn []},e,{i,cls:=.quiet,dst:=o.dst,reads:=CB ops o,rn:=[],vn:=(CB ops o).flatMap fun i=>(s.t i).names,nw:=!DO o.op})
 | none=>none
def D3 {E:Type} (q:Ss×E×Bk):St×E×Bk:=(q.1.V,q.2)
theorem xZ (i:Nat) (o:AD) (s:Ss) (e:E):(Sh M h dep ops i o s e).map D3=IL M h dep ops i o s.V e:=by
 unfold Sh IL A3;rw[Ya,aS];cases BO ops o s.V.tmps with
 | none=>rfl
 | some b =>
  cases b with
  | true =>
   cases By M h dep o s.V e with
   | none=>rfl
   | some p=>simp only[R5,iu,D3,Rv,zdn]
  | false=>simp only[iu,D3,Rv,J3]
def Qe:List (Nat×Nat)->List Bk->Ss->E->Option (Ss×E)
 | [],_,s,e=>some (s,e)
 |(i,pr) :: rest,infos,s,e=>match Hm ops i with
  | some o=>match Sh M h dep ops i o s e with
   | some (s,e,info)=>Av (infos.all fun j=>pr.testBit j.i||HS j info) (Qe rest (info :: infos) s e)
   | none=>none
  | none=>none
theorem bL (b:Bool) (x:Option α) (f:α->β):(Av b x).map f=Av b (x.map f):=by cases b<;>rfl
theorem Zz:∀ (l:List (Nat×Nat)) (infos:List Bk) (s:Ss) (e:E),(Qe M h dep ops l infos s e).map D2=FA M h dep ops l infos s.V e
 | [],_,_,_=>rfl
 |(i,pr) :: l,infos,s,e=>by
  simp only[Qe,FA,HC];cases ops[i]? with
  | none=>rfl
  | some o =>
   dsimp only
   rw[<-xZ];cases Sh M h dep ops i o s e with
   | none=>rfl
   | some p =>
    show (Av _ _).map D2=Av _ _;rw[bL,Zz l]
end ops
def JV (m:Nat):List (Nat×PV)->Bool
 | []=>true
 | p :: l=>match p.2 with
  | .arr J _ _ _=>(match Do m p.1 with
   | true=>(match Nat.beq J.1 p.1 with
    | true=>(match J.2 with
     | 0=>JV m l
     | _+1=>false)
    | false=>false)
   | false=>JV m l)
  | _=>JV m l
theorem gK (h:JV m (p :: l)=true):JV m l=true:=by
 simp only[JV] at h
 repeat' split at h
 all_goals first | exact h | cases h
theorem XL (mT:lU) (t:Nat) (ht:mT.contains t=true):∀ (l:List (Nat×PV)),JV (Es mT) l=true->∀ J k o n,BA .undef l t=.arr J k o n->J=(t,0)
 | [],_,_,_,_,_,h=>by rw[O3] at h;cases h
 |(j,x) :: l,h,J,k,o,n,hf=>by
  rw[Ec] at hf;by_cases hj:j=t
  ·subst hj;rw[lu rfl] at hf;have hf:x=.arr J k o n:=hf;subst hf;obtain⟨a,b⟩:=J;simp only[JV,Ky] at h;rw[show mT.contains j=true from ht] at h;dsimp only at h;cases hb:Nat.beq a j with
   | false=>rw[hb] at h;cases h
   | true =>
    rw[hb] at h;cases b with
    | zero=>rw[i7 hb]
    | succ b=>cases h
  {rw[lr hj] at hf;exact XL mT t ht l (gK h) J k o n hf}
def Tg (s:Ss) (t:Nat):Bool:=match Nat.ble Fh t with
 | true=>(match s.t (t%Fh) with
  | .ref J o=>(match IQ s J with
   | some (.cells _ cs)=>(match Hm cs (o+(t / Fh - 1)) with
    | some .mu=>false
    | some (.arr m _ _ _)=>Nat.beq m.1 J.1
    | _=>true)
   | _=>true)
  | _=>true)
 | false=>(match s.t t with
  | .mu=>false
  | _=>true)
theorem zdo (s:Ss) (t k:Nat) (h:Tg s t=true):GO t k s.V=s.V:=by
 unfold Tg at h;unfold GO;by_cases hg:Fh<=t
 ·rw[lu hg];rw[show Nat.ble Fh t=true from Nat.ble_eq_true_of_le hg] at h;dsimp only at h;rw[J3,Pd] at h;unfold Oq;split
  ·rename_i J o O;rw[O] at h;dsimp only at h;split
   ·rename_i ty cs hl;rw[hl] at h;dsimp only at h;rw[HC] at h;unfold Nn;dsimp only
    split;{rename_i hc;rw[hc] at h;cases h};{rename_i m _ _ _ hc;rw[hc] at h;rw[lr fun q=>q (i7 h)]};{rfl}
   {rfl}
  {rfl}
 {rw[lr hg];rw[show Nat.ble Fh t=false by cases hq:Nat.ble Fh t with | false=>rfl | true=>exact lH (ig hq) hg] at h;dsimp only at h;rw[J3] at h;split;{rename_i O;rw[O] at h;cases h};{rfl}}
theorem Z4 (s:Ss):∀ grow:List (Nat×Nat),(grow.all fun p=>Tg s p.1)=true->grow.foldl (fun V (t,k)=>GO t k V) s.V=s.V
 | [],_=>rfl
 |(t,k) :: l,h=>by
  simp only[jp,ie] at h;rw[jy];show l.foldl _ (GO t k s.V)=_;rw[zdo s t k h.1];exact Z4 s l h.2
def VT (mT:lU) (grow:List (Nat×Nat)) (s:Ss):Ss:=match JV (Es mT) s.tm&&grow.all fun p=>Tg s p.1 with
 | true=>s
 | false=>Ss.of (JR mT grow s.V)
theorem ya (mT:lU) (grow:List (Nat×Nat)) (s:Ss):(VT mT grow s).V=JR mT grow s.V:=by unfold VT;split;{rename_i h;rw[ie] at h;unfold JR;rw[TV s.V mT fun t ht J k o n e=>?_,Z4 s grow h.2];rw[show s.V.tmps=Ct .undef s.nt s.tm from rfl,Pl] at e;split at e;{exact XL mT t (by simpa using ht) s.tm h.1 J k o n e};·cases e};{rw[HQ]}
theorem TS (V:St) (i:Nat):i∈mQ V↔∃ v,V.tmps[i]?=some v/\B2 v=true:=by unfold mQ;simp only[ii,ju];constructor;{rintro ⟨⟨v,j⟩,⟨U,H⟩,h3⟩;have h3:j=i:=h3;subst h3;rw[iY] at U;exact⟨v,U,H⟩};{rintro ⟨v,U,H⟩;exact⟨(v,i),⟨by rw[iY];exact U,H⟩,rfl⟩}
theorem dR (V:St):GG (mQ V) V=V:=by
 unfold GG
 have:(V.tmps.zipIdx.map fun (v,i)=>if (mQ V).contains i then .undef else v)=V.tmps:=by
  apply jc;intro i;rw[L5];cases hv:V.tmps[i]? with
  | none=>rfl
  | some v =>
   show some (if (mQ V).contains i=true then .undef else v)=some v;by_cases hc:(mQ V).contains i=true;{obtain⟨w,U,H⟩:=(TS V i).1 (by simpa using hc);rw[hv] at U;cases U;rw[lu hc,Il v H]};{rw[lr hc]}
 rw[this]
def Qf (mT:lU) (grow:List (Nat×Nat)) (s:Ss):Ss:=Fb (VT mT grow s) fun s=>PZ s
theorem ZN (mT:lU) (grow:List (Nat×Nat)) (s:Ss):(Qf mT grow s).V=norm mT grow s.V:=by unfold Qf norm drop;rw[HL,UE,ya,dR]
def LE (s:Ss):lU:=(Ek B2 0 s.tm).map (·.1)
theorem ai (s:Ss) (i:Nat):i∈LE s↔B2 (BA .undef s.tm i)=false:=by
 have hb:∀ i,Do 0 i=false:=fun i=>by rw[Ku];simp
 unfold LE;simp only[ii];constructor;{rintro ⟨⟨j,x⟩,U,H⟩;have H:j=i:=H;subst H;rw[Im Il rfl] at U;rw[U.2.1];exact U.1};{intro h;exact⟨(i,BA .undef s.tm i),by rw[Im Il rfl];exact⟨h,rfl,hb i⟩,rfl⟩}
def zdp (s0 s1:Ss):Ss:=match Nat.beq s0.nt s1.nt with
 | true=>Fb (Rc (LE s0) s1) fun s=>PZ s
 | false=>Ss.of (drop (mQ s0.V) s1.V)
theorem zdq (s0 s1:Ss):(zdp s0 s1).V=drop (mQ s0.V) s1.V:=by
 unfold zdp;split
 ·rename_i h;have h:=i7 h;unfold drop;rw[HL,UE,WB]
  have:GE (LE s0) s1.V=GG (mQ s0.V) s1.V:=by
   unfold GE GG
   have:(s1.V.tmps.zipIdx.map fun (v,i)=>if (LE s0).contains i then v else .undef)=s1.V.tmps.zipIdx.map fun (v,i)=>if (mQ s0.V).contains i then .undef else v:=by
    apply jc;intro i;rw[L5,L5];cases hv:s1.V.tmps[i]? with
    | none=>rfl
    | some v =>
     have hi:i < s0.nt:=by have U:=(ix.1 hv).1;rw[show s1.V.tmps.length=s1.nt from Jz _ _ _] at U;omega
     show some (if (LE s0).contains i=true then v else .undef)=some (if (mQ s0.V).contains i=true then .undef else v);have h0:s0.V.tmps[i]?=some (BA .undef s0.tm i):=by rw[show s0.V.tmps=Ct .undef s0.nt s0.tm from rfl,HD,lu hi]
     cases hq:B2 (BA .undef s0.tm i) with
     | true =>
      have a:¬ (LE s0).contains i=true:=fun hc=>by have:=(ai s0 i).1 (by simpa using hc);rw[hq] at this;cases this
      have b:(mQ s0.V).contains i=true:=by have:i∈mQ s0.V:=(TS _ i).2 ⟨_,h0,hq⟩;simpa using this
      rw[lr a,lu b]
     | false =>
      have a:(LE s0).contains i=true:=by have:=(ai s0 i).2 hq;simpa using this
      have b:¬ (mQ s0.V).contains i=true:=fun hc=>by obtain⟨w,U,H⟩:=(TS _ i).1 (by simpa using hc);rw[h0] at U;cases U;rw[hq] at H;cases H
      rw[lu a,lr b]
   rw[this]
  rw[this]
 {rw[HQ]}
def B5 (M:AK) (fuel:Nat):A1->{E:Type}->AF E->Nat->Ss->E->Option (Ex×Ss×E)
 | .skip,_,_,_,s,e=>some (.normal,s,e)
 | .region ops none AP,_,h,dep,s,e=>match MJ M h dep ops ops (HE (BI ops) s) e with
  | some (s,e)=>Fb (Qa AP s) fun s=>some (.normal,s,e)
  | none=>none
 | .region ops (some pr) AP,_,h,dep,s,e=>match Qe M h dep ops pr [] (HE (BI ops) s) e with
  | some (s,e)=>Fb (Qa AP s) fun s=>some (.normal,s,e)
  | none=>none
 | .seq a b,_,h,dep,s,e=>match B5 M fuel a h dep s e with
  | some (.normal,s,e)=>B5 M fuel b h dep s e
  | r=>r
 | .cond c a b,_,h,dep,s,e=>match c.evP s with
  | .bool true=>B5 M fuel a h dep s e
  | .bool false=>B5 M fuel b h dep s e
  | _=>none
 | .block id body,_,h,dep,s,e=>match B5 M fuel body h dep s e with
  | some (.exit pw,s,e)=>if pw=id then some (.normal,s,e) else some (.exit pw,s,e)
  | r=>r
 | .loop mT grow body,E,h,dep,s,e=>Fb (Qf mT grow s) fun s0 =>
  match Dx (fun (q:Ss×E)=>match B5 M fuel body h dep q.1 q.2 with
   | some (.normal,s1,e)=>Fb (zdp s0 s1) fun s1=>Fb (Qf mT grow s1) fun s=>some (.inl (s,e))
   | some (x,s,e)=>some (.inr (x,s,e))
   | none=>none) fuel (s0,e) with
  | some (x,s,e)=>some (x,s,e)
  | none=>none
 | .scope body,_,h,dep,s,e=>match B5 M fuel body h dep s e with
  | some (.exit id,s,e)=>if id < B4 then some (.exit id,s,e) else none
  | r=>r
 | .norm grow,_,_,_,s,e=>Fb (Ss.of (norm [] grow (trim s.V))) fun s=>some (.normal,s,e)
 | .rangeFunc f ps a b,_,h,dep,s,e=>match DC M fuel (.rangeFunc f ps a b) h dep s.V e with
  | some (x,V,e)=>Fb (Ss.of V) fun s=>some (x,s,e)
  | none=>none
 | .exit id,_,_,_,s,e=>some (.exit id,s,e)
 | .ret,_,_,_,s,e=>some (.ret,s,e)
 | .pZ _ _ _ _,_,_,_,_,_=>none
 | .bad,_,_,_,_,_=>none
def DE {E:Type} (q:Ex×Ss×E):Ex×St×E:=(q.1,q.2.1.V,q.2.2)
def mapR {σ τ:Type} (d:σ->τ):Sum σ (Ex×σ)->Sum τ (Ex×τ)
 | .inl s=>.inl (d s)
 | .inr p=>.inr (p.1,d p.2)
theorem Xm {σ τ:Type} {f:σ->Option (Sum σ (Ex×σ))} {g:τ->Option (Sum τ (Ex×τ))} (d:σ->τ)
  (h:∀ s,g (d s)=(f s).map (mapR d)):∀ (n:Nat) (s:σ),Dx g n (d s)=(Dx f n s).map fun p=>(p.1,d p.2)
 | 0,_=>rfl
 | n+1,s=>by
  simp only[Dx];rw[h s];cases f s with
  | none=>rfl
  | some r =>
   cases r with
   | inl s=>exact Xm d h n s
   | inr p=>rfl
theorem zdr {E:Type} {F:Ss×E->Option (Sum (Ss×E) (Ex×Ss×E))} {G:St×E->Option (Sum (St×E) (Ex×St×E))}
  (h:∀ q,G (D2 q)=(F q).map (mapR D2)) (n:Nat) (q:Ss×E) :
  Option.map DE (match Dx F n q with
   | some (x,s,e)=>some (x,s,e)
   | none=>none)=match Dx G n (D2 q) with
   | some (x,V,e)=>some (x,V,e)
   | none=>none:=by
 rw[Xm D2 h];cases Dx F n q<;>rfl
theorem GZ (M:AK) (fuel:Nat):∀ (c:A1) {E:Type} (h:AF E) (dep:Nat) (s:Ss) (e:E),(B5 M fuel c h dep s e).map DE=Az M fuel c h dep s.V e
 | .skip,_,_,_,_,_ | .exit _,_,_,_,_,_ | .ret,_,_,_,_,_ | .bad,_,_,_,_,_ | .pZ _ _ _ _,_,_,_,_,_=>by simp only[B5,Az]<;>rfl
 | .rangeFunc f ps a b,_,h,dep,s,e=>by
  simp only[B5,Hv];cases Az M fuel (.rangeFunc f ps a b) h dep s.V e with
  | none=>rfl
  | some p =>
   obtain⟨x,V,e⟩:=p;simp only[HL,iu,DE,HQ]
 | .norm grow,_,_,_,s,e=>by simp only[B5,Az,HL,iu,DE,HQ]
 | .region ops none AP,_,h,dep,s,e=>by
  simp only[B5,Az];have hr:=Vl M h dep ops ops (HE (BI ops) s) e;rw[Ua] at hr;rw[<-hr];cases MJ M h dep ops ops (HE (BI ops) s) e with
  | none=>rfl
  | some p=>simp only[HL,iu,DE,D2,UK]
 | .region ops (some pr) AP,_,h,dep,s,e=>by
  simp only[B5,Az];have hr:=Zz M h dep ops pr [] (HE (BI ops) s) e;rw[Ua] at hr;rw[<-hr];cases Qe M h dep ops pr [] (HE (BI ops) s) e with
  | none=>rfl
  | some p=>simp only[HL,iu,DE,D2,UK]
 | .seq a b,_,h,dep,s,e=>by
  simp only[B5,Az];rw[<-GZ M fuel a];cases B5 M fuel a h dep s e with
  | none=>rfl
  | some p =>
   obtain⟨x,s1,e1⟩:=p;cases x with
   | normal=>exact GZ M fuel b h dep s1 e1
   | exit id=>rfl
   | ret=>rfl
 | .cond c a b,_,h,dep,s,e=>by
  simp only[B5,Az,SI];cases c.ev s.V.tmps with
  | bool x=>cases x with
   | true=>exact GZ M fuel a h dep s e
   | false=>exact GZ M fuel b h dep s e
  | _=>rfl
 | .block id b,_,h,dep,s,e=>by
  simp only[B5,Az];rw[<-GZ M fuel b];cases B5 M fuel b h dep s e with
  | none=>rfl
  | some p =>
   obtain⟨x,s1,e1⟩:=p;cases x with
   | normal=>rfl
   | exit pw =>
    simp only[iu,DE];split<;>rfl
   | ret=>rfl
 | .scope b,_,h,dep,s,e=>by
  simp only[B5,Az];rw[<-GZ M fuel b];cases B5 M fuel b h dep s e with
  | none=>rfl
  | some p =>
   obtain⟨x,s1,e1⟩:=p;cases x with
   | normal=>rfl
   | exit pw =>
    simp only[iu,DE];split<;>rfl
   | ret=>rfl
 | .loop mT grow b,E,h,dep,s,e=>by
  simp only[B5,Az,HL];rw[<-ZN];generalize Qf mT grow s=s0;refine zdr (fun q=>?_) fuel (s0,e);dsimp only [D2];rw[<-GZ M fuel b];cases B5 M fuel b h dep q.1 q.2 with
  | none=>rfl
  | some p =>
   obtain⟨x,s1,e1⟩:=p;cases x with
   | normal=>simp only[iu,DE,mapR,D2,ZN,zdq]
   | exit id=>rfl
   | ret=>rfl
def zds (nt:Nat) (A:lS) (s:Ss):Ss:={s with kn:=A.length+(nt - A.length)+s.kn,kp:=Ew B2 0 A++s.kp.map fun p=>(p.1+(A.length+(nt - A.length)),p.2)}
theorem Y3 {α:Type} (d:α) (i:Nat):∀ (l l':List (Nat×α)),(∀ p∈l',p.1≠i)->BA d (l++l') i=BA d l i
 | [],l',h=>by
  induction l' with
  | nil=>rfl
  | cons p l' ih =>
   rw[jz,Ec,lr (h p iw)];exact ih fun q hq=>h q (iA _ hq)
 | p :: l,l',h=>by rw[ki,Ec,Ec,Y3 d i l l' h]
theorem XS {α:Type} (d:α) (i:Nat):∀ (l l':List (Nat×α)),(∀ p∈l,p.1≠i)->BA d (l++l') i=BA d l' i
 | [],l',h=>rfl
 | p :: l,l',h=>by rw[ki,Ec,lr (h p iw),XS d i l l' fun q hq=>h q (iA _ hq)]
theorem W0 {α:Type} (d:α) (k i:Nat):∀ (l:List (Nat×α)),BA d (l.map fun p=>(p.1+k,p.2)) (i+k)=BA d l i
 | []=>rfl
 | p :: l=>by
  rw[iE,Ec,Ec,W0 d k i l];by_cases h:p.1=i;{simp[h]};{rw[lr h,lr fun e=>h (by dsimp only at e;omega)]}
theorem aW {α:Type} (e:α->Bool):∀ (l:List α) (i:Nat),∀ p∈Ew e i l,p.1 < i+l.length
 | [],i,p,h=>by simp[Ew] at h
 | x :: Z,i,p,h=>by
  have ih:=aW e Z (i+1) p;simp only[Ew] at h;simp only[iM];split at h;{have:=ih h;omega};{rcases im.1 h with rfl | h;{show i < _;omega};{have:=ih h;omega}}
theorem zdt (nt:Nat) (A:lS) (s:Ss):(zds nt A s).V=Oc nt A s.V:=by
 have hk:Ct .undef (A.length+(nt - A.length)+s.kn) (Ew B2 0 A++s.kp.map fun p=>(p.1+(A.length+(nt - A.length)),p.2))=A++List.replicate (nt - A.length) .undef++Ct .undef s.kn s.kp:=by refine HM (by simp[Jz,ke]) fun i hi=>?_;by_cases h:i < A.length+(nt - A.length);{rw[Y3 _ _ _ _ (fun p hp=>by obtain⟨q,_,rfl⟩:=ii.1 hp;show q.1+(A.length+(nt - A.length))≠i;omega),LQ Il,lr (by omega),kM,ip,jd (by simp;omega)];by_cases H:i < A.length;{rw[jd H,iG H];rfl};{rw[js (by omega),kL,lu (by omega),i6 (l:=A) (by omega)];rfl}};{obtain⟨j,rfl⟩:∃ j,i=j+(A.length+(nt - A.length)):=⟨i - (A.length+(nt - A.length)),by omega⟩;rw[XS _ _ _ _ (fun p hp=>by have:=aW B2 A 0 p hp;omega),W0,js (by simp)];simp only[iQ,List.length_replicate];rw[show j+(A.length+(nt - A.length)) - (A.length+(nt - A.length))=j by omega,HD,lu (by omega)]}
 unfold zds Oc Ss.V;dsimp only
 rw[hk]
def S1 (s:Ss):F7->mc
 | .tmp t=>some (s.t t)
 | .cell t n ag=>match s.t t with
  | .ref J o=>match IQ s J with
   | some (.cells _ cs)=>Cd cs o n ag
   | _=>none
  | _=>none
def KG (s:Ss):List F7->Option lS
 | []=>some []
 | r :: rs=>match S1 s r,KG s rs with
  | some v,some A=>some (v :: A)
  | _,_=>none
theorem zdu (s:Ss) (r:F7):S1 s r=HW s.V r:=by
 cases r with
 | tmp t=>simp only[S1,HW,J3]
 | cell t n ag=>simp only[S1,HW,J3,Pd]<;>rfl
theorem OV (s:Ss):∀ rs:List F7,KG s rs=Dl s.V rs
 | []=>rfl
 | r :: rs=>by
  simp only[KG,Dl,zdu,OV s rs]<;>rfl
def handS (shut:Bool) (σ:Nm->lV) (v:PV):Option (PV×lY) :=
 let S:=HF shut v
 let R:=AI σ AG (v.names.filter fun J=>!S.contains J)
 let S:=if C0 S&&S.all (fun J=>!R.contains J) then S else []
 let R:=AI σ AG (v.names.filter fun J=>!S.contains J)
 let v:=(v.sub fun J=>if S.contains J then none else A7 σ J).mz (JM S)
 match S.mapM σ with
 | some obs=>Av (B3 σ R&&obs.all JU) (some (v,obs.map Ob.bare))
 | none=>none
theorem zdv (shut:Bool) (V:St) (v:PV):handS shut (Ac V.mi) v=Jp shut V v:=rfl
def zdw (M:AK) (n:Nat) (mq:lL->l6):Ha:=fun _ h dep f args e =>
 match mq f with
 | none=>none
 | some fn=>Dt false args fun args =>
  match B5 M n fn.code h dep (Ss.frame fn.nt args) e with
  | some (x,s,e) =>
   match x with
   | .exit _=>none
   | _=>match KG s fn.res with
    | some A=>match handS fn.shut (IQ s) (EL A) with
     | some (v,obs)=>fV true v fun v=>fObs true obs fun obs=>some (v,obs,e)
     | none=>none
    | none=>none
  | none=>none
theorem zdx (M:AK) (n:Nat) (mq:lL->l6):zdw M n mq=HN M n mq:=by
 funext E h dep f args e;simp only[zdw,HN,GK];cases mq f with
 | none=>rfl
 | some fn =>
  dsimp only
  rw[<-Z7,<-GZ];cases B5 M n fn.code h dep (Ss.frame fn.nt args) e with
  | none=>rfl
  | some p =>
   obtain⟨x,s,e1⟩:=p;simp only[iu,DE,OV,Pd,zdv,Qu,Vy];cases x<;>rfl
def Ej (M:AK) (fuel nt:Nat):A1->Ss->Option (Ex×Ss×lU)
 | .pZ ops f args live,s=>match MJ M AL 0 ops ops (HE (BI ops) s) () with
  | some (s,_)=>Av (decide (args.length+1<=nt)&&isFn (f.evP s))
    (Fb (Qa live (zds nt (f.evP s :: args.map (RX.evP s)) s)) fun s=>some (.normal,s,[args.length]))
  | none=>none
 | .seq a b,s=>match Ej M fuel nt a s with
  | some (.normal,s,l)=>match Ej M fuel nt b s with
   | some (x,s,l')=>some (x,s,l'++l)
   | none=>none
  | r=>r
 | .cond c a b,s=>match c.evP s with
  | .bool true=>Ej M fuel nt a s
  | .bool false=>Ej M fuel nt b s
  | _=>none
 | .block id body,s=>match Ej M fuel nt body s with
  | some (.exit pw,s,l)=>if pw=id then some (.normal,s,l) else some (.exit pw,s,l)
  | r=>r
 | .scope body,s=>if RG body then none else match Ej M fuel nt body s with
  | some (.exit id,s,l)=>if id < B4 then some (.exit id,s,l) else none
  | r=>r
 | c,s=>match B5 M fuel c AL 0 s () with
  | some (x,s,_)=>some (x,s,[])
  | none=>none
def DL (q:Ex×Ss×lU):Ex×St×lU:=(q.1,q.2.1.V,q.2.2)
theorem Kd (M:AK) (fuel:Nat) (c:A1) (s:Ss):(match B5 M fuel c AL 0 s () with
  | some (x,s,_)=>some (x,s,([]:lU))
  | none=>none).map DL=FS (Az M fuel c AL 0 s.V ()):=by
 rw[<-GZ];cases B5 M fuel c AL 0 s ()<;>rfl
theorem LU (M:AK) (fuel nt:Nat):∀ (c:A1) (s:Ss),(Ej M fuel nt c s).map DL=AX M fuel nt c s.V
 | .pZ ops f args live,s=>by
  simp only[Ej,AX];have hr:=Vl M AL 0 ops ops (HE (BI ops) s) ();rw[Ua] at hr;rw[<-hr];cases MJ M AL 0 ops ops (HE (BI ops) s) () with
  | none=>rfl
  | some p =>
   obtain⟨s1,_⟩:=p;show (Av _ _).map DL=Av _ _;rw[bL,SI];simp only[HL,iu,DL,D2,UK,zdt]
 | .seq a b,s=>by
  simp only[Ej,AX];rw[<-LU M fuel nt a];cases Ej M fuel nt a s with
  | none=>rfl
  | some p =>
   obtain⟨x,s1,l⟩:=p;cases x with
   | normal =>
    show Option.map DL (match Ej M fuel nt b s1 with
     | some (x,s,l')=>some (x,s,l'++l)
     | none=>none)=(match AX M fuel nt b s1.V with
     | some (x,V,l')=>some (x,V,l'++l)
     | none=>none)
    rw[<-LU M fuel nt b];cases Ej M fuel nt b s1<;>rfl
   | exit id=>rfl
   | ret=>rfl
 | .cond c a b,s=>by
  simp only[Ej,AX,SI];cases c.ev s.V.tmps with
  | bool x=>cases x with
   | true=>exact LU M fuel nt a s
   | false=>exact LU M fuel nt b s
  | _=>rfl
 | .block id b,s=>by
  simp only[Ej,AX];rw[<-LU M fuel nt b];cases Ej M fuel nt b s with
  | none=>rfl
  | some p =>
   obtain⟨x,s1,l⟩:=p;cases x with
   | normal=>rfl
   | exit pw =>
    simp only[iu,DL];split<;>rfl
   | ret=>rfl
 | .scope b,s=>by
  simp only[Ej,AX];split;{rfl}
  ·rw[<-LU M fuel nt b];cases Ej M fuel nt b s with
   | none=>rfl
   | some p =>
    obtain⟨x,s1,l⟩:=p;cases x with
    | normal=>rfl
    | exit pw =>
     simp only[iu,DL];split<;>rfl
    | ret=>rfl
 | .skip,s=>Kd M fuel .skip s
 | .region a b c,s=>Kd M fuel (.region a b c) s
 | .loop a b c,s=>Kd M fuel (.loop a b c) s
 | .rangeFunc a b c d,s=>Kd M fuel (.rangeFunc a b c d) s
 | .exit a,s=>Kd M fuel (.exit a) s
 | .ret,s=>Kd M fuel .ret s
 | .norm a,s=>Kd M fuel (.norm a) s
 | .bad,s=>Kd M fuel .bad s
def Kz (g:lU) (nt:Nat) (ins:lY) (A:lS):Ss:=⟨A.length+(nt - A.length),Ew B2 0 A,nt,[(0,ins)],nt,Ew B2 0 (F4 g nt ins.length)⟩
theorem XK (g:lU) (nt:Nat) (ins:lY) (A:lS):(Kz g nt ins A).V=EQ g nt ins A:=by
 have h:=Z7 nt A;unfold Ss.frame Ss.V at h;injection h with U H h3;unfold Kz EQ Ss.V;dsimp only
 rw[U,VC,H,HM (Z:=F4 g nt ins.length) (by simp[F4]) fun i hi=>by rw[LQ Il,lr (by omega),ip,kM,iG (by simpa[F4] using hi)];rfl]
def NX (M:AK) (n:Nat) (fn:Ah) (ins:lY) (A:lS):Option (Ss×PV) :=
 if CU fn.code then Fb (Kz fn.gone fn.nt ins A) fun s0=>match B5 M n fn.code AL 0 s0 () with
  | some (x,s,_) =>
   match x with
   | .exit _=>none
   | _=>match KG s fn.res with
    | some rs=>some (s,EL rs)
    | none=>none
  | none=>none
 else Fb (Kz fn.gone fn.nt ins A) fun s0=>match Ej M n fn.nt fn.code s0 with
  | some (x,s,l) =>
   match x with
   | .exit _=>none
   | _=>match Gz M fn.nt l s.V with
    | some V=>Fb (Ss.of V) fun s=>match KG s fn.res with
     | some rs=>some (s,EL rs)
     | none=>none
    | none=>none
  | none=>none
theorem Uv (M:AK) (n:Nat) (fn:Ah) (ins:lY) (A:lS):(NX M n fn ins A).map (fun q=>(q.1.V,q.2))=Db M n fn ins A:=by
 unfold NX Db;simp only[HL];rw[<-XK];split
 ·rw[<-GZ];cases B5 M n fn.code AL 0 (Kz fn.gone fn.nt ins A) () with
  | none=>rfl
  | some p =>
   obtain⟨x,s,e1⟩:=p;simp only[iu,DE,OV];cases x with
   | exit id=>rfl
   | normal=>dsimp only;cases Dl s.V fn.res<;>rfl
   | ret=>dsimp only;cases Dl s.V fn.res<;>rfl
 ·rw[<-LU];cases Ej M n fn.nt fn.code (Kz fn.gone fn.nt ins A) with
  | none=>rfl
  | some p =>
   obtain⟨x,s,l⟩:=p
   have key:∀ o:Option St,Option.map (fun q:Ss×PV=>(q.1.V,q.2)) (match o with
     | some V=>(match KG (Ss.of V) fn.res with
      | some rs=>some (Ss.of V,EL rs)
      | none=>none)
     | none=>none)=(match o with
     | some V=>(match Dl V fn.res with
      | some rs=>some (V,EL rs)
      | none=>none)
     | none=>none):=fun o=>by
    cases o with
    | none=>rfl
    | some V =>
     dsimp only
     rw[OV,HQ];cases Dl V fn.res with
     | none=>rfl
     | some rs=>simp only[iu,HQ]
   simp only[iu,DL];cases x with
   | exit id=>rfl
   | normal=>exact key _
   | ret=>exact key _
end
end Go.Ab


namespace Go.Ab
variable{M1:AK} {args A:lS} {c:A1} {fn:Ah} {g:lL} {ins:lY} {n:Nat} {p:lL×lY×lS×Ss×PV} {r v:PV} {s s0:Ss}
abbrev Jh:=FuncId->lY->lS->Option (Ss×PV)
noncomputable def Qr (qQ:Jh) (M:AK) (n:Nat) (mq:lL->l6) (f:lL) (dst:Nat) (σ:Nm->lV) (A:lS):l5 :=
 match mq f with
 | none=>none
 | some fn =>
  match (Bt (AI σ AG (Ar A))).mapM σ with
  | none=>none
  | some ins =>
   Av (!A5 A&&B3 σ (Bt (AI σ AG (Ar A)))&&ins.all (fun o=>!o.mV)&&(decide (A.length<=fn.nt)&&decide ((Bt (AI σ AG (Ar A))).length<=fn.nt)&&decide (0 < fn.nt))) (
    match qQ f (ins.map (Ob.mz fun m=>(0,(Bt (AI σ AG (Ar A))).idxOf m))) (AY (fun m=>(0,(Bt (AI σ AG (Ar A))).idxOf m)) A) with
    | some (s,v)=>match JC fn (s.V,v) with
     | some (V,v)=>G4 σ dst (Bt (AI σ AG (Ar A))) V v
     | none=>none
    | none=>match Db M n fn (ins.map (Ob.mz fun m=>(0,(Bt (AI σ AG (Ar A))).idxOf m))) (AY (fun m=>(0,(Bt (AI σ AG (Ar A))).idxOf m)) A) with
     | some p=>match JC fn p with
      | some (V,v)=>G4 σ dst (Bt (AI σ AG (Ar A))) V v
      | none=>none
     | none=>none)
def Tr (sp:lL->(Nm->lV)->lS->l5) (mq:lL->l6) (qQ:Jh):Prop :=
 ∀ g ins A s v fn,mq g=some fn->qQ g ins A=some (s,v)->∃ n,Db (Cb sp mq n) n fn ins A=some (s.V,v)
section
variable {ph:lL->lS->mc} {qQ:Jh} {sp:lL->(Nm->lV)->lS->l5} {mq:lL->l6}
theorem yb (oV:Tr sp mq qQ) (hM:ER M1 (Cb sp mq)) (n:Nat) (g:lL) (dst:Nat) (σ:Nm->lV) (A:lS) (out:Al) (h:Qr qQ M1 n mq g dst σ A=some out) :
  AZ fun k=>F6 (Cb sp mq k) k mq g dst σ A=some out:=by
 unfold Qr at h;unfold F6;cases ht:mq g with
 | none=>rw[ht] at h;cases h
 | some fn =>
  rw[ht] at h;simp only at h |-;cases hm:(Bt (AI σ AG (Ar A))).mapM σ with
  | none=>rw[hm] at h;cases h
  | some ins =>
   rw[hm] at h;simp only at h |-;unfold Av at h |-;split at h
   case isFalse=>cases h
   rename_i hc;simp only[hc,lq];cases hq0:qQ g (ins.map (Ob.mz fun m=>(0,(Bt (AI σ AG (Ar A))).idxOf m))) (AY (fun m=>(0,(Bt (AI σ AG (Ar A))).idxOf m)) A) with
   | some p =>
    rw[hq0] at h;obtain⟨m,qn⟩:=oV _ _ _ p.1 p.2 fn ht hq0;refine (M9 (Va m) m fn _ _ qn).mono fun k hk=>?_;rw[hk];exact h
   | none =>
    rw[hq0] at h;simp only at h;cases hq:Db M1 n fn (ins.map (Ob.mz fun m=>(0,(Bt (AI σ AG (Ar A))).idxOf m))) (AY (fun m=>(0,(Bt (AI σ AG (Ar A))).idxOf m)) A) with
    | none=>rw[hq] at h;cases h
    | some p =>
     rw[hq] at h;refine (M9 hM n fn _ _ hq).mono fun k hk=>?_;rw[hk];exact h
noncomputable def Mn (ph:lL->lS->mc) (qQ:Jh) (sp:lL->(Nm->lV)->lS->l5) (mq:lL->l6):Nat->AK
 | 0=>Cb sp mq 0
 | n+1=>{Cb sp mq 0 with call:=U0 ph (HN (Mn ph qQ sp mq n) n mq),io:=Gx mq (Qr qQ (Mn ph qQ sp mq n) n mq),tk:=JO (Mn ph qQ sp mq n) n mq}
theorem O4 (hm:∀ g args r,ph g args=some r->∃ n,Ei sp mq n Unit AL 0 g args ()=some (r,[],())) (oV:Tr sp mq qQ):∀ n,ER (Mn ph qQ sp mq n) (Cb sp mq):=by
 intro n;induction n with
 | zero=>exact Va 0
 | succ n ih =>
  have hk:=X7 ih n mq;refine ER.u0 ⟨fun k=>rfl,?_,fun k=>rfl,fun k=>rfl,fun k=>rfl,fun g dst σ A out h=>ZY mq (fun g dst σ A out h=>yb oV ih n g dst σ A out h) g dst σ A out h,Ys ih n mq⟩ rfl rfl rfl rfl;intro E1 E2 RE U H hh dep g args e1 e2 he r obs nW h;simp only[Mn,U0] at h;split at h;{rename_i r' hr;cases h;obtain⟨m,qn⟩:=hm g args r hr;obtain⟨_,rfl,a,ha⟩:=T6 m Unit E2 (fun _ e=>e2=e) AL (fun k=>H (k - 1)) (fun _ _ _ _ _ _ _ h=>by cases h) 0 g args () e2 rfl r [] () qn;exact⟨e2,he,a,fun k hk=>ha (k+1) (by omega)⟩};{exact hk E1 E2 RE U H hh _ g args e1 e2 he r obs nW h}
noncomputable def V4 (qQ:Jh) (M:AK) (n:Nat) (mq:lL->l6) (f:lL) (dst:Nat) (σ:Nm->lV) (A:lS):l5 :=
 match mq f with
 | none=>none
 | some fn =>
  fSp (Bt (AI σ AG (Ar A))) fun R =>
  match R.mapM σ with
  | none=>none
  | some ins =>
   Av (!A5 A&&B3 σ R&&ins.all (fun o=>!o.mV)&&(decide (A.length<=fn.nt)&&decide (R.length<=fn.nt)&&decide (0 < fn.nt))) (
    Tj (ins.map (Ob.mz fun m=>(0,R.idxOf m))) fun ins=>Dt false (AY (fun m=>(0,R.idxOf m)) A) fun A =>
    match qQ f ins A with
    | some (s,v)=>match JC fn (s.V,v) with
     | some (V,v)=>G4 σ dst R V v
     | none=>none
    | none=>match NX M n fn ins A with
     | some (s,v)=>match JC fn (s.V,v) with
      | some (V,v)=>G4 σ dst R V v
      | none=>none
     | none=>none)
theorem yc (qQ:Jh) (M:AK) (n:Nat) (mq:lL->l6):V4 qQ M n mq=Qr qQ M n mq:=by
 funext f dst σ A;unfold V4 Qr;simp only[JE,ae,GK];cases mq f with
 | none=>rfl
 | some fn =>
  dsimp only
  cases (Bt (AI σ AG (Ar A))).mapM σ with
  | none=>rfl
  | some ins =>
   dsimp only
   rw[<-Uv];congr 1;cases qQ f (ins.map (Ob.mz fun m=>(0,(Bt (AI σ AG (Ar A))).idxOf m))) (AY (fun m=>(0,(Bt (AI σ AG (Ar A))).idxOf m)) A) with
   | some p=>rfl
   | none =>
    dsimp only
    cases NX M n fn (ins.map (Ob.mz fun m=>(0,(Bt (AI σ AG (Ar A))).idxOf m))) (AY (fun m=>(0,(Bt (AI σ AG (Ar A))).idxOf m)) A)<;>rfl
noncomputable def Dg (ph:lL->lS->mc) (qQ:Jh) (sp:lL->(Nm->lV)->lS->l5) (mq:lL->l6):Nat->AK
 | 0=>Cb sp mq 0
 | n+1=>{Cb sp mq 0 with call:=U0 ph (zdw (Dg ph qQ sp mq n) n mq),io:=Gx mq (V4 qQ (Dg ph qQ sp mq n) n mq),tk:=VN (Dg ph qQ sp mq n) n mq}
theorem MZ (ph:lL->lS->mc) (qQ:Jh) (sp:lL->(Nm->lV)->lS->l5) (mq:lL->l6):∀ n,Dg ph qQ sp mq n=Mn ph qQ sp mq n
 | 0=>rfl
 | n+1=>by simp only[Dg,Mn,MZ ph qQ sp mq n,zdx,yc,xX]
end
def zdy:Ob->Ob->Bool
 | .cells t cs,.cells t' og=>decide (t=t')&&Ca cs og
 | .arr k t Z,.arr k' t' yI=>decide (k=k')&&(decide (t=t')&&Ca Z yI)
 | .map es,.map pq=>Ca es pq
 | _,_=>false
def Sm:lY->lY->Bool
 | [],[]=>true
 | x :: Z,y :: ys=>zdy x y&&Sm Z ys
 | _,_=>false
theorem zdz (x y:Ob) (h:zdy x y=true):x=y:=by unfold zdy at h;split at h;{simp only[ie,lw] at h;rw[h.1,Jn _ _ h.2]};{simp only[ie,lw] at h;rw[h.1,h.2.1,Jn _ _ h.2.2]};{rw[Jn _ _ h]};·cases h
theorem Yo:∀ (Z ys:lY),Sm Z ys=true->Z=ys
 | Z,ys,h=>by
  unfold Sm at h;split at h;{rfl};{rename_i x Z y ys;simp only[ie] at h;rw[zdz x y h.1,Yo Z ys h.2]};{cases h}
abbrev FL:=List (lL×lY×lS×Ss×PV)
def EM:FL->Jh
 | [],_,_,_=>none
 | p :: l,g,ins,A=>if p.1=g/\(Sm p.2.1 ins&&Ca p.2.2.1 A)=true then some p.2.2.2 else EM l g ins A
def EU (sp:lL->(Nm->lV)->lS->l5) (mq:lL->l6) (l:FL):Prop :=
 ∀ p∈l,∀ fn,mq p.1=some fn->∃ n,Db (Cb sp mq n) n fn p.2.1 p.2.2.1=some (p.2.2.2.1.V,p.2.2.2.2)
section
variable {sp:lL->(Nm->lV)->lS->l5} {mq:lL->l6} {l:DS} {li:FL}
theorem Eb:EU sp mq []:=fun _ h=>by cases h
theorem FD (h:∀ fn,mq p.1=some fn->∃ n,Db (Cb sp mq n) n fn p.2.1 p.2.2.1=some (p.2.2.2.1.V,p.2.2.2.2)) (hl:EU sp mq li):EU sp mq (p :: li):=fun q hq=>by rcases im.1 hq with rfl | hq;{exact h};{exact hl q hq}
theorem RD:∀ {li:FL},EU sp mq li->Tr sp mq (EM li)
 | [],_,g,ins,A,s,v,fn,_,h=>by cases h
 | p :: li,hl,g,ins,A,s,v,fn,ht,h=>by
  unfold EM at h;split at h;{rename_i hc;obtain⟨U,H⟩:=hc;simp only[ie] at H;have e1:=Yo _ _ H.1;have e2:=Jn _ _ H.2;obtain⟨n,hn⟩:=hl p iw fn (by rw[U];exact ht);have h3:p.2.2.2=(s,v):=ic h;rw[e1,e2,h3] at hn;exact⟨n,hn⟩};{exact RD (fun q hq=>hl q (iA _ hq)) g ins A s v fn ht h}
theorem At (hl:Dk sp mq l) (hi:EU sp mq li) 
  (h:(Dg (DM l) (EM li) sp mq n).call Unit AL 0 g args ()=some (r,[],())):∃ m,Ei sp mq m Unit AL 0 g args ()=some (r,[],()):=by
 rw[MZ] at h;obtain⟨m,qn⟩:=Q3 (O4 (MX hl) (RD hi) n) g args h;exact⟨m,qn m (ik _)⟩
theorem Te (hl:Dk sp mq l) (hi:EU sp mq li) 
  (h:(NX (Dg (DM l) (EM li) sp mq n) n fn ins A).map (fun q=>(Ss.of q.1.V,q.2))=some (s,v)):∃ m,Db (Cb sp mq m) m fn ins A=some (s.V,v):=by
 have H:=Uv (Dg (DM l) (EM li) sp mq n) n fn ins A;obtain⟨q,hq,hs⟩:=ij.1 h;obtain⟨rfl,rfl⟩:=Prod.mk.inj hs;rw[hq,MZ] at H;obtain⟨m,qn⟩:=M9 (O4 (MX hl) (RD hi) n) n fn ins A H.symm;rw[HQ];exact⟨m,qn m (ik _)⟩
end
section
variable {sp:lL->(Nm->lV)->lS->l5} {mq:lL->l6} {l:DS} {li:FL}
noncomputable def Ic (M:AK) (fuel:Nat):Nat->A1->Ss->Option (A1×Ss)
 | 0,c,s=>some (c,s)
 | k+1,.seq a b,s=>match B5 M fuel a AL 0 s () with
  | some (.normal,s,_)=>Ic M fuel k b s
  | _=>none
 | _+1,_,_=>none
def Da:Nat->A1->A1
 | k+1,.seq _ b=>Da k b
 | _,c=>c
theorem NB (M:AK) (fuel:Nat):∀ (k:Nat) (c:A1) (s s':Ss),(Ic M fuel k c s).map (fun q=>Ss.of q.2.V)=some s'->Az M fuel c AL 0 s.V ()=Az M fuel (Da k c) AL 0 s'.V ():=fun k=>by
 induction k with
 | zero =>
  intro c s s' h;simp only[Ic,iu,il] at h;rw[<-h,HQ];cases c<;>rfl
 | succ k ih =>
  intro c s s' h;cases c with
  | seq a b =>
   simp only[Ic] at h;simp only[Az,Da];split at h;{rename_i s1 u U;have H:=GZ M fuel a AL 0 s ();rw[U] at H;simp only[iu,DE] at H;rw[<-H];exact ih b s1 s' h};{cases h}
  | _=>simp[Ic] at h
noncomputable def endS (fn:Ah) (r:Option (Ex×Ss×Unit)):Option (Ss×PV) :=
 match r with
 | some (x,s,_) =>
  match x with
  | .exit _=>none
  | _=>match KG s fn.res with
   | some rs=>some (s,EL rs)
   | none=>none
 | none=>none
theorem io_cut (hl:Dk sp mq l) (hi:EU sp mq li) (hd:CU fn.code=true)
  (hc:Az (Dg (DM l) (EM li) sp mq n) n fn.code AL 0 (Kz fn.gone fn.nt ins A).V ()=Az (Dg (DM l) (EM li) sp mq n) n c AL 0 s0.V ())
  (h:(endS fn (B5 (Dg (DM l) (EM li) sp mq n) n c AL 0 s0 ())).map (fun q=>(Ss.of q.1.V,q.2))=some (s,v)):∃ m,Db (Cb sp mq m) m fn ins A=some (s.V,v):=by
 have key:Db (Dg (DM l) (EM li) sp mq n) n fn ins A=some (s.V,v):=by
  unfold Db;rw[hd,<-XK];simp only[lq];rw[hc,<-GZ];cases he:B5 (Dg (DM l) (EM li) sp mq n) n c AL 0 s0 () with
  | none=>rw[he] at h;cases h
  | some p =>
   obtain⟨x,s1,u⟩:=p;rw[he] at h;simp only[endS,OV] at h;simp only[iu,DE];cases x with
   | exit id=>cases h
   | _ =>
    dsimp only at h |-;cases hr:Dl s1.V fn.res with
    | none=>rw[hr] at h;cases h
    | some rs =>
     rw[hr] at h;simp only[iu,il,iP] at h;rw[<-h.1,<-h.2,HQ]
 rw[MZ] at key;obtain⟨m,hm⟩:=M9 (O4 (MX hl) (RD hi) n) n fn ins A key;exact⟨m,hm m (ik _)⟩
end
end Go.Ab

