/- Part 8 of a proof: laws of a machine. -/
import Derived.Test.YtpkicjjenbdejaaGreatDoorK05
import Derived.Test.YtpkicjjenbdejaaGreatDoorK03
import Derived.Test.YtpkicjjenbdejaaGreatDoorK04
set_option linter.all false

namespace Go.Ab.fC
open Go Go.Ab
variable{α:Type} {n:Nat} {x:Option α}
theorem TR:AD (.bin .eql .ptr true (.c .gh) (.c .gh))=some (.bool true):=rfl
theorem io5 (x:PV) (H:As x=true):ioO B0 sh5 5 [.gh,x]=some [.str [],.int .i64 1]:=by refine WG (NH fun _=>.cl) (fn:=fn5) rfl (P:=sh5) (Pf:=shs5) rfl (Z:=[]) (obs:=[]) rfl rfl (by simp[Az,As,H]) ?_;rw[run5];simp[AL,TR]
theorem io6 (x:PV) (H:As x=true):ioO B0 sh6 6 [.gh,x]=some [.str [],.int .i64 1]:=by refine WG (NH fun _=>.cl) (fn:=fn6) rfl (P:=sh6) (Pf:=shs6) rfl (Z:=[]) (obs:=[]) rfl rfl (by simp[Az,As,H]) ?_;rw[run6];simp[AL,TR]
theorem yF:BG B0 .cl (.fn 8 []) [.gh]=some .fF:=by refine call (d:=fun _=>.cl) (fn:=fn8) rfl (by decide) rfl rfl ?_;rw[bP,cq,run8,TR,D8];rfl
theorem ZZ (b:UInt8):Ke (.int .u8 b.toNat)=some b:=by
 have h:(b.toNat:Int) < 256:=by have:=b.toNat_lt;omega
 simp only[Ke];rw[eH ⟨Int.natCast_nonneg _,h⟩];simp
theorem UY:∀ s:fp,EM (Bz s)=some s
 | []=>rfl
 | b :: s=>by
  have ih:=UY s;unfold Bz at ih |-;rw[bP];simp only[EM,ZZ,ih]
theorem ZF (s:fp):AD (.ofBytes (.c (.sl 1 (Bz s) false)))=some (.str s):=by simp only[AD,exec,RX.ev,N3,Bool.not_false,Ap,eF,C0,eO,UY]
theorem Nl (s:fp):(Bz s).length=s.length:=by simp[Bz]
theorem byL_app (s t:fp):Bz (s++t)=Bz s++Bz t:=by simp[Bz]
def Ft:fp:=[67,111,110,116,101,110,116,45,76,101,110,103,116,104,58,32]
theorem bj:(List.range 601).all (fun n=>Nat.ble (Ig (n:Nat)).length 3)=true:=by kernel_rfl
theorem yG (h:n<=600):(Ig n).length<=3 :=
 bx (bI.1 bj n (cV.2 (by omega)))
theorem sq (h:n<=600):BG B0 .cl (.fn 13 []) [.int .i64 n]=some (.str (Ig n)):=by refine bp (NH fun _=>.cl) (cap:=[]) ?_ rfl;show Nr [.int .i64 (n:Int)]=_;simp only[Nr];rw[eH ⟨by omega,by omega⟩]
theorem lay_two (a b R:fa) {h:Nat} (hn:n=a.length+b.length) (hh:h=a.length) (hR:R.length=n) :
  List.take n (List.drop 0 ((List.take (0+h) ((List.take 0 R++List.take n a)++List.drop (0+(List.take n a).length) R)++List.take (n - h) b) ++
   List.drop ((0+h)+(List.take (n - h) b).length) ((List.take 0 R++List.take n a)++List.drop (0+(List.take n a).length) R)))=a++b:=by
 subst hn;subst hh;have e1:List.take (a.length+b.length) a=a:=cF (by omega);have e2:List.take (a.length+b.length - a.length) b=b:=cF (by omega);rw[e1,e2];simp only[List.take_zero,dp,bX,dU];rw[List.take_left' rfl];rw[dP (l:=a++List.drop a.length R) (by simp[hR]),dv,cF (by simp)]
theorem mkSO_I (h:n<=1000000):vh (.int .i64 (n:Int)) (.int .i64 (n:Int))=some n:=by
 have:n<=Et:=by unfold Et;omega
 simp[vh,EA,AJ,this]
theorem YK {a b:Nat} (h:a<=b):AJ (decide (a<=b)) x=x:=by rw[decide_eq_true h,WY]
theorem put_run (s:fp) (hs:s≠[]) (U:s.length<=600):BG B0 .cl (.fn 7 []) [.str s]=some (.fM [.str ((((Ft++Ig s.length)++[13,10])++[13,10])++s),.int .i64 0]):=by
 refine call (d:=fun _=>.cl) (fn:=fn7) rfl (by decide) rfl rfl ?_;have O:=yG U;have pY:0 < s.length:=ew.2 hs;have hi:=sq U;generalize Ig (s.length:Nat)=i at O hi |-;have hl:((((Ft++i)++[13,10])++[13,10])).length<=23:=by simp[Ft];omega
 have lQ:0 < ((((Ft++i)++[13,10])++[13,10])).length:=by simp only[ce,ct,ec];omega
 have c1:AD (.bin .add .str true (.c (.str [67,111,110,116,101,110,116,45,76,101,110,103,116,104,58,32])) (.c (.str i)))=some (.str (Ft++i)):=SY _ _ (by unfold J4;simp;omega);have c2:AD (.bin .add .str true (.c (.str (Ft++i))) (.c (.str [13,10])))=some (.str ((Ft++i)++[13,10])):=SY _ _ (by unfold J4;simp[Ft];omega);have c3:AD (.bin .add .str true (.c (.str ((Ft++i)++[13,10]))) (.c (.str [13,10])))=some (.str (((Ft++i)++[13,10])++[13,10])):=SY _ _ (by unfold J4;simp[Ft];omega);rw[bP,cq,run7,Wl,D8,wC,D8,rL,eG (by simp;omega),D8,hi,D8,c1,D8,c2,D8,c3,D8];generalize (((Ft++i)++[13,10])++[13,10])=zzd at hl lQ |-;rw[Wl,D8,D8,wB,D8,show IntKind.i64.wrap ((zzd.length:Int)+(s.length:Int))=((zzd.length+s.length:Nat):Int) by rw[IntKind.wrap_i64];omega,mkSO_I (by omega),D8];rw[show Kd 1 (.str zzd)=some (Bz zzd) from rfl,show Kd 1 (.str s)=some (Bz s) from rfl];simp only[D8,leN_eq,addN_eq,lenL_eq,wF,dR,bX,bD,eK,WY,minN_eq,Nl];rw[show Gk none (zzd.length+s.length) (zzd.length+s.length)=some (zzd.length+s.length) from rfl,D8,show Gk none (zzd.length+s.length) (zzd.length+s.length)=some (zzd.length+s.length) from rfl,D8];rw[show min zzd.length (zzd.length+s.length)=zzd.length by omega,show Gk (some (nI zzd.length)) 0 (zzd.length+s.length)=some zzd.length by simp[Gk,Df,EA,Ap],D8];rw[show sN (zzd.length+s.length) zzd.length=false by rw[eqN_eq];simp;omega];simp only[andB_eq,Bool.false_and,rM,bL,eE,subN_eq,wD,wE,catL_eq];have hlay:=lay_two (Bz zzd) (Bz s) (List.replicate (zzd.length+s.length) (PV.int .u8 0)) (n:=zzd.length+s.length) (h:=zzd.length) (by simp[Nl]) (by simp[Nl]) (by simp);simp only[bX] at hlay;refine (YK ?_).trans ((YK ?_).trans ?_);{simp only[ce,dn,List.length_drop,dR,Nl];omega};{simp only[ce,dn,List.length_drop,dR,Nl];omega};{rw[hlay,<-byL_app,ZF,D8]}
theorem min_str (s:fp):∃ k:Nat,k<=s.length/\k<=600/\AD (.ij false [.c (.int .i64 (s.length:Int)),.c (.int .i64 600)])=some (.int .i64 (k:Int)):=by
 refine⟨min s.length 600,Nat.min_le_left _ _,Nat.min_le_right _ _,?_⟩;simp only[AD,exec,bP,cq,RX.ev,LF];by_cases h:s.length<=600
 ·have:¬ (600:Int) < (s.length:Int):=by omega
  simp[this,cu h,Ap]
 ·have:(600:Int) < (s.length:Int):=by omega
  simp[this,Nat.min_eq_right (by omega:600<=s.length),Ap]
theorem yH (shown:BG B0 .cl (.fn 4 []) []=some (.bool true)) (put0:∃ x,BG B0 .cl (.fn 7 []) [.str []]=some (.fM [.str x,.int .i64 0])/\0 < x.length) (s:fp) :
  G6 (GE B0 fun _=>.cl) fn3 (.cl) Ar 0 [.cv (.str s)] ()=some (.bool true,()):=by
 obtain⟨k,hk,ka,hm⟩:=min_str s;obtain⟨x,e7,H⟩:∃ x,BG B0 .cl (.fn 7 []) [.str (s.take k)]=some (.fM [.str x,.int .i64 0])/\(s.take k).length < x.length:=by by_cases h:s.take k=[];{rw[h];exact put0};{exact⟨_,put_run _ h (by simp;omega),by simp only[ce,ct,ec];omega⟩}
 have e5:=io5 (.str (s.take k)) rfl;have e6:=io6 (.str (s.take k)) rfl;have e8:=yF;unfold sh5 at e5;unfold sh6 at e6;have kb:((s.take k).length:Int) < (x.length:Int):=by omega
 rw[run3,shown];simp[hm,rN hk,e5,e6,e7,e8,AL, -List.length_take,kb]
end Go.Ab.fC


namespace Go.Ab
def S5 (jA:eU->fa->ft) (c:Gq):Gq:=fun E h dep g args e =>
 match dep,jA g args with
 | 0,some r=>some (r,[],e)
 | _,_=>c E h dep g args e
section jA
variable {jA:eU->fa->ft} {sp:eU->(Nm->fe)->fa->fj} {fK:eU->fk}
 (hm:∀ g args r,jA g args=some r->∃ n,AI sp fK n Unit Ar 0 g args ()=some (r,[],()))
include hm
end jA
mutual
def yI:PV->PV->Bool
 | .bool a,.bool b=>a==b
 | .int k n,.int k' n'=>decide (k=k')&&decide (n=n')
 | .str s,.str s'=>decide (s=s')
 | .fF,.fF=>true
 | .fR,.fR=>true
 | .gF,.gF=>true
 | .gh,.gh=>true
 | .ref J o,.ref gP o'=>decide (J=gP)&&decide (o=o')
 | .ptr cs o,.ptr jn o'=>decide (o=o')&&G0 cs jn
 | .agg cs,.agg jn=>G0 cs jn
 | .sl k Z f,.sl k' xs' f'=>decide (k=k')&&(f==f')&&G0 Z xs'
 | _,_=>false
def G0:fa->fa->Bool
 | [],[]=>true
 | x :: Z,y :: ys=>yI x y&&G0 Z ys
 | _,_=>false
end
mutual
theorem yJ:∀ (x y:PV),yI x y=true->x=y
 | x,y,h=>by
  unfold yI at h;split at h;{simpa using h};{simp only[bz,eI] at h;rw[h.1,h.2]};{simp only[eI] at h;rw[h]};{rfl};{rfl};{rfl};{rfl};{simp only[bz,eI] at h;rw[h.1,h.2]};{rename_i cs o jn o';simp only[bz,eI] at h;rw[h.1,HO cs jn h.2]};{rename_i cs jn;rw[HO cs jn h]};{rename_i k Z f k' xs' f';simp only[bz,eI,eJ] at h;rw[h.1.1,h.1.2,HO Z xs' h.2]};{cases h}
theorem HO:∀ (Z ys:fa),G0 Z ys=true->Z=ys
 | Z,ys,h=>by
  unfold G0 at h;split at h;{rfl};{rename_i x Z y ys;simp only[bz] at h;rw[yJ x y h.1,HO Z ys h.2]};{cases h}
end
abbrev EZ:=List (eU×fa×PV)
def DU:EZ->eU->fa->ft
 | [],_,_=>none
 | p :: l,g,args=>if p.1=g/\G0 p.2.1 args=true then some p.2.2 else DU l g args
def Ez (sp:eU->(Nm->fe)->fa->fj) (fK:eU->fk) (l:EZ):Prop :=
 ∀ p∈l,∃ n,AI sp fK n Unit Ar 0 p.1 p.2.1 ()=some (p.2.2,[],())
theorem Fx {sp:eU->(Nm->fe)->fa->fj} {fK:eU->fk}:Ez sp fK []:=fun _ h=>by cases h
variable{l:EZ}
theorem AW {sp:eU->(Nm->fe)->fa->fj} {fK:eU->fk} {g:eU} {args:fa} {r:PV} 
  (h:∃ n,AI sp fK n Unit Ar 0 g args ()=some (r,[],())) (hl:Ez sp fK l):Ez sp fK ((g,args,r) :: l):=fun p hp=>by
 rcases bE.1 hp with rfl | hp;{exact h};{exact hl p hp}
theorem Oz {sp:eU->(Nm->fe)->fa->fj} {fK:eU->fk}:∀ {l:EZ},Ez sp fK l->∀ g args r,DU l g args=some r->∃ n,AI sp fK n Unit Ar 0 g args ()=some (r,[],())
 | [],_,_,_,_,h=>by cases h
 | p :: l,hl,g,args,r,h=>by
  unfold DU at h;split at h
  ·rename_i hp;cases h;have:=hl p bN
   rwa [hp.1,HO _ _ hp.2] at this
  {exact Oz (fun q hq=>hl q (bM _ hq)) g args r h}
end Go.Ab


namespace Go.Ab
variable{α β:Type}
noncomputable section
section BX
variable {R:Type}
def fN (n:Nat) (K:Nat->R):R:=match n with
 | 0=>K 0
 | m+1=>K (Nat.succ m)
def fI (n:Int) (K:Int->R):R:=match n with
 | .ofNat m=>fN m fun m=>K (.ofNat m)
 | .negSucc m=>fN m fun m=>K (.negSucc m)
def fB (b:Bool) (K:Bool->R):R:=match b with
 | true=>K true
 | false=>K false
def fKd (k:eW) (K:eW->R):R:=match k with
 | .i8=>K .i8 | .i16=>K .i16 | .i32=>K .i32 | .i64=>K .i64
 | .u8=>K .u8 | .u16=>K .u16 | .u32=>K .u32 | .u64=>K .u64
def fS:fp->(fp->R)->R
 | [],K=>K []
 | x :: Z,K=>fS Z fun Z=>K (x :: Z)
def fP (p:α×β) (K:α×β->R):R:=match p with
 |(a,b)=>K (a,b)
def fSp {α:Type}:List α->(List α->R)->R
 | [],K=>K []
 | x :: Z,K=>fSp Z fun Z=>K (x :: Z)
mutual
def fV (d:Bool):PV->(PV->R)->R
 | .undef,K=>K .undef
 | .bool b,K=>fB b fun b=>K (.bool b)
 | .int k n,K=>fKd k fun k=>fI n fun n=>K (.int k n)
 | .str s,K=>fS s fun s=>K (.str s)
 | .fF,K=>K .fF | .gh,K=>K .gh | .gH,K=>K .gH | .fR,K=>K .fR | .gF,K=>K .gF
 | .sl k Z f,K=>match d with
  | true=>CS true Z fun Z=>K (.sl k Z f)
  | false=>fSp Z fun Z=>K (.sl k Z f)
 | .ptr cs o,K=>match d with
  | true=>CS true cs fun cs=>K (.ptr cs o)
  | false=>fSp cs fun cs=>K (.ptr cs o)
 | .agg cs,K=>CS d cs fun cs=>K (.agg cs)
 | .iface t x,K=>fV d x fun x=>K (.iface t x)
 | .fn f cap,K=>CS d cap fun cap=>K (.fn f cap)
 | .fT l,K=>K (.fT l)
 | .fM Z,K=>CS d Z fun Z=>K (.fM Z)
 | .gz es,K=>match d with
  | true=>CS true es fun es=>K (.gz es)
  | false=>fSp es fun es=>K (.gz es)
 | .gw g t,K=>K (.gw g t)
 | .ref J o,K=>fP J fun J=>fN o fun o=>K (.ref J o)
 | .fO J k i o,K=>fP J fun J=>fN i fun i=>fN o fun o=>K (.fO J k i o)
 | .arr J k o n,K=>fP J fun J=>fN o fun o=>fN n fun n=>K (.arr J k o n)
 | .mp J,K=>fP J fun J=>K (.mp J)
 | .it J,K=>fP J fun J=>K (.it J)
def CS (d:Bool):fa->(fa->R)->R
 | [],K=>K []
 | x :: Z,K=>fV d x fun x=>CS d Z fun Z=>K (x :: Z)
end
def fH:PV->(PV->R)->R
 | .undef,K=>K .undef
 | .bool b,K=>K (.bool b) | .int k n,K=>K (.int k n) | .str s,K=>K (.str s)
 | .fF,K=>K .fF | .gh,K=>K .gh | .gH,K=>K .gH | .fR,K=>K .fR | .gF,K=>K .gF
 | .sl k Z f,K=>K (.sl k Z f)
 | .ptr cs o,K=>K (.ptr cs o)
 | .agg cs,K=>CS false cs fun cs=>K (.agg cs)
 | .iface t x,K=>fV false x fun x=>K (.iface t x)
 | .fn f cap,K=>CS false cap fun cap=>K (.fn f cap)
 | .fT l,K=>K (.fT l)
 | .fM Z,K=>CS false Z fun Z=>K (.fM Z)
 | .gz es,K=>K (.gz es)
 | .gw g t,K=>K (.gw g t)
 | .ref J o,K=>fP J fun J=>K (.ref J o)
 | .fO J k i o,K=>fP J fun J=>K (.fO J k i o)
 | .arr J k o n,K=>fP J fun J=>K (.arr J k o n)
 | .mp J,K=>fP J fun J=>K (.mp J)
 | .it J,K=>fP J fun J=>K (.it J)
def fHL (l:fa):(fa->R)->R:=List.rec (motive:=fun _=>(fa->R)->R) (fun K=>K []) (fun x _ ih K=>fH x fun x=>ih fun Z=>K (x :: Z)) l
def fOb (d:Bool):Ob->(Ob->R)->R
 | .cells ty cs,K=>CS d cs fun cs=>K (.cells ty cs)
 | .arr k ty Z,K=>match d with
  | true=>CS true Z fun Z=>K (.arr k ty Z)
  | false=>fSp Z fun Z=>K (.arr k ty Z)
 | .map es,K=>CS d es fun es=>K (.map es)
 | .fW s p,K=>fN p fun p=>K (.fW s p)
def yK (d:Bool):fg->(fg->R)->R
 | [],K=>K []
 | x :: Z,K=>fOb d x fun x=>yK d Z fun Z=>K (x :: Z)
def fObH:Ob->(Ob->R)->R
 | .cells ty cs,K=>CS false cs fun cs=>K (.cells ty cs)
 | .arr k ty Z,K=>K (.arr k ty Z)
 | .map es,K=>CS false es fun es=>K (.map es)
 | .fW s p,K=>K (.fW s p)
def N8:fg->(fg->R)->R
 | [],K=>K []
 | x :: Z,K=>fObH x fun x=>N8 Z fun Z=>K (x :: Z)
def fOL:List fg->(List fg->R)->R
 | [],K=>K []
 | x :: Z,K=>N8 x fun x=>fOL Z fun Z=>K (x :: Z)
def yL (V:St) (K:St->R):R:=match V with
 | ⟨tmps,fA,fD⟩=>fHL tmps fun tmps=>fOL fA fun fA=>fHL fD fun fD=>K ⟨tmps,fA,fD⟩
def fTm (V:St) (K:St->R):R:=match V with
 | ⟨tmps,fA,fD⟩=>fHL tmps fun tmps=>K ⟨tmps,fA,fD⟩
def fUpd (u:Option (Nm×Ob)) (K:Option (Nm×Ob)->R):R:=match u with
 | none=>K none
 | some (J,o)=>fP J fun J=>fOb false o fun o=>K (some (J,o))
def P2:Ak->Bool
 | .call _ _=>true
 | .il _=>true
 | _=>false
def fUps:List (Nm×Ob)->(List (Nm×Ob)->R)->R
 | [],K=>K []
 | p :: l,K=>match p with
  |(J,o)=>fP J fun J=>fOb true o fun o=>fUps l fun l=>K ((J,o) :: l)
def su (d:Bool) (o:Ai) (K:Ai->R):R:=match o with
 | ⟨v,new,gA,kill,gv,gone,gC,io,slot⟩=>fV d v fun v=>yK d new fun new=>fUpd gA fun gA=>fUps gC fun gC=>K ⟨v,new,gA,kill,gv,gone,gC,io,slot⟩
end BX
def GD (l:List α):Nat->Option α:=List.rec (motive:=fun _=>Nat->Option α) (fun _=>none) (fun x _ ih n=>Nat.rec (motive:=fun _=>Option α) (some x) (fun m _=>ih m) n) l
def Jy (l:fa):Nat->PV:=List.rec (motive:=fun _=>Nat->PV) (fun _=>.undef) (fun x _ ih n=>Nat.rec (motive:=fun _=>PV) x (fun m _=>ih m) n) l
def setR (l:fa):Nat->PV->fa:=List.rec (motive:=fun _=>Nat->PV->fa) (fun _ _=>[]) (fun x Z ih n v=>Nat.rec (motive:=fun _=>fa) (v :: Z) (fun m _=>x :: ih m v) n) l
def Kh (σ:List fg) (J:Nm):fe:=match GD σ J.1 with
 | some l=>GD l J.2
 | none=>none
def RX.evR (tm:fa):RX->RX
 | .t i=>.c (Jy tm i)
 | .c v=>.c v
def RX.evF (tm:fa):RX->PV
 | .t i=>Jy tm i
 | .c v=>v
def CO (m i:Nat):Bool:=Nat.beq (Nat.land (Nat.shiftRight m i) 1) 1
def DJ:fc->Nat
 | []=>0
 | d :: ds=>Nat.lor (Nat.shiftLeft 1 d) (DJ ds)
def NA (m:Nat) (b:Bool):Nat->fa->fa
 | _,[]=>[]
 | i,v :: A=>(match CO m i with
  | true=>bif b then v else .undef
  | false=>bif b then .undef else v) :: NA m b (Nat.succ i) A
def M5:Nat->fa->fc
 | _,[]=>[]
 | i,v :: A=>match v with
  | .undef=>i :: M5 (Nat.succ i) A
  | _=>M5 (Nat.succ i) A
def GG (R:fh):Nat->List fg->fc
 | _,[]=>[]
 | i,l :: ls=>match l with
  | []=>GG R (Nat.succ i) ls
  | _ :: _=>match R.all fun J=>J.1 != i with
   | true=>i :: GG R (Nat.succ i) ls
   | false=>GG R (Nat.succ i) ls
def ST (ds:fc) (V:St):St:={V with tmps:=NA (DJ ds) false 0 V.tmps}
def SE (ks:fc) (V:St):St:={V with tmps:=NA (DJ ks) true 0 V.tmps}
def SS (V:St):fc:=GG (Al V.tmps++Al V.fD++V.fA.flatMap fun l=>l.flatMap Ob.names) 0 V.fA
def X2 (V:St):fc:=M5 0 V.tmps
def PA (m:Nat):Nat->List fg->List fg
 | _,[]=>[]
 | i,l :: ls=>(match CO m i with
  | true=>[]
  | false=>l) :: PA m (Nat.succ i) ls
def Q2 (fA:List fg):fc->Bool
 | []=>true
 | d :: ds=>match GD fA d with
  | some (_ :: _)=>false
  | _=>Q2 fA ds
def P5 (ds:fc) (V:St):St :=
 let V:=Cd (fun m=>match CO (DJ ds) m.1 with | true=>some none | false=>none) V
 {V with fA:=PA (DJ ds) 0 V.fA}
def P4 (ds:fc) (V:St):St:=match Q2 V.fA ds with
 | true=>V
 | false=>P5 ds V
def P3 (V:St):St:=match SS V with
 | []=>V
 | d :: ds=>P5 (d :: ds) V
def Rj (ds:fc) (V:St):St:=P3 (ST ds V)
def J7 (m:Nat):Nat->fa->Bool
 | _,[]=>true
 | i,v :: A=>match v with
  | .arr J _ _ _=>(match CO m i with
   | true=>(match J with
    |(a,b)=>(match Nat.beq a i with
     | true=>(match b with
      | 0=>J7 m (Nat.succ i) A
      | _+1=>false)
     | false=>false))
   | false=>J7 m (Nat.succ i) A)
  | _=>J7 m (Nat.succ i) A
def MS {R:Type}:fc->St->(St->R)->R
 | [],V,K=>K V
 | t :: gp,V,K=>match Jy V.tmps t with
  | .arr J k o n=>yL (Gg t V) fun V=>MS gp V K
  | _=>MS gp V K
def TQ {R:Type} (gp:fc) (grow:List (Nat×Nat)) (V:St) (K:St->R):R:=match J7 (DJ gp) 0 V.tmps with
 | true=>K (grow.foldl (fun V (t,k)=>FL t k V) V)
 | false=>MS gp V fun V=>K (grow.foldl (fun V (t,k)=>FL t k V) V)
def NU (gp:fc) (grow:List (Nat×Nat)) (V:St):St:=TQ gp grow V fun V=>yL V fun V=>Rj (X2 V) V
def Q3 (live:Option fc) (V:St):St :=
 match live with
 | none=>V
 | some ks=>P3 (SE ks V)
def TH (o:Ai):Bool:=A6 o&&o.new.isEmpty
def Kf (V:St) (dst:fb) (o:Ai):St:=match TH o with
 | true=>(match dst with
  | some d=>{V with tmps:=setR V.tmps d o.v}
  | none=>V)
 | false=>apply V dst o
def T7 (o:Av) (V:St):Bool :=
 if Dd o.op then
  match o.dst with
  | some d=>match GD V.fA d with
   | some []=>true
   | _=>false
  | none=>match o.op with
   | .call _ _=>true
   | _=>false
 else true
def outQ (M:AC) {E:Type} (h:AB E) (dep:Nat) (o:Av) (V:St) (e:E):Option (Ai×E) :=
 Ap (T7 o V) (match o.op with
  | .call f args=>match BU M h dep (o.dst.getD 0) (Kh V.fA) [] (f.evR V.tmps) (args.map (RX.evR V.tmps)) e with
   | some (out,e)=>Ap (HY o.dst out) (some (out,e))
   | none=>none
  | op=>match exec (o.dst.getD 0) (Kh V.fA) [] (op.iP (RX.evR V.tmps)) with
   | some out=>some (out,e)
   | none=>none)
def PH (ops:fq) (o:Av) (tm:fa):Option Bool :=
 match o.guard with
 | none=>some true
 | some (j,want) =>
  match GD ops j with
  | some p=>match p.dst with
   | some d=>match Jy tm d with
    | .bool b=>some (b==want)
    | .fM []=>some false
    | _=>none
   | none=>none
  | none=>none
def yM (M:AC) {E:Type} (h:AB E) (dep:Nat) (ops:fq) (o:Av) (V:St) (e:E):Option (St×E) :=
 match PH ops o V.tmps with
 | some true=>match outQ M h dep o V e with
  | some (out,e)=>su (P2 o.op) out fun out=>some (Kf V o.dst out,e)
  | none=>none
 | some false=>some (Kf V o.dst {v:=.fM []},e)
 | none=>none
def runQ (M:AC) {E:Type} (h:AB E) (dep:Nat) (ops:fq):fq->St->E->Option (St×E)
 | [],V,e=>some (V,e)
 | o :: rest,V,e=>match yM M h dep ops o V e with
  | some (V,e)=>runQ M h dep ops rest V e
  | none=>none
def rnQ (o:Av) (V:St) (out:Ai):fh :=
 if Dv o.op&&A6 out then [] else AA (Kh V.fA) (EI o.op (A6 out)) (Al (o.op.Z.map (RX.evF V.tmps))++out.gv)
def yldQ (op:Ak) (tm:fa):Bool :=
 match op with
 | .call f args=>match f.evF tm with
  | .fT _=>(Al (args.map (RX.evF tm))).isEmpty
  | _=>false
 | _=>false
def yN (ops:fq) (i:Nat) (o:Av) (V:St) (out:Ai):Bf :=
 let A:=o.op.Z.map (RX.evF V.tmps)
 {i,dst:=o.dst,reads:=HU o.op.Z++Ca ops o,rn:=rnQ o V out,rv:=if Jf o.op then [] else Fj (Kh V.fA) (rnQ o V out),
  cls:=if Cz o.op&&A2 A then (if yldQ o.op V.tmps then .calls else .other) else if A6 out then .quiet else if Ck out then .turns else if ES out then .ios else .other,
  on:=out.v.names++out.new.flatMap Ob.names,tch:=DQ out++(out.gv++out.kill.toList),gv:=!(out.gv++out.kill.toList).isEmpty,
  vn:=(HU o.op.Z++Ca ops o).flatMap fun s=>(Jy V.tmps s).names
  nw:=out.new.isEmpty&&!Dd o.op,ld:=GC o.op V.tmps out.v,jF:=out.gC.map fun p=>(p.1,Kh V.fA p.1),aft:=out.gC,V:=HG o.dst o.op V.tmps,sl:=out.slot.map fun r=>(r,(V.fA.getD r []).length)}
def yO (M:AC) {E:Type} (h:AB E) (dep:Nat) (ops:fq) (i:Nat) (o:Av) (V:St) (e:E):Option (St×E×Bf) :=
 match PH ops o V.tmps with
 | some true=>match outQ M h dep o V e with
  | some (out,e)=>su (P2 o.op) out fun out=>some (Kf V o.dst out,e,yN ops i o V out)
  | none=>none
 | some false=>some (Kf V o.dst {v:=.fM []},e,{i,cls:=.quiet,dst:=o.dst,reads:=Ca ops o,rn:=[],vn:=(Ca ops o).flatMap fun s=>(Jy V.tmps s).names,nw:=!Dd o.op})
 | none=>none
def Q5 (M:AC) {E:Type} (h:AB E) (dep:Nat) (ops:fq):List (Nat×Nat)->List Bf->St->E->Option (St×E)
 | [],_,V,e=>some (V,e)
 |(i,jF) :: rest,infos,V,e=>match GD ops i with
  | some o=>match yO M h dep ops i o V e with
   | some (V,e,info)=>Ap (infos.all fun j=>jF.testBit j.i||G2 j info) (Q5 M h dep ops rest (info :: infos) V e)
   | none=>none
  | none=>none
def CZ (M:AC) (fuel:Nat):AU->{E:Type}->AB E->Nat->St->E->Option (Ex×St×E)
 | .skip,_,_,_,V,e=>some (.normal,V,e)
 | .region ops none AH,_,h,dep,V,e=>match runQ M h dep ops ops (P4 (Bx ops) V) e with
  | some (V,e)=>fTm (Q3 AH V) fun V=>some (.normal,V,e)
  | none=>none
 | .region ops (some jF) AH,_,h,dep,V,e=>match Q5 M h dep ops jF [] (P4 (Bx ops) V) e with
  | some (V,e)=>fTm (Q3 AH V) fun V=>some (.normal,V,e)
  | none=>none
 | .seq a b,_,h,dep,V,e=>match CZ M fuel a h dep V e with
  | some (.normal,V,e)=>CZ M fuel b h dep V e
  | r=>r
 | .cond c a b,_,h,dep,V,e=>match c.ev V.tmps with
  | .bool true=>CZ M fuel a h dep V e
  | .bool false=>CZ M fuel b h dep V e
  | _=>none
 | .block id body,_,h,dep,V,e=>match CZ M fuel body h dep V e with
  | some (.exit jH,V,e)=>if jH=id then some (.normal,V,e) else some (.exit jH,V,e)
  | r=>r
 | .loop gp grow body,E,h,dep,V,e=>yL (NU gp grow V) fun V =>
  match CW (fun (s:St×E)=>match CZ M fuel body h dep s.1 s.2 with
   | some (.normal,oT,e)=>yL (Rj (gi V) oT) fun oT=>yL (NU gp grow oT) fun V=>some (.inl (V,e))
   | some (x,V,e)=>some (.inr (x,V,e))
   | none=>none) fuel (V,e) with
  | some (x,V,e)=>some (x,V,e)
  | none=>none
 | .scope body,_,h,dep,V,e=>match CZ M fuel body h dep V e with
  | some (.exit id,V,e)=>if id < BK then some (.exit id,V,e) else none
  | r=>r
 | .norm grow,_,_,_,V,e=>yL (NU [] grow (trim V)) fun V=>some (.normal,V,e)
 | .rangeFunc f ps assign body,E,h,dep,V,e =>
  let rnd:AB E->Nat->AB (Dj E):=fun h dep l args r =>
   if l=dep then
    match r with
    |(s,none,e) =>
     if args.length=ps.length then
      yL {s with tmps:=FG ps args s.tmps,fD:=s.tmps++s.fD} fun s1=>match CZ M fuel assign h (dep+1) s1 e with
      | some (.normal,s',e)=>match CZ M fuel body h (dep+1) s' e with
       | some (x,s',e)=>yL {s' with tmps:=s'.fD.take s.tmps.length,fD:=s'.fD.drop s.tmps.length} fun s2=>some (x==.normal,(s2,(if x=.normal then none else some x),e))
       | none=>none
      | _=>none
     else none
    | _=>none
   else
    match r with
    |(s,p,e)=>match h l args e with
     | some (b,e)=>some (b,(s,p,e))
     | none=>none
  if Ih M (f.ev V.tmps) then HW M rnd h dep (f.ev V.tmps) V e
  else match IY V (f.ev V.tmps) with
  | some (.fn g cap,V) =>
   match M.call (Dj E) (rnd h dep) (dep+1) (AG g) (A7 g [.fT dep] cap) (V,none,e) with
   | some (_,_,s,p,e)=>some (p.getD .normal,s,e)
   | none=>none
  | _=>none
 | .exit id,_,_,_,V,e=>some (.exit id,V,e)
 | .ret,_,_,_,V,e=>some (.ret,V,e)
 | .kd _ _ _ _,_,_,_,_,_=>none
 | .bad,_,_,_,_,_=>none
def fObD {R:Type}:Ob->(Ob->R)->R
 | .cells ty cs,K=>CS false cs fun cs=>K (.cells ty cs)
 | .arr k ty Z,K=>CS false Z fun Z=>K (.arr k ty Z)
 | .map es,K=>CS false es fun es=>K (.map es)
 | .fW s p,K=>K (.fW s p)
def Ri {R:Type}:fg->(fg->R)->R
 | [],K=>K []
 | x :: Z,K=>fObD x fun x=>Ri Z fun Z=>K (x :: Z)
def TJ (M:AC) (n:Nat) (fK:eU->fk):(E:Type)->AB E->Nat->eU->fg->fa->E->Option (St×E):=fun _ h dep g ins A e =>
 match fK g with
 | none=>none
 | some fn=>Ap (fn.res.isEmpty&&(decide (A.length<=fn.nt)&&decide (ins.length<=fn.nt)&&decide (0 < fn.nt))) (
  yL (D4 fn.gone fn.nt ins A) fun st0=>match CZ M n fn.code h dep st0 e with
  | some (.exit _,_,_)=>none
  | some (.normal,V,e)=>some (V,e)
  | some (.ret,V,e)=>some (V,e)
  | none=>none)
section CD
variable {R:Type}
theorem Im (n:Nat) (K:Nat->R):fN n K=K n:=by cases n<;>rfl
theorem fI_eq (n:Int) (K:Int->R):fI n K=K n:=by cases n<;>simp only[fI,Im]
theorem fB_eq (b:Bool) (K:Bool->R):fB b K=K b:=by cases b<;>rfl
theorem fKd_eq (k:eW) (K:eW->R):fKd k K=K k:=by cases k<;>rfl
theorem fS_eq:∀ (s:fp) (K:fp->R),fS s K=K s
 | [],_=>rfl
 | x :: Z,K=>by simp only[fS];rw[fS_eq Z]
theorem Jq (p:α×β) (K:α×β->R):fP p K=K p:=rfl
theorem H6 {α:Type}:∀ (s:List α) (K:List α->R),fSp s K=K s
 | [],_=>rfl
 | x :: Z,K=>by simp only[fSp];rw[H6 Z]
mutual
theorem N7 (d:Bool):∀ (v:PV) (K:PV->R),fV d v K=K v
 | .undef,K | .fF,K | .gh,K | .gH,K | .fR,K | .gF,K | .fT _,K | .gw _ _,K=>by simp only[fV]
 | .bool b,K=>by simp only[fV,fB_eq]
 | .int k n,K=>by simp only[fV,fKd_eq,fI_eq]
 | .str s,K=>by simp only[fV,fS_eq]
 | .sl k Z f,K=>by cases d<;>simp only[fV,H6];rw[FE true Z]
 | .ptr cs o,K=>by cases d<;>simp only[fV,H6];rw[FE true cs]
 | .gz es,K=>by cases d<;>simp only[fV,H6];rw[FE true es]
 | .agg cs,K=>by simp only[fV];rw[FE d cs]
 | .iface t x,K=>by simp only[fV];rw[N7 d x]
 | .fn f cap,K=>by simp only[fV];rw[FE d cap]
 | .fM Z,K=>by simp only[fV];rw[FE d Z]
 | .ref J o,K=>by simp only[fV,Jq,Im]
 | .fO J k i o,K=>by simp only[fV,Jq,Im]
 | .arr J k o n,K=>by simp only[fV,Jq,Im]
 | .mp J,K=>by simp only[fV,Jq]
 | .it J,K=>by simp only[fV,Jq]
theorem FE (d:Bool):∀ (Z:fa) (K:fa->R),CS d Z K=K Z
 | [],K=>by simp only[CS]
 | x :: Z,K=>by simp only[CS];rw[N7 d x,FE d Z]
end
theorem fH_eq (v:PV) (K:PV->R):fH v K=K v:=by cases v<;>simp only[fH,FE,N7,Jq]
theorem Ua:∀ (Z:fa) (K:fa->R),fHL Z K=K Z
 | [],_=>rfl
 | x :: Z,K=>by
  show fH x (fun x=>fHL Z fun Z=>K (x :: Z))=_;rw[fH_eq,Ua Z]
theorem T9 (d:Bool) (o:Ob) (K:Ob->R):fOb d o K=K o:=by cases o<;>cases d<;>simp only[fOb,FE,H6,Im]
theorem TA (d:Bool):∀ (Z:fg) (K:fg->R),yK d Z K=K Z
 | [],_=>rfl
 | x :: Z,K=>by simp only[yK];rw[T9,TA d Z]
theorem fObH_eq (o:Ob) (K:Ob->R):fObH o K=K o:=by cases o<;>simp only[fObH,FE]
theorem Tc:∀ (Z:fg) (K:fg->R),N8 Z K=K Z
 | [],_=>rfl
 | x :: Z,K=>by simp only[N8];rw[fObH_eq,Tc Z]
theorem yP:∀ (Z:List fg) (K:List fg->R),fOL Z K=K Z
 | [],_=>rfl
 | x :: Z,K=>by simp only[fOL];rw[Tc,yP Z]
theorem Jg (V:St) (K:St->R):yL V K=K V:=by cases V;simp only[yL,Ua,yP]
theorem P0 (V:St) (K:St->R):fTm V K=K V:=by cases V;simp only[fTm,Ua]
theorem fUpd_eq (u:Option (Nm×Ob)) (K:Option (Nm×Ob)->R):fUpd u K=K u:=by
 cases u with
 | none=>rfl
 | some p=>simp only[fUpd,Jq,T9]
theorem Yy:∀ (l:List (Nm×Ob)) (K:List (Nm×Ob)->R),fUps l K=K l
 | [],_=>rfl
 |(J,o) :: l,K=>by simp only[fUps,Jq,T9];rw[Yy l]
theorem Py (d:Bool) (o:Ai) (K:Ai->R):su d o K=K o:=by cases o;simp only[su,N7,TA,fUpd_eq,Yy]
end CD
theorem GO {α:Type}:∀ (l:List α) (n:Nat),GD l n=l[n]?
 | [],_=>by simp[GD]
 | x :: Z,0=>rfl
 | x :: Z,n+1=>by rw[List.getElem?_cons_succ,<-GO Z n];rfl
theorem JZ:∀ (l:fa) (n:Nat),Jy l n=l.getD n .undef
 | [],_=>by simp[Jy]
 | x :: Z,0=>rfl
 | x :: Z,n+1=>by rw[List.getD_cons_succ,<-JZ Z n];rfl
theorem To:∀ (l:fa) (n:Nat) (v:PV),setR l n v=l.set n v
 | [],_,_=>by simp[setR]
 | x :: Z,0,_=>rfl
 | x :: Z,n+1,v=>by rw[List.set_cons_succ,<-To Z n];rfl
theorem evR_eq (tm:fa):RX.evR tm=fun x=>.c (x.ev tm):=by
 funext x;cases x with
 | t i=>simp only[RX.evR,RX.ev,JZ]
 | c v=>rfl
theorem Xs (σ:List fg):Kh σ=Aa σ:=by
 funext J;unfold Kh Aa;rw[GO];cases σ[J.1]? with
 | none=>rfl
 | some l=>exact GO l J.2
theorem evF_eq (tm:fa):RX.evF tm=RX.ev tm:=by
 funext x;cases x with
 | t i=>exact JZ tm i
 | c v=>rfl
theorem IS (m i:Nat):CO m i=m.testBit i:=by
 unfold CO;rw[Nat.testBit_eq_decide_div_mod_eq];show ((m >>> i) &&& 1).beq 1=_;rw[Nat.and_one_is_mod,Nat.shiftRight_eq_div_pow];by_cases h:m / 2 ^ i%2=1;{rw[h];rfl}
 ·cases hb:(m / 2 ^ i%2).beq 1 with
  | false=>simp[h]
  | true=>exact eQ (ch hb) h
theorem IV (i:Nat):∀ ds:fc,CO (DJ ds) i=ds.contains i
 | []=>by rw[IS];simp[DJ]
 | d :: ds=>by
  have ih:=IV i ds;rw[IS] at ih |-;show (1 <<< d ||| DJ ds).testBit i=_;rw[Nat.testBit_or,ih,Nat.one_shiftLeft,Nat.testBit_two_pow,List.contains_cons];congr 1;by_cases h:i=d;{simp[h]};{have O:¬d=i:=fun e=>h e.symm;simp[h,O]}
theorem SF (ds:fc) (b:Bool):∀ (l:fa) (i:Nat),NA (DJ ds) b i l=(l.zipIdx i).map fun (v,j)=>if ds.contains j=b then v else .undef
 | [],_=>rfl
 | v :: A,i=>by
  simp only[NA,dI,bP,SF ds b A,IV];congr 1;cases ds.contains i<;>cases b<;>simp
theorem Zp (ds:fc) (V:St):ST ds V=FA ds V:=by unfold ST FA;rw[SF];congr 2;funext p;cases ds.contains p.2<;>simp
theorem Zc (ds:fc) (V:St):SE ds V=Fz ds V:=by unfold SE Fz;rw[SF]
theorem U2:∀ (l:fa) (i:Nat),M5 i l=((l.zipIdx i).filter fun (v,_)=>B3 v).map (·.2)
 | [],_=>rfl
 | v :: A,i=>by
  simp only[M5,dI,List.filter_cons,U2 A];cases v<;>simp[B3]
theorem Z2 (V:St):X2 V=gi V:=U2 _ _
theorem Up (R:fh):∀ (fA:List fg) (i:Nat) (f:Nat->fg),(∀ j,j < fA.length->f (i+j)=fA.getD j []) ->
  (List.range' i fA.length).filter (fun d=>!(f d).isEmpty&&R.all fun J=>J.1 != d)=GG R i fA
 | [],_,_,_=>rfl
 | l :: ls,i,f,hf=>by
  have ih:=Up R ls (i+1) f fun j hj=>by have:=hf (j+1) (by simpa using hj);rw[show i+1+j=i+(j+1) by omega,this];rfl
  have h0:f i=l:=hf 0 (by simp);simp only[ct,List.range'_succ,List.filter_cons,h0,GG];rw[ih];cases l with
  | nil=>simp
  | cons a l=>cases (R.all fun J=>J.1 != i)<;>simp
theorem UG (V:St):SS V=Gd V:=by unfold SS Gd;rw[<-Up _ V.fA 0 (fun d=>V.fA.getD d []) (fun j _=>by rw[bX]),List.range_eq_range']
theorem VO (ds:fc):∀ (l:List fg) (i:Nat),PA (DJ ds) i l=(l.zipIdx i).map fun (v,j)=>if ds.contains j then [] else v
 | [],_=>rfl
 | v :: A,i=>by
  simp only[PA,dI,bP,VO ds A,IV];congr 1;cases ds.contains i<;>simp
theorem W3 (fA:List fg):∀ ds:fc,Q2 fA ds=ds.all fun d=>(fA.getD d []).isEmpty
 | []=>rfl
 | d :: ds=>by
  simp only[Q2,dA,W3 fA ds,GO,bF];cases fA[d]? with
  | none=>simp
  | some l=>cases l<;>simp
theorem WX (ds:fc) (V:St) (h:(ds.all fun d=>(V.fA.getD d []).isEmpty)=false):P5 ds V=BR ds V:=by
 unfold BR;rw[eG (by rw[h];decide)];unfold P5
 rw[show (fun m:Nm=>match CO (DJ ds) m.1 with | true=>some (none:fe) | false=>none)=fun m=>if ds.contains m.1 then some none else none by
  funext m;rw[IV];cases ds.contains m.1<;>rfl]
 simp only[VO]
theorem O2 (ds:fc) (V:St):P4 ds V=BR ds V:=by unfold P4;rw[W3];split;{rename_i h;unfold BR;rw[eH h]};{rename_i h;exact WX ds V h}
theorem Uo (R:fh):∀ (fA:List fg) (i d:Nat),d∈GG R i fA->i<=d/\∃ a l,fA[d - i]?=some (a :: l)
 | [],_,_,h=>by simp[GG] at h
 | l :: ls,i,d,h=>by
  have ih:=Uo R ls (i+1) d;have step:d∈GG R (i+1) ls->i<=d/\∃ a l',(l :: ls)[d - i]?=some (a :: l'):=fun h=>by obtain⟨U,a,l',O⟩:=ih h;refine⟨by omega,a,l',?_⟩;rw[show d - i=d - (i+1)+1 by omega,List.getElem?_cons_succ];exact O
  simp only[GG] at h;split at h;{exact step h};{split at h;{rcases bE.1 h with rfl | h;{exact⟨bD _,_,_,by rw[Nat.sub_self];rfl⟩};{exact step h}};{exact step h}}
theorem WW (V:St):P3 V=BR (Gd V) V:=by unfold P3;split;{rename_i h;rw[<-UG,h];rfl};{rename_i d ds h;rw[<-UG,h];refine WX _ _ ?_;obtain⟨_,a,l,O⟩:=Uo _ V.fA 0 d (by rw[show GG _ 0 V.fA=d :: ds from h];exact bN);rw[dA,bF,show V.fA[d]?=some (a :: l) from O];rfl}
theorem MY (ds:fc) (V:St):Rj ds V=drop ds V:=by unfold Rj drop;rw[WW,Zp]
theorem VD (gp:fc):∀ (l:fa) (i t:Nat),J7 (DJ gp) i l=true->gp.contains (i+t)=true->∀ J k o n,l.getD t .undef=.arr J k o n->J=(i+t,0)
 | [],_,_,_,_,_,_,_,_=>by simp
 | x :: Z,i,0,h,hc,J,k,o,n=>by
  intro e;simp only[List.getD_cons_zero] at e;subst e;simp only[J7,IV] at h;rw[show gp.contains i=true from hc] at h;obtain⟨a,b⟩:=J;dsimp only at h;cases hb:Nat.beq a i with
  | false=>rw[hb] at h;cases h
  | true =>
   rw[hb] at h;cases b with
   | zero=>rw[ch hb];rfl
   | succ b=>cases h
 | x :: Z,i,t+1,h,hc,J,k,o,n=>by
  rw[List.getD_cons_succ,show i+(t+1)=i+1+t by omega];rw[show i+(t+1)=i+1+t by omega] at hc;refine VD gp Z (i+1) t ?_ hc J k o n;simp only[J7] at h
  repeat' split at h
  all_goals first | exact h | cases h
theorem Vh (t:Nat) (V:St) (h:∀ J k o n,V.tmps.getD t .undef=.arr J k o n->J=(t,0)):Gg t V=V:=by unfold Gg;split;{rename_i J k o n e;rw[eG];exact fun hh=>hh.1 (h J k o n e)};{rfl}
theorem R7 (V:St):∀ (gp:fc),(∀ t∈gp,∀ J k o n,V.tmps.getD t .undef=.arr J k o n->J=(t,0))->gp.foldl (fun V t=>Gg t V) V=V
 | [],_=>rfl
 | t :: gp,h=>by rw[cJ,Vh t V (h t bN)];exact R7 V gp fun u hu=>h u (bM _ hu)
theorem RR {R:Type}:∀ (gp:fc) (V:St) (K:St->R),MS gp V K=K (gp.foldl (fun V t=>Gg t V) V)
 | [],_,_=>rfl
 | t :: gp,V,K=>by
  rw[cJ];simp only[MS];split;{rw[Jg];exact RR gp _ K};{rename_i h;rw[Vh t V fun J k o n e=>eQ (by rw[JZ];exact e) (h J k o n)];exact RR gp V K}
theorem sv {R:Type} (gp:fc) (grow:List (Nat×Nat)) (V:St) (K:St->R):TQ gp grow V K=K (Ie gp grow V):=by unfold TQ Ie;split;{rename_i h;rw[R7 V gp fun t ht J k o n e=>by have:=VD gp V.tmps 0 t h (by simpa using ht) J k o n e;simpa using this]};{rw[RR]}
theorem O8 (gp:fc) (grow:List (Nat×Nat)) (V:St):NU gp grow V=norm gp grow V:=by unfold NU norm;rw[sv,Jg,MY,Z2]
theorem O6 (live:Option fc) (V:St):Q3 live V=EC live V:=by unfold Q3 EC;split;{rfl};{rw[WW,Zc]}
theorem evRs_eq (tm kG:fa) (Z:fu):(Z.map fun x=>RX.c (x.ev tm)).map (RX.ev kG)=Z.map (RX.ev tm):=by rw[bV];rfl
theorem VL (d:Nat) (σ:Nm->fe) (T:fa) (op:Ak):exec d σ [] (op.iP fun x=>.c (x.ev T))=exec d σ T op:=by
 cases op with
 | build z ps=>simp only[Ak.iP,exec];rw[XH T]
 | slice k x lo hi mx=>simp only[Ak.iP,exec];rw[Hr,Hr,Hr];rfl
 | gM x lo hi=>simp only[Ak.iP,exec];rw[Hr,Hr];rfl
 | ij mx Z=>simp only[Ak.iP,exec,bV];rfl
 | kr k Z=>simp only[Ak.iP,exec,bV];rfl
 | mkF f Z=>simp only[Ak.iP,exec,bV];rfl
 | _=>rfl
theorem O5 (V:St) (dst:fb) (o:Ai):Kf V dst o=apply V dst o:=by unfold Kf;split;{rename_i h;obtain⟨v,new,gA,kill,gv,gone,gC,io,slot⟩:=o;simp only[TH,A6,bz,dj,bZ] at h;obtain⟨⟨⟨⟨⟨⟨rfl,rfl⟩,rfl⟩,rfl⟩,rfl⟩,rfl⟩,rfl⟩:=h;unfold apply;cases dst<;>simp[To]};{rfl}
section eval_eq
variable (M:AC) {E:Type} (h:AB E) (dep:Nat) (ops:fq)
theorem Um (dst:Nat) (σ:Nm->fe) (tm:fa) (f:RX) (args:fu) (e:E):BU M h dep dst σ [] (.c (f.ev tm)) (args.map fun x=>.c (x.ev tm)) e=BU M h dep dst σ tm f args e:=by have hv:=evRs_eq tm [] args;unfold BU;simp only[hv];rfl
theorem Ye (o:Av) (V:St) (e:E):outQ M h dep o V e=Br M h dep o V e:=by
 unfold outQ Br;rw[show T7 o V=BQ o V by unfold T7 BQ;simp only[GO]<;>rfl,Xs,evR_eq];congr 1;cases o.op with
 | call f args=>have hc:=Um M h dep (o.dst.getD 0) (Aa V.fA) V.tmps f args e;simp only[hc]<;>rfl
 | _=>simp only[VL]<;>rfl
theorem V2 (o:Av) (tm:fa):PH ops o tm=BB ops o tm:=by unfold PH BB;simp only[GO,JZ]<;>rfl
theorem yQ (o:Av) (V:St) (e:E):yM M h dep ops o V e=stepG M h dep ops o V e:=by unfold yM stepG Hv;rw[V2];split<;>rename_i hw<;>simp only[hw,Py,Ye,O5]<;>rfl
theorem Ya:∀ (l:fq) (V:St) (e:E),runQ M h dep ops l V e=CX M h dep ops l V e
 | [],_,_=>rfl
 | o :: l,V,e=>by
  simp only[runQ,CX,yQ,Ya l]<;>rfl
theorem yR (i:Nat) (o:Av) (V:St) (out:Ai):yN ops i o V out=Cl ops i o V out:=by unfold yN Cl rnQ Cg yldQ EV;simp only[evF_eq,Xs,JZ]<;>rfl
theorem yS (i:Nat) (o:Av) (V:St) (e:E):yO M h dep ops i o V e=HB M h dep ops i o V e:=by
 unfold yO HB AX;rw[V2,Ye];cases BB ops o V.tmps with
 | none=>rfl
 | some b =>
  cases b with
  | true =>
   cases Br M h dep o V e with
   | none=>rfl
   | some p=>simp only[Py,O5,yR]
  | false=>simp only[O5,JZ]
theorem Xh:∀ (l:List (Nat×Nat)) (infos:List Bf) (V:St) (e:E),Q5 M h dep ops l infos V e=ED M h dep ops l infos V e
 | [],_,_,_=>rfl
 |(i,jF) :: l,infos,V,e=>by
  simp only[Q5,ED,GO,yS,Xh l]<;>rfl
end eval_eq
theorem GJ (M:AC) (fuel:Nat):∀ (c:AU) {E:Type} (h:AB E) (dep:Nat) (V:St) (e:E),CZ M fuel c h dep V e=At M fuel c h dep V e
 | .skip,_,_,_,_,_ | .exit _,_,_,_,_,_ | .ret,_,_,_,_,_ | .bad,_,_,_,_,_ | .kd _ _ _ _,_,_,_,_,_=>by simp only[CZ,At]<;>rfl
 | .rangeFunc f ps a b,_,h,dep,V,e=>by simp only[CZ,At,Jg,GJ M fuel a,GJ M fuel b]<;>rfl
 | .norm _,_,_,_,_,_=>by simp only[CZ,At,Jg,P0,O2,O6,O8,MY]<;>rfl
 | .region ops none AH,_,h,dep,V,e=>by simp only[CZ,At,Jg,P0,O2,O6,O8,MY,Ya]<;>rfl
 | .region ops (some jF) AH,_,h,dep,V,e=>by simp only[CZ,At,Jg,P0,O2,O6,O8,MY,Xh]<;>rfl
 | .seq a b,_,h,dep,V,e=>by simp only[CZ,At,GJ M fuel a,GJ M fuel b]<;>rfl
 | .cond c a b,_,h,dep,V,e=>by simp only[CZ,At,GJ M fuel a,GJ M fuel b]<;>rfl
 | .block id b,_,h,dep,V,e=>by simp only[CZ,At,GJ M fuel b]<;>rfl
 | .scope b,_,h,dep,V,e=>by simp only[CZ,At,GJ M fuel b]<;>rfl
 | .loop gp grow b,_,h,dep,V,e=>by simp only[CZ,At,Jg,P0,O2,O6,O8,MY,GJ M fuel b]<;>rfl
theorem fObD_eq {R:Type} (o:Ob) (K:Ob->R):fObD o K=K o:=by cases o<;>simp only[fObD,FE,H6]
theorem XK {R:Type}:∀ (Z:fg) (K:fg->R),Ri Z K=K Z
 | [],_=>rfl
 | x :: Z,K=>by simp only[Ri];rw[fObD_eq,XK Z]
theorem sw (M:AC) (n:Nat) (fK:eU->fk):TJ M n fK=Ib M n fK:=by funext E h dep g ins A e;unfold TJ Ib;simp only[Jg,GJ]<;>rfl
end
end Go.Ab


namespace Go.Ab
variable{α β:Type} {l:List (Nat×PV)} {m n:Nat} {p:Nat×PV} {d x:α}
noncomputable section
def Bs (d:α) (l:List (Nat×α)):Nat->α:=List.rec (motive:=fun _=>Nat->α) (fun _=>d) (fun p _ ih i=>Bool.rec (motive:=fun _=>α) (ih i) p.2 (Nat.beq p.1 i)) l
theorem MM (d:α) (i:Nat):Bs d [] i=d:=rfl
theorem Dy (d:α) (p:Nat×α) (l:List (Nat×α)) (i:Nat):Bs d (p :: l) i=if p.1=i then p.2 else Bs d l i:=by
 show Bool.rec (motive:=fun _=>α) (Bs d l i) p.2 (Nat.beq p.1 i)=_;cases h:Nat.beq p.1 i with
 | true=>rw[eH (ch h)]
 | false=>rw[eG (eg h)]
theorem WM {α β:Type} (d:α) (f:α->β) (i:Nat):∀ l:List (Nat×α),Bs (f d) (l.map fun p=>(p.1,f p.2)) i=f (Bs d l i)
 | []=>rfl
 | p :: l=>by
  rw[bP,Dy,Dy,WM d f i l];split<;>rfl
theorem Uz {α:Type} (d:α) (q:Nat->Bool) (i:Nat):∀ l:List (Nat×α),Bs d (l.filter fun p=>q p.1) i=if q i=true then Bs d l i else d
 | []=>by simp[MM]
 | p :: l=>by
  rw[List.filter_cons,Dy];have ih:=Uz d q i l;by_cases h:p.1=i
  ·subst h;cases hq:q p.1 with
   | true=>rw[eH rfl,Dy,eH rfl,eH rfl,eH rfl]
   | false=>rw[eG (by simp),ih,hq];simp
  ·rw[eG h];cases hq:q p.1 with
   | true=>rw[eH rfl,Dy,eG h,ih]
   | false=>rw[eG (by simp),ih]
def B2 (d:α) (n:Nat) (l:List (Nat×α)):List α:=(List.range n).map (Bs d l)
theorem H2 (d:α) (n:Nat) (l:List (Nat×α)):(B2 d n l).length=n:=by simp[B2]
theorem GP (d:α) (n:Nat) (l:List (Nat×α)) (i:Nat):(B2 d n l)[i]?=if i < n then some (Bs d l i) else none:=by unfold B2;rw[bK];by_cases h:i < n;{rw[cN h,eH h];rfl};{rw[cg (by simpa using h),eG h];rfl}
theorem GY {l:List (Nat×α)} {Z:List α} (h:Z.length=n) (O:∀ i,i < n->Z[i]?=some (Bs d l i)):B2 d n l=Z:=by apply cj;intro i;rw[GP];by_cases hi:i < n;{rw[eH hi,O i hi]};{rw[eG hi,cg (by omega)]}
theorem TE (d:α) (n:Nat) (l:List (Nat×α)) (i:Nat) (v:α):B2 d n ((i,v) :: l)=(B2 d n l).set i v :=
 GY (by rw[List.length_set,H2]) fun j hj=>by rw[dY,Dy,H2,GP,eH hj];by_cases e:i=j;{subst e;simp[hj]};{simp[e]}
theorem TF (d:α) (n:Nat) (l:List (Nat×α)) (f:α->β):B2 (f d) n (l.map fun p=>(p.1,f p.2))=(B2 d n l).map f :=
 GY (by rw[cf,H2]) fun j hj=>by rw[bK,GP,eH hj,WM];rfl
theorem M0 (d:α) (n:Nat) (l:List (Nat×α)) (i:Nat):(B2 d n l).getD i d=if i < n then Bs d l i else d:=by rw[bF,GP];split<;>rfl
def DM {α:Type} (e:α->Bool):Nat->List α->List (Nat×α)
 | _,[]=>[]
 | i,x :: Z=>match e x with
  | true=>DM e (Nat.succ i) Z
  | false=>(i,x) :: DM e (Nat.succ i) Z
theorem JN {α:Type} {e:α->Bool} {d:α} (he:∀ x,e x=true->x=d):∀ (l:List α) (i j:Nat),Bs d (DM e i l) j=if j < i then d else l.getD (j - i) d
 | [],i,j=>by simp[DM,MM]
 | x :: Z,i,j=>by
  have ih:=JN he Z (i+1) j;have key:Bs d ((i,x) :: DM e (i+1) Z) j=if j < i then d else (x :: Z).getD (j - i) d:=by rw[Dy];by_cases h:i=j;{subst h;simp};{rw[eG h,ih];by_cases O:j < i;{rw[eH (by omega),eH O]};{rw[eG (by omega),eG O,show j - i=j - (i+1)+1 by omega,List.getD_cons_succ]}}
  simp only[DM];cases h:e x with
  | false=>exact key
  | true =>
   have H:=he x h;show Bs d (DM e (i+1) Z) j=_;rw[<-key,Dy];split;{rename_i O;have O:i=j:=O;show Bs d (DM e (i+1) Z) j=x;rw[ih,eH (by omega),H]};{rfl}
structure Ss where
 nt:Nat
 tm:List (Nat×PV)
 no:Nat
 ob:List (Nat×fg)
 kn:Nat
 kp:List (Nat×PV)
def Ss.V (s:Ss):St:={tmps:=B2 .undef s.nt s.tm,fA:=B2 [] s.no s.ob,fD:=B2 .undef s.kn s.kp}
def Ss.of (V:St):Ss:=⟨V.tmps.length,DM B3 0 V.tmps,V.fA.length,DM List.isEmpty 0 V.fA,V.fD.length,DM B3 0 V.fD⟩
theorem Hj (x:PV) (h:B3 x=true):x=.undef:=by cases x<;>first | rfl | (simp[B3] at h)
theorem MB (x:List α) (h:x.isEmpty=true):x=[]:=by cases x<;>first | rfl | (simp at h)
theorem HD (V:St):(Ss.of V).V=V:=by
 obtain⟨tmps,fA,fD⟩:=V;simp only[Ss.of,Ss.V]
 rw[GY (Z:=tmps) rfl fun i hi=>by rw[JN Hj,eG (by omega),bF,d6,bQ hi];rfl,
  GY (Z:=fA) rfl fun i hi=>by rw[JN MB,eG (by omega),bF,d6,bQ hi];rfl,
  GY (Z:=fD) rfl fun i hi=>by rw[JN Hj,eG (by omega),bF,d6,bQ hi];rfl]
def Ss.frame (nt:Nat) (args:fa):Ss:=⟨args.length+(nt - args.length),DM B3 0 args,nt,[],0,[]⟩
theorem XE (nt:Nat) (args:fa):(Ss.frame nt args).V={tmps:=args++List.replicate (nt - args.length) .undef,fA:=List.replicate nt [],fD:=[]}:=by
 simp only[Ss.frame,Ss.V]
 rw[GY (Z:=args++List.replicate (nt - args.length) .undef) (by simp) fun i hi=>by
  rw[JN Hj,eG (by omega),d6,bF];by_cases h:i < args.length
  ·rw[ck h,bQ h];rfl
  ·rw[cD (by omega),dZ,eH (by omega),cg (l:=args) (by omega)];rfl,
  GY (Z:=List.replicate nt []) (by simp) fun i hi=>by rw[dZ,eH hi];rfl]
 rfl
def Ss.t (s:Ss) (i:Nat):PV:=match Nat.blt i s.nt with
 | true=>Bs .undef s.tm i
 | false=>.undef
def Ss.o (s:Ss) (i:Nat):fg:=match Nat.blt i s.no with
 | true=>Bs [] s.ob i
 | false=>[]
theorem Hs (a b:Nat):Nat.blt a b=decide (a < b):=by rw[cW,cr,eI]
theorem Iq (s:Ss) (i:Nat):s.t i=s.V.tmps.getD i .undef:=by unfold Ss.t Ss.V;rw[M0,Hs];by_cases h:i < s.nt<;>simp[h]
theorem o_eq (s:Ss) (i:Nat):s.o i=s.V.fA.getD i []:=by unfold Ss.o Ss.V;rw[M0,Hs];by_cases h:i < s.no<;>simp[h]
def HE (s:Ss) (J:Nm):fe:=match Nat.blt J.1 s.no with
 | true=>GD (Bs [] s.ob J.1) J.2
 | false=>none
theorem MT (s:Ss):HE s=Aa s.V.fA:=by funext J;unfold HE Aa Ss.V;rw[GP,Hs];by_cases h:J.1 < s.no;{simp only[h,eK,eF,GO]};{simp only[h,eL,eE]}
def RX.evS (s:Ss):RX->RX
 | .t i=>.c (s.t i)
 | .c v=>.c v
def RX.evP (s:Ss):RX->PV
 | .t i=>s.t i
 | .c v=>v
theorem evS_eq (s:Ss):RX.evS s=fun x=>.c (x.ev s.V.tmps):=by
 funext x;cases x with
 | t i=>simp only[RX.evS,RX.ev,Iq]
 | c v=>rfl
theorem P1 (s:Ss):RX.evP s=RX.ev s.V.tmps:=by
 funext x;cases x with
 | t i=>exact Iq s i
 | c v=>rfl
section BX
variable {R:Type}
def fTS:List (Nat×PV)->(List (Nat×PV)->R)->R
 | [],K=>K []
 | p :: l,K=>match p with
  |(j,x)=>fN j fun j=>fH x fun x=>fTS l fun l=>K ((j,x) :: l)
def fOS:List (Nat×fg)->(List (Nat×fg)->R)->R
 | [],K=>K []
 | p :: l,K=>match p with
  |(j,x)=>fN j fun j=>N8 x fun x=>fOS l fun l=>K ((j,x) :: l)
def Eo (s:Ss) (K:Ss->R):R:=match s with
 | ⟨nt,tm,no,ob,kn,kp⟩=>fN nt fun nt=>fTS tm fun tm=>fN no fun no=>fOS ob fun ob=>fN kn fun kn=>fTS kp fun kp=>K ⟨nt,tm,no,ob,kn,kp⟩
theorem yT:∀ (l:List (Nat×PV)) (K:List (Nat×PV)->R),fTS l K=K l
 | [],_=>rfl
 |(j,x) :: l,K=>by simp only[fTS,Im,fH_eq];rw[yT l]
theorem yU:∀ (l:List (Nat×fg)) (K:List (Nat×fg)->R),fOS l K=K l
 | [],_=>rfl
 |(j,x) :: l,K=>by simp only[fOS,Im,Tc];rw[yU l]
theorem GX (s:Ss) (K:Ss->R):Eo s K=K s:=by cases s;simp only[Eo,Im,yT,yU]
end BX
def Re (ks:fc) (tm:List (Nat×PV)):List (Nat×PV):=ks.map fun k=>(k,Bs .undef tm k)
theorem Vy (tm:List (Nat×PV)) (i:Nat):∀ ks:fc,Bs .undef (Re ks tm) i=if ks.contains i=true then Bs .undef tm i else .undef
 | []=>by simp[Re,MM]
 | k :: ks=>by
  have ih:=Vy tm i ks;unfold Re at ih |-;rw[bP,Dy,ih,List.contains_cons];by_cases h:k=i;{subst h;simp};{have O:¬i=k:=fun e=>h e.symm;simp[h,O]}
def OP (ks:fc) (s:Ss):Ss:={s with tm:=Re ks s.tm}
theorem JW (l:List α) (f:α×Nat->β) (i:Nat):(l.zipIdx.map f)[i]?=(l[i]?).map fun a=>f (a,i):=by rw[bK,cM,dH,bX];rfl
theorem Uw (ks:fc) (s:Ss):(OP ks s).V=Fz ks s.V:=by
 unfold Fz OP Ss.V;dsimp only
 rw[GY (Z:=(B2 .undef s.nt s.tm).zipIdx.map fun (v,i)=>if ks.contains i then v else .undef) (by simp[H2]) fun i hi=>by rw[JW,GP,eH hi,Vy];rfl]
def DF {α:Type} (e:α->Bool) (m:Nat):List (Nat×α)->List (Nat×α)
 | []=>[]
 | p :: l=>match CO m p.1 with
  | true=>DF e m l
  | false=>match e p.2 with
   | true=>DF e (Nat.lor m (Nat.shiftLeft 1 p.1)) l
   | false=>p :: DF e (Nat.lor m (Nat.shiftLeft 1 p.1)) l
theorem bit_or (m j i:Nat):CO (Nat.lor m (Nat.shiftLeft 1 j)) i=(CO m i||decide (j=i)):=by rw[IS,IS];show (m ||| 1 <<< j).testBit i=_;rw[Nat.testBit_or,Nat.one_shiftLeft,Nat.testBit_two_pow]
theorem Hk {α:Type} {e:α->Bool} {d:α} (he:∀ x,e x=true->x=d) (hd:e d=true):∀ (l:List (Nat×α)) (m j:Nat) (x:α),(j,x)∈DF e m l↔(e x=false/\Bs d l j=x/\CO m j=false)
 | [],m,j,x=>by
  simp only[DF,eC,false_iff,MM];rintro ⟨U,rfl,_⟩;rw[hd] at U;cases U
 | p :: l,m,j,x=>by
  simp only[DF];cases hb:CO m p.1 with
  | true =>
   show (j,x)∈DF e m l↔_;rw[Hk he hd l,Dy];constructor;{rintro ⟨U,O,h3⟩;refine⟨U,?_,h3⟩;rw[eG (fun h=>by rw[h] at hb;rw[hb] at h3;cases h3),O]};{rintro ⟨U,O,h3⟩;rw[eG fun h=>by rw[h] at hb;rw[hb] at h3;cases h3] at O;exact⟨U,O,h3⟩}
  | false =>
   have step:(j,x)∈DF e (Nat.lor m (Nat.shiftLeft 1 p.1)) l↔(e x=false/\Bs d l j=x/\CO m j=false/\p.1≠j):=by rw[Hk he hd l,bit_or,di,decide_eq_false_iff_not]
   cases H:e p.2 with
   | true =>
    show (j,x)∈DF e _ l↔_;rw[step,Dy];constructor;{rintro ⟨U,O,h3,h4⟩;exact⟨U,by rw[eG h4,O],h3⟩};{rintro ⟨U,O,h3⟩;by_cases h:p.1=j;{rw[eH h] at O;rw[O] at H;rw[H] at U;cases U};{rw[eG h] at O;exact⟨U,O,h3,h⟩}}
   | false =>
    show (j,x)∈p :: DF e _ l↔_;rw[bE,step,Dy];constructor;{rintro (h | ⟨U,O,h3,h4⟩);{subst h;exact⟨H,by rw[eH rfl],hb⟩};{exact⟨U,by rw[eG h4,O],h3⟩}};{rintro ⟨U,O,h3⟩;by_cases h:p.1=j;{rw[eH h] at O;left;rw[<-h,<-O]};{rw[eG h] at O;exact .inr ⟨U,O,h3,h⟩}}
theorem Vp (J:Nm):∀ Z:fa,J∈Al Z↔∃ x∈Z,J∈x.names
 | []=>by simp[Al]
 | x :: Z=>by simp[Al,Vp J Z]
def Lq (n:Nat) (l:List (Nat×PV)):fh:=l.flatMap fun p=>match Nat.blt p.1 n with
 | true=>p.2.names
 | false=>[]
def PQ (n:Nat) (l:List (Nat×fg)):fh:=l.flatMap fun p=>match Nat.blt p.1 n with
 | true=>p.2.flatMap Ob.names
 | false=>[]
theorem Ym {l:List (Nat×α)}:x∈B2 d n l↔∃ i,i < n/\Bs d l i=x:=by simp[B2]
theorem Vo (J:Nm) (n:Nat) (tm:List (Nat×PV)):J∈Lq n (DF B3 0 tm)↔J∈Al (B2 .undef n tm):=by
 have hb:∀ i,CO 0 i=false:=fun i=>by rw[IS];simp
 rw[Vp];unfold Lq;simp only[cp,Ym];constructor;{rintro ⟨⟨j,x⟩,U,O⟩;rw[Hk Hj rfl] at U;rw[Hs] at O;by_cases h:j < n;{simp only[h,eK] at O;exact⟨x,⟨j,h,U.2.1⟩,O⟩};{simp[h] at O}};{rintro ⟨x,⟨i,U,O⟩,h3⟩;refine⟨(i,x),?_,?_⟩;{rw[Hk Hj rfl];refine⟨?_,O,hb i⟩;cases x<;>first | rfl | (simp[PV.names] at h3)};{rw[Hs];simp only[U,eK];exact h3}}
theorem aE (J:Nm) (n:Nat) (ob:List (Nat×fg)):J∈PQ n (DF List.isEmpty 0 ob)↔J∈(B2 [] n ob).flatMap fun l=>l.flatMap Ob.names:=by
 have hb:∀ i,CO 0 i=false:=fun i=>by rw[IS];simp
 unfold PQ;rw[cp,cp];simp only[Ym];constructor;{rintro ⟨⟨j,x⟩,U,O⟩;rw[Hk MB rfl] at U;rw[Hs] at O;by_cases h:j < n;{simp only[h,eK] at O;exact⟨x,⟨j,h,U.2.1⟩,O⟩};{simp[h] at O}};{rintro ⟨x,⟨i,U,O⟩,h3⟩;refine⟨(i,x),?_,?_⟩;{rw[Hk MB rfl];refine⟨?_,O,hb i⟩;cases x<;>first | rfl | (simp at h3)};{rw[Hs];simp only[U,eK];exact h3}}
def yV (R:fh) (d:Nat):Bool:=R.all fun J=>!Nat.beq J.1 d
def unS (s:Ss):fc:=fSp (DF List.isEmpty 0 s.ob) fun zzc=>fSp (Lq s.nt (DF B3 0 s.tm)++(Lq s.kn (DF B3 0 s.kp)++PQ s.no zzc)) fun R =>
 (zzc.filter fun p=>Nat.blt p.1 s.no&&yV R p.1).map (·.1)
theorem Tj (s:Ss) (d:Nat):d∈unS s↔d∈Gd s.V:=by
 have hb:∀ i,CO 0 i=false:=fun i=>by rw[IS];simp
 unfold unS Gd;rw[H6,H6];simp only[bA,cE,cV,bz,Hs,eI,yV,bI,cK];have hR:∀ J,J∈Lq s.nt (DF B3 0 s.tm)++(Lq s.kn (DF B3 0 s.kp)++PQ s.no (DF List.isEmpty 0 s.ob))↔J∈Al s.V.tmps++Al s.V.fD++s.V.fA.flatMap fun l=>l.flatMap Ob.names:=by intro J;rw[bS,bS,bS,bS,Vo,Vo,aE,or_assoc];rfl
 constructor;{rintro ⟨⟨j,x⟩,⟨U,O,h3⟩,h4⟩;have h4:j=d:=h4;subst h4;rw[Hk MB rfl] at U;refine⟨by rw[show s.V.fA.length=s.no from H2 _ _ _];exact O,?_,fun J np=>?_⟩;{rw[show s.V.fA.getD j []=x by rw[show s.V.fA=B2 [] s.no s.ob from rfl,M0,eH O];exact U.2.1];exact U.1};{have:=h3 J ((hR J).2 np);simpa using eg this}}
 ·rintro ⟨U,O,h3⟩;have U:d < s.no:=by rw[show s.V.fA.length=s.no from H2 _ _ _] at U;exact U
  refine⟨(d,s.V.fA.getD d []),⟨?_,U,fun J np=>?_⟩,rfl⟩;{rw[Hk MB rfl];refine⟨O,?_,hb d⟩;rw[show s.V.fA=B2 [] s.no s.ob from rfl,M0,eH U]}
  ·have:=h3 J ((hR J).1 np);cases hq:Nat.beq J.1 d with
   | false=>rfl
   | true=>have e:=ch hq;simp[e] at this
theorem VS {ds ds':fc} (h:∀ d,d∈ds↔d∈ds') (V:St):BR ds V=BR ds' V:=by
 have hc:∀ d,ds.contains d=ds'.contains d:=fun d=>by rw[cW,cy,cy,h d]
 unfold BR
 rw[show (ds.all fun d=>(V.fA.getD d []).isEmpty)=ds'.all fun d=>(V.fA.getD d []).isEmpty by
  rw[cW,bI,bI];exact⟨fun q d hd=>q d ((h d).2 hd),fun q d hd=>q d ((h d).1 hd)⟩]
 simp only[hc]
def subF (m:Nat) (J:Nm):Option fe:=match CO m J.1 with
 | true=>some none
 | false=>none
def subS (f:Nm->Option fe) (s:Ss):Ss:={s with tm:=s.tm.map fun p=>(p.1,p.2.sub f),ob:=s.ob.map fun p=>(p.1,p.2.map (Ob.sub f)),kp:=s.kp.map fun p=>(p.1,p.2.sub f)}
theorem Sq (f:Nm->Option fe):∀ Z:fa,AE f Z=Z.map (PV.sub f)
 | []=>rfl
 | x :: Z=>by simp[AE,Sq f Z]
theorem X6 (f:Nm->Option fe) (s:Ss):(subS f s).V=Cd f s.V:=by
 unfold subS Cd Ss.V;dsimp only
 have U:=TF (PV.undef) s.nt s.tm (PV.sub f);rw[show PV.undef.sub f=.undef by simp only[PV.sub]] at U;have O:B2 [] s.no (s.ob.map fun p=>(p.1,p.2.map (Ob.sub f)))=(B2 [] s.no s.ob).map (List.map (Ob.sub f)):=TF [] s.no s.ob (List.map (Ob.sub f));have h3:=TF (PV.undef) s.kn s.kp (PV.sub f);rw[show PV.undef.sub f=.undef by simp only[PV.sub]] at h3;rw[U,O,h3,Sq,Sq]
def PD (ds:fc) (s:Ss):Ss:=fN (DJ ds) fun m=>subS (subF m) {s with ob:=s.ob.filter fun p=>!CO m p.1}
theorem VT (ds:fc) (s:Ss) (h:(ds.all fun d=>(s.V.fA.getD d []).isEmpty)=false):(PD ds s).V=BR ds s.V:=by
 unfold PD;rw[Im,X6];unfold BR;rw[eG (by rw[h];decide)];have hf:subF (DJ ds)=fun m=>if ds.contains m.1 then some none else none:=by funext m;unfold subF;rw[IV];cases ds.contains m.1<;>rfl
 rw[hf];unfold Cd Ss.V;dsimp only
 congr 1
 have e1:B2 [] s.no (s.ob.filter fun p=>!CO (DJ ds) p.1)=(B2 [] s.no s.ob).zipIdx.map fun (l,i)=>if ds.contains i then [] else l :=
  GY (by simp[H2]) fun i hi=>by rw[JW,GP,eH hi,Uz [] (fun j=>!CO (DJ ds) j),IV];show some (if ds.contains i=true then [] else Bs [] s.ob i)=_;cases ds.contains i<;>rfl
 rw[e1];apply cj;intro i;rw[bK,JW,JW,bK];cases (B2 [] s.no s.ob)[i]? with
 | none=>rfl
 | some l =>
  simp only[bG];split<;>rfl
def NG (s:Ss):Ss:=match unS s with
 | []=>s
 | d :: ds=>PD (d :: ds) s
theorem SP (s:Ss):(NG s).V=BR (Gd s.V) s.V:=by
 unfold NG;split;{rename_i h;rw[<-VS (ds:=[]) fun d=>by rw[<-Tj,h]];rfl}
 ·rename_i d ds h;rw[<-VS (ds:=d :: ds) fun x=>by rw[<-Tj,h]];refine VT _ _ ?_;have hd:d∈Gd s.V:=by rw[<-Tj,h];exact bN
  unfold Gd at hd;simp only[cE,bz,cK] at hd;rw[dA,hd.2.1];rfl
def GQ (ds:fc) (s:Ss):Ss:=match ds.all fun d=>(s.o d).isEmpty with
 | true=>s
 | false=>PD ds s
theorem Sk (ds:fc) (s:Ss):(GQ ds s).V=BR ds s.V:=by unfold GQ;rw[show (fun d=>(s.o d).isEmpty)=fun d=>(s.V.fA.getD d []).isEmpty by funext d;rw[o_eq]];split;{rename_i h;unfold BR;rw[eH h]};{rename_i h;exact VT ds s h}
def NN (live:Option fc) (s:Ss):Ss:=match live with
 | none=>s
 | some ks=>Eo (OP ks s) fun s=>NG s
theorem SU (live:Option fc) (s:Ss):(NN live s).V=EC live s.V:=by unfold NN EC;split;{rfl};{rw[GX,SP,Uw]}
theorem yW (s:Ss) (d:Nat) (v:PV):Ss.V {s with tm:=(d,v) :: s.tm}={s.V with tmps:=s.V.tmps.set d v}:=by
 unfold Ss.V;dsimp only
 rw[TE]
theorem st_ob (s:Ss) (d:Nat) (v:fg):Ss.V {s with ob:=(d,v) :: s.ob}={s.V with fA:=s.V.fA.set d v}:=by
 unfold Ss.V;dsimp only
 rw[TE]
def putS (s:Ss) (J:Nm) (o:Ob):Ss:=match Nat.blt J.1 s.no with
 | true=>{s with ob:=(J.1,(Bs [] s.ob J.1).set J.2 o) :: s.ob}
 | false=>s
theorem putS_eq (s:Ss) (J:Nm) (o:Ob):(putS s J o).V={s.V with fA:=AM s.V.fA J o}:=by unfold putS AM;rw[show s.V.fA[J.1]?=if J.1 < s.no then some (Bs [] s.ob J.1) else none from GP _ _ _ _,Hs];by_cases h:J.1 < s.no;{simp only[h,eK,eF];rw[st_ob]};{simp only[h,eL,eE]}
def yX (J m:Nm):Option fe:=match Nat.beq m.1 J.1 with
 | true=>(match Nat.beq m.2 J.2 with
  | true=>some none
  | false=>none)
 | false=>none
theorem yY (J:Nm):yX J=fun m=>if m=J then some none else none:=by
 funext m;obtain⟨a,b⟩:=m;obtain⟨c,d⟩:=J;unfold yX;cases U:Nat.beq a c with
 | false=>have:=eg U;simp[this]
 | true =>
  cases O:Nat.beq b d with
  | false=>have:=eg O;simp[this]
  | true=>simp[ch U,ch O]
def yZ (o:Ai):Bool:=o.gv.isEmpty&&o.gone.isEmpty&&o.gC.isEmpty&&o.slot.isNone
def y3 (s:Ss) (o:Ai):Ss:=match o.gA with
 | some (J,ob)=>putS s J ob
 | none=>s
def N1 (s:Ss) (o:Ai):Ss:=match o.kill with
 | some J=>subS (yX J) s
 | none=>s
def LI (s:Ss) (dst:fb) (o:Ai):Ss:=match TH o with
 | true=>(match dst with
  | some d=>{s with tm:=(d,o.v) :: s.tm}
  | none=>s)
 | false=>match yZ o with
  | true=>Eo (N1 (y3 s o) o) fun s=>(match dst with
   | some d=>(match o.new with
    | []=>{s with tm:=(d,o.v) :: s.tm}
    | a :: ar=>{s with tm:=(d,o.v) :: s.tm,ob:=(d,a :: ar) :: s.ob})
   | none=>s)
  | false=>Ss.of (apply s.V dst o)
def Jw (u:Option (Nm×Ob)) (V:St):St:=match u with
 | some (J,ob)=>{V with fA:=AM V.fA J ob}
 | none=>V
def Jm (k:Option Nm) (V:St):St:=match k with
 | some J=>Cd (fun m=>if m=J then some none else none) V
 | none=>V
theorem updS_eq (s:Ss) (o:Ai):(y3 s o).V=Jw o.gA s.V:=by
 unfold y3 Jw;cases o.gA with
 | none=>rfl
 | some p=>exact putS_eq s p.1 p.2
theorem y4 (s:Ss) (o:Ai):(N1 s o).V=Jm o.kill s.V:=by
 unfold N1 Jm;cases o.kill with
 | none=>rfl
 | some J=>dsimp only;rw[X6,yY]
theorem y5 (V:St) (dst:fb) (v:PV) (new:fg) (gA:Option (Nm×Ob)) (kill:Option Nm) (io:Bool):apply V dst ⟨v,new,gA,kill,[],[],[],io,none⟩ =
  (match dst with
  | some d=>{Jm kill (Jw gA V) with tmps:=(Jm kill (Jw gA V)).tmps.set d v,fA:=if new.isEmpty then (Jm kill (Jw gA V)).fA else (Jm kill (Jw gA V)).fA.set d new}
  | none=>Jm kill (Jw gA V)):=by
 cases dst<;>cases gA<;>cases kill<;>rfl
theorem O4 (s:Ss) (dst:fb) (o:Ai):(LI s dst o).V=apply s.V dst o:=by
 unfold LI;split
 ·rename_i h;rw[<-O5];unfold Kf;rw[h];cases dst with
  | none=>rfl
  | some d=>simp only[yW,To]
 ·split
  ·rename_i h;rw[GX];obtain⟨v,new,gA,kill,gv,gone,gC,io,slot⟩:=o;simp only[yZ,bz,dj,bZ] at h;obtain⟨⟨⟨rfl,rfl⟩,rfl⟩,rfl⟩:=h;rw[y5];have e:(N1 (y3 s ⟨v,new,gA,kill,[],[],[],io,none⟩) ⟨v,new,gA,kill,[],[],[],io,none⟩).V=Jm kill (Jw gA s.V):=by rw[y4,updS_eq]
   generalize N1 (y3 s ⟨v,new,gA,kill,[],[],[],io,none⟩) ⟨v,new,gA,kill,[],[],[],io,none⟩=q at e;rw[<-e];cases dst with
   | none=>rfl
   | some d =>
    cases new with
    | nil=>exact yW q d v
    | cons a ar =>
     show Ss.V {q with tm:=(d,v) :: q.tm,ob:=(d,a :: ar) :: q.ob}=_;rw[yW {q with ob:=(d,a :: ar) :: q.ob},st_ob];rfl
  {rw[HD]}
def T6 (o:Av) (s:Ss):Bool :=
 if Dd o.op then
  match o.dst with
  | some d=>(match Nat.blt d s.no with
   | true=>(Bs [] s.ob d).isEmpty
   | false=>false)
  | none=>match o.op with
   | .call _ _=>true
   | _=>false
 else true
theorem sx (o:Av) (s:Ss):T6 o s=BQ o s.V:=by
 unfold T6 BQ;split
 ·cases o.dst with
  | none=>rfl
  | some d =>
   dsimp only
   rw[show s.V.fA[d]?=if d < s.no then some (Bs [] s.ob d) else none from GP _ _ _ _,Hs];by_cases h:d < s.no;{simp only[h,eK,eF];cases Bs [] s.ob d<;>rfl};{simp only[h,eL,eE]}
 {rfl}
section ops
variable (M:AC) {E:Type} (h:AB E) (dep:Nat) (ops:fq)
def outS (o:Av) (s:Ss) (e:E):Option (Ai×E) :=
 Ap (T6 o s) (match o.op with
  | .call f args=>match BU M h dep (o.dst.getD 0) (HE s) [] (f.evS s) (args.map (RX.evS s)) e with
   | some (out,e)=>Ap (HY o.dst out) (some (out,e))
   | none=>none
  | op=>match exec (o.dst.getD 0) (HE s) [] (op.iP (RX.evS s)) with
   | some out=>some (out,e)
   | none=>none)
theorem Yd (o:Av) (s:Ss) (e:E):outS M h dep o s e=Br M h dep o s.V e:=by
 unfold outS Br;rw[sx,MT,evS_eq];congr 1;cases o.op with
 | call f args=>have hc:=Um M h dep (o.dst.getD 0) (Aa s.V.fA) s.V.tmps f args e;simp only[hc]<;>rfl
 | _=>simp only[VL]<;>rfl
def PG (o:Av) (s:Ss):Option Bool :=
 match o.guard with
 | none=>some true
 | some (j,want) =>
  match GD ops j with
  | some p=>match p.dst with
   | some d=>match s.t d with
    | .bool b=>some (b==want)
    | .fM []=>some false
    | _=>none
   | none=>none
  | none=>none
theorem V1 (o:Av) (s:Ss):PG ops o s=BB ops o s.V.tmps:=by unfold PG BB;simp only[GO,Iq]<;>rfl
def Q4 (o:Av) (s:Ss) (e:E):Option (Ss×E) :=
 match PG ops o s with
 | some true=>match outS M h dep o s e with
  | some (out,e)=>su (P2 o.op) out fun out=>some (LI s o.dst out,e)
  | none=>none
 | some false=>some (LI s o.dst {v:=.fM []},e)
 | none=>none
def D2 {E:Type} (q:Ss×E):St×E:=(q.1.V,q.2)
theorem y6 (o:Av) (s:Ss) (e:E):(Q4 M h dep ops o s e).map D2=stepG M h dep ops o s.V e:=by
 unfold Q4 stepG Hv;rw[V1,Yd];cases BB ops o s.V.tmps with
 | none=>rfl
 | some b =>
  cases b with
  | true =>
   cases Br M h dep o s.V e with
   | none=>rfl
   | some p=>simp only[Py,bG,D2,O4]
  | false=>simp only[bG,D2,O4]
def Ks:fq->Ss->E->Option (Ss×E)
 | [],s,e=>some (s,e)
 | o :: rest,s,e=>match Q4 M h dep ops o s e with
  | some (s,e)=>Ks rest s e
  | none=>none
theorem Tp:∀ (l:fq) (s:Ss) (e:E),(Ks M h dep ops l s e).map D2=CX M h dep ops l s.V e
 | [],_,_=>rfl
 | o :: l,s,e=>by
  simp only[Ks,CX];rw[<-y6];cases Q4 M h dep ops o s e with
  | none=>rfl
  | some p=>exact Tp l p.1 p.2
def rnS (o:Av) (s:Ss) (out:Ai):fh :=
 if Dv o.op&&A6 out then [] else AA (HE s) (EI o.op (A6 out)) (Al (o.op.Z.map (RX.evP s))++out.gv)
def yldS (op:Ak) (s:Ss):Bool :=
 match op with
 | .call f args=>match f.evP s with
  | .fT _=>(Al (args.map (RX.evP s))).isEmpty
  | _=>false
 | _=>false
def y7 (i:Nat) (o:Av) (s:Ss) (out:Ai):Bf :=
 let A:=o.op.Z.map (RX.evP s)
 {i,dst:=o.dst,reads:=HU o.op.Z++Ca ops o,rn:=rnS o s out,rv:=if Jf o.op then [] else Fj (HE s) (rnS o s out),
  cls:=if Cz o.op&&A2 A then (if yldS o.op s then .calls else .other) else if A6 out then .quiet else if Ck out then .turns else if ES out then .ios else .other,
  on:=out.v.names++out.new.flatMap Ob.names,tch:=DQ out++(out.gv++out.kill.toList),gv:=!(out.gv++out.kill.toList).isEmpty,
  vn:=(HU o.op.Z++Ca ops o).flatMap fun i=>(s.t i).names
  nw:=out.new.isEmpty&&!Dd o.op,ld:=GC o.op s.V.tmps out.v,jF:=out.gC.map fun p=>(p.1,HE s p.1),aft:=out.gC,V:=HG o.dst o.op s.V.tmps,sl:=out.slot.map fun r=>(r,(s.V.fA.getD r []).length)}
theorem y8 (i:Nat) (o:Av) (s:Ss) (out:Ai):y7 ops i o s out=Cl ops i o s.V out:=by unfold y7 Cl rnS Cg yldS EV;simp only[P1,MT,Iq]<;>rfl
def PJ (i:Nat) (o:Av) (s:Ss) (e:E):Option (Ss×E×Bf) :=
 match PG ops o s with
 | some true=>match outS M h dep o s e with
  | some (out,e)=>su (P2 o.op) out fun out=>some (LI s o.dst out,e,y7 ops i o s out)
  | none=>none
 | some false=>some (LI s o.dst {v:=.fM []},e,{i,cls:=.quiet,dst:=o.dst,reads:=Ca ops o,rn:=[],vn:=(Ca ops o).flatMap fun i=>(s.t i).names,nw:=!Dd o.op})
 | none=>none
def D3 {E:Type} (q:Ss×E×Bf):St×E×Bf:=(q.1.V,q.2)
theorem sz (i:Nat) (o:Av) (s:Ss) (e:E):(PJ M h dep ops i o s e).map D3=HB M h dep ops i o s.V e:=by
 unfold PJ HB AX;rw[V1,Yd];cases BB ops o s.V.tmps with
 | none=>rfl
 | some b =>
  cases b with
  | true =>
   cases Br M h dep o s.V e with
   | none=>rfl
   | some p=>simp only[Py,bG,D3,O4,y8]
  | false=>simp only[bG,D3,O4,Iq]
def NR:List (Nat×Nat)->List Bf->Ss->E->Option (Ss×E)
 | [],_,s,e=>some (s,e)
 |(i,jF) :: rest,infos,s,e=>match GD ops i with
  | some o=>match PJ M h dep ops i o s e with
   | some (s,e,info)=>Ap (infos.all fun j=>jF.testBit j.i||G2 j info) (NR rest (info :: infos) s e)
   | none=>none
  | none=>none
theorem YJ (b:Bool) (x:Option α) (f:α->β):(Ap b x).map f=Ap b (x.map f):=by cases b<;>rfl
theorem Xg:∀ (l:List (Nat×Nat)) (infos:List Bf) (s:Ss) (e:E),(NR M h dep ops l infos s e).map D2=ED M h dep ops l infos s.V e
 | [],_,_,_=>rfl
 |(i,jF) :: l,infos,s,e=>by
  simp only[NR,ED,GO];cases ops[i]? with
  | none=>rfl
  | some o =>
   dsimp only
   rw[<-sz];cases PJ M h dep ops i o s e with
   | none=>rfl
   | some p =>
    show (Ap _ _).map D2=Ap _ _;rw[YJ,Xg l]
end ops
def Ij (m:Nat):List (Nat×PV)->Bool
 | []=>true
 | p :: l=>match p.2 with
  | .arr J _ _ _=>(match CO m p.1 with
   | true=>(match Nat.beq J.1 p.1 with
    | true=>(match J.2 with
     | 0=>Ij m l
     | _+1=>false)
    | false=>false)
   | false=>Ij m l)
  | _=>Ij m l
theorem aV (h:Ij m (p :: l)=true):Ij m l=true:=by
 simp only[Ij] at h
 repeat' split at h
 all_goals first | exact h | cases h
theorem VC (gp:fc) (t:Nat) (ht:gp.contains t=true):∀ (l:List (Nat×PV)),Ij (DJ gp) l=true->∀ J k o n,Bs .undef l t=.arr J k o n->J=(t,0)
 | [],_,_,_,_,_,h=>by rw[MM] at h;cases h
 |(j,x) :: l,h,J,k,o,n,hf=>by
  rw[Dy] at hf;by_cases hj:j=t
  ·subst hj;rw[eH rfl] at hf;have hf:x=.arr J k o n:=hf;subst hf;obtain⟨a,b⟩:=J;simp only[Ij,IV] at h;rw[show gp.contains j=true from ht] at h;dsimp only at h;cases hb:Nat.beq a j with
   | false=>rw[hb] at h;cases h
   | true =>
    rw[hb] at h;cases b with
    | zero=>rw[ch hb]
    | succ b=>cases h
  {rw[eG hj] at hf;exact VC gp t ht l (aV h) J k o n hf}
def Rg (s:Ss) (t:Nat):Bool:=match Nat.ble Ev t with
 | true=>(match s.t (t%Ev) with
  | .ref J o=>(match HE s J with
   | some (.cells _ cs)=>(match GD cs (o+(t / Ev - 1)) with
    | some .fF=>false
    | some (.arr m _ _ _)=>Nat.beq m.1 J.1
    | _=>true)
   | _=>true)
  | _=>true)
 | false=>(match s.t t with
  | .fF=>false
  | _=>true)
theorem y9 (s:Ss) (t k:Nat) (h:Rg s t=true):FL t k s.V=s.V:=by
 unfold Rg at h;unfold FL;by_cases hg:Ev<=t
 ·rw[eH hg];rw[show Nat.ble Ev t=true from Nat.ble_eq_true_of_le hg] at h;dsimp only at h;rw[Iq,MT] at h;unfold Mc;split
  ·rename_i J o H;rw[H] at h;dsimp only at h;split
   ·rename_i ty cs hl;rw[hl] at h;dsimp only at h;rw[GO] at h;unfold KX;dsimp only
    split;{rename_i hc;rw[hc] at h;cases h};{rename_i m _ _ _ hc;rw[hc] at h;rw[eG fun q=>q (ch h)]};{rfl}
   {rfl}
  {rfl}
 {rw[eG hg];rw[show Nat.ble Ev t=false by cases hq:Nat.ble Ev t with | false=>rfl | true=>exact eQ (bx hq) hg] at h;dsimp only at h;rw[Iq] at h;split;{rename_i H;rw[H] at h;cases h};{rfl}}
theorem XB (s:Ss):∀ grow:List (Nat×Nat),(grow.all fun p=>Rg s p.1)=true->grow.foldl (fun V (t,k)=>FL t k V) s.V=s.V
 | [],_=>rfl
 |(t,k) :: l,h=>by
  simp only[dA,bz] at h;rw[cJ];show l.foldl _ (FL t k s.V)=_;rw[y9 s t k h.1];exact XB s l h.2
def TP (gp:fc) (grow:List (Nat×Nat)) (s:Ss):Ss:=match Ij (DJ gp) s.tm&&grow.all fun p=>Rg s p.1 with
 | true=>s
 | false=>Ss.of (Ie gp grow s.V)
theorem sA (gp:fc) (grow:List (Nat×Nat)) (s:Ss):(TP gp grow s).V=Ie gp grow s.V:=by unfold TP;split;{rename_i h;rw[bz] at h;unfold Ie;rw[R7 s.V gp fun t ht J k o n e=>?_,XB s grow h.2];rw[show s.V.tmps=B2 .undef s.nt s.tm from rfl,M0] at e;split at e;{exact VC gp t (by simpa using ht) s.tm h.1 J k o n e};·cases e};{rw[HD]}
theorem R4 (V:St) (i:Nat):i∈gi V↔∃ v,V.tmps[i]?=some v/\B3 v=true:=by unfold gi;simp only[bA,cE];constructor;{rintro ⟨⟨v,j⟩,⟨U,O⟩,h3⟩;have h3:j=i:=h3;subst h3;rw[cd] at U;exact⟨v,U,O⟩};{rintro ⟨v,U,O⟩;exact⟨(v,i),⟨by rw[cd];exact U,O⟩,rfl⟩}
theorem Zo (V:St):FA (gi V) V=V:=by
 unfold FA
 have:(V.tmps.zipIdx.map fun (v,i)=>if (gi V).contains i then .undef else v)=V.tmps:=by
  apply cj;intro i;rw[JW];cases hv:V.tmps[i]? with
  | none=>rfl
  | some v =>
   show some (if (gi V).contains i=true then .undef else v)=some v;by_cases hc:(gi V).contains i=true;{obtain⟨w,U,O⟩:=(R4 V i).1 (by simpa using hc);rw[hv] at U;cases U;rw[eH hc,Hj v O]};{rw[eG hc]}
 rw[this]
def NT (gp:fc) (grow:List (Nat×Nat)) (s:Ss):Ss:=Eo (TP gp grow s) fun s=>NG s
theorem Xq (gp:fc) (grow:List (Nat×Nat)) (s:Ss):(NT gp grow s).V=norm gp grow s.V:=by unfold NT norm drop;rw[GX,SP,sA,Zo]
def JB (s:Ss):fc:=(DF B3 0 s.tm).map (·.1)
theorem XN (s:Ss) (i:Nat):i∈JB s↔B3 (Bs .undef s.tm i)=false:=by
 have hb:∀ i,CO 0 i=false:=fun i=>by rw[IS];simp
 unfold JB;simp only[bA];constructor;{rintro ⟨⟨j,x⟩,U,O⟩;have O:j=i:=O;subst O;rw[Hk Hj rfl] at U;rw[U.2.1];exact U.1};{intro h;exact⟨(i,Bs .undef s.tm i),by rw[Hk Hj rfl];exact⟨h,rfl,hb i⟩,rfl⟩}
def zc (s0 s1:Ss):Ss:=match Nat.beq s0.nt s1.nt with
 | true=>Eo (OP (JB s0) s1) fun s=>NG s
 | false=>Ss.of (drop (gi s0.V) s1.V)
theorem zd (s0 s1:Ss):(zc s0 s1).V=drop (gi s0.V) s1.V:=by
 unfold zc;split
 ·rename_i h;have h:=ch h;unfold drop;rw[GX,SP,Uw]
  have:Fz (JB s0) s1.V=FA (gi s0.V) s1.V:=by
   unfold Fz FA
   have:(s1.V.tmps.zipIdx.map fun (v,i)=>if (JB s0).contains i then v else .undef)=s1.V.tmps.zipIdx.map fun (v,i)=>if (gi s0.V).contains i then .undef else v:=by
    apply cj;intro i;rw[JW,JW];cases hv:s1.V.tmps[i]? with
    | none=>rfl
    | some v =>
     have hi:i < s0.nt:=by have U:=(bH.1 hv).1;rw[show s1.V.tmps.length=s1.nt from H2 _ _ _] at U;omega
     show some (if (JB s0).contains i=true then v else .undef)=some (if (gi s0.V).contains i=true then .undef else v);have h0:s0.V.tmps[i]?=some (Bs .undef s0.tm i):=by rw[show s0.V.tmps=B2 .undef s0.nt s0.tm from rfl,GP,eH hi]
     cases hq:B3 (Bs .undef s0.tm i) with
     | true =>
      have a:¬ (JB s0).contains i=true:=fun hc=>by have:=(XN s0 i).1 (by simpa using hc);rw[hq] at this;cases this
      have b:(gi s0.V).contains i=true:=by have:i∈gi s0.V:=(R4 _ i).2 ⟨_,h0,hq⟩;simpa using this
      rw[eG a,eH b]
     | false =>
      have a:(JB s0).contains i=true:=by have:=(XN s0 i).2 hq;simpa using this
      have b:¬ (gi s0.V).contains i=true:=fun hc=>by obtain⟨w,U,O⟩:=(R4 _ i).1 (by simpa using hc);rw[h0] at U;cases U;rw[hq] at O;cases O
      rw[eH a,eG b]
   rw[this]
  rw[this]
 {rw[HD]}
def BL (M:AC) (fuel:Nat):AU->{E:Type}->AB E->Nat->Ss->E->Option (Ex×Ss×E)
 | .skip,_,_,_,s,e=>some (.normal,s,e)
 | .region ops none AH,_,h,dep,s,e=>match Ks M h dep ops ops (GQ (Bx ops) s) e with
  | some (s,e)=>Eo (NN AH s) fun s=>some (.normal,s,e)
  | none=>none
 | .region ops (some jF) AH,_,h,dep,s,e=>match NR M h dep ops jF [] (GQ (Bx ops) s) e with
  | some (s,e)=>Eo (NN AH s) fun s=>some (.normal,s,e)
  | none=>none
 | .seq a b,_,h,dep,s,e=>match BL M fuel a h dep s e with
  | some (.normal,s,e)=>BL M fuel b h dep s e
  | r=>r
 | .cond c a b,_,h,dep,s,e=>match c.evP s with
  | .bool true=>BL M fuel a h dep s e
  | .bool false=>BL M fuel b h dep s e
  | _=>none
 | .block id body,_,h,dep,s,e=>match BL M fuel body h dep s e with
  | some (.exit jH,s,e)=>if jH=id then some (.normal,s,e) else some (.exit jH,s,e)
  | r=>r
 | .loop gp grow body,E,h,dep,s,e=>Eo (NT gp grow s) fun s0 =>
  match CW (fun (q:Ss×E)=>match BL M fuel body h dep q.1 q.2 with
   | some (.normal,s1,e)=>Eo (zc s0 s1) fun s1=>Eo (NT gp grow s1) fun s=>some (.inl (s,e))
   | some (x,s,e)=>some (.inr (x,s,e))
   | none=>none) fuel (s0,e) with
  | some (x,s,e)=>some (x,s,e)
  | none=>none
 | .scope body,_,h,dep,s,e=>match BL M fuel body h dep s e with
  | some (.exit id,s,e)=>if id < BK then some (.exit id,s,e) else none
  | r=>r
 | .norm grow,_,_,_,s,e=>Eo (Ss.of (norm [] grow (trim s.V))) fun s=>some (.normal,s,e)
 | .rangeFunc f ps a b,_,h,dep,s,e=>match CZ M fuel (.rangeFunc f ps a b) h dep s.V e with
  | some (x,V,e)=>Eo (Ss.of V) fun s=>some (x,s,e)
  | none=>none
 | .exit id,_,_,_,s,e=>some (.exit id,s,e)
 | .ret,_,_,_,s,e=>some (.ret,s,e)
 | .kd _ _ _ _,_,_,_,_,_=>none
 | .bad,_,_,_,_,_=>none
def DE {E:Type} (q:Ex×Ss×E):Ex×St×E:=(q.1,q.2.1.V,q.2.2)
def mapR {σ τ:Type} (d:σ->τ):Sum σ (Ex×σ)->Sum τ (Ex×τ)
 | .inl s=>.inl (d s)
 | .inr p=>.inr (p.1,d p.2)
theorem Vf {σ τ:Type} {f:σ->Option (Sum σ (Ex×σ))} {g:τ->Option (Sum τ (Ex×τ))} (d:σ->τ)
  (h:∀ s,g (d s)=(f s).map (mapR d)):∀ (n:Nat) (s:σ),CW g n (d s)=(CW f n s).map fun p=>(p.1,d p.2)
 | 0,_=>rfl
 | n+1,s=>by
  simp only[CW];rw[h s];cases f s with
  | none=>rfl
  | some r =>
   cases r with
   | inl s=>exact Vf d h n s
   | inr p=>rfl
theorem ze {E:Type} {F:Ss×E->Option (Sum (Ss×E) (Ex×Ss×E))} {G:St×E->Option (Sum (St×E) (Ex×St×E))}
  (h:∀ q,G (D2 q)=(F q).map (mapR D2)) (n:Nat) (q:Ss×E) :
  Option.map DE (match CW F n q with
   | some (x,s,e)=>some (x,s,e)
   | none=>none)=match CW G n (D2 q) with
   | some (x,V,e)=>some (x,V,e)
   | none=>none:=by
 rw[Vf D2 h];cases CW F n q<;>rfl
theorem Gb (M:AC) (fuel:Nat):∀ (c:AU) {E:Type} (h:AB E) (dep:Nat) (s:Ss) (e:E),(BL M fuel c h dep s e).map DE=At M fuel c h dep s.V e
 | .skip,_,_,_,_,_ | .exit _,_,_,_,_,_ | .ret,_,_,_,_,_ | .bad,_,_,_,_,_ | .kd _ _ _ _,_,_,_,_,_=>by simp only[BL,At]<;>rfl
 | .rangeFunc f ps a b,_,h,dep,s,e=>by
  simp only[BL,GJ];cases At M fuel (.rangeFunc f ps a b) h dep s.V e with
  | none=>rfl
  | some p =>
   obtain⟨x,V,e⟩:=p;simp only[GX,bG,DE,HD]
 | .norm grow,_,_,_,s,e=>by simp only[BL,At,GX,bG,DE,HD]
 | .region ops none AH,_,h,dep,s,e=>by
  simp only[BL,At];have hr:=Tp M h dep ops ops (GQ (Bx ops) s) e;rw[Sk] at hr;rw[<-hr];cases Ks M h dep ops ops (GQ (Bx ops) s) e with
  | none=>rfl
  | some p=>simp only[GX,bG,DE,D2,SU]
 | .region ops (some jF) AH,_,h,dep,s,e=>by
  simp only[BL,At];have hr:=Xg M h dep ops jF [] (GQ (Bx ops) s) e;rw[Sk] at hr;rw[<-hr];cases NR M h dep ops jF [] (GQ (Bx ops) s) e with
  | none=>rfl
  | some p=>simp only[GX,bG,DE,D2,SU]
 | .seq a b,_,h,dep,s,e=>by
  simp only[BL,At];rw[<-Gb M fuel a];cases BL M fuel a h dep s e with
  | none=>rfl
  | some p =>
   obtain⟨x,s1,e1⟩:=p;cases x with
   | normal=>exact Gb M fuel b h dep s1 e1
   | exit id=>rfl
   | ret=>rfl
 | .cond c a b,_,h,dep,s,e=>by
  simp only[BL,At,P1];cases c.ev s.V.tmps with
  | bool x=>cases x with
   | true=>exact Gb M fuel a h dep s e
   | false=>exact Gb M fuel b h dep s e
  | _=>rfl
 | .block id b,_,h,dep,s,e=>by
  simp only[BL,At];rw[<-Gb M fuel b];cases BL M fuel b h dep s e with
  | none=>rfl
  | some p =>
   obtain⟨x,s1,e1⟩:=p;cases x with
   | normal=>rfl
   | exit jH =>
    simp only[bG,DE];split<;>rfl
   | ret=>rfl
 | .scope b,_,h,dep,s,e=>by
  simp only[BL,At];rw[<-Gb M fuel b];cases BL M fuel b h dep s e with
  | none=>rfl
  | some p =>
   obtain⟨x,s1,e1⟩:=p;cases x with
   | normal=>rfl
   | exit jH =>
    simp only[bG,DE];split<;>rfl
   | ret=>rfl
 | .loop gp grow b,E,h,dep,s,e=>by
  simp only[BL,At,GX];rw[<-Xq];generalize NT gp grow s=s0;refine ze (fun q=>?_) fuel (s0,e);dsimp only [D2];rw[<-Gb M fuel b];cases BL M fuel b h dep q.1 q.2 with
  | none=>rfl
  | some p =>
   obtain⟨x,s1,e1⟩:=p;cases x with
   | normal=>simp only[bG,DE,mapR,D2,Xq,zd]
   | exit id=>rfl
   | ret=>rfl
def zf (nt:Nat) (A:fa) (s:Ss):Ss:={s with kn:=A.length+(nt - A.length)+s.kn,kp:=DM B3 0 A++s.kp.map fun p=>(p.1+(A.length+(nt - A.length)),p.2)}
theorem WN {α:Type} (d:α) (i:Nat):∀ (l l':List (Nat×α)),(∀ p∈l',p.1≠i)->Bs d (l++l') i=Bs d l i
 | [],l',h=>by
  induction l' with
  | nil=>rfl
  | cons p l' ih =>
   rw[dp,Dy,eG (h p bN)];exact ih fun q hq=>h q (bM _ hq)
 | p :: l,l',h=>by rw[List.cons_append,Dy,Dy,WN d i l l' h]
theorem VJ {α:Type} (d:α) (i:Nat):∀ (l l':List (Nat×α)),(∀ p∈l,p.1≠i)->Bs d (l++l') i=Bs d l' i
 | [],l',h=>rfl
 | p :: l,l',h=>by rw[List.cons_append,Dy,eG (h p bN),VJ d i l l' fun q hq=>h q (bM _ hq)]
theorem UT {α:Type} (d:α) (k i:Nat):∀ (l:List (Nat×α)),Bs d (l.map fun p=>(p.1+k,p.2)) (i+k)=Bs d l i
 | []=>rfl
 | p :: l=>by
  rw[bP,Dy,Dy,UT d k i l];by_cases h:p.1=i;{simp[h]};{rw[eG h,eG fun e=>h (by dsimp only at e;omega)]}
theorem Yh {α:Type} (e:α->Bool):∀ (l:List α) (i:Nat),∀ p∈DM e i l,p.1 < i+l.length
 | [],i,p,h=>by simp[DM] at h
 | x :: Z,i,p,h=>by
  have ih:=Yh e Z (i+1) p;simp only[DM] at h;simp only[ct];split at h;{have:=ih h;omega};{rcases bE.1 h with rfl | h;{show i < _;omega};{have:=ih h;omega}}
theorem zg (nt:Nat) (A:fa) (s:Ss):(zf nt A s).V=LK nt A s.V:=by
 have hk:B2 .undef (A.length+(nt - A.length)+s.kn) (DM B3 0 A++s.kp.map fun p=>(p.1+(A.length+(nt - A.length)),p.2))=A++List.replicate (nt - A.length) .undef++B2 .undef s.kn s.kp:=by refine GY (by simp[H2,dz]) fun i hi=>?_;by_cases h:i < A.length+(nt - A.length);{rw[WN _ _ _ _ (fun p hp=>by obtain⟨q,_,rfl⟩:=bA.1 hp;show q.1+(A.length+(nt - A.length))≠i;omega),JN Hj,eG (by omega),d6,bF,ck (by simp;omega)];by_cases O:i < A.length;{rw[ck O,bQ O];rfl};{rw[cD (by omega),dZ,eH (by omega),cg (l:=A) (by omega)];rfl}};{obtain⟨j,rfl⟩:∃ j,i=j+(A.length+(nt - A.length)):=⟨i - (A.length+(nt - A.length)),by omega⟩;rw[VJ _ _ _ _ (fun p hp=>by have:=Yh B3 A 0 p hp;omega),UT,cD (by simp)];simp only[ce,dR];rw[show j+(A.length+(nt - A.length)) - (A.length+(nt - A.length))=j by omega,GP,eH (by omega)]}
 unfold zf LK Ss.V;dsimp only
 rw[hk]
def Q6 (s:Ss):E5->ft
 | .tmp t=>some (s.t t)
 | .cell t n ag=>match s.t t with
  | .ref J o=>match HE s J with
   | some (.cells _ cs)=>B1 cs o n ag
   | _=>none
  | _=>none
def I5 (s:Ss):List E5->Option fa
 | []=>some []
 | r :: rs=>match Q6 s r,I5 s rs with
  | some v,some A=>some (v :: A)
  | _,_=>none
theorem zh (s:Ss) (r:E5):Q6 s r=G7 s.V r:=by
 cases r with
 | tmp t=>simp only[Q6,G7,Iq]
 | cell t n ag=>simp only[Q6,G7,Iq,MT]<;>rfl
theorem ME (s:Ss):∀ rs:List E5,I5 s rs=CK s.V rs
 | []=>rfl
 | r :: rs=>by
  simp only[I5,CK,zh,ME s rs]<;>rfl
def handS (shut:Bool) (σ:Nm->fe) (v:PV):Option (PV×fg) :=
 let S:=GR shut v
 let R:=AA σ Ax (v.names.filter fun J=>!S.contains J)
 let S:=if Cy S&&S.all (fun J=>!R.contains J) then S else []
 let R:=AA σ Ax (v.names.filter fun J=>!S.contains J)
 let v:=(v.sub fun J=>if S.contains J then none else A3 σ J).fQ (H9 S)
 match S.mapM σ with
 | some obs=>Ap (BJ σ R&&obs.all Ii) (some (v,obs.map Ob.bare))
 | none=>none
theorem zj (shut:Bool) (V:St) (v:PV):handS shut (Aa V.fA) v=HQ shut V v:=rfl
def zk (M:AC) (n:Nat) (fK:eU->fk):Gq:=fun _ h dep f args e =>
 match fK f with
 | none=>none
 | some fn=>CS false args fun args =>
  match BL M n fn.code h dep (Ss.frame fn.nt args) e with
  | some (x,s,e) =>
   match x with
   | .exit _=>none
   | _=>match I5 s fn.res with
    | some A=>match handS fn.shut (HE s) (DW A) with
     | some (v,obs)=>fV true v fun v=>yK true obs fun obs=>some (v,obs,e)
     | none=>none
    | none=>none
  | none=>none
theorem zl (M:AC) (n:Nat) (fK:eU->fk):zk M n fK=GZ M n fK:=by
 funext E h dep f args e;simp only[zk,GZ,FE];cases fK f with
 | none=>rfl
 | some fn =>
  dsimp only
  rw[<-XE,<-Gb];cases BL M n fn.code h dep (Ss.frame fn.nt args) e with
  | none=>rfl
  | some p =>
   obtain⟨x,s,e1⟩:=p;simp only[bG,DE,ME,MT,zj,N7,TA];cases x<;>rfl
def DD (M:AC) (fuel nt:Nat):AU->Ss->Option (Ex×Ss×fc)
 | .kd ops f args live,s=>match Ks M Ar 0 ops ops (GQ (Bx ops) s) () with
  | some (s,_)=>Ap (decide (args.length+1<=nt)&&isFn (f.evP s))
    (Eo (NN live (zf nt (f.evP s :: args.map (RX.evP s)) s)) fun s=>some (.normal,s,[args.length]))
  | none=>none
 | .seq a b,s=>match DD M fuel nt a s with
  | some (.normal,s,l)=>match DD M fuel nt b s with
   | some (x,s,l')=>some (x,s,l'++l)
   | none=>none
  | r=>r
 | .cond c a b,s=>match c.evP s with
  | .bool true=>DD M fuel nt a s
  | .bool false=>DD M fuel nt b s
  | _=>none
 | .block id body,s=>match DD M fuel nt body s with
  | some (.exit jH,s,l)=>if jH=id then some (.normal,s,l) else some (.exit jH,s,l)
  | r=>r
 | .scope body,s=>if Pb body then none else match DD M fuel nt body s with
  | some (.exit id,s,l)=>if id < BK then some (.exit id,s,l) else none
  | r=>r
 | c,s=>match BL M fuel c Ar 0 s () with
  | some (x,s,_)=>some (x,s,[])
  | none=>none
def DL (q:Ex×Ss×fc):Ex×St×fc:=(q.1,q.2.1.V,q.2.2)
theorem IA (M:AC) (fuel:Nat) (c:AU) (s:Ss):(match BL M fuel c Ar 0 s () with
  | some (x,s,_)=>some (x,s,([]:fc))
  | none=>none).map DL=ET (At M fuel c Ar 0 s.V ()):=by
 rw[<-Gb];cases BL M fuel c Ar 0 s ()<;>rfl
theorem JQ (M:AC) (fuel nt:Nat):∀ (c:AU) (s:Ss),(DD M fuel nt c s).map DL=AQ M fuel nt c s.V
 | .kd ops f args live,s=>by
  simp only[DD,AQ];have hr:=Tp M Ar 0 ops ops (GQ (Bx ops) s) ();rw[Sk] at hr;rw[<-hr];cases Ks M Ar 0 ops ops (GQ (Bx ops) s) () with
  | none=>rfl
  | some p =>
   obtain⟨s1,_⟩:=p;show (Ap _ _).map DL=Ap _ _;rw[YJ,P1];simp only[GX,bG,DL,D2,SU,zg]
 | .seq a b,s=>by
  simp only[DD,AQ];rw[<-JQ M fuel nt a];cases DD M fuel nt a s with
  | none=>rfl
  | some p =>
   obtain⟨x,s1,l⟩:=p;cases x with
   | normal =>
    show Option.map DL (match DD M fuel nt b s1 with
     | some (x,s,l')=>some (x,s,l'++l)
     | none=>none)=(match AQ M fuel nt b s1.V with
     | some (x,V,l')=>some (x,V,l'++l)
     | none=>none)
    rw[<-JQ M fuel nt b];cases DD M fuel nt b s1<;>rfl
   | exit id=>rfl
   | ret=>rfl
 | .cond c a b,s=>by
  simp only[DD,AQ,P1];cases c.ev s.V.tmps with
  | bool x=>cases x with
   | true=>exact JQ M fuel nt a s
   | false=>exact JQ M fuel nt b s
  | _=>rfl
 | .block id b,s=>by
  simp only[DD,AQ];rw[<-JQ M fuel nt b];cases DD M fuel nt b s with
  | none=>rfl
  | some p =>
   obtain⟨x,s1,l⟩:=p;cases x with
   | normal=>rfl
   | exit jH =>
    simp only[bG,DL];split<;>rfl
   | ret=>rfl
 | .scope b,s=>by
  simp only[DD,AQ];split;{rfl}
  ·rw[<-JQ M fuel nt b];cases DD M fuel nt b s with
   | none=>rfl
   | some p =>
    obtain⟨x,s1,l⟩:=p;cases x with
    | normal=>rfl
    | exit jH =>
     simp only[bG,DL];split<;>rfl
    | ret=>rfl
 | .skip,s=>IA M fuel .skip s
 | .region a b c,s=>IA M fuel (.region a b c) s
 | .loop a b c,s=>IA M fuel (.loop a b c) s
 | .rangeFunc a b c d,s=>IA M fuel (.rangeFunc a b c d) s
 | .exit a,s=>IA M fuel (.exit a) s
 | .ret,s=>IA M fuel .ret s
 | .norm a,s=>IA M fuel (.norm a) s
 | .bad,s=>IA M fuel .bad s
def IX (g:fc) (nt:Nat) (ins:fg) (A:fa):Ss:=⟨A.length+(nt - A.length),DM B3 0 A,nt,[(0,ins)],nt,DM B3 0 (E0 g nt ins.length)⟩
theorem VB (g:fc) (nt:Nat) (ins:fg) (A:fa):(IX g nt ins A).V=D4 g nt ins A:=by
 have h:=XE nt A;unfold Ss.frame Ss.V at h;injection h with U O h3;unfold IX D4 Ss.V;dsimp only
 rw[U,TE,O,GY (Z:=E0 g nt ins.length) (by simp[E0]) fun i hi=>by rw[JN Hj,eG (by omega),bF,d6,bQ (by simpa[E0] using hi)];rfl]
def ND (M:AC) (n:Nat) (fn:Ad) (ins:fg) (A:fa):Option (Ss×PV) :=
 if Cq fn.code then Eo (IX fn.gone fn.nt ins A) fun s0=>match BL M n fn.code Ar 0 s0 () with
  | some (x,s,_) =>
   match x with
   | .exit _=>none
   | _=>match I5 s fn.res with
    | some rs=>some (s,DW rs)
    | none=>none
  | none=>none
 else Eo (IX fn.gone fn.nt ins A) fun s0=>match DD M n fn.nt fn.code s0 with
  | some (x,s,l) =>
   match x with
   | .exit _=>none
   | _=>match Fp M fn.nt l s.V with
    | some V=>Eo (Ss.of V) fun s=>match I5 s fn.res with
     | some rs=>some (s,DW rs)
     | none=>none
    | none=>none
  | none=>none
theorem WH (M:AC) (n:Nat) (fn:Ad) (ins:fg) (A:fa):(ND M n fn ins A).map (fun q=>(q.1.V,q.2))=Bq M n fn ins A:=by
 unfold ND Bq;simp only[GX];rw[<-VB];split
 ·rw[<-Gb];cases BL M n fn.code Ar 0 (IX fn.gone fn.nt ins A) () with
  | none=>rfl
  | some p =>
   obtain⟨x,s,e1⟩:=p;simp only[bG,DE,ME];cases x with
   | exit id=>rfl
   | normal=>dsimp only;cases CK s.V fn.res<;>rfl
   | ret=>dsimp only;cases CK s.V fn.res<;>rfl
 ·rw[<-JQ];cases DD M n fn.nt fn.code (IX fn.gone fn.nt ins A) with
  | none=>rfl
  | some p =>
   obtain⟨x,s,l⟩:=p
   have key:∀ o:Option St,Option.map (fun q:Ss×PV=>(q.1.V,q.2)) (match o with
     | some V=>(match I5 (Ss.of V) fn.res with
      | some rs=>some (Ss.of V,DW rs)
      | none=>none)
     | none=>none)=(match o with
     | some V=>(match CK V fn.res with
      | some rs=>some (V,DW rs)
      | none=>none)
     | none=>none):=fun o=>by
    cases o with
    | none=>rfl
    | some V =>
     dsimp only
     rw[ME,HD];cases CK V fn.res with
     | none=>rfl
     | some rs=>simp only[bG,HD]
   simp only[bG,DL];cases x with
   | exit id=>rfl
   | normal=>exact key _
   | ret=>exact key _
end
end Go.Ab


namespace Go.Ab
variable{M1:AC} {args A:fa} {c:AU} {fn:Ad} {g:eU} {ins:fg} {n:Nat} {p:eU×fg×fa×Ss×PV} {r v:PV} {s s0:Ss}
abbrev Iu:=FuncId->fg->fa->Option (Ss×PV)
noncomputable def N4 (lr:Iu) (M:AC) (n:Nat) (fK:eU->fk) (f:eU) (dst:Nat) (σ:Nm->fe) (A:fa):fj :=
 match fK f with
 | none=>none
 | some fn =>
  match (Bm (AA σ Ax (Al A))).mapM σ with
  | none=>none
  | some ins =>
   Ap (!A2 A&&BJ σ (Bm (AA σ Ax (Al A)))&&ins.all (fun o=>!o.gq)&&(decide (A.length<=fn.nt)&&decide ((Bm (AA σ Ax (Al A))).length<=fn.nt)&&decide (0 < fn.nt))) (
    match lr f (ins.map (Ob.fQ fun m=>(0,(Bm (AA σ Ax (Al A))).idxOf m))) (AR (fun m=>(0,(Bm (AA σ Ax (Al A))).idxOf m)) A) with
    | some (s,v)=>match H4 fn (s.V,v) with
     | some (V,v)=>Gh σ dst (Bm (AA σ Ax (Al A))) V v
     | none=>none
    | none=>match Bq M n fn (ins.map (Ob.fQ fun m=>(0,(Bm (AA σ Ax (Al A))).idxOf m))) (AR (fun m=>(0,(Bm (AA σ Ax (Al A))).idxOf m)) A) with
     | some p=>match H4 fn p with
      | some (V,v)=>Gh σ dst (Bm (AA σ Ax (Al A))) V v
      | none=>none
     | none=>none)
def zm (sp:eU->(Nm->fe)->fa->fj) (fK:eU->fk) (lr:Iu):Prop :=
 ∀ g ins A s v fn,fK g=some fn->lr g ins A=some (s,v)->∃ n,Bq (Be sp fK n) n fn ins A=some (s.V,v)
section
variable {jA:eU->fa->ft} {lr:Iu} {sp:eU->(Nm->fe)->fa->fj} {fK:eU->fk}
theorem sB (jj:zm sp fK lr) (hM:D6 M1 (Be sp fK)) (n:Nat) (g:eU) (dst:Nat) (σ:Nm->fe) (A:fa) (out:Ai) (h:N4 lr M1 n fK g dst σ A=some out) :
  AS fun k=>E4 (Be sp fK k) k fK g dst σ A=some out:=by
 unfold N4 at h;unfold E4;cases ht:fK g with
 | none=>rw[ht] at h;cases h
 | some fn =>
  rw[ht] at h;simp only at h |-;cases hm:(Bm (AA σ Ax (Al A))).mapM σ with
  | none=>rw[hm] at h;cases h
  | some ins =>
   rw[hm] at h;simp only at h |-;unfold Ap at h |-;split at h
   case isFalse=>cases h
   rename_i hc;simp only[hc,eF];cases hq0:lr g (ins.map (Ob.fQ fun m=>(0,(Bm (AA σ Ax (Al A))).idxOf m))) (AR (fun m=>(0,(Bm (AA σ Ax (Al A))).idxOf m)) A) with
   | some p =>
    rw[hq0] at h;obtain⟨m,ly⟩:=jj _ _ _ p.1 p.2 fn ht hq0;refine (MK (Te m) m fn _ _ ly).mono fun k hk=>?_;rw[hk];exact h
   | none =>
    rw[hq0] at h;simp only at h;cases hq:Bq M1 n fn (ins.map (Ob.fQ fun m=>(0,(Bm (AA σ Ax (Al A))).idxOf m))) (AR (fun m=>(0,(Bm (AA σ Ax (Al A))).idxOf m)) A) with
    | none=>rw[hq] at h;cases h
    | some p =>
     rw[hq] at h;refine (MK hM n fn _ _ hq).mono fun k hk=>?_;rw[hk];exact h
noncomputable def Kc (jA:eU->fa->ft) (lr:Iu) (sp:eU->(Nm->fe)->fa->fj) (fK:eU->fk):Nat->AC
 | 0=>Be sp fK 0
 | n+1=>{Be sp fK 0 with call:=S5 jA (GZ (Kc jA lr sp fK n) n fK),io:=Fm fK (N4 lr (Kc jA lr sp fK n) n fK),nP:=Ib (Kc jA lr sp fK n) n fK}
theorem SL (hm:∀ g args r,jA g args=some r->∃ n,AI sp fK n Unit Ar 0 g args ()=some (r,[],())) (jj:zm sp fK lr):∀ n,D6 (Kc jA lr sp fK n) (Be sp fK):=by
 intro n;induction n with
 | zero=>exact Te 0
 | succ n ih =>
  have hk:=VY ih n fK;refine D6.pG ⟨fun k=>rfl,?_,fun k=>rfl,fun k=>rfl,fun k=>rfl,fun g dst σ A out h=>Xw fK (fun g dst σ A out h=>sB jj ih n g dst σ A out h) g dst σ A out h,Wh ih n fK⟩ rfl rfl rfl rfl;intro E1 E2 RE U O hh dep g args e1 e2 he r obs iw h;simp only[Kc,S5] at h;split at h;{rename_i r' hr;cases h;obtain⟨m,ly⟩:=hm g args r hr;obtain⟨_,rfl,a,ha⟩:=Si m Unit E2 (fun _ e=>e2=e) Ar (fun k=>O (k - 1)) (fun _ _ _ _ _ _ _ h=>by cases h) 0 g args () e2 rfl r [] () ly;exact⟨e2,he,a,fun k hk=>ha (k+1) (by omega)⟩};{exact hk E1 E2 RE U O hh _ g args e1 e2 he r obs iw h}
noncomputable def T0 (lr:Iu) (M:AC) (n:Nat) (fK:eU->fk) (f:eU) (dst:Nat) (σ:Nm->fe) (A:fa):fj :=
 match fK f with
 | none=>none
 | some fn =>
  fSp (Bm (AA σ Ax (Al A))) fun R =>
  match R.mapM σ with
  | none=>none
  | some ins =>
   Ap (!A2 A&&BJ σ R&&ins.all (fun o=>!o.gq)&&(decide (A.length<=fn.nt)&&decide (R.length<=fn.nt)&&decide (0 < fn.nt))) (
    Ri (ins.map (Ob.fQ fun m=>(0,R.idxOf m))) fun ins=>CS false (AR (fun m=>(0,R.idxOf m)) A) fun A =>
    match lr f ins A with
    | some (s,v)=>match H4 fn (s.V,v) with
     | some (V,v)=>Gh σ dst R V v
     | none=>none
    | none=>match ND M n fn ins A with
     | some (s,v)=>match H4 fn (s.V,v) with
      | some (V,v)=>Gh σ dst R V v
      | none=>none
     | none=>none)
theorem sC (lr:Iu) (M:AC) (n:Nat) (fK:eU->fk):T0 lr M n fK=N4 lr M n fK:=by
 funext f dst σ A;unfold T0 N4;simp only[H6,XK,FE];cases fK f with
 | none=>rfl
 | some fn =>
  dsimp only
  cases (Bm (AA σ Ax (Al A))).mapM σ with
  | none=>rfl
  | some ins =>
   dsimp only
   rw[<-WH];congr 1;cases lr f (ins.map (Ob.fQ fun m=>(0,(Bm (AA σ Ax (Al A))).idxOf m))) (AR (fun m=>(0,(Bm (AA σ Ax (Al A))).idxOf m)) A) with
   | some p=>rfl
   | none =>
    dsimp only
    cases ND M n fn (ins.map (Ob.fQ fun m=>(0,(Bm (AA σ Ax (Al A))).idxOf m))) (AR (fun m=>(0,(Bm (AA σ Ax (Al A))).idxOf m)) A)<;>rfl
noncomputable def Dm (jA:eU->fa->ft) (lr:Iu) (sp:eU->(Nm->fe)->fa->fj) (fK:eU->fk):Nat->AC
 | 0=>Be sp fK 0
 | n+1=>{Be sp fK 0 with call:=S5 jA (zk (Dm jA lr sp fK n) n fK),io:=Fm fK (T0 lr (Dm jA lr sp fK n) n fK),nP:=TJ (Dm jA lr sp fK n) n fK}
theorem OH (jA:eU->fa->ft) (lr:Iu) (sp:eU->(Nm->fe)->fa->fj) (fK:eU->fk):∀ n,Dm jA lr sp fK n=Kc jA lr sp fK n
 | 0=>rfl
 | n+1=>by simp only[Dm,Kc,OH jA lr sp fK n,zl,sC,sw]
end
def zn:Ob->Ob->Bool
 | .cells t cs,.cells t' jn=>decide (t=t')&&G0 cs jn
 | .arr k t Z,.arr k' t' xs'=>decide (k=k')&&(decide (t=t')&&G0 Z xs')
 | .map es,.map jS=>G0 es jS
 | _,_=>false
def PK:fg->fg->Bool
 | [],[]=>true
 | x :: Z,y :: ys=>zn x y&&PK Z ys
 | _,_=>false
theorem zo (x y:Ob) (h:zn x y=true):x=y:=by unfold zn at h;split at h;{simp only[bz,eI] at h;rw[h.1,HO _ _ h.2]};{simp only[bz,eI] at h;rw[h.1,h.2.1,HO _ _ h.2.2]};{rw[HO _ _ h]};·cases h
theorem Wf:∀ (Z ys:fg),PK Z ys=true->Z=ys
 | Z,ys,h=>by
  unfold PK at h;split at h;{rfl};{rename_i x Z y ys;simp only[bz] at h;rw[zo x y h.1,Wf Z ys h.2]};{cases h}
abbrev Ht:=List (eU×fg×fa×Ss×PV)
def DX:Ht->Iu
 | [],_,_,_=>none
 | p :: l,g,ins,A=>if p.1=g/\(PK p.2.1 ins&&G0 p.2.2.1 A)=true then some p.2.2.2 else DX l g ins A
def Gc (sp:eU->(Nm->fe)->fa->fj) (fK:eU->fk) (l:Ht):Prop :=
 ∀ p∈l,∀ fn,fK p.1=some fn->∃ n,Bq (Be sp fK n) n fn p.2.1 p.2.2.1=some (p.2.2.2.1.V,p.2.2.2.2)
section
variable {sp:eU->(Nm->fe)->fa->fj} {fK:eU->fk} {l:EZ} {li:Ht}
theorem C8:Gc sp fK []:=fun _ h=>by cases h
theorem C7 (h:∀ fn,fK p.1=some fn->∃ n,Bq (Be sp fK n) n fn p.2.1 p.2.2.1=some (p.2.2.2.1.V,p.2.2.2.2)) (hl:Gc sp fK li):Gc sp fK (p :: li):=fun q hq=>by rcases bE.1 hq with rfl | hq;{exact h};{exact hl q hq}
theorem O9:∀ {li:Ht},Gc sp fK li->zm sp fK (DX li)
 | [],_,g,ins,A,s,v,fn,_,h=>by cases h
 | p :: li,hl,g,ins,A,s,v,fn,ht,h=>by
  unfold DX at h;split at h;{rename_i hc;obtain⟨U,O⟩:=hc;simp only[bz] at O;have e1:=Wf _ _ O.1;have e2:=HO _ _ O.2;obtain⟨n,hn⟩:=hl p bN fn (by rw[U];exact ht);have h3:p.2.2.2=(s,v):=bw h;rw[e1,e2,h3] at hn;exact⟨n,hn⟩};{exact O9 (fun q hq=>hl q (bM _ hq)) g ins A s v fn ht h}
theorem AT (hl:Ez sp fK l) (hi:Gc sp fK li) 
  (h:(Dm (DU l) (DX li) sp fK n).call Unit Ar 0 g args ()=some (r,[],())):∃ m,AI sp fK m Unit Ar 0 g args ()=some (r,[],()):=by
 rw[OH] at h;obtain⟨m,ly⟩:=So (SL (Oz hl) (O9 hi) n) g args h;exact⟨m,ly m (bD _)⟩
theorem Dr (hl:Ez sp fK l) (hi:Gc sp fK li) 
  (h:(ND (Dm (DU l) (DX li) sp fK n) n fn ins A).map (fun q=>(Ss.of q.1.V,q.2))=some (s,v)):∃ m,Bq (Be sp fK m) m fn ins A=some (s.V,v):=by
 have O:=WH (Dm (DU l) (DX li) sp fK n) n fn ins A;obtain⟨q,hq,hs⟩:=bB.1 h;obtain⟨rfl,rfl⟩:=Prod.mk.inj hs;rw[hq,OH] at O;obtain⟨m,ly⟩:=MK (SL (Oz hl) (O9 hi) n) n fn ins A O.symm;rw[HD];exact⟨m,ly m (bD _)⟩
end
section
variable {sp:eU->(Nm->fe)->fa->fj} {fK:eU->fk} {l:EZ} {li:Ht}
noncomputable def Ha (M:AC) (fuel:Nat):Nat->AU->Ss->Option (AU×Ss)
 | 0,c,s=>some (c,s)
 | k+1,.seq a b,s=>match BL M fuel a Ar 0 s () with
  | some (.normal,s,_)=>Ha M fuel k b s
  | _=>none
 | _+1,_,_=>none
def CE:Nat->AU->AU
 | k+1,.seq _ b=>CE k b
 | _,c=>c
theorem La (M:AC) (fuel:Nat):∀ (k:Nat) (c:AU) (s s':Ss),(Ha M fuel k c s).map (fun q=>Ss.of q.2.V)=some s'->At M fuel c Ar 0 s.V ()=At M fuel (CE k c) Ar 0 s'.V ():=fun k=>by
 induction k with
 | zero =>
  intro c s s' h;simp only[Ha,bG,bC] at h;rw[<-h,HD];cases c<;>rfl
 | succ k ih =>
  intro c s s' h;cases c with
  | seq a b =>
   simp only[Ha] at h;simp only[At,CE];split at h;{rename_i s1 u U;have O:=Gb M fuel a Ar 0 s ();rw[U] at O;simp only[bG,DE] at O;rw[<-O];exact ih b s1 s' h};{cases h}
  | _=>simp[Ha] at h
noncomputable def endS (fn:Ad) (r:Option (Ex×Ss×Unit)):Option (Ss×PV) :=
 match r with
 | some (x,s,_) =>
  match x with
  | .exit _=>none
  | _=>match I5 s fn.res with
   | some rs=>some (s,DW rs)
   | none=>none
 | none=>none
theorem io_cut (hl:Ez sp fK l) (hi:Gc sp fK li) (hd:Cq fn.code=true)
  (hc:At (Dm (DU l) (DX li) sp fK n) n fn.code Ar 0 (IX fn.gone fn.nt ins A).V ()=At (Dm (DU l) (DX li) sp fK n) n c Ar 0 s0.V ())
  (h:(endS fn (BL (Dm (DU l) (DX li) sp fK n) n c Ar 0 s0 ())).map (fun q=>(Ss.of q.1.V,q.2))=some (s,v)):∃ m,Bq (Be sp fK m) m fn ins A=some (s.V,v):=by
 have key:Bq (Dm (DU l) (DX li) sp fK n) n fn ins A=some (s.V,v):=by
  unfold Bq;rw[hd,<-VB];simp only[eF];rw[hc,<-Gb];cases he:BL (Dm (DU l) (DX li) sp fK n) n c Ar 0 s0 () with
  | none=>rw[he] at h;cases h
  | some p =>
   obtain⟨x,s1,u⟩:=p;rw[he] at h;simp only[endS,ME] at h;simp only[bG,DE];cases x with
   | exit id=>cases h
   | _ =>
    dsimp only at h |-;cases hr:CK s1.V fn.res with
    | none=>rw[hr] at h;cases h
    | some rs =>
     rw[hr] at h;simp only[bG,bC,b8] at h;rw[<-h.1,<-h.2,HD]
 rw[OH] at key;obtain⟨m,hm⟩:=MK (SL (Oz hl) (O9 hi) n) n fn ins A key;exact⟨m,hm m (bD _)⟩
end
end Go.Ab

