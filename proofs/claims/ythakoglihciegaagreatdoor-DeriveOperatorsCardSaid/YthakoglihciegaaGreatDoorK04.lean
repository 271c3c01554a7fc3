/- Part 4 of a proof: laws of a machine. -/
import Derived.Test.YthakoglihciegaaGreatDoorK03
import Derived.RowKit
import Derived.Lib.AppendIntMem
import Derived.Lib.CountLaws
import Derived.Lib.Replace
import Derived.Lib.ItoaNum
import Derived.Conc.MuLone
import Derived.Test.YthakoglihciegaaGreatDoorProg
import Derived.Test.YthakoglihciegaaGreatDoorK01
import Derived.KernelRfl
set_option linter.all false

namespace Go.Ab
variable{cfg:ED} {op:AG}
variable {ks:AJ} {d:Nat} {R:Type} {K:AF->Option R} {r:R}
theorem uc (cs:jh):(W.agg cs).cells=cs:=rfl
theorem yH (h:ks.Ok) (hq:(FX ks.jC||NQ cfg op ks.tmps)=true) (A:op.H.all FE=true) (hk:Dp d (Bw ks.jC) ks.tmps op K=some r):K0 K r (exec d (Al ks.Z.jC) ks.Z.tmps op):=by
 have ev:=HN h;have lk:=H3 h;have px:∀ {x:RX},x∈op.H->(x.kv ks.tmps).ok:=fun hm=>UZ h A hm;cases op with
 | mov x =>
  refine⟨_,hk,AF.plain (px (by simp[AG.H])),?_⟩;simp[exec,AF.out,ev]
 | pick c a b =>
  have ha:=px (x:=a) (by simp[AG.H]);have hb:=px (x:=b) (by simp[AG.H]);simp only[Dp] at hk;split at hk;{rename_i hc;exact⟨_,hk,AF.plain ha,by simp[exec,AF.out,ev,hc,KV.pv]⟩};{rename_i hc;exact⟨_,hk,AF.plain hb,by simp[exec,AF.out,ev,hc,KV.pv]⟩};{rename_i v hc;rcases Qm hk with ⟨rfl,hk⟩ | ⟨rfl,hk⟩;{exact⟨_,hk,AF.plain ha,by simp[exec,AF.out,ev,hc,KV.pv]⟩};{exact⟨_,hk,AF.plain hb,by simp[exec,AF.out,ev,hc,KV.pv]⟩}};{cases hk}
 | box x =>
  have ha:=px (x:=x) (by simp[AG.H]);simp only[Dp] at hk;split at hk;{rename_i v hv;obtain⟨U,hk⟩:=BC hk;rw[hv] at ha;unfold AZ at U;exact⟨_,hk,AF.one (o:=.whole 0 v) trivial ha,by simp[exec,AF.out,ev,hv,KV.pv,AN,U,Ak.ob,DK]⟩};{rename_i cs hv;rw[hv] at ha;exact⟨_,hk,AF.one (o:=.cells 0 cs) trivial ha,by simp[exec,AF.out,ev,hv,KV.pv,AN,W.isVal,Ak.ob,W.cells]⟩};{cases hk};{cases hk};{cases hk};{refine⟨_,hk,AF.one (v:=.ref (d,0) 0) (o:=.cells 0 [x.kv ks.tmps]) trivial ⟨ha,trivial⟩,?_⟩;simp only[exec,AF.out,ev];cases hy:x.kv ks.tmps<;>simp_all [KV.pv,AN,W.isVal,Ak.ob,W.cells,AP]}
 | alloc ty z =>
  simp only[Dp] at hk;split at hk;{rename_i hz;exact⟨_,hk,AF.one (o:=.cells _ (z.map IV)) trivial (X3 hz),by simp[exec,AF.out,KV.pv,Ak.ob,YS]⟩};{cases hk}
 | build z ps =>
  simp only[Dp] at hk;split at hk;{exact Ez h A hk};{split at hk;{rename_i hz;obtain⟨cs,U,O,h3⟩:=yF h ps (fun x hm=>d6.1 A x hm) (X3 hz) hk;rw[YS] at h3;exact⟨_,U,AF.plain (v:=.agg cs) O,by simp[exec,AF.out,h3,KV.pv]⟩};{cases hk}}
 | nO k ps =>
  have ln:=LP h (ps:=ps) A;simp only[Dp] at hk;split at hk
  ·rename_i vs hv;obtain⟨U,hk⟩:=BC hk;have qd:=KK hv;refine⟨_,hk,AF.one (o:=.arr k 0 vs) trivial (JT ln hv),?_⟩;have hn:(AU vs).isEmpty=true:=by rw[(DQ (JT ln hv)).1];rfl
   unfold AX at U;simp only[exec,IE h,qd,hn,iH,AF.out,KV.pv,Ak.ob,AN,U,Ah,dI,dW,fV]
  ·split at hk;·cases hk
   ·rename_i jW;split at hk
    ·rename_i hc;obtain⟨U,hk⟩:=BC hk;refine⟨_,hk,⟨trivial,?_,by simp,by simp⟩,?_⟩;{intro o ho;simp only[ep] at ho;subst ho;exact Kg (Mt (Eh h) (N3 (by simpa[NQ] using hq)) A7) ln hc.2}
     ·have yI:(AU (AP (ps.map (RX.kv ks.tmps)))).isEmpty=false:=by rw[TM ln];simpa using jW
      unfold AX at U;rw[Ou h ln] at U;have lP:=hc.1;rw[Iw (Eh h),MQ (Eh h),<-Fs h,<-GG ln] at lP;simp only[exec,IE h,yI,dE,iG,AF.out,KV.pv,Ak.ob,Ah,dI,dW,fV];rw[Ou h ln,Iw (Eh h),<-Fs h,<-GG ln];unfold AN;rw[U,lP];rfl
    {cases hk}
 | load n ag x =>
  have ha:=px (x:=x) (by simp[AG.H]);simp only[Dp] at hk;split at hk;{rename_i V o hv;split at hk;{rename_i cs hl;have lY:Bj cs:=EG h.ob hl;split at hk;{rename_i td;split at hk;{rename_i hle;refine⟨_,hk,AF.plain (v:=.agg ((cs.drop o).take n)) (Oh (Oi lY _) _),?_⟩;simp[exec,ev,hv,KV.pv,lk,hl,Ak.ob,Ci,td,AN,H0,hle,AF.out,MM,MN]};{cases hk}};{rename_i td;split at hk;{rename_i c hc;refine⟨_,hk,AF.plain (DT.1 lY c (d9 hc)),?_⟩;simp[exec,ev,hv,KV.pv,lk,hl,Ak.ob,Ci,td,mz,hc,AF.out]};{cases hk}}};{rename_i v hl;obtain⟨z,hz,hk⟩:=DR hk;have hv':jN v=true:=EG h.ob hl;unfold A3 at hz;refine⟨_,hk,AF.plain (v:=.cv z) (ON (Eo hv') hz),?_⟩;simp[exec,ev,hv,KV.pv,lk,hl,Ak.ob,DK,hz,AF.out]};{cases hk}};{rename_i V k i o hv;split at hk;{rename_i k' kt H hl;split at hk;{rename_i o9;obtain⟨z,hz,hk⟩:=DR hk;have lM:Ap H=true:=EG h.ob hl;unfold IP at hz;split at hz;{rename_i e he;refine⟨_,hk,AF.plain (v:=.cv z) (ON (Eo (I9 lM he)) hz),?_⟩;simp[exec,ev,hv,KV.pv,lk,hl,Ak.ob,he,hz,AN,o9,AF.out]};{cases hz}};{cases hk}};{cases hk}};{exact Ez h A hk}
 | store n x v =>
  have ha:=px (x:=x) (by simp[AG.H]);have hb:=px (x:=v) (by simp[AG.H]);simp only[Dp] at hk;split at hk
  ·rename_i V o hv;split at hk
   ·rename_i cs hl;have lY:Bj cs:=EG h.ob hl;obtain⟨vs,hk,mG,qd,hlen,n7⟩:=XG hb hk;split at hk
    ·rename_i hle;refine⟨_,hk,AF.ll (o:=.cells _ (cs.take o++vs++cs.drop (o+n))) trivial (Lg (Lg (Oh lY _) mG) (Oi lY _)),?_⟩;have hl2:(AP vs).length=n:=by rw[H0,hlen]
     simp[exec,ev,hv,KV.pv,lk,hl,Ak.ob,<-qd,n7,hl2,AN,H0,hle,AF.out,j0,P5,MM,MN]
    {cases hk}
   {rename_i w hl;split at hk;{rename_i u hu;obtain⟨U,hk⟩:=BC hk;have hw:jN w=true:=EG h.ob hl;have huo:=KV.lT hb hu;unfold RB at U;simp only[dF,iK] at U;refine⟨_,hk,AF.ll (o:=.whole _ (In u w o)) trivial ?_,?_⟩;{show jN (In u w o)=true;simpa[In,jN,j0] using I5 (Iv (Eo hw) o) (I5 (Eo huo) (Js (Eo hw) _))};{have qd:=KV.ld hu;simp[exec,ev,hv,KV.pv,lk,hl,Ak.ob,DK,qd,U.1.1,U.1.2,U.2,AN,AF.out,In,uc]}};{cases hk}};{cases hk}
  ·rename_i V k i o hv;split at hk
   ·rename_i k' kt H hl;split at hk
    ·rename_i u hu;split at hk
     ·rename_i o9;obtain⟨ys,nZ,hk⟩:=DR hk;have lM:Ap H=true:=EG h.ob hl;have huo:=KV.lT hb hu;have qd:=KV.ld hu;unfold F9 at nZ;split at nZ
      ·rename_i es he;obtain⟨U,O⟩:=BC nZ;cases O;simp only[dF,iK] at U;have heo:Ap es=true:=by simpa[jN] using I9 lM he
       refine⟨_,hk,AF.ll (o:=.arr k kt _) trivial ?_,?_⟩;{refine X2 lM i ?_;simpa[jN,j0] using I5 (Iv heo o) (I5 (Eo huo) (Js heo _))}
       ·have hn:(AU u.cells).isEmpty=true:=by rw[(DQ (Eo huo)).1];rfl
        simp[exec,ev,hv,KV.pv,lk,hl,Ak.ob,he,qd,U.1.1,U.1.2,U.2,AN,o9,AF.out];rw[(DQ (Eo huo)).1]
      {rename_i e jW he;obtain⟨U,O⟩:=BC nZ;cases O;simp only[dF,iL] at U;refine⟨_,hk,AF.ll (o:=.arr k kt _) trivial (X2 lM i huo),?_⟩;have hn:u.names=[]:=(FH huo).1;simp only[exec,ev,hv,KV.pv,lk,hl,ed,Ak.ob,he,qd];subst o9;simp[AN,U.1.1.1,U.1.1.2,U.1.2,U.2,hn,AF.out,Ak.ob,KV.pv]};{cases nZ}
     {cases hk}
    {cases hk}
   {cases hk}
  {cases hk}
 | nilck x =>
  have ha:=px (x:=x) (by simp[AG.H]);simp only[Dp] at hk;split at hk;{rename_i hv;exact⟨_,hk,AF.plain (by trivial),by simp[exec,ev,hv,KV.pv,AF.out]⟩};{rename_i hv;exact⟨_,hk,AF.plain (by trivial),by simp[exec,ev,hv,KV.pv,AF.out]⟩};{rename_i hv;rw[hv] at ha;exact⟨_,hk,AF.plain ha,by simp[exec,ev,hv,KV.pv,AF.out]⟩};{rename_i hv;exact⟨_,hk,AF.plain (by trivial),by simp[exec,ev,hv,KV.pv,AF.out]⟩};{exact Ez h A hk}
 | bin o c nc x y =>
  simp only[Dp] at hk;split at hk
  ·rename_i V o' v U O;split at hk
   ·rcases Lm hk with ⟨hc,hk⟩ | ⟨_,hk⟩
    {split at hc;{refine⟨_,hk,AF.plain (v:=.lit false) trivial,?_⟩;simp[exec,ev,U,O,KV.pv,EZ,KY,AF.out]};{cases hc}};{cases hk}
   ·rcases Lm hk with ⟨hc,hk⟩ | ⟨_,hk⟩
    {split at hc;{refine⟨_,hk,AF.plain (v:=.lit true) trivial,?_⟩;simp[exec,ev,U,O,KV.pv,EZ,KY,AF.out]};{cases hc}};{cases hk}
   {cases hk}
  {exact Ez h A hk}
 | un o x =>
  cases o with
  | not =>
   simp only[Dp] at hk;split at hk;{rename_i b hv;exact⟨_,hk,AF.plain (v:=.lit (!b)) trivial,by simp[exec,ev,hv,KV.pv,AF.out]⟩};{exact Ez h A hk}
  | _=>exact Ez h A hk
 | mkI t x =>
  have ha:=px (x:=x) (by simp[AG.H]);simp only[Dp] at hk;split at hk;{rename_i v hv;refine⟨_,hk,AF.plain (v:=.cv (.iface t v)) ?_,?_⟩;{show jN (.iface t v)=true;simpa[jN] using KV.lT ha hv};{simp[exec,ev,KV.ld hv,KV.pv,AF.out]}}
  ·split at hk;·cases hk
   {cases hk};{cases hk};{cases hk};{exact⟨_,hk,AF.plain (v:=.iface t (x.kv ks.tmps)) ha,by simp[exec,ev,KV.pv,AF.out]⟩}
 | mkF f cap =>
  simp only[Dp] at hk;split at hk;{refine⟨_,hk,AF.plain (v:=.fn f (cap.map (RX.kv ks.tmps))) (LP h A),?_⟩;simp[exec,AF.out,KV.pv,IE h]};{cases hk}
 | mkMap=>exact⟨_,hk,AF.one (o:=.map []) trivial rfl,by simp[exec,AF.out,KV.pv,Ak.ob]⟩
 | insert c x k v =>
  have hb:=px (x:=k) (by simp[AG.H]);have hc:=px (x:=v) (by simp[AG.H]);simp only[Dp] at hk;split at hk
  ·rename_i V hv;split at hk;{rename_i es kk vv hl U O;obtain⟨nH,he,hk⟩:=DR hk;have o5:Ap es=true:=EG h.ob hl;have hko:=KV.lT hb U;have hvo:=KV.lT hc O;unfold Ip at he;split at he;{rename_i es2 hs;obtain⟨h3,h4⟩:=BC he;cases h4;simp only[dF] at h3;refine⟨_,hk,AF.ll (o:=.map nH) trivial (Tw hs o5 hko hvo),?_⟩;have hn:vv.names=[]:=(FH hvo).1;simp[exec,ev,hv,KV.pv,lk,hl,Ak.ob,KV.ld U,KV.ld O,hs,AN,h3.1,h3.2,hn,AF.out]};{cases he}}
   ·rename_i es kk hl U O;split at hk;·cases hk
    ·rename_i jW;split at hk
     ·rename_i nN;obtain⟨lP,hy,hcn⟩:=nN;obtain⟨nH,he,hk⟩:=DR hk;have o5:Ap es=true:=EG h.ob hl;have hko:=KV.lT hb U;have hok1:Bj [v.kv ks.tmps]:=⟨hc,trivial⟩;have k8:=Ou h hok1;have qL:=Kg (Mt (Eh h) (N3 (by simpa[NQ] using hq)) A7) hok1 hy;have e1:J (GQ (D5 (Bw ks.jC) A7) [v.kv ks.tmps]) 0=((v.kv ks.tmps).pv).sub (BX (Al ks.Z.jC)):=by rw[k8];simp[AP,Bf,J]
      have hvo:jN (((v.kv ks.tmps).pv).sub (BX (Al ks.Z.jC)))=true:=by rw[<-e1];rw[k8] at qL |-;exact (gp.1 qL).1
      rw[e1] at he;have hn2:((v.kv ks.tmps).pv).names.isEmpty=false:=by rw[KV.kY hc];simpa[D4] using jW
      have hrch:HI (Bw ks.jC) A7 (D4 [v.kv ks.tmps])=Bn (Al ks.Z.jC) A7 ((v.kv ks.tmps).pv).names:=by rw[Iw (Eh h),<-Fs h,KV.kY hc];simp[D4]
      rw[hrch,MQ (Eh h),<-Fs h] at lP;rw[hrch] at hcn hk;have hcn':¬ V∈Bn (Al ks.Z.jC) A7 ((v.kv ks.tmps).pv).names:=fun hm=>by rw[fw.2 hm] at hcn;cases hcn
      unfold Ip at he;split at he;{rename_i es2 hs;obtain⟨h3,h4⟩:=BC he;cases h4;simp only[dF] at h3;refine⟨_,hk,⟨trivial,by simp,fun m o' e=>by cases e;exact Tw hs o5 hko hvo,by simp⟩,?_⟩;simp[exec,ev,hv,KV.pv,lk,hl,Ak.ob,KV.ld U,hn2,hs,AN,h3.1,h3.2,lP,hcn',AF.out]};{cases he}
     {cases hk}
   {cases hk}
  {cases hk}
 | lookup c z ok x k =>
  have hb:=px (x:=k) (by simp[AG.H]);simp only[Dp] at hk;split at hk
  ·rename_i V hv;split at hk
   ·rename_i es kk hl U;split at hk
    case isFalse=>cases hk
    rename_i hz;obtain⟨u,hu,hk⟩:=DR hk;have o5:Ap es=true:=EG h.ob hl;unfold RG at hu;split at hu;·cases hu
    ·rename_i r' T;obtain⟨h3,h4⟩:=BC hu;cases h4
     have hrz:jN (r'.getD z)=true:=by
      cases r' with
      | none=>exact hz
      | some v=>exact TX T o5
     refine⟨_,hk,AF.plain (v:=.cv _) ?_,?_⟩;{show jN _=true;split;{simp[jN,Ap,hrz]};{exact hrz}};{simp[exec,ev,hv,KV.pv,lk,hl,Ak.ob,KV.ld U,T,AN,h3,AF.out]}
   {cases hk}
  {exact Ez h A hk}
 | r8 k z l c =>
  simp only[Dp] at hk;split at hk;{rename_i lv cv hl hc;split at hk;{rename_i hz;obtain⟨n,hn,hk⟩:=DR hk;unfold K5 at hn;split at hn;{rename_i a b U O;obtain⟨h3,h4⟩:=BC hn;cases h4;refine⟨_,hk,AF.one (o:=.arr k 0 (HO _ z)) trivial (ZI hz.2 _),?_⟩;simp only[dF,iK] at h3;simp[exec,ev,KV.ld hl,KV.ld hc,U,O,AN,h3.1,h3.2,hz.1,AF.out,KV.pv,Ak.ob,HO]};{cases hn}};{cases hk}};{cases hk}
 | slice k x lo hi mx =>
  simp only[Dp] at hk;split at hk
  ·rename_i V k' o n hv;split at hk
   ·rename_i hc;obtain⟨o9,hmx,kE⟩:=hc;obtain⟨m,hm,hk⟩:=DR hk;obtain⟨hh,hhi,hk⟩:=DR hk
    have jL:∀ (y:jB),(∀ z∈y.toList,z∈lo.toList++hi.toList++mx.toList)->(y.map fun z=>((z.kv ks.tmps).cl).getD .undef)=CH ks.Z.tmps y:=by
     intro y hy;cases y with
     | none=>rfl
     | some z =>
      have:=d6.1 kE z (hy z (by simp));obtain⟨v,hv⟩:=fZ.1 this;simp[CH,hv,ev,KV.ld hv]
    rw[jL mx fun z hz=>by simp only[dX];exact .inr hz] at hm;rw[jL hi fun z hz=>by simp only[dX];exact .inl (.inr hz)] at hhi;unfold Ev at hm hhi;subst o9
    have hmx':((mx.map (RX.ev ks.Z.tmps)).isNone||(hi.map (RX.ev ks.Z.tmps)).isSome)=true:=by
     rcases hmx with e | e
     ·cases mx with
      | none=>rfl
      | some _=>cases e
     ·cases hi with
      | none=>cases e
      | some _=>simp
    have yJ:∀ y:jB,CH ks.Z.tmps y=y.map (RX.ev ks.Z.tmps):=fun y=>by cases y<;>rfl
    rw[yJ] at hm hhi;cases lo with
    | none =>
     refine⟨_,hk,AF.plain (v:=.arr V k o hh) trivial,?_⟩;have hb0:C9 (none:jx) 0 hh=some 0:=rfl;simp only[exec,ev,hv,KV.pv,FV,yJ,hm,hhi,fV,hb0,AN,iU,ez,hmx',iH,AF.out];simp
    | some lo' =>
     obtain⟨l,hl,hk⟩:=DR hk;have hlo:=jL (some lo') (by simp);simp only[ed] at hlo;rw[hlo] at hl;unfold Ev at hl;rw[yJ] at hl;rcases Lm hk with ⟨U,hk⟩ | ⟨U,hk⟩
     {unfold Bb at U;simp only[dF,O5,M0] at U;refine⟨_,hk,AF.plain (v:=.cv (.sl k [] false)) rfl,?_⟩;have O:hh=l/\0 < l:=U;simp only[exec,ev,hv,KV.pv,FV,yJ,hm,hhi,hl,AN,iU,ez,hmx',iH,AF.out,iJ O];rfl}
     ·unfold Bb at U;simp only[Bool.and_eq_false_iff] at U;have O:¬ (hh=l/\0 < l):=by rintro ⟨a,b⟩;rcases U with U | U;{rw[show FF hh l=true from O5.2 a] at U;cases U};{rw[show CG 0 l=true from M0.2 b] at U;cases U}
      refine⟨_,hk,AF.plain (v:=.arr V k (As o l) (yi hh l)) trivial,?_⟩;simp only[exec,ev,hv,KV.pv,FV,yJ,hm,hhi,hl,AN,iU,ez,hmx',iH,AF.out,iI O,As,yi];rfl
   {cases hk}
  {exact Ez h A hk}
 | fieldAddr off x =>
  simp only[Dp] at hk;split at hk;{rename_i hv;exact⟨_,hk,AF.plain (by trivial),by simp[exec,ev,hv,KV.pv,AF.out]⟩};{rename_i hv;exact⟨_,hk,AF.plain (by trivial),by simp[exec,ev,hv,KV.pv,AF.out]⟩};{exact Ez h A hk}
 | field off n ag x =>
  have ha:=px (x:=x) (by simp[AG.H]);simp only[Dp] at hk;split at hk;{rename_i cs hv;rw[hv] at ha;have lY:Bj cs:=ha;split at hk;{rename_i td;split at hk;{rename_i hle;refine⟨_,hk,AF.plain (v:=.agg ((cs.drop off).take n)) (Oh (Oi lY _) _),?_⟩;simp[exec,ev,hv,KV.pv,Ci,td,AN,H0,hle,AF.out,MM,MN]};{cases hk}};{rename_i td;split at hk;{rename_i c hc;refine⟨_,hk,AF.plain (DT.1 lY c (d9 hc)),?_⟩;simp[exec,ev,hv,KV.pv,Ci,td,mz,hc,AF.out]};{cases hk}}};{exact Ez h A hk}
 | jJ k x i =>
  simp only[Dp] at hk;split at hk;{rename_i V k' o n hv;split at hk;{rename_i iv hi;split at hk;{rename_i o9;obtain⟨j,hj,hk⟩:=DR hk;obtain⟨U,hk⟩:=BC hk;rw[M0] at U;unfold Fl at hj;refine⟨_,hk,AF.plain (v:=.jQ V k (As o j) 0) trivial,?_⟩;simp[exec,ev,hv,KV.pv,KV.ld hi,hj,AN,o9,U,AF.out,As]};{cases hk}};{cases hk}};{exact Ez h A hk}
 | extract j x =>
  have ha:=px (x:=x) (by simp[AG.H]);simp only[Dp] at hk;split at hk;{rename_i H hv;rw[hv] at ha;have lM:Bj H:=ha;split at hk;{rename_i v hj;refine⟨_,hk,AF.plain (DT.1 lM v (d9 hj)),?_⟩;simp[exec,ev,hv,KV.pv,mz,hj,AF.out]};{cases hk}};{exact Ez h A hk}
 | len c x =>
  simp only[Dp] at hk;split at hk;{rename_i V k o n hv;split at hk;{exact⟨_,hk,AF.plain (v:=.cv (nI n)) rfl,by simp[exec,ev,hv,KV.pv,JW,AF.out,nI]⟩};·cases hk};{rename_i V hv;split at hk;{rename_i es hl;exact⟨_,hk,AF.plain (v:=.cv (nI (yk (Ah es)))) rfl,by simp[exec,ev,hv,KV.pv,JW,lk,hl,Ak.ob,AF.out,nI,yk,Ah]⟩};{cases hk}};{exact Ez h A hk}
 | append k ty s x =>
  have ha:=px (x:=s) (by simp[AG.H]);have hb:=px (x:=x) (by simp[AG.H]);simp only[Dp] at hk;obtain⟨ys,hk,hyo,nZ⟩:=TK h hb hk;split at hk;{rename_i V k' o n hv;split at hk;{rename_i nx kt H hl;split at hk;{rename_i o9;obtain⟨rfl,rfl,rfl⟩:=o9;obtain⟨U,hk⟩:=BC hk;unfold Bb at U;simp only[dF,OT,Ah,As] at U;have lM:Ap H=true:=EG h.ob hl;refine⟨_,hk,⟨trivial,by simp,?_,by simp⟩,?_⟩;{intro m o' e;cases e;exact I5 (Iv lM n) hyo};{simp[exec,ev,nZ,hv,KV.pv,lk,hl,Ak.ob,AN,U.1,U.2,AF.out,As,Ah,A5,Aq]}};{cases hk}};{cases hk}};{rename_i hv;obtain⟨U,hk⟩:=BC hk;simp only[OT,Ah] at U;exact⟨_,hk,AF.one (o:=.arr k ty ys) trivial hyo,by simp[exec,ev,nZ,hv,KV.pv,AN,U,AF.out,Ak.ob,Ah]⟩}
  ·rename_i v hv;obtain⟨zs,hz,nL⟩:=DR hk;rw[hv] at ha;have hvo:jN v=true:=ha;unfold appO at hz;split at hz;{obtain⟨U,O⟩:=BC hz;cases O;exact⟨_,nL,AF.one (o:=.arr k ty ys) trivial hyo,by simp at U;simp[exec,ev,nZ,hv,KV.pv,AN,U,AF.out,Ak.ob,Ah]⟩}
   ·rename_i k' H;split at hz;·cases hz
    {rename_i y ys';obtain⟨U,O⟩:=BC hz;cases O;simp only[dF,iL,iK] at U;obtain⟨rfl,U⟩:=U;refine⟨_,nL,AF.one (o:=.arr k ty (H++y :: ys')) trivial (I5 (by simpa[jN] using hvo) hyo),?_⟩;simp[exec,ev,nZ,hv,KV.pv,AN,U,AF.out,Ak.ob,Ah]}
   {cases hz}
  {cases hk}
 | copy k x s =>
  have ha:=px (x:=x) (by simp[AG.H]);have hb:=px (x:=s) (by simp[AG.H]);simp only[Dp] at hk;obtain⟨ys,hk,hyo,nZ⟩:=TK h hb hk;split at hk;{rename_i V k' o n hv;split at hk;{rename_i nx kt H hl;split at hk;{rename_i o9;obtain⟨rfl,rfl⟩:=o9;obtain⟨U,hk⟩:=BC hk;simp only[OT,Ah,As] at U;have lM:Ap H=true:=EG h.ob hl;refine⟨_,hk,AF.ll (o:=.arr k kt _) rfl (I5 (I5 (Iv lM o) (Iv hyo n)) (Js lM _)),?_⟩;simp[exec,ev,nZ,hv,KV.pv,lk,hl,Ak.ob,AN,U,AF.out,As,Ah,A5,Aq,AE,nI,minN];omega};{cases hk}};{cases hk}};{rename_i hv;exact⟨_,hk,AF.plain (v:=.cv (nI 0)) rfl,by simp[exec,ev,nZ,hv,KV.pv,AF.out,nI]⟩};{cases hk}
 | iter x =>
  simp only[Dp] at hk;split at hk;{rename_i v hv;obtain⟨s,hs,hk⟩:=DR hk;unfold strO at hs;split at hs;{cases hs;exact⟨_,hk,AF.one (o:=.jT s 0) trivial trivial,by simp[exec,ev,KV.ld hv,AF.out,KV.pv,Ak.ob]⟩};{cases hs}};{cases hk}
 | next x =>
  simp only[Dp] at hk;split at hk
  ·rename_i V hv;split at hk
   ·rename_i s pos hl;rcases Lm hk with ⟨U,hk⟩ | ⟨U,hk⟩
    {rw[M0] at U;unfold lenS at U;refine⟨_,hk,AF.ll (o:=.jT s (As pos (yg s pos))) (v:=.jE [.lit true,.cv (nI pos),.cv (yf s pos)]) ⟨trivial,rfl,rfl,trivial⟩ trivial,?_⟩;simp[exec,ev,hv,KV.pv,lk,hl,Ak.ob,U,AF.out,AP,nI,yf,yg,As]}
    ·have O:¬ pos < s.length:=by intro h3;rw[show CG pos (lenS s)=true from M0.2 h3] at U;cases U
     refine⟨_,hk,AF.plain (v:=.jE [.lit false]) ⟨trivial,trivial⟩,?_⟩;simp[exec,ev,hv,KV.pv,lk,hl,Ak.ob,O,AF.out,AP]
   {cases hk}
  {cases hk}
 | kJ t z ok x =>
  have ha:=px (x:=x) (by simp[AG.H]);simp only[Dp] at hk;split at hk;{rename_i u y hv;rw[hv] at ha;have hy:y.ok:=ha;split at hk;{rename_i hut;refine⟨_,hk,AF.plain ?_,?_⟩;{split;{exact⟨hy,trivial,trivial⟩};{exact hy}};{simp only[exec,ev,hv,KV.pv,hut,iH,AF.out];cases ok<;>simp[KV.pv,AP]}};{rename_i hut;split at hk;{rename_i hz;refine⟨_,hk,AF.plain (v:=.jE [.cv z,.lit false]) ⟨hz.2,trivial,trivial⟩,?_⟩;simp[exec,ev,hv,KV.pv,hut,AN,hz.1,AF.out,AP]};{cases hk}}};{exact Ez h A hk}
 | call f args=>cases hk
 | bad=>cases hk
 | conv k x=>exact Ez h A hk
 | k7 x=>exact Ez h A hk
 | ofBytes x =>
  have ha:=px (x:=x) (by simp[AG.H]);simp only[Dp] at hk;split at hk
  ·rename_i V k o n hv;rw[hv] at ha;obtain⟨ys,hk,hyo,nZ⟩:=TK h ha hk;obtain⟨z,hz,hk⟩:=DR hk;simp only[Ad,exec,RX.ev,RP,d8,AN,iH,elems,iU] at hz;cases hb:HE ys with
   | none=>rw[hb] at hz;cases hz
   | some s =>
    rw[hb] at hz;cases hz;refine⟨_,hk,AF.plain (v:=.cv (.str s)) rfl,?_⟩;have hys':elems (Al ks.Z.jC) 1 (.arr V k o n)=some ys:=nZ;simp[exec,ev,hv,KV.pv,RP,AN,hys',hb,AF.out]
  {exact Ez h A hk}
 | lK x=>exact Ez h A hk
 | mq x=>exact Ez h A hk
 | kq x lo hi=>exact Ez h A hk
 | kM k l x i=>exact Ez h A hk
 | lL x i=>exact Ez h A hk
 | j6 mx H=>exact Ez h A hk
end Go.Ab


namespace Go.Ab
variable{B:List (Nm×Nm)} {R:jl} {a b l vs:jh} {i:Nat} {m:Nm} {o:Ak} {p:KV} {sl:jj} {v x:W}
theorem Ak.nr (f:Nm->Nm) (h:o.ok):(o.jR f).ob=o.ob.jR f:=by
 cases o with
 | cells ty cs=>simp[Ak.jR,Ak.ob,Ob.jR,MX f h]
 | whole ty v =>
  have:=(DQ (Eo h)).1;simp only[Ak.jR,Ak.ob,Ob.jR,DK];rw[Og this]
 | _=>rfl
theorem Ak.kZ (f:Nm->Nm) (h:o.ok):(o.jR f).ok:=by
 cases o with
 | cells ty cs=>exact MR f h
 | _=>exact h
theorem VM (f:Nm->Nm) (H ys:jh):BE f (H++ys)=BE f H++BE f ys:=by
 induction H with
 | nil=>rfl
 | cons x H ih=>simp[BE,ih]
def D1 (vs:jh) (i:Nat) (l:jh):Prop:=∀ m v,l[m]?=some v->J vs (i+m)=v
theorem D1.left (h:D1 vs i (a++b)):D1 vs i a:=fun m v hm=>h m v (by
 rw[fu (dU.1 hm).1];exact hm)
theorem D1.right (h:D1 vs i (a++b)):D1 vs (i+a.length) b:=fun m v hm=>by have:=h (a.length+m) v (by rw[fN (by omega)];simpa using hm);rw[<-this,gA]
theorem D1.head (h:D1 vs i (x :: l)):J vs i=x:=h 0 x rfl
theorem D1.all (vs:jh):D1 vs 0 vs:=fun m v hm=>by unfold J;rw[dO,eu,hm];rfl
theorem OS {x:KV} (A:x.ok) (hf:x.cl.isSome=true) (h:D1 vs i [x.cl.getD .undef]):(KV.cv (J vs i)).pv=x.pv/\(KV.cv (J vs i)).ok:=by obtain⟨v,hv⟩:=fZ.1 hf;have:=h.head;rw[hv] at this;simp only[eN] at this;rw[this];exact⟨(KV.ld hv).symm,KV.lT A hv⟩
theorem YK (h:FP p=false):FP (fill p vs i).1=false:=by cases p<;>simp[FP] at h<;>simp only[fill]<;>first | rfl | (split<;>rfl)
mutual
theorem UC:∀ (p x:KV),Bz p x=true->x.ok->∀ (vs:jh) (i:Nat),D1 vs i (CC p x)->(fill p vs i).1.pv=x.pv/\(fill p vs i).1.ok/\(fill p vs i).2=i+(CC p x).length
 | .un,x,h,_,vs,i,_=>by cases x<;>simp[Bz] at h;exact⟨rfl,trivial,rfl⟩
 | .sk,x,h,_,vs,i,_=>by cases x<;>simp[Bz] at h;exact⟨rfl,trivial,rfl⟩
 | .ke d,x,h,_,vs,i,hs=>by
  cases x with
  | ke d' =>
   have U:J vs i=nI d':=hs.head;simp[fill,KV.pv,U,nI,Aj,KV.ok,CC]
  | _=>simp[Bz] at h
 | .ref V o,x,h,_,vs,i,_=>by cases x<;>simp[Bz] at h;obtain⟨rfl,rfl⟩:=h;exact⟨rfl,trivial,rfl⟩
 | .jQ _ _ _ _,x,h,_,vs,i,_=>by simp[Bz] at h
 | .mp V,x,h,_,vs,i,_=>by cases x<;>simp[Bz] at h;subst h;exact⟨rfl,trivial,rfl⟩
 | .it V,x,h,_,vs,i,_=>by cases x<;>simp[Bz] at h;subst h;exact⟨rfl,trivial,rfl⟩
 | .lg V,x,h,_,vs,i,_=>by cases x<;>simp[Bz] at h;subst h;exact⟨rfl,trivial,rfl⟩
 | .arr V k o n,x,h,_,vs,i,hs=>by
  cases x with
  | arr kR k' o' n' =>
   simp only[Bz,dF,iL] at h;obtain⟨⟨rfl,rfl⟩,ho⟩:=h;have:=fQ ho;subst this;have U:J vs i=nI n':=hs.head;simp[fill,KV.pv,U,nI,Aj,KV.ok,CC]
  | _=>simp[Bz] at h
 | .lit b,x,h,A,vs,i,hs=>by
  have:=OS A (by simpa[Bz] using h) (by simpa[CC] using hs);exact⟨this.1,this.2,by simp[fill,CC]⟩
 | .kx,x,h,A,vs,i,hs=>by
  have:=OS A (by simpa[Bz] using h) (by simpa[CC] using hs);exact⟨this.1,this.2,by simp[fill,CC]⟩
 | .cv v,x,h,A,vs,i,hs=>by
  have:=OS A (by simpa[Bz] using h) (by simpa[CC] using hs);exact⟨this.1,this.2,by simp[fill,CC]⟩
 | .fn f cap,x,h,A,vs,i,hs=>by
  cases x with
  | fn f' nT =>
   simp only[Bz,dF,iL] at h;obtain⟨rfl,h⟩:=h;obtain⟨a,b,c⟩:=MS cap nT h A vs i (by simpa[CC] using hs);exact⟨by simp[fill,KV.pv,a],b,by simp[fill,CC,c]⟩
  | _=>simp[Bz] at h
 | .jE H,x,h,A,vs,i,hs=>by
  cases x with
  | jE ys =>
   simp only[Bz] at h;obtain⟨a,b,c⟩:=MS H ys h A vs i (by simpa[CC] using hs);exact⟨by simp[fill,KV.pv,a],b,by simp[fill,CC,c]⟩
  | _=>simp[Bz] at h
 | .agg cs,x,h,A,vs,i,hs=>by
  simp only[Bz] at h;simp only[CC] at hs;by_cases hc:(EF cs).isSome=true;{rw[iJ hc] at h hs;have:=OS A h hs;simp only[fill,hc,iH];exact⟨this.1,this.2,by simp[CC,hc]⟩}
  ·rw[iI hc] at h hs;cases x with
   | agg mn =>
    obtain⟨a,b,c⟩:=MS cs mn h A vs i hs;simp only[fill,iI hc];exact⟨by simp[KV.pv,a],b,by simp[CC,hc,c]⟩
   | _=>simp at h
 | .iface t y,x,h,A,vs,i,hs=>by
  simp only[Bz] at h;simp only[CC] at hs;by_cases hc:y.cl.isSome=true;{rw[iJ hc] at h hs;have:=OS A h hs;simp only[fill,hc,iH];exact⟨this.1,this.2,by simp[CC,hc]⟩}
  ·rw[iI hc] at h hs;cases x with
   | iface t' y' =>
    simp only[dF,iL] at h;obtain⟨rfl,h⟩:=h;obtain⟨a,b,c⟩:=UC y y' h A vs i hs;simp only[fill,iI hc];exact⟨by simp[KV.pv,a],b,by simp[CC,hc,c]⟩
   | _=>simp at h
theorem MS:∀ (ps H:jn),E4 ps H=true->Bj H->∀ (vs:jh) (i:Nat),D1 vs i (Hc ps H)->AP (DM ps vs i).1=AP H/\Bj (DM ps vs i).1/\(DM ps vs i).2=i+(Hc ps H).length
 | [],H,h,_,vs,i,_=>by cases H<;>simp[E4] at h;exact⟨rfl,trivial,rfl⟩
 | p :: ps,H,h,A,vs,i,hs=>by
  cases H with
  | nil=>simp[E4] at h
  | cons x H =>
   simp only[E4,dF] at h;simp only[Hc] at hs;obtain⟨a,b,c⟩:=UC p x h.1 A.1 vs i hs.left;obtain⟨a',b',c'⟩:=MS ps H h.2 A.2 vs (fill p vs i).2 (by rw[c];exact hs.right);refine⟨by simp[DM,AP,a,a'],⟨b,b'⟩,?_⟩;simp only[DM,Hc,eA];rw[c',c];omega
end
theorem ud (p x:Ak) (h:Ec p x=true) (A:x.ok) (vs:jh) (i:Nat) (hs:D1 vs i (H2 p x)):(C4 p vs i).1.ob=x.ob/\(C4 p vs i).1.ok/\(C4 p vs i).2=i+(H2 p x).length:=by
 cases p with
 | cells ty cs =>
  cases x with
  | cells rS mn =>
   simp only[Ec,dF,iL] at h;obtain⟨rfl,h⟩:=h;obtain⟨a,b,c⟩:=MS cs mn h A vs i (by simpa[H2] using hs);exact⟨by simp[C4,Ak.ob,a],b,by simp[C4,H2,c]⟩
  | _=>simp[Ec] at h
 | whole ty w =>
  cases x with
  | whole rS v =>
   simp only[Ec,iL] at h;subst h;have:J vs i=v:=hs.head;exact⟨by simp[C4,Ak.ob,this],by simp only[C4,this];exact A,by simp[C4,H2]⟩
  | _=>simp[Ec] at h
 | arr k kt ws =>
  cases x with
  | arr k' kt' H =>
   simp only[Ec,dF,iL] at h;obtain⟨rfl,rfl⟩:=h;have:J vs i=.sl k H false:=hs.head;exact⟨by simp[C4,Ak.ob,this,Ao],by simp only[C4,this,Ao];exact A,by simp[C4,H2]⟩
  | _=>simp[Ec] at h
 | map ws =>
  cases x with
  | map es =>
   have:J vs i=.ki es:=hs.head;exact⟨by simp[C4,Ak.ob,this,Me],by simp only[C4,this,Me];exact A,by simp[C4,H2]⟩
  | _=>simp[Ec] at h
 | jT s0 p0 =>
  cases x with
  | jT s pos =>
   have U:J vs i=.str s:=hs.head;have O:J vs (i+1)=nI pos:=hs 1 _ rfl;exact⟨by simp[C4,Ak.ob,U,O,strP,Aj,nI],trivial,by simp[C4,H2]⟩
  | _=>simp[Ec] at h
theorem Tf:∀ (ps H:jq),Fw ps H=true->(∀ o∈H,o.ok)->∀ (vs:jh) (i:Nat),D1 vs i (Ju ps H)->(DI ps vs i).1.map Ak.ob=H.map Ak.ob/\(∀ o∈(DI ps vs i).1,o.ok)/\(DI ps vs i).2=i+(Ju ps H).length
 | [],[],_,_,vs,i,_=>⟨rfl,by simp[DI],rfl⟩
 | [],_ :: _,h,_,_,_,_=>by simp[Fw] at h
 | _ :: _,[],h,_,_,_,_=>by simp[Fw] at h
 | p :: ps,x :: H,h,A,vs,i,hs=>by
  simp only[Fw,dF] at h;simp only[Ju] at hs;obtain⟨a,b,c⟩:=ud p x h.1 (A x (by simp)) vs i hs.left;obtain⟨a',b',c'⟩:=Tf ps H h.2 (fun o ho=>A o (by simp[ho])) vs (C4 p vs i).2 (by rw[c];exact hs.right);refine⟨by simp[DI,a,a'],?_,?_⟩;{intro o ho;simp only[DI,dM] at ho;rcases ho with rfl | ho;{exact b};{exact b' o ho}};{simp only[DI,Ju,eA];rw[c',c];omega}
mutual
theorem TE:∀ (p:KV) (x:W) {l:jh},CM p x=some l->∀ (vs:jh) (i:Nat),D1 vs i l->(fill p vs i).1.pv=x/\(fill p vs i).1.ok/\(fill p vs i).2=i+l.length
 | .un,x,l,h,vs,i,_=>by cases x<;>simp[CM] at h;subst h;exact⟨rfl,trivial,rfl⟩
 | .sk,x,l,h,vs,i,_=>by
  simp only[CM] at h;split at h;·cases h;exact⟨rfl,trivial,rfl⟩
  {cases h}
 | .ke d,x,l,h,vs,i,hs=>by
  cases x with
  | ke d' =>
   simp only[CM] at h;cases h;have U:J vs i=nI d':=hs.head;simp[fill,KV.pv,U,nI,Aj,KV.ok]
  | _=>simp[CM] at h
 | .jQ _ _ _ _,x,l,h,vs,i,_=>by simp[CM] at h
 | .lg V,x,l,h,vs,i,_=>by
  simp only[CM] at h;split at h;{obtain⟨U,O⟩:=BC h;simp at U O;subst U;subst O;exact⟨rfl,trivial,rfl⟩};{cases h}
 | .ref V o,x,l,h,vs,i,_=>by
  cases x<;>simp[CM] at h;obtain⟨U,O⟩:=BC h;simp at U O;obtain⟨rfl,rfl⟩:=U;subst O;exact⟨rfl,trivial,rfl⟩
 | .mp V,x,l,h,vs,i,_=>by
  cases x<;>simp[CM] at h;obtain⟨U,O⟩:=BC h;simp at U O;subst U;subst O;exact⟨rfl,trivial,rfl⟩
 | .it V,x,l,h,vs,i,_=>by
  cases x<;>simp[CM] at h;obtain⟨U,O⟩:=BC h;simp at U O;subst U;subst O;exact⟨rfl,trivial,rfl⟩
 | .arr V k o n,x,l,h,vs,i,hs=>by
  cases x with
  | arr kR k' o' n' =>
   simp only[CM] at h;obtain⟨U,O⟩:=BC h;cases O;simp only[dF,iL] at U;obtain⟨⟨rfl,rfl⟩,ho⟩:=U;have:=fQ ho;subst this;have U:J vs i=nI n':=hs.head;simp[fill,KV.pv,U,nI,Aj,KV.ok]
  | _=>simp[CM] at h
 | .lit b,x,l,h,vs,i,hs=>by
  simp only[CM] at h;obtain⟨U,O⟩:=BC h;cases O;have:=hs.head;exact⟨this,by simp only[fill,KV.ok,this];exact U,rfl⟩
 | .kx,x,l,h,vs,i,hs=>by
  simp only[CM] at h;obtain⟨U,O⟩:=BC h;cases O;have:=hs.head;exact⟨this,by simp only[fill,KV.ok,this];exact U,rfl⟩
 | .cv v,x,l,h,vs,i,hs=>by
  simp only[CM] at h;obtain⟨U,O⟩:=BC h;cases O;have:=hs.head;exact⟨this,by simp only[fill,KV.ok,this];exact U,rfl⟩
 | .fn f cap,x,l,h,vs,i,hs=>by
  cases x with
  | fn f' nT =>
   simp only[CM] at h;split at h;{rename_i hf;subst hf;obtain⟨a,b,c⟩:=N7 cap nT h vs i hs;exact⟨by simp[fill,KV.pv,a],b,c⟩};{cases h}
  | _=>simp[CM] at h
 | .jE H,x,l,h,vs,i,hs=>by
  cases x with
  | jE ys =>
   simp only[CM] at h;obtain⟨a,b,c⟩:=N7 H ys h vs i hs;exact⟨by simp[fill,KV.pv,a],b,c⟩
  | _=>simp[CM] at h
 | .agg cs,x,l,h,vs,i,hs=>by
  simp only[CM] at h;by_cases hc:(EF cs).isSome=true;{rw[iJ hc] at h;obtain⟨U,O⟩:=BC h;cases O;have:=hs.head;simp only[fill,hc,iH];exact⟨this,by simp only[KV.ok,this];exact U,rfl⟩}
  ·rw[iI hc] at h;cases x with
   | agg mn =>
    obtain⟨a,b,c⟩:=N7 cs mn h vs i hs;simp only[fill,iI hc];exact⟨by simp[KV.pv,a],b,c⟩
   | _=>simp at h
 | .iface t y,x,l,h,vs,i,hs=>by
  simp only[CM] at h;by_cases hc:y.cl.isSome=true;{rw[iJ hc] at h;obtain⟨U,O⟩:=BC h;cases O;have:=hs.head;simp only[fill,hc,iH];exact⟨this,by simp only[KV.ok,this];exact U,rfl⟩}
  ·rw[iI hc] at h;cases x with
   | iface t' y' =>
    simp only at h;split at h;{rename_i ht;subst ht;obtain⟨a,b,c⟩:=TE y y' h vs i hs;simp only[fill,iI hc];exact⟨by simp[KV.pv,a],b,c⟩};{cases h}
   | _=>simp at h
theorem N7:∀ (ps:jn) (H:jh) {l:jh},IN ps H=some l->∀ (vs:jh) (i:Nat),D1 vs i l->AP (DM ps vs i).1=H/\Bj (DM ps vs i).1/\(DM ps vs i).2=i+l.length
 | [],H,l,h,vs,i,_=>by cases H<;>simp[IN] at h;subst h;exact⟨rfl,trivial,rfl⟩
 | p :: ps,H,l,h,vs,i,hs=>by
  cases H with
  | nil=>simp[IN] at h
  | cons y ys =>
   simp only[IN] at h;split at h;{rename_i a b ha hb;cases h;obtain⟨a1,a2,a3⟩:=TE p y ha vs i hs.left;obtain⟨b1,b2,b3⟩:=N7 ps ys hb vs (fill p vs i).2 (by rw[a3];exact hs.right);refine⟨by simp[DM,AP,a1,b1],⟨a2,b2⟩,?_⟩;simp only[DM,eA];rw[b3,a3];omega};{cases h}
end
theorem aT (p:Ak) (x:Ob) (h:F4 p x=some l) (vs:jh) (i:Nat) (hs:D1 vs i l):(C4 p vs i).1.ob=x/\(C4 p vs i).1.ok/\(C4 p vs i).2=i+l.length:=by
 cases p with
 | cells ty cs =>
  cases x with
  | cells rS mn =>
   simp only[F4] at h;split at h
   case isFalse=>cases h
   rename_i hty;subst hty;obtain⟨a,b,c⟩:=N7 cs mn h vs i hs;exact⟨by simp[C4,Ak.ob,a],b,c⟩
  | _=>simp[F4] at h
 | whole ty w =>
  cases x with
  | cells rS mn =>
   simp only[F4] at h;obtain⟨U,O⟩:=BC h;cases O;simp only[dF,iL] at U;obtain⟨rfl,U⟩:=U;have:J vs i=.agg mn:=hs.head;exact⟨by simp[C4,Ak.ob,this,DK,W.cells],by simp only[C4,this];simpa[Ak.ok,jN] using U,rfl⟩
  | _=>simp[F4] at h
 | arr k kt ws =>
  cases x with
  | arr k' kt' H =>
   simp only[F4] at h;obtain⟨U,O⟩:=BC h;cases O;simp only[dF,iL] at U;obtain⟨⟨rfl,rfl⟩,U⟩:=U;have:J vs i=.sl k H false:=hs.head;exact⟨by simp[C4,Ak.ob,this,Ao],by simp only[C4,this,Ao];exact U,rfl⟩
  | _=>simp[F4] at h
 | map ws =>
  cases x with
  | map es =>
   simp only[F4] at h;obtain⟨U,O⟩:=BC h;cases O;have:J vs i=.ki es:=hs.head;exact⟨by simp[C4,Ak.ob,this,Me],by simp only[C4,this,Me];exact U,rfl⟩
  | _=>simp[F4] at h
 | jT s0 p0 =>
  cases x with
  | jT s pos =>
   simp only[F4] at h;cases h;have U:J vs i=.str s:=hs.head;have O:J vs (i+1)=nI pos:=hs 1 _ rfl;exact⟨by simp[C4,Ak.ob,U,O,strP,Aj,nI],trivial,rfl⟩
  | _=>simp[F4] at h
theorem SH:∀ (ps:jq) (H:jp) {l:jh},JG ps H=some l->∀ (vs:jh) (i:Nat),D1 vs i l->(DI ps vs i).1.map Ak.ob=H/\(∀ o∈(DI ps vs i).1,o.ok)/\(DI ps vs i).2=i+l.length
 | [],H,l,h,vs,i,_=>by cases H<;>simp[JG] at h;subst h;exact⟨rfl,by simp[DI],rfl⟩
 | p :: ps,H,l,h,vs,i,hs=>by
  cases H with
  | nil=>simp[JG] at h
  | cons y ys =>
   simp only[JG] at h;split at h;{rename_i a b ha hb;cases h;obtain⟨a1,a2,a3⟩:=aT p y ha vs i hs.left;obtain⟨b1,b2,b3⟩:=SH ps ys hb vs (C4 p vs i).2 (by rw[a3];exact hs.right);refine⟨by simp[DI,a1,b1],?_,?_⟩;{intro o ho;simp only[DI,dM] at ho;rcases ho with rfl | ho;{exact a2};{exact b2 o ho}};{simp only[DI,eA];rw[b3,a3];omega}};{cases h}
mutual
theorem oj (f g:Nm->Nm):∀ (x:W),(x.jR f).jR g=x.jR fun m=>g (f m)
 | .agg cs=>by simp[W.jR,Of f g cs]
 | .iface t x=>by simp[W.jR,oj f g x]
 | .fn h cap=>by simp[W.jR,Of f g cap]
 | .jE H=>by simp[W.jR,Of f g H]
 | .undef | .bool _ | .int _ _ | .str _ | .jD | .kB | .jV | .jK | .kL | .sl _ _ _ | .ptr _ _ | .ke _ | .ki _ | .j8 _ _ | .ref _ _ | .jQ _ _ _ _ | .arr _ _ _ _ | .mp _ | .it _=>by simp[W.jR]
theorem Of (f g:Nm->Nm):∀ (H:jh),BE g (BE f H)=BE (fun m=>g (f m)) H
 | []=>rfl
 | x :: H=>by simp[BE,oj f g x,Of f g H]
end
mutual
theorem mB {f g:Nm->Nm}:∀ {x:W},(∀ m∈x.names,f m=g m)->x.jR f=x.jR g
 | .agg cs,h=>by simp only[W.jR];rw[N2 (H:=cs) h]
 | .iface t x,h=>by simp only[W.jR];rw[mB (x:=x) h]
 | .fn _ cap,h=>by simp only[W.jR];rw[N2 (H:=cap) h]
 | .jE H,h=>by simp only[W.jR];rw[N2 (H:=H) h]
 | .ref V _,h | .jQ V _ _ _,h | .arr V _ _ _,h | .mp V,h | .it V,h=>by simp only[W.jR];rw[h V (by simp[W.names])]
 | .undef,_ | .bool _,_ | .int _ _,_ | .str _,_ | .jD,_ | .kB,_ | .jV,_ | .jK,_ | .kL,_ | .sl _ _ _,_ | .ptr _ _,_ | .ke _,_ | .ki _,_ | .j8 _ _,_=>by simp[W.jR]
theorem N2 {f g:Nm->Nm}:∀ {H:jh},(∀ m∈AU H,f m=g m)->BE f H=BE g H
 | [],_=>rfl
 | x :: H,h=>by
  simp only[BE];rw[mB (x:=x) fun m hm=>h m (ec _ hm),N2 (H:=H) fun m hm=>h m (eh _ hm)]
end
mutual
theorem mC {p:Nm->Bool}:∀ {x:W} {m:Nm},m∈(x.sub fun m=>if p m then none else some none).names->p m=true
 | .agg cs,m,h=>N8 (H:=cs) (by simpa[W.sub,W.names] using h)
 | .iface t x,m,h=>mC (x:=x) (by simpa[W.sub,W.names] using h)
 | .fn _ cap,m,h=>N8 (H:=cap) (by simpa[W.sub,W.names] using h)
 | .jE H,m,h=>N8 (H:=H) (by simpa[W.sub,W.names] using h)
 | .ref V _,m,h | .jQ V _ _ _,m,h | .arr V _ _ _,m,h | .mp V,m,h | .it V,m,h=>by
  simp only[W.sub] at h;cases hp:p V with
  | true=>simp[hp,W.names] at h;rw[h];exact hp
  | false=>simp[hp,W.names] at h
 | .undef,m,h | .bool _,m,h | .int _ _,m,h | .str _,m,h | .jD,m,h | .kB,m,h | .jV,m,h | .jK,m,h | .kL,m,h | .sl _ _ _,m,h | .ptr _ _,m,h | .ke _,m,h | .ki _,m,h | .j8 _ _,m,h=>by simp[W.sub,W.names] at h
theorem N8 {p:Nm->Bool}:∀ {H:jh} {m:Nm},m∈AU (Bf (fun m=>if p m then none else some none) H)->p m=true
 | [],m,h=>by simp[Bf,AU] at h
 | x :: H,m,h=>by
  simp only[Bf,AU] at h;rcases dX.1 h with h | h;{exact mC h};{exact N8 h}
end
theorem Ob.oj (f g:Nm->Nm) (o:Ob):(o.jR f).jR g=o.jR fun m=>g (f m):=by cases o<;>simp[Ob.jR,Of]
theorem Ob.mB {f g:Nm->Nm} {o:Ob} (h:∀ m∈o.names,f m=g m):o.jR f=o.jR g:=by
 cases o with
 | cells ty cs=>simp only[Ob.jR];rw[N2 h]
 | _=>rfl
theorem Ob.mC {p:Nm->Bool} {o:Ob} (h:m∈(o.sub fun m=>if p m then none else some none).names):p m=true:=by
 cases o with
 | cells ty cs=>exact N8 h
 | _=>simp[Ob.sub,Ob.names] at h
theorem aI (g:Nm->Nm):∀ (B:List (Nm×Nm)) (m:Nm),(B.map fun p=>(p.1,g p.2)).lookup m=(B.lookup m).map g:=by
 intro B;induction B with
 | nil=>intro m;rfl
 | cons p B ih =>
  obtain⟨a,b⟩:=p;intro m;simp only[dI,gX];split<;>simp_all
theorem aH:∀ {m:Nm},(B.map (·.1)).contains m=true->∃ t,B.lookup m=some t:=by
 induction B with
 | nil=>intro m h;simp at h
 | cons p B ih =>
  obtain⟨a,b⟩:=p;intro m h;rw[gX];split;{exact⟨_,rfl⟩};{rename_i jW;refine ih ?_;simp only[dI,iu,jW,eQ] at h;exact h}
theorem ue {d i0:Nat} {Z:St} {out:AQ} (h:HR none 1 0 (Fx R.length) Z v=some out) :
  HR sl d i0 R Z v=some {v:=out.v.jR (CK R d i0),new:=out.new.map (Ob.jR (CK R d i0)),gone:=out.gone.map (CK R d i0),l4:=R.zip (out.l4.map fun p=>p.2.jR (CK R d i0)),io:=true,slot:=sl}:=by
 have k8:(Fx R.length).length=R.length:=by simp[Fx]
 have hA:GJ R Z.jG=(GJ (Fx R.length) Z.jG).map fun p=>(p.1,CK R d i0 p.2):=by apply eO;intro i;simp only[GJ,dT,fG,eu,Fx];by_cases hi:i < R.length;{rw[dQ hi,fA hi];simp[CK,dO,dQ hi]};{rw[eI.2 (by omega),eI.2 (by simp;omega)];rfl}
 have hF:(GJ R Z.jG).map (·.1)=(GJ (Fx R.length) Z.jG).map (·.1):=by rw[hA,eo];rfl
 have hN:LS (Al Z.jC) (GJ R Z.jG) v=LS (Al Z.jC) (GJ (Fx R.length) Z.jG) v:=by
  unfold LS;rw[hF]
  have:∀ zzc A':List (Nm×Nm),zzc.map (·.1)=A'.map (·.1)->(zzc.flatMap fun p=>((Al Z.jC p.1).map Ob.names).getD [])=A'.flatMap fun p=>((Al Z.jC p.1).map Ob.names).getD []:=by
   intro zzc A' h;have e:∀ zzc:List (Nm×Nm),(zzc.flatMap fun p=>((Al Z.jC p.1).map Ob.names).getD [])=(zzc.map (·.1)).flatMap fun m=>((Al Z.jC m).map Ob.names).getD []:=by intro zzc;rw[iw]
   rw[e,e,h]
  rw[this _ _ hF]
 unfold HR at h |-;simp only at h |-;rw[hN];generalize LS (Al Z.jC) (GJ (Fx R.length) Z.jG) v=N at h |-;generalize hA0:GJ (Fx R.length) Z.jG=A0 at h hA;generalize hB0:(A0++N.zipIdx.map fun p=>(p.1,(1,0+p.2)))=B0 at h;have hB:GJ R Z.jG++N.zipIdx.map (fun p=>(p.1,(d,i0+p.2)))=B0.map fun p=>(p.1,CK R d i0 p.2):=by rw[<-hB0,fk,hA,eo];congr 1;exact eD fun p _=>by simp[CK]
 rw[hB];have hBf:(B0.map fun p=>(p.1,CK R d i0 p.2)).map (·.1)=B0.map (·.1):=by rw[eo];rfl
 rw[hBf];obtain⟨U,O⟩:=Es h;cases O;have rK:∀ m,(B0.map (·.1)).contains m=true->((B0.map fun p=>(p.1,CK R d i0 p.2)).lookup m).getD m=CK R d i0 ((B0.lookup m).getD m):=by intro m hm;obtain⟨t,ht⟩:=aH hm;rw[aI,ht];rfl
 have l7:∀ V,HW (Al Z.jC) (B0.map fun p=>(p.1,CK R d i0 p.2)) V=(HW (Al Z.jC) B0 V).jR (CK R d i0):=by intro V;unfold HW;rw[hBf,Ob.oj];exact Ob.mB fun m hm=>rK m (Ob.mC hm)
 simp only[AN,U,iH,dL,AQ.mk.injEq,true_and,and_true];refine⟨?_,?_,?_,?_⟩;{rw[oj];exact mB fun m hm=>rK m (mC hm)};{rw[eo];exact eD fun m _=>l7 m}
 ·simp only[KF];apply eO;intro i
  have e:(R.zipIdx.filter fun p=>(GR (Z.jG.getD p.2 .undef)).isNone).map (·.1)=(((Fx R.length).zipIdx.filter fun p=>(GR (Z.jG.getD p.2 .undef)).isNone).map (·.1)).map (CK R d i0):=by
   have hz:R.zipIdx=(Fx R.length).zipIdx.map fun p=>(CK R d i0 p.1,p.2):=by apply eO;intro i;simp only[dT,fG,eu,Fx];by_cases hi:i < R.length;{rw[dQ hi,fA hi];simp[CK,dO,dQ hi]};{rw[eI.2 (by omega),eI.2 (by simp;omega)];rfl}
   rw[hz,List.filter_map,eo,eo];rfl
  rw[e]
 ·have hR2:A0.map (fun p=>CK R d i0 p.2)=R:=by rw[<-hA0];apply eO;intro i;simp only[GJ,dT,fG,eu,Fx];by_cases hi:i < R.length;{rw[dQ hi,fA hi];simp[CK,dO,dQ hi]};{rw[eI.2 (by omega:R.length<=i),eI.2 (by simp;omega)];rfl}
  have hz:∀ (l:List (Nm×Nm)) (f:Nm×Nm->Nm) (g:Nm×Nm->Ob),l.map (fun p=>(f p,g p))=(l.map f).zip (l.map g):=by
   intro l f g;induction l with
   | nil=>rfl
   | cons p l ih=>simp[ih]
  have e1:(A0.map fun p=>(p.1,CK R d i0 p.2)).map (fun p=>(p.2,HW (Al Z.jC) (B0.map fun p=>(p.1,CK R d i0 p.2)) p.1))=A0.map fun p=>(CK R d i0 p.2,(HW (Al Z.jC) B0 p.1).jR (CK R d i0)):=by rw[eo];exact eD fun p _=>by simp only[Function.comp,l7]
  rw[hA,e1,hz,hR2,eo];rfl
end Go.Ab


namespace Go.Ab
variable{α:Type} {B:KB} {Pf:jn->jq->BY} {args:jz} {f u:W} {fr:Bool} {g:ja} {o:Ak} {obs:jp} {sh qX:Bu} {vs:jh} {x:Option (W×jp)} {σ:Nm->Option α}
noncomputable def Y3 (sp:ja->(Nm->jk)->jh->js) (jO:ja->jt):Ik:=fun E h dep g args e=>lim fun n=>Br sp jO n E h dep g args e
def Ea (sp:ja->(Nm->jk)->jh->js) (jO:ja->jt) (n:Nat):Bp:=Fh sp jO n
theorem Ki (sp:ja->(Nm->jk)->jh->js) (jO:ja->jt) (n:Nat):(Ea sp jO n).sp=sp:=Uf sp jO n
theorem P7 (sp:ja->(Nm->jk)->jh->js) (jO:ja->jt) (n:Nat):(Ea sp jO n).lC=FZ jO:=Tg sp jO n
theorem aG (sp:ja->(Nm->jk)->jh->js) (jO:ja->jt) (n:Nat):(Ea sp jO n).kr=GI jO:=SX sp jO n
theorem b9 (sp:ja->(Nm->jk)->jh->js) (jO:ja->jt) (n:Nat):(Ea sp jO n).flat=Kn jO:=Th sp jO n
theorem Wn (sp:ja->(Nm->jk)->jh->js) (jO:ja->jt) (n:Nat):(Ea sp jO n).call=Br sp jO n:=rfl
noncomputable def RH (sp:ja->(Nm->jk)->jh->js) (jO:ja->jt) (g:ja) (ins:jp) (vs:jh):Option (St×W) :=
 match jO g with
 | some fn=>lim fun n=>IM (Ea sp jO n) n fn ins vs
 | none=>none
structure EM (cfg:ED) (jO:ja->jt):Prop where
 L:cfg.b.L=Y3 cfg.b.sp jO
 I:cfg.b.I=RH cfg.b.sp jO
 lC:cfg.b.lC=FZ jO
 kr:cfg.b.kr=GI jO
 flat:∀ g,cfg.yo g=true->Kn jO g=true
 rT:∀ g,(cfg.rT g).isSome=FZ jO g
 ioP:∀ g P,cfg.rT g=some P->∃ fn,jO g=some fn/\0 < fn.nt/\∀ H os,(P H os).args.length<=fn.nt/\(P H os).ins.length<=fn.nt
 vZ:∀ g,cfg.vZ g=false->∀ σ vs,cfg.b.sp g σ vs=none
 loc:∀ g σ vs,Ap vs=true->cfg.b.sp g σ vs=cfg.b.sp g (fun _=>none) vs
 spK:∀ g s,cfg.spK g=some s->∀ σ H out,Bj H->(∀ V o,σ V=some o->o.ok)->s σ H=some (true,out)->out.Ok/\cfg.b.sp g (fun V=>(σ V).map Ak.ob) (AP H)=some out.out/\∀ f,out.out.v.jR f=out.out.v
 asOk:∀ g p t n,cfg.asT g p=some (t,n)->∀ σ V ty cs,σ V=some (.cells ty cs)->cs.length=n->cfg.b.sp g σ [.jK,.iface p (.ref V 0)]=some {v:=.bool false} /\
  ∀ x,Aw x n=true->cfg.b.sp g σ [.iface t x,.iface p (.ref V 0)]=some {v:=.bool true,kA:=some (V,.cells ty x.cells)}
def HOk {E:Type} (h:AA E) (hn:Nat->AA E):Prop:=∀ l args e r,h l args e=some r->Bs fun n=>hn n l args e=some r
mutual
theorem XE (d:Nat) {obs:jp}:∀ (sh:Bu) (j:Nat) (v:W) {u:W} {j':Nat},sh.fix=true->Dq obs sh j v=some (u,j') ->
  (EB d sh j u).1.pv=v.jR (FK d)/\(EB d sh j u).2.1.map Ak.ob=(obs.drop j).take (j' - j)/\(EB d sh j u).2.2=j'/\(EB d sh j u).1.ok/\(∀ o∈(EB d sh j u).2.1,o.ok)/\j<=j'
 | .opt k,j,v,u,j',hf,h=>by cases hf
 | .cl,j,v,u,j',_,h=>by
  simp only[Dq] at h;obtain⟨U,O⟩:=BC h;cases O;refine⟨?_,by simp[EB],rfl,U,by simp[EB],dH _⟩;simp only[EB,KV.pv];rw[Lr (FH U).1]
 | .own k,j,v,u,j',_,h=>by
  simp only[Dq] at h;split at h
  ·rename_i V k' o n nx kt H hj;obtain⟨U,O⟩:=BC h;cases O;simp only[dF,iL] at U;obtain⟨⟨⟨⟨⟨⟨rfl,rfl⟩,rfl⟩,rfl⟩,rfl⟩,rfl⟩,ln⟩:=U;refine⟨by simp[EB,KV.pv,W.jR,FK,Ah,Ao],?_,rfl,trivial,?_,by omega⟩
   ·have jP:=(dU.1 hj).1;have hd:obs.drop j=.arr k 0 H :: obs.drop (j+1):=by obtain⟨hi,he⟩:=dU.1 hj;rw[<-he];exact eX hi
    rw[hd,show j+1 - j=1 by omega];simp[EB,Ak.ob,Ao]
   {intro o ho;simp only[EB,ep] at ho;subst ho;exact ln}
  {cases h}
 | .jE l,j,v,u,j',hf,h=>by
  simp only[Dq] at h;split at h;{rename_i vs;obtain⟨p,hp,he⟩:=dG.1 h;cases he;obtain⟨U,O,h3,h4,h5,h6⟩:=Tj d l j vs (us:=p.1) (j':=p.2) hf hp (.jE p.1) 0 (by intro i _;simp[Ck]);simp only[EB];exact⟨by simp[KV.pv,W.jR,U],O,h3,h4,h5,h6⟩};{cases h}
 | .agg l,j,v,u,j',hf,h=>by
  simp only[Dq] at h;split at h;{rename_i vs;obtain⟨p,hp,he⟩:=dG.1 h;cases he;obtain⟨U,O,h3,h4,h5,h6⟩:=Tj d l j vs (us:=p.1) (j':=p.2) hf hp (.agg p.1) 0 (by intro i _;simp[Ck]);simp only[EB];exact⟨by simp[KV.pv,W.jR,U],O,h3,h4,h5,h6⟩};{cases h}
theorem Tj (d:Nat) {obs:jp}:∀ (l:List Bu) (j:Nat) (vs:jh) {us:jh} {j':Nat},tM l=true->GP obs l j vs=some (us,j')->∀ (r:W) (i:Nat),(∀ m,m < us.length->Ck r (i+m)=us.getD m .undef) ->
  AP (Jm d l j r i).1=BE (FK d) vs/\(Jm d l j r i).2.1.map Ak.ob=(obs.drop j).take (j' - j)/\(Jm d l j r i).2.2=j'/\Bj (Jm d l j r i).1/\(∀ o∈(Jm d l j r i).2.1,o.ok)/\j<=j'
 | [],j,vs,us,j',_,h,r,i,_=>by
  cases vs with
  | nil=>simp only[GP] at h;cases h;simp[Jm,AP,BE,Bj]
  | cons v vs=>simp[GP] at h
 | s :: l,j,vs,us,j',hf,h,r,i,T=>by
  simp only[tM,dF] at hf;cases vs with
  | nil=>simp[GP] at h
  | cons v vs =>
   simp only[GP] at h;split at h
   ·rename_i u j1 hu;obtain⟨p,hp,he⟩:=dG.1 h;obtain⟨pw,j2⟩:=p;cases he;have h0:Ck r i=u:=by have:=T 0 (by simp);simpa using this
    obtain⟨a1,a2,a3,a4,a5,a6⟩:=XE d s j v hf.1 hu;obtain⟨b1,b2,b3,b4,b5,b6⟩:=Tj d l j1 vs hf.2 hp r (i+1) (fun m hm=>by have:=T (m+1) (by simp;omega);rw[show i+(m+1)=i+1+m by omega] at this;simpa using this);simp only[Jm,h0,a3];refine⟨by simp[AP,BE,a1,b1],?_,b3,⟨a4,b4⟩,?_,by omega⟩
    ·rw[fk,a2,b2];have e1:obs.drop j1=(obs.drop j).drop (j1 - j):=by rw[fY];congr 1;omega
     rw[e1,show j2 - j=(j1 - j)+(j2 - j1) by omega,List.take_add]
    {intro o ho;rcases dX.1 ho with ho | ho;{exact a5 o ho};{exact b5 o ho}}
   {cases h}
end
theorem TN (d:Nat) {v:W} (hf:sh.fix=true) (h:EY sh v obs=some u):(EB d sh 0 u).1.pv=v.jR (FK d)/\(EB d sh 0 u).2.1.map Ak.ob=obs/\(EB d sh 0 u).1.ok/\∀ o∈(EB d sh 0 u).2.1,o.ok:=by unfold EY at h;split at h;{rename_i r j T;obtain⟨U,O⟩:=BC h;cases O;simp only[iL] at U;obtain⟨a1,a2,a3,a4,a5,a6⟩:=XE d sh 0 v hf T;refine⟨a1,?_,a4,a5⟩;rw[a2,U];simp};{cases h}
mutual
theorem V9 {R:Type} {r:R}:∀ (sh:Bu) (u:W) {K:Bu->Option R},JD sh u K=some r ->
  ∃ qX,qX.fix=true/\K qX=some r/\∀ obs j v j',Dq obs sh j v=some (u,j')->Dq obs qX j v=some (u,j')
 | .cl,u,K,h=>⟨.cl,rfl,h,fun _ _ _ _ h=>h⟩
 | .own k,u,K,h=>⟨.own k,rfl,h,fun _ _ _ _ h=>h⟩
 | .opt k,u,K,h=>by
  simp only[JD] at h;unfold yh at h;split at h
  ·refine⟨.cl,rfl,h,fun obs j v j' hc=>?_⟩;simp only[Dq] at hc;split at hc;·cases hc;rfl
   {obtain⟨_,hc⟩:=BC hc;cases hc};{cases hc}
  ·rename_i hu;refine⟨.own k,rfl,h,fun obs j v j' hc=>?_⟩;simp only[Dq] at hc;split at hc;·cases hc;exact iW rfl hu
   {rename_i hj;simp only[Dq,hj];exact hc};{cases hc}
 | .jE l,u,K,h=>by
  simp only[JD] at h;obtain⟨l',U,O,h3⟩:=SL l u 0 h;refine⟨.jE l',U,O,fun obs j v j' hc=>?_⟩;simp only[Dq] at hc |-;split at hc;{obtain⟨p,hp,he⟩:=dG.1 hc;cases he;rw[h3 obs j _ p.1 p.2 hp (by intro i _;simp[Ck])];rfl};{cases hc}
 | .agg l,u,K,h=>by
  simp only[JD] at h;obtain⟨l',U,O,h3⟩:=SL l u 0 h;refine⟨.agg l',U,O,fun obs j v j' hc=>?_⟩;simp only[Dq] at hc |-;split at hc;{obtain⟨p,hp,he⟩:=dG.1 hc;cases he;rw[h3 obs j _ p.1 p.2 hp (by intro i _;simp[Ck])];rfl};{cases hc}
theorem SL {R:Type} {r:R}:∀ (l:List Bu) (u:W) (i:Nat) {K:List Bu->Option R},Ox l u i K=some r ->
  ∃ l',tM l'=true/\K l'=some r/\∀ obs j vs us j',GP obs l j vs=some (us,j')->(∀ m,m < us.length->Ck u (i+m)=us.getD m .undef)->GP obs l' j vs=some (us,j')
 | [],u,i,K,h=>⟨[],rfl,h,fun _ _ _ _ _ h _=>h⟩
 | s :: l,u,i,K,h=>by
  simp only[Ox] at h;obtain⟨s',U,h,h3⟩:=V9 s (Ck u i) h;obtain⟨l',g1,h,g3⟩:=SL l u (i+1) h;refine⟨s' :: l',by simp[tM,U,g1],h,fun obs j vs us j' hc hu=>?_⟩;cases vs with
  | nil=>simp[GP] at hc
  | cons v vs =>
   simp only[GP] at hc |-;split at hc
   ·rename_i w j1 hw;obtain⟨p,hp,he⟩:=dG.1 hc;obtain⟨pw,j2⟩:=p;cases he;have h0:Ck u i=w:=by have:=hu 0 (by simp);simpa using this
    rw[h3 obs j v j1 (by rw[h0];exact hw)];simp only
    rw[g3 obs j1 vs pw j2 hp fun m hm=>by have:=hu (m+1) (by simp;omega);rw[show i+(m+1)=i+1+m by omega] at this;simpa using this];simp only[ed,h0]
   {cases hc}
end
theorem Tn {R:Type} {r:R} {K:Bu->Option R} (h:JD sh u K=some r) :
  ∃ qX,qX.fix=true/\K qX=some r/\∀ v obs,EY sh v obs=some u->EY qX v obs=some u:=by
 obtain⟨qX,U,O,h3⟩:=V9 sh u h;refine⟨qX,U,O,fun v obs hc=>?_⟩;unfold EY at hc |-;split at hc;{rename_i w j hw;obtain⟨c1,c2⟩:=BC hc;cases c2;rw[h3 obs 0 v j hw];simp only[c1,Ae]};{cases hc}
section
variable {cfg:ED} {jO:ja->jt} {ks:AJ} {E R:Type} {h:AA E} {hn:Nat->AA E} {K:AF->E->Option R} {r:R} {e:E} {d dep:Nat}
theorem yK (hc:EM cfg jO) (mG:Ap vs=true) (h:spO cfg.b.sp g vs=some x) (σ:Nm->jk) :
  match x with | some p=>cfg.b.sp g σ vs=some {v:=p.1,new:=p.2} | none=>cfg.b.sp g σ vs=none:=by
 unfold spO at h;rw[hc.loc g σ vs mG];split at h
 ·rename_i out ho;obtain⟨U,O⟩:=BC h;cases O;simp only[dF,eZ,il,fO] at U;obtain⟨⟨⟨⟨⟨⟨b,c⟩,f⟩,a2⟩,a3⟩,a4⟩,a5⟩:=U;simp only
  rw[ho];obtain⟨v,new,kA,kill,kj,gone,l4,io,slot⟩:=out;simp only at b c f a2 a3 a4 a5;subst b;subst c;subst f;subst a2;subst a3;subst a4;subst a5;rfl
 {rename_i ho;cases h;exact ho}
theorem YC (hs:∀ v obs,EY sh v obs=some u->EY qX v obs=some u) (h:Ax cfg.b sh f vs=some u):Ax cfg.b qX f vs=some u:=by
 unfold Ax at h |-;split at h
 ·split at h;{exact hs _ _ h}
  ·split at h;·cases h
   {rename_i lF;rw[iI lF];split at h;{exact hs _ _ h};·cases h}
  {cases h}
 {cases h}
theorem yL (hs:∀ v obs,EY sh v obs=some u->EY qX v obs=some u) (h:Bd cfg.b sh fr g vs=some u):Bd cfg.b qX fr g vs=some u:=by
 unfold Bd at h |-;split at h;·cases h
 {rename_i hy;rw[iI hy];split at h;{obtain⟨U,O⟩:=BC h;simp only[U,Ae];exact hs _ _ O};{cases h}}
theorem Yq:Nat.blt (Ba g) CR=true:=by unfold Ba;split;{assumption};{exact Nat.blt_eq.mpr (gn _ (by decide))}
theorem fnId_id:Ba (Ba g)=Ba g:=by have h:=Yq (g:=g);generalize Ba g=x at h;simp[Ba,h]
theorem uf:BI (Ba g) vs []=vs:=by have h:=Yq (g:=g);simp[BI,h]
theorem VV {f:ja} {cap:jh} {x:W} (h:x∈vs\/x∈cap):x∈BI f vs cap:=by
 unfold BI;split;{exact dX.2 h}
 ·rcases h with h | h;{exact eh _ (ec _ h)}
  {rw[<-List.take_append_drop (Gf f) cap] at h;rcases dX.1 h with h | h;{exact ec _ h};{exact eh _ (eh _ h)}}
theorem Wq (f:ja) (vs cap:jn):AP (Jd f vs cap)=BI f (AP vs) (AP cap):=by unfold Jd BI;cases Nat.blt f CR<;>simp[P5,MM,MN]
theorem Wr {f:ja} {vs cap:jn} (U:Bj vs) (O:Bj cap):Bj (Jd f vs cap):=by unfold Jd;split;{exact Lg U O};{exact Lg (DT.2 fun x A=>DT.1 O x (eE A)) (Lg U (DT.2 fun x A=>DT.1 O x (e8 A)))}
theorem ug {f:ja} {vs cap:jh}:Ax B sh (.fn f cap) vs=Ax B sh (.fn (Ba f) []) (BI f vs cap):=by simp only[Ax,fnId_id,uf]
theorem YD (hc:EM cfg jO) (qY:sh.fix=true) {f:W} {vs:jh} (mG:Ap vs=true) (hf:jN f=true) (hu:Ax cfg.b sh f vs=some u) (σ:Nm->jk) (zze:jh) (fx:RX) (args:jz) (hfx:fx.ev zze=f) (kX:args.map (RX.ev zze)=vs) :
  ∃ out:AF,out.Ok/\out={v:=(EB d sh 0 u).1,new:=(EB d sh 0 u).2.1}/\Bs fun n=>D3 (Ea cfg.b.sp jO n) (hn n) dep d σ zze fx args e=some (out.out,e):=by
 unfold Ax at hu;split at hu
 ·rename_i g cap;have pa:Ap cap=true:=by simpa[jN] using hf
  have kE:Ap (BI g vs cap)=true:=FG.2 fun x A=>(Td A).elim (FG.1 mG x) (FG.1 pa x);have rK:(AU (BI g vs cap)).isEmpty=true:=by rw[(DQ kE).1];rfl
  have hy:BV (BI g vs cap)=false:=(DQ kE).2;split at hu;{rename_i v obs hs;have U:=yK hc kE hs σ;simp only at U;obtain⟨a1,a2,a3,a4⟩:=TN d qY hu;refine⟨_,⟨a3,a4,by simp,by simp⟩,rfl,.of fun n=>?_⟩;simp only[D3,hfx,kX,Ki,U,AF.out,a1,a2,fV,dW]}
  ·rename_i hs;have U:=yK hc kE hs σ;split at hu;·cases hu
   rename_i lF;have lF:FZ jO (Ba g)=false:=by rw[<-hc.lC];simpa using lF
   split at hu;{rename_i rr obs hL;rw[hc.L] at hL;have jL:=OC hL;obtain⟨a1,a2,a3,a4⟩:=TN d qY hu;refine⟨_,⟨a3,a4,by simp,by simp⟩,rfl,jL.mono fun n kW=>?_⟩;simp only at U;simp only[D3,hfx,kX,Ki,P7,Wn,lF,U,rK,iH,hy,dE,iG,kW,AF.out,a1,a2,fV,dW]};{cases hu}
  {cases hu}
 {cases hu}
theorem mapM_mem:∀ {S:jl} {l:List α},S.mapM σ=some l->l.length=S.length/\∀ x∈l,∃ V,σ V=some x:=by
 intro S;induction S with
 | nil=>intro l h;simp at h;subst h;exact⟨rfl,fun x h=>by cases h⟩
 | cons y S ih =>
  intro l h;rw[fq] at h;simp only[gw,eY,gF,dL] at h;obtain⟨o,ho,l',hl,rfl⟩:=h;obtain⟨q1,q2⟩:=ih hl;refine⟨by simp[q1],fun x A=>?_⟩;rcases dM.1 A with rfl | A;{exact⟨y,ho⟩};{exact q2 x A}
theorem uh {β:Type} (g:α->β):∀ {S:jl} {l:List α},S.mapM σ=some l->S.mapM (fun V=>(σ V).map g)=some (l.map g):=by
 intro S;induction S with
 | nil=>intro l h;simp at h;subst h;rfl
 | cons y S ih =>
  intro l h;rw[fq] at h;simp only[gw,eY,gF,dL] at h;obtain⟨o,ho,l',hl,rfl⟩:=h;rw[fq,ih hl,ho];rfl
theorem Wx:∀ {ps H:jq},Fw ps H=true->ps.length=H.length
 | [],[],_=>rfl
 | [],_ :: _,h=>by simp[Fw] at h
 | _ :: _,[],h=>by simp[Fw] at h
 | p :: ps,x :: H,h=>by
  simp only[Fw,dF] at h;simp[Wx h.2]
theorem Yr:∀ {ps H:jn},E4 ps H=true->ps.length=H.length
 | [],[],_=>rfl
 | [],_ :: _,h=>by simp[E4] at h
 | _ :: _,[],h=>by simp[E4] at h
 | p :: ps,x :: H,h=>by
  simp only[E4,dF] at h;simp[Yr h.2]
theorem ob_noY (h:o.ok) (hq:∀ ty cs,o=.cells ty cs->Gt cs=false):o.ob.kf=false:=by
 cases o with
 | cells ty cs =>
  have h':Bj cs:=h;show BV (AP cs)=false;rw[Lt h'];exact hq ty cs rfl
 | whole ty v=>exact (DQ (Eo h)).2
 | arr k kt H=>exact (DQ h).2
 | map es=>exact (DQ h).2
 | jT s p=>rfl
theorem Wt (hc:EM cfg jO) (hk:ks.Ok) (hq:FX ks.jC=true) {H:jn} (lM:Bj H)
  {R:Type} {r:R} {K:AF->Option R} (hPf:cfg.rT g=some Pf) (T:OV cfg Pf g d (Bw ks.jC) H K=some r) :
  ∃ out,K out=some r/\out.Ok/\cfg.vZ g=false/\Bs fun n=>(Ea cfg.b.sp jO n).io g d (Al ks.Z.jC) (AP H)=some out.out:=by
 unfold OV at T;simp only at T;generalize hS:Et (HI (Bw ks.jC) A7 (D4 H))=S at T;split at T;·cases T
 rename_i ins hins;generalize hP:Pf H ins=P at T;split at T
 case isFalse=>cases T
 rename_i nN;obtain⟨lP,hy,kG,od⟩:=nN;simp only[dF] at od;obtain⟨v7,sg⟩:=od;obtain⟨rs,lF,T⟩:=DR T
 have mO:∃ sl d1 i1,K (NM P S sl d1 i1 rs)=some r/\∀ Z v out,HR sl d1 i1 S Z v=some out->M4 (Al ks.Z.jC) d S Z v=some out:=by
  unfold M4;cases S with
  | nil=>exact⟨none,d,0,T,fun Z v out h=>h⟩
  | cons s ss =>
   simp only at T;split at T
   ·rename_i i1 hi1;refine⟨some s.1,s.1,i1,T,fun Z v out h=>?_⟩;have:LA (Al ks.Z.jC) s.1=some i1:=by rw[Fs hk,<-hi1];unfold LA;congr 1;funext j;show ((Bw ks.jC (s.1,j)).map Ak.ob).isNone=_;cases Bw ks.jC (s.1,j)<;>rfl
    simp only[this];exact h
   {cases T}
 obtain⟨sl,d1,i1,T,mO⟩:=mO;have sC:FZ jO g=true:=by rw[<-hc.rT,hPf];rfl
 obtain⟨fn,nF,oN,hll⟩:=hc.ioP g Pf hPf;have rU:=(hll H ins).1;have mi:=(hll H ins).2;rw[hP] at rU mi;obtain⟨m1,m2⟩:=mapM_mem hins;have yM:∀ o∈ins,o.ok:=fun o ho=>let ⟨V,h⟩:=m2 o ho;Eh hk V o h;have hS':Et (Bn (Al ks.Z.jC) A7 (AU (AP H)))=S:=by rw[<-hS,Iw (Eh hk),Fs hk,GG lM]
 have pB:S.mapM (Al ks.Z.jC)=some (ins.map Ak.ob):=by rw[Fs hk];exact uh Ak.ob hins
 have hysok:Bj (GA (fun m=>(0,S.idxOf m)) H):=MR _ lM;have hosok:∀ o∈ins.map (Ak.jR fun m=>(0,S.idxOf m)),o.ok:=by intro o ho;obtain⟨o0,h0,rfl⟩:=dJ.1 ho;exact Ak.kZ _ (yM o0 h0)
 have hlen:P.ins.length=S.length:=by rw[Wx sg,dY,m1]
 have wR:∀ l:jn,(GA (fun m=>(0,S.idxOf m)) l).length=l.length:=by intro l;induction l with | nil=>rfl | cons x l ih=>simp[GA,ih]
 have hlena:(AP H).length<=fn.nt:=by
  have U:=Yr v7;rw[wR] at U;have O:(AP H).length=H.length:=by rw[Fb,dY]
  omega
 generalize hlv:Hc P.args (GA (fun m=>(0,S.idxOf m)) H)++Ju P.ins (ins.map (Ak.jR fun m=>(0,S.idxOf m)))=lv at lF;have hseg:D1 lv 0 (Hc P.args (GA (fun m=>(0,S.idxOf m)) H)++Ju P.ins (ins.map (Ak.jR fun m=>(0,S.idxOf m)))):=by rw[hlv];exact D1.all lv
 obtain⟨p1,p2,p3⟩:=MS _ _ v7 hysok lv 0 hseg.left;obtain⟨q1,q2,q3⟩:=Tf _ _ sg hosok lv (DM P.args lv 0).2 (by rw[p3];exact hseg.right);have hvs2:AP (GA (fun m=>(0,S.idxOf m)) H)=BE (fun m=>(0,S.idxOf m)) (AP H):=MX _ lM;have hos2:(ins.map (Ak.jR fun m=>(0,S.idxOf m))).map Ak.ob=(ins.map Ak.ob).map (Ob.jR fun m=>(0,S.idxOf m)):=by rw[eo,eo];exact eD fun o ho=>Ak.nr _ (yM o ho)
 unfold BK at lF;rw[p1,q1,hvs2,hos2] at lF;split at lF
 case h_2=>cases lF
 rename_i Z v hI;rw[hc.I] at hI;unfold RH at hI;rw[nF] at hI;have jL:=OC hI;split at lF
 case h_2=>cases lF
 rename_i rV oh;rw[hlen] at oh;have hend2:=ue (sl:=sl) (d:=d1) (i0:=i1) oh;unfold RQ at lF;split at lF
 case isFalse=>cases lF
 rename_i yN;split at lF
 case h_2=>cases lF
 rename_i a b c ha hb hcc;cases lF;have hsr:=D1.all (a++(b++c));obtain⟨a1,a2,a3⟩:=TE P.res rV.v ha _ 0 hsr.left;obtain⟨b1,b2,b3⟩:=SH P.outs _ hb (a++(b++c)) (fill P.res (a++(b++c)) 0).2 (by rw[a3];exact hsr.right.left);obtain⟨c1,c2,c3⟩:=SH P.news _ hcc (a++(b++c)) (DI P.outs (a++(b++c)) (fill P.res (a++(b++c)) 0).2).2 (by rw[b3,a3];exact hsr.right.right)
 have kd:(NM P S sl d1 i1 (a++(b++c))).out={v:=rV.v.jR (CK S d1 i1),new:=rV.new.map (Ob.jR (CK S d1 i1)),gone:=rV.gone.map (CK S d1 i1),l4:=S.zip (rV.l4.map fun p=>p.2.jR (CK S d1 i1)),io:=true,slot:=sl}:=by
  simp only[NM,AF.out,fV,AQ.mk.injEq,true_and,and_true];refine⟨?_,?_,?_,?_⟩;{rw[KV.pj _ a2,a1]};{rw[eo,<-c1,eo];exact eD fun o ho=>Ak.nr _ (c2 o ho)};{rw[yN,eo];exact eD fun j _=>by simp[CK]}
  ·have e1:rV.l4.map (fun p=>p.2.jR (CK S d1 i1))=(rV.l4.map (·.2)).map (Ob.jR (CK S d1 i1)):=by rw[eo];rfl
   rw[e1,<-b1,eo]
   have key:∀ (zze:jl) (l:jq),(∀ o∈l,o.ok)->(zze.zip (l.map (Ak.jR (CK S d1 i1)))).map (fun p=>(p.1,p.2.ob))=zze.zip (l.map (Ob.jR (CK S d1 i1)∘Ak.ob)):=by
    intro zze;induction zze with
    | nil=>intro l _;rfl
    | cons s zze ih =>
     intro l hl;cases l with
     | nil=>rfl
     | cons o l =>
      simp only[dI,List.zip_cons_cons,dI,Function.comp];rw[Ak.nr _ (hl o d7),ih l fun o ho=>hl o (dZ _ ho)]
   exact key S _ b2
 refine⟨_,T,⟨KV.kZ _ a2,?_,by simp[NM],?_⟩,kG,jL.shift.mono ?_⟩;{intro o ho;obtain⟨o0,h0,rfl⟩:=dJ.1 ho;exact Ak.kZ _ (c2 o0 h0)};{rintro ⟨s,o⟩ ho;have:=(List.of_mem_zip ho).2;obtain⟨o0,h0,rfl⟩:=dJ.1 this;exact Ak.kZ _ (b2 o0 h0)}
 ·rintro k ⟨j,rfl,hj⟩;show Hp (Fh cfg.b.sp jO j) j jO g d (Al ks.Z.jC) (AP H)=_;unfold Hp;rw[nF];simp only
  rw[hS',pB];have hcd:(!BV (AP H)&&D9 (Al ks.Z.jC) S&&(ins.map Ak.ob).all (fun o=>!o.kf)&&(decide ((AP H).length<=fn.nt)&&decide (S.length<=fn.nt)&&decide (0 < fn.nt)))=true:=by simp only[dF,fO,iK];refine⟨⟨⟨by rw[Lt lM];exact hy,?_⟩,?_⟩,⟨hlena,by omega⟩,oN⟩;{rw[Fs hk,<-MQ (Eh hk)];exact lP};{rw[d6];intro o ho;obtain⟨o0,h0,rfl⟩:=dJ.1 ho;obtain⟨V,rK⟩:=m2 o0 h0;have:=ob_noY (yM o0 h0) fun ty cs lY=>N3 hq V ty cs (by rw[rK,lY]);simp[this]}
  simp only[AN,hcd,iH];have hj':IM (Fh cfg.b.sp jO j) j fn ((ins.map Ak.ob).map (Ob.jR fun m=>(0,S.idxOf m))) (BE (fun m=>(0,S.idxOf m)) (AP H))=some (Z,v):=hj;rw[hj'];simp only
  rw[kd];exact mO _ _ _ hend2
theorem cj (hc:EM cfg jO) (hk:ks.Ok) (hq:FX ks.jC=true) {f0:ja} (hg0:Ba f0=g) {cap:jh} {f:RX} {H:jn} (lM:Bj H) (pC:f.ev ks.Z.tmps=.fn f0 cap) (mG:BI f0 (args.map (RX.ev ks.Z.tmps)) cap=AP H)
  (hPf:cfg.rT g=some Pf) (T:OV cfg Pf g d (Bw ks.jC) H (fun out=>K out e)=some r) :
  ∃ out e',K out e'=some r/\out.Ok/\Bs fun n=>D3 (Ea cfg.b.sp jO n) (hn n) dep d (Al ks.Z.jC) ks.Z.tmps f args e=some (out.out,e'):=by
 obtain⟨out,T,ho,kG,jL⟩:=Wt (K:=fun out=>K out e) hc hk hq lM hPf T;have sC:FZ jO g=true:=by rw[<-hc.rT,hPf];rfl
 exact⟨out,e,T,ho,jL.mono fun n kW=>by simp only[D3,pC,hg0,mG,Ki,P7,hc.vZ g kG,sC,iH,kW]⟩
theorem yO (hc:EM cfg jO) (hh:HOk h hn) (hk:ks.Ok) {f:RX} (hq:(FX ks.jC||NQ cfg (.call f args) ks.tmps)=true) (A:(f :: args).all FE=true)
  (T:yp cfg h d (Bw ks.jC) ks.tmps f args e K=some r) :
  ∃ out e',K out e'=some r/\out.Ok/\Bs fun n=>D3 (Ea cfg.b.sp jO n) (hn n) dep d (Al ks.Z.jC) ks.Z.tmps f args e=some (out.out,e'):=by
 have hxf:FE f=true:=d6.1 A f (by simp);have hxa:args.all FE=true:=d6.2 fun x hm=>d6.1 A x (by simp[hm]);have sg:=NH hk hxf;have hao:=LP hk hxa;unfold yp at T;split at T
 ·rename_i l hf;have pC:f.ev ks.Z.tmps=.ke l:=by rw[HN hk,hf];rfl
  simp only at T;split at T
  ·rename_i vs hv;obtain⟨p,hp,T⟩:=DR T;have ln:=JT hao hv;have rK:(AU vs).isEmpty=true:=by rw[(DQ ln).1];rfl
   refine⟨_,_,T,AF.plain (v:=.cv (.bool p.1)) rfl,(hh _ _ _ _ hp).mono fun n kW=>?_⟩;simp[D3,pC,IE hk,KK hv,rK,(DQ ln).2,AN,kW,AF.out,KV.pv]
  ·split at T;·cases T
   ·rename_i jW;split at T
    ·rename_i lP;obtain⟨U,T⟩:=BC T;obtain⟨p,hp,T⟩:=DR T;have yI:(AU (AP (args.map (RX.kv ks.tmps)))).isEmpty=false:=by rw[TM hao];simpa using jW
     rw[Iw (Eh hk),MQ (Eh hk),<-Fs hk,<-GG hao] at lP;rw[Ou hk hao] at U hp;unfold noYL at U;refine⟨_,_,T,⟨rfl,by simp,by simp,by simp⟩,(hh _ _ _ _ hp).mono fun n kW=>?_⟩;simp only[D3,pC,IE hk,yI,dE,iG,lP,U,eF,AN,iH,kW,AF.out,KV.pv];rw[Iw (Eh hk),<-Fs hk,<-GG hao];rfl
    {cases T}
 ·rename_i f0 jX hf;rw[hf] at sg;have qT:Bj jX:=sg;have pC:f.ev ks.Z.tmps=.fn f0 (AP jX):=by rw[HN hk,hf];rfl
  have lM:Bj (Jd f0 (args.map (RX.kv ks.tmps)) jX):=Wr hao qT;have mG:BI f0 (args.map (RX.ev ks.Z.tmps)) (AP jX)=AP (Jd f0 (args.map (RX.kv ks.tmps)) jX):=by rw[Wq,IE hk]
  have kE:∀ sh,Ax cfg.b sh (.fn f0 (AP jX)) (args.map (RX.ev ks.Z.tmps))=Ax cfg.b sh (.fn (Ba f0) []) (BI f0 (args.map (RX.ev ks.Z.tmps)) (AP jX)):=fun sh=>ug;simp only at T;generalize Jd f0 (args.map (RX.kv ks.tmps)) jX=H at T lM mG;generalize hg:Ba f0=g at T kE;split at T
  ·rename_i s hs;split at T
   case h_2=>cases T
   rename_i p hso;obtain⟨b,out⟩:=p;obtain⟨hb,T⟩:=BC T;have hb:b=true:=hb;subst hb;obtain⟨a1,a2,a3⟩:=hc.spK g s hs _ H out lM (Eh hk) hso;rw[<-Fs hk] at a2;exact⟨out,e,T,a1,.of fun n=>by simp only[D3,pC,hg,mG,Ki,a2,a3]⟩
  split at T
  ·rename_i P hP
   have hq:FX ks.jC=true:=by
    rcases Bool.or_eq_true_iff.1 hq with U | U;{exact U}
    {unfold NQ at U;simp only[hf,hg,hP] at U;cases U}
   exact cj hc hk hq hg lM pC mG hP T
  rename_i hP;have lF:FZ jO g=false:=by rw[<-hc.rT,hP];rfl
  split at T
  ·rename_i ex p V;split at T
   ·rename_i t n err ty cs ht herr kD;have hq:=BC T;clear T;obtain⟨lY,T⟩:=hq;have lY:cs.length=n:=fQ lY;have hlk':Al ks.Z.jC V=some (.cells ty (AP cs)):=by rw[H3 hk,kD];rfl
    have hcs':(AP cs).length=n:=by rw[<-lY,H0]
    have hero:=KV.lT lM.1 herr;have qd:AP [ex,.iface p (.ref V 0)]=[err,.iface p (.ref V 0)]:=by simp[AP,KV.pv,KV.ld herr]
    rw[qd] at mG;obtain⟨s1,s2⟩:=hc.asOk g p t n ht (Al ks.Z.jC) V _ _ hlk' hcs';unfold asP at T;split at T;{refine⟨_,_,T,AF.plain (v:=.lit false) trivial,.of fun n=>?_⟩;simp only[D3,pC,hg,mG,Ki,s1];rfl};{rename_i t' x;split at T;{rename_i htt;subst htt;have hq:=BC T;clear T;obtain⟨oZ,T⟩:=hq;refine⟨_,_,T,AF.ll (v:=.lit true) (o:=.whole _ x) trivial (show jN x=true by simpa[jN] using hero),.of fun n=>?_⟩;simp only[D3,pC,hg,mG,Ki,s2 x oZ];rfl};{cases T}};{cases T}
   {cases T}
  ·split at T
   ·rename_i vs hv;obtain⟨u,hu,T⟩:=DR T;have ln:=JT lM hv;rw[KK hv] at mG;have lH:Ax cfg.b (cfg.rsh g).1 (.fn g []) (BI f0 (args.map (RX.ev ks.Z.tmps)) (AP jX))=some u:=by rw[mG];exact hu
    have hcv:Ap (AP jX)=true:=QW (ys:=AP jX) ln fun y hy=>by rw[<-mG];exact VV (.inr hy)
    have hav:Ap (args.map (RX.ev ks.Z.tmps))=true:=QW ln fun y hy=>by rw[<-mG];exact VV (.inl hy)
    have l9:Ax cfg.b (cfg.rsh g).1 (.fn f0 (AP jX)) (args.map (RX.ev ks.Z.tmps))=some u:=by rw[kE];exact lH
    obtain⟨qX,qY,T,lP⟩:=Tn T;have l9:=YC lP l9;obtain⟨out,U,O,h3⟩:=YD (d:=d) (dep:=dep) (e:=e) (hn:=hn) hc qY hav (by simpa[jN] using hcv) l9 (Al ks.Z.jC) ks.Z.tmps f args pC rfl;subst O;exact⟨_,_,T,U,h3⟩
   ·split at T;·cases T
    ·rename_i jW;split at T
     ·rename_i lP;obtain⟨u,hu,T⟩:=DR T
      have hne1:(D4 H).isEmpty=false:=by
       cases hq:(D4 H).isEmpty with
       | false=>rfl
       | true=>exact iW (.inl hq) jW
      have kG:cfg.vZ g=false:=by
       cases hq:cfg.vZ g with
       | false=>rfl
       | true=>exact iW (.inr hq) jW
      have yI:(AU (AP H)).isEmpty=false:=by rw[TM lM];exact hne1
      rw[Iw (Eh hk),MQ (Eh hk),<-Fs hk,<-GG lM] at lP;rw[Ou hk lM] at hu;obtain⟨qX,qY,T,hshs⟩:=Tn T;have hu:=yL hshs hu;unfold Bd at hu;split at hu;·cases hu
      ·rename_i hy;split at hu
       ·rename_i rr obs hL;obtain⟨nD,hu⟩:=BC hu;rw[hc.L] at hL;have jL:=OC hL;obtain⟨a1,a2,a3,a4⟩:=TN d qY hu;refine⟨_,_,T,⟨a3,a4,by simp,by simp⟩,jL.mono fun n kW=>?_⟩;simp only[iL] at nD;rw[hc.kr] at nD;have hy':BV (Bf (BX (Al ks.Z.jC)) (AP H))=false:=by simpa using hy
        simp only[D3,pC,hg,mG,Ki,P7,aG,Wn,lF,hc.vZ g kG,yI,dE,iG,lP,hy',d8,eF,AN,iH,kW,AF.out,a1,a2,nD,fV,dW];rw[Iw (Eh hk),<-Fs hk,<-GG lM]
       {cases hu}
     {cases T}
 ·rename_i v hf;rw[hf] at sg;have pC:f.ev ks.Z.tmps=v:=by rw[HN hk,hf];rfl
  split at T;{rename_i vs hv;obtain⟨u,hu,T⟩:=DR T;obtain⟨qX,qY,T,lP⟩:=Tn T;obtain⟨out,U,O,h3⟩:=YD (d:=d) (dep:=dep) (e:=e) (hn:=hn) hc qY (JT hao hv) sg (YC lP hu) (Al ks.Z.jC) ks.Z.tmps f args pC (by rw[IE hk,KK hv]);subst O;exact⟨_,_,T,U,h3⟩};{cases T}
 {cases T}
end
end Go.Ab


namespace Go.Ab
variable{b:Bool} {i:Nat} {o:A8} {op:AG} {ops:jv} {v:W}
variable {cfg:ED} {jO:ja->jt} {ks:AJ} {E R:Type} {h:AA E} {hn:Nat->AA E} {r:R} {e:E} {d dep:Nat}
theorem ui (hk:ks.Ok) (hf:Vd o ks=true):Gm o ks.Z=true:=by
 unfold Vd at hf;unfold Gm;split
 ·rename_i hm;rw[iJ hm] at hf;split
  ·rename_i d' hd;rw[hd] at hf;simp only[dF,ff,eZ] at hf;have:ks.Z.jC[d']?=some []:=by show (Dn ks.nt ks.jC)[d']?=_;rw[j3,iJ hf.1,hf.2];rfl
   rw[this]
  {rename_i hd;rw[hd] at hf;exact hf}
 {rfl}
theorem Xk (hc:EM cfg jO) (hh:HOk h hn) (hk:ks.Ok) {K:AF->E->Option R} (T:Np cfg h o ks e K=some r) :
  ∃ out e',(out.kj.isEmpty||FX ks.jC)=true/\K out e'=some r/\out.Ok/\Bs fun n=>Ej (Ea cfg.b.sp jO n) (hn n) dep o ks.Z e=some (out.out,e'):=by
 unfold Np at T;split at T
 ·rename_i nN;obtain⟨U,O,h3⟩:=nN;have hf:=ui hk U;split at T
  ·rename_i f args oL;rw[oL] at O h3;obtain⟨out,e',a1,a2,a3⟩:=yO (dep:=dep) hc hh hk h3 O T;split at a1
   case isFalse=>cases a1
   rename_i hgq;obtain⟨hg,hqq⟩:=gp.1 hgq
   have qP:LD o.dst out.out=true:=by
    simp only[LD,AF.out];have:(out.new.map Ak.ob).isEmpty=out.new.isEmpty:=by cases out.new<;>rfl
    rw[this];exact hg
   refine⟨out,e',hqq,a1,a2,a3.mono fun n kW=>?_⟩;simp only[Ej,AN,hf,iH,oL,kW,qP]
  ·rename_i oL;obtain⟨out,a1,a2,a3⟩:=yH hk h3 O T;simp only at a1;split at a1
   case isFalse=>cases a1
   rename_i hqq;refine⟨out,e,hqq,a1,a2,.of fun n=>?_⟩;simp only[Ej,AN,hf,iH];cases hq:o.op with
   | call f args=>exact (oL f args hq).elim
   | _=>rw[hq] at a3;simp only[a3]
 {cases T}
theorem Vo (hk:ks.Ok) (hg:Bi ks.tmps i=.cv v) (hv:v=.bool b):({ks with tmps:=DV i (.lit b) ks.tmps}:AJ).Z=ks.Z/\({ks with tmps:=DV i (.lit b) ks.tmps}:AJ).Ok:=by
 have jP:i < ks.nt:=by apply fh;intro jP;rw[hk.tm.nV (by omega)] at hg;cases hg
 refine⟨?_,hk.tm.put jP trivial rfl,hk.ob,hk.kp⟩;unfold AJ.Z;simp only
 rw[Qw];congr 1;apply eO;intro j;rw[gr,E7];by_cases hj:i=j;{subst hj;simp only[iH];rw[iJ jP,j7,iJ jP,hg,hv];rfl};{rw[iI hj]}
theorem Xh (hk:ks.Ok) {K:Bool->AJ->Option R} (T:Rk ops o ks K=some r):∃ b k',K b k'=some r/\k'.Ok/\k'.Z=ks.Z/\Ew ops o ks.Z.tmps=some b /\
  k'.jC=ks.jC/\(∀ x:RX,(x.kv k'.tmps).names=(x.kv ks.tmps).names/\(x.kv k'.tmps).kf=(x.kv ks.tmps).kf):=by
 unfold Rk at T;unfold Ew;split at T;{rename_i hg;rw[hg];exact⟨_,_,T,hk,rfl,rfl,rfl,fun _=>⟨rfl,rfl⟩⟩}
 ·rename_i j want hg;rw[hg];split at T
  ·rename_i p hp;split at T
   ·rename_i d' hd;have kO:ks.Z.tmps.getD d' .undef=(Bi ks.tmps d').pv:=Li hk.tm d';simp only[hp,hd,kO];split at T;{rename_i b hb;rw[hb];exact⟨_,_,T,hk,rfl,rfl,rfl,fun _=>⟨rfl,rfl⟩⟩};{rename_i hb;rw[hb];exact⟨_,_,T,hk,rfl,rfl,rfl,fun _=>⟨rfl,rfl⟩⟩}
    ·rename_i v hb;rw[hb]
     have hsame:∀ b,∀ x:RX,(x.kv (DV d' (.lit b) ks.tmps)).names=(x.kv ks.tmps).names/\(x.kv (DV d' (.lit b) ks.tmps)).kf=(x.kv ks.tmps).kf:=by
      intro b x;cases x with
      | c v=>exact⟨rfl,rfl⟩
      | t i =>
       simp only[RX.kv,To];by_cases hi:i=d';{subst hi;rw[iJ rfl,hb];exact⟨rfl,rfl⟩};{rw[iI hi];exact⟨rfl,rfl⟩}
     rcases Qm T with ⟨hv,T⟩ | ⟨hv,T⟩
     {obtain⟨s1,s2⟩:=Vo hk hb hv;subst hv;exact⟨_,_,T,s2,s1,rfl,rfl,hsame true⟩};{obtain⟨s1,s2⟩:=Vo hk hb hv;subst hv;exact⟨_,_,T,s2,s1,rfl,rfl,hsame false⟩}
    {cases T}
   {cases T}
  {cases T}
theorem Yb (hc:EM cfg jO) (hh:HOk h hn) (hk:ks.Ok) {K:AJ->E->Option R} (T:yq cfg h ops o ks e K=some r) :
  ∃ k' e',K k' e'=some r/\k'.Ok/\Bs fun n=>stepG (Ea cfg.b.sp jO n) (hn n) dep ops o ks.Z e=some (k'.Z,e'):=by
 unfold yq at T;obtain⟨b,k1,T,kF,lr,hw,_,_⟩:=Xh hk T;cases b with
 | true =>
  simp only at T;obtain⟨out,e',hq,U,O,h3⟩:=Xk (dep:=dep) hc hh kF T;rw[EH] at U;obtain⟨s1,s2⟩:=ST kF hq o.dst O;refine⟨_,_,U,s2,h3.mono fun n kW=>?_⟩;rw[lr] at kW s1;simp only[stepG,hw,Ku,kW,s1]
 | false =>
  simp only at T;rw[EH] at T;have:(HJ k1 o.dst {v:=.sk}).Z=apply k1.Z o.dst {v:=.jE []}/\(HJ k1 o.dst {v:=.sk}).Ok:=by exact qe kF o.dst
  refine⟨_,_,T,this.2,.of fun n=>?_⟩;simp only[stepG,hw,this.1,lr]
where
 qe {ks:AJ} (hk:ks.Ok) (dst:jj):(HJ ks dst {v:=.sk}).Z=apply ks.Z dst {v:=.jE []}/\(HJ ks dst {v:=.sk}).Ok:=by
  unfold HJ;rw[Uk];simp only[tK,NK,PI,Mq,Mi,f8,iH,NR,Mh,NL];have hkt:NI [] ks=ks:=rfl;have qI:tL none [] ks=ks:=rfl;have hkn:PC none []=[]:=rfl;rw[hkt,qI,hkn];simp only[tZ,Pi];cases dst with
  | none=>exact⟨rfl,hk⟩
  | some d =>
   simp only[kset,K8];cases hd:Nat.blt d ks.nt with
   | true =>
    have oU:d < ks.nt:=by simpa[ff] using hd
    refine⟨?_,hk.tm.set (v:=.sk) oU trivial,hk.ob,hk.kp⟩;unfold AJ.Z;simp only
    rw[XD];rfl
   | false =>
    have oU:¬ d < ks.nt:=by intro h;rw[show Nat.blt d ks.nt=true by simpa[ff] using h] at hd;cases hd
    refine⟨?_,hk⟩;unfold AJ.Z;simp only
    rw[gZ (by rw[E7];omega)];rfl
theorem T7 (hc:EM cfg jO) (hh:HOk h hn):∀ (l:jv) {ks:AJ} {e:E} {K:AJ->E->Option R},ks.Ok->NJ cfg h ops l ks e K=some r ->
  ∃ k' e',K k' e'=some r/\k'.Ok/\Bs fun n=>FJ (Ea cfg.b.sp jO n) (hn n) dep ops l ks.Z e=some (k'.Z,e'):=by
 intro l;induction l with
 | nil=>intro ks e K hk T;exact⟨ks,e,T,hk,.of fun n=>rfl⟩
 | cons o rest ih =>
  intro ks e K hk T;simp only[NJ] at T;obtain⟨k1,e1,T,kF,U⟩:=Yb (dep:=dep) hc hh hk T;obtain⟨k2,e2,T,nL,O⟩:=ih kF T;exact⟨k2,e2,T,nL,U.lS O fun n a b=>by simp only[FJ,a,b]⟩
theorem Xi (o:AF):Pk o=De o.out:=by unfold Pk De AF.out;cases o.kA<;>cases o.l4<;>rfl
theorem uj (o:AF):U7 o=Ft o.out:=by unfold U7 Ft AF.out;cases o.l4<;>rfl
theorem ZZ (o:AF):Ty o=Gg o.out:=by
 unfold Ty Gg AF.out;cases o.kA with
 | none=>rfl
 | some p=>rfl
theorem spAt_pv (ks:AJ) (s:Nat):ks.Z.tmps.getD s .undef=(tN ks s).pv:=by
 unfold tN;show (BQ ks.nt ks.tmps).getD s .undef=_;unfold BQ;rw[dO,dT];cases hb:Nat.blt s ks.nt with
 | true =>
  have:s < ks.nt:=Nat.blt_eq.mp hb;rw[fA this];rfl
 | false =>
  have:¬ s < ks.nt:=fun h=>by rw[Nat.blt_eq.mpr h] at hb;cases hb
  rw[ew (by simpa using this)];rfl
theorem Wa (hk:ks.Ok) (s:Nat):(ks.Z.tmps.getD s .undef).names=(tN ks s).names:=by
 rw[spAt_pv];refine KV.kY ?_;unfold tN;cases Nat.blt s ks.nt with
 | true=>exact hk.tm.kP s
 | false=>trivial
theorem yP (hk:ks.Ok) (l:jl):Va (Bw ks.jC) l=KU (Al ks.Z.jC) l:=by
 unfold Va KU;congr 1;funext V;rw[Fs hk];cases hq:Bw ks.jC V with
 | none=>simp[hq]
 | some o =>
  simp only[hq,ed,eN];exact (Ak.me (Eh hk V o hq)).symm
theorem krn_eq (hk:ks.Ok) (A:o.op.H.all FE=true) (out:AF):RL o ks out=GB o ks.Z out.out:=by have ln:=LP hk A;unfold RL GB;rw[IE hk,Iw (Eh hk),<-Fs hk,<-GG ln,Xi];rfl
theorem uk (hk:ks.Ok) (A:op.H.all FE=true):U9 op ks.tmps=Ih op ks.Z.tmps:=by
 cases op<;>try rfl
 rename_i f args;have hxa:args.all FE=true:=d6.2 fun x hm=>d6.1 A x (by simp[AG.H,hm]);have hxf:(f.kv ks.tmps).ok:=NH hk (d6.1 A f (by simp[AG.H]));unfold U9 Ih;simp only
 rw[HN hk,IE hk,GG (LP hk hxa)];cases hf:f.kv ks.tmps with
 | cv v =>
  rw[hf] at hxf;simp only[KV.pv];cases v<;>first | rfl | (simp[KV.ok,jN] at hxf)
 | _=>rfl
theorem yQ (hk:ks.Ok) (A:o.op.H.all FE=true) {out:AF} (ho:out.Ok):yr ops i o ks out=HL ops i o ks.Z out.out:=by
 unfold yr HL;have ln:=LP hk A;simp only
 have hn:out.out.new.flatMap Ob.names=out.new.flatMap Ak.names:=by
  show (out.new.map Ak.ob).flatMap Ob.names=_;rw[iw]
  have:∀ l:jq,(∀ x∈l,x.ok)->l.flatMap (fun a=>a.ob.names)=l.flatMap Ak.names:=by
   intro l;induction l with
   | nil=>intro _;rfl
   | cons x l ih =>
    intro h;rw[fg,fg,Ak.me (h x d7),ih fun y hy=>h y (dZ _ hy)]
  exact this _ ho.new
 have hv:out.out.v.names=out.v.names:=KV.kY ho.v;simp only[<-Wa hk];rw[krn_eq hk A,yP hk,uk hk A,IE hk,<-Lt ln,Xi,uj,ZZ,hn,hv];rfl
theorem yR {K:AF->E->Option R} (T:Np cfg h o ks e K=some r):o.op.H.all FE=true:=by unfold Np at T;split at T;{rename_i nN;exact nN.2.1};·cases T
theorem um (hc:EM cfg jO) (hh:HOk h hn) (hk:ks.Ok) {K:AJ->E->DP->Option R} (T:U8 cfg h ops i o ks e K=some r) :
  ∃ k' e' inf,K k' e' inf=some r/\k'.Ok/\Bs fun n=>Nv (Ea cfg.b.sp jO n) (hn n) dep ops i o ks.Z e=some (k'.Z,e',inf):=by
 unfold U8 at T;obtain⟨b,k1,T,kF,lr,hw,_,_⟩:=Xh hk T;cases b with
 | true =>
  simp only at T;have lM:=yR T;obtain⟨out,e',hq,U,O,h3⟩:=Xk (dep:=dep) hc hh kF T;rw[EH] at U;obtain⟨s1,s2⟩:=ST kF hq o.dst O;refine⟨_,_,_,U,s2,h3.mono fun n kW=>?_⟩;rw[lr] at kW s1;simp only[Nv,Cv,hw,kW,s1];rw[yQ kF lM O,lr]
 | false =>
  simp only at T;rw[EH] at T;have:=Yb.qe kF o.dst;refine⟨_,_,_,T,this.2,.of fun n=>?_⟩;simp only[Nv,Cv,hw,this.1,lr,<-Wa kF]
theorem uo (hc:EM cfg jO) (hh:HOk h hn):∀ (l:List (Nat×Nat)) (infos:List DP) {ks:AJ} {e:E} {K:AJ->E->Option R},ks.Ok->Rl cfg h ops l infos ks e K=some r ->
  ∃ k' e',K k' e'=some r/\k'.Ok/\Bs fun n=>Io (Ea cfg.b.sp jO n) (hn n) dep ops l infos ks.Z e=some (k'.Z,e'):=by
 intro l;induction l with
 | nil=>intro infos ks e K hk T;exact⟨ks,e,T,hk,.of fun n=>rfl⟩
 | cons p rest ih =>
  obtain⟨i,qF⟩:=p;intro infos ks e K hk T;simp only[Rl] at T;split at T;{rename_i o ho;obtain⟨k1,e1,inf,T,kF,U⟩:=um (dep:=dep) hc hh hk T;split at T;{rename_i kE;obtain⟨k2,e2,T,nL,O⟩:=ih _ kF T;exact⟨k2,e2,T,nL,U.lS O fun n a b=>by simp only[Io,ho,a,AN,kE,iH,b]⟩};{cases T}};{cases T}
end Go.Ab


namespace Go.Ab
variable{R:jl} {kN:jm} {cs:jn} {grow:List (Nat×Nat)} {i k nt t ty:Nat} {k0 p x:AJ} {l:Bl} {V:Nm} {v:W}
variable {ks:AJ}
theorem PZ (h:B1 nt l) (d:Nat):(Dn nt l).getD d []=(Bo l d).map Ak.ob:=by rw[dO,j3];split;{rfl};{rw[h.nV (by omega)];rfl}
theorem MF (h:ks.Ok) (ds:jm):(ES ds ks).Z=FQ ds ks.Z/\(ES ds ks).Ok/\(ES ds ks).nt=ks.nt:=by
 have kE:(ds.all fun d=>(ks.Z.jC.getD d []).isEmpty)=ds.all fun d=>(Bo ks.jC d).isEmpty:=by congr 1;funext d;show ((Dn ks.nt ks.jC).getD d []).isEmpty=_;rw[PZ h.ob];cases Bo ks.jC d<;>rfl
 unfold ES FQ;rw[kE];split;{exact⟨rfl,h,rfl⟩}
 ·have U:=Ux (fun m=>ds.contains m.1) h;have O:=Uw (fun m=>ds.contains m.1) h;refine⟨?_,⟨U.tm,U.ob.sub (bv _ _),U.kp⟩,rfl⟩;have e:Jh (fun m=>ds.contains m.1)=fun m=>if ds.contains m.1=true then some none else none:=rfl
  rw[e] at O;simp only
  rw[<-O];unfold AJ.Z;simp only
  congr 1;refine Lk (by simp[IX]) fun i hi=>?_;rw[dT,fG,j3,iJ hi,bx];simp only[ed,eu];cases ds.contains i<;>simp
theorem SY {ds ds':jm} (h:∀ d,d∈ds↔d∈ds') (Z:St):FQ ds Z=FQ ds' Z:=by
 have U:∀ p:Nat->Bool,ds.all p=ds'.all p:=fun p=>by rw[fe,d6,d6];exact⟨fun a x A=>a x ((h x).2 A),fun a x A=>a x ((h x).1 A)⟩
 have O:∀ i,ds.contains i=ds'.contains i:=fun i=>by rw[fe,fw,fw];exact h i
 unfold FQ;simp only[U,O]
theorem SS {H:jh}:V∈AU H↔∃ x∈H,V∈x.names:=by
 induction H with
 | nil=>simp[AU]
 | cons x H ih=>simp[AU,ih]
theorem Ws (h:ks.Ok) (V:Nm):V∈AU ks.Z.jG↔V∈ks.jG.flatMap Gk:=by rw[SS];show (∃ x∈ks.jG.flatMap (BQ ks.nt),V∈x.names)↔_;simp only[fH];constructor;{rintro ⟨x,⟨sp,kG,A⟩,hn⟩;exact⟨sp,kG,(PY (h.kp sp kG) V).1 (SS.2 ⟨x,A,hn⟩)⟩};{rintro ⟨sp,kG,hn⟩;obtain⟨x,A,hn⟩:=SS.1 ((PY (h.kp sp kG) V).2 hn);exact⟨x,⟨sp,kG,A⟩,hn⟩}
theorem SF (h:ks.Ok) (d:Nat):d∈QO ks.Z↔d∈JA ks:=by
 have hR:∀ p:Nm->Bool,(AU ks.Z.tmps++AU ks.Z.jG++ks.Z.jC.flatMap fun l=>l.flatMap Ob.names).all p=(Gk ks.tmps++ks.jG.flatMap Gk++Ix ks.jC).all p:=by intro p;have e1:∀ V,V∈AU ks.Z.tmps↔V∈Gk ks.tmps:=fun V=>PY h.tm V;have e2:=Ws h;have e3:∀ V,V∈(ks.Z.jC.flatMap fun l=>l.flatMap Ob.names)↔V∈Ix ks.jC:=fun V=>VC h.ob V;rw[fe,d6,d6];refine⟨fun a x A=>a x ?_,fun a x A=>a x ?_⟩;{simp only[dX] at A |-;rw[e1,e2,e3];exact A};{simp only[dX] at A |-;rw[<-e1,<-e2,<-e3];exact A}
 unfold QO JA;simp only[fX,fI,dJ,hR,dF];have kO:ks.Z.jC.getD d []=(Bo ks.jC d).map Ak.ob:=PZ h.ob d;rw[kO];constructor
 ·rintro ⟨_,U,O⟩;have jW:Bo ks.jC d≠[]:=by intro e;rw[e] at U;simp at U
  refine⟨_,⟨MA jW,?_,O⟩,rfl⟩;simpa using jW
 {rintro ⟨p,⟨hp,U,O⟩,rfl⟩;have:=h.ob.get_mem hp;have jP:=h.ob.lt p hp;refine⟨?_,?_,O⟩;{show p.1 < (Dn ks.nt ks.jC).length;rw[IX];exact jP};{rw[this];simpa using U}}
theorem VZ {R R':jl} (h:∀ V,V∈R↔V∈R') (d:Nat):∀ n,IQ R d n=IQ R' d n
 | 0=>rfl
 | n+1=>by
  have e:R.contains (d,n)=R'.contains (d,n):=by rw[fe,fw,fw];exact h _
  simp only[IQ,e,VZ h d n]
theorem Wb:∀ {l:Bl} {p:Nat×jq},p∈IC R l->∃ q∈l,p.1=q.1/\∀ o∈p.2,o∈q.2:=by
 intro l;induction l with
 | nil=>intro p hp;cases hp
 | cons q l ih =>
  obtain⟨j,u⟩:=q;intro p hp;simp only[IC] at hp;split at hp;{obtain⟨q,hq,h⟩:=ih hp;exact⟨q,by simp[hq],h⟩}
  ·rename_i v vs hv;rcases dM.1 hp with rfl | hp
   {refine⟨(j,u),by simp,rfl,fun o ho=>?_⟩;simp only at ho;rw[<-hv] at ho;exact eE ho};{obtain⟨q,hq,h⟩:=ih hp;exact⟨q,by simp[hq],h⟩}
theorem aj:∀ (l:Bl),((IC R l).map (·.1)).Sublist (l.map (·.1)):=by
 intro l;induction l with
 | nil=>exact .slnil
 | cons q l ih =>
  obtain⟨j,u⟩:=q;simp only[IC];split;{exact .cons _ ih};{exact .cons_cons _ ih}
theorem B1.trim (h:B1 nt l):B1 nt (IC R l) where
 pE:=h.pE.sublist (aj l)
 lt p hp:=by obtain⟨q,hq,e,_⟩:=Wb hp;rw[e];exact h.lt q hq
 ok p hp o ho:=by obtain⟨q,hq,_,e⟩:=Wb hp;exact h.ok q hq o (e o ho)
theorem bw:∀ {l:Bl},B1 nt l->∀ (i:Nat),Bo (IC R l) i=(Bo l i).take (IQ R i (Bo l i).length):=by
 intro l;induction l with
 | nil=>intro _ i;simp[IC,Bo]
 | cons q l ih =>
  obtain⟨j,u⟩:=q;intro h i;simp only[IC];cases sN:Nat.beq i j with
  | true =>
   have hb:=fQ sN;subst hb
   have xU:Bo l i=[]:=by
    cases hq:Bo l i with
    | nil=>rfl
    | cons x H =>
     have hm:=MA (l:=l) (i:=i) (by rw[hq];simp);have U:=(fc.1 h.pE).1 i (dJ.2 ⟨_,hm,rfl⟩);exact iW U (Nat.lt_irrefl i)
   have kO:Bo ((i,u) :: l) i=u:=by simp[Bo,sN]
   rw[kO];split;{rename_i hv;rw[ih h.tail i,xU,hv];rfl};{rename_i v vs hv;rw[hv];simp[Bo,sN]}
  | false =>
   have kO:Bo ((j,u) :: l) i=Bo l i:=by simp[Bo,sN]
   rw[kO,<-ih h.tail i];split;{rfl};{simp[Bo,sN]}
theorem yS (h:ks.Ok):(PF ks).Z=trim ks.Z/\(PF ks).Ok/\(PF ks).nt=ks.nt:=by
 refine⟨?_,⟨h.tm,h.ob.trim,h.kp⟩,rfl⟩;have hR:∀ V,V∈(AU ks.Z.tmps++AU ks.Z.jG++ks.Z.jC.flatMap fun l=>l.flatMap Ob.names)↔V∈(Gk ks.tmps++ks.jG.flatMap Gk++Ix ks.jC):=by intro V;have e1:V∈AU ks.Z.tmps↔V∈Gk ks.tmps:=PY h.tm V;have e2:=Ws h V;have e3:V∈(ks.Z.jC.flatMap fun l=>l.flatMap Ob.names)↔V∈Ix ks.jC:=VC h.ob V;simp only[dX];rw[e1,e2,e3]
 unfold PF trim;show ({tmps:=_,jC:=Dn ks.nt _,jG:=_}:St)={tmps:=_,jC:=_,jG:=_};congr 1;refine Lk (by simp[AJ.Z,IX]) fun i hi=>?_;rw[dT,fG];show (((Dn ks.nt ks.jC)[i]?).map _).map _=_;rw[j3,iJ hi,bw h.ob];simp only[ed,eu,dL,dY,List.map_take];rw[VZ hR]
theorem T9 (h:ks.Ok) (p:Nat->Bool):({ks with tmps:=GM p ks.tmps}:AJ).Z={ks.Z with tmps:=ks.Z.tmps.zipIdx.map fun (v,i)=>if p i then v else .undef}/\({ks with tmps:=GM p ks.tmps}:AJ).Ok:=by
 refine⟨?_,h.tm.sub (br _ _),h.ob,h.kp⟩;unfold AJ.Z;simp only
 congr 1;refine Lp (by simp[E7]) fun i hi=>?_;rw[dT,fG,j7,iJ hi,bt];simp only[ed,eu];cases p i<;>rfl
theorem QH (h:ks.Ok) (lv:Option jm):(Mb lv ks).Z=Il lv ks.Z/\(Mb lv ks).Ok:=by
 cases lv with
 | none=>exact⟨rfl,h⟩
 | some l =>
  unfold Mb Il Lu;simp only
  obtain⟨U,O⟩:=T9 h (fun i=>l.contains i);obtain⟨h3,h4,_⟩:=MF O (JA {ks with tmps:=GM (fun i=>l.contains i) ks.tmps});refine⟨?_,h4⟩;rw[h3,<-U];exact SY (fun d=>(SF O d).symm) _
theorem ZJ:CC (.cv v) (.cv v)=[v]:=rfl
theorem aE {l:Sp} (h:AY (H1 l l)=true) (hm:(i,KV.cv v)∈l):HB v=false:=by
 unfold AY at h;induction l with
 | nil=>cases hm
 | cons p l ih =>
  obtain⟨k,u⟩:=p;simp only[H1,fC,dF] at h;rcases dM.1 hm with e | hm
  {cases e;have:=h.1;rw[ZJ] at this;simpa using this};{exact ih h.2 hm}
theorem bg (h0:k0.Ok) (hu:AY (H1 k0.tmps k0.tmps)=true) (hi:i < k0.nt):(kC k0.Z).contains i=!Hi k0.tmps i:=by
 have k9:i∈kC k0.Z↔HB (Bi k0.tmps i).pv=true:=by unfold kC;simp only[dJ,fX];constructor;{rintro ⟨⟨v,j⟩,⟨hv,hq⟩,rfl⟩;have:=List.mem_zipIdx hv;rw[fz] at hv;simp only at hv;have e:(BQ k0.nt k0.tmps)[j]?=some v:=hv;rw[j7,iJ hi] at e;cases e;exact hq};{intro hq;refine⟨((Bi k0.tmps i).pv,i),⟨?_,hq⟩,rfl⟩;rw[fz];show (BQ k0.nt k0.tmps)[i]?=_;rw[j7,iJ hi]}
 rw[fe,fw,k9];cases hh:Hi k0.tmps i with
 | false =>
  have:Bi k0.tmps i=.un:=by apply fh;intro jW;rw[(h0.tm.sB i).2 jW] at hh;cases hh
  simp[this,KV.pv,HB]
 | true =>
  have jW:=(h0.tm.sB i).1 hh;have hm:=Oc jW;simp only[dK,dE,iff_false];intro hq;cases hg:Bi k0.tmps i with
  | un=>exact jW hg
  | cv v =>
   rw[hg] at hm hq;have:=aE hu hm;simp only[KV.pv] at hq;rw[this] at hq;cases hq
  | _=>rw[hg] at hq;simp[KV.pv,HB] at hq
theorem yT (h0:k0.Ok) (hu:AY (H1 k0.tmps k0.tmps)=true) (h:ks.Ok) (oN:ks.nt=k0.nt):(KS k0 ks).Z=drop (kC k0.Z) ks.Z/\(KS k0 ks).Ok/\(KS k0 ks).nt=ks.nt:=by
 unfold KS drop;simp only
 obtain⟨U,O⟩:=T9 h (Hi k0.tmps);obtain⟨h3,h4,h5⟩:=MF O (JA {ks with tmps:=GM (Hi k0.tmps) ks.tmps});refine⟨?_,h4,h5⟩
 have h6:Lw (kC k0.Z) ks.Z=({ks with tmps:=GM (Hi k0.tmps) ks.tmps}:AJ).Z:=by
  rw[U];unfold Lw;congr 1;apply eD;rintro ⟨v,i⟩ hm;have hi:i < k0.nt:=by rw[fz] at hm;have e:(BQ ks.nt ks.tmps)[i]?=some v:=hm;rw[j7] at e;split at e;{omega};·cases e
  simp only[bg h0 hu hi];cases Hi k0.tmps i<;>rfl
 rw[h3,h6];exact SY (fun d=>(SF O d).symm) _
theorem Xn (h:ks.Ok) (t:Nat):LF ks.Z t=KE ks t:=by
 unfold LF KE;show (match (Dn ks.nt ks.jC)[t]? with | some []=>true | _=>false)=_;rw[j3];by_cases ht:t < ks.nt
 ·rw[iJ ht];have:Nat.blt t ks.nt=true:=by simpa[ff] using ht
  rw[this];cases Bo ks.jC t<;>rfl
 ·rw[iI ht]
  have:Nat.blt t ks.nt=false:=by
   cases hb:Nat.blt t ks.nt with
   | false=>rfl
   | true=>exact iW (by simpa[ff] using hb) ht
  rw[this];rfl
theorem Xo (h:KE ks t=true):t < ks.nt:=by unfold KE at h;simp only[dF,ff] at h;exact h.1
theorem Vx (h:ks.Ok) (t:Nat) (V:Nm):(MD t ks V).Z=(if V≠(t,0)/\LF ks.Z t=true then
   match Al ks.Z.jC V with
   | some ob =>
    let f:Nm->Nm:=fun m=>if m=V then (t,0) else m
    let jC:=ks.Z.jC.map (·.map (Ob.jR f))
    {tmps:=BE f ks.Z.tmps,jC:=(Bv jC V BO).set t [ob.jR f],jG:=BE f ks.Z.jG}
   | none=>ks.Z
  else ks.Z)/\(MD t ks V).Ok/\(MD t ks V).nt=ks.nt:=by
 unfold MD;rw[Xn h];by_cases hc:V≠(t,0)/\KE ks t=true
 ·rw[iJ hc,iJ hc,H3 h];cases hl:Bw ks.jC V with
  | none=>exact⟨rfl,h,rfl⟩
  | some ob =>
   simp only[ed];have hoo:=EG h.ob hl;have ht:=Xo hc.2
   let f:Nm->Nm:=fun m=>if m=V then (t,0) else m
   have hm:B1 ks.nt (F6 (Ak.jR f) ks.jC):=h.ob.map fun x A=>Ak.kZ f A;refine⟨?_,⟨h.tm.map fun x A=>KV.kZ f A,(hm.mh V (o:=Hl) rfl).put ht fun o ho=>by simp only[ep] at ho;subst ho;exact Ak.kZ f hoo,fun sp kG=>?_⟩,by trivial⟩
   ·unfold AJ.Z;simp only
    rw[Qv h.tm,Lj,N0 hm,Qb h.ob (fun o ho=>Ak.nr f ho),
     QM (g:=BE f) rfl (VM f) fun sp kG=>Qv (h.kp sp kG) f]
    have mM:=Ak.nr (fun m=>if m=V then (t,0) else m) hoo;simp only[dI,dW,mM];rfl
   {obtain⟨q,hq,rfl⟩:=dJ.1 kG;exact (h.kp q hq).map fun x A=>KV.kZ f A}
 {rw[iI hc,iI hc];exact⟨rfl,h,rfl⟩}
theorem ce (h:ks.Ok) (t:Nat):(Kk t ks).Z=LB t ks.Z/\(Kk t ks).Ok/\(Kk t ks).nt=ks.nt:=by
 have kO:ks.Z.tmps.getD t .undef=(Bi ks.tmps t).pv:=Li h.tm t;have yU:=h.tm.kP t;unfold Kk LB;rw[kO];cases hg:Bi ks.tmps t with
 | arr V k o n=>exact Vx h t V
 | lg V=>exact Vx h t V
 | cv v =>
  rw[hg] at yU;have hv:jN v=true:=yU;simp only[KV.pv];cases v<;>first | (simp[jN] at hv;done) | exact⟨rfl,h,trivial⟩
 | _=>exact⟨rfl,h,rfl⟩
theorem Vt (h:ks.Ok) (d:Nat):ks.Z.jC.getD d []=(Bo ks.jC d).map Ak.ob:=PZ h.ob d
theorem Xm (h:ks.Ok) (hl:Bw ks.jC V=some (.cells ty cs)) (i k:Nat):(Nr V ty cs i k ks).Ok/\(Nr V ty cs i k ks).nt=ks.nt/\(Nr V ty cs i k ks).Z={ks.Z with jC:=ks.Z.jC.set V.1 ((ks.Z.jC.getD V.1 []).set V.2 (.cells ty ((AP cs).set i (.arr (V.1,(ks.Z.jC.getD V.1 []).length) k 0 0)))++[.arr k 0 []])}:=by
 have jP:=QI h.ob hl;have lY:Bj cs:=EG h.ob hl;have pc:Bj (cs.set i (.arr (V.1,(Bo ks.jC V.1).length) k 0 0)):=DT.2 fun x A=>by rcases gy A with A | A;{exact DT.1 lY x A};{subst A;trivial}
 unfold Nr;refine⟨⟨h.tm,h.ob.put jP fun o ho=>?_,h.kp⟩,rfl,?_⟩
 ·rcases dX.1 ho with ho | ho
  {rcases gy ho with ho | ho;{exact h.ob.kP ho};{subst ho;exact pc}};{simp only[ep] at ho;subst ho;rfl}
 ·rw[Vt h];unfold AJ.Z;simp only
  rw[Lj,fk,fU];simp only[dI,dW,Ak.ob,Fb,fU,KV.pv,dY]
theorem Vy (h:ks.Ok) (V m:Nm) (jP:V.1 < ks.nt):(ME V m ks).Ok/\(ME V m ks).nt=ks.nt/\(ME V m ks).Z=(if m.1≠V.1 then
   match Al ks.Z.jC m with
   | some ob =>
    let f:Nm->Nm:=fun x=>if x=m then (V.1,(ks.Z.jC.getD V.1 []).length) else x
    let jC:=Bv (ks.Z.jC.map (·.map (Ob.jR f))) m BO
    {tmps:=BE f ks.Z.tmps,jC:=jC.set V.1 (jC.getD V.1 []++[ob.jR f]),jG:=BE f ks.Z.jG}
   | none=>ks.Z
  else ks.Z):=by
 unfold ME;by_cases hm:m.1≠V.1
 ·rw[iJ hm,iJ hm,H3 h];cases hl:Bw ks.jC m with
  | none=>exact⟨h,rfl,rfl⟩
  | some ob =>
   simp only[ed];have hoo:=EG h.ob hl;rw[Vt h,dY];generalize hf:(fun x:Nm=>if x=m then (V.1,(Bo ks.jC V.1).length) else x)=f;have hmp:B1 ks.nt (F6 (Ak.jR f) ks.jC):=h.ob.map fun x A=>Ak.kZ f A;have qU:B1 ks.nt (mh (F6 (Ak.jR f) ks.jC) m Hl):=hmp.mh m (o:=Hl) rfl;refine⟨⟨h.tm.map fun x A=>KV.kZ f A,qU.put jP fun o ho=>?_,fun sp kG=>?_⟩,by trivial,?_⟩;{rcases dX.1 ho with ho | ho;{exact qU.kP ho};{simp only[ep] at ho;subst ho;exact Ak.kZ f hoo}};{obtain⟨q,hq,rfl⟩:=dJ.1 kG;exact (h.kp q hq).map fun x A=>KV.kZ f A}
   ·have nR:Dn ks.nt (mh (F6 (Ak.jR f) ks.jC) m Hl)=Bv (ks.Z.jC.map (·.map (Ob.jR f))) m BO:=by rw[N0 hmp,Qb h.ob fun o ho=>Ak.nr f ho];rfl
    rw[<-nR,PZ qU];unfold AJ.Z;simp only
    rw[Qv h.tm,Lj,QM (g:=BE f) rfl (VM f) fun sp kG=>Qv (h.kp sp kG) f];have mM:=Ak.nr f hoo;simp only[fk,dI,dW,mM]
 {rw[iI hm,iI hm];exact⟨h,rfl,rfl⟩}
variable{R:Type}
theorem Z1 {r:R} (h:ks.Ok) (hl:Bw ks.jC V=some (.cells ty cs)) {K:AJ->Option R} (T:TA V ty cs i k ks K=some r):∃ k',K k'=some r/\k'.Ok/\k'.nt=ks.nt/\k'.Z=OE V ty (AP cs) i k ks.Z:=by
 have jP:=QI h.ob hl;have lY:Bj cs:=EG h.ob hl;unfold TA at T;unfold OE;simp only[mz];cases hc:cs[i]? with
 | none=>rw[hc] at T;exact⟨_,T,h,rfl,rfl⟩
 | some x =>
  rw[hc] at T;cases x with
  | kx =>
   obtain⟨a,b,c⟩:=Xm h hl i k;exact⟨_,T,a,b,c⟩
  | arr m _ _ _ =>
   obtain⟨a,b,c⟩:=Vy h V m jP;exact⟨_,T,a,b,c⟩
  | lg m =>
   obtain⟨a,b,c⟩:=Vy h V m jP;exact⟨_,T,a,b,c⟩
  | cv v =>
   have hv:jN v=true:=DT.1 lY _ (d9 hc);simp only[ed,KV.pv];unfold CU at T;obtain⟨a,b,c⟩:=Xm h hl i k;cases v<;>first | (simp[jN] at hv;done) | exact⟨_,T,a,b,c⟩ | (cases T;done)
  | _=>exact⟨_,T,h,rfl,rfl⟩
theorem uq {r:R} (h:ks.Ok) {x off:Nat} {K:AJ->Option R} (T:Vb x off k ks K=some r):∃ k',K k'=some r/\k'.Ok/\k'.nt=ks.nt/\k'.Z=PJ x off k ks.Z:=by
 have kO:ks.Z.tmps.getD x .undef=(Bi ks.tmps x).pv:=Li h.tm x;have yU:=h.tm.kP x;unfold Vb at T;unfold PJ;rw[kO];cases hg:Bi ks.tmps x with
 | ref V o =>
  rw[hg] at T;simp only[KV.pv] at T |-;rw[H3 h];cases hl:Bw ks.jC V with
  | none=>rw[hl] at T;exact⟨_,T,h,rfl,rfl⟩
  | some ob =>
   rw[hl] at T;cases ob with
   | cells ty cs=>exact Z1 h hl T
   | whole ty v =>
    have hv:jN v=true:=EG h.ob hl;have hvl:Ap (DK v)=true:=Eo hv;simp only[ed,Ak.ob] at T |-;unfold Ae at T;cases hn:T0 v (o+off) with
    | false=>rw[hn] at T;cases T
    | true =>
     rw[hn] at T;refine⟨_,T,h,rfl,?_⟩;unfold T0 at hn;unfold OE;show ks.Z=match (DK v)[o+off]? with | some .jD=>_ | some (.arr m _ _ _)=>_ | _=>_
     have e:DK v=v.cells:=rfl;rw[e] at hvl |-;cases hc:v.cells[o+off]? with
     | none=>rfl
     | some y =>
      rw[hc] at hn;have hy:=I9 hvl hc;cases y<;>first | (simp at hn;done) | (simp[jN] at hy;done) | rfl
   | _=>exact⟨_,T,h,rfl,rfl⟩
 | cv v =>
  rw[hg] at T yU;have hv:jN v=true:=yU;simp only[KV.pv];cases v<;>first | (simp[jN] at hv;done) | exact⟨_,T,h,rfl,rfl⟩
 | _=>rw[hg] at T;exact⟨_,T,h,rfl,rfl⟩
theorem yV {r:R} (h:ks.Ok) {K:AJ->Option R} (T:Vc t k ks K=some r):∃ k',K k'=some r/\k'.Ok/\k'.nt=ks.nt/\k'.Z=Md t k ks.Z:=by
 have kO:ks.Z.tmps.getD t .undef=(Bi ks.tmps t).pv:=Li h.tm t;unfold Vc at T;unfold Md;by_cases hb:JS<=t;{rw[iJ hb] at T |-;exact uq h T};rw[iI hb] at T |-;rw[kO];cases hg:Bi ks.tmps t with
 | kx =>
  rw[hg] at T;simp only[KV.pv];rw[Xn h];by_cases hc:KE ks t=true
  ·rw[iJ hc] at T;rw[iJ hc];have ht:=Xo hc;refine⟨_,T,⟨h.tm.put ht trivial rfl,h.ob.put ht fun o ho=>?_,h.kp⟩,rfl,?_⟩;{simp only[ep] at ho;subst ho;rfl}
   ·unfold AJ.Z;simp only
    rw[Qw,Lj];rfl
  {rw[iI hc] at T;rw[iI hc];exact⟨_,T,h,rfl,rfl⟩}
 | cv v =>
  rw[hg] at T;simp only at T;unfold notNil at T;simp only[KV.pv];cases v<;>first | exact⟨_,T,h,rfl,rfl⟩ | cases T
 | _=>rw[hg] at T;exact⟨_,T,h,rfl,rfl⟩
theorem ur {r:R}:∀ (l:List (Nat×Nat)) {ks:AJ} {K:AJ->Option R},ks.Ok->Rm l ks K=some r->∃ k',K k'=some r/\k'.Ok/\k'.nt=ks.nt/\k'.Z=l.foldl (fun Z (p:Nat×Nat)=>Md p.1 p.2 Z) ks.Z:=by
 intro l;induction l with
 | nil=>intro ks K h T;exact⟨ks,T,h,rfl,rfl⟩
 | cons p l ih =>
  obtain⟨t,k⟩:=p;intro ks K h T;simp only[Rm] at T;obtain⟨k1,T,U,n1,s1⟩:=yV h T;obtain⟨k2,T,O,n2,s2⟩:=ih U T;exact⟨k2,T,O,n2.trans n1,by rw[s2,s1];rfl⟩
theorem aL:∀ (l:jm) {ks:AJ},ks.Ok->(l.foldl (fun ks t=>Kk t ks) ks).Ok/\(l.foldl (fun ks t=>Kk t ks) ks).nt=ks.nt/\(l.foldl (fun ks t=>Kk t ks) ks).Z=l.foldl (fun Z t=>LB t Z) ks.Z:=by
 intro l;induction l with
 | nil=>intro ks h;exact⟨h,rfl,rfl⟩
 | cons t l ih =>
  intro ks h;simp only[fT];obtain⟨a,b,c⟩:=ce h t;obtain⟨d,e,f⟩:=ih b;exact⟨d,e.trans c,by rw[f,a]⟩
theorem ZS (Z:St):Lw (kC Z) Z=Z:=by
 obtain⟨t,o,k⟩:=Z;unfold Lw;congr 1;apply eO;intro i;rw[dT,fG];cases hg:t[i]? with
 | none=>rfl
 | some v =>
  simp only[ed,eu,dL];split;{rename_i hc;rw[fw] at hc;unfold kC at hc;simp only[dJ,fX] at hc;obtain⟨⟨u,j⟩,⟨hm,hu⟩,he⟩:=hc;rw[fz] at hm;simp only at he hm hu;subst he;rw[hg] at hm;cases hm;cases v<;>simp_all [HB]};{rfl}
theorem T8 {r:R} (h:ks.Ok) {K:AJ->Option R} (T:PH kN grow ks K=some r):∃ k',K k'=some r/\k'.Ok/\k'.nt=ks.nt/\k'.Z=norm kN grow ks.Z:=by
 unfold PH at T;obtain⟨a,b,c⟩:=aL kN h;obtain⟨k',T,U,n1,s1⟩:=ur grow a T;obtain⟨d1,d2,d3⟩:=MF U (JA k');refine⟨_,T,d2,d3.trans (n1.trans b),?_⟩;have e:k'.Z=RC kN grow ks.Z:=by rw[s1,c];rfl
 unfold norm drop;rw[d1,<-e,ZS];exact SY (fun d=>(SF U d).symm) _
theorem TI:∀ {nt:Nat} (ps H:Sp),JZ ps H=true->Cb nt ps->Cb nt H->∀ (vs:jh) (i:Nat),D1 vs i (H1 ps H) ->
  (∀ j,(Bi (F5 ps vs i).1 j).pv=(Bi H j).pv)/\Cb nt (F5 ps vs i).1/\(F5 ps vs i).1.map (·.1)=ps.map (·.1)/\(F5 ps vs i).2=i+(H1 ps H).length
 | nt,[],[],_,_,_,vs,i,_=>⟨fun _=>rfl,.nil nt,rfl,rfl⟩
 | _,[],_ :: _,h,_,_,_,_,_=>by simp[JZ] at h
 | _,_ :: _,[],h,_,_,_,_,_=>by simp[JZ] at h
 | nt,(j1,p) :: ps,(j2,x) :: H,h,hp,A,vs,i,hs=>by
  simp only[JZ,dF] at h;simp only[H1] at hs;have hj:=fQ h.1;subst hj;obtain⟨a,b,c⟩:=UC p x h.2.1 (A.ok (j1,x) (by simp)) vs i hs.left;obtain⟨a',b',k',c'⟩:=TI ps H h.2.2 hp.tail A.tail vs (fill p vs i).2 (by rw[c];exact hs.right);refine⟨?_,⟨?_,?_,?_,?_⟩,by simp[F5,k'],?_⟩
  ·intro j;simp only[F5,Bi];cases Nat.beq j j1 with
   | true=>exact a
   | false=>exact a' j
  {simp only[F5,dI];rw[k'];exact hp.pE};{intro q hq;simp only[F5,dM] at hq;rcases hq with rfl | hq;{exact hp.lt (j1,p) (by simp)};{exact b'.lt q hq}};{intro q hq;simp only[F5,dM] at hq;rcases hq with rfl | hq;{exact b};{exact b'.ok q hq}};{intro q hq;simp only[F5,dM] at hq;rcases hq with rfl | hq;{exact YK (hp.nu (j1,p) (by simp))};{exact b'.nu q hq}};{simp only[F5,H1,eA];rw[c',c];omega}
theorem Xz:∀ {nt:Nat} (ps H:Bl),KW ps H=true->B1 nt ps->B1 nt H->∀ (vs:jh) (i:Nat),D1 vs i (MP ps H) ->
  (∀ j,(Bo (HM ps vs i).1 j).map Ak.ob=(Bo H j).map Ak.ob)/\B1 nt (HM ps vs i).1/\(HM ps vs i).1.map (·.1)=ps.map (·.1)/\(HM ps vs i).2=i+(MP ps H).length
 | nt,[],[],_,_,_,vs,i,_=>⟨fun _=>rfl,.nil nt,rfl,rfl⟩
 | _,[],_ :: _,h,_,_,_,_,_=>by simp[KW] at h
 | _,_ :: _,[],h,_,_,_,_,_=>by simp[KW] at h
 | nt,(j1,p) :: ps,(j2,x) :: H,h,hp,A,vs,i,hs=>by
  simp only[KW,dF] at h;simp only[MP] at hs;have hj:=fQ h.1;subst hj;obtain⟨a,b,c⟩:=Tf p x h.2.1 (A.ok (j1,x) (by simp)) vs i hs.left;obtain⟨a',b',k',c'⟩:=Xz ps H h.2.2 hp.tail A.tail vs (DI p vs i).2 (by rw[c];exact hs.right);refine⟨?_,⟨?_,?_,?_⟩,by simp[HM,k'],?_⟩
  ·intro j;simp only[HM,Bo];cases Nat.beq j j1 with
   | true=>exact a
   | false=>exact a' j
  {simp only[HM,dI];rw[k'];exact hp.pE};{intro q hq;simp only[HM,dM] at hq;rcases hq with rfl | hq;{exact hp.lt (j1,p) (by simp)};{exact b'.lt q hq}};{intro q hq;simp only[HM,dM] at hq;rcases hq with rfl | hq;{exact b};{exact b'.ok q hq}};{simp only[HM,MP,eA];rw[c',c];omega}
theorem XA:∀ {nt:Nat} (ps H:jA),KX ps H=true->(∀ p∈ps,Cb nt p)->(∀ x∈H,Cb nt x)->∀ (vs:jh) (i:Nat),D1 vs i (QG ps H) ->
  (LY ps vs i).1.flatMap (BQ nt)=H.flatMap (BQ nt)/\(∀ p∈(LY ps vs i).1,Cb nt p)
 | nt,[],[],_,_,_,vs,i,_=>⟨rfl,by simp[LY]⟩
 | _,[],_ :: _,h,_,_,_,_,_=>by simp[KX] at h
 | _,_ :: _,[],h,_,_,_,_,_=>by simp[KX] at h
 | nt,p :: ps,x :: H,h,hp,A,vs,i,hs=>by
  simp only[KX,dF] at h;simp only[QG] at hs;obtain⟨a,b,_,c⟩:=TI p x h.1 (hp p (by simp)) (A x (by simp)) vs i hs.left;obtain⟨a',b'⟩:=XA ps H h.2 (fun q hq=>hp q (by simp[hq])) (fun q hq=>A q (by simp[hq])) vs (F5 p vs i).2 (by rw[c];exact hs.right);refine⟨?_,?_⟩;{simp only[LY,fg,a'];congr 1;unfold BQ;exact eD fun j _=>a j};{intro q hq;simp only[LY,dM] at hq;rcases hq with rfl | hq;{exact b};{exact b' q hq}}
theorem TO {β:Type}:∀ {l:List Bool} {a:Option β} {r:β},chks l a=some r->l.all id=true/\a=some r
 | [],_,_,h=>⟨rfl,h⟩
 | b :: l,a,r,h=>by
  obtain⟨U,O⟩:=BC h;obtain⟨h3,h4⟩:=TO O;exact⟨by simp[U,h3],h4⟩
mutual
theorem Ue:∀ {p x:KV},Fg p x=true->(IJ p x).all id=true->Bz p x=true
 | .un,x,h,_=>by simpa[Fg,Bz] using h
 | .sk,x,h,_=>by simpa[Fg,Bz] using h
 | .ke _,x,h,_=>by simpa[Fg,Bz] using h
 | .ref _ _,x,h,_=>by simpa[Fg,Bz] using h
 | .jQ _ _ _ _,x,h,_=>by simpa[Fg,Bz] using h
 | .mp _,x,h,_=>by simpa[Fg,Bz] using h
 | .it _,x,h,_=>by simpa[Fg,Bz] using h
 | .lg _,x,h,_=>by simpa[Fg,Bz] using h
 | .lit _,x,h,_=>by simpa[Fg,Bz] using h
 | .kx,x,h,_=>by simpa[Fg,Bz] using h
 | .cv _,x,h,_=>by simpa[Fg,Bz] using h
 | .arr V k o n,x,h,ho=>by
  cases x<;>simp only[Fg,dE] at h;simp only[IJ,e9,List.all_nil,f9,id,yj] at ho;simp only[Bz,h,ho,eF]
 | .fn f cap,x,h,ho=>by
  cases x<;>simp only[Fg,dE,dF] at h;simp only[Bz,h.1,OF h.2 ho,eF]
 | .jE H,x,h,ho=>by
  cases x<;>simp only[Fg,dE] at h;exact OF h ho
 | .agg cs,x,h,ho=>by
  unfold Fg at h;unfold Bz;split;{rename_i hc;rw[iJ hc] at h;exact h};{rename_i hc;rw[iI hc] at h;cases x<;>simp only[dE] at h;exact OF h ho}
 | .iface t y,x,h,ho=>by
  unfold Fg at h;unfold Bz;split;{rename_i hc;rw[iJ hc] at h;exact h};{rename_i hc;rw[iI hc] at h;cases x<;>simp only[dE,dF] at h;simp only[h.1,Ue h.2 ho,eF]}
theorem OF:∀ {p x:jn},J0 p x=true->(JV p x).all id=true->E4 p x=true
 | [],x,h,_=>by cases x<;>simpa[J0,E4] using h
 | p :: ps,[],h,_=>by simp[J0] at h
 | p :: ps,x :: H,h,ho=>by
  simp only[J0,dF] at h;simp only[JV,fC,dF] at ho;simp only[E4,Ue h.1 ho.1,OF h.2 ho.2,eF]
end
mutual
theorem S6:∀ (x:KV),(IJ x x).all id=true
 | .un | .sk | .ke _ | .ref _ _ | .jQ _ _ _ _ | .mp _ | .it _ | .lg _ | .lit _ | .kx | .cv _=>rfl
 | .arr V k o n=>by simp[IJ,yj]
 | .fn f cap=>by simp only[IJ];exact N4 cap
 | .jE H=>by simp only[IJ];exact N4 H
 | .agg cs=>by simp only[IJ];exact N4 cs
 | .iface t y=>by simp only[IJ];exact S6 y
theorem N4:∀ (x:jn),(JV x x).all id=true
 | []=>rfl
 | x :: H=>by simp only[JV,fC,S6 x,N4 H,eF]
end
theorem uu {p x:Ak} (h:Vi p x=true) (ho:(U2 p x).all id=true):Ec p x=true:=by
 cases p with
 | cells ty cs =>
  cases x<;>simp only[Vi,dE,dF] at h;simp only[Ec,h.1,OF h.2 ho,eF]
 | whole ty v=>exact h
 | arr k t H=>exact h
 | map es=>exact h
 | jT s p=>exact h
theorem aD (x:Ak):(U2 x x).all id=true:=by cases x<;>first | exact N4 _ | rfl
theorem Wy:∀ {p x:jq},M7 p x=true->(MZ p x).all id=true->Fw p x=true
 | [],[],_,_=>rfl
 | [],_ :: _,h,_=>by simp[M7] at h
 | _ :: _,[],h,_=>by simp[M7] at h
 | p :: ps,x :: H,h,ho=>by
  simp only[M7,dF] at h;simp only[MZ,fC,dF] at ho;simp only[Fw,uu h.1 ho.1,Wy h.2 ho.2,eF]
theorem Vv:∀ (x:jq),(MZ x x).all id=true
 | []=>rfl
 | x :: H=>by simp only[MZ,fC,aD x,Vv H,eF]
theorem TG:∀ {p x:Sp},LX p x=true->(LM p x).all id=true->JZ p x=true
 | [],[],_,_=>rfl
 | [],_ :: _,h,_=>by simp[LX] at h
 | _ :: _,[],h,_=>by simp[LX] at h
 |(i,p) :: ps,(j,x) :: H,h,ho=>by
  simp only[LX,dF] at h;simp only[LM,fC,dF] at ho;simp only[JZ,h.1,Ue h.2.1 ho.1,TG h.2.2 ho.2,eF]
theorem SQ:∀ (x:Sp),(LM x x).all id=true
 | []=>rfl
 |(_,x) :: H=>by simp only[LM,fC,S6 x,SQ H,eF]
theorem Xt:∀ {p x:Bl},Ns p x=true->(Nh p x).all id=true->KW p x=true
 | [],[],_,_=>rfl
 | [],_ :: _,h,_=>by simp[Ns] at h
 | _ :: _,[],h,_=>by simp[Ns] at h
 |(i,p) :: ps,(j,x) :: H,h,ho=>by
  simp only[Ns,dF] at h;simp only[Nh,fC,dF] at ho;simp only[KW,h.1,Wy h.2.1 ho.1,Xt h.2.2 ho.2,eF]
theorem VO:∀ (x:Bl),(Nh x x).all id=true
 | []=>rfl
 |(_,x) :: H=>by simp only[Nh,fC,Vv x,VO H,eF]
theorem Xu:∀ {p x:jA},Nt p x=true->(Ni p x).all id=true->KX p x=true
 | [],[],_,_=>rfl
 | [],_ :: _,h,_=>by simp[Nt] at h
 | _ :: _,[],h,_=>by simp[Nt] at h
 | p :: ps,x :: H,h,ho=>by
  simp only[Nt,dF] at h;simp only[Ni,fC,dF] at ho;simp only[KX,TG h.1 ho.1,Xu h.2 ho.2,eF]
theorem VP:∀ (x:jA),(Ni x x).all id=true
 | []=>rfl
 | x :: H=>by simp only[Ni,fC,SQ x,VP H,eF]
theorem TF (h:LW p x=true) (ho:(Ph p x).all id=true):NP p x=true:=by unfold LW at h;unfold Ph at ho;simp only[dF] at h;simp only[fC,dF] at ho;unfold NP;simp only[h.1,TG h.2.1 ho.1,Xt h.2.2.1 ho.2.1,Xu h.2.2.2 ho.2.2,eF]
theorem VW (h:LW x x=true):NP x x=true :=
 TF h (by unfold Ph;simp only[fC,SQ,VO,VP,eF])
theorem Qt (h:NP p x=true) (hp:p.Ok) (A:x.Ok):(Dm p (FU p x)).Z=x.Z/\(Dm p (FU p x)).Ok/\(Dm p (FU p x)).nt=p.nt/\p.nt=x.nt:=by
 unfold NP at h;simp only[dF] at h;obtain⟨h0,U,O,h3⟩:=h;have oN:=fQ h0;have hs:=D1.all (FU p x);unfold FU at hs;have oZ:Cb p.nt x.tmps:=oN ▸ A.tm;have w9:B1 p.nt x.jC:=oN ▸ A.ob;have hx3:∀ sp∈x.jG,Cb p.nt sp:=oN ▸ A.kp;obtain⟨a1,b1,_,c1⟩:=TI p.tmps x.tmps U hp.tm oZ _ 0 hs.left.left;have na:=hs.left.right;obtain⟨a2,b2,_,c2⟩:=Xz p.jC x.jC O hp.ob w9 (FU p x) (F5 p.tmps (FU p x) 0).2 (by unfold FU;rw[c1];exact na);have hs3:=hs.right
 obtain⟨a3,b3⟩:=XA p.jG x.jG h3 hp.kp hx3 (FU p x) (HM p.jC (FU p x) (F5 p.tmps (FU p x) 0).2).2 (by
  unfold FU at c2 |-;rw[c2,c1];simp only[eA] at hs3;rw[eu] at hs3 |-;exact hs3)
 refine⟨?_,⟨b1,b2,b3⟩,rfl,oN⟩;unfold AJ.Z Dm;simp only
 rw[<-oN,a3];congr 1;{unfold BQ;exact eD fun j _=>a1 j};{unfold Dn;exact eD fun j _=>a2 j}
end Go.Ab


namespace Go.Ab
variable{E R:Type} {M:Bp} {zze:jh} {d dep nt:Nat} {l:jm} {op:AG} {ops:jv} {σ:Nm->jk} {K:Nat->Option R} {h:AA E} {r:R}
variable {cfg:ED} {jO:ja->jt}
theorem uv (hp:Ng op=true) {out:AQ} (h:exec d σ zze op=some out):out={v:=out.v}:=by
 have hm:∀ {x:jx},(x.map fun v=>({v:=v}:AQ))=some out->out={v:=out.v}:=by intro x A;obtain⟨v,_,rfl⟩:=dG.1 A;rfl
 have hcm:∀ {b:Bool} {x:jx},AN b (x.map fun v=>({v:=v}:AQ))=some out->out={v:=out.v}:=by intro b x A;exact hm (Es A).2
 have hc:∀ {b:Bool} {v:W},AN b (some ({v:=v}:AQ))=some out->out={v:=out.v}:=by intro b v A;obtain⟨_,A⟩:=Es A;cases A;rfl
 cases op with
 | box | alloc | nO | store | mkF | mkMap | insert | r8 | append | copy | call | iter | next | bad=>simp[Ng] at hp
 | mov x=>cases h;rfl
 | mkI t x=>cases h;rfl
 | bin op c nc x y=>exact hm h
 | slice k x lo hi mx=>exact hm h
 | len c x =>
  simp only[exec] at h;obtain⟨n,_,rfl⟩:=dG.1 h;rfl
 | pick c a b | conv k x | lK x | mq x | un op x | nilck x=>simp only[exec] at h;split at h<;>first | (cases h;rfl) | cases h
 | build z ps=>simp only[exec] at h;split at h<;>first | (cases h;rfl) | cases h
 | k7 x=>simp only[exec] at h;split at h<;>first | exact hc h | cases h
 | field off n ag x=>simp only[exec] at h;split at h<;>first | exact hm h | cases h
 | fieldAddr off x=>simp only[exec] at h;split at h<;>first | exact hc h | (cases h;rfl) | cases h
 | kM k l x i=>simp only[exec] at h;split at h<;>first | exact hc h | cases h
 | ofBytes x | lL x i | extract j x | j6 mx H | jJ k x i | kq x lo hi =>
  simp only[exec] at h;split at h
  all_goals first
   |(cases h;done)
   | exact hc h
   |(obtain⟨n,_,rfl⟩:=dG.1 h;rfl)
   |(split at h<;>first | (cases h;done) | exact hc h | (cases h;rfl) | (split at h<;>first | (cases h;done) | (cases h;rfl)))
 | kJ t z ok x =>
  simp only[exec] at h;split at h
  ·split at h;·cases h;rfl
   {exact hc h}
  {exact hc h};·cases h
 | lookup c z ok x k =>
  simp only[exec] at h;split at h;·cases h
  ·split at h;·cases h
   {exact hc h}
 | load n ag x =>
  simp only[exec] at h;split at h;{split at h;{exact hm h};·cases h};{exact hm h};{split at h;{split at h;{exact hcm h};·cases h};{cases h}};{cases h}
theorem V3 (Z:St) (dst:jj) (v:W):apply Z dst {v}=K8 dst v [] Z:=by rw[Uk];simp[Mi,Mq,NR,Mh,tZ,Pi]
theorem uw:∀ (l:jv),(∀ o∈l,Ng o.op=true)->∀ {Z st':St} {e e':E},FJ M h dep ops l Z e=some (st',e') ->
  e'=e/\st'.jC=Z.jC/\st'.jG=Z.jG/\st'.tmps.length=Z.tmps.length/\∀ i,i ∉ l.filterMap (·.dst)->st'.tmps[i]?=Z.tmps[i]?:=by
 intro l;induction l with
 | nil=>intro _ Z st' e e' h;cases h;exact⟨rfl,rfl,rfl,rfl,fun _ _=>rfl⟩
 | cons o rest ih =>
  intro hp Z st' e e' h;simp only[FJ] at h;split at h
  case h_2=>cases h
  rename_i s1 e1 hs;have kn:e1=e/\∃ v,s1=K8 o.dst v [] Z:=by unfold stepG at hs;split at hs;{unfold Ku at hs;split at hs;{rename_i out e2 ho;cases hs;unfold Ej at ho;obtain⟨_,ho⟩:=Es ho;have hpo:=hp o (by simp);split at ho;{rename_i f args oL;rw[oL] at hpo;simp[Ng] at hpo};{split at ho;{rename_i qR A;cases ho;have:=uv hpo A;refine⟨rfl,out.v,?_⟩;rw[this,V3]};{cases ho}}};{cases hs}};{cases hs;exact⟨rfl,_,V3 _ _ _⟩};{cases hs}
  obtain⟨rfl,v,rfl⟩:=kn;obtain⟨a,b,c,d,f⟩:=ih (fun o' rB=>hp o' (by simp[rB])) h;refine⟨a,?_,?_,?_,?_⟩;{rw[b];cases o.dst<;>rfl};{rw[c];cases o.dst<;>rfl};{rw[d];cases o.dst<;>simp[K8]}
  ·intro i hi
   have oJ:i ∉ rest.filterMap (·.dst):=fun hm=>hi (by
    simp only[gW] at hm |-;obtain⟨o',rB,hd⟩:=hm;exact⟨o',by simp[rB],hd⟩)
   rw[f i oJ];cases hd:o.dst with
   | none=>rfl
   | some t =>
    have jW:t≠i:=fun e=>hi (by
     simp only[gW];exact⟨o,by simp,by rw[hd,e]⟩)
    simp only[K8];rw[eB jW]
theorem bj {Z st':St} (U:st'.jC=Z.jC) (O:st'.jG=Z.jG) (hl:st'.tmps.length=Z.tmps.length) (h3:∀ i,i∈l->st'.tmps[i]?=Z.tmps[i]?):Il (some l) st'=Il (some l) Z:=by
 have:Lu l st'=Lu l Z:=by
  unfold Lu;obtain⟨t',o',k'⟩:=st';obtain⟨t,o,k⟩:=Z;simp only at U O hl h3;subst U;subst O;have hl:t'.length=t.length:=hl;congr 1;show (t'.zipIdx.map fun (x:W×Nat)=>if l.contains x.2 then x.1 else .undef)=t.zipIdx.map fun (x:W×Nat)=>if l.contains x.2 then x.1 else .undef
  apply eO;intro i;rw[dT,dT,fG,fG];by_cases hi:i∈l;{rw[h3 i hi]}
  ·by_cases jP:i < t.length
   {rw[dQ jP,dQ (by omega)];simp[hi]};{rw[ew (by omega),ew (by omega)]}
 unfold Il;simp only[this]
theorem yW {k0 ks:AJ} (h:ks.Ok):(KS k0 ks).Ok/\(KS k0 ks).nt=ks.nt:=by unfold KS;obtain⟨U,O⟩:=T9 h (Hi k0.tmps);obtain⟨h3,h4,h5⟩:=MF O (JA {ks with tmps:=GM (Hi k0.tmps) ks.tmps});exact⟨h4,h5⟩
theorem ux:∀ (ps:jm) (args:jh) (i:Nat) {tm:Sp},Cb nt tm->(∀ p∈ps,p < nt)->Ap args=true->Cb nt (JP ps args i tm):=by
 intro ps;induction ps with
 | nil=>intro args i tm h _ _;exact h
 | cons p ps ih =>
  intro args i tm h hp ha;simp only[JP];refine ih args (i+1) (h.put (hp p (by simp)) ?_ rfl) (fun q hq=>hp q (by simp[hq])) ha;show jN (J args i)=true;unfold J;rw[dO];cases hg:args[i]? with
  | none=>rfl
  | some v=>exact I9 ha hg
theorem uy:∀ (ps:jm) (args:jh) (i:Nat) {tm:Sp},i+ps.length=args.length->BQ nt (JP ps args i tm)=Ie ps (args.drop i) (BQ nt tm):=by
 intro ps;induction ps with
 | nil=>intro args i tm _;simp[JP,Ie]
 | cons p ps ih =>
  intro args i tm hl;simp only[eS] at hl;have hd:args.drop i=args[i]'(by omega) :: args.drop (i+1):=eX (by omega);rw[hd];simp only[JP,Ie];rw[ih args (i+1) (by omega),Qw];have:J args i=args[i]'(by omega):=by unfold J;rw[dO,dQ (by omega)];rfl
  rw[<-this];rfl
theorem cf:∀ {l:jm} {p:Option Ex},RM l p K=some r->∃ id,p=some (.exit id)/\K id=some r:=by
 intro l;induction l with
 | nil=>intro p h;cases h
 | cons id l ih =>
  intro p h;simp only[RM] at h;rcases Lm h with ⟨U,O⟩ | ⟨_,O⟩
  {refine⟨id,?_,O⟩;unfold Y7 at U;split at U;{rename_i oo;rw[fQ U]};·cases U};{exact ih O}
def yX (sp:Sp) (k3:AJ):jh:=BQ k3.nt sp
theorem Ug (hc:EM cfg jO):∀ (c:BJ) {E R:Type} {h:AA E} {hn:Nat->AA E} (_:HOk h hn) (dep:Nat) {ks:AJ} {e:E} {K:Ex->AJ->E->Option R} {r:R},ks.Ok->DW cfg c h dep ks e K=some r ->
  ∃ x k' e',K x k' e'=some r/\k'.Ok/\Bs fun n=>AT (Ea cfg.b.sp jO n) n c (hn n) dep ks.Z e=some (x,k'.Z,e'):=by
 intro c;induction c with
 | skip=>intro E R h hn hh dep ks e K r hk T;exact⟨_,_,_,T,hk,.of fun n=>rfl⟩
 | region ops dr lv =>
  intro E R h hn hh dep ks e K r hk T;obtain⟨c1,c2,_⟩:=MF hk (DB ops);cases dr with
  | none =>
   simp only[DW] at T;rw[EH] at T;split at T
   ·rename_i t mW;obtain⟨z,hz,T⟩:=DR T;rw[EH] at T;obtain⟨k1,e1,hz2,kF,U⟩:=T7 (dep:=dep) hc hh ops c2 hz;unfold Yz at mW;split at mW
    case isFalse=>cases mW
    rename_i nN;simp only[dF] at nN;cases lv with
    | none=>cases mW
    | some l =>
    simp only at mW;split at mW
    case h_2=>cases mW
    rename_i t' hfil;cases mW;have hpure:∀ o∈ops,Ng o.op=true:=d6.1 nN.2;have hzok:jN z=true:=KV.lT (kF.tm.kP t) hz2;have htlt:t < k1.nt:=by apply fh;intro jP;rw[kF.tm.nV (by omega)] at hz2;cases hz2
    obtain⟨m,hm⟩:=U;have hm0:=hm m (dH _);obtain⟨rfl,p2,p3,p4,p5⟩:=uw ops hpure hm0;have oN:k1.nt=(ES (DB ops) ks).nt:=by have:k1.Z.tmps.length=(ES (DB ops) ks).Z.tmps.length:=p4;have a1:k1.Z.tmps.length=k1.nt:=E7 _ _;have a2:(ES (DB ops) ks).Z.tmps.length=(ES (DB ops) ks).nt:=E7 _ _;omega
    have pD:({ES (DB ops) ks with tmps:=DV t (.cv z) (ES (DB ops) ks).tmps}:AJ).Ok:=⟨c2.tm.put (by omega) hzok rfl,c2.ob,c2.kp⟩;obtain⟨t1,t2⟩:=QH pD (some l);refine⟨_,_,_,T,t2,⟨m,fun n kW=>?_⟩⟩;have hb:=hm n kW;rw[c1] at hb;simp only[AT,hb,t1];have:Il (some l) k1.Z=Il (some l) ({ES (DB ops) ks with tmps:=DV t (.cv z) (ES (DB ops) ks).tmps}:AJ).Z:=by refine bj (st':=k1.Z) (Z:=({ES (DB ops) ks with tmps:=DV t (.cv z) (ES (DB ops) ks).tmps}:AJ).Z) p2 p3 ?_ fun i hi=>?_;{rw[p4];show (BQ _ _).length=(BQ _ _).length;rw[E7,E7]};{show k1.Z.tmps[i]?=(BQ _ (DV t (.cv z) _))[i]?;rw[Qw];by_cases hit:i=t;{subst hit;rw[fS (by rw[E7];show i < (ES (DB ops) ks).nt;omega)];show (BQ k1.nt k1.tmps)[i]?=_;rw[j7,iJ htlt,KV.ld hz2];rfl};{rw[eB (eH hit)];refine p5 i fun k9=>hit ?_;have:i∈l.filter fun t=>(ops.filterMap (·.dst)).contains t:=fX.2 ⟨hi,by simpa using k9⟩;rw[hfil] at this;simpa using this}}
    rw[this]
   {obtain⟨k1,e1,T,kF,U⟩:=T7 (dep:=dep) hc hh ops c2 T;rw[EH] at T;obtain⟨t1,t2⟩:=QH kF lv;rw[c1] at U;exact⟨_,_,_,T,t2,U.mono fun n kW=>by simp only[AT,kW,t1]⟩}
  | some qF =>
   simp only[DW] at T;rw[EH] at T;obtain⟨k1,e1,T,kF,U⟩:=uo (dep:=dep) hc hh qF [] c2 T;rw[EH] at T;obtain⟨t1,t2⟩:=QH kF lv;rw[c1] at U;exact⟨_,_,_,T,t2,U.mono fun n kW=>by simp only[AT,kW,t1]⟩
 | seq a b ov ow =>
  intro E R h hn hh dep ks e K r hk T;simp only[DW] at T;obtain⟨x,k1,e1,T,kF,U⟩:=ov hh dep hk T;cases x with
  | normal =>
   obtain⟨x2,k2,e2,T,nL,O⟩:=ow hh dep kF T;exact⟨_,_,_,T,nL,U.lS O fun n a b=>by simp only[AT,a,b]⟩
  | exit id=>exact⟨_,_,_,T,kF,U.mono fun n a=>by simp only[AT,a]⟩
  | ret=>exact⟨_,_,_,T,kF,U.mono fun n a=>by simp only[AT,a]⟩
 | cond c a b ov ow =>
  intro E R h hn hh dep ks e K r hk T;simp only[DW] at T;have jL:=HN hk c;split at T;{rename_i hv;obtain⟨x,k1,e1,T,kF,U⟩:=ov hh dep hk T;exact⟨_,_,_,T,kF,U.mono fun n a=>by simp only[AT,jL,hv,KV.pv,a]⟩};{rename_i hv;obtain⟨x,k1,e1,T,kF,U⟩:=ow hh dep hk T;exact⟨_,_,_,T,kF,U.mono fun n a=>by simp only[AT,jL,hv,KV.pv,a]⟩}
  ·rename_i v hv;rcases Qm T with ⟨rfl,T⟩ | ⟨rfl,T⟩
   {obtain⟨x,k1,e1,T,kF,U⟩:=ov hh dep hk T;exact⟨_,_,_,T,kF,U.mono fun n a=>by simp only[AT,jL,hv,KV.pv,a]⟩};{obtain⟨x,k1,e1,T,kF,U⟩:=ow hh dep hk T;exact⟨_,_,_,T,kF,U.mono fun n a=>by simp only[AT,jL,hv,KV.pv,a]⟩}
  {cases T}
 | block id b ih =>
  intro E R h hn hh dep ks e K r hk T;simp only[DW] at T;obtain⟨x,k1,e1,T,kF,U⟩:=ih hh dep hk T;cases x with
  | normal=>exact⟨_,_,_,T,kF,U.mono fun n a=>by simp only[AT,a]⟩
  | ret=>exact⟨_,_,_,T,kF,U.mono fun n a=>by simp only[AT,a]⟩
  | exit oo =>
   simp only at T;split at T;{rename_i hid;exact⟨_,_,_,T,kF,U.mono fun n a=>by simp only[AT,a,hid,iH]⟩};{rename_i hid;exact⟨_,_,_,T,kF,U.mono fun n a=>by simp only[AT,a,hid,iG]⟩}
 | loop kN grow b ih =>
  intro E R h hn hh dep ks e K r hk T;simp only[DW] at T;obtain⟨k0,T,hk0,hnt0,qS⟩:=T8 hk T;rw[EH] at T;obtain⟨hU,T⟩:=BC T;split at T;·cases T
  rename_i nv;have nv:NP k0 k0=true:=VW (by simpa using nv);obtain⟨m,hm⟩:=P8 T
  have key:∀ (m:Nat) (vs:jh) (e:E),(Dm k0 vs).Ok->HV (fun s:jh×E=>Eb (Dm k0 s.1) fun ks=>DW cfg b h dep ks s.2 (Rh kN grow k0 K)) m (vs,e)=some r ->
    ∃ x k' e',K x k' e'=some r/\k'.Ok/\Bs fun n=>∀ j,m<=j->Hb (G8 (Ea cfg.b.sp jO n) n kN grow b (hn n) dep (kC k0.Z)) j ((Dm k0 vs).Z,e)=some (x,k'.Z,e'):=by
   intro m;induction m with
   | zero=>intro vs e _ h0;cases h0
   | succ m ihm =>
    intro vs e px hm;unfold HV at hm;simp only at hm;rw[EH] at hm;cases hs:DW cfg b h dep (Dm k0 vs) e (Rh kN grow k0 K) with
    | none =>
     rw[hs] at hm;cases hm
    | some q =>
     rw[hs] at hm;obtain⟨x,k1,e1,hq,kF,U⟩:=ih hh dep px hs
     have nS:∀ y,y≠Ex.normal->x=y->(Ac (K y k1 e1) fun r=>some (Sum.inr r))=some q->∃ x k' e',K x k' e'=some r/\k'.Ok/\Bs fun n=>∀ j,m+1<=j->Hb (G8 (Ea cfg.b.sp jO n) n kN grow b (hn n) dep (kC k0.Z)) j ((Dm k0 vs).Z,e)=some (x,k'.Z,e'):=by
      intro y hy hxy hq;obtain⟨r',oV,hq⟩:=DR hq;cases hq;cases hm;refine⟨y,k1,e1,oV,kF,U.mono fun n kW j hj=>?_⟩;obtain⟨j,rfl⟩:∃ i,j=i+1:=⟨j - 1,by omega⟩;rw[P4];subst hxy;cases x with
      | normal=>exact iW rfl hy
      | exit id=>simp only[G8,kW,Ky]
      | ret=>simp only[G8,kW,Ky]
     cases x with
     | exit id=>exact nS (.exit id) (by simp) rfl hq
     | ret=>exact nS .ret (by simp) rfl hq
     | normal =>
      unfold Rh at hq;simp only at hq;obtain⟨d1,d2⟩:=yW (k0:=k0) kF;obtain⟨k2,hq,nL,hnt2,hst2⟩:=T8 d1 hq;rw[EH] at hq;split at hq;{rename_i yY;obtain⟨yZ,hq⟩:=TO hq;have od:=TF yY yZ;cases hq;obtain⟨f1,f2,f3,f4⟩:=Qt od hk0 nL;obtain⟨g1,_,_⟩:=yT hk0 hU kF (by omega);obtain⟨x3,k3,e3,rA,hk3,h3⟩:=ihm _ _ f2 hm;refine⟨x3,k3,e3,rA,hk3,U.lS h3 fun n hn1 hn3 j hj=>?_⟩;obtain⟨j,rfl⟩:∃ i,j=i+1:=⟨j - 1,by omega⟩;rw[P4];have:=hn3 j (by omega);rw[f1,hst2,g1] at this;simp only[G8,hn1,Ky];exact this};{cases hq}
  obtain⟨s1,s2,_,_⟩:=Qt (p:=k0) (x:=k0) nv hk0 hk0;obtain⟨x,k',e',oV,nk,jL⟩:=key m _ e s2 hm;refine⟨x,k',e',oV,nk,jL.diag.mono fun n kW=>?_⟩;rw[s1,qS] at kW;rw[WB,kW]
 | rangeFunc f ps kN b ov ow =>
  intro E R h hn hh dep ks e K r hk T;simp only[DW] at T;split at T
  case h_2=>cases T
  rename_i fv rM;split at T
  case isFalse=>cases T
  rename_i vW;simp only[dF] at vW;obtain⟨⟨vW,hself0⟩,hxf⟩:=vW;have nv:=VW hself0;have hpslt:∀ p∈ps,p < ks.nt:=fun p hp=>by have:=d6.1 vW p hp;simpa[ff] using this
  obtain⟨⟨vs,p,e2⟩,nq,mL⟩:=DR T;clear T;rw[EH] at mL;simp only at mL;unfold DU at nq;split at nq
  case h_2=>cases nq
  rename_i g cap;split at nq
  case h_2=>cases nq
  rename_i rv obs rr hL;cases nq;rw[hc.L] at hL;obtain⟨m,hm⟩:=OC hL;have hm:=hm m (dH _);obtain⟨s1,s2,_,_⟩:=Qt (p:=ks) (x:=ks) nv hk hk
  obtain⟨⟨jU,p2,kU⟩,rC,jL⟩:=Ti (sp:=cfg.b.sp) (jO:=jO) m (Is E) (Hs E)
   (fun a b=>a.2.1=b.2.1/\a.2.2=b.2.2/\(Dm ks a.1).Ok/\(Dm ks a.1).Z=b.1) _ (fun n=>LK (Ea cfg.b.sp jO n) n kN b (hn n) dep ps) (by
    rintro l args ⟨vs,p,e⟩ ⟨s,p',e'⟩ ⟨U,O,h3,h4⟩ bb ⟨vs',q,e1⟩ hq;simp only at U O h3 h4;subst U;subst O;subst h4;unfold EI at hq;unfold LK;by_cases hl:l=dep
    ·simp only[hl,iH] at hq |-;cases p with
     | some x=>cases hq
     | none =>
      simp only at hq |-;obtain⟨kX,hq⟩:=BC hq;unfold ER at kX;simp only[dF,iL] at kX;rw[EH,EH] at hq;have oN:(Dm ks vs).nt=ks.nt:=rfl
      have kF:({Dm ks vs with tmps:=JP ps args 0 (Dm ks vs).tmps,jG:=(Dm ks vs).tmps :: (Dm ks vs).jG}:AJ).Ok :=
       ⟨ux ps args 0 h3.tm hpslt kX.2,h3.ob,fun sp kG=>(dM.1 kG).elim (fun e=>e ▸ h3.tm) (h3.kp sp)⟩
      have hk1st:({Dm ks vs with tmps:=JP ps args 0 (Dm ks vs).tmps,jG:=(Dm ks vs).tmps :: (Dm ks vs).jG}:AJ).Z={(Dm ks vs).Z with tmps:=Ie ps args (Dm ks vs).Z.tmps,jG:=(Dm ks vs).Z.tmps++(Dm ks vs).Z.jG}:=by
       unfold AJ.Z;simp only
       rw[uy ps args 0 (by omega)];simp
      obtain⟨x1,k2,e3,hq,nL,ha⟩:=ov hh (dep+1) kF hq;cases x1 with
      | exit id=>cases hq
      | ret=>cases hq
      | normal =>
       simp only at hq;obtain⟨x2,k3,e4,hq,hk3,hb⟩:=ow hh (dep+1) nL hq;split at hq
       case h_1=>cases hq
       rename_i sp kp lE;rw[EH] at hq;split at hq
       case isFalse=>cases hq
       rename_i yY;obtain⟨yZ,hq⟩:=TO hq;have od:=TF yY yZ;cases hq;have hk4:({k3 with tmps:=sp,jG:=kp}:AJ).Ok:=⟨hk3.kp sp (by rw[lE];simp),hk3.ob,fun q hq=>hk3.kp q (by rw[lE];simp[hq])⟩;obtain⟨f1,f2,f3,f4⟩:=Qt od hk hk4;have f5:ks.nt=k3.nt:=f4;refine⟨({tmps:=yX sp k3,jC:=k3.Z.jC,jG:=kp.flatMap (BQ k3.nt)},yw x2,e1),⟨rfl,rfl,f2,?_⟩,ha.lS hb fun n hn1 hn2=>?_⟩;·rw[f1];rfl
       ·simp only[kX.1,iH];rw[<-hk1st,hn1];simp only
        rw[hn2];simp only
        have qU:k3.Z.jG=BQ k3.nt sp++kp.flatMap (BQ k3.nt):=by show k3.jG.flatMap (BQ k3.nt)=_;rw[lE];rfl
        have hlen:(Dm ks vs).Z.tmps.length=(BQ k3.nt sp).length:=by show (BQ ks.nt _).length=_;rw[E7,E7];exact f5
        rw[qU,hlen,List.take_left,List.drop_left];cases x2<;>rfl
    ·simp only[hl,iG] at hq |-;split at hq
     ·rename_i b2 e3 h6;cases hq;exact⟨_,⟨rfl,rfl,h3,rfl⟩,(hh _ _ _ _ h6).mono fun n kW=>by rw[kW]⟩
     ·cases hq) (dep+1) (Ba g) (BI g [.ke dep] cap) (FU ks ks,none,e) (ks.Z,none,e) ⟨rfl,rfl,s2,s1⟩ rv obs _ hm
  simp only at rC;obtain⟨U,O,h3,h4⟩:=rC;subst U;subst O;subst h4;have pC:f.ev ks.Z.tmps=.fn g cap:=by rw[HN hk,KV.ld rM]
  have pa:(W.fn g cap).names=[]:=by exact (FH (KV.lT (NH hk hxf) rM)).1
  have y3:Bs fun n=>AT (Ea cfg.b.sp jO n) n (.rangeFunc f ps kN b) (hn n) dep ks.Z e=some (p.getD .normal,(Dm ks vs).Z,e2):=jL.mono fun n kW=>by rw[VA,pC];unfold LE;rw[pa];simp only[f8,iH];simp only[Ea,Br] at kW |-;rw[kW]
  rcases Lm mL with ⟨hp,mL⟩ | ⟨_,mL⟩
  ·cases p with
   | some x=>cases hp
   | none=>exact⟨_,_,_,mL,h3,y3⟩
  ·rcases Lm mL with ⟨hp,mL⟩ | ⟨_,mL⟩
   {unfold HK at hp;split at hp;{exact⟨_,_,_,mL,h3,y3⟩};·cases hp};{obtain⟨id,hpe,rA⟩:=cf mL;subst hpe;exact⟨_,_,_,rA,h3,y3⟩}
 | exit id=>intro E R h hn hh dep ks e K r hk T;exact⟨_,_,_,T,hk,.of fun n=>rfl⟩
 | scope b ih =>
  intro E R h hn hh dep ks e K r hk T;simp only[DW] at T;obtain⟨x,k1,e1,T,kF,U⟩:=ih hh dep hk T;cases x with
  | normal=>exact⟨_,_,_,T,kF,U.mono fun n a=>by simp only[AT,a]⟩
  | ret=>exact⟨_,_,_,T,kF,U.mono fun n a=>by simp only[AT,a]⟩
  | exit oo =>
   simp only at T;split at T;{rename_i hid;exact⟨_,_,_,T,kF,U.mono fun n a=>by simp only[AT,a,hid,iH]⟩};·cases T
 | ret=>intro E R h hn hh dep ks e K r hk T;exact⟨_,_,_,T,hk,.of fun n=>rfl⟩
 | norm g =>
  intro E R h hn hh dep ks e K r hk T;simp only[DW] at T;obtain⟨t1,t2,_⟩:=yS hk;obtain⟨k',T,nk,_,lr⟩:=T8 t2 T;rw[EH] at T;exact⟨_,_,_,T,nk,.of fun n=>by simp only[AT,lr,t1]⟩
 | bad=>intro E R h hn hh dep ks e K r hk T;cases T
 | o7 ops f args lv=>intro E R h hn hh dep ks e K r hk T;cases T
end Go.Ab


namespace Go.Ab
variable{E R:Type} {args vs:jn} {cs:jh} {dep nt:Nat} {fn:Au} {g:ja} {sh:Bu} {u:W} {v:KV} {x:IW} {K:KV->Option R} {h:AA E} {hn:Nat->AA E} {r:R}
variable {cfg:ED} {jO:ja->jt} {ks:AJ}
theorem y4 (h:ks.Ok) (T:yx ks x K=some r):∃ v,K v=some r/\v.ok/\Cu ks.Z x=some v.pv:=by
 have kO:∀ t,ks.Z.tmps.getD t .undef=(Bi ks.tmps t).pv:=fun t=>Li h.tm t;have lk:=H3 h;cases x with
 | tmp t=>exact⟨_,T,h.tm.kP t,by simp only[Cu,kO]⟩
 | cell t n ag =>
  simp only[yx] at T;split at T;{rename_i V o hv;split at T;{rename_i cs hl;have lY:Bj cs:=EG h.ob hl;split at T;{rename_i td;split at T;{rename_i hle;refine⟨_,T,Oh (Oi lY _) _,?_⟩;simp only[Cu,kO,hv,KV.pv,lk,hl,ed,Ak.ob,Ci,td,iH,AN,H0,hle,iM,MM,MN]};{cases T}};{rename_i td;split at T;{rename_i c hc;refine⟨_,T,DT.1 lY c (d9 hc),?_⟩;simp only[Cu,kO,hv,KV.pv,lk,hl,ed,Ak.ob,Ci,td,mz,hc];rfl};{cases T}}};{rename_i w hl;obtain⟨z,hz,T⟩:=DR T;have hw:jN w=true:=EG h.ob hl;unfold A3 at hz;refine⟨_,T,ON (Eo hw) hz,?_⟩;simp only[Cu,kO,hv,KV.pv,lk,hl,ed,Ak.ob,DK,hz]};{cases T}};{cases T}
theorem Xj (h:ks.Ok):∀ (l:List IW) {K:jn->Option R},KA ks l K=some r->∃ vs,K vs=some r/\Bj vs/\Gz ks.Z l=some (AP vs):=by
 intro l;induction l with
 | nil=>intro K T;exact⟨[],T,trivial,rfl⟩
 | cons x l ih =>
  intro K T;simp only[KA] at T;obtain⟨v,T,hv,U⟩:=y4 h T;obtain⟨vs,T,mG,O⟩:=ih T;exact⟨v :: vs,T,⟨hv,mG⟩,by simp only[Gz,U,O,AP]⟩
theorem Xl (h:Bj vs):(KC vs).ok/\(KC vs).pv=Ig (AP vs):=by
 match vs,h with
 | [],h=>exact⟨trivial,rfl⟩
 | [v],h=>exact⟨h.1,rfl⟩
 | v :: w :: vs,h=>exact⟨h,rfl⟩
theorem Wu {o:Nat}:Jj o=true↔o=0:=by cases o<;>simp[Jj]
def y5:W->jl
 | .arr V _ 0 _=>[V]
 | _=>[]
def top2:W->jl
 | .arr V _ 0 _=>[V]
 | .agg cs=>cs.flatMap y5
 | _=>[]
def y6:KV->jl
 | .arr V _ o _=>if Jj o then [V] else []
 | .lg V=>[V]
 | _=>[]
def PG:KV->jl
 | .arr V _ o _=>if Jj o then [V] else []
 | .lg V=>[V]
 | .agg cs=>cs.flatMap y6
 | _=>[]
variable{x:KV}
theorem y7 (h:x.ok):y6 x=y5 x.pv:=by
 cases x with
 | arr V k o n=>cases o<;>rfl
 | cv v =>
  have hv:jN v=true:=h;cases v<;>first | rfl | simp[jN] at hv
 | _=>rfl
theorem WQ (h:Ap cs=true):cs.flatMap y5=[]:=by rw[List.flatMap_eq_nil_iff];intro x A;have:=FG.1 h x A;cases x<;>first | rfl | simp[jN] at this
theorem Z8 {cs:jn} (h:Bj cs):cs.flatMap y6=(AP cs).flatMap y5:=by
 rw[Fb,iw];induction cs with
 | nil=>rfl
 | cons x H ih=>simp only[fg];rw[y7 h.1,ih h.2]
theorem T6 (h:x.ok):PG x=top2 x.pv:=by
 cases x with
 | arr V k o n=>cases o<;>rfl
 | agg cs=>exact Z8 h
 | cv v =>
  have hv:jN v=true:=h;cases v with
  | agg cs=>simp only[jN] at hv;exact (WQ hv).symm
  | _=>first | rfl | simp[jN] at hv
 | _=>rfl
theorem tops_eq (v:W):wA v=match v with | .jE H=>H.flatMap top2 | v=>top2 v:=by
 have e1:(fun (x:W)=>match x with | .arr V _ 0 _=>[V] | _=>[])=y5:=by funext x;cases x<;>first | rfl | (rename_i V k o n;cases o<;>rfl)
 cases v with
 | arr V k o n=>cases o<;>rfl
 | agg cs=>simp only[wA,top2];rfl
 | jE H =>
  simp only[wA];congr 1
 | _=>rfl
theorem y8 (v:KV):RK v=match v with | .jE H=>H.flatMap PG | v=>PG v:=by cases v<;>first | rfl | (simp only[RK];congr 1)
theorem y9 (h:v.ok):RK v=wA v.pv:=by
 rw[y8,tops_eq];cases v with
 | jE H =>
  have A:Bj H:=h;simp only[KV.pv];rw[Fb,iw];clear h;induction H with
  | nil=>rfl
  | cons x H ih=>simp only[fg];rw[T6 A.1,ih A.2]
 | cv u =>
  have hu:jN u=true:=h;simp only[KV.pv,PG];cases u with
  | jE H =>
   simp only[jN] at hu;symm;rw[List.flatMap_eq_nil_iff];intro x A;have nn:=FG.1 hu x A;have:=T6 (x:=.cv x) nn;simpa[PG,KV.pv] using this.symm
  | agg cs=>simp only[jN] at hu;exact (WQ hu).symm
  | _=>first | rfl | simp[jN] at hu
 | _=>exact T6 h
theorem Wk:∀ {l:jl},EJ l=true↔l.Nodup
 | []=>by simp[EJ]
 | x :: H=>by simp[EJ,Wk (l:=H)]
theorem uz {σ:Nm->jk}:∀ {S:jl},(∀ V∈S,∃ ob,σ V=some ob/\KT ob=true)->∃ obs,S.mapM σ=some obs/\obs.all KT=true/\obs.length=S.length/\∀ (i:Nat) V,S[i]?=some V->obs[i]?=σ V:=by
 intro S;induction S with
 | nil=>intro _;exact⟨[],rfl,rfl,rfl,by simp⟩
 | cons V S ih =>
  intro h;obtain⟨ob,U,O⟩:=h V (by simp);obtain⟨obs,h3,h4,h5,h6⟩:=ih fun m hm=>h m (by simp[hm]);refine⟨ob :: obs,by simp[fq,U,h3],by simp[O,h4],by simp[h5],?_⟩;intro i m hi;cases i with
  | zero=>simp at hi;subst hi;simp[U]
  | succ i=>simp at hi |-;exact h6 i m hi
theorem Xs {pre mid post:jl} {V:Nm} (mu:(pre++V :: mid++post).Nodup):(pre++V :: mid++post).idxOf V=pre.length:=by
 have hn:V ∉ pre:=fun hm=>by rw[eL,List.nodup_append] at mu;exact mu.2.2 V hm V (by simp) rfl
 rw[eL,List.idxOf_append,iI hn];simp
section hand
variable {σ:Nm->jy} (hσ:∀ V o,σ V=some o->o.ok) {S:jl} (mu:S.Nodup) {obs:jp} (qp:∀ (i:Nat) V,S[i]?=some V->obs[i]?=(σ V).map fun o=>o.ob.bare)
include hσ mu qp
def Im (σ:Nm->jy) (S:jl):Nm->Option jk:=fun V=>if S.contains V=true then none else BX (fun V=>(σ V).map Ak.ob) V
omit mu qp in
theorem dp (A:x.ok) (hn:(x.names.all fun V=>!S.contains V)=true):x.pv.sub (Im σ S)=x.close (D5 σ A7):=by rw[KV.lU _ A];refine W.sub_congr _ fun V hm=>?_;rw[KV.kY A] at hm;have:=d6.1 hn V hm;unfold Im Fz BX;simp only[fO] at this;rw[this,S9 hσ,gG];rfl
omit hσ mu qp in
theorem sub_cl (A:x.ok) (h:x.cl=some u) (f:Nm->Option jk) (g:Nm->Nm):(x.pv.sub f).jR g=u:=by have hu:=KV.lT A h;rw[KV.ld h,Kh (FH hu).1,Lr (FH hu).1]
mutual
theorem Yc {R:Type} {r:R}:∀ (sh:Bu) (x:KV),x.ok->∀ {K:W->Option R},GS σ S sh x K=some r->∀ (pre post:jl),S=pre++Dz sh x++post ->
  ∃ u,K u=some r/\Dq obs sh pre.length ((x.pv.sub (Im σ S)).jR (KP S))=some (u,pre.length+(Dz sh x).length)
 | .cl,x,A,K,T,pre,post,_=>by
  have zc:(if x.names.all fun V=>!S.contains V then Ae (A6 (x.close (D5 σ A7))) (K (x.close (D5 σ A7))) else none)=some r ->
    ∃ u,K u=some r/\Dq obs .cl pre.length ((x.pv.sub (Im σ S)).jR (KP S))=some (u,pre.length+(Dz .cl x).length):=by
   intro T;split at T;{rename_i hn;obtain⟨U,T⟩:=BC T;unfold A6 at U;refine⟨_,T,?_⟩;rw[dp hσ A hn,Lr (FH U).1];simp[Dq,U,Ae,Dz]};{cases T}
  simp only[GS] at T;cases hu:x.cl with
  | some u =>
   rw[hu] at T;refine⟨u,T,?_⟩;rw[sub_cl A hu];simp[Dq,KV.lT A hu,Ae,Dz]
  | none =>
   rw[hu] at T;cases x with
   | jE H =>
    simp only at T;cases zd:EF H with
    | some us =>
     rw[zd] at T;have ln:=JT (H:=H) A zd;have htup:jN (.jE us)=true:=by simpa[jN] using ln
     refine⟨.jE us,T,?_⟩;have:(KV.jE H).pv=.jE us:=by simp[KV.pv,KK zd]
     rw[this,Kh (FH htup).1,Lr (FH htup).1];simp[Dq,htup,Ae,Dz]
    | none=>rw[zd] at T;exact zc T
   | _=>exact zc T
 | .own k,x,A,K,T,pre,post,hS=>by
  simp only[GS] at T;split at T
  ·rename_i V k' o n;split at T
   ·rename_i nx kt H hl;split at T
    ·rename_i hc;obtain⟨rfl,rfl,ho⟩:=hc;rw[Wu] at ho;subst ho;obtain⟨U,T⟩:=BC T;rw[O5] at U;unfold Ah at U;simp only[Dz] at hS;refine⟨_,T,?_⟩;have k9:S.contains V=true:=by rw[fw,hS];simp
     have hi:S[pre.length]?=some V:=by rw[hS];simp
     have rQ:S.idxOf V=pre.length:=by
      have e:S=pre++V :: []++post:=by rw[hS]
      rw[e];exact Xs (e ▸ mu)
     have l7:obs[pre.length]?=some (.arr k 0 H):=by rw[qp _ _ hi,hl];rfl
     have hxok:Ap H=true:=hσ _ _ hl;have np:(W.arr V k 0 n).sub (Im σ S)=.arr V k 0 n:=by simp only[W.sub,Im,k9,iH]
     simp only[KV.pv];rw[np];simp[W.jR,KP,rQ,Dq,l7,Ae,U,hxok,Dz]
    {cases T}
   {cases T}
  {cases T}
 | .opt k,x,A,K,T,pre,post,hS=>by
  simp only[GS] at T;split at T
  ·rename_i V k' o n;split at T
   ·rename_i nx kt H hl;split at T
    ·rename_i hc;obtain⟨rfl,rfl,ho⟩:=hc;rw[Wu] at ho;subst ho;obtain⟨U,T⟩:=BC T;rw[O5] at U;unfold Ah at U;simp only[Dz] at hS;refine⟨_,T,?_⟩;have k9:S.contains V=true:=by rw[fw,hS];simp
     have hi:S[pre.length]?=some V:=by rw[hS];simp
     have rQ:S.idxOf V=pre.length:=by
      have e:S=pre++V :: []++post:=by rw[hS]
      rw[e];exact Xs (e ▸ mu)
     have l7:obs[pre.length]?=some (.arr k 0 H):=by rw[qp _ _ hi,hl];rfl
     have hxok:Ap H=true:=hσ _ _ hl;have np:(W.arr V k 0 n).sub (Im σ S)=.arr V k 0 n:=by simp only[W.sub,Im,k9,iH]
     simp only[KV.pv];rw[np];simp[W.jR,KP,rQ,Dq,l7,Ae,U,hxok,Dz]
    {cases T}
   {cases T}
  {refine⟨.jD,T,?_⟩;simp[KV.pv,W.sub,W.jR,Dq,Dz]};{unfold CU at T;split at T;{refine⟨.jD,T,?_⟩;simp[KV.pv,W.sub,W.jR,Dq,Dz]};{cases T}};{cases T}
 | .jE l,x,A,K,T,pre,post,hS=>by
  simp only[GS] at T;split at T;{rename_i H;simp only[Dz] at hS;obtain⟨us,U,O⟩:=Tz l H A T pre post hS;refine⟨_,U,?_⟩;simp only[KV.pv,W.sub,W.jR,Dq,O,Dz];rfl};{cases T}
 | .agg l,x,A,K,T,pre,post,hS=>by
  simp only[GS] at T;split at T;{rename_i H;simp only[Dz] at hS;obtain⟨us,U,O⟩:=Tz l H A T pre post hS;refine⟨_,U,?_⟩;simp only[KV.pv,W.sub,W.jR,Dq,O,Dz];rfl};{cases T}
theorem Tz {R:Type} {r:R}:∀ (l:List Bu) (H:jn),Bj H->∀ {K:jh->Option R},IG σ S l H K=some r->∀ (pre post:jl),S=pre++If l H++post ->
  ∃ us,K us=some r/\GP obs l pre.length (BE (KP S) (Bf (Im σ S) (AP H)))=some (us,pre.length+(If l H).length)
 | [],[],_,K,T,pre,post,_=>⟨[],T,by simp[AP,Bf,BE,GP,If]⟩
 | [],_ :: _,_,K,T,_,_,_=>by simp[IG] at T
 | _ :: _,[],_,K,T,_,_,_=>by simp[IG] at T
 | s :: l,x :: H,A,K,T,pre,post,hS=>by
  simp only[IG] at T;simp only[If] at hS;obtain⟨u,T,U⟩:=Yc s x A.1 T pre (If l H++post) (by rw[hS];simp[eL]);obtain⟨us,T,O⟩:=Tz l H A.2 T (pre++Dz s x) post (by rw[hS];simp[eL]);refine⟨u :: us,T,?_⟩;simp only[AP,Bf,BE,GP,U];rw[eA] at O;rw[O];simp[If,gA]
end
end hand
theorem own_arr {σ:Nm->jy} {S:jl}:∀ (sh:Bu) (x:KV) {K:W->Option R},GS σ S sh x K=some r->(∀ V∈Dz sh x,∃ k kt H,σ V=some (.arr k kt H))/\∃ u,K u=some r:=by
 intro sh
 refine Bu.rec (motive_1:=fun sh=>∀ (x:KV) {K:W->Option R},GS σ S sh x K=some r->(∀ V∈Dz sh x,∃ k kt H,σ V=some (.arr k kt H))/\∃ u,K u=some r)
  (motive_2:=fun l=>∀ (H:jn) {K:jh->Option R},IG σ S l H K=some r->(∀ V∈If l H,∃ k kt ys,σ V=some (.arr k kt ys))/\∃ us,K us=some r) ?_ ?_ ?_ ?_ ?_ ?_ ?_ sh
 {intro x K T;refine⟨by simp[Dz],?_⟩;simp only[GS] at T;split at T;{exact⟨_,T⟩};{split at T;{split at T;{exact⟨_,T⟩};{split at T;{exact⟨_,(BC T).2⟩};·cases T}};{split at T;{exact⟨_,(BC T).2⟩};·cases T}}};{intro k x K T;simp only[GS] at T;split at T;{rename_i V k' o n;split at T;{rename_i nx kt H hl;split at T;{exact⟨by simp[Dz,hl],_,(BC T).2⟩};·cases T};{cases T}};{cases T}};{intro k x K T;simp only[GS] at T;split at T;{rename_i V k' o n;split at T;{rename_i nx kt H hl;split at T;{exact⟨by simp[Dz,hl],_,(BC T).2⟩};·cases T};{cases T}};{exact⟨by simp[Dz],_,T⟩};{unfold CU at T;split at T;{exact⟨by simp[Dz],_,T⟩};·cases T};{cases T}};{intro l ih x K T;simp only[GS] at T;split at T;{rename_i H;obtain⟨U,us,O⟩:=ih H T;exact⟨by simpa[Dz] using U,_,O⟩};{cases T}};{intro l ih x K T;simp only[GS] at T;split at T;{rename_i H;obtain⟨U,us,O⟩:=ih H T;exact⟨by simpa[Dz] using U,_,O⟩};{cases T}}
 ·intro H K T;cases H with
  | nil=>exact⟨by simp[If],_,T⟩
  | cons x H=>simp[IG] at T
 ·intro s l ihs ihl H K T;cases H with
  | nil=>simp[IG] at T
  | cons x H =>
   simp only[IG] at T;obtain⟨U,u,T⟩:=ihs x T;obtain⟨O,us,T⟩:=ihl H T;refine⟨?_,_,T⟩;intro V hm;simp only[If,dX] at hm;exact hm.elim (U V) (O V)
theorem P9 (shut:Bool) (h:v.ok):M3 shut v=Jg shut v.pv:=by
 cases shut with
 | true=>rfl
 | false=>exact y9 h
theorem Z0 (h:ks.Ok) {shut:Bool} (hv:v.ok) {K:W->Option R} (T:Ql ks shut sh v K=some r):∃ u rv obs,K u=some r/\Km shut ks.Z v.pv=some (rv,obs)/\EY sh rv obs=some u:=by
 unfold Ql at T;simp only at T;split at T
 case isFalse=>cases T
 rename_i hc;obtain⟨hS,mu,xN,lP⟩:=hc;have hσ:=Eh h;obtain⟨lj,_⟩:=own_arr sh v T;rw[<-hS] at lj;have kD:=Fs h;obtain⟨obs,hm,kE,hlen,kO⟩:=uz (σ:=Al ks.Z.jC) (S:=M3 shut v) fun V hm=>by obtain⟨k,kt,H,he⟩:=lj V hm;exact⟨.arr k kt H,by rw[H3 h,he];rfl,rfl⟩
 have hnd':=Wk.1 mu;obtain⟨u,hu,hconv⟩:=Yc hσ hnd' (obs:=obs.map Ob.bare) (fun i V hi=>by rw[dT,kO i V hi,H3 h,gG];rfl) sh v hv T [] [] (by rw[<-hS];simp);refine⟨u,(v.pv.sub (Im (Bw ks.jC) (M3 shut v))).jR (KP (M3 shut v)),obs.map Ob.bare,hu,?_,?_⟩
 ·have e:(fun V=>if (Jg shut v.pv).contains V=true then none else BX (Al ks.Z.jC) V)=Im (Bw ks.jC) (M3 shut v):=by funext V;unfold Im;rw[P9 shut hv,kD]
  rw[Iw hσ,<-kD] at xN lP;rw[MQ hσ,<-kD] at lP;rw[P9 shut hv,<-KV.kY hv] at xN lP;rw[P9 shut hv] at mu hm;unfold Km;simp only[mu,xN,eF,iH,hm,lP,kE,AN,e,P9 shut hv]
 {unfold EY;simp only[fF,eu] at hconv;rw[hconv];simp[Ae,hlen,hS]}
theorem Uz (ha:Bj args) (hu:∀ x∈args,FP x=false) (hl:args.length<=nt):({nt,tmps:=args.zipIdx.map fun p=>(p.2,p.1),jC:=[],jG:=[]}:AJ).Ok /\
  ({nt,tmps:=args.zipIdx.map fun p=>(p.2,p.1),jC:=[],jG:=[]}:AJ).Z={tmps:=AP args++List.replicate (nt - (AP args).length) .undef,jC:=List.replicate nt [],jG:=[]}:=by
 have k9:∀ p∈args.zipIdx.map (fun p=>(p.2,p.1)),args[p.1]?=some p.2:=by intro p hp;obtain⟨⟨x,i⟩,hq,rfl⟩:=dJ.1 hp;rw[fz] at hq;exact hq
 have hw:Cb nt (args.zipIdx.map fun p=>(p.2,p.1)):=by refine⟨?_,?_,?_,?_⟩;{rw[eo];have:((fun p:Nat×KV=>p.1)∘fun p:KV×Nat=>(p.2,p.1))=Prod.snd:=rfl;rw[this,List.zipIdx_map_snd];exact List.pairwise_lt_range'};{intro p hp;have:=(dU.1 (k9 p hp)).1;omega};{intro p hp;exact DT.1 ha _ (d9 (k9 p hp))};{intro p hp;exact hu _ (d9 (k9 p hp))}
 refine⟨⟨hw,.nil nt,by simp⟩,?_⟩;unfold AJ.Z;simp only[im];congr 1
 ·refine Lp (by simp[H0];omega) fun i hi=>?_;by_cases hia:i < args.length
  ·rw[fu (by rw[H0];exact hia),mz,dQ hia];have hp:(i,args[i])∈args.zipIdx.map (fun p=>(p.2,p.1)):=by refine dJ.2 ⟨(args[i],i),?_,rfl⟩;rw[fz];simp[hia]
   rw[show Bi (args.zipIdx.map fun p=>(p.2,p.1)) i=args[i] from hw.get_mem hp];rfl
  {rw[fN (by rw[H0];omega),iF,iJ (by rw[H0];omega)];rw[show Bi (args.zipIdx.map fun p=>(p.2,p.1)) i=.un from Tp fun p hp=>by have:=(dU.1 (k9 p hp)).1;omega];rfl}
 {refine Lk (by simp) fun i hi=>?_;rw[iF,iJ hi];rfl}
theorem MW (hc:EM cfg jO) (ht:jO g=some fn) (hh:HOk h hn) {e e':E} 
  (ha:Bj args) (hu:∀ x∈args,FP x=false) (hl:args.length<=fn.nt) (T:AH cfg fn sh h dep args e=some (u,e')) :
  ∃ r obs,EY sh r obs=some u/\Bs fun n=>Br cfg.b.sp jO n E (hn n) dep g (AP args) e=some (r,obs,e'):=by
 unfold AH at T;rw[EH] at T;obtain⟨i1,i2⟩:=Uz ha hu hl;have hh':HOk h fun n=>hn (n+1):=fun l args e r hq=>by obtain⟨a,hb⟩:=hh l args e r hq;exact⟨a,fun n kW=>hb (n+1) (by omega)⟩
 obtain⟨x,k1,e1,T,kF,jL⟩:=Ug hc fn.code hh' dep i1 T;rw[i2] at jL
 have fin:(KA k1 fn.res fun vs=>Ql k1 fn.shut sh (KC vs) fun v=>some (v,e1))=some (u,e')->(∀ id,x≠.exit id)->∃ r obs,EY sh r obs=some u/\Bs fun n=>Br cfg.b.sp jO n E (hn n) dep g (AP args) e=some (r,obs,e'):=by
  intro T A;obtain⟨vs,T,mG,U⟩:=Xj kF fn.res T;obtain⟨o1,o2⟩:=Xl mG;obtain⟨u',rv,obs,T,O,h3⟩:=Z0 kF o1 T;cases T;refine⟨rv,obs,h3,jL.shift.mono ?_⟩;rintro k ⟨j,rfl,hj⟩;show JU (Fh cfg.b.sp jO j) j jO E (hn (j+1)) dep g (AP args) e=_;simp only[JU,ht];simp only[Ea] at hj;rw[hj];cases x with
  | exit id=>exact iW rfl (A id)
  | normal=>simp only[U];rw[<-o2,O]
  | ret=>simp only[U];rw[<-o2,O]
 cases x with
 | exit id=>cases T
 | normal=>exact fin T (by simp)
 | ret=>exact fin T (by simp)
end Go.Ab


namespace Go.Ab
variable{E α β:Type} {ag b f fr:Bool} {args cap vs:jh} {dep h j n o:Nat} {fn:Au} {g:ja} {k':IntKind} {obs:jp} {s:ji} {sh:Bu} {u v:W}
section
variable {cfg:ED} {jO:ja->jt}
theorem Nu:∀ (vs:jh),AP (vs.map KV.cv)=vs
 | []=>rfl
 | v :: vs=>by simp[AP,KV.pv,Nu vs]
theorem Ps (h:Ap vs=true):Bj (vs.map KV.cv):=DT.2 fun x A=>by obtain⟨v,hv,rfl⟩:=dJ.1 A;exact FG.1 h v hv
theorem Pq:∀ x∈vs.map KV.cv,FP x=false:=fun x A=>by obtain⟨v,_,rfl⟩:=dJ.1 A;rfl
theorem noH:HOk AI (fun _=>AI):=fun _ _ _ _ h=>by cases h
theorem V1 (hc:EM cfg jO) (ht:jO g=some fn) (ha:Ap (args++cap)=true) (hl:(args++cap).length<=fn.nt)
  (kG:cfg.b.sp g (fun _=>none) (args++cap)=none) (T:AH cfg fn sh AI 0 ((args++cap).map KV.cv) ()=some (u,())) (lF:fn.io=false:=by rfl) (hb:Nat.blt g CR=true:=by rfl):Ax cfg.b sh (.fn g cap) args=some u:=by
 have hid:Ba g=g:=by simp[Ba,hb]
 have v7:BI g args cap=args++cap:=by simp[BI,hb]
 obtain⟨r,obs,U,O⟩:=MW hc ht (hn:=fun _=>AI) noH (Ps ha) Pq (by simpa using hl) T;rw[Nu] at O;have hL:cfg.b.L Unit AI 0 g (args++cap) ()=some (r,obs,()):=by rw[hc.L];exact Kz O
 have rF:cfg.b.lC g=false:=by rw[hc.lC];unfold FZ;rw[ht];exact lF
 unfold Ax;simp only[hid,v7,spO,kG,hL,rF,dE,iG];exact U
theorem ae (hc:EM cfg jO) (ht:jO g=some fn) {H:jn} (A:Bj H) (hun:∀ x∈H,FP x=false) (qd:AP H=args) (hl:H.length<=fn.nt)
  (kG:cfg.b.sp g (fun _=>none) args=none) (T:AH cfg fn sh AI 0 H ()=some (u,())) (lF:fn.io=false:=by rfl) (hb:Nat.blt g CR=true:=by rfl):Ax cfg.b sh (.fn g []) args=some u:=by
 have hid:Ba g=g:=by simp[Ba,hb]
 have v7:BI g args []=args:=by simp[BI,hb]
 obtain⟨r,obs,U,O⟩:=MW hc ht (hn:=fun _=>AI) noH A hun hl T;rw[qd] at O;have hL:cfg.b.L Unit AI 0 g args ()=some (r,obs,()):=by rw[hc.L];exact Kz O
 have rF:cfg.b.lC g=false:=by rw[hc.lC];unfold FZ;rw[ht];exact lF
 unfold Ax;simp only[hid,v7,spO,kG,hL,rF,dE,iG];exact U
theorem WK (hc:EM cfg jO) (kG:cfg.b.sp g (fun _=>none) (args++cap)=some {v:=u}) (hu:jN u=true) (hb:Nat.blt g CR=true:=by rfl):Ax cfg.b .cl (.fn g cap) args=some u:=by
 have hid:Ba g=g:=by simp[Ba,hb]
 have v7:BI g args cap=args++cap:=by simp[BI,hb]
 unfold Ax;simp[hid,v7,spO,kG,hu,Ae,EY,Dq]
theorem PR (hc:EM cfg jO) (ht:jO g=some fn) {h:AA E} {e e':E} (ha:Ap cap=true) (hl:cap.length+1<=fn.nt)
  (T:AH cfg fn .cl h (dep+1) (.ke dep :: cap.map KV.cv) e=some (u,e')) (hb:Nat.blt g CR=true:=by rfl):DU cfg.b h dep (.fn g cap) e=some e':=by
 have hid:Ba g=g:=by simp[Ba,hb]
 have v7:BI g [.ke dep] cap=.ke dep :: cap:=by simp[BI,hb]
 obtain⟨r,obs,U,O⟩:=MW hc ht (hn:=fun _=>h) (fun l args e r hq=>.of fun _=>hq) (dep:=dep+1) (args:=.ke dep :: cap.map KV.cv) ⟨trivial,Ps ha⟩ (fun x A=>by
  rcases dM.1 A with rfl | A;·rfl
  ·exact Pq x A) (by simpa using hl) T
 have e1:AP (.ke dep :: cap.map KV.cv)=.ke dep :: cap:=by simp[AP,KV.pv,Nu]
 rw[e1] at O;have hL:cfg.b.L E h (dep+1) g (.ke dep :: cap) e=some (r,obs,e'):=by rw[hc.L];exact Kz O
 unfold DU;simp only[hid,v7,hL]
theorem Zr {r:W} (h:EY .cl r obs=some u):r=u/\obs=[]/\jN u=true:=by unfold EY at h;simp only[Dq] at h;split at h;{rename_i r' j T;obtain⟨U,O⟩:=BC T;cases O;obtain⟨h3,h4⟩:=BC h;cases h4;simp only[iL] at h3;exact⟨rfl,fK.1 h3.symm,U⟩};{cases h}
theorem PU (hc:EM cfg jO) (ht:jO g=some fn) (ha:Ap args=true) (hl:args.length<=fn.nt)
  (T:AH cfg fn .cl AI 0 (args.map KV.cv) ()=some (u,())) (nD:(u.free&&!GI jO g)=fr):Bd cfg.b .cl fr g args=some u:=by
 obtain⟨r,obs,U,O⟩:=MW hc ht (hn:=fun _=>AI) noH (Ps ha) Pq (by simpa using hl) T;rw[Nu] at O;obtain⟨e1,e2,_⟩:=Zr U;subst e1;subst e2;have hL:cfg.b.L Unit AI 0 g args ()=some (r,[],()):=by rw[hc.L];exact Kz O
 unfold Bd;rw[(DQ ha).2];simp only[dE,iG,hL,List.all_nil,f9,hc.kr,nD,iU,Ae];exact U
theorem cd (hc:EM cfg jO) (ht:jO g=some fn) (ha:Ap args=true) (hl:args.length<=fn.nt)
  (T:AH cfg fn .cl AI 0 (args.map KV.cv) ()=some (.bool b,())):∃ n,Br cfg.b.sp jO n Unit AI 0 g args ()=some (.bool b,[],()):=by
 obtain⟨r,obs,U,m,hm⟩:=MW hc ht (hn:=fun _=>AI) noH (Ps ha) Pq (by simpa using hl) T;rw[Nu] at hm;obtain⟨e1,e2,_⟩:=Zr U;subst e1;subst e2;exact⟨m,hm m (dH _)⟩
end
theorem G7 {σ ρ:Type} {step:σ->Option (Sum σ ρ)} {s0:σ} {r:ρ} (inv:Nat->σ) (N:Nat) (h0:s0=inv 0) (hs:∀ i,i < N->step (inv i)=some (.inl (inv (i+1)))) (he:step (inv N)=some (.inr r)):Be step s0=some r:=by
 have key:∀ m i,i+m=N->Be step (inv i)=some r:=by
  intro m;induction m with
  | zero=>intro i hi;obtain rfl:i=N:=(by omega);exact B3 he
  | succ m ih=>intro i hi;rw[DE (hs i (by omega))];exact ih (i+1) (by omega)
 rw[h0];exact key N 0 (by omega)
def Ep {E:Type} (h:AA E) (d:Nat):List jh->E->Option E
 | [],e=>some e
 | a :: l,e=>match h d a e with
  | some (true,e)=>Ep h d l e
  | some (false,e)=>some e
  | none=>none
@[simp] theorem At (a:α) (f:α->Option β):Ac (some a) f=f a:=rfl
@[simp] theorem bindO_none' (f:α->Option β):Ac none f=none:=rfl
@[simp] theorem AO (a:Option β):Ae true a=a:=rfl
@[simp] theorem chkO_false (a:Option β):Ae false a=none:=rfl
@[simp] theorem Am (b:Bool) (x y:Option β):Ai (.bool b) x y=if b=true then x else y:=by cases b<;>rfl
@[simp] theorem uA (b:Bool) (x y:Option β):CJ b x y=if b=true then x else y:=by cases b<;>rfl
theorem B4 (x y:Option β):Ai (.bool true) x y=x:=rfl
theorem BL (x y:Option β):Ai (.bool false) x y=y:=rfl
section pure
variable {c:TC} {nc:Bool} {k:jc}
@[simp] theorem OA (a b:Int):Ad (.bin .add c nc (.c (.int k a)) (.c (.int k b)))=some (.int k (k.wrap (a+b))):=by simp[Ad,exec,RX.ev,EZ,AN,Gx]
@[simp] theorem ze (a b:Int):Ad (.bin .sub c nc (.c (.int k a)) (.c (.int k b)))=some (.int k (k.wrap (a - b))):=by simp[Ad,exec,RX.ev,EZ,AN,Gx]
@[simp] theorem Oz (a b:Int):Ad (.bin .mul c nc (.c (.int k a)) (.c (.int k b)))=some (.int k (k.wrap (a*b))):=by simp[Ad,exec,RX.ev,EZ,AN,Gx]
theorem TU (a b:Int) (hb:b≠0):Ad (.bin .quo c nc (.c (.int k a)) (.c (.int k b)))=some (.int k (k.wrap (a.tdiv b))):=by simp[Ad,exec,RX.ev,EZ,AN,Gx,hb]
theorem Jx (a b:Int) (hb:b≠0):Ad (.bin .rem c nc (.c (.int k a)) (.c (.int k b)))=some (.int k (a.tmod b)):=by simp[Ad,exec,RX.ev,EZ,AN,Gx,hb]
@[simp] theorem XZ (a b:Int):Ad (.bin .eql c nc (.c (.int k a)) (.c (.int k b)))=some (.bool (a==b)):=by simp[Ad,exec,RX.ev,EZ,AN,Gx,KJ]
@[simp] theorem XW (a b:Int):Ad (.bin .neq c nc (.c (.int k a)) (.c (.int k b)))=some (.bool (a != b)):=by simp[Ad,exec,RX.ev,EZ,AN,Gx,KJ]
@[simp] theorem zf (a b:Int):Ad (.bin .lss c nc (.c (.int k a)) (.c (.int k b)))=some (.bool (decide (a < b))):=by simp[Ad,exec,RX.ev,EZ,AN,Gx,KJ]
@[simp] theorem XY (a b:Int):Ad (.bin .leq c nc (.c (.int k a)) (.c (.int k b)))=some (.bool (decide (a<=b))):=by simp[Ad,exec,RX.ev,EZ,AN,Gx,KJ]
@[simp] theorem zg (a b:Int):Ad (.bin .gtr c nc (.c (.int k a)) (.c (.int k b)))=some (.bool (decide (b < a))):=by simp[Ad,exec,RX.ev,EZ,AN,Gx,KJ]
@[simp] theorem zh (a b:Int):Ad (.bin .geq c nc (.c (.int k a)) (.c (.int k b)))=some (.bool (decide (b<=a))):=by simp[Ad,exec,RX.ev,EZ,AN,Gx,KJ]
@[simp] theorem I8 (a b:ji):Ad (.bin .eql c nc (.c (.str a)) (.c (.str b)))=some (.bool (a==b)):=by simp[Ad,exec,RX.ev,EZ,L4]
theorem AM (g s:ji) (b:Bool) (h:(g==s)=b):Ad (.bin .eql .str true (.c (.str g)) (.c (.str s)))=some (.bool b):=by rw[I8,h]

@[simp] theorem zj (a b:ji):Ad (.bin .neq c nc (.c (.str a)) (.c (.str b)))=some (.bool (!(a==b))):=by simp[Ad,exec,RX.ev,EZ,L4]
@[simp] theorem Jy (a b:Bool):Ad (.bin .eql .bool nc (.c (.bool a)) (.c (.bool b)))=some (.bool (a==b)):=by simp[Ad,exec,RX.ev,EZ,KY]
@[simp] theorem Hy (a b:Bool):Ad (.bin .neq .bool nc (.c (.bool a)) (.c (.bool b)))=some (.bool (!(a==b))):=by simp[Ad,exec,RX.ev,EZ,KY]
@[simp] theorem BH (b:Bool):Ad (.un .not (.c (.bool b)))=some (.bool (!b)):=rfl
@[simp] theorem XX (n:Int):Ad (.un .neg (.c (.int k n)))=some (.int k (k.wrap (0 - n))):=rfl
@[simp] theorem uB (n:Int):Ad (.conv k (.c (.int k' n)))=some (.int k (k.wrap n)):=rfl
@[simp] theorem uC (s:ji):Ad (.len .str (.c (.str s)))=some (.int .i64 (s.length:Int)):=rfl
@[simp] theorem G4 (H:jh) (f:Bool):Ad (.len .slice (.c (.sl j H f)))=some (.int .i64 (H.length:Int)):=rfl
@[simp] theorem pure_lenn:Ad (.len .slice (.c .jD))=some (.int .i64 0):=rfl
@[simp] theorem BS (j:Nat) (H:jh):Ad (.extract j (.c (.jE H)))=H[j]?:=by simp only[Ad,exec,RX.ev];cases H[j]?<;>rfl
@[simp] theorem Ll (cs:jh):Ad (.load n ag (.c (.ptr cs o)))=Ci cs o n ag:=by simp only[Ad,exec,RX.ev];cases Ci cs o n ag<;>rfl
@[simp] theorem pure_field (cs:jh):Ad (.field o n ag (.c (.agg cs)))=Ci cs o n ag:=by simp only[Ad,exec,RX.ev];cases Ci cs o n ag<;>rfl
@[simp] theorem pure_nilck (cs:jh) (o:Nat):Ad (.nilck (.c (.ptr cs o)))=some (.ptr cs o):=rfl
@[simp] theorem pure_nilckf (f:Nat) (cs:jh):Ad (.nilck (.c (.fn f cs)))=some (.fn f cs):=rfl
@[simp] theorem pure_faddr {off:Nat} (cs:jh):Ad (.fieldAddr off (.c (.ptr cs o)))=if o+off < cs.length then some (.ptr cs (o+off)) else none:=by by_cases hq:o+off < cs.length<;>simp[Ad,exec,RX.ev,AN,hq]
theorem MC {H:jh} (hn:0 < n) (h:H[j]?=some v):Ad (.jJ n (.c (.sl n H f)) (.c (.int k (j:Int))))=some (.ptr v.cells 0):=by simp[Ad,exec,RX.ev,DL,h,AN,hn]
theorem uD (hh:h<=s.length):Ad (.kq (.c (.str s)) none (some (.c (.int k (h:Int)))))=some (.str (s.take h)):=by simp[Ad,exec,RX.ev,CH,C9,DL,AN,hh]
end pure
@[simp] theorem Kp (v:W):Ci [v] 0 1 false=some v:=rfl
@[simp] theorem cells_int (k:IntKind) (n:Int):(W.int k n).cells=[.int k n]:=rfl
@[simp] theorem XF (s:ji):(W.str s).cells=[.str s]:=rfl
@[simp] theorem cells_bool (b:Bool):(W.bool b).cells=[.bool b]:=rfl
@[simp] theorem BG (cs:jh):(W.agg cs).cells=cs:=rfl
@[simp] theorem JK (a b:Nat):As a b=a+b:=rfl
@[simp] theorem subN_eq (a b:Nat):yi a b=a - b:=rfl
@[simp] theorem minN_eq (a b:Nat):minN a b=min a b:=rfl
@[simp] theorem JF (l:jh):Ah l=l.length:=rfl
@[simp] theorem TQ (n:Nat) (l:jh):Aq n l=l.take n:=rfl
@[simp] theorem Ui (n:Nat) (l:jh):AE n l=l.drop n:=rfl
@[simp] theorem UK (l m:jh):A5 l m=l++m:=rfl
@[simp] theorem replL_eq (n:Nat) (v:W):HO n v=List.replicate n v:=rfl
@[simp] theorem BB (k:Nat) (H:jh) (f:Bool):Ao (.sl k H f)=H:=rfl
@[simp] theorem DG (k:IntKind) (n:Int):Aj (.int k n)=n.toNat:=rfl
@[simp] theorem Cp (n:Nat):nI n=.int .i64 (n:Int):=rfl
@[simp] theorem IB (a b:Bool):Bb a b=(a&&b):=rfl
@[simp] theorem Ji (a b:Nat):Ay a b=decide (a<=b):=by rw[fe,OT,iS]
@[simp] theorem zk (a b:Nat):CG a b=decide (a < b):=by rw[fe,M0,iS]
@[simp] theorem eqN_eq (a b:Nat):FF a b=decide (a=b):=by rw[fe,O5,iS]
@[simp] theorem AW (x:W) (l:jh):J (x :: l) 0=x:=rfl
@[simp] theorem AV (a x:W) (l:jh):J (a :: x :: l) 1=x:=rfl
@[simp] theorem A1 (a b x:W) (l:jh):J (a :: b :: x :: l) 2=x:=rfl
@[simp] theorem Bc (a b c x:W) (l:jh):J (a :: b :: c :: x :: l) 3=x:=rfl
@[simp] theorem BD (a b c d x:W) (l:jh):J (a :: b :: c :: d :: x :: l) 4=x:=rfl
@[simp] theorem Cd (a b c d e x:W) (l:jh):J (a :: b :: c :: d :: e :: x :: l) 5=x:=rfl
@[simp] theorem B9 (a b c d e f x:W) (l:jh):J (a :: b :: c :: d :: e :: f :: x :: l) 6=x:=rfl
@[simp] theorem Cm (a b c d e f g x:W) (l:jh):J (a :: b :: c :: d :: e :: f :: g :: x :: l) 7=x:=rfl
@[simp] theorem CS (a b c d e f g h x:W) (l:jh):J (a :: b :: c :: d :: e :: f :: g :: h :: x :: l) 8=x:=rfl
@[simp] theorem BT (v:W) (o n:Nat) (ag:Bool):A3 v o n ag=Ci v.cells o n ag:=rfl
@[simp] theorem zl (k:IntKind) (n:Nat):Fl (.int k (n:Int))=some n:=by simp[Fl,DL]
end Go.Ab


namespace Go.Ab
variable{R:Type} {nt:Nat} {x:KV}
section
variable {cfg:ED} {jO:ja->jt}
theorem zm (h:kisUn x=false):FP x=false:=by cases x<;>first | rfl | cases h
theorem uF (hc:EM cfg jO):∀ (c:BJ) {R:Type} {ks:AJ} {K:Ex->AJ->jm->Option R} {r:R},ks.Ok->Gv cfg nt c ks K=some r ->
  ∃ x k' l,K x k' l=some r/\k'.Ok/\Bs fun n=>Bt (Ea cfg.b.sp jO n) n nt c ks.Z=some (x,k'.Z,l):=by
 intro c;induction c with
 | o7 ops f args lv =>
  intro R ks K r hk T;simp only[Gv] at T;rw[EH] at T;obtain⟨c1,c2,_⟩:=MF hk (DB ops);obtain⟨k1,e1,T,kF,U⟩:=T7 (hn:=fun _=>AI) (dep:=0) hc noH ops c2 T;split at T
  case isFalse=>cases T
  rename_i hcd;obtain⟨a1,a2,a3,a4⟩:=hcd;rw[EH] at T;simp only[dF] at a2;have hle:args.length+1<=nt:=dS a2.1;have oN:k1.nt=nt:=fQ a2.2;have hxf:FE f=true:=d6.1 a3 f (by simp);have hxa:args.all FE=true:=d6.2 fun x hm=>d6.1 a3 x (by simp[hm]);have sg:=NH kF hxf;have hao:=LP kF hxa;have pC:=HN kF f;have hae:args.map (RX.ev k1.Z.tmps)=AP (args.map (RX.kv k1.tmps)):=IE kF args;generalize lM:f.kv k1.tmps :: args.map (RX.kv k1.tmps)=H at T a4;have hlen:H.length=args.length+1:=by rw[<-lM];simp
  have ln:Bj H:=by rw[<-lM];exact⟨sg,hao⟩
  have qd:AP H=f.ev k1.Z.tmps :: args.map (RX.ev k1.Z.tmps):=by rw[<-lM,pC,hae];rfl
  obtain⟨i1,i2⟩:=Uz (nt:=nt) ln (fun x A=>zm (by
   rw[List.any_eq_false] at a4;simpa using a4 x A)) (by omega)
  have e1:BQ nt (H.zipIdx.map fun p=>(p.2,p.1))=AP H++List.replicate (nt - (AP H).length) .undef:=iP St.tmps i2
  have nL:({k1 with jG:=(H.zipIdx.map fun p=>(p.2,p.1)) :: k1.jG}:AJ).Ok:=⟨kF.tm,kF.ob,fun sp kG=>by
   rcases dM.1 kG with rfl | kG;·rw[oN];exact i1.tm
   ·exact kF.kp sp kG⟩
  have hst2:({k1 with jG:=(H.zipIdx.map fun p=>(p.2,p.1)) :: k1.jG}:AJ).Z=RA nt (f.ev k1.Z.tmps :: args.map (RX.ev k1.Z.tmps)) k1.Z:=by rw[<-qd];unfold RA AJ.Z;simp only[fg];rw[oN,e1]
  obtain⟨t1,t2⟩:=QH nL lv
  have oT:isFn (f.ev k1.Z.tmps)=true:=by
   rw[pC];cases hq:f.kv k1.tmps with
   | fn g cap=>rfl
   | _=>rw[hq] at a1;cases a1
  refine⟨_,_,_,T,t2,U.mono fun n kW=>?_⟩;rw[c1] at kW;simp only[Bt,kW,t1,hst2,AN,oT,f9,iK,iJ hle]
 | seq a b ov ow =>
  intro R ks K r hk T;simp only[Gv] at T;obtain⟨x,k1,l,T,kF,U⟩:=ov hk T;cases x with
  | normal =>
   obtain⟨x2,k2,l2,T,nL,O⟩:=ow kF T;exact⟨_,_,_,T,nL,U.lS O fun n a b=>by simp only[Bt,a,b]⟩
  | exit id=>exact⟨_,_,_,T,kF,U.mono fun n a=>by simp only[Bt,a]⟩
  | ret=>exact⟨_,_,_,T,kF,U.mono fun n a=>by simp only[Bt,a]⟩
 | cond c a b ov ow =>
  intro R ks K r hk T;simp only[Gv] at T;have jL:=HN hk c;split at T;{rename_i hv;obtain⟨x,k1,e1,T,kF,U⟩:=ov hk T;exact⟨_,_,_,T,kF,U.mono fun n a=>by simp only[Bt,jL,hv,KV.pv,a]⟩};{rename_i hv;obtain⟨x,k1,e1,T,kF,U⟩:=ow hk T;exact⟨_,_,_,T,kF,U.mono fun n a=>by simp only[Bt,jL,hv,KV.pv,a]⟩}
  ·rename_i v hv;rcases Qm T with ⟨rfl,T⟩ | ⟨rfl,T⟩
   {obtain⟨x,k1,e1,T,kF,U⟩:=ov hk T;exact⟨_,_,_,T,kF,U.mono fun n a=>by simp only[Bt,jL,hv,KV.pv,a]⟩};{obtain⟨x,k1,e1,T,kF,U⟩:=ow hk T;exact⟨_,_,_,T,kF,U.mono fun n a=>by simp only[Bt,jL,hv,KV.pv,a]⟩}
  {cases T}
 | block id b ih =>
  intro R ks K r hk T;simp only[Gv] at T;obtain⟨x,k1,l,T,kF,U⟩:=ih hk T;cases x with
  | normal=>exact⟨_,_,_,T,kF,U.mono fun n a=>by simp only[Bt,a]⟩
  | ret=>exact⟨_,_,_,T,kF,U.mono fun n a=>by simp only[Bt,a]⟩
  | exit oo =>
   simp only at T;split at T;{rename_i hid;exact⟨_,_,_,T,kF,U.mono fun n a=>by simp only[Bt,a,hid,iH]⟩};{rename_i hid;exact⟨_,_,_,T,kF,U.mono fun n a=>by simp only[Bt,a,hid,iG]⟩}
 | scope b ih =>
  intro R ks K r hk T;simp only[Gv] at T;split at T;·cases T
  rename_i hlb;obtain⟨x,k1,l,T,kF,U⟩:=ih hk T;cases x with
  | normal=>exact⟨_,_,_,T,kF,U.mono fun n a=>by simp only[Bt,a,hlb,iG,dE]⟩
  | ret=>exact⟨_,_,_,T,kF,U.mono fun n a=>by simp only[Bt,a,hlb,iG,dE]⟩
  | exit oo =>
   simp only at T;split at T;{rename_i hid;exact⟨_,_,_,T,kF,U.mono fun n a=>by simp only[Bt,a,hlb,hid,iH,iG,dE]⟩};·cases T
 | _ =>
  intro R ks K r hk T;simp only[Gv] at T;obtain⟨x,k1,e1,T,kF,U⟩:=Ug hc _ (h:=AI) (hn:=fun _=>AI) noH 0 hk T;exact⟨_,_,_,T,kF,U.mono fun n a=>by simp only[Bt,a,Hk]⟩
theorem zn (hc:EM cfg jO):∀ (l:jm) {ks:AJ} {K:AJ->Option R} {r:R},ks.Ok->RZ cfg nt l ks K=some r ->
  ∃ k',K k'=some r/\k'.Ok/\Bs fun n=>HX (Ea cfg.b.sp jO n) nt l ks.Z=some k'.Z:=by
 intro l;induction l with
 | nil=>intro ks K r hk T;exact⟨ks,T,hk,.of fun n=>rfl⟩
 | cons n l ih =>
  intro ks K r hk T;simp only[RZ] at T;split at T;·cases T
  rename_i sp kp lE;split at T
  case h_2=>cases T
  rename_i f jX kO;split at T
  case h_2=>cases T
  rename_i P hP;split at T
  case isFalse=>cases T
  rename_i hcd;obtain⟨b1,b2,b3⟩:=hcd;simp only[dF] at b2;have hle:n+1<=nt:=dS b2.1;have oN:ks.nt=nt:=fQ b2.2;have kG:Cb nt sp:=by rw[<-oN];exact hk.kp sp (by rw[lE];exact d7)
  have qT:Bj jX:=by have:=kG.kP 0;rw[kO] at this;exact this
  have kX:Bj ((List.range n).map fun j=>Bi sp (j+1)):=DT.2 fun x A=>by obtain⟨j,_,rfl⟩:=dJ.1 A;exact kG.kP _
  obtain⟨out,T,ho,hspf,jL⟩:=Wt hc hk b3 (Wr (f:=f) kX qT) hP T;split at T
  case isFalse=>cases T
  rename_i lh;rw[EH] at T;have nL:({ks with jG:=kp}:AJ).Ok:=⟨hk.tm,hk.ob,fun sp' h=>hk.kp sp' (by rw[lE];exact dZ _ h)⟩;obtain⟨s1,s2⟩:=ST (ks:={ks with jG:=kp}) nL (by show (_||FX ks.jC)=true;rw[b3];simp) none ho;obtain⟨k',T,nk,O⟩:=ih s2 T;have qU:ks.Z.jG=BQ nt sp++kp.flatMap (BQ nt):=by show ks.jG.flatMap (BQ ks.nt)=_;rw[lE,oN];rfl
  have hget0:ks.Z.jG.getD 0 .undef=.fn f (AP jX):=by
   have:(BQ nt sp)[0]?=some (KV.fn f jX).pv:=by rw[j7,iJ (by omega),kO]
   rw[qU,dO,fu (by rw[E7];omega),this];rfl
  have qV:(ks.Z.jG.drop 1).take n=AP ((List.range n).map fun j=>Bi sp (j+1)):=by rw[qU,Fb,eo];apply eO;intro j;rw[List.getElem?_take,gx,dT];by_cases hj:j < n;{rw[iJ hj,fu (by rw[E7];omega),j7,iJ (by omega),fA hj];simp[Nat.add_comm]};{rw[iI hj,ew (by simp;omega)];rfl}
  have hdrop:({ks with jG:=kp}:AJ).Z={ks.Z with jG:=ks.Z.jG.drop nt}:=by rw[qU,List.drop_left' (E7 nt sp)];unfold AJ.Z;simp only[oN]
  have mG:BI f ((ks.Z.jG.drop 1).take n) (AP jX)=AP (Jd f ((List.range n).map fun j=>Bi sp (j+1)) jX):=by rw[qV,Wq]
  have sC:FZ jO (Ba f)=true:=by rw[<-hc.rT,hP];rfl
  have sv:Kn jO (Ba f)=true:=hc.flat _ b1
  have hnew':(out.out.new.isEmpty||out.out.slot.isSome)=true:=by
   simp only[AF.out];have:(out.new.map Ak.ob).isEmpty=out.new.isEmpty:=by cases out.new<;>rfl
   rw[this];exact lh
  rw[s1,hdrop] at O;refine⟨k',T,nk,jL.lS O fun m a b=>?_⟩;simp only[HX,hget0,mG,Ki,P7,b9,hc.vZ _ hspf,sC,sv,f9,iH,a,AN,hnew',b]
end
end Go.Ab


namespace Go.Ab
variable{P:BY} {rs vs:jh} {v x:KV}
mutual
theorem SW:∀ (p x:KV),Bz p x=true->x.ok->CM p x.pv=some (CC p x)
 | .un,x,h,_=>by cases x<;>simp[Bz] at h;rfl
 | .sk,x,h,_=>by cases x<;>simp[Bz] at h;rfl
 | .ke d,x,h,_=>by cases x<;>simp[Bz] at h;rfl
 | .ref V o,x,h,_=>by cases x<;>simp[Bz] at h;obtain⟨rfl,rfl⟩:=h;simp[CM,KV.pv,CC,Ae]
 | .jQ _ _ _ _,x,h,_=>by simp[Bz] at h
 | .mp V,x,h,_=>by cases x<;>simp[Bz] at h;subst h;simp[CM,KV.pv,CC,Ae]
 | .it V,x,h,_=>by cases x<;>simp[Bz] at h;subst h;simp[CM,KV.pv,CC,Ae]
 | .lg V,x,h,_=>by cases x<;>simp[Bz] at h;subst h;simp[CM,KV.pv,CC,Ae]
 | .arr V k o n,x,h,_=>by
  cases x with
  | arr kR k' o' n' =>
   simp only[Bz] at h;simp only[KV.pv,CM,CC];rw[h];rfl
  | _=>simp[Bz] at h
 | .lit b,x,h,A=>OD A (by simpa[Bz] using h)
 | .kx,x,h,A=>OD A (by simpa[Bz] using h)
 | .cv v,x,h,A=>OD A (by simpa[Bz] using h)
 | .fn f cap,x,h,A=>by
  cases x with
  | fn f' nT =>
   simp only[Bz,dF,iL] at h;obtain⟨rfl,h⟩:=h;simp only[KV.pv,CM,iH,CC];exact NV cap nT h A
  | _=>simp[Bz] at h
 | .jE H,x,h,A=>by
  cases x with
  | jE ys =>
   simp only[Bz] at h;simp only[KV.pv,CM,CC];exact NV H ys h A
  | _=>simp[Bz] at h
 | .agg cs,x,h,A=>by
  simp only[Bz] at h;simp only[CM,CC];by_cases hc:(EF cs).isSome=true;{rw[iJ hc] at h;rw[iJ hc,iJ hc];exact OD A h}
  ·rw[iI hc] at h;rw[iI hc,iI hc];cases x with
   | agg mn=>exact NV cs mn h A
   | _=>simp at h
 | .iface t y,x,h,A=>by
  simp only[Bz] at h;simp only[CM,CC];by_cases hc:y.cl.isSome=true;{rw[iJ hc] at h;rw[iJ hc,iJ hc];exact OD A h}
  ·rw[iI hc] at h;rw[iI hc,iI hc];cases x with
   | iface t' y' =>
    simp only[dF,iL] at h;obtain⟨rfl,h⟩:=h;simp only[KV.pv,iH];exact SW y y' h A
   | _=>simp at h
theorem NV:∀ (ps H:jn),E4 ps H=true->Bj H->IN ps (AP H)=some (Hc ps H)
 | [],H,h,_=>by cases H<;>simp[E4] at h;rfl
 | p :: ps,H,h,A=>by
  cases H with
  | nil=>simp[E4] at h
  | cons x H =>
   simp only[E4,dF] at h;simp only[AP,IN,Hc];rw[SW p x h.1 A.1,NV ps H h.2 A.2]
theorem OD {x:KV} (A:x.ok) (h:x.cl.isSome=true):Ae (jN x.pv) (some [x.pv])=some [x.cl.getD .undef]:=by obtain⟨v,hv⟩:=fZ.1 h;have U:=KV.lT A hv;rw[KV.ld hv,hv];simp[Ae,U]
end
theorem ZQ (p x:Ak) (h:Ec p x=true) (A:x.ok):F4 p x.ob=some (Om p x):=by
 cases p with
 | cells ty cs =>
  cases x with
  | cells rS mn =>
   simp only[Ec,dF,iL] at h;obtain⟨rfl,h⟩:=h;simp only[F4,Ak.ob,iH];exact NV cs mn h A
  | _=>simp[Ec] at h
 | whole ty w =>
  cases x with
  | whole rS v =>
   simp only[Ec,iL] at h;subst h;have nn:jN v=true:=A;have O:Ap (DK v)=true:=Eo nn;simp[F4,Ak.ob,Om,Ae,O]
  | _=>simp[Ec] at h
 | arr k kt ws =>
  cases x with
  | arr k' kt H =>
   simp only[Ec,dF,iL] at h;obtain⟨rfl,rfl⟩:=h;have nn:Ap H=true:=A;simp[F4,Ak.ob,Om,H2,Ae,nn]
  | _=>simp[Ec] at h
 | map ws =>
  cases x with
  | map es =>
   have nn:Ap es=true:=A;simp[F4,Ak.ob,Om,H2,Ae,nn]
  | _=>simp[Ec] at h
 | jT s0 p0 =>
  cases x with
  | jT s pos=>rfl
  | _=>simp[Ec] at h
theorem SB:∀ (ps H:jq),Fw ps H=true->(∀ o∈H,o.ok)->JG ps (H.map Ak.ob)=some (N5 ps H)
 | [],[],_,_=>rfl
 | [],_ :: _,h,_=>by simp[Fw] at h
 | _ :: _,[],h,_=>by simp[Fw] at h
 | p :: ps,x :: H,h,A=>by
  simp only[Fw,dF] at h;simp only[dI,JG,N5];rw[ZQ p x h.1 (A x d7),SB ps H h.2 fun o ho=>A o (dZ _ ho)]
theorem kwit_pv (h:x.ok):GR x.pv=Nn x:=by
 cases x with
 | arr V k o n =>
  simp only[KV.pv,Nn,GR];by_cases hc:k=1/\o=0/\n=0;{obtain⟨rfl,rfl,rfl⟩:=hc;rfl};{rw[iI hc];split;{rename_i heq;cases heq;exact iW ⟨rfl,rfl,rfl⟩ hc};{rfl}}
 | cv v =>
  have hv:jN v=true:=h;simp only[KV.pv,Nn];unfold GR;split;{simp[jN] at hv};{rfl}
 | _=>rfl
section
variable {ks:AJ}
theorem uG (hk:ks.Ok) (hv:v.ok) (h:Pl P ks v=some rs):∃ out,HR none 1 0 (Fx P.ins.length) ks.Z v.pv=some out/\RQ P out=some rs:=by
 unfold Pl at h;split at h
 case h_2=>cases h
 rename_i sp lE;simp only at h;have kG:Cb ks.nt sp:=hk.kp sp (by rw[lE];exact ep.2 rfl);have lr:ks.Z.jG=BQ ks.nt sp:=by show ks.jG.flatMap (BQ ks.nt)=_;rw[lE];simp
 have hw:∀ j,GR (ks.Z.jG.getD j .undef)=Nn (Bi sp j):=fun j=>by rw[lr,Li kG,kwit_pv (kG.kP j)]
 have hA:GJ (Fx P.ins.length) ks.Z.jG=Kl P.ins.length sp:=by unfold GJ Kl;exact eD fun p _=>by rw[hw]
 have hG:KF (Fx P.ins.length) ks.Z.jG=QY P.ins.length sp:=by unfold KF QY;congr 1;exact List.filter_congr fun p _=>by rw[hw]
 have kD:=Fs hk
 have rK:∀ m:Nm,((Al ks.Z.jC m).map Ob.names).getD []=((Bw ks.jC m).map Ak.names).getD []:=by
  intro m;rw[H3 hk];cases hl:Bw ks.jC m with
  | none=>rfl
  | some o =>
   simp only[ed,eN];exact Ak.me (EG hk.ob hl)
 have hN:LS (Al ks.Z.jC) (Kl P.ins.length sp) v.pv=QX (Bw ks.jC) (Kl P.ins.length sp) v:=by
  unfold LS QX;rw[KV.kY hv];have e1:((Kl P.ins.length sp).flatMap fun p=>((Al ks.Z.jC p.1).map Ob.names).getD [])=(Kl P.ins.length sp).flatMap fun p=>((Bw ks.jC p.1).map Ak.names).getD []:=by congr 1;funext p;exact rK p.1
  rw[e1,kD,<-Iw (Eh hk)]
 generalize Kl P.ins.length sp=zzc at h hA hN;generalize hNd:QX (Bw ks.jC) zzc v=N at h hN;generalize hB:(zzc++N.zipIdx.map fun p=>(p.1,(1,0+p.2)))=B at h;split at h
 case isFalse=>cases h
 rename_i hcd;obtain⟨mu,yN,od⟩:=hcd;cases h;simp only[dF] at od;obtain⟨lV,nQ,hf3⟩:=od
 have nC:(fun m=>if (B.map (·.1)).contains m then none else some none:Nm->Option jk)=Jh fun m=>!(B.map (·.1)).contains m:=by
  funext m;show (if (B.map (·.1)).contains m=true then none else some none)=if (!(B.map (·.1)).contains m)=true then some none else none
  cases (B.map (·.1)).contains m<;>rfl
 have l7:∀ V,HW (Al ks.Z.jC) B V=(Mc (Bw ks.jC) B V).ob/\(Mc (Bw ks.jC) B V).ok:=by
  intro V;unfold HW Mc
  have ln:((Bw ks.jC V).getD Hl).ok:=by
   cases hl:Bw ks.jC V with
   | none=>exact rfl
   | some o=>exact EG hk.ob hl
  have qp:((Al ks.Z.jC V).getD BO)=((Bw ks.jC V).getD Hl).ob:=by rw[H3 hk];cases Bw ks.jC V<;>rfl
  rw[nC,qp,<-Ak.yy _ ln,<-Ak.nr _ (Ak.mo _ ln)];exact⟨rfl,Ak.kZ _ (Ak.mo _ ln)⟩
 refine⟨{v:=(v.pv.sub fun m=>if (B.map (·.1)).contains m then none else some none).jR fun m=>(B.lookup m).getD m,new:=N.map (HW (Al ks.Z.jC) B),l4:=zzc.map fun p=>(p.2,HW (Al ks.Z.jC) B p.1),gone:=QY P.ins.length sp,io:=true},?_,?_⟩
 ·unfold HR;simp only
  rw[hA,hN,hB,hG];simp[AN,mu]
 ·unfold RQ;simp only
  rw[iJ yN];have e1:(v.pv.sub fun m=>if (B.map (·.1)).contains m then none else some none).jR (fun m=>(B.lookup m).getD m)=((v.off fun m=>!(B.map (·.1)).contains m).jR fun m=>(B.lookup m).getD m).pv:=by rw[nC,<-KV.ph _ hv,<-KV.pj _ (KV.mo _ hv)]
  have e2:(zzc.map fun p=>(p.2,HW (Al ks.Z.jC) B p.1)).map (·.2)=(zzc.map fun p=>Mc (Bw ks.jC) B p.1).map Ak.ob:=by rw[eo,eo];exact eD fun p _=>(l7 p.1).1
  have e3:N.map (HW (Al ks.Z.jC) B)=(N.map (Mc (Bw ks.jC) B)).map Ak.ob:=by rw[eo];exact eD fun m _=>(l7 m).1
  rw[e1,e2,e3,SW _ _ lV (KV.kZ _ (KV.mo _ hv)),SB _ _ nQ (fun o ho=>by
   obtain⟨p,_,rfl⟩:=dJ.1 ho;exact (l7 p.1).2),SB _ _ hf3 (fun o ho=>by
   obtain⟨m,_,rfl⟩:=dJ.1 ho;exact (l7 m).2)]
end
mutual
theorem Yt {vs:jh} (hv:Ap vs=true):∀ (p:KV) (i:Nat),(fill p vs i).1.ok
 | .un,i | .sk,i | .ke _,i | .ref _ _,i | .jQ _ _ _ _,i | .mp _,i | .it _,i | .lg _,i | .arr _ _ _ _,i=>trivial
 | .lit _,i | .kx,i | .cv _,i=>Nj hv i
 | .fn f cap,i=>MH hv cap i
 | .jE H,i=>MH hv H i
 | .agg cs,i=>by
  simp only[fill];split;{exact Nj hv i};{exact MH hv cs i}
 | .iface t y,i=>by
  simp only[fill];split;{exact Nj hv i};{exact Yt hv y i}
theorem MH {vs:jh} (hv:Ap vs=true):∀ (ps:jn) (i:Nat),Bj (DM ps vs i).1
 | [],i=>trivial
 | p :: ps,i=>⟨Yt hv p i,MH hv ps _⟩
theorem Nj {vs:jh} (hv:Ap vs=true) (i:Nat):jN (J vs i)=true:=by
 unfold J;rw[dO];cases h:vs[i]? with
 | none=>rfl
 | some x=>exact I9 hv h
end
theorem cC (hv:Ap vs=true) (p:Ak) (i:Nat):(C4 p vs i).1.ok:=by
 cases p with
 | cells ty cs=>exact MH hv cs i
 | whole ty w=>exact Nj hv i
 | arr k kt H =>
  have:=Nj hv i;show Ap (Ao (J vs i))=true;unfold Ao;split;{rename_i heq;rw[heq] at this;simpa[jN] using this};{rfl}
 | map es =>
  have:=Nj hv i;show Ap (Me (J vs i))=true;unfold Me;split;{rename_i heq;rw[heq] at this;simpa[jN] using this};{rfl}
 | jT s p=>trivial
theorem VX {vs:jh} (hv:Ap vs=true):∀ (ps:jq) (i:Nat),(∀ o∈(DI ps vs i).1,o.ok)/\(DI ps vs i).1.length=ps.length
 | [],i=>⟨fun o ho=>(by cases ho),rfl⟩
 | p :: ps,i=>by
  obtain⟨U,O⟩:=VX hv ps (C4 p vs i).2;refine⟨fun o ho=>?_,by simp[DI,O]⟩;simp only[DI,dM] at ho;rcases ho with rfl | ho;{exact cC hv p i};{exact U o ho}
theorem Yu {vs:jh}:∀ (ps:jn) (i:Nat),(∀ p∈ps,FP p=false)->(∀ x∈(DM ps vs i).1,FP x=false)/\(DM ps vs i).1.length=ps.length
 | [],i,_=>⟨fun o ho=>(by cases ho),rfl⟩
 | p :: ps,i,hp=>by
  obtain⟨U,O⟩:=Yu (vs:=vs) ps (fill p vs i).2 fun q hq=>hp q (dZ _ hq);refine⟨fun x A=>?_,by simp[DM,O]⟩;simp only[DM,dM] at A;rcases A with rfl | A;{exact YK (hp p d7)};{exact U x A}
theorem E9 {cfg:ED} {jO:ja->jt} (hc:EM cfg jO) {g:ja} {fn:Au} (ht:jO g=some fn) {P:BY} {Pf:jn->jq->BY} (hPf:cfg.rT g=some Pf) {H:jn} {obs:jq} (hP:Pf H obs=P) (hun:P.args.all (fun p=>!FP p)=true) {vs rs:jh} (hv:Ap vs=true)
  (T:DJ cfg fn P vs=some rs):BK cfg.b P g vs=some rs:=by
 obtain⟨fn',vV,oN,hll⟩:=hc.ioP g Pf hPf;have rU:=(hll H obs).1;have mi:=(hll H obs).2;rw[hP] at rU mi;rw[ht] at vV;cases vV;unfold DJ at T;simp only at T;rw[EH] at T;obtain⟨u1,u2⟩:=Yu (vs:=vs) P.args 0 fun p hp=>by simpa using d6.1 hun p hp
 have a1:=MH hv P.args 0;obtain⟨b1,b2⟩:=VX hv P.ins (DM P.args vs 0).2;generalize has:(DM P.args vs 0).1=aas at T u1 u2 a1;generalize hos:(DI P.ins vs (DM P.args vs 0).2).1=os at T b1 b2;obtain⟨i1,i2⟩:=Uz (nt:=fn.nt) a1 u1 (by omega);have hwsp:Cb fn.nt (((List.range P.ins.length).filter fun j=>!fn.gone.contains j).map fun j=>(j,KV.lg (0,j))):=by refine⟨?_,?_,?_,?_⟩;{rw[eo];have:((fun p:Nat×KV=>p.1)∘fun j=>(j,KV.lg (0,j)))=id:=rfl;rw[this,List.map_id];exact List.pairwise_lt_range.filter _};{intro p hp;obtain⟨j,hj,rfl⟩:=dJ.1 hp;have:=fI.1 (fX.1 hj).1;simp only;omega};{intro p hp;obtain⟨j,hj,rfl⟩:=dJ.1 hp;trivial};{intro p hp;obtain⟨j,hj,rfl⟩:=dJ.1 hp;rfl}
 have hso:B1 fn.nt [(0,os)]:=⟨by simp,by simp[oN],fun p hp o ho=>by simp only[ep] at hp;subst hp;exact b1 o ho⟩
 have hks:({nt:=fn.nt,tmps:=aas.zipIdx.map fun p=>(p.2,p.1),jC:=[(0,os)],jG:=[((List.range P.ins.length).filter fun j=>!fn.gone.contains j).map fun j=>(j,KV.lg (0,j))]}:AJ).Ok :=
  ⟨i1.tm,hso,fun sp kG=>by simp only[ep] at kG;subst kG;exact hwsp⟩
 have lr:({nt:=fn.nt,tmps:=aas.zipIdx.map fun p=>(p.2,p.1),jC:=[(0,os)],jG:=[((List.range P.ins.length).filter fun j=>!fn.gone.contains j).map fun j=>(j,KV.lg (0,j))]}:AJ).Z=J1 fn.gone fn.nt (os.map Ak.ob) (AP aas):=by
  have e1:BQ fn.nt (aas.zipIdx.map fun p=>(p.2,p.1))=AP aas++List.replicate (fn.nt - (AP aas).length) .undef:=iP St.tmps i2;unfold AJ.Z J1;simp only
  rw[e1];congr 1
  ·refine Lk (by simp) fun i hi=>?_;by_cases h0:i=0;{subst h0;rw[fS (by simpa using oN)];rfl}
   ·rw[eB (eH h0),iF,iJ hi]
    have:Bo [(0,os)] i=[]:=by
     simp only[Bo];cases hb:Nat.beq i 0 with
     | true=>exact iW (DH hb) h0
     | false=>rfl
    rw[this];rfl
  ·simp only[fg,im,ft];refine Lp (by simp[Mn]) fun i hi=>?_;unfold Mn;rw[dT,fA hi];simp only[ed,dY];by_cases sN:i < os.length/\fn.gone.contains i=false;{rw[iJ sN];have hm:(i,KV.lg (0,i))∈((List.range P.ins.length).filter fun j=>!fn.gone.contains j).map fun j=>(j,KV.lg (0,j)):=dJ.2 ⟨i,fX.2 ⟨fI.2 (by have:=sN.1;omega),by simp only[sN.2,d8]⟩,rfl⟩;rw[show Bi (((List.range P.ins.length).filter fun j=>!fn.gone.contains j).map fun j=>(j,KV.lg (0,j))) i=KV.lg (0,i) from hwsp.get_mem hm];rfl}
   ·rw[iI sN]
    rw[show Bi (((List.range P.ins.length).filter fun j=>!fn.gone.contains j).map fun j=>(j,KV.lg (0,j))) i=.un from Tp fun p hp=>by
     obtain⟨j,hj,rfl⟩:=dJ.1 hp;obtain⟨U,O⟩:=fX.1 hj;have:=fI.1 U;simp only
     intro e;subst e;exact sN ⟨by omega,by simpa using O⟩]
    rfl
 have fin:∀ {k1:AJ},k1.Ok->(KA k1 fn.res fun vs=>Pl P k1 (KC vs))=some rs->(∀ v,Gz k1.Z fn.res=some v->Bs fun n=>IM (Ea cfg.b.sp jO n) n fn (os.map Ak.ob) (AP aas)=some (k1.Z,Ig v))->BK cfg.b P g vs=some rs:=by
  intro k1 kF T A;obtain⟨ws,T,hws,U⟩:=Xj kF fn.res T;obtain⟨o1,o2⟩:=Xl hws;obtain⟨out,g1,g2⟩:=uG kF o1 T;have hI:cfg.b.I g (os.map Ak.ob) (AP aas)=some (k1.Z,(KC ws).pv):=by rw[hc.I];unfold RH;rw[ht,o2];exact Kz (A _ U)
  unfold BK;rw[hos,has,hI];simp only[g1,g2]
 split at T
 ·rename_i hD;obtain⟨x,k1,e1,T,kF,jL⟩:=Ug hc fn.code (h:=AI) (hn:=fun _=>AI) noH 0 hks T;rw[lr] at jL;cases x with
  | exit id=>cases T
  | _ =>
   refine fin kF T fun v U=>jL.mono fun n kW=>?_;unfold IM;rw[iJ hD,kW];simp only[U]
 ·rename_i hD;obtain⟨x,k1,l,T,kF,jL⟩:=uF hc fn.code hks T;rw[lr] at jL;cases x with
  | exit id=>cases T
  | _ =>
   obtain⟨k2,T,nL,hdf⟩:=zn hc l kF T;refine fin nL T fun v U=>jL.lS hdf fun n kW oU=>?_;unfold IM;rw[iI hD,kW];simp only[oU,U]
end Go.Ab


namespace Go.Ab
variable{E':je} {zzd:i7} {a u:W} {b k:Nat} {c:Array i8} {fr:Nat×Nat} {n v:i8} {V:Nm} {p:Option (Nat×Nat)} {us:List i8}
section sp
variable {cx:Cx} {E:Type} {w0:i7} {I0 F0:Nat->Prop} {O0:Cw} {Hd:Nat->Option Obj} {R:Ch E} {e:E} {ds:List jf} {I F:Nat->Prop} {lp:Nat->jj} {L:AK} {j4 jH:List i8} {Z:St} {w w':i7} {dst:jj}
theorem Jb (hs:SR lp I L Z j4 jH w) (hf:Fr cx w0 I0 F0 O0 Hd R e ds I F L w) (h:L5 w w') (hv:AC w' I lp (some L) u v) :
  ∃ I' L',SR lp I' L' (apply Z dst {v:=u}) (GC j4 dst v) jH w'/\Fr cx w0 I0 F0 O0 Hd R e ds I' F L' w':=by
 have A:CI I F w I F w':=⟨h.os,h.tape,h.output,h.size,fun b hb _=>h.same b hb,fun _ h=>h,fun _ h=>.inl h,fun _ h=>.inl h⟩;have hi:IF I F w':=⟨fun b hb=>fm (hf.sep.iB b hb) h.size,fun b hb=>⟨fm (hf.sep.fB b hb).1 h.size,(hf.sep.fB b hb).2⟩⟩;have hw:cx.Wd I w':=cx.mZ I I w w' hf.wd (fun _ h=>h) (fun b hb=>h.same b (hf.sep.iB b hb)) h.size;have T:R.rel e I F w':=R.mZ e I I F w w' hf.re (fun _ h=>h) (fun b hb=>h.same b (hb.elim (hf.sep.iB b) fun h=>(hf.sep.fB b h).1)) h.size;refine⟨I,L,?_,hf.called A hi hw T⟩;have O:=hs.called hf A;cases dst with
 | none=>exact O
 | some d=>exact O.put d hv
theorem J9 (w:i7):L5 w w:=⟨rfl,rfl,rfl,dH _,fun _ _=>rfl⟩
theorem Up (hs:SR lp I L Z j4 jH w) (hf:Fr cx w0 I0 F0 O0 Hd R e ds I F L w) {b C:Nat} (hL:L V=some (some (b,C)))
  (U:w'.os=w.os) (O:w'.tape=w.tape) (h3:w'.output=w.output) (h4:w.heap.size<=w'.heap.size) (hk:∀ k,k < w.heap.size->k≠b->w'.heap[k]?=w.heap[k]?)
  {ob:Ob} (l7:Sv w' I lp L b C ob) (hv:AC w' I lp (some L) u v) :
  ∃ I' L',SR lp I' L' (apply Z dst {v:=u,kA:=some (V,ob)}) (GC j4 dst v) jH w'/\Fr cx w0 I0 F0 O0 Hd R e ds I' F L' w':=by
 have hI:∀ k,I k->w'.heap[k]?=w.heap[k]?:=fun k hi=>hk k (hf.sep.iB k hi) fun e=>(hf.lB V b C hL).2.2.1 (e ▸ hi)
 have nD:Fr cx w0 I0 F0 O0 Hd R e ds I F L w':=hf.own U O h3 h4
  (fun k hb ny=>hk k hb fun e=>ny V C (e ▸ hL)) (fun _ h=>h) (fun _ h=>.inl h)
  (fun kR b' C' h=>⟨fm (hf.lB kR b' C' h).2.1 h4,(hf.lB kR b' C' h).2.2.1,.inr ⟨kR,C',h⟩⟩) hf.inj
 have hsr:SR lp I L {Z with jC:=Bv Z.jC V ob} j4 jH w':=hs.kA hL hI
  (fun m b' C' hm h=>hk b' (hf.lB m b' C' h).2.1 fun e=>hm (hf.inj m V b' C' C h (e ▸ hL))) l7
 refine⟨I,L,?_,nD⟩;cases dst with
 | none=>exact hsr
 | some d=>exact hsr.put d hv
theorem sp_gone (hs:SR lp I L Z j4 jH w) (hf:Fr cx w0 I0 F0 O0 Hd R e ds I F L w) (hL:L V=some p)
  (U:w'.os=w.os) (O:w'.tape=w.tape) (h3:w'.output=w.output) (h4:w.heap.size<=w'.heap.size) (hk:∀ b',b' < w.heap.size->(∀ C,p≠some (b',C))->w'.heap[b']?=w.heap[b']?)
  (hv:∀ L':AK,AC w' I lp (some L') u v) :
  ∃ I' L',SR lp I' L' (apply Z dst {v:=u,kA:=some (V,BO),kill:=some V}) (GC j4 dst v) jH w'/\Fr cx w0 I0 F0 O0 Hd R e ds I' F L' w':=by
 have hI:∀ b',I b'->w'.heap[b']?=w.heap[b']?:=fun b' lX=>hk b' (hf.sep.iB b' lX) fun C e=>(hf.lB V b' C (by rw[hL,e])).2.2.1 lX
 have hu:=hs.wE (w':=w') (k:=0) (kt:=0) (H:=[]) (p':=none) hL hI
  (fun m b' C' hm hn=>hk b' (hf.lB m b' C' hn).2.1 fun C e=>hm (hf.inj m V b' C' C hn (by rw[hL,e]))) ⟨0,0,rfl⟩
 refine⟨I,(fun m=>if m=V then some none else L m),?_,?_⟩
 ·cases dst with
  | none=>exact hu
  | some d=>exact hu.put d (hv _)
 ·refine hf.own U O h3 h4 (fun b' lX hn=>hk b' lX fun C e=>hn V C (by rw[hL,e])) (fun _ h=>h) (fun _ h=>.inl h) ?_ ?_;{intro m b' C' hn;by_cases hm:m=V;{simp[hm] at hn};{simp only[hm,iG] at hn;exact⟨by have:=(hf.lB m b' C' hn).2.1;omega,(hf.lB m b' C' hn).2.2.1,.inr ⟨m,C',hn⟩⟩}}
  ·intro m m' b' C1 C2 hn kW;by_cases hm:m=V;{simp[hm] at hn}
   ·by_cases oY:m'=V
    {simp[oY] at kW};{simp only[hm,oY,iG] at hn kW;exact hf.inj m m' b' C1 C2 hn kW}
theorem zo (hs:SR lp I L Z j4 jH w) (hf:Fr cx w0 I0 F0 O0 Hd R e ds I F L w) (hd:∀ d,dst=some d->Z.jC[d]?=some []) (h:L5 w w') 
  (hp:∀ b C,p=some (b,C)->w.heap.size<=b/\b < w'.heap.size) (l7:∀ L',BR w' I lp L' (.arr k 0 []) p) (hv:∀ (L':AK) (V:Nm),L' V=some p->AC w' I lp (some L') (.arr V k 0 0) v) :
  ∃ I' L',SR lp I' L' (apply Z dst {v:=.arr (dst.getD 0,0) k 0 0,new:=[.arr k 0 []]}) (GC j4 dst v) jH w'/\Fr cx w0 I0 F0 O0 Hd R e ds I' F L' w':=by
 have o9:SR lp I L Z j4 jH w':=hs.keeps (fun _ h=>h) (fun b hb=>h.same b (hf.sep.iB b hb)) fun V b C hn=>h.same b (hf.lB V b C hn).2.1;cases dst with
 | none =>
  refine⟨I,L,o9,?_⟩;have A:CI I F w I F w':=⟨h.os,h.tape,h.output,h.size,fun b hb _=>h.same b hb,fun _ h=>h,fun _ h=>.inl h,fun _ h=>.inl h⟩;have hi:IF I F w':=⟨fun b hb=>fm (hf.sep.iB b hb) h.size,fun b hb=>⟨fm (hf.sep.fB b hb).1 h.size,(hf.sep.fB b hb).2⟩⟩;have hw:cx.Wd I w':=cx.mZ I I w w' hf.wd (fun _ h=>h) (fun b hb=>h.same b (hf.sep.iB b hb)) h.size;have T:R.rel e I F w':=R.mZ e I I F w w' hf.re (fun _ h=>h) (fun b hb=>h.same b (hb.elim (hf.sep.iB b) fun h=>(hf.sep.fB b h).1)) h.size;exact hf.called A hi hw T
 | some d =>
  have hd:=hd d rfl
  have hn:=o9.news hd [.arr k 0 []] [p] rfl (by
   intro j nK q U O;cases j with
   | zero=>simp at U O;subst U;subst O;exact l7 _
   | succ j=>simp at U)
  refine⟨I,CZ L d [p],hn.put d (hv _ (d,0) (by simp[CZ])),Fr.news hf hd h.os h.tape h.output h.size (fun b hb=>h.same b hb) ?_ ?_⟩
  ·intro j b C hj;cases j with
   | zero=>simp at hj;exact hp b C hj
   | succ j=>simp at hj
  ·intro j j' b C C' U O;cases j with
   | zero =>
    cases j' with
    | zero=>rfl
    | succ j'=>simp at O
   | succ j=>simp at U
end sp
theorem L8 {w:i7} {I:Nat->Prop} {lp:Nat->jj} {L:jr} (h:Av w I lp L [a] us):∃ u,us=[u]/\AC w I lp L a u:=by
 obtain⟨u,r,U,rfl,O⟩:∃ u r,AC w I lp L a u/\us=u :: r/\Av w I lp L [] r:=by cases h;exact⟨_,_,by assumption,rfl,by assumption⟩
 cases O;exact⟨u,rfl,U⟩
theorem HP {w:i7} {I:Nat->Prop} {lp:Nat->jj} {L:jr} {b:W} (h:Av w I lp L [a,b] us):∃ u v,us=[u,v]/\AC w I lp L a u/\AC w I lp L b v:=by
 obtain⟨u,r,U,rfl,O⟩:∃ u r,AC w I lp L a u/\us=u :: r/\Av w I lp L [b] r:=by cases h;exact⟨_,_,by assumption,rfl,by assumption⟩
 obtain⟨v,rfl,h3⟩:=L8 O;exact⟨u,v,rfl,U,h3⟩
theorem SE {o:Nat} (h:zzd.heap[b]?=some (.cells c E' fr)):(zzd.setCell ⟨b,o,none⟩ n).heap[b]?=some (.cells (c.setIfInBounds o n) E' fr):=by simp[World.setCell,Array.getElem?_modify,h]
theorem SD (zzd:i7) (a:Addr) (n:i8):(zzd.setCell a n).heap.size=zzd.heap.size:=by simp[World.setCell]
theorem cell_of_heap {w w':i7} (h:w'.heap[b]?=w.heap[b]?) (o:Nat):w'.cell? ⟨b,o,none⟩=w.cell? ⟨b,o,none⟩:=by simp only[World.cell?,h]
theorem Zv (h:c.size=1):∃ n,c=#[n]:=by
 refine⟨c[0],?_⟩;apply Array.ext;{simp[h]}
 ·intro i U O;have:i=0:=by omega
  subst this;rfl
end Go.Ab


namespace Go.Ab
open Go
variable{L:jr} {S:jm} {wx gm gt ty:Nat} {zzd w:i7} {c:Array i8} {cs:jh} {gc:ja} {lp:Nat->jj} {V:Nm} {ps:List (Nat×Nat)} {sp:ja->(Nm->jk)->jh->js} {t:je} {us:List i8} {v:i8} {σ:Nm->jk}
def ErrVars (gs:jm) (zze:Nat) (I:Nat->Prop) (w:i7):Prop :=
 ∃ ad:Nat->Addr,(∀ g∈gs,I g/\I (ad g).block/\(∃ E f,w.heap[g]?=some (.cells #[.iface zze (.pointer (some (ad g)))] E f))/\∃ c t,w.heap[(ad g).block]?=some (.cells c t (0,0)))/\∀ g∈gs,∀ g'∈gs,g≠g'->ad g≠ad g'
structure WVars (gs:jm) (zze:Nat) (et:List (Nat×i8)) (pG:List (Nat×Array i8)) (ns:jm) (I:Nat->Prop) (w:i7):Prop where
 err:ErrVars gs zze I w
 et0:∀ p∈et,I p.1/\w.cell? ⟨p.1,0,none⟩=some p.2
 jO:∀ p∈pG,I p.1/\∃ E f,w.heap[p.1]?=some (.cells p.2 E f)
 num:∀ g∈ns,I g/\∃ m,w.cell? ⟨g,0,none⟩=some (.int .i64 m)
def Vh (gs:jm) (zze:Nat):FR:=fun g=>if gs.contains g then some [.j8 g zze] else none
noncomputable def zp (P:jd) (mixed:P.follows .mixedOrders=true) (gs:jm) (zze:Nat) (et:List (Nat×i8)) (pG:List (Nat×Array i8)) (ns:jm):Cx where
 P:=P
 mixed:=mixed
 G:=Vh gs zze
 Wd I w:=WVars gs zze et pG ns I w
 mZ I I' w w' h U O _:=by obtain⟨⟨ad,e1,e2⟩,e0,ht,hn⟩:=h;refine⟨⟨ad,fun g hg=>?_,e2⟩,fun p hp=>⟨U _ (e0 p hp).1,by rw[cell_of_heap (O _ (e0 p hp).1)];exact (e0 p hp).2⟩,fun p hp=>?_,fun g hg=>?_⟩;{obtain⟨a1,a2,a3,a4⟩:=e1 g hg;exact⟨U _ a1,U _ a2,by rw[O _ a1];exact a3,by rw[O _ a2];exact a4⟩};{obtain⟨a1,a2⟩:=ht p hp;exact⟨U _ a1,by rw[O _ a1];exact a2⟩};{obtain⟨a1,m,a2⟩:=hn g hg;exact⟨U _ a1,m,by rw[cell_of_heap (O _ a1)];exact a2⟩}
 gl I w g cs h hg lp L:=by unfold Vh at hg;split at hg;{rename_i hgg;cases hg;obtain⟨ad,e1,_⟩:=h.err;obtain⟨a1,a2,⟨E,f,a3⟩,a4⟩:=e1 g (by simpa using hgg);exact AC.ptr (off:=0) (o:=0) [.j8 g zze] g _ _ _ a1 a3 (by simp) (by simp) (by simp[By];rfl) (by simp;exact .cons _ _ _ _ (.j8 g zze _ _ _ _ a1 a3 rfl) .nil)};{cases hg}
def K9 (cx:Cx) (g:ja) (Z:St) (vs:jh) (out:AQ):Prop:=Dx cx.P g /\
  ∀ (E:Type) (w0:i7) (I0 F0:Nat->Prop) (O0:Cw) (Hd:Nat->Option Obj) (R:Ch E) (e:E) (ds:List jf) (I F:Nat->Prop) (lp:Nat->jj) (L:AK) (j4 jH us:List i8) (w:i7) (dst:jj),
   SR lp I L Z j4 jH w->Fr cx w0 I0 F0 O0 Hd R e ds I F L w->Av w I lp (some L) vs us->(∀ d,dst=some d->Z.jC[d]?=some []) ->
   CallsIn Fence.wide 0 cx.P g us.toArray w fun
    | .returned v,w'=>∃ I' L',SR lp I' L' (apply Z dst {out with v:=out.v.jR (FK (dst.getD 0))}) (GC j4 dst v) jH w'/\Fr cx w0 I0 F0 O0 Hd R e ds I' F L' w'
    | _,_=>False
def KL (f:(Nm->jk)->jh->js):Prop:=∀ σ σ' vs,(∀ V∈Bn σ A7 (AU vs),σ V=σ' V)->f σ vs=f σ' vs
theorem Qn {I:Nat->Prop} {g:Nat} (h:AC w I lp L (.j8 g t) v):∃ x c E fr,v=.iface t x/\w.heap[g]?=some (.cells c E fr)/\c[0]?=some (.iface t x):=by
 cases h with
 | j8 g t x c E fr hI hb hv=>exact⟨x,c,E,fr,rfl,hb,hv⟩
theorem Vq {w':i7} (h:Go.RowKit.Below w.heap.size w w'):L5 w w':=⟨h.os,h.tape,h.output,h.size,h.block⟩
def Jl (ps:List (Nat×Nat)) (σ:Nm->jk):jh->js
 | [.jK,.iface p (.ref _ o)]=>if (ps.lookup p).isSome=true/\o=0 then some {v:=.bool false} else none
 | [.iface t x,.iface p (.ref V o)]=>match σ V with
  | some (.cells ty cs)=>if ps.lookup p=some t/\o=0/\cs.length=1/\Aw x 1=true then some {v:=.bool true,kA:=some (V,.cells ty x.cells)} else none
  | _=>none
 | _=>none
structure AsOK (P:jd) (g:ja) (ge:Nat) (et:i8) (ps:List (Nat×Nat)):Prop where
 enters:Dx P g
 none:∀ (v:i8) (w:i7),Calls P g #[.nilIface,v] w fun e w'=>e=.returned (.bool false)/\w'=w
 hit:∀ p t,ps.lookup p=some t->∀ (v n:i8),v.cells=#[n]->n.oneCell'=true->∀ (a:Addr) (nd:i8) (w:i7),w.cell? ⟨ge,0,Option.none⟩=some et->w.cell? a=some nd->w.frozen? a=false ->
  Calls P g #[.iface t v,.iface p (.pointer (some a))] w fun e w'=>e=.returned (.bool true)/\∃ o1 o2 o3 o4,w'=((((w.alloc o1).alloc o2).alloc o3).alloc o4).setCell a n
section at_
variable {P:jd} {mx:P.follows .mixedOrders=true} {gs:jm} {zze:Nat} {et:List (Nat×i8)} {pG:List (Nat×Array i8)} {ns:jm}
theorem as_at {g:ja} {ge:Nat} {ev:i8} (oS:(ge,ev)∈et) (hA:AsOK P g ge ev ps) {Z:St} {vs:jh} {out:AQ} (h:Jl ps (Al Z.jC) vs=some out):K9 (zp P mx gs zze et pG ns) g Z vs out:=by
 refine⟨hA.enters,?_⟩;unfold Jl at h;split at h;{split at h;{rename_i hp;obtain⟨hp,rfl⟩:=hp;cases h;intro E w0 I0 F0 O0 Hd R e ds I F lp L j4 jH us w dst hs hf hu hd;obtain⟨u,v,rfl,U,O⟩:=HP hu;rw[JB U];refine callsIn_wide.2 ((hA.none v w).mono ?_);rintro ev w' ⟨rfl,rfl⟩;exact Jb hs hf (J9 _) (.bool false)};{cases h}}
 ·split at h
  ·rename_i t x p V o _ ty cs kD;split at h
   ·rename_i hp;obtain⟨hpp,rfl,ry,oZ⟩:=hp;cases h;intro E w0 I0 F0 O0 Hd R e ds I F lp L j4 jH us w dst hs hf hu hd;obtain⟨u,v,rfl,U,O⟩:=HP hu;obtain⟨u',rfl,A⟩:=MG U;obtain⟨v',rfl,T⟩:=MG O;obtain⟨b,C,hL,rfl⟩:=GK T;obtain⟨q,hq,l7⟩:=hs.ob V _ kD;rw[hL] at hq;cases hq;obtain⟨c,E',hb,hC,kn,lY⟩:=l7;unfold Aw at oZ;simp only[dF,iL] at oZ;obtain⟨qj,l9⟩:=A.cells oZ.1;have len1:u'.cells.size=1:=by have:=l9.length;simpa[oZ.2] using this.symm
    have lenc:c.size=1:=by have:=lY.length;simpa[ry] using this.symm
    obtain⟨n,hn⟩:∃ n,u'.cells=#[n]:=Zv len1;obtain⟨nd,rfl⟩:∃ n,c=#[n]:=Zv lenc;have hn1:n.oneCell'=true:=qj n (by simp[hn]);have oz:b < w.heap.size:=(hf.lB V b C hL).2.1;refine callsIn_wide.2 ((hA.hit p t hpp u' n hn hn1 ⟨b,0,none⟩ nd w (hf.wd.et0 _ oS).2 (by simp[World.cell?,hb]) (by simp[World.frozen?,hb])).mono ?_);rintro ev w' ⟨rfl,o1,o2,o3,o4,hw'⟩;have nS:∀ k,k < w.heap.size->k≠b->w'.heap[k]?=w.heap[k]?:=fun k hk w8=>by subst hw';rw[Go.RowKit.Below.heap_setCell _ _ _ _ w8,Fq _ _ (by simp;omega),Fq _ _ (by simp;omega),Fq _ _ (by simp;omega),Fq _ _ hk]
    have nv:w'.heap[b]?=some (.cells #[n] E' (0,0)):=by
     subst hw'
     suffices key:((((w.alloc o1).alloc o2).alloc o3).alloc o4).heap[b]?=some (.cells #[nd] E' (0,0)) by
      have:=SE (o:=0) (n:=n) key;simpa using this
     rw[Fq _ _ (by simp;omega),Fq _ _ (by simp;omega),Fq _ _ (by simp;omega),Fq _ _ oz];exact hb
    have hI:∀ k,I k->w'.heap[k]?=w.heap[k]?:=fun k hk=>nS k (hf.sep.iB k hk) fun e=>(hf.lB V b C hL).2.2.1 (e ▸ hk);refine Up hs hf hL (by subst hw';rfl) (by subst hw';rfl) (by subst hw';rfl) (by subst hw';rw[SD];simp;omega) nS ?_ (.bool true);exact⟨#[n],E',nv,hC,⟨fun v hv=>by simp at hv;subst hv;exact hn1,kn.2⟩,Av.mono (fun _ h=>h) hI (fun _ _ h=>h) (by rw[hn] at l9;exact l9)⟩
   {cases h}
  {cases h}
 {cases h}
theorem as_here (ps:List (Nat×Nat)):KL (Jl ps):=by intro σ σ' vs h;unfold Jl;split;{rfl};{rename_i t x p V o;rw[h V (FT _ _ V (by simp[AU,W.names]))]};{rfl}
def zq (gs:jm) (zze:Nat) (S:jm):jh->js
 | [.jK,.j8 g t]=>if g∈gs/\t=zze then some {v:=.bool false} else none
 | [.j8 g t,.j8 g' t']=>if g∈gs/\g'∈gs/\t=zze/\t'=zze then some {v:=.bool (g==g')} else none
 | [.iface s x,.j8 g t]=>if g∈gs/\t=zze/\s∈S/\jN x=true then some {v:=.bool false} else none
 | _=>none
structure IsOK (P:jd) (g:ja) (zze:Nat) (S:jm):Prop where
 enters:Dx P g
 none:∀ (a:Addr) (w:i7),Calls P g #[.nilIface,.iface zze (.pointer (some a))] w fun e w'=>e=.returned (.bool false)/\w'=w
 same:∀ (a:Addr) (w:i7),Calls P g #[.iface zze (.pointer (some a)),.iface zze (.pointer (some a))] w fun e w'=>e=.returned (.bool true)/\w'=w
 other:∀ (a b:Addr) (ca cb:Array i8) (ta tb:je) (w:i7),a≠b->w.heap[a.block]?=some (.cells ca ta (0,0))->w.heap[b.block]?=some (.cells cb tb (0,0)) ->
  Calls P g #[.iface zze (.pointer (some a)),.iface zze (.pointer (some b))] w fun e w'=>e=.returned (.bool false)/\w'=w
 type:∀ s∈S,∀ (v:i8) (b:Addr) (w:i7),Calls P g #[.iface s v,.iface zze (.pointer (some b))] w fun e w'=>e=.returned (.bool false)/\w'=w
theorem is_at {g:ja} (hA:IsOK P g zze S) {Z:St} {vs:jh} {out:AQ} (h:zq gs zze S vs=some out):K9 (zp P mx gs zze et pG ns) g Z vs out:=by refine⟨hA.enters,?_⟩;unfold zq at h;split at h;{split at h;{rename_i hp;obtain⟨hgg,rfl⟩:=hp;cases h;intro E w0 I0 F0 O0 Hd R e ds I F lp L j4 jH us w dst hs hf hu hd;obtain⟨u,v,rfl,U,O⟩:=HP hu;rw[JB U];obtain⟨ad,e1,e2⟩:=hf.wd.err;obtain⟨x,c,E',fr,rfl,q1,q2⟩:=Qn O;obtain⟨_,_,⟨_,_,a3⟩,_⟩:=e1 _ hgg;rw[a3] at q1;cases q1;cases q2;refine callsIn_wide.2 ((hA.none _ w).mono ?_);rintro ev w' ⟨rfl,rfl⟩;exact Jb hs hf (J9 _) (.bool false)};{cases h}};{rename_i g1 t1 g2 t2;split at h;{rename_i hp;obtain⟨hg1,hg2,rfl,rfl⟩:=hp;cases h;intro E w0 I0 F0 O0 Hd R e ds I F lp L j4 jH us w dst hs hf hu hd;obtain⟨u,v,rfl,U,O⟩:=HP hu;obtain⟨ad,e1,e2⟩:=hf.wd.err;obtain⟨x,c,E',fr,rfl,q1,q2⟩:=Qn U;obtain⟨y,c',E'',fr',rfl,q1',q2'⟩:=Qn O;obtain⟨_,_,⟨_,_,a3⟩,ca,ta,a4⟩:=e1 _ hg1;obtain⟨_,_,⟨_,_,b3⟩,cb,tb,b4⟩:=e1 _ hg2;rw[a3] at q1;cases q1;cases q2;rw[b3] at q1';cases q1';cases q2';by_cases hgg:g1=g2;{subst hgg;refine callsIn_wide.2 ((hA.same _ w).mono ?_);rintro ev w' ⟨rfl,rfl⟩;rw[iU];exact Jb hs hf (J9 _) (.bool true)};{refine callsIn_wide.2 ((hA.other _ _ ca cb ta tb w (e2 _ hg1 _ hg2 hgg) a4 b4).mono ?_);rintro ev w' ⟨rfl,rfl⟩;rw[beq_eq_false_iff_ne.2 hgg];exact Jb hs hf (J9 _) (.bool false)}};{cases h}};{rename_i ss x g1 t1;split at h;{rename_i hp;obtain⟨hgg,rfl,hS,A⟩:=hp;cases h;intro E w0 I0 F0 O0 Hd R e ds I F lp L j4 jH us w dst hs hf hu hd;obtain⟨u,v,rfl,U,O⟩:=HP hu;obtain⟨u',rfl,nn⟩:=MG U;obtain⟨ad,e1,e2⟩:=hf.wd.err;obtain⟨x,c,E',fr,rfl,q1,q2⟩:=Qn O;obtain⟨_,_,⟨_,_,a3⟩,_⟩:=e1 _ hgg;rw[a3] at q1;cases q1;cases q2;refine callsIn_wide.2 ((hA.type _ hS u' _ w).mono ?_);rintro ev w' ⟨rfl,rfl⟩;exact Jb hs hf (J9 _) (.bool false)};{cases h}};{cases h}
end at_
section any
variable {cx:Cx} {g:ja} {Z:St} {vs:jh} {out:AQ}
def countB (c:UInt8):ji->Nat
 | []=>0
 | x :: H=>(if x=c then 1 else 0)+countB c H
def Rb:jh->js
 | [.jD,.int .i64 n]=>if 0<=n/\n<=1000000 then some {v:=.arr (0,0) 1 0 0,new:=[.arr 1 0 []]} else none
 | _=>none
theorem grow_at (he:Dx cx.P g) (hz:∀ w:i7,Calls cx.P g #[.slice none 0 0,.int .i64 0] w fun e w'=>e=.returned (.slice none 0 0)/\w'=w)
  {zze:je} (hc:∀ (m:Nat) (w:i7),0 < m->m<=1000000->Calls cx.P g #[.slice none 0 0,.int .i64 m] w fun e w'=>∃ (G:Nat) (row:Array i8),e=.returned (.slice (some ⟨w.heap.size,0,none⟩) 0 G)/\G<=row.size/\w'=w.drew.alloc (.cells row zze))
  (h:Rb vs=some out):K9 cx g Z vs out:=by
 refine⟨he,?_⟩;unfold Rb at h;split at h
 ·rename_i n;split at h
  ·rename_i hn;cases h;intro E w0 I0 F0 O0 Hd R e ds I F lp L j4 jH us w dst hs hf hu hd;obtain⟨u,v,rfl,U,O⟩:=HP hu;rw[G9 U,EP O];obtain⟨m,rfl⟩:∃ m:Nat,n=(m:Int):=⟨n.toNat,by omega⟩;have hv:(W.arr (0,0) 1 0 0).jR (FK (dst.getD 0))=.arr (dst.getD 0,0) 1 0 0:=rfl;by_cases hm:m=0;{subst hm;refine callsIn_wide.2 ((hz w).mono ?_);rintro ev w' ⟨rfl,rfl⟩;simp only[hv];exact zo hs hf hd (J9 _) (p:=none) (fun b C h=>by cases h) (fun L'=>⟨1,0,rfl⟩) (fun L' V h=>.l6 V 1 h)}
   ·refine callsIn_wide.2 ((hc m w (by omega) (by omega)).mono ?_);rintro ev w' ⟨G,row,rfl,hG,rfl⟩;simp only[hv];have hle:L5 w (w.drew.alloc (.cells row zze)):=⟨rfl,rfl,rfl,by simp,fun b hb=>Fq w.drew _ hb⟩
    refine zo hs hf hd hle (p:=some (w.heap.size,row.size)) (fun b C h=>by cases h;exact⟨dH _,by simp⟩)
     (fun L'=>⟨row,zze,J4 w.drew _,rfl,⟨by simp,.inl rfl⟩,by simp,by simp[By],by simp;exact .nil⟩) (fun L' V h=>?_)
    have:=AC.arr (w:=w.drew.alloc (.cells row zze)) (I:=I) (lp:=lp) (L:=L') V 1 0 0 G w.heap.size row.size h (by simpa using hG) (fp _);simpa using this
  {cases h}
 {cases h}
def OK (zze:Nat) (σ:Nm->jk):jh->js
 | [.ref n 0]=>match σ n with
  | some (.cells t [.kB,x])=>if t=zze then some {v:=.jE [],kA:=some (n,.cells zze [.ref n 0,x])} else none
  | some (.cells t [.ref n' 0,_])=>if t=zze/\n'=n then some {v:=.jE []} else none
  | _=>none
 | _=>none
def Px (zze wx:Nat) (σ:Nm->jk):jh->js
 | [.ref n 0]=>match σ n with
  | some (.cells t [_,.jD])=>if t=zze then some {v:=.str []} else none
  | some (.cells t [_,.arr n' 1 0 k])=>match σ n' with
   | some (.arr 1 u H)=>match HE (H.take k) with
    | some s=>if t=zze/\u=wx/\n'≠n/\0 < k/\k<=H.length/\k<=Gl then some {v:=.str s,kA:=some (n',BO),kill:=some n'} else none
    | none=>none
   | _=>none
  | _=>none
 | _=>none
theorem dv (zze:Nat):KL (OK zze):=by intro σ σ' vs h;unfold OK;split;{rename_i n;rw[h n (FT _ _ n (by simp[AU,W.names]))]};{rfl}
theorem zr (zze wx:Nat):KL (Px zze wx):=by
 intro σ σ' vs h;unfold Px;split
 ·rename_i n;rw[<-h n (FT _ _ n (by simp[AU,W.names]))];have O:∀ t a n' k,σ n=some (.cells t [a,.arr n' 1 0 k])->σ n'=σ' n':=by intro t a n' k he;refine h n' ?_;show n'∈Bn σ 3 [n];unfold Bn;refine eh _ (FT _ _ n' ?_);simp[he,Ob.names,AU,W.names]
  generalize A:σ n=o at *;split;{rfl};{rename_i t a n' k;rw[O t a n' k rfl]};{rfl}
 {rfl}
theorem Wh {w:i7} {I:Nat->Prop} {lp:Nat->jj} {L:jr}:∀ (H:jh) (vs:List i8) (s:ji),Av w I lp L H vs->HE H=some s->∀ (j:Nat) (x:UInt8),s[j]?=some x->vs[j]?=some (.int .u8 (x.toNat:Int))
 | [],_,s,_,h,j,x,hj=>by cases h;simp at hj
 | p :: H,_,s,h,hb,j,x,hj=>by
  cases h with
  | cons _ v _ vs hv hs =>
   simp only[HE] at hb;split at hb
   ·rename_i b bs U O;cases hb;have hp:v=.int .u8 (b.toNat:Int):=by unfold Pt at U;split at U;{rename_i n;split at U;{rename_i hn;cases U;rw[EP hv];congr 1;simp;omega};{cases U}};{cases U}
    cases j with
    | zero=>simp at hj;subst hj;simp[hp]
    | succ j=>simp at hj |-;exact Wh H vs bs hs O j x hj
   {cases hb}
theorem V2:∀ (H:jh) (s:ji),HE H=some s->s.length=H.length
 | [],s,h=>by cases h;rfl
 | p :: H,s,h=>by
  simp only[HE] at h;split at h;{rename_i b bs U O;cases h;simp[V2 H bs O]};{cases h}
theorem WI:∀ (H:jh) (s:ji),HE H=some s->jM H=H
 | [],_,_=>rfl
 | p :: H,s,h=>by
  simp only[HE] at h;split at h
  ·rename_i b bs U O;have hp:p.cells=[p]:=by unfold Pt at U;split at U;{rfl};·cases U
   simp[jM,hp,WI H bs O]
  {cases h}
theorem Q9 {a b:i8} (h:c.toList=[a,b]):c=#[a,b]:=by apply Array.toList_inj.1;simpa using h
theorem Z5 {a:Addr} {n k:Nat} (h:k≠a.block):(zzd.freeze a n).heap[k]?=zzd.heap[k]?:=by unfold World.freeze;split;{rfl};{simp[Array.getElem?_modify,eH h]}
theorem repL4 {I:Nat->Prop} {a b c d:W} (h:Av w I lp L [a,b,c,d] us):∃ u v x y,us=[u,v,x,y]/\AC w I lp L a u/\AC w I lp L b v/\AC w I lp L c x/\AC w I lp L d y:=by
 obtain⟨u,r,U,rfl,O⟩:∃ u r,AC w I lp L a u/\us=u :: r/\Av w I lp L [b,c,d] r:=by cases h;exact⟨_,_,by assumption,rfl,by assumption⟩
 obtain⟨v,r,h3,rfl,h4⟩:∃ u q,AC w I lp L b u/\r=u :: q/\Av w I lp L [c,d] q:=by cases O;exact⟨_,_,by assumption,rfl,by assumption⟩
 obtain⟨x,y,rfl,h5,h6⟩:=HP h4;exact⟨u,v,x,y,rfl,U,h3,h5,h6⟩
structure zt (P:jd) (gc gs:ja) (zze wx:Nat):Prop where
 sD:Dx P gc
 sE:Dx P gs
 nzT:zze≠0
 nzU:wx≠0
 used:∀ (b:Nat) (w:i7),w.cell? ⟨b,0,none⟩=some (.pointer (some ⟨b,0,none⟩))->Calls P gc #[.pointer (some ⟨b,0,none⟩)] w fun e w'=>e=.returned (.tuple #[])/\w'=w
 fresh:∀ (b:Nat) (w:i7),w.cell? ⟨b,0,none⟩=some (.pointer none)->w.shape? b=some (zze,2)->w.frozen? ⟨b,0,none⟩=false ->
  Calls P gc #[.pointer (some ⟨b,0,none⟩)] w fun e w'=>e=.returned (.tuple #[])/\w'=w.setCell ⟨b,0,none⟩ (.pointer (some ⟨b,0,none⟩))
 zu:∀ (b:Nat) (p:i8) (w:i7),w.heap[b]?=some (.cells #[p,.slice none 0 0] zze (0,0))->Calls P gs #[.pointer (some ⟨b,0,none⟩)] w fun e w'=>e=.returned (.string ⟨#[]⟩)/\w'=w.drew
 sF:∀ (b g cap:Nat) (p:i8) (cur:Array i8) (l:ji) (w:i7),w.heap[b]?=some (.cells #[p,.slice (some ⟨g,0,none⟩) l.length cap] zze (0,0))->w.heap[g]?=some (.cells cur wx (0,0))->l≠[]->l.length<=cap->l.length<=cur.size ->
  l.length<=9223372036854775807->(∀ (j:Nat) (x:UInt8),l[j]?=some x->cur[j]?=some (Value.int .u8 (x.toNat:Int))) ->
  Calls P gs #[.pointer (some ⟨b,0,none⟩)] w fun e w'=>e=.returned (.string ⟨l.toArray⟩)/\w'=w.drew.freeze ⟨g,0,none⟩ l.length
theorem zw {gs:ja} {zze:Nat} (hB:zt cx.P g gs zze wx) (h:OK zze (Al Z.jC) vs=some out):K9 cx g Z vs out:=by
 refine⟨hB.sD,?_⟩;unfold OK at h;split at h
 ·rename_i n;split at h
  ·rename_i t x kD;split at h
   case isFalse=>cases h
   rename_i ht;subst ht;cases h;intro E w0 I0 F0 O0 Hd R e ds I F lp L j4 jH us w dst hs hf hu hd;obtain⟨u,rfl,T⟩:=L8 hu;obtain⟨b,C,hL,rfl⟩:=GK T;obtain⟨q,hq,l7⟩:=hs.ob n _ kD;rw[hL] at hq;cases hq;obtain⟨c,E',hb,hC,kn,lY⟩:=l7;obtain⟨v0,v1,hc,r0,r1⟩:=HP lY;have hc:=Q9 hc;subst hc;obtain rfl:E'=t:=kn.2.resolve_left hB.nzT;rw[Lv r0] at hb;refine callsIn_wide.2 ((hB.fresh b w (by simp[World.cell?,hb]) (by simp[World.shape?,hb]) (by simp[World.frozen?,hb])).mono ?_);rintro ev w' ⟨rfl,rfl⟩;have nv:=SE (o:=0) (n:=.pointer (some ⟨b,0,none⟩)) hb;have hI:∀ k,I k->(w.setCell ⟨b,0,none⟩ (.pointer (some ⟨b,0,none⟩))).heap[k]?=w.heap[k]?:=fun k hk=>Go.RowKit.Below.heap_setCell _ _ _ _ fun (e:k=b)=>(hf.lB n b C hL).2.2.1 (e ▸ hk);refine Up (w':=w.setCell ⟨b,0,none⟩ (.pointer (some ⟨b,0,none⟩))) hs hf hL rfl rfl rfl (by rw[SD];exact dH _) (fun k _ hk=>Go.RowKit.Below.heap_setCell _ _ _ _ hk) ?_ (.jE [] #[] .nil);refine⟨_,E',nv,by simpa using hC,⟨?_,.inr rfl⟩,?_⟩;{intro v hv;simp at hv;rcases hv with rfl | rfl;{rfl};{exact kn.1 _ (by simp)}};{simp;exact .cons _ _ _ _ (.ref n 0 b C hL) (.cons _ _ _ _ (AC.mono (fun _ h=>h) hI (fun _ _ h=>h) r1) .nil)}
  {rename_i t n' x kD;split at h;{rename_i hn;obtain⟨rfl,rfl⟩:=hn;cases h;intro E w0 I0 F0 O0 Hd R e ds I F lp L j4 jH us w dst hs hf hu hd;obtain⟨u,rfl,T⟩:=L8 hu;obtain⟨b,C,hL,rfl⟩:=GK T;obtain⟨q,hq,l7⟩:=hs.ob _ _ kD;rw[hL] at hq;cases hq;obtain⟨c,E',hb,hC,kn,lY⟩:=l7;obtain⟨v0,v1,hc,r0,r1⟩:=HP lY;have hc:=Q9 hc;subst hc;obtain⟨b',C',qK,rfl⟩:=GK r0;rw[hL] at qK;cases qK;refine callsIn_wide.2 ((hB.used b w (by simp[World.cell?,hb])).mono ?_);rintro ev w' ⟨rfl,rfl⟩;exact Jb hs hf (J9 _) (.jE [] #[] .nil)};{cases h}};{cases h}
 {cases h}
theorem str_at {zze:Nat} (hB:zt cx.P gc g zze wx) (h:Px zze wx (Al Z.jC) vs=some out):K9 cx g Z vs out:=by
 refine⟨hB.sE,?_⟩;unfold Px at h;split at h
 ·rename_i n;split at h
  ·rename_i t x kD;split at h
   case isFalse=>cases h
   rename_i ht;subst ht;cases h;intro E w0 I0 F0 O0 Hd R e ds I F lp L j4 jH us w dst hs hf hu hd;obtain⟨u,rfl,T⟩:=L8 hu;obtain⟨b,C,hL,rfl⟩:=GK T;obtain⟨q,hq,l7⟩:=hs.ob _ _ kD;rw[hL] at hq;cases hq;obtain⟨c,E',hb,hC,kn,lY⟩:=l7;obtain⟨v0,v1,hc,r0,r1⟩:=HP lY;have hc:=Q9 hc;subst hc;obtain rfl:E'=t:=kn.2.resolve_left hB.nzT;rw[G9 r1] at hb;refine callsIn_wide.2 ((hB.zu b v0 w hb).mono ?_);rintro ev w' ⟨rfl,rfl⟩;exact Jb (w':=w.drew) hs hf ⟨rfl,rfl,rfl,dH _,fun _ _=>rfl⟩ (.str [])
  ·rename_i t x n' k kD;split at h
   ·rename_i u' H hlk';split at h
    ·rename_i s kV;split at h
     ·rename_i hc0;obtain⟨rfl,rfl,hnn,hk0,hkl,hkm⟩:=hc0;cases h;intro E w0 I0 F0 O0 Hd R e ds I F lp L j4 jH us w dst hs hf hu hd;obtain⟨u,rfl,T⟩:=L8 hu;obtain⟨b,C,hL,rfl⟩:=GK T;obtain⟨q,hq,l7⟩:=hs.ob _ _ kD;rw[hL] at hq;cases hq;obtain⟨c,E',hb,hC,kn,lY⟩:=l7;obtain⟨v0,v1,hc,r0,r1⟩:=HP lY;have hc:=Q9 hc;subst hc;obtain rfl:E'=t:=kn.2.resolve_left hB.nzT;obtain⟨q',hq',hob'⟩:=hs.ob _ _ hlk';rcases Ks r1 with ⟨g,C',cap,qK,rfl,hC',hn⟩ | ⟨_,_,_,h0⟩
      ·rw[qK] at hq';cases hq';obtain⟨cur,E2,hg,hCg,hle,nJ,qa,jS⟩:=hob';obtain rfl:E2=u':=hle.2.resolve_left hB.nzU;have hlen:=V2 _ _ kV;rw[eV,eG hkl] at hlen;have hrk:Av w I lp none (H.take k) (cur.toList.take k):=by have U:=jS.take k;rw[show k=k*1 by omega,<-Ka nJ,WI _ _ kV,eU,eG (by omega)] at U;simpa using U
       have hbytes:=Wh _ _ _ hrk kV;have hcur:k<=cur.size:=by have:=hle.1;omega
       subst hlen;refine callsIn_wide.2 ((hB.sF b g cap v0 cur s w (by simpa using hb) hg (by intro e;subst e;simp at hk0) hn hcur ?_ ?_).mono ?_);{unfold Gl at hkm;omega};{intro j x A;have hj:j < s.length:=(dU.1 A).1;have U:=hbytes j x A;rw[gj hj] at U;simpa using U}
       ·rintro ev w' ⟨rfl,rfl⟩;have vU:∀ (zzd:i7) (a:Addr) (n:Nat),(zzd.freeze a n).os=zzd.os/\(zzd.freeze a n).tape=zzd.tape/\(zzd.freeze a n).output=zzd.output/\(zzd.freeze a n).heap.size=zzd.heap.size:=fun zzd a n=>by unfold World.freeze;split<;>simp
        obtain⟨f1,f2,f3,f4⟩:=vU w.drew ⟨g,0,none⟩ s.length;refine sp_gone (w':=w.drew.freeze ⟨g,0,none⟩ s.length) hs hf qK f1 f2 f3 (Nat.le_of_eq f4.symm) (fun k' nk jW=>?_) (fun L'=>.str s);rw[Z5 fun e=>jW C' (by rw[e])];rfl
      {omega}
     {cases h}
    {cases h}
   {cases h}
  {cases h}
 {cases h}
end any
def zx:Nat->Nat->ji
 | 0,_=>[]
 | k+1,u=>if u < 10 then [UInt8.ofNat (48+u)] else zx k (u / 10)++[UInt8.ofNat (48+u%10)]
def zy (n:Int):ji:=if n < 0 then 45 :: zx 20 n.natAbs else zx 20 n.toNat
theorem UH:∀ (k u:Nat),u < 10 ^ k->0 < k->zx k u=Lib.decDigits u
 | 0,_,_,h=>iW h (Nat.lt_irrefl _)
 | k+1,u,h,_=>by
  unfold zx;rw[Lib.decDigits];by_cases hu:u < 10;{rw[iJ hu,dif_pos hu]}
  ·rw[iI hu,dif_neg hu];have U:0 < k:=by rcases gL k with rfl | hk;{exact iW (by simpa using h) hu};{exact hk}
   have O:u / 10 < 10 ^ k:=by refine Nat.div_lt_of_lt_mul ?_;rw[Nat.pow_succ,Nat.mul_comm] at h;exact h
   rw[UH k (u / 10) O U]
theorem itoa_eq (n:Int) (h0 : -9223372036854775808<=n) (U:n<=9223372036854775807):zy n=Lib.itoa n:=by
 unfold zy Lib.itoa;have hp:(18446744073709551616:Nat)<=10 ^ 20:=by decide
 rw[UH 20 n.natAbs (by omega) (by decide),UH 20 n.toNat (by omega) (by decide)]
def zz:jh->js
 | [.int .i64 n,.int .i64 10]=>if -9223372036854775808<=n/\n<=9223372036854775807 then some {v:=.str (zy n)} else none
 | _=>none
def UL:jh->js
 | [.str s,.str nd,.str new,.int .i64 n]=>if s.length<=65536/\new.length<=65536/\1<=nd.length then some {v:=.str (Lib.replace s nd new n)} else none
 | _=>none
section at2
variable {P:jd} {mx:P.follows .mixedOrders=true} {gs:jm} {zze:Nat} {et:List (Nat×i8)} {pG:List (Nat×Array i8)} {ns:jm} {g:ja} {Z:St} {vs:jh} {out:AQ}
theorem fmt_at (he:Dx P g) (ht:(gt,(Lib.pow10Tab.map fun z=>Value.int .u64 z).toArray)∈pG) (hn:P.globalNamed "internal/strconv.uint64pow10"=some gt)
  (hc:∀ (n:Int), -9223372036854775808<=n->n<=9223372036854775807->∀ w:i7,Lib.TabIs P w "internal/strconv.uint64pow10" .u64 Lib.pow10Tab->Calls P g #[.int .i64 n,.int .i64 10] w fun e w'=>e=.returned (.string ⟨(Lib.itoa n).toArray⟩)/\∃ k os,w'=Sort.grow (w.drewN k) os)
  (h:zz vs=some out):K9 (zp P mx gs zze et pG ns) g Z vs out:=by
 refine⟨he,?_⟩;unfold zz at h;split at h
 ·rename_i n;split at h
  ·rename_i T;cases h;intro E w0 I0 F0 O0 Hd R e ds I F lp L j4 jH us w dst hs hf hu hd;obtain⟨u,v,rfl,U,O⟩:=HP hu;rw[EP U,EP O];obtain⟨_,E',fr,hp⟩:=hf.wd.jO _ ht;have ht:Lib.TabIs P w "internal/strconv.uint64pow10" .u64 Lib.pow10Tab:=by unfold Lib.TabIs World.var?;rw[hn];simp only[gK,hp]
   refine callsIn_wide.2 ((hc n T.1 T.2 w ht).mono ?_);rintro ev w' ⟨rfl,k,os,rfl⟩;rw[itoa_eq n T.1 T.2];exact Jb hs hf (Vq (Lib.below_grow _ w (dH _) k os)) (.str _)
  {cases h}
 {cases h}
theorem repl_at (he:Dx P g) (hg:gm∈ns)
  (hc:∀ (s nd new:ByteArray) (n m:Int) (w:i7),s.size < 4294967281->w.cell? ⟨gm,0,none⟩=some (.int .i64 m)->1<=nd.size->s.size+Lib.countB s nd*new.size<=140737488355328 ->
   Calls P g #[.string s,.string nd,.string new,.int .i64 n] w fun e w'=>e=.returned (.string ⟨(Lib.replace s.data.toList nd.data.toList new.data.toList n).toArray⟩)/\Go.RowKit.Below w.heap.size w w')
  (h:UL vs=some out):K9 (zp P mx gs zze et pG ns) g Z vs out:=by
 refine⟨he,?_⟩;unfold UL at h;split at h
 ·rename_i s nd new n;split at h
  ·rename_i T;obtain⟨l1,l2,l3⟩:=T;cases h;intro E w0 I0 F0 O0 Hd R e ds I F lp L j4 jH us w dst hs hf hu hd;obtain⟨u1,u2,u3,u4,rfl,U,O,h3,h4⟩:=repL4 hu;rw[FW U,FW O,FW h3,EP h4];obtain⟨_,m,hm⟩:=hf.wd.num _ hg;have k8:=Lib.count_le s nd
   refine callsIn_wide.2 ((hc ⟨s.toArray⟩ ⟨nd.toArray⟩ ⟨new.toArray⟩ n m w (by show s.toArray.size < _;simp;omega) hm (by show 1<=nd.toArray.size;simp;omega) (by
    show s.toArray.size+Lib.count s.toArray.toList nd.toArray.toList*new.toArray.size<=_;simp only[gH];have:Lib.count s nd*new.length<=65537*65536:=Nat.mul_le_mul (by omega) l2;omega)).mono ?_)
   rintro ev w' ⟨rfl,hw⟩;exact Jb hs hf (Vq hw) (.str _)
  {cases h}
 {cases h}
end at2
theorem cfg_loc (h:∀ g,KL (sp g)) (g:ja) (σ:Nm->jk) (vs:jh) (hv:Ap vs=true):sp g σ vs=sp g (fun _=>none) vs:=by
 refine h g σ _ vs fun V hm=>?_;rw[(DQ hv).1] at hm;have:Bn σ A7 []=[]:=by simp[Bn,A7]
 rw[this] at hm;cases hm
theorem Rv {p t:Nat} (hp:ps.lookup p=some t) (U:σ V=some (.cells ty cs)) (O:cs.length=1) :
  Jl ps σ [.jK,.iface p (.ref V 0)]=some {v:=.bool false}/\∀ x,Aw x 1=true->Jl ps σ [.iface t x,.iface p (.ref V 0)]=some {v:=.bool true,kA:=some (V,.cells ty x.cells)}:=by
 refine⟨by simp[Jl,hp],fun x A=>?_⟩;unfold Jl;simp only[U,hp,O,A,and_self,iH]
end Go.Ab


namespace Go.Ab
open Go
variable{cs:jh} {n V:Nm} {o ty:Nat} {u:i8} {v:W} {x y y0:Int}
def LI (k:jc) (σ:Nm->jk):jh->js
 | [.ref n o]=>match σ n with
  | some (.cells _ cs)=>match cs[o]? with
   | some (.int k' y)=>if k'=k then some {v:=.int k y} else none
   | _=>none
  | _=>none
 | _=>none
def Lz (k:jc) (σ:Nm->jk):jh->js
 | [.ref n o,.int k1 y]=>match σ n with
  | some (.cells ty cs)=>match cs[o]? with
   | some (.int k' _)=>if k'=k/\k1=k then some {v:=.jE [],kA:=some (n,.cells ty (cs.set o (.int k y)))} else none
   | _=>none
  | _=>none
 | _=>none
def Kv (k:jc) (x y:Int) (σ:Nm->jk):jh->js
 | [.ref n o]=>match σ n with
  | some (.cells ty cs)=>match cs[o]? with
   | some (.int k' z)=>if k'=k/\z=x then some {v:=.jE [],kA:=some (n,.cells ty (cs.set o (.int k y)))} else none
   | _=>none
  | _=>none
 | _=>none
theorem uH (k:jc):KL (LI k):=by intro σ σ' vs h;unfold LI;split;{rename_i n o;rw[h n (FT _ _ n (by simp[AU,W.names]))]};{rfl}
theorem bn (k:jc):KL (Lz k):=by intro σ σ' vs h;unfold Lz;split;{rename_i n o k1 y;rw[h n (FT _ _ n (by simp[AU,W.names]))]};{rfl}
theorem WS (k:jc) (x y:Int):KL (Kv k x y):=by intro σ σ' vs h;unfold Kv;split;{rename_i n o;rw[h n (FT _ _ n (by simp[AU,W.names]))]};{rfl}
section
variable {cx:Cx} {E:Type} {w0:i7} {I0 F0:Nat->Prop} {O0:Cw} {Hd:Nat->Option Obj} {R:Ch E} {e:E} {ds:List jf} {I F:Nat->Prop} {lp:Nat->jj} {L:AK} {j4 jH:List i8} {Z:St} {w:i7} {dst:jj}
theorem Uj (hs:SR lp I L Z j4 jH w) {k:jc} (kD:Al Z.jC V=some (.cells ty cs)) (T:AC w I lp (some L) (.ref V o) u) (h0:cs[o]?=some (.int k y0)) :
  ∃ b C,L V=some (some (b,C))/\u=.pointer (some ⟨b,o,none⟩)/\w.cell? ⟨b,o,none⟩=some (.int k y0)/\w.frozen? ⟨b,o,none⟩=false:=by
 obtain⟨b,C,hL,rfl⟩:=GK T;obtain⟨q,hq,l7⟩:=hs.ob V _ kD;rw[hL] at hq;cases hq;obtain⟨c,E',hb,hC,kn,lY⟩:=l7;obtain⟨v,hv,sd⟩:=lY.get h0;rw[EP sd] at hv;refine⟨b,C,hL,rfl,?_,by simp[World.frozen?,hb]⟩;rw[gi] at hv;simp[World.cell?,hb,hv]
theorem XO (hs:SR lp I L Z j4 jH w) (hf:Fr cx w0 I0 F0 O0 Hd R e ds I F L w) {k:jc} {b C:Nat} (kD:Al Z.jC V=some (.cells ty cs)) (hL:L V=some (some (b,C))) (y:Int) :
  ∃ I' L',SR lp I' L' (apply Z dst {v:=.jE [],kA:=some (V,.cells ty (cs.set o (.int k y)))}) (GC j4 dst (.tuple #[])) jH (w.setCell ⟨b,o,none⟩ (.int k y))/\Fr cx w0 I0 F0 O0 Hd R e ds I' F L' (w.setCell ⟨b,o,none⟩ (.int k y)):=by
 obtain⟨q,hq,l7⟩:=hs.ob V _ kD;rw[hL] at hq;cases hq;obtain⟨c,E',hb,hC,kn,lY⟩:=l7;have nv:=SE (o:=o) (n:=.int k y) hb;have hI:∀ j,I j->(w.setCell ⟨b,o,none⟩ (.int k y)).heap[j]?=w.heap[j]?:=fun j hj=>Go.RowKit.Below.heap_setCell _ _ _ _ fun (e:j=b)=>(hf.lB V b C hL).2.2.1 (e ▸ hj);refine Up (w':=w.setCell ⟨b,o,none⟩ (.int k y)) hs hf hL rfl rfl rfl (by rw[SD];exact dH _) (fun j _ hj=>Go.RowKit.Below.heap_setCell _ _ _ _ hj) ?_ (.jE [] #[] .nil);refine⟨_,E',nv,by simpa using hC,⟨?_,kn.2⟩,?_⟩;{intro v hv;rw[iE] at hv;rcases gy hv with hv | rfl;{exact kn.1 v hv};{rfl}};{rw[iE];exact Av.mono (fun _ h=>h) hI (fun _ _ h=>h) (lY.set o (.int k y))}
end
section at_
variable {cx:Cx} {g:ja} {Z:St} {vs:jh} {out:AQ} {k:jc}
theorem zA (hg:∀ (a:Addr) (y:Int) (w:i7),w.cell? a=some (.int k y)->(callFunc g #[.pointer (some a)]).run cx.P w=.ok (.value (.int k y)) w) (h:LI k (Al Z.jC) vs=some out):xf cx g Z vs out:=by
 unfold LI at h;split at h
 case h_2=>cases h
 split at h
 case h_2=>cases h
 rename_i ty cs kD;split at h
 case h_2=>cases h
 rename_i k' y h0;split at h
 case isFalse=>cases h
 rename_i hk;subst hk;cases h;intro E w0 I0 F0 O0 Hd R e ds I F lp L j4 jH us w dst hs hf hu hd;obtain⟨u,rfl,T⟩:=L8 hu;obtain⟨b,C,hL,rfl,U,O⟩:=Uj hs kD T h0;exact⟨_,w,hg _ _ w U,Jb hs hf (J9 w) (.int _ _)⟩
theorem uI (hg:∀ (a:Addr) (y0 y:Int) (w:i7),w.cell? a=some (.int k y0)->w.frozen? a=false->(callFunc g #[.pointer (some a),.int k y]).run cx.P w=.ok (.value (.tuple #[])) (w.setCell a (.int k y))) (h:Lz k (Al Z.jC) vs=some out):xf cx g Z vs out:=by
 unfold Lz at h;split at h
 case h_2=>cases h
 split at h
 case h_2=>cases h
 rename_i ty cs kD;split at h
 case h_2=>cases h
 rename_i k' y0 h0;split at h
 case isFalse=>cases h
 rename_i hk;obtain⟨rfl,rfl⟩:=hk;cases h;intro E w0 I0 F0 O0 Hd R e ds I F lp L j4 jH us w dst hs hf hu hd;obtain⟨u,v,rfl,T,hv⟩:=HP hu;obtain⟨b,C,hL,rfl,U,O⟩:=Uj hs kD T h0;rw[EP hv];exact⟨_,_,hg _ _ _ w U O,XO hs hf kD hL _⟩
theorem YM (he:Dx cx.P g) (hg:∀ (a:Addr) (w:i7),w.cell? a=some (.int k x)->w.frozen? a=false->Calls cx.P g #[.pointer (some a)] w fun e w'=>e=.returned (.tuple #[])/\w'=w.setCell a (.int k y)) (h:Kv k x y (Al Z.jC) vs=some out):K9 cx g Z vs out:=by
 refine⟨he,?_⟩;unfold Kv at h;split at h
 case h_2=>cases h
 split at h
 case h_2=>cases h
 rename_i ty cs kD;split at h
 case h_2=>cases h
 rename_i k' z h0;split at h
 case isFalse=>cases h
 rename_i hk;obtain⟨rfl,rfl⟩:=hk;cases h;intro E w0 I0 F0 O0 Hd R e ds I F lp L j4 jH us w dst hs hf hu hd;obtain⟨u,rfl,T⟩:=L8 hu;obtain⟨b,C,hL,rfl,U,O⟩:=Uj hs kD T h0;refine callsIn_wide.2 ((hg _ w U O).mono ?_);rintro ev w' ⟨rfl,rfl⟩;exact XO hs hf kD hL _
end at_
def zB (k:jc) (σ:Nm->jy):jn->Option (Bool×AF)
 | [.ref n o]=>match σ n with
  | some (.cells _ cs)=>match cs[o]? with
   | some (.cv v)=>some (JQ k v,{v:=.cv v})
   | _=>none
  | _=>none
 | _=>none
def Ve (k:jc) (σ:Nm->jy):jn->Option (Bool×AF)
 | [.ref n o,.cv u]=>match σ n with
  | some (.cells ty cs)=>match cs[o]? with
   | some (.cv v)=>some (Bb (JQ k v) (JQ k u),{v:=.jE [],kA:=some (n,.cells ty (cs.set o (.cv u)))})
   | _=>none
  | _=>none
 | _=>none
def RO (k:jc) (x y:Int) (σ:Nm->jy):jn->Option (Bool×AF)
 | [.ref n o]=>match σ n with
  | some (.cells ty cs)=>match cs[o]? with
   | some (.cv v)=>some (Pm k x v,{v:=.jE [],kA:=some (n,.cells ty (cs.set o (.cv (.int k y))))})
   | _=>none
  | _=>none
 | _=>none
theorem SU {k:jc} (h:JQ k v=true):∃ y,v=.int k y:=by unfold JQ at h;split at h;{rename_i k' y;exact⟨y,by rw[iY h]⟩};·cases h
theorem aQ {k:jc} (h:Pm k x v=true):v=.int k x:=by unfold Pm at h;split at h;{simp only[dF,iK] at h;rw[h.1,h.2]};·cases h
theorem YR (cs:jn) (o:Nat) (x:KV):AP (cs.set o x)=(AP cs).set o x.pv:=by rw[Fb,Fb,fU]
section k_
variable {σ:Nm->jy} {H:jn} {out:AF} {k:jc}
theorem Ur {cs:jn} {x:KV} (h:cs[o]?=some x):(AP cs)[o]?=some x.pv:=by rw[Fb,dT,h];rfl
theorem zC (h:zB k σ H=some (true,out)):out.Ok/\LI k (fun V=>(σ V).map Ak.ob) (AP H)=some out.out/\∀ f,out.out.v.jR f=out.out.v:=by
 unfold zB at h;split at h
 case h_2=>cases h
 split at h
 case h_2=>cases h
 rename_i n o _ ty cs hn;split at h
 case h_2=>cases h
 rename_i v h0;simp only[dL,eC] at h;obtain⟨hv,rfl⟩:=h;obtain⟨y,rfl⟩:=SU hv;refine⟨AF.plain (v:=.cv (.int _ y)) rfl,?_,fun _=>rfl⟩;simp only[AP,KV.pv,LI,hn,ed,Ak.ob,Ur h0,iH];rfl
theorem zD {cs:jn} {u:W} (hu:jN u=true) (h:Bj cs):({v:=.jE [],kA:=some (n,.cells ty (cs.set o (.cv u)))}:AF).Ok :=
 ⟨trivial,by simp,fun V ob he=>by
  cases he;show Bj _;refine DT.2 fun x A=>?_;rcases gy A with A | rfl;·exact DT.1 h x A
  ·exact hu,by simp⟩
theorem uJ (hσ:∀ V o,σ V=some o->o.ok) (h:Ve k σ H=some (true,out)):out.Ok/\Lz k (fun V=>(σ V).map Ak.ob) (AP H)=some out.out/\∀ f,out.out.v.jR f=out.out.v:=by
 unfold Ve at h;split at h
 case h_2=>cases h
 split at h
 case h_2=>cases h
 rename_i n o u _ ty cs hn;split at h
 case h_2=>cases h
 rename_i v h0;simp only[dL,eC] at h;obtain⟨hv,rfl⟩:=h;unfold Bb at hv;simp only[dF] at hv;obtain⟨y0,rfl⟩:=SU hv.1;obtain⟨y,rfl⟩:=SU hv.2;refine⟨zD rfl (hσ _ _ hn),?_,fun _=>rfl⟩;simp only[AP,KV.pv,Lz,hn,ed,Ak.ob,Ur h0,and_self,iH,AF.out,YR,fV,dW]
theorem Yd {x:Int} (hσ:∀ V o,σ V=some o->o.ok) (h:RO k x y σ H=some (true,out)):out.Ok/\Kv k x y (fun V=>(σ V).map Ak.ob) (AP H)=some out.out/\∀ f,out.out.v.jR f=out.out.v:=by
 unfold RO at h;split at h
 case h_2=>cases h
 split at h
 case h_2=>cases h
 rename_i n o _ ty cs hn;split at h
 case h_2=>cases h
 rename_i v h0;simp only[dL,eC] at h;obtain⟨hv,rfl⟩:=h;obtain rfl:=aQ hv;refine⟨zD rfl (hσ _ _ hn),?_,fun _=>rfl⟩;simp only[AP,KV.pv,Kv,hn,ed,Ak.ob,Ur h0,and_self,iH,AF.out,YR,fV,dW]
end k_
end Go.Ab


namespace Go.Ab
open Go
section kb_
variable {σ:Nm->jy} {H:jn} {out:AF} {zze wx:Nat}
end kb_
end Go.Ab


namespace Go.Ab
open Go
variable{f:ja} {gone:jm} {nt:Nat}
def Rs:FR:=Vh [5,6] 260
def Pn:Hint:=[]
noncomputable def mkF (io shut kr:Bool) (gone:jm) (nt:Nat) (f:ja):Au:={nt,code:=((Mg Go.Proofs.Tryz.prog Rs (PN Pn Go.Proofs.Tryz.prog f) f).getD default).code,res:=((Mg Go.Proofs.Tryz.prog Rs (PN Pn Go.Proofs.Tryz.prog f) f).getD default).res,io,shut,kr,gone}
noncomputable def AR (nt:Nat) (f:ja):Au:=mkF false true false [] nt f

theorem AL {io shut kr:Bool} (h:(Mg Go.Proofs.Tryz.prog Rs (PN Pn Go.Proofs.Tryz.prog f) f).map (·.nt)=some nt):Mg Go.Proofs.Tryz.prog Rs (PN Pn Go.Proofs.Tryz.prog f) f=some {mkF io shut kr gone nt f with io:=false,shut:=false,kr:=false,gone:=[]}:=by
 obtain⟨fn,U,rfl⟩:=dG.1 h;unfold mkF;rw[U];have O:=U;unfold Mg at O;split at O
 ·split at O
  ·split at O;·cases O
   {cases O;rfl}
  {cases O}
 {cases O}
noncomputable def RW:Au:=mkF true true false [] 8 106
noncomputable def RU:Au:=mkF true true false [] 6 135
noncomputable def RT:Au:=mkF true true false [] 6 136
noncomputable def RS:Au:=mkF true true false [] 10 137
noncomputable def fn191:Au:=AR 4 191
noncomputable def fn79:Au:=mkF true true false [] 28 79
noncomputable def RV:Au:=mkF true true false [] 21 107
noncomputable def fn78:Au:=mkF true true false [] 12 78
noncomputable def fn49:Au:=mkF true true false [] 17 49
noncomputable def fn16:Au:=mkF true true false [] 12 16
noncomputable def uK:Au:=mkF true true false [] 57 27
noncomputable def fn33:Au:=mkF true true false [] 17 33
noncomputable def fn28:Au:=mkF true true false [] 14 28
noncomputable def fn31:Au:=mkF true true false [] 14 31
noncomputable def K7:Au:=mkF true true false [] 34 29
noncomputable def IU:Au:=mkF true true false [] 21 15
noncomputable def fn5:Au:=AR 13 5
noncomputable def fn8:Au:=AR 13 8
noncomputable def fn10:Au:=AR 13 10
noncomputable def fn6:Au:=AR 8 6
noncomputable def fn58:Au:=AR 18 58
noncomputable def fn53:Au:=AR 22 53
noncomputable def fn203:Au:=AR 24 203
noncomputable def fn24:Au:=AR 24 24
noncomputable def fn13:Au:=mkF false true true [] 5 13
noncomputable def fn86:Au:=AR 7 86
noncomputable def fn87:Au:=AR 56 87
noncomputable def fn83:Au:=AR 7 83
noncomputable def fn84:Au:=AR 101 84
noncomputable def fn219:Au:=AR 26 219
noncomputable def fn41:Au:=AR 6 41
noncomputable def fn42:Au:=AR 17 42
noncomputable def fn43:Au:=AR 9 43
noncomputable def fn50:Au:=AR 5 50
noncomputable def fn32:Au:=AR 4 32
noncomputable def fn54:Au:=mkF false true true [] 88 54
noncomputable def fn26:Au:=AR 9 26
noncomputable def fn109:Au:=AR 17 109
noncomputable def fn110:Au:=AR 9 110
noncomputable def fn112:Au:=AR 11 112
noncomputable def fn119:Au:=AR 31 119
noncomputable def fn111:Au:=AR 38 111
noncomputable def fn113:Au:=AR 6 113
noncomputable def fn114:Au:=AR 36 114
noncomputable def fn30:Au:=AR 4 30
noncomputable def fn70:Au:=AR 19 70
noncomputable def fn81:Au:=AR 13 81
noncomputable def fn56:Au:=AR 20 56
noncomputable def fn57:Au:=AR 11 57
noncomputable def fn51:Au:=AR 4 51
noncomputable def fn52:Au:=AR 13 52
noncomputable def fn55:Au:=AR 27 55
noncomputable def fn82:Au:=AR 19 82
noncomputable def zE:Au:=AR 21 149
noncomputable def fn150:Au:=AR 16 150
noncomputable def fn170:Au:=AR 5 170
noncomputable def fn171:Au:=AR 10 171
noncomputable def fn139:Au:=AR 36 139
noncomputable def fn172:Au:=AR 11 172
noncomputable def fn173:Au:=AR 4 173
noncomputable def fn174:Au:=AR 10 174
noncomputable def fn141:Au:=AR 56 141
noncomputable def fn175:Au:=AR 18 175
noncomputable def fn176:Au:=mkF false true true [] 21 176
noncomputable def fn177:Au:=AR 13 177
noncomputable def fn151:Au:=AR 16 151
noncomputable def fn138:Au:=AR 36 138
noncomputable def fn140:Au:=AR 51 140
noncomputable def fn142:Au:=AR 43 142
noncomputable def fn143:Au:=AR 11 143
noncomputable def fn144:Au:=AR 11 144
noncomputable def fn145:Au:=AR 10 145
noncomputable def fn146:Au:=AR 66 146
noncomputable def fn147:Au:=AR 10 147
noncomputable def fn148:Au:=AR 41 148
noncomputable def fn192:Au:=AR 51 192
noncomputable def fn193:Au:=AR 10 193
noncomputable def fn14:Au:=AR 29 14
noncomputable def fn88:Au:=AR 33 88
noncomputable def fn85:Au:=AR 38 85
noncomputable def fn25:Au:=AR 34 25
noncomputable def fn118:Au:=AR 10 118
noncomputable def fn115:Au:=AR 10 115
noncomputable def fn116:Au:=AR 6 116
noncomputable def fn117:Au:=AR 9 117
noncomputable def fn108:Au:=AR 29 108
noncomputable def fn44:Au:=mkF true false false [] 19 44
noncomputable def fn45:Au:=AR 11 45
noncomputable def fn46:Au:=AR 6 46
noncomputable def fn152:Au:=AR 13 152
noncomputable def fn153:Au:=AR 59 153
noncomputable def fn154:Au:=AR 44 154
noncomputable def fn155:Au:=AR 56 155
noncomputable def fn156:Au:=AR 8 156
noncomputable def fn157:Au:=mkF false true true [] 9 157
noncomputable def fn158:Au:=mkF false false false [] 13 158
noncomputable def fn159:Au:=AR 73 159
noncomputable def zF:Au:=AR 11 160
noncomputable def fn161:Au:=AR 53 161
noncomputable def fn162:Au:=AR 17 162
noncomputable def fn163:Au:=AR 72 163
noncomputable def fn164:Au:=AR 47 164
noncomputable def fn165:Au:=AR 8 165
noncomputable def fn166:Au:=AR 6 166
noncomputable def fn167:Au:=AR 11 167
noncomputable def fn168:Au:=AR 9 168
noncomputable def fn169:Au:=AR 6 169
noncomputable def fn195:Au:=mkF false true true [] 5 195
noncomputable def fn196:Au:=AR 32 196
noncomputable def fn197:Au:=AR 20 197
noncomputable def fn198:Au:=AR 19 198
noncomputable def fn199:Au:=AR 11 199
noncomputable def fn200:Au:=mkF false false false [] 36 200
noncomputable def RR:Au:=mkF true false false [] 28 201
noncomputable def fn202:Au:=AR 4 202
noncomputable def fn204:Au:=AR 19 204
noncomputable def fn80:Au:=AR 15 80
noncomputable def fn99:Au:=mkF false false false [] 25 99
noncomputable def fn127:Au:=mkF false false false [] 30 127
noncomputable def fn218:Au:=mkF false false false [] 27 218
noncomputable def fn4:Au:=AR 62 4
noncomputable def fn12:Au:=AR 24 12
noncomputable def fn22:Au:=AR 18 22
noncomputable def fn19:Au:=AR 22 19
noncomputable def fn38:Au:=AR 6 38
noncomputable def fn39:Au:=AR 59 39
noncomputable def fn40:Au:=AR 88 40
noncomputable def fn34:Au:=AR 6 34
noncomputable def fn35:Au:=AR 116 35
noncomputable def fn36:Au:=AR 53 36
noncomputable def fn23:Au:=AR 26 23
noncomputable def fn20:Au:=AR 41 20
noncomputable def fn59:Au:=AR 18 59
noncomputable def fn66:Au:=AR 57 66
noncomputable def fn67:Au:=mkF false true true [] 8 67
noncomputable def fn68:Au:=AR 37 68
noncomputable def fn69:Au:=AR 4 69
noncomputable def fn65:Au:=AR 6 65
noncomputable def fn60:Au:=AR 22 60
noncomputable def fn61:Au:=AR 17 61
noncomputable def fn62:Au:=AR 76 62
noncomputable def fn63:Au:=AR 53 63
noncomputable def fn64:Au:=AR 69 64
noncomputable def fn37:Au:=AR 17 37
noncomputable def fn94:Au:=AR 33 94
noncomputable def fn95:Au:=AR 4 95
noncomputable def fn96:Au:=AR 28 96
noncomputable def fn89:Au:=AR 87 89
noncomputable def fn90:Au:=AR 28 90
noncomputable def fn91:Au:=AR 40 91
noncomputable def fn92:Au:=AR 52 92
noncomputable def fn93:Au:=AR 46 93
noncomputable def fn124:Au:=AR 1 124
noncomputable def fn120:Au:=AR 33 120
noncomputable def fn121:Au:=AR 38 121
noncomputable def fn122:Au:=AR 27 122
noncomputable def fn123:Au:=AR 42 123
noncomputable def fn3:Au:=AR 100 3
noncomputable def fn7:Au:=AR 66 7
noncomputable def fn9:Au:=AR 49 9
noncomputable def fn11:Au:=AR 51 11
noncomputable def fn17:Au:=mkF false false false [] 29 17
noncomputable def fn18:Au:=AR 16 18
noncomputable def fn21:Au:=mkF false true true [] 80 21
noncomputable def A9:ja->jt
 | 106=>some RW
 | 135=>some RU
 | 136=>some RT
 | 137=>some RS
 | 191=>some fn191
 | 79=>some fn79
 | 107=>some RV
 | 78=>some fn78
 | 49=>some fn49
 | 16=>some fn16
 | 27=>some uK
 | 33=>some fn33
 | 28=>some fn28
 | 31=>some fn31
 | 29=>some K7
 | 15=>some IU
 | 5=>some fn5
 | 8=>some fn8
 | 10=>some fn10
 | 6=>some fn6
 | 58=>some fn58
 | 53=>some fn53
 | 203=>some fn203
 | 24=>some fn24
 | 13=>some fn13
 | 86=>some fn86
 | 87=>some fn87
 | 83=>some fn83
 | 84=>some fn84
 | 219=>some fn219
 | 41=>some fn41
 | 42=>some fn42
 | 43=>some fn43
 | 50=>some fn50
 | 32=>some fn32
 | 54=>some fn54
 | 26=>some fn26
 | 109=>some fn109
 | 110=>some fn110
 | 112=>some fn112
 | 119=>some fn119
 | 111=>some fn111
 | 113=>some fn113
 | 114=>some fn114
 | 30=>some fn30
 | 70=>some fn70
 | 81=>some fn81
 | 56=>some fn56
 | 57=>some fn57
 | 51=>some fn51
 | 52=>some fn52
 | 55=>some fn55
 | 82=>some fn82
 | 149=>some zE
 | 150=>some fn150
 | 170=>some fn170
 | 171=>some fn171
 | 139=>some fn139
 | 172=>some fn172
 | 173=>some fn173
 | 174=>some fn174
 | 141=>some fn141
 | 175=>some fn175
 | 176=>some fn176
 | 177=>some fn177
 | 151=>some fn151
 | 138=>some fn138
 | 140=>some fn140
 | 142=>some fn142
 | 143=>some fn143
 | 144=>some fn144
 | 145=>some fn145
 | 146=>some fn146
 | 147=>some fn147
 | 148=>some fn148
 | 192=>some fn192
 | 193=>some fn193
 | 14=>some fn14
 | 88=>some fn88
 | 85=>some fn85
 | 25=>some fn25
 | 118=>some fn118
 | 115=>some fn115
 | 116=>some fn116
 | 117=>some fn117
 | 108=>some fn108
 | 44=>some fn44
 | 45=>some fn45
 | 46=>some fn46
 | 152=>some fn152
 | 153=>some fn153
 | 154=>some fn154
 | 155=>some fn155
 | 156=>some fn156
 | 157=>some fn157
 | 158=>some fn158
 | 159=>some fn159
 | 160=>some zF
 | 161=>some fn161
 | 162=>some fn162
 | 163=>some fn163
 | 164=>some fn164
 | 165=>some fn165
 | 166=>some fn166
 | 167=>some fn167
 | 168=>some fn168
 | 169=>some fn169
 | 195=>some fn195
 | 196=>some fn196
 | 197=>some fn197
 | 198=>some fn198
 | 199=>some fn199
 | 200=>some fn200
 | 201=>some RR
 | 202=>some fn202
 | 204=>some fn204
 | 80=>some fn80
 | 99=>some fn99
 | 127=>some fn127
 | 218=>some fn218
 | 4=>some fn4
 | 12=>some fn12
 | 22=>some fn22
 | 19=>some fn19
 | 38=>some fn38
 | 39=>some fn39
 | 40=>some fn40
 | 34=>some fn34
 | 35=>some fn35
 | 36=>some fn36
 | 23=>some fn23
 | 20=>some fn20
 | 59=>some fn59
 | 66=>some fn66
 | 67=>some fn67
 | 68=>some fn68
 | 69=>some fn69
 | 65=>some fn65
 | 60=>some fn60
 | 61=>some fn61
 | 62=>some fn62
 | 63=>some fn63
 | 64=>some fn64
 | 37=>some fn37
 | 94=>some fn94
 | 95=>some fn95
 | 96=>some fn96
 | 89=>some fn89
 | 90=>some fn90
 | 91=>some fn91
 | 92=>some fn92
 | 93=>some fn93
 | 124=>some fn124
 | 120=>some fn120
 | 121=>some fn121
 | 122=>some fn122
 | 123=>some fn123
 | 3=>some fn3
 | 7=>some fn7
 | 9=>some fn9
 | 11=>some fn11
 | 17=>some fn17
 | 18=>some fn18
 | 21=>some fn21
 | _=>none
end Go.Ab

