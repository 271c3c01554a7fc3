/-
  Part 3 of a proof: a machine of our own for the given program, its laws, and what it says of the program. Nothing here is a claim by itself.
-/
import Derived.Test.YtmcmnpjjnebfcaaGreatDoorK02
import Derived.Test.YtmcmnpjjnebfcaaGreatDoorK01
set_option linter.all false

namespace Go.Ab
section
variable {E:Type} {cx:Cx} {w0:World} {I0 F0:Nat->Prop} {O0:B9} {Hd:Nat->Option Obj} {R:BV E} {e:E} {F:Nat->Prop} {lp:Nat->Option Nat} {suf tmv:List Value}
variable {I:Nat->Prop} {L:AF} {st:St} {w:World} {ds:List Deferred}
theorem res_ok (hs:SR lp I L st tmv suf w) {P:Program}:∀ (rv:List ResultVar) (rs:List H1) (vs:List PV),Me P rv=some rs->FM st rs=some vs ->
  ∃ us,(rv.mapM fun (r:ResultVar)=>(match r with
   | .tmp t=>pure (tmv.toArray.getD t undef)
   | .cell a t=>do loadVar t (<-asAddr (tmv.toArray.getD a undef)):Sem Value)).run P w=.ok us w/\Aq w I lp (some L) vs us:=by
 intro rv;induction rv with
 | nil =>
  intro rs vs h1 h2;simp only[Me,Z6] at h1;subst h1;simp only[FM,Z6] at h2;subst h2;exact⟨[],rfl,.nil⟩
 | cons r rv ih =>
  intro rs vs h1 h2;simp only[Me] at h1;split at h1
  case h_2=>cases h1
  rename_i x xs hx hxs;cases h1;simp only[FM] at h2;split at h2
  case h_2=>cases h2
  rename_i v vs' hv hvs;cases h2;obtain⟨us,q1,q2⟩:=ih xs vs' hxs hvs
  have key:∃ u,(match r with
   | .tmp t=>pure (tmv.toArray.getD t undef)
   | .cell a t=>do loadVar t (<-asAddr (tmv.toArray.getD a undef)):Sem Value).run P w=.ok u w/\Aw w I lp (some L) v u:=by
   cases r with
   | tmp t =>
    simp only[Z6] at hx;subst hx;simp only[B7,Z6] at hv;subst hv;refine⟨tmv.toArray.getD t undef,rfl,?_⟩;rw[SI];exact hs.tm.getD t undef
   | cell a t =>
    simp only[Z3] at hx;obtain⟨⟨n,ag⟩,hsh,rfl⟩:=hx;simp only[B7] at hv;split at hv
    case h_2=>cases hv
    rename_i nm o hr;split at hv
    case h_2=>cases hv
    rename_i cs hlk;have hrep:=hs.tm.getD a undef;rw[hr] at hrep;obtain⟨b,C,hL,hbv⟩:=FY hrep;obtain⟨p,hp,ha⟩:=hs.ob nm _ hlk;rw[hL] at hp;cases hp;obtain⟨c,E',hb,hC,hone,hrl⟩:=ha;obtain⟨u,hu,hru⟩:=NL hrl hone.1 hv;refine⟨u,?_,hru⟩
    have hld:=OE (P:=P) hsh (off:=o) hb (v:=u) (by
     cases ag;·simpa using hu
     ·simp only[if_true] at hu |-;refine⟨by simpa using hu.1,?_⟩;rw[hu.2,MW,bY])
    show (do loadVar t (<-asAddr (tmv.toArray.getD a undef)):Sem Value).run P w=_;rw[SI];have hbv':tmv.toArray.toList.getD a undef=.pointer (some ⟨b,o,none⟩):=hbv;rw[hbv'];simpa[Instr.loadAt,Instr.sureAddr,asAddr] using hld
  obtain⟨u,k1,k2⟩:=key;refine⟨u :: us,?_,.cons _ _ _ _ k2 q2⟩;rw[bi,Sem.run_bind,k1,Result.andThen_ok,Sem.run_bind,q1,Result.andThen_ok];rfl
theorem WS {vs:List PV} {us:List Value} (h:Aq w I lp (some L) vs us):Aw w I lp (some L) (Hq vs) (if h:us.toArray.size=1 then us.toArray[0] else .tuple us.toArray):=by
 match vs,us,h with
 | [],[],.nil=>exact .tup [] #[] .nil
 | [v],[u],.cons _ _ _ _ h .nil=>exact h
 | v :: v' :: vs,u :: u' :: us,h =>
  have:¬ (u :: u' :: us).toArray.size=1:=by simp
  rw[dif_neg this];exact .tup _ _ (by simpa using h)
theorem Vk {σ:Nm->Option Ob}:∀ (S:List Nm) (obs:List Ob),S.mapM σ=some obs->obs.length=S.length/\∀ (j:Nat) (nm:Nm),S[j]?=some nm->∃ ob,obs[j]?=some ob/\σ nm=some ob:=by
 intro S;induction S with
 | nil=>intro obs h;simp at h;subst h;exact⟨rfl,fun j nm h=>by simp at h⟩
 | cons x S ih =>
  intro obs h;rw[bi] at h;simp only[cj,aX,cu,Z6] at h;obtain⟨ob,ho,obs',hos,rfl⟩:=h;obtain⟨q1,q2⟩:=ih obs' hos;refine⟨by simp[q1],fun j nm hj=>?_⟩;cases j with
  | zero=>simp at hj;subst hj;exact⟨ob,rfl,ho⟩
  | succ j=>simp at hj;obtain⟨o,h1,h2⟩:=q2 j nm hj;exact⟨o,by simpa using h1,h2⟩
theorem Zj:∀ {S:List Nm},D6 S=true->∀ (i j:Nat) (nm:Nm),S[i]?=some nm->S[j]?=some nm->i=j:=by
 intro S;induction S with
 | nil=>intro _ i j nm h;simp at h
 | cons x S ih =>
  intro h i j nm hi hj;simp only[D6,Z2,bC] at h;obtain⟨h1,h2⟩:=h;have hx:x ∉ S:=by simpa using h1
  cases i with
  | zero =>
   cases j with
   | zero=>rfl
   | succ j=>simp at hi hj;subst hi;exact absurd (aj hj) hx
  | succ i =>
   cases j with
   | zero=>simp at hi hj;subst hj;exact absurd (aj hi) hx
   | succ j=>simp at hi hj;rw[ih h2 i j nm hi hj]
theorem Zy {ob:Ob} (h:J6 ob=true):J6 ob.bare=true:=by cases ob<;>first | exact h | rfl
theorem BF.bare {w:World} {I:Nat->Prop} {lp:Nat->Option Nat} {L:AF} {ob:Ob} {p:Option (Nat×Nat)} (h:BF w I lp L ob p):BF w I lp L ob.bare p:=by
 cases p with
 | none=>obtain⟨k,kt,rfl⟩:=h;exact⟨k,0,rfl⟩
 | some p =>
  cases ob with
  | arr k kt xs=>obtain⟨c,E,h1,h2,h3,h4⟩:=h;exact⟨c,E,h1,h2,⟨h3.1,.inl rfl⟩,h4⟩
  | cells ty cs=>exact h
  | map es=>exact h
  | siter s p=>exact h
theorem hand_ok {shut:Bool} (hs:SR lp I L st tmv suf w) (hf:Fr cx w0 I0 F0 ⟨fun _=>False,[]⟩ Hd R e ds I F L w) {v v':PV} {u:Value} {obs:List Ob} (hv:Aw w I lp (some L) v u) (h:Jw shut st v=some (v',obs)) :
  ∃ I' ps,Mg cx R lp I0 F0 w0 v' obs e u w I' F ps:=by
 simp only[Jw] at h;generalize hS:(if (D6 (Ig shut v)&&(Ig shut v).all fun nm=>!(Bb (Ak st.objs) AW (v.names.filter fun nm=>!(Ig shut v).contains nm)).contains nm)=true then Ig shut v else [])=S at h;generalize hRn:Bb (Ak st.objs) AW (v.names.filter fun nm=>!S.contains nm)=Rn at h;split at h
 case h_2=>cases h
 rename_i obs' hm;obtain⟨hk,h⟩:=Bn h;cases h;simp only[Z2] at hk;obtain⟨hR,harr⟩:=hk;obtain⟨m1,m2⟩:=Vk S obs' hm
 have hSnd:D6 S=true/\∀ nm∈S,nm ∉ Rn:=by
  by_cases hc:(D6 (Ig shut v)&&(Ig shut v).all fun nm=>!(Bb (Ak st.objs) AW (v.names.filter fun nm=>!(Ig shut v).contains nm)).contains nm)=true
  ·rw[if_pos hc] at hS;subst hS;rw[Z2] at hc;refine⟨hc.1,fun nm hn=>?_⟩;have:=an.1 hc.2 nm hn;rw[hRn] at this;simpa using this
  ·rw[if_neg hc] at hS;subst hS;exact⟨rfl,fun nm hn=>by cases hn⟩
 obtain⟨hnd,hdis⟩:=hSnd
 have hloc:∀ (j:Nat) (nm:Nm),S[j]?=some nm->∃ p ob,L nm=some p/\obs'[j]?=some ob/\BF w I lp L ob p:=by
  intro j nm hj;obtain⟨ob,h1,h2⟩:=m2 j nm hj;obtain⟨p,hp,ha⟩:=hs.ob nm ob h2;exact⟨p,ob,hp,h1,ha⟩
 refine⟨inR I L Rn,S.map (fun nm=>(L nm).getD none),?_⟩;have hfz:=hf.freeze Rn
 have hps:∀ (j:Nat) (p:Option (Nat×Nat)),(S.map (fun nm=>(L nm).getD none))[j]?=some p->∃ nm,S[j]?=some nm/\L nm=some p:=by
  intro j p hj;rw[aa,Z3] at hj;obtain⟨nm,h1,h2⟩:=hj;obtain⟨q,ob,hq,_,_⟩:=hloc j nm h1;rw[hq] at h2;simp only[aM] at h2;subst h2;exact⟨nm,h1,hq⟩
 refine⟨hfz.ext,hfz.sep,hfz.wd,hfz.re,by rw[aL,aL,m1],?_,?_,?_,?_,by rw[List.all_map];exact an.2 fun ob ho=>Zy (an.1 harr ob ho)⟩
 ·intro j ob p hj hp;obtain⟨nm,h1,h2⟩:=hps j p hp;obtain⟨q,ob',hq,ho,ha⟩:=hloc j nm h1;rw[h2] at hq;cases hq;rw[aa,ho] at hj;cases hj;have hj:=ho;refine BF.bare ?_;exact (ha.mono (I':=inR I L Rn) (fun _ h=>.inl h) (fun _ _=>rfl) (fun _ _ h=>h) fun _ _ _=>rfl).ofArr (an.1 harr _ (aj hj))
 ·intro j b C hj;obtain⟨nm,h1,h2⟩:=hps j _ hj;obtain⟨g1,g2,g3,g4⟩:=hf.lB nm b C h2;refine⟨g1.elim id fun h=>h.elim,g2,?_,g4⟩;rintro (hb | ⟨nm',hm',C',hL'⟩);·exact g3 hb
  ·have:=hf.inj nm nm' b C C' h2 hL';subst this;exact hdis nm (aj h1) hm'
 ·intro j j' b C C' h1 h2;obtain⟨nm,a1,a2⟩:=hps j _ h1;obtain⟨nm',b1,b2⟩:=hps j' _ h2;have:=hf.inj nm nm' b C C' a2 b2;subst this;exact Zj hnd j j' nm a1 b1
 ·have hsub:EE w (inR I L Rn) lp L (some fun nm=>if nm∈S then L nm else none) (fun nm=>nm∈S\/nm∈Rn) (fun nm=>if S.contains nm then none else BJ (Ak st.objs) nm):=by
   intro nm p hn hp;by_cases hm:nm∈S
   ·have:S.contains nm=true:=by simpa using hm
    simp only[this,if_true];exact⟨_,rfl,by simp[hm,hp]⟩
   ·have:S.contains nm=false:=by simpa using hm
    simp only[this,Z0,if_false];have:=Po hs hR (none) nm p (hn.resolve_left hm) hp;cases hcl:BJ (Ak st.objs) nm with
    | none=>simp[BJ] at hcl
    | some q =>
     rw[hcl] at this;cases q with
     | none=>trivial
     | some ob=>exact this
  have h1:=Aw.subst (I':=inR I L Rn) (fun b hb=>.inl hb) hsub hv (fun nm hn=>by
   by_cases hm:nm∈S
   ·exact .inl hm
   ·refine .inr ?_;rw[<-hRn];exact Fd _ _ _ (bP.2 ⟨hn,by simpa using hm⟩))
  refine Aw.rename (fun nm p hp=>?_) h1;split at hp
  ·rename_i hm;have hidx:=List.idxOf_lt_length_of_mem hm;have hget:S[S.idxOf nm]?=some nm:=by rw[ab hidx];simp
   simp[J1,Ov,Cr,hget,hp]
  ·cases hp
theorem leaves_ok {P:Program} {fn:Func} {tmps:Array Value} {Rr:Ending->World->Prop}:∀ {ds:List Deferred} {w:World} {lo:Nat} {I F:Nat->Prop} {L:AF},DC lo I F L w ds []->(∀ w':World,w'.os=w.os->w'.tape=w.tape->w'.output=w.output->w'.heap.size=w.heap.size ->
   (∀ b,(b < lo\/I b\/F b\/∃ nm C,L nm=some (some (b,C)))->w'.heap[b]?=w.heap[b]?)->∃ v,(results fn tmps).run P w'=.ok v w'/\Rr (.returned v) w') ->
  LeavesInM Fence.wide 0 P fn tmps Rr ds .returning w:=by
 intro ds;induction ds with
 | nil =>
  intro w lo I F L _ h;obtain⟨v,h1,h2⟩:=h w rfl rfl rfl rfl fun _ _=>rfl;exact⟨v,h1,h2⟩
 | cons d ds ih =>
  intro w lo I F L hm h;cases hm with
  | cons D _ _ h1 h2 h3 h4 h5 h6 h7 hr =>
   refine⟨by simp,.inl ⟨D,_,rfl,run_takeDeferred h6,?_⟩⟩;have hk:∀ b,b≠D->(w.putObj D (.deferred none)).heap[b]?=w.heap[b]?:=fun b hb=>World.putObj_heap_other hb;have hsz:(w.putObj D (.deferred none)).heap.size=w.heap.size:=World.putObj_size
   have hr':DC lo I F L (w.putObj D (.deferred none)) ds []:=by
    have key:∀ ds rs,DC lo I F L w ds rs->(∀ d∈ds,d.target≠.collected D)->DC lo I F L (w.putObj D (.deferred none)) ds rs:=by
     intro ds rs hm;induction hm with
     | call d' ds rs hd _ ih=>intro hne;exact .call d' ds rs hd (ih fun d hd=>hne d (ap _ hd))
     | nil=>intro _;exact .nil
     | cons D' ds rs g1 g2 g3 g4 g5 g6 g7 _ ih =>
      intro hne;have hDD:D'≠D:=fun e=>hne {target:=.collected D',args:=#[]} aq (by rw[e]);exact .cons D' ds rs g1 (by rw[hsz];exact g2) g3 g4 g5 ((hk D' hDD).trans g6) g7 (ih fun d hd=>hne d (ap _ hd))
    exact key ds _ hr h7
   refine ih hr' fun w' e1 e2 e3 e4 e5=>h w' e1 e2 e3 (by rw[e4,hsz]) fun b hb=>?_
   have hne:b≠D:=by
    rintro rfl;rcases hb with hb | hb | hb | ⟨nm,C,hb⟩;·omega
    ·exact h3 hb
    ·exact h4 hb
    ·exact h5 nm C hb
   exact (e5 b hb).trans (hk b hne)
end
def Lq (cx:Cx) (tab:FuncId->Option Au) (dd:FuncId->Er):Prop:=∀ f fn,tab f=some fn->Ln cx.P cx.G (dd f) f=some {fn with io:=false,shut:=false,leans:=false,gone:=[]}
theorem tab_fn {cx:Cx} {tab:FuncId->Option Au} {dd:FuncId->Er} (htab:Lq cx tab dd) {g:FuncId} {rf:Au} (hrf:tab g=some rf):∃ fn c,cx.P.funcs[g]?=some fn/\fn.body=some c/\Me cx.P fn.results.toList=some rf.res/\¬ (fn.name == "runtime.NumGoroutine")=true/\rf.nt=fn.ntmps/\rf.code=BO cx.P cx.G (dd g) c:=by
 have hcf:=htab g rf hrf;unfold Ln at hcf;split at hcf
 case h_2=>cases hcf
 rename_i fn hfn;split at hcf
 case h_2=>cases hcf
 rename_i c rs hbody hres;split at hcf
 case isTrue=>cases hcf
 rename_i hname;obtain⟨nt,code,res,io⟩:=rf;simp only[Z6,Au.mk.injEq,and_true] at hcf;obtain⟨rfl,rfl,rfl⟩:=hcf;exact⟨fn,c,hfn,hbody,hres,hname,rfl,rfl⟩
theorem callOf_ok {cx:Cx} {M:Bf} {tab:FuncId->Option Au} (hM:EP cx M.call) (hsp:MSp cx M) (hloc:GD M) {dd:FuncId->Er} (htab:Lq cx tab dd) (n:Nat):EP cx (IT M n tab):=by
  intro E h R dep lp Ir Fr_ wr g args e r obs e' hc hand hdep;simp only[IT] at hc;split at hc;·cases hc
  rename_i rf hrf;obtain⟨fn,c,hfn,hbody,hres,hname,hnt,hcode⟩:=tab_fn htab hrf;rw[hnt,hcode] at hc;split at hc
  case h_2=>cases hc
  rename_i x st2 e2 hev;refine⟨⟨fn,hfn,by simpa using hname,by rw[hbody];rfl⟩,fun I F w vs hx hsep hwd hre hrep=>?_⟩;have hend:x≠.normal->x=.ret\/∃ id,x=.exit id:=by cases x<;>simp
  have hxe:∀ id,x≠.exit id:=by rintro id rfl;simp at hc
  have hc2:(match FM st2 rf.res with
     | some vs=>match Jw rf.shut st2 (Hq vs) with
      | some (v,obs)=>some (v,obs,e2)
      | none=>none
     | none=>none)=some (r,obs,e'):=by
   cases x with
   | normal=>exact hc
   | ret=>exact hc
   | exit id=>exact absurd rfl (hxe id)
  split at hc2
  case h_2=>cases hc2
  rename_i rvs hrvs;split at hc2
  case h_2=>cases hc2
  rename_i v' obs' hho;cases hc2;refine callsIn_of_wp_marks hfn hbody trivial ?_;have hlen:=hrep.length
  have hst0:SR lp I (fun _=>none) {tmps:=args++List.replicate (fn.ntmps - args.length) .undef,objs:=List.replicate fn.ntmps [],keep:=[]} (vs.toArray++Array.replicate (fn.ntmps - vs.toArray.size) undef).toList [] w:=by
   refine⟨?_,.nil,fun nm ob hl=>?_,fun nm _=>rfl⟩
   ·have h2:Aq w I lp (some fun _=>none) (List.replicate (fn.ntmps - args.length) PV.undef) (List.replicate (fn.ntmps - args.length) undef):=Aq.undefs _ _ (by simp);have:=(hrep.lift (some fun _=>none)).append h2;simpa[hlen] using this
   ·exfalso
    have hnone:Ak (List.replicate fn.ntmps []) nm=none:=by
     unfold Ak;cases hg:(List.replicate fn.ntmps ([]:List Ob))[nm.1]? with
     | none=>rfl
     | some l =>
      have:=cO (aj hg);subst this;simp
    rw[hnone] at hl;cases hl
  have hfr0:Fr cx w I F ⟨fun _=>False,[]⟩ (fun _=>none) R e [] I F (fun _=>none) w :=
   ⟨Cf.refl _ _ _,hsep,fun b hb=>hb.elim,fun nm b C hn=>(by cases hn),fun nm nm' b C C' hn=>(by cases hn),hwd,hre,.nil,fun b ob hb=>(by cases hb)⟩
  refine S2 (dd:=dd g) (M:=M) hM hsp hloc c E h dep R lp w I F ⟨fun _=>False,[]⟩ (fun _=>none) [] none _ e x st2 e' hev ⟨⟨Ir,Fr_,wr,hand,hx⟩,hdep⟩ (fun l0 he=>by cases he) {tmps:=_,defers:=[]} w I F _ _ hst0 hfr0 ?_;rintro a' w' I' F' L' hs' hf'
  have hpost:LeavesInM Fence.wide 0 cx.P fn a'.tmps (WH cx R lp I F w r obs e') a'.defers .returning w':=by
   refine leaves_ok hf'.mks fun w2 e1 e3 e4 e5 e6=>?_;have hkI:∀ b,I' b->w2.heap[b]?=w'.heap[b]?:=fun b hb=>e6 b (.inr (.inl hb));have hkF:∀ b,F' b->w2.heap[b]?=w'.heap[b]?:=fun b hb=>e6 b (.inr (.inr (.inl hb)));have hs2:SR lp I' L' st2 a'.tmps.toList [] w2:=hs'.keeps (fun _ h=>h) hkI fun nm b C hn=>e6 b (.inr (.inr (.inr ⟨nm,C,hn⟩)))
   have hf2:Fr cx w I F ⟨fun _=>False,[]⟩ (fun _=>none) R e' [] I' F' L' w2:=by
    refine⟨⟨e1.trans hf'.ext.os,e3.trans hf'.ext.tape,e4.trans hf'.ext.output,by rw[e5];exact hf'.ext.size,fun b hb hF=>(e6 b (.inl hb)).trans (hf'.ext.keep b hb hF),hf'.ext.subI,hf'.ext.newI,hf'.ext.newF⟩,
     ⟨fun b hb=>by rw[e5];exact hf'.sep.iB b hb,fun b hb=>⟨by rw[e5];exact (hf'.sep.fB b hb).1,(hf'.sep.fB b hb).2⟩⟩,fun b hb=>hb.elim,fun nm b C hn=>?_,hf'.inj,?_,?_,.nil,fun b ob hb=>by cases hb⟩
    ·obtain⟨q1,q2,q3,q4⟩:=hf'.lB nm b C hn;exact⟨q1,by rw[e5];exact q2,q3,q4⟩
    ·exact cx.stab I' I' w' w2 hf'.wd (fun _ h=>h) hkI (by rw[e5];exact Z5 _)
    ·exact R.stab e' I' I' F' w' w2 hf'.re (fun _ h=>h) (fun b hb=>hb.elim (hkI b) (hkF b)) (by rw[e5];exact Z5 _)
   obtain⟨us,q1,q2⟩:=res_ok hs2 (P:=cx.P) fn.results.toList rf.res rvs hres hrvs;obtain⟨I3,ps,hce⟩:=hand_ok hs2 hf2 (WS q2) hho;refine⟨_,?_,⟨I3,F',ps,hce⟩⟩;unfold results;rw[Sem.run_bind,df,Sem.run_map];rw[bt] at q1;exact (congrArg (fun r:Result (List Value)=>(r.andThen fun a w'=>Result.ok a.toArray w').andThen fun a w'=>Sem.run cx.P (pure (if h:a.size=1 then a[0] else Value.tuple a)) w') q1).trans rfl
  cases x with
  | normal=>exact hpost
  | ret=>exact hpost
  | exit id=>exact absurd rfl (hxe id)
end Go.Ab


namespace Go.Ab
inductive Hy (nt:Nat):List Nat->List Value->List Deferred->Prop
 | nil:Hy nt [] [] []
 | cons (k:Nat) (l:List Nat) (us pad:List Value) (rs:List Deferred) (fn:Fn) (fst caps:Array Value) (args:List Value) (hk:args.length=k) (hn:1+k+pad.length=nt) (h:Hy nt l us rs) :
   Hy nt (k :: l) (.func fn fst caps :: (args++pad)++us) ({target:=.fn fn caps,args:=fst++args.toArray} :: rs)
theorem Hy.append {nt:Nat} {l l':List Nat} {us us':List Value} {rs rs':List Deferred} (h:Hy nt l us rs) (h':Hy nt l' us' rs'):Hy nt (l++l') (us++us') (rs++rs'):=by
 induction h with
 | nil=>exact h'
 | cons k l us pad rs fn fst caps args hk hn _ ih =>
  have:=Hy.cons k _ _ pad _ fn fst caps args hk hn ih;simpa[aR] using this
theorem Io.more {M:Bf} {E:Type} {h:Ay E} {dep:Nat} {r1 r2:List AX} {l:List Nat} {st st2:St} {e e2:E} (hr:Io M h dep r1 l st e st2 e2):Io M h dep (r1++r2) l st e st2 e2:=by
 induction hr with
 | nil st e=>exact .nil st e
 | cons i rest o st st1 st2 e e1 e2 ho hs _ ih =>
  have hi:i < r1.length:=(ac.1 ho).1;refine .cons i rest o st st1 st2 e e1 e2 (by rw[bv hi];exact ho) ?_ ih
  have hw:∀ b,DX r1 o st.tmps=some b->DX (r1++r2) o st.tmps=some b:=by
   intro b hb;unfold DX at hb |-;split at hb;·exact hb
   ·rename_i j want hg;cases hj:r1[j]? with
    | none=>rw[hj] at hb;cases hb
    | some p =>
     have hlt:j < r1.length:=(ac.1 hj).1;rw[hj] at hb;rw[bv hlt,hj];exact hb
  unfold stepG at hs |-;cases hq:DX r1 o st.tmps with
  | none=>rw[hq] at hs;cases hs
  | some b =>
   rw[hq] at hs;rw[hw b hq];cases b<;>exact hs
section
variable {cx:Cx} {dd:Er} {M:Bf} {fuel nt:Nat}
theorem seq_leaf (g:List (Nat×Nat)) (f:RX) (ps:List Nat) (a b:Bu) (st:St):Bk M fuel nt (.seq (.norm g) (.rangeFunc f ps a b)) st=Gx (AQ M fuel (.seq (.norm g) (.rangeFunc f ps a b)) AP 0 st ()):=by
 have e2:AQ M fuel (.seq (.norm g) (.rangeFunc f ps a b)) AP 0 st ()=AQ M fuel (.rangeFunc f ps a b) AP 0 (norm [] g (trim st)) ():=rfl;rw[e2]
 show (match Bk M fuel nt (.rangeFunc f ps a b) (norm [] g (trim st)) with
  | some (x,st,l')=>some (x,st,l'++[])
  | none=>none)=_
 rw[show Bk M fuel nt (.rangeFunc f ps a b) (norm [] g (trim st))=Gx (AQ M fuel (.rangeFunc f ps a b) AP 0 (norm [] g (trim st)) ()) from rfl];cases AQ M fuel (.rangeFunc f ps a b) AP 0 (norm [] g (trim st)) () with
 | none=>rfl
 | some p=>rfl
theorem Su:∀ (c:Bu) (st:St) (r:Ex×St×List Nat),DP c=true->Bk M fuel nt c st=some r->Gx (AQ M fuel c AP 0 st ())=some r:=by
 intro c;induction c with
 | seq a b iha ihb =>
  intro st r hn hev;simp only[DP,Z2] at hn;simp only[Bk] at hev;cases ha:Bk M fuel nt a st with
  | none=>rw[ha] at hev;cases hev
  | some q =>
   obtain⟨x,s1,l1⟩:=q;have h1:=iha st _ hn.1 ha;rw[ha] at hev;simp only[AQ];cases hc:AQ M fuel a AP 0 st () with
   | none=>rw[hc] at h1;cases h1
   | some q2 =>
    obtain⟨x2,s2,u⟩:=q2;rw[hc] at h1;cases h1;cases x with
    | normal =>
     simp only at hev |-;cases hb:Bk M fuel nt b s1 with
     | none=>rw[hb] at hev;cases hev
     | some q3 =>
      obtain⟨x3,s3,l3⟩:=q3;rw[hb] at hev;simp only[bz] at hev;rw[<-hev];exact ihb s1 _ hn.2 hb
    | exit id=>exact hev
    | ret=>exact hev
 | cond c a b iha ihb =>
  intro st r hn hev;simp only[DP,Z2] at hn;simp only[Bk] at hev;simp only[AQ];split at hev;·exact iha st r hn.1 hev
  ·exact ihb st r hn.2 hev
  ·cases hev
 | block id b ih =>
  intro st r hn hev;simp only[DP] at hn;simp only[Bk] at hev;cases ha:Bk M fuel nt b st with
  | none=>rw[ha] at hev;cases hev
  | some q =>
   obtain⟨x,s1,l1⟩:=q;have h1:=ih st _ hn ha;rw[ha] at hev;simp only[AQ];cases hc:AQ M fuel b AP 0 st () with
   | none=>rw[hc] at h1;cases h1
   | some q2 =>
    obtain⟨x2,s2,u⟩:=q2;rw[hc] at h1;cases h1;cases x with
    | exit id' =>
     simp only at hev |-;split at hev<;>rename_i hid;·rw[if_pos hid];exact hev
     ·rw[if_neg hid];exact hev
    | normal=>exact hev
    | ret=>exact hev
 | scope b ih =>
  intro st r hn hev;simp only[DP] at hn;simp only[Bk] at hev;split at hev;·cases hev
  cases ha:Bk M fuel nt b st with
  | none=>rw[ha] at hev;cases hev
  | some q =>
   obtain⟨x,s1,l1⟩:=q;have h1:=ih st _ hn ha;rw[ha] at hev;simp only[AQ];cases hc:AQ M fuel b AP 0 st () with
   | none=>rw[hc] at h1;cases h1
   | some q2 =>
    obtain⟨x2,s2,u⟩:=q2;rw[hc] at h1;cases h1;cases x with
    | exit id' =>
     simp only at hev |-;split at hev<;>rename_i hid;·rw[if_pos hid];exact hev
     ·cases hev
    | normal=>exact hev
    | ret=>exact hev
 | dreg=>intro st r hn;cases hn
 | _=>intro st r _ hev;exact hev
theorem YC {g:Option (List (Nat×Nat))} {r:Bu} {st st2:St} {x:Ex} {l:List Nat} (h:Bk M fuel nt (ME g r) st=some (x,st2,l)) :
  ∃ st4,Bk M fuel nt r st=some (x,st4,l)/\(st2=st4\/x=.normal/\∃ g,st2=norm [] g (trim st4)):=by
 cases g with
 | none=>exact⟨st2,h,.inl rfl⟩
 | some g =>
  simp only[ME,Bk] at h;cases ha:Bk M fuel nt r st with
  | none=>rw[ha] at h;cases h
  | some q =>
   obtain⟨y,s1,l1⟩:=q;rw[ha] at h;cases y with
   | normal =>
    simp only[AQ,Gx,aK,Z6,aC] at h;obtain⟨rfl,rfl,rfl⟩:=h;exact⟨s1,rfl,.inr ⟨rfl,g,rfl⟩⟩
   | exit id=>cases h;exact⟨_,rfl,.inl rfl⟩
   | ret=>cases h;exact⟨_,rfl,.inl rfl⟩
theorem Vh {g:Option (List (Nat×Nat))} {r:Bu} (h:DP r=true):DP (ME g r)=true:=by
 cases g with
 | none=>exact h
 | some g=>simp[ME,DP,h]
theorem X3 {G:Fb} {o:Oper} {f:RX} {args:List RX} (h:PS G o=some (f,args)) :
  ∃ c fo,o.op=.defer c/\o.guard=none/\o.dst=none/\c.callee=.value fo/\rx G fo=some f/\Es G c.args.toList=some args:=by
 unfold PS at h;split at h
 ·rename_i c h1 h2 h3;split at h
  ·rename_i fo hc;split at h
   ·rename_i f' as h4 h5;cases h;exact⟨c,fo,h1,h2,h3,hc,h4,h5⟩
   ·cases h
  ·cases h
 ·cases h
theorem evalD_ok (hM:EP cx M.call) (hsp:MSp cx M) (hloc:GD M):∀ (c:Code) (lp:Nat->Option Nat) (w0:World) (I0 F0 own:Nat->Prop) (rs:List Deferred) (suf:List Value) (st:St) (x:Ex) (st2:St) (l:List Nat),
  Bk M fuel nt (BO cx.P cx.G dd c) st=some (x,st2,l)->Ref cx lp Eu AP 0 w0 I0 F0 ->
  ∀ (a:Act) (w:World) (I F:Nat->Prop) (L:AF) (Q:Exit->Act->World->Prop),SR lp I L st a.tmps.toList suf w->Fr cx w0 I0 F0 ⟨own,rs⟩ (fun _=>none) Eu () a.defers I F L w ->
   (∀ a' w' I' F' L' us rs',SR lp I' L' st2 a'.tmps.toList (us++suf) w'->Fr cx w0 I0 F0 ⟨own,rs'++rs⟩ (fun _=>none) Eu () a'.defers I' F' L' w'->Hy nt l us rs'->Q (DD x) a' w') ->
   c.wpIn (Ee none) 0 cx.P Q a w:=by
 have leaf:∀ (c:Code) (lp:Nat->Option Nat) (w0:World) (I0 F0 own:Nat->Prop) (rs:List Deferred) (suf:List Value) (st:St) (x:Ex) (st2:St) (l:List Nat),
   Gx (AQ M fuel (BO cx.P cx.G dd c) AP 0 st ())=some (x,st2,l)->Ref cx lp Eu AP 0 w0 I0 F0 ->
   ∀ (a:Act) (w:World) (I F:Nat->Prop) (L:AF) (Q:Exit->Act->World->Prop),SR lp I L st a.tmps.toList suf w->Fr cx w0 I0 F0 ⟨own,rs⟩ (fun _=>none) Eu () a.defers I F L w ->
    (∀ a' w' I' F' L' us rs',SR lp I' L' st2 a'.tmps.toList (us++suf) w'->Fr cx w0 I0 F0 ⟨own,rs'++rs⟩ (fun _=>none) Eu () a'.defers I' F' L' w'->Hy nt l us rs'->Q (DD x) a' w') ->
    c.wpIn (Ee none) 0 cx.P Q a w:=by
  intro c lp w0 I0 F0 own rs suf st x st2 l hev href a w I F L Q hs hf hQ;unfold Gx at hev;split at hev
  ·rename_i x' st' u hq;cases hev;exact S2 hM hsp hloc c Unit AP 0 Eu lp w0 I0 F0 ⟨own,rs⟩ (fun _=>none) suf none st () x st2 u hq href (fun _ h=>by cases h) a w I F L Q hs hf fun a' w' I' F' L' g1 g2=>hQ a' w' I' F' L' [] [] g1 g2 .nil
  ·cases hev
 intro c;induction c with
 | seq c1 c2 ih1 ih2 =>
  intro lp w0 I0 F0 own rs suf st x st2 l hev href a w I F L Q hs hf hQ;simp only[BO,Bk] at hev;refine wpIn_seq ?_;split at hev
  ·rename_i st3 l1 g1;split at hev
   case h_2=>cases hev
   rename_i x' st4 l2 g2;cases hev
   exact ih1 lp w0 I0 F0 own rs suf st .normal st3 l1 g1 href a w I F L _ hs hf fun a' w' I' F' L' us rs' hs' hf' hp =>
    ih2 lp w0 I0 F0 own (rs'++rs) (us++suf) st3 x st2 l2 g2 href a' w' I' F' L' Q hs' hf' fun a2 w2 I2 F2 L2 us2 rs2 hs2 hf2 hp2 =>
     hQ a2 w2 I2 F2 L2 (us2++us) (rs2++rs') (by rw[aR];exact hs2) (by rw[aR];exact hf2) (hp2.append hp)
  ·rename_i hne;refine ih1 lp w0 I0 F0 own rs suf st x st2 l hev href a w I F L _ hs hf fun a' w' I' F' L' us rs' hs' hf' hp=>?_;have:=hQ a' w' I' F' L' us rs' hs' hf' hp;cases x with
   | normal=>exact (hne _ _ hev).elim
   | exit id =>
    simp only[DD] at this |-;split<;>rename_i hid;·simp only[hid,if_true] at this;exact this
    ·simp only[hid,if_false] at this;exact this
   | ret=>exact this
 | cond c c1 c2 ih1 ih2 =>
  intro lp w0 I0 F0 own rs suf st x st2 l hev href a w I F L Q hs hf hQ;simp only[BO] at hev;split at hev
  ·rename_i rc hrc;simp only[Bk] at hev;have hc:=Bx hs hf.wd hrc;split at hev
   ·rename_i hb;rw[hb] at hc;exact wpIn_cond_true (Fx hc) (ih1 lp w0 I0 F0 own rs suf st x st2 l hev href a w I F L Q hs hf hQ)
   ·rename_i hb;rw[hb] at hc;exact wpIn_cond_false (Fx hc) (ih2 lp w0 I0 F0 own rs suf st x st2 l hev href a w I F L Q hs hf hQ)
   ·cases hev
  ·simp[Bk,AQ,Gx] at hev
 | block id c ih =>
  intro lp w0 I0 F0 own rs suf st x st2 l hev href a w I F L Q hs hf hQ;simp only[BO] at hev;split at hev
  case isFalse=>simp[Bk,AQ,Gx] at hev
  rename_i hidb;simp only[Bk] at hev;refine wpIn_block ?_;split at hev
  ·rename_i id' st3 l3 h1;refine ih lp w0 I0 F0 own rs suf st (.exit id') st3 l3 h1 href a w I F L _ hs hf fun a' w' I' F' L' us rs' hs' hf' hp=>?_;by_cases hid:id'=id
   ·rw[if_pos hid] at hev;cases hev;subst hid;simp only[DD,hidb,Exit.inBlock,if_true];exact hQ a' w' I' F' L' us rs' hs' hf' hp
   ·rw[if_neg hid] at hev;cases hev;have:=hQ a' w' I' F' L' us rs' hs' hf' hp;simp only[DD] at this |-;split<;>rename_i hid2;·simp only[hid2,if_true] at this;simp only[Exit.inBlock,hid,if_false];exact this
    ·simp only[hid2,if_false] at this;exact this
  ·rename_i hne;refine ih lp w0 I0 F0 own rs suf st x st2 l hev href a w I F L _ hs hf fun a' w' I' F' L' us rs' hs' hf' hp=>?_;have:=hQ a' w' I' F' L' us rs' hs' hf' hp;cases x with
   | normal=>exact this
   | exit id=>exact (hne _ _ _ hev).elim
   | ret=>exact this
 | scope c ih =>
  intro lp w0 I0 F0 own rs suf st x st2 l hev href a w I F L Q hs hf hQ
  have hev:Bk M fuel nt (.scope (BO cx.P cx.G dd c)) st=some (x,st2,l):=by
   have h:Bk M fuel nt (N5 c (BO cx.P cx.G dd c)) st=some (x,st2,l):=hev;unfold N5 at h;split at h;·exact h
   ·split at h
    ·exfalso;simp[Bk,Sw] at h
    ·exact h
  simp only[Bk] at hev;split at hev;·cases hev
  have key:Bk M fuel nt (BO cx.P cx.G dd c) st=some (x,st2,l)/\KZ x:=by
   split at hev
   ·rename_i id s3 e3 hq;split at hev;·rename_i hid;cases hev;exact⟨hq,hid⟩
    ·cases hev
   ·rename_i hne;refine⟨hev,?_⟩;cases x with
    | exit id=>exact (hne _ _ _ hev).elim
    | _=>trivial
  exact TR key.2 (ih lp w0 I0 F0 own rs suf st x st2 l key.1 href a w I F L _ hs hf fun a' w' I' F' L' us rs' hs' hf' hp=>⟨rfl,hQ a' w' I' F' L' us rs' hs' hf' hp⟩)
 | region id ops draw =>
  intro lp w0 I0 F0 own rs suf st x st2 l hev href a w I F L Q hs hf hQ;cases draw with
  | true =>
   refine leaf (.region id ops true) lp w0 I0 F0 own rs suf st x st2 l ?_ href a w I F L Q hs hf hQ;refine Su _ st _ ?_ hev;simp only[BO,if_true];refine Vh ?_;split<;>rfl
  | false =>
   cases hd:ops.toList.getLast?.bind (PS cx.G) with
   | none =>
    refine leaf (.region id ops false) lp w0 I0 F0 own rs suf st x st2 l ?_ href a w I F L Q hs hf hQ;refine Su _ st _ ?_ hev;simp only[BO,Z0,if_false,P1,hd];exact Vh rfl
   | some p =>
    obtain⟨f,args⟩:=p;simp only[BO,Z0,if_false,P1,hd] at hev;obtain⟨st4,hev,hst⟩:=YC hev;simp only[Bk] at hev;split at hev
    case h_2=>cases hev
    rename_i st3 u hr;obtain⟨hchk,hev2⟩:=Bn hev;clear hev;cases hev2;simp only[Z2,decide_eq_true_eq] at hchk;obtain⟨o,ho,hdo⟩:=aX.1 hd;obtain⟨c,fo,q1,q2,q3,q4,q5,q6⟩:=X3 hdo
    have hsplit:ops.toList=ops.toList.dropLast++[o]:=by
     have hne:ops.toList≠[]:=fun e=>by rw[e] at ho;cases ho
     obtain⟨l0,hl0⟩:=List.getLast?_eq_some_iff.1 ho;rw[hl0];simp
    have hm:ops.toList.length=ops.toList.dropLast.length+1:=by rw[hsplit];simp
    obtain⟨L',hs',hf'⟩:=NH (CX (ops.toList.dropLast.map (CU cx.P cx.G))) hs hf;refine wpIn_region ?_;have hr0:E5 M AP 0 (ops.toList.dropLast.map (CU cx.P cx.G)) ((ops.toList.dropLast.map (CU cx.P cx.G)).drop 0) (Fa (CX (ops.toList.dropLast.map (CU cx.P cx.G))) st) ()=some (st3,u):=by rw[bB];exact hr
    have hrun:=(TV 0 hr0).more (r2:=[CU cx.P cx.G o]);rw[bB,aL] at hrun
    have hmap:ops.toList.dropLast.map (CU cx.P cx.G)++[CU cx.P cx.G o]=ops.toList.map (CU cx.P cx.G):=by
     conv=>rhs;rw[hsplit]
     simp
    rw[hmap] at hrun
    have hrange:List.range ops.size=List.range ops.toList.dropLast.length++[ops.toList.dropLast.length]:=by
     rw[<-bx,hm,List.range_succ]
    rw[hrange];refine RA hM hsp href hrun hs' hf' fun a1 w1 I1 F1 L1 hs1 hf1=>?_
    have hget:ops[ops.toList.dropLast.length]?=some o:=by
     rw[<-bZ,hsplit];simp
    simp only[wpOpsIn,hget];have hwant:Region.wanted o (yielded ops a1.tmps)=true:=by simp[Region.wanted,q2]
    rw[if_pos hwant];have hfv:=Bx hs1 hf1.wd q5;have hargs:=PQ hs1 hf1.wd q6
    obtain⟨g,cap,hfn⟩:∃ g cap,f.ev st3.tmps=.fn g cap:=by
     have:=hchk.2;unfold isFn at this;split at this;·rename_i g cap hq;exact⟨g,cap,hq⟩
     ·cases this
    have hfv2:=hfv;rw[hfn] at hfv;obtain⟨fst,caps,hv,_,_⟩:=K4 hfv
    have hrunD:(execOp a1.eval o).run cx.P w1=.ok (.defer {target:=.fn (.func (AY g)) caps,args:=fst++(c.args.toList.map a1.eval).toArray}) w1:=by
     have harr:(c.args.toList.map a1.eval).toArray=c.args.map a1.eval:=by rw[<-cN,bt]
     simp[execOp,q1,resolve,q4,hv,Deferred.ofValue,harr]
    refine⟨fun _ _=>trivial,?_⟩;show o.uponIn (Ee none) 0 cx.P a1 _ Q ((execOp a1.eval o).run cx.P w1);rw[hrunD,Oper.uponIn_defer,q3];show wpOpsIn (Ee none) 0 cx.P ops Q [] _ w1;simp only[wpOpsIn]
    have hal:(c.args.toList.map a1.eval).length=args.length:=by
     have:=hargs.length;simpa using this.symm
    have hkp:Aq w1 I1 lp (some L1) (f.ev st3.tmps :: args.map (RX.ev st3.tmps)++List.replicate (nt - (f.ev st3.tmps :: args.map (RX.ev st3.tmps)).length) .undef++st3.keep)
      (.func (.func (AY g)) fst caps :: (c.args.toList.map a1.eval++List.replicate (nt - (f.ev st3.tmps :: args.map (RX.ev st3.tmps)).length) undef)++suf):=by
     have h1:Aq w1 I1 lp (some L1) (f.ev st3.tmps :: args.map (RX.ev st3.tmps)) (.func (.func (AY g)) fst caps :: c.args.toList.map a1.eval):=.cons _ _ _ _ (by rw[<-hv];exact hfv2) hargs;have h2:=(h1.append (Aq.undefs (nt - (f.ev st3.tmps :: args.map (RX.ev st3.tmps)).length) (List.replicate (nt - (f.ev st3.tmps :: args.map (RX.ev st3.tmps)).length) undef) (by simp))).append hs1.kp;simpa[aR] using h2
    have hs2:SR lp I1 L1 (Qm nt (f.ev st3.tmps :: args.map (RX.ev st3.tmps)) st3) a1.tmps.toList (.func (.func (AY g)) fst caps :: (c.args.toList.map a1.eval++List.replicate (nt - (f.ev st3.tmps :: args.map (RX.ev st3.tmps)).length) undef)++suf) w1 :=
     ⟨hs1.tm,hkp,hs1.ob,hs1.dom⟩
    have hf2:Fr cx w0 I0 F0 ⟨own,[{target:=.fn (.func (AY g)) caps,args:=fst++(c.args.toList.map a1.eval).toArray}]++rs⟩ (fun _=>none) Eu () ({target:=.fn (.func (AY g)) caps,args:=fst++(c.args.toList.map a1.eval).toArray} :: a1.defers) I1 F1 L1 w1 :=
     ⟨hf1.ext,hf1.sep,hf1.oF,hf1.lB,hf1.inj,hf1.wd,hf1.re,.call _ _ _ (fun D h=>by cases h) hf1.mks,hf1.hld⟩
    obtain⟨L2,t1,t2⟩:∃ L2,SR lp I1 L2 st2 a1.tmps.toList (.func (.func (AY g)) fst caps :: (c.args.toList.map a1.eval++List.replicate (nt - (f.ev st3.tmps :: args.map (RX.ev st3.tmps)).length) undef)++suf) w1 /\
      Fr cx w0 I0 F0 ⟨own,[{target:=.fn (.func (AY g)) caps,args:=fst++(c.args.toList.map a1.eval).toArray}]++rs⟩ (fun _=>none) Eu () ({target:=.fn (.func (AY g)) caps,args:=fst++(c.args.toList.map a1.eval).toArray} :: a1.defers) I1 F1 L2 w1:=by
     obtain⟨L2,t1,t2⟩:=PF (dd id).lv hs2 hf2;rcases hst with rfl | ⟨_,g',rfl⟩;·exact⟨L2,t1,t2⟩
     ·obtain⟨L3,t3,t4⟩:=SJ t1 t2;exact NQ [] g' t3 t4
    refine hQ _ w1 I1 F1 L2 (.func (.func (AY g)) fst caps :: (c.args.toList.map a1.eval++List.replicate (nt - (f.ev st3.tmps :: args.map (RX.ev st3.tmps)).length) undef)) [_] t1 t2 ?_;have hp:=Hy.cons (nt:=nt) args.length [] [] (List.replicate (nt - (f.ev st3.tmps :: args.map (RX.ev st3.tmps)).length) undef) [] (.func (AY g)) fst caps (c.args.toList.map a1.eval) hal (by simp;omega) .nil;simpa using hp
 | skip=>intro lp w0 I0 F0 own rs suf st x st2 l hev;exact leaf .skip lp w0 I0 F0 own rs suf st x st2 l hev
 | loop c _ =>
  intro lp w0 I0 F0 own rs suf st x st2 l hev;refine leaf (.loop c) lp w0 I0 F0 own rs suf st x st2 l (Su _ st _ ?_ hev);simp only[BO,Qp];split
  ·rename_i hp;simp only[Z2] at hp;simp[DP,hp.2]
  ·rfl
 | rangeFunc f ps asg b _ _ =>
  intro lp w0 I0 F0 own rs suf st x st2 l hev
  exact leaf (.rangeFunc f ps asg b) lp w0 I0 F0 own rs suf st x st2 l (by
   rw[<-hev];simp only[BO];split
   ·unfold S9;split;·rfl
    ·exact (seq_leaf _ _ _ _ _ _).symm
   ·rfl)
 | exit id=>intro lp w0 I0 F0 own rs suf st x st2 l hev;exact leaf (.exit id) lp w0 I0 F0 own rs suf st x st2 l (by rw[<-hev];simp only[BO];split<;>rfl)
 | label n=>intro lp w0 I0 F0 own rs suf st x st2 l hev;exact leaf (.label n) lp w0 I0 F0 own rs suf st x st2 l hev
 | goto n=>intro lp w0 I0 F0 own rs suf st x st2 l hev;exact leaf (.goto n) lp w0 I0 F0 own rs suf st x st2 l hev
 | ret=>intro lp w0 I0 F0 own rs suf st x st2 l hev;exact leaf .ret lp w0 I0 F0 own rs suf st x st2 l hev
 | refuse s=>intro lp w0 I0 F0 own rs suf st x st2 l hev;exact leaf (.refuse s) lp w0 I0 F0 own rs suf st x st2 l hev
theorem TF {P:Program} {F:Fence} {k:Nat} {fn:Func} {tmps:Array Value} {R:Ending->World->Prop} {cs:List Frame}:∀ (ds:List Deferred) (w:World) (fr:Frame),
  fr.mode=.returning->fr.defers=ds->F.fn fr.fn->F.room (cs.length+1+k)->(∀ d∈ds,∃ r,d.target=.collected r)->LeavesInM F k P fn tmps R ds .returning w ->
  ∃ v w',StepsIn (Machine.fenced P F) P (lone fr cs w) (lone {fr with defers:=[]} cs w')/\(results fn tmps).run P w'=.ok v w'/\R (.returned v) w':=by
 intro ds;induction ds with
 | nil =>
  intro w fr hm hd _ _ _ h;obtain⟨v,h1,h2⟩:=h;refine⟨v,w,?_,h1,h2⟩;have:({fr with defers:=[]}:Frame)=fr:=by rw[<-hd]
  rw[this];exact StepsIn.refl _
 | cons d ds ih =>
  intro w fr hm hd hb hroom hall h;obtain⟨hrun,h⟩:=h;obtain⟨r,hr⟩:=hall d aq;rcases h with ⟨r',w',htar,htake,hrest⟩ | ⟨_,fv,cap,f,args,htar,_⟩
  ·have hm':fr.mode≠.run:=by rw[hm];simp
   have h1:=step_collected (cs:=cs) hm' hd htar htake;have i1:(lone fr cs w).fenced P F:=fenced_out hb hroom hm' hd (fun g hg=>by rw[htar] at hg;simp[Target.leads] at hg);obtain⟨v,w'',g1,g2,g3⟩:=ih w' {fr with defers:=[]++ds} hm rfl hb hroom (fun d hd=>hall d (ap _ hd)) hrest;exact⟨v,w'',.head i1 h1 g1,g2,g3⟩
  ·rw[hr] at htar;cases htar
def ZV (F:Fence) (n:Nat) (P:Program) (fn:Func) (R:Ending->World->Prop):Exit->Act->World->Prop
 | .normal,a,w | .ret,a,w=>(∀ d∈a.defers,∃ r,d.target=.collected r)/\LeavesInM F n P fn a.tmps R a.defers .returning w
 | _,_,_=>False
theorem Xo {P:Program} {F:Fence} {n:Nat} {f:FuncId} {fn:Func} {c:Code} {args:Array Value} {u:FrameMode} {w:World} {R:Ending->World->Prop}
  (hf:P.funcs[f]?=some fn) (hb:fn.body=some c) (hF:F.fn f)
  (h:c.wpIn F n P (ZV F n P fn R) {tmps:=args++Array.replicate (fn.ntmps - args.size) undef,defers:=[]} w) (hro:F.round=none:=by rfl) :
  CallsDIn F n P f args u w fun e u' w'=>u'=u/\R e w':=by
 refine⟨hF,fun c₀ cs hu hr=>?_⟩
 let b:Frame:={(default:Frame) with fn:=f,kind:=.deferred,roundOf:=none}
 have henter:Frame.enter P f args .deferred =
   b.atR {tmps:=args++Array.replicate (fn.ntmps - args.size) undef,defers:=[]} [.code c]:=by
  simp[Frame.enter,Frame.atR,hf,hb,b]
 have hc:({c₀ with mode:=u}:Frame)=c₀:=by subst hu;rfl
 obtain⟨e,a',w',hq,harr⟩:=h b [] (c₀ :: cs) hro.symm hF hr;rw[<-henter] at harr;cases e with
 | normal =>
  obtain⟨hm,hl⟩:=hq;obtain⟨v,w'',g1,g2,g3⟩:=TF a'.defers w' {b.atR a' [] with mode:=.returning} rfl rfl hF hr hm hl;exact⟨.returned v,u,w'',_,⟨rfl,g3⟩,(by rw[hc];exact StepsIn.trans (StepsIn.trans harr (.one (fenced_calm (fr:=b.atR a' []) hF hr rfl) (stepR_end rfl))) g1),rfl,rfl,rfl,rfl,fn,hf,g2⟩
 | ret =>
  obtain⟨hm,hl⟩:=hq;obtain⟨todo,hs⟩:=harr.1 rfl;obtain⟨v,w'',g1,g2,g3⟩:=TF a'.defers w' {b.atR a' todo with mode:=.returning} rfl rfl hF hr hm hl;exact⟨.returned v,u,w'',_,⟨rfl,g3⟩,(by rw[hc];exact StepsIn.trans hs g1),rfl,rfl,rfl,rfl,fn,hf,g2⟩
 | panic chain=>exact hq.elim
 | exit id=>exact hq.elim
 | goto l=>exact hq.elim
 | outgrown=>exact hq.elim
def Q4 (cx:Cx) (M:Bf):Prop :=
 ∀ (g:FuncId) (d0:Nat) (st:St) (vs:List PV) (out:AO),M.flat g=true->M.io g d0 (Ak st.objs) vs=some out->CT cx.P g /\
  ∀ (E:Type) (w0:World) (I0 F0:Nat->Prop) (O0:B9) (Hd:Nat->Option Obj) (R:BV E) (e:E) (ds:List Deferred) (I F:Nat->Prop) (lp:Nat->Option Nat) (L:AF) (tmv suf us:List Value) (w:World) (u:FrameMode),
   SR lp I L st tmv suf w->Fr cx w0 I0 F0 O0 Hd R e ds I F L w->Aq w I lp (some L) vs us->(out.new=[]\/out.slot.isSome=true) ->
   CallsDIn Fence.wide 0 cx.P g us.toArray u w fun en u' w'=>u'=u/\match en with
    | .returned _=>∃ I' L',SR lp I' L' (apply st none out) tmv suf w'/\Fr cx w0 I0 F0 O0 Hd R e ds I' F L' w'
    | _=>False
theorem Fr.unmark {E:Type} {w0 w:World} {I0 F0 I F:Nat->Prop} {O0:B9} {Hd:Nat->Option Obj} {R:BV E} {e:E} {ds:List Deferred} {L:AF} {D:Nat} (hHd:∀ b,Hd b=none)
  (hf:Fr cx w0 I0 F0 O0 Hd R e ({target:=.collected D,args:=#[]} :: ds) I F L w) :
  w.heap[D]?=some (.deferred (some []))/\¬ I D/\(∀ nm C,L nm≠some (some (D,C)))/\Fr cx w0 I0 F0 O0 Hd R e ds I F L (w.putObj D (.deferred none)):=by
 obtain⟨rs,hrs⟩:∃ rs,rs=O0.dfs:=⟨_,rfl⟩;have hm:=hf.mks;rw[<-hrs] at hm;cases hm with
 | call d ds rs hd h=>exact absurd rfl (hd D)
 | cons D' ds' rs' h1 h2 h3 h4 h5 h6 h7 hr =>
  have hk:∀ b,b≠D->(w.putObj D (.deferred none)).heap[b]?=w.heap[b]?:=fun b hb=>World.putObj_heap_other hb;have hsz:(w.putObj D (.deferred none)).heap.size=w.heap.size:=World.putObj_size
  refine⟨h6,h3,h5,⟨hf.ext.os,hf.ext.tape,hf.ext.output,by rw[hsz];exact hf.ext.size,fun b hb hF=>?_,hf.ext.subI,hf.ext.newI,hf.ext.newF⟩,⟨fun b hb=>by rw[hsz];exact hf.sep.iB b hb,fun b hb=>⟨by rw[hsz];exact (hf.sep.fB b hb).1,(hf.sep.fB b hb).2⟩⟩,hf.oF,
   fun nm b C hn=>⟨(hf.lB nm b C hn).1,by rw[hsz];exact (hf.lB nm b C hn).2.1,(hf.lB nm b C hn).2.2⟩,hf.inj,?_,?_,?_,?_⟩
  ·have hne:b≠D:=fun e=>by omega
   exact (hk b hne).trans (hf.ext.keep b hb hF)
  ·exact cx.stab I I w _ hf.wd (fun _ h=>h) (fun b hb=>hk b fun e=>h3 (e ▸ hb)) (by rw[hsz];exact Z5 _)
  ·exact R.stab e I I F w _ hf.re (fun _ h=>h) (fun b hb=>hk b fun e=>hb.elim (fun h=>h3 (e ▸ h)) fun h=>h4 (e ▸ h)) (by rw[hsz];exact Z5 _)
  ·have key:∀ ds rs,DC w0.heap.size I F L w ds rs->(∀ d∈ds,d.target≠.collected D)->DC w0.heap.size I F L (w.putObj D (.deferred none)) ds rs:=by
    intro ds rs hm;induction hm with
    | nil=>intro _;exact .nil
    | call d' ds rs hd _ ih=>intro hne;exact .call d' ds rs hd (ih fun d hd=>hne d (ap _ hd))
    | cons D' ds rs g1 g2 g3 g4 g5 g6 g7 _ ih =>
     intro hne;have hDD:D'≠D:=fun e=>hne {target:=.collected D',args:=#[]} aq (by rw[e]);exact .cons D' ds rs g1 (by rw[hsz];exact g2) g3 g4 g5 ((hk D' hDD).trans g6) g7 (ih fun d hd=>hne d (ap _ hd))
   rw[<-hrs];exact key ds _ hr h7
  ·intro b ob hb;rw[hHd b] at hb;cases hb
theorem Ux (hiod:Q4 cx M) {fn:Func} {tmps:Array Value} {Rr:Ending->World->Prop} {w0:World} {I0 F0 own:Nat->Prop} {lp:Nat->Option Nat} {suf:List Value} {st2:St}:∀ (ds:List Deferred) (rs:List Deferred) (l:List Nat) (us:List Value) (st:St) (w:World) (I F:Nat->Prop) (L:AF),
  SR lp I L st tmps.toList (us++suf) w->Fr cx w0 I0 F0 ⟨own,rs⟩ (fun _=>none) Eu () ds I F L w->Hy nt l us rs->G3 M nt l st=some st2 ->
  (∀ w2 I2 F2 L2,SR lp I2 L2 st2 tmps.toList suf w2->Fr cx w0 I0 F0 ⟨own,[]⟩ (fun _=>none) Eu () [] I2 F2 L2 w2->∃ v,(results fn tmps).run cx.P w2=.ok v w2/\Rr (.returned v) w2) ->
  LeavesInM Fence.wide 0 cx.P fn tmps Rr ds .returning w:=by
 intro ds;induction ds with
 | nil =>
  intro rs l us st w I F L hs hf hp hd h;have hm:=hf.mks;cases hm;cases hp;cases hd;exact h w I F L hs hf
 | cons d ds ih =>
  intro rs l us st w I F L hs hf hp hd h;cases hm:hf.mks with
  | cons D _ _ h1 h2 h3 h4 h5 h6 h7 hr =>
   obtain⟨q1,q2,q3,q4⟩:=hf.unmark fun _=>rfl;exact⟨by simp,.inl ⟨D,_,rfl,run_takeDeferred q1,ih rs l us st _ I F L (hs.hput _ q2 q3) q4 hp hd h⟩⟩
  | call _ _ rs' hdt hr =>
   cases hp with
   | cons k l' us' pad _ fv fst caps args hk hn hp' =>
    unfold G3 at hd;have hkp:=hs.kp;have h0:=hkp.getD 0 undef;split at hd
    case h_2=>cases hd
    rename_i f cap hfv;rw[hfv] at h0;have e0:(Value.func fv fst caps :: (args++pad)++us'++suf).getD 0 undef=.func fv fst caps:=rfl;rw[e0] at h0;obtain⟨us0,vs0,hv,hfk,hcap⟩:=K4 h0;cases hv;split at hd;·cases hd
    split at hd
    case isFalse=>cases hd
    rename_i hflat
    simp only[Z2] at hflat
    split at hd
    case h_2=>cases hd
    rename_i out hout;obtain⟨hnew,hd⟩:=Bn hd
    have hargs:Aq w I lp (some L) ((st.keep.drop 1).take k) args:=by
     have:=(hkp.drop 1).take k
     have e:((Value.func (.func (AY f)) fst caps :: (args++pad)++us'++suf).drop 1).take k=args:=by
      simp[aR,<-hk]
     rwa [e] at this
    have hall:=RJ hfk hcap hargs
    have hkeep:Aq w I lp (some L) (st.keep.drop nt) (us'++suf):=by
     have:=hkp.drop nt
     have e:(Value.func (.func (AY f)) fst caps :: (args++pad)++us'++suf).drop nt=us'++suf:=by
      have e2:(Value.func (.func (AY f)) fst caps :: (args++pad)++us'++suf)=(Value.func (.func (AY f)) fst caps :: (args++pad))++(us'++suf):=by simp[aR]
      rw[e2,de (by simp;omega),aU (by simp;omega)];rfl
     rwa [e] at this
    have hs1:SR lp I L {st with keep:=st.keep.drop nt} tmps.toList (us'++suf) w:=⟨hs.tm,hkeep,hs.ob,hs.dom⟩;have hf1:Fr cx w0 I0 F0 ⟨own,rs'⟩ (fun _=>none) Eu () ds I F L w:=⟨hf.ext,hf.sep,hf.oF,hf.lB,hf.inj,hf.wd,hf.re,hr,hf.hld⟩;obtain⟨q1,q2⟩:=hiod (AY f) 0 {st with keep:=st.keep.drop nt} _ out hflat.2 hout;have hnew:out.new=[]\/out.slot.isSome=true:=by simpa using hnew
    have hcall:=q2 Unit w0 I0 F0 ⟨own,rs'⟩ (fun _=>none) Eu () ds I F lp L tmps.toList (us'++suf) _ w .returning hs1 hf1 hall hnew;obtain⟨fnG,e1,e2,e3⟩:=q1;have hb:¬ fnG.body=none:=by intro h;rw[h] at e3;cases e3
    have hname:¬ fnG.name = "runtime.NumGoroutine":=by intro h;rw[h] at e2;simp at e2
    have harr:(fst.toList++(args++caps.toList)).toArray=fst++args.toArray++caps:=by simp[Array.append_assoc]
    refine⟨by simp,.inr ⟨fun h=>by simp[Fence.wide] at h,.func (AY f),caps,AY f,fst++args.toArray++caps,rfl,by simp[invoke,callFunc,e1,hname,hb],fun _ _=>trivial,?_⟩⟩;rw[harr] at hcall;refine hcall.mono fun en u' w' hq=>?_;obtain⟨rfl,hq⟩:=hq;cases en with
    | returned v =>
     obtain⟨I',L',g1,g2⟩:=hq;exact ih rs' l' us' _ w' I' F L' g1 g2 hp' hd h
    | panicked chain=>exact hq.elim
    | outgrown=>exact hq.elim
end
end Go.Ab


namespace Go.Ab
section
variable {w:World} {I:Nat->Prop} {lp lp':Nat->Option Nat}
theorem Aq.narrow {L L':AF} {xs:List PV} {vs:List Value} (h:Aq w I lp (some L) xs vs) (hn:∀ nm∈AR xs,∀ p,L nm=some p->L' nm=some p):Aq w I lp (some L') xs vs:=by
 have hs:EE w I lp L (some L') (fun nm=>nm∈AR xs) (fun _=>none):=fun nm p hS hp=>⟨L',rfl,hn nm hS p hp⟩;have:=Aq.subst (fun _ h=>h) hs h fun _ h=>h
 rwa [Go.Ab.subL_id] at this
theorem BF.narrow {L L':AF} {ob:Ob} {p:Option (Nat×Nat)} (h:BF w I lp L ob p) (hn:∀ nm∈ob.names,∀ p,L nm=some p->L' nm=some p):BF w I lp L' ob p:=by
 have hs:EE w I lp L (some L') (fun nm=>nm∈ob.names) (fun _=>none):=fun nm p hS hp=>⟨L',rfl,hn nm hS p hp⟩;have:=BF.subst h (fun _ h=>h) (fun _ _=>rfl) hs (fun _ h=>h) fun _ _ _=>rfl
 rwa [Ob.sub_id] at this
theorem BF.noY {L:AF} {ob:Ob} {p:Option (Nat×Nat)} (h:BF w I lp L ob p) (hy:ob.hasY=false):BF w I lp' L ob p:=by
 cases p with
 | none=>exact h
 | some p =>
  cases ob with
  | cells ty cs=>obtain⟨c,E,h1,h2,h4,h3⟩:=h;exact⟨c,E,h1,h2,h4,h3.noY hy⟩
  | arr k kt xs=>obtain⟨c,E,h1,h2,h3,h4,h6,h5⟩:=h;exact⟨c,E,h1,h2,h3,h4,h6,h5.noY (Rs (w:=w) (I:=I) (lp:=lp) (lp':=lp') xs hy)⟩
  | map es=>obtain⟨c,E,h1,h2⟩:=h;exact⟨c,E,h1,h2.noY hy⟩
  | siter s pos=>exact h
def GeP:Option (Nat×Nat)->Option (Nat×Nat)->Prop
 | none,none=>True
 | some (b,C),some (b',C')=>b'=b/\C<=C'
 | _,_=>False
def Ke (L L':AF):Prop:=∀ nm p,L nm=some p->∃ p',L' nm=some p'/\GeP p p'
theorem GeP.refl (p:Option (Nat×Nat)):GeP p p:=by
 cases p with
 | none=>trivial
 | some p=>exact⟨rfl,Z5 _⟩
theorem Ke.at {L L':AF} (h:Ke L L') {nm:Nm} {b C:Nat} (hn:L nm=some (some (b,C))):∃ C',L' nm=some (some (b,C'))/\C<=C':=by
 obtain⟨p,h1,h2⟩:=h nm _ hn;cases p with
 | none=>exact h2.elim
 | some p=>obtain⟨b',C'⟩:=p;obtain⟨rfl,h3⟩:=h2;exact⟨C',h1,h3⟩
theorem Ke.atN {L L':AF} (h:Ke L L') {nm:Nm} (hn:L nm=some none):L' nm=some none:=by
 obtain⟨p,h1,h2⟩:=h nm _ hn;cases p with
 | none=>exact h1
 | some p=>exact h2.elim
mutual
theorem Aw.ge {L L':AF} {x:PV} {v:Value}:Aw w I lp (some L) x v->Ke L L'->Aw w I lp (some L') x v
 | .undef v,_=>.undef v
 | .bool b,_=>.bool b
 | .int k n,_=>.int k n
 | .str s,_=>.str s
 | .nilS,_=>.nilS
 | .nilP,_=>.nilP
 | .nilF,_=>.nilF
 | .nilI,_=>.nilI
 | .nilM,_=>.nilM
 | .slE k full a cap hf,_=>.slE k full a cap hf
 | .sl k xs full b off cap c E fr h1 h2 h3 h4 h5 h6 h8 h7,_=>.sl k xs full b off cap c E fr h1 h2 h3 h4 h5 h6 h8 h7
 | .ptr cs o b off c E fr h1 h2 h3 h4 h8 h5,_=>.ptr cs o b off c E fr h1 h2 h3 h4 h8 h5
 | .agg cs vs h1 h,e=>.agg cs vs h1 (h.ge e)
 | .iface t x v h,e=>.iface t x v (h.ge e)
 | .fn f cs us vs hk h,e=>.fn f cs us vs hk (h.ge e)
 | .yld d l h,_=>.yld d l h
 | .tup xs vs h,e=>.tup xs vs (h.ge e)
 | .imap es r ents clock h1 h2 h3,_=>.imap es r ents clock h1 h2 h3
 | .glob g t x c E fr h1 h2 h3,_=>.glob g t x c E fr h1 h2 h3
 | .ref nm o b C h,e=>let ⟨C',h',_⟩:=e.at h;.ref nm o b C' h'
 | .aref nm k i o b C h,e=>let ⟨C',h',_⟩:=e.at h;.aref nm k i o b C' h'
 | .arr nm k o n cap b C h hC hn,e=>let ⟨C',h',hle⟩:=e.at h;.arr nm k o n cap b C' h' (ci hC hle) hn
 | .arrN nm k h,e=>.arrN nm k (e.atN h)
 | .mp nm b C h,e=>let ⟨C',h',_⟩:=e.at h;.mp nm b C' h'
 | .it nm b C h,e=>let ⟨C',h',_⟩:=e.at h;.it nm b C' h'
theorem Aq.ge {L L':AF} {xs:List PV} {vs:List Value}:Aq w I lp (some L) xs vs->Ke L L'->Aq w I lp (some L') xs vs
 | .nil,_=>.nil
 | .cons x v xs vs h hs,e=>.cons x v xs vs (h.ge e) (hs.ge e)
end
theorem BF.ge {L L':AF} {ob:Ob} {p:Option (Nat×Nat)} (h:BF w I lp L ob p) (e:Ke L L'):BF w I lp L' ob p:=by
 cases p with
 | none=>exact h
 | some p =>
  cases ob with
  | cells ty cs=>obtain⟨c,E,h1,h2,h4,h3⟩:=h;exact⟨c,E,h1,h2,h4,h3.ge e⟩
  | arr k kt xs=>exact h
  | map es=>exact h
  | siter s pos=>exact h
theorem Aq.of_get {L:Option AF}:∀ {xs:List PV} {vs:List Value},xs.length=vs.length->(∀ (i:Nat) (x:PV) (v:Value),xs[i]?=some x->vs[i]?=some v->Aw w I lp L x v)->Aq w I lp L xs vs:=by
 intro xs;induction xs with
 | nil=>intro vs h _;cases vs with | nil=>exact .nil | cons v vs=>simp at h
 | cons x xs ih =>
  intro vs h hg;cases vs with
  | nil=>simp at h
  | cons v vs=>exact .cons _ _ _ _ (hg 0 x v rfl rfl) (ih (by simpa using h) fun i y u hy hu=>hg (i+1) y u (by simpa using hy) (by simpa using hu))
end
theorem RF:∀ {l:List Nm} {x:Nm},x∈DU l↔x∈l:=by
 intro l;induction l with
 | nil=>intro x;simp[DU]
 | cons y l ih =>
  intro x;simp only[DU];split
  ·rename_i h;have hy:y∈l:=by simpa using h
   rw[ih,Z7];exact⟨.inr,fun h=>h.elim (fun e=>e ▸ hy) id⟩
  ·rw[Z7,Z7,ih]
theorem ZQ:∀ {l:List Nm} (i j:Nat) (x:Nm),(DU l)[i]?=some x->(DU l)[j]?=some x->i=j:=by
 intro l;induction l with
 | nil=>intro i j x h;simp[DU] at h
 | cons y l ih =>
  intro i j x hi hj;simp only[DU] at hi hj;split at hi
  ·rename_i h;rw[if_pos h] at hj;exact ih i j x hi hj
  ·rename_i h;rw[if_neg h] at hj;have hy:y ∉ DU l:=fun hm=>h (by simpa using RF.1 hm);cases i with
   | zero =>
    cases j with
    | zero=>rfl
    | succ j=>simp at hi hj;subst hi;exact absurd (aj hj) hy
   | succ i =>
    cases j with
    | zero=>simp at hi hj;subst hj;exact absurd (aj hi) hy
    | succ j=>simp at hi hj;rw[ih i j x hi hj]
theorem idx_get {l:List Nm} {x:Nm} (h:x∈l):l[l.idxOf x]?=some x:=by
 have hidx:=List.idxOf_lt_length_of_mem h;rw[ab hidx];simp
theorem R2:∀ {B:List (Nm×Nm)} {s t:Nm},D6 (B.map (·.1))=true->(s,t)∈B->B.lookup s=some t:=by
 intro B;induction B with
 | nil=>intro s t _ h;cases h
 | cons p B ih =>
  obtain⟨a,b⟩:=p;intro s t hn h;simp only[ZZ,D6,Z2,bC] at hn;rcases Z7.1 h with h2 | h2;·cases h2;simp
  ·have hne:s≠a:=by
    rintro rfl;have:(B.map (·.1)).contains s=true:=by rw[bk];exact Z4.2 ⟨(s,t),h2,rfl⟩
    rw[this] at hn;cases hn.1
   have hb:(s==a)=false:=by simpa using hne
   rw[cG,hb];exact ih hn.2 h2
theorem ZF {B:List (Nm×Nm)} (hn:D6 (B.map (·.1))=true) {s t t':Nm} (h:(s,t)∈B) (h':(s,t')∈B):t=t':=by
 have:=(R2 hn h).symm.trans (R2 hn h');exact cf this
theorem Ys:∀ (l:List (Nm×Ob)) (objs:List (List Ob)) (t:Nm),(∀ p∈l,∃ o,Ak objs p.1=some o) ->
  (∀ o,(∀ o',(t,o')∈l->o'=o)->(t,o)∈l->Ak (FE l objs) t=some o)/\((∀ o,(t,o) ∉ l)->Ak (FE l objs) t=Ak objs t):=by
 intro l;induction l with
 | nil=>intro objs t _;exact⟨fun o _ h=>(by cases h),fun _=>rfl⟩
 | cons p l ih =>
  obtain⟨nm,ob⟩:=p;intro objs t hx
  have hx':∀ p∈l,∃ o,Ak (Bl objs nm ob) p.1=some o:=by
   intro p hp;cases hl:Ak (Bl objs nm ob) p.1 with
   | some o=>exact⟨o,rfl⟩
   | none =>
    obtain⟨o,ho⟩:=hx p (ap _ hp);rw[Jd] at hl;rw[ho] at hl;cases hl
  obtain⟨i1,i2⟩:=ih (Bl objs nm ob) t hx';refine⟨fun o hu ho=>?_,fun hno=>?_⟩
  ·by_cases hl:∃ o',(t,o')∈l
   ·obtain⟨o',ho'⟩:=hl;have:=hu o' (ap _ ho');subst this;exact i1 o' (fun o2 h2=>hu o2 (ap _ h2)) ho'
   ·have hnl:∀ o',(t,o') ∉ l:=fun o' h=>hl ⟨o',h⟩;rcases Z7.1 ho with he | he
    ·have e1:t=nm:=congrArg Prod.fst he;have e2:o=ob:=congrArg Prod.snd he;subst e1;subst e2;obtain⟨o0,h0⟩:=hx (t,o) aq;have:=i2 hnl;exact this.trans (Ko o h0)
    ·exact absurd he (hnl o)
  ·have hne:t≠nm:=by rintro rfl;exact hno ob aq
   show Ak (FE l (Bl objs nm ob)) t=Ak objs t;rw[i2 fun o h=>hno o (ap _ h),Hz ob hne]
noncomputable def DY (L L':AF) (B:List (Nm×Nm)):AF:=fun t =>
 open Classical in if h:∃ s,(s,t)∈B then some ((L' h.choose).getD none) else L t
theorem We {L L':AF} {B:List (Nm×Nm)} (hU:∀ s s' t,(s,t)∈B->(s',t)∈B->s=s') {s t:Nm} (h:(s,t)∈B):DY L L' B t=some ((L' s).getD none):=by
 unfold DY;have hx:∃ s,(s,t)∈B:=⟨s,h⟩;rw[dif_pos hx,hU _ _ t hx.choose_spec h]
theorem locIo_out {L L':AF} {B:List (Nm×Nm)} {t:Nm} (h:∀ s,(s,t) ∉ B):DY L L' B t=L t:=by
 unfold DY;rw[dif_neg fun ⟨s,hs⟩=>h s hs]
def ED (B:List (Nm×Nm)) (m:Nm):Option (Option Ob):=if (B.map (·.1)).contains m then none else some none
def Ez (B:List (Nm×Nm)) (m:Nm):Nm:=(B.lookup m).getD m
theorem mem_first {B:List (Nm×Nm)} {m:Nm}:(B.map (·.1)).contains m=true↔∃ t,(m,t)∈B:=by
 rw[bk,Z4];constructor;·rintro ⟨⟨a,b⟩,h1,rfl⟩;exact⟨b,h1⟩
 ·rintro ⟨t,h⟩;exact⟨(m,t),h,rfl⟩
section take
variable {w:World} {I:Nat->Prop} {lp:Nat->Option Nat} {L L':AF} {B:List (Nm×Nm)}
theorem cut_ok (hn:D6 (B.map (·.1))=true) (hU:∀ s s' t,(s,t)∈B->(s',t)∈B->s=s'):EE w I lp L' (some fun m=>if (B.map (·.1)).contains m then L' m else none) (fun _=>True) (ED B):=by
 intro nm p _ hp;by_cases h:(B.map (·.1)).contains nm=true
 ·simp only[ED,h,if_true];exact⟨_,rfl,by simp only[h,if_true];exact hp⟩
 ·simp only[ED,h];trivial
theorem WU (hn:D6 (B.map (·.1))=true) (hU:∀ s s' t,(s,t)∈B->(s',t)∈B->s=s') (nm:Nm) (p:Option (Nat×Nat)) (hp:(fun m=>if (B.map (·.1)).contains m then L' m else none) nm=some p):DY L L' B (Ez B nm)=some p:=by
 simp only at hp;split at hp
 ·rename_i h;obtain⟨t,ht⟩:=mem_first.1 h;have hl:Ez B nm=t:=by unfold Ez;rw[R2 hn ht];rfl
  rw[hl,We hU ht,hp];rfl
 ·cases hp
theorem take_val (hn:D6 (B.map (·.1))=true) (hU:∀ s s' t,(s,t)∈B->(s',t)∈B->s=s') {x:PV} {v:Value} (h:Aw w I lp (some L') x v):Aw w I lp (some (DY L L' B)) ((x.sub (ED B)).ren (Ez B)) v :=
 Aw.rename (WU hn hU) (Aw.subst (fun _ h=>h) (cut_ok hn hU) h fun _ _=>trivial)
theorem take_ob (hn:D6 (B.map (·.1))=true) (hU:∀ s s' t,(s,t)∈B->(s',t)∈B->s=s') {ob:Ob} {p:Option (Nat×Nat)} (h:BF w I lp L' ob p):BF w I lp (DY L L' B) ((ob.sub (ED B)).ren (Ez B)) p :=
 BF.ren (BF.subst h (fun _ h=>h) (fun _ _=>rfl) (cut_ok hn hU) (fun _ _=>trivial) fun _ _ _=>rfl) (WU hn hU)
end take
def putP (tm:List PV) (dst:Option Nat) (v:PV):List PV :=
 match dst with
 | some d=>tm.set d v
 | none=>tm
section done
variable {E:Type} {cx:Cx} {w0:World} {I0 F0:Nat->Prop} {O0:B9} {Hd:Nat->Option Obj} {RE:BV E} {e:E} {ds:List Deferred} {I F I':Nat->Prop} {lp lp':Nat->Option Nat} {L L':AF} {st st2:St} {tmv tmv2 suf wv:List Value} {w w2:World}
theorem io_taken {d0 i0:Nat} {sl dst:Option Nat} {R N:List Nm} {aN:Nat->Nm} {gone:List Nm} {v0:PV} {v:Value}
  (hs:SR lp I L st tmv suf w) (hf:Fr cx w0 I0 F0 O0 Hd RE e ds I F L w) (hlp:lpLe lp' lp)
  (hd:∀ d,dst=some d->st.objs[d]?=some []/\(sl=none->d=d0)) (hsl:∀ r,sl=some r->r=d0) (hlen:N≠[]->∃ l,st.objs[d0]?=some l/\l.length=i0) (hnew:sl=none->dst=none->N=[])
  (hR:∀ nm∈R,∃ p,L nm=some p) (hRn:∀ (i j:Nat) nm,R[i]?=some nm->R[j]?=some nm->i=j)
  (hs2:SR lp' I' L' st2 tmv2 wv w2) (hv:Aw w2 I' lp' (some L') v0 v)
  (x1:w2.os=w.os) (x2:w2.tape=w.tape) (x3:w2.output=w.output) (x4:w.heap.size<=w2.heap.size)
  (x5:∀ b,b < w.heap.size->(∀ nm C,nm∈R->L nm≠some (some (b,C)))->w2.heap[b]?=w.heap[b]?) (x6:∀ b,I b->I' b)
  (x7:∀ b,I' b->I b\/(b < w2.heap.size/\(w.heap.size<=b\/∃ nm C,nm∈R/\L nm=some (some (b,C)))))
  (x8:∀ nm b C,L' nm=some (some (b,C))->b < w2.heap.size/\¬ I' b/\(w.heap.size<=b\/∃ nm' C',nm'∈R/\L nm'=some (some (b,C'))))
  (x9:∀ nm nm' b C C',L' nm=some (some (b,C))->L' nm'=some (some (b,C'))->nm=nm')
  (hB:D6 (((R.zipIdx.map fun p=>(aN p.2,p.1))++N.zipIdx.map fun p=>(p.1,(d0,i0+p.2))).map (·.1))=true)
  (hge:∀ (j:Nat) nm,R[j]?=some nm->nm ∉ gone->∀ p,L nm=some p->∃ p',L' (aN j)=some p'/\GeP p p') {B:List (Nm×Nm)} (hBd:B=(R.zipIdx.map fun p=>(aN p.2,p.1))++N.zipIdx.map fun p=>(p.1,(d0,i0+p.2))) :
  SR lp I' (DY L L' B) (apply st dst {v:=(v0.sub (ED B)).ren (Ez B),new:=N.map fun m=>(((Ak st2.objs m).getD Bz).sub (ED B)).ren (Ez B),ups:=(R.zipIdx.map fun p=>(p.1,(((Ak st2.objs (aN p.2)).getD Bz).sub (ED B)).ren (Ez B))),gone:=gone,io:=true,slot:=sl}) (FQ tmv dst v) suf w2 /\
   Fr cx w0 I0 F0 O0 Hd RE e ds I' F (DY L L' B) w2:=by
 rw[<-hBd] at hB
 have memB:∀ s t,(s,t)∈B↔(∃ j:Nat,R[j]?=some t/\s=aN j)\/(∃ i:Nat,N[i]?=some s/\t=(d0,i0+i)):=by
  intro s t;rw[hBd,ar,Z4,Z4];constructor
  ·rintro (⟨⟨a,j⟩,h1,h2⟩ | ⟨⟨a,i⟩,h1,h2⟩)
   ·cases h2;exact .inl ⟨j,(bn.1 h1),rfl⟩
   ·cases h2;exact .inr ⟨i,(bn.1 h1),rfl⟩
  ·rintro (⟨j,h1,rfl⟩ | ⟨i,h1,rfl⟩);·exact .inl ⟨(t,j),bn.2 h1,rfl⟩
   ·exact .inr ⟨(s,i),bn.2 h1,rfl⟩
 have hslot:∀ i:Nat,(∃ s,N[i]?=some s)->L (d0,i0+i)=none:=by
  rintro i ⟨s,hs'⟩;obtain⟨l,h1,h2⟩:=hlen fun h=>by rw[h] at hs';simp at hs'
  refine hs.dom _ ?_;unfold Ak;rw[h1];exact aI.2 (by simp only;omega)
 have hRL:∀ (j:Nat) t,R[j]?=some t->∃ p,L t=some p:=fun j t h=>hR t (aj h)
 have hU:∀ s s' t,(s,t)∈B->(s',t)∈B->s=s':=by
  intro s s' t h h';rcases (memB s t).1 h with ⟨j,h1,rfl⟩ | ⟨i,h1,rfl⟩<;>rcases (memB s' _).1 h' with ⟨j',h2,rfl⟩ | ⟨i',h2,h3⟩;·rw[hRn j j' t h1 h2]
  ·obtain⟨p,hp⟩:=hRL j t h1;rw[h3,hslot i' ⟨_,h2⟩] at hp;cases hp
  ·obtain⟨p,hp⟩:=hRL j' _ h2;rw[hslot i ⟨_,h1⟩] at hp;cases hp
  ·have h4:i0+i=i0+i':=congrArg Prod.snd h3;have:i=i':=by omega
   subst this;exact cf (h1.symm.trans h2)
 have hin:∀ s t,(s,t)∈B->DY L L' B t=some ((L' s).getD none):=fun s t h=>We hU h;have hout:∀ t,(∀ s,(s,t) ∉ B)->DY L L' B t=L t:=fun t h=>locIo_out h
 have hfr:Fr cx w0 I0 F0 O0 Hd RE e ds I' F (DY L L' B) w2:=by
  have hsrc:∀ t b C,DY L L' B t=some (some (b,C))->(∃ s,(s,t)∈B/\L' s=some (some (b,C)))\/((∀ s,(s,t) ∉ B)/\L t=some (some (b,C))):=by
   intro t b C h;by_cases hx:∃ s,(s,t)∈B
   ·obtain⟨s,hst⟩:=hx;rw[hin s t hst] at h;refine .inl ⟨s,hst,?_⟩;cases hl:L' s with
    | none=>rw[hl] at h;simp at h
    | some p=>rw[hl] at h;simpa using h
   ·have hx':∀ s,(s,t) ∉ B:=fun s h=>hx ⟨s,h⟩;rw[hout t hx'] at h;exact .inr ⟨hx',h⟩
  have hnotR:∀ t,(∀ s,(s,t) ∉ B)->t ∉ R:=by
   intro t h hm;obtain⟨j,hj,hget⟩:=cX hm;exact h (aN j) ((memB _ _).2 (.inl ⟨j,by rw[ab hj,hget],rfl⟩))
  refine hf.own x1 x2 x3 x4 (fun b hb hn=>x5 b hb fun nm C _=>hn nm C) x6 (fun b hb=>(x7 b hb).imp id fun h=>⟨h.1,h.2.imp id fun ⟨nm,C,_,h⟩=>⟨nm,C,h⟩⟩) (fun t b C ht=>?_) (fun t t' b C C' ht ht'=>?_)
  ·rcases hsrc t b C ht with ⟨s,_,h⟩ | ⟨hx,h⟩
   ·obtain⟨g1,g2,g3⟩:=x8 s b C h;exact⟨g1,g2,g3.imp id fun ⟨nm,C,_,h⟩=>⟨nm,C,h⟩⟩
   ·obtain⟨g1,g2,g3,g4⟩:=hf.lB t b C h;refine⟨by omega,fun hi=>?_,.inr ⟨t,C,h⟩⟩;rcases x7 b hi with h1 | ⟨_,h1 | ⟨nm,C',h1,h2⟩⟩;·exact g3 h1
    ·omega
    ·have:=hf.inj t nm b C C' h h2;subst this;exact hnotR t hx h1
  ·rcases hsrc t b C ht with ⟨s,hb,h⟩ | ⟨hx,h⟩<;>rcases hsrc t' b C' ht' with ⟨s',hb',h'⟩ | ⟨hx',h'⟩
   ·have:=x9 s s' b C C' h h';subst this;exact ZF hB hb hb'
   ·obtain⟨_,_,g3⟩:=x8 s b C h;rcases g3 with g3 | ⟨nm,C2,g3,g4⟩;·have:=(hf.lB t' b C' h').2.1;omega
    ·have:=hf.inj t' nm b C' C2 h' g4;subst this;exact absurd g3 (hnotR t' hx')
   ·obtain⟨_,_,g3⟩:=x8 s' b C' h';rcases g3 with g3 | ⟨nm,C2,g3,g4⟩;·have:=(hf.lB t b C h).2.1;omega
    ·have:=hf.inj t nm b C C2 h g4;subst this;exact absurd g3 (hnotR t hx)
   ·exact hf.inj t t' b C C' h h'
 refine⟨?_,hfr⟩;have hIk:∀ b,I b->w2.heap[b]?=w.heap[b]?:=fun b hb=>x5 b (hf.sep.iB b hb) fun nm C _ hn=>(hf.lB nm b C hn).2.2.1 hb
 let L1:AF:=fun t=>if t∈R/\t ∉ gone then DY L L' B t else L t
 have hnB:∀ t,t ∉ R->∀ p,L t=some p->∀ s,(s,t) ∉ B:=by
  intro t ht p hp s h;rcases (memB s t).1 h with ⟨j,h1,rfl⟩ | ⟨i,h1,rfl⟩;·exact ht (aj h1)
  ·rw[hslot i ⟨_,h1⟩] at hp;cases hp
 have hge1:Ke L L1:=by
  intro t p hp;by_cases ht:t∈R/\t ∉ gone
  ·obtain⟨j,hj,hget⟩:=cX ht.1;have hj':R[j]?=some t:=by rw[ab hj,hget]
   obtain⟨p',h1,h2⟩:=hge j t hj' ht.2 p hp;refine⟨p',?_,h2⟩;simp only[L1,ht,not_false_eq_true,and_self,if_true];rw[hin (aN j) t ((memB _ _).2 (.inl ⟨j,hj',rfl⟩)),h1];rfl
  ·exact⟨p,by simp only[L1,ht,if_false];exact hp,GeP.refl p⟩
 let f1:Nm->Option (Option Ob):=fun m=>if gone.contains m then some none else none
 have hsub1:EE w2 I' lp L1 (some (DY L L' B)) (fun _=>True) f1:=by
  intro t p _ hp;by_cases hg:gone.contains t=true
  ·simp only[f1,hg,if_true]
  ·simp only[f1,hg];refine⟨_,rfl,?_⟩;have hg':t ∉ gone:=by simpa using hg
   by_cases ht:t∈R
   ·have:t∈R/\t ∉ gone:=⟨ht,hg'⟩;simpa only [L1,this,not_false_eq_true,and_self,if_true] using hp
   ·have:¬ (t∈R/\t ∉ gone):=fun h=>ht h.1;simp only[L1,this,if_false] at hp;rw[hout t (hnB t ht p hp)];exact hp
 have htm:Aq w2 I' lp (some (DY L L' B)) (A2 f1 st.tmps) tmv:=Aq.subst (fun _ h=>h) hsub1 ((Aq.mono x6 hIk (fun _ _ h=>h) hs.tm).ge hge1) fun _ _=>trivial;have hkp:Aq w2 I' lp (some (DY L L' B)) (A2 f1 st.keep) suf:=Aq.subst (fun _ h=>h) hsub1 ((Aq.mono x6 hIk (fun _ _ h=>h) hs.kp).ge hge1) fun _ _=>trivial;generalize hups:(R.zipIdx.map fun p=>(p.1,(((Ak st2.objs (aN p.2)).getD Bz).sub (ED B)).ren (Ez B)))=ups
 have memU:∀ t o,(t,o)∈ups↔∃ j:Nat,R[j]?=some t/\o=(((Ak st2.objs (aN j)).getD Bz).sub (ED B)).ren (Ez B):=by
  intro t o;rw[<-hups,Z4];constructor
  ·rintro ⟨⟨a,j⟩,h1,h2⟩;cases h2;exact⟨j,bn.1 h1,rfl⟩
  ·rintro ⟨j,h1,rfl⟩;exact⟨(t,j),bn.2 h1,rfl⟩
 have hdead:∀ f g,(Bz.sub f).ren g=Bz:=fun f g=>rfl
 have hobj:∀ s t,(s,t)∈B->∃ p,DY L L' B t=some p/\BF w2 I' lp (DY L L' B) ((((Ak st2.objs s).getD Bz).sub (ED B)).ren (Ez B)) p:=by
  intro s t hst;refine⟨_,hin s t hst,?_⟩;cases hl:Ak st2.objs s with
  | none =>
   rw[hs2.dom s hl];simp only[Option.getD_none,hdead];exact⟨0,0,rfl⟩
  | some ob =>
   obtain⟨p,hp,ha⟩:=hs2.ob s ob hl;rw[hp];simp only[aM];exact take_ob hB hU (ha.mono (fun _ h=>h) (fun _ _=>rfl) hlp fun _ _ _=>rfl)
 have hlook0:∀ t,Ak (st.objs.map (·.map (Ob.sub f1))) t=(Ak st.objs t).map (Ob.sub f1):=fun t=>Fw _ _ t
 have hpres:∀ p∈ups,∃ o,Ak (st.objs.map (·.map (Ob.sub f1))) p.1=some o:=by
  rintro ⟨t,o⟩ hp;obtain⟨j,hj,_⟩:=(memU t o).1 hp;obtain⟨p,hL⟩:=hRL j t hj;obtain⟨ob,hob,_⟩:=hs.some_of_loc hL;exact⟨_,by rw[hlook0,hob];rfl⟩
 have hlu:∀ t,((∃ j:Nat,R[j]?=some t)->∃ s,(s,t)∈B/\Ak (FE ups (st.objs.map (·.map (Ob.sub f1)))) t=some ((((Ak st2.objs s).getD Bz).sub (ED B)).ren (Ez B))) /\
   ((∀ j:Nat,R[j]?≠some t)->Ak (FE ups (st.objs.map (·.map (Ob.sub f1)))) t=(Ak st.objs t).map (Ob.sub f1)):=by
  intro t;obtain⟨h1,h2⟩:=Ys ups (st.objs.map (·.map (Ob.sub f1))) t hpres;refine⟨?_,fun hno=>?_⟩
  ·rintro ⟨j,hj⟩;refine⟨aN j,(memB _ _).2 (.inl ⟨j,hj,rfl⟩),h1 _ (fun o' ho'=>?_) ((memU _ _).2 ⟨j,hj,rfl⟩)⟩;obtain⟨j',hj',rfl⟩:=(memU _ _).1 ho';rw[hRn j j' t hj hj']
  ·rw[h2 fun o ho=>by obtain⟨j,hj,_⟩:=(memU _ _).1 ho;exact hno j hj,hlook0]
 have hother:∀ t ob,(∀ s,(s,t) ∉ B)->Ak st.objs t=some ob->∃ p,DY L L' B t=some p/\BF w2 I' lp (DY L L' B) (ob.sub f1) p:=by
  intro t ob hx hl;obtain⟨p,hp,ha⟩:=hs.ob t ob hl;refine⟨p,by rw[hout t hx];exact hp,?_⟩
  have ha2:BF w2 I' lp L ob p:=ha.mono x6 hIk (fun _ _ h=>h) fun b C hpb=>by
   subst hpb;refine x5 b (hf.lB t b C hp).2.1 fun nm C' hm hn=>?_;have:=hf.inj t nm b C C' hp hn;subst this;obtain⟨j,hj,hget⟩:=cX hm;exact hx (aN j) ((memB _ _).2 (.inl ⟨j,by rw[ab hj,hget],rfl⟩))
  exact BF.subst (ha2.ge hge1) (fun _ h=>h) (fun _ _=>rfl) hsub1 (fun _ _=>trivial) fun _ _ _=>rfl
 have hlens:∀ (l:List (Nm×Ob)) (objs:List (List Ob)) (d:Nat),(FE l objs).length=objs.length/\∀ x,objs[d]?=some x->∃ y,(FE l objs)[d]?=some y/\y.length=x.length:=by
  intro l;induction l with
  | nil=>intro objs d;exact⟨rfl,fun x h=>⟨x,h,rfl⟩⟩
  | cons p l ih =>
   obtain⟨nm,o⟩:=p;intro objs d;obtain⟨q1,q2⟩:=ih (Bl objs nm o) d;have hp:(Bl objs nm o).length=objs.length:=by unfold Bl;split<;>simp
   refine⟨q1.trans hp,fun x hx=>?_⟩
   have:∃ y,(Bl objs nm o)[d]?=some y/\y.length=x.length:=by
    unfold Bl;split
    ·rename_i l' hl';by_cases hnd:nm.1=d
     ·subst hnd;rw[hx] at hl';cases hl';exact⟨_,bH (ac.1 hx).1,by simp⟩
     ·exact⟨x,by rw[aB hnd];exact hx,rfl⟩
    ·exact⟨x,hx,rfl⟩
   obtain⟨y,h1,h2⟩:=this;obtain⟨z,h3,h4⟩:=q2 y h1;exact⟨z,h3,h4.trans h2⟩
 generalize hXd:FE ups (st.objs.map (·.map (Ob.sub f1)))=X at hlu;have hX1:X.length=st.objs.length:=by rw[<-hXd,(hlens ups _ 0).1,aL]
 have hX2:∀ (d:Nat) (l:List Ob),st.objs[d]?=some l->∃ l',X[d]?=some l'/\l'.length=l.length:=by
  intro d l h;obtain⟨y,h1,h2⟩:=(hlens ups (st.objs.map (·.map (Ob.sub f1))) d).2 (l.map (Ob.sub f1)) (by rw[aa,h];rfl);exact⟨y,by rw[<-hXd];exact h1,by rw[h2,aL]⟩
 generalize hnews:(N.map fun m=>(((Ak st2.objs m).getD Bz).sub (ED B)).ren (Ez B))=news;have hnn:news.length=N.length:=by rw[<-hnews,aL]
 have hset:∀ (X:List (List Ob)) (d:Nat),X.set d (X.getD d []++[])=X:=by
  intro X d;rw[bz];apply aO;intro i;by_cases hi:i=d
  ·subst hi;by_cases hlt:i < X.length
   ·rw[bH hlt,Z9,ab hlt];rfl
   ·rw[aI.2 (by simpa using hlt),aI.2 (by simpa using hlt)]
  ·rw[aB (aH hi)]
 have hst:apply st dst {v:=(v0.sub (ED B)).ren (Ez B),new:=news,ups:=ups,gone:=gone,io:=true,slot:=sl} =
   {tmps:=putP (A2 f1 st.tmps) dst ((v0.sub (ED B)).ren (Ez B)),objs:=X.set d0 (X.getD d0 []++news),keep:=A2 f1 st.keep}:=by
  have e1:(if gone.isEmpty=true then st else D7 f1 st)={tmps:=A2 f1 st.tmps,objs:=st.objs.map (·.map (Ob.sub f1)),keep:=A2 f1 st.keep}:=by
   split
   ·rename_i hg;have hg':f1=fun _=>none:=by funext m;simp only[f1];rw[aY.1 hg];rfl
    rw[hg',subL_id,subL_id]
    have:(fun l:List Ob=>l.map (Ob.sub fun _=>none))=id:=by
     funext l;rw[show (Ob.sub fun _=>none)=id from funext Ob.sub_id,List.map_id];rfl
    rw[this,List.map_id]
   ·rfl
  have e2:∀ s:St,(if ups.isEmpty=true then s else {s with objs:=FE ups s.objs})={s with objs:=FE ups s.objs}:=by
   intro s;split
   ·rename_i hu;rw[aY.1 hu];rfl
   ·rfl
  unfold apply;simp only[bU,if_true];rw[e1,e2];simp only[hXd];cases sl with
  | some r =>
   have:=hsl r rfl;subst this;cases dst with
   | none=>rfl
   | some d=>rfl
  | none =>
   cases hdst:dst with
   | none =>
    have hN:=hnew rfl hdst;have:news=[]:=by rw[<-hnews,hN];rfl
    rw[this,hset];rfl
   | some d =>
    obtain⟨hcl,h0⟩:=hd d hdst;have h0:=h0 rfl;subst h0;simp only[cP,aV];obtain⟨l',h1,h2⟩:=hX2 d [] hcl;have h3:l'=[]:=bI.1 h2;subst h3;cases hn0:news with
    | nil=>simp only[bU,if_true,hset];rfl
    | cons n ns =>
     have:X.getD d []=[]:=by rw[Z9,h1];rfl
     simp only[List.isEmpty_cons,Z0,if_false,this,aK];rfl
 have key1:∀ (i:Nat) s,N[i]?=some s->Ak (X.set d0 (X.getD d0 []++news)) (d0,i0+i)=some ((((Ak st2.objs s).getD Bz).sub (ED B)).ren (Ez B)):=by
  intro i s hi;obtain⟨l,h1,h2⟩:=hlen fun h=>by rw[h] at hi;simp at hi
  obtain⟨l',h3,h4⟩:=hX2 d0 l h1;have hlt:d0 < X.length:=(ac.1 h3).1;rw[G5 _ hlt,Z9,h3];simp only[aM];rw[b8 (by omega),show i0+i - l'.length=i by omega,<-hnews,aa,hi];rfl
 have key2:∀ t:Nm,(∀ (i:Nat) s,N[i]?=some s->t≠(d0,i0+i))->Ak (X.set d0 (X.getD d0 []++news)) t=Ak X t:=by
  intro t ht;by_cases h1:t.1=d0
  ·obtain⟨a,j⟩:=t;simp only at h1;subst h1;by_cases hN:N=[]
   ·have:news=[]:=by rw[<-hnews,hN];rfl
    rw[this,hset]
   ·obtain⟨l,g1,g2⟩:=hlen hN;obtain⟨l',h3,h4⟩:=hX2 a l g1;have hlt:a < X.length:=(ac.1 h3).1;rw[G5 _ hlt,Z9,h3];simp only[aM];have hX:Ak X (a,j)=l'[j]?:=by unfold Ak;rw[h3]
    rw[hX];by_cases hj:j < l'.length
    ·rw[bv hj]
    ·rw[b8 (by omega),aI.2 (by omega:l'.length<=j)];refine aI.2 ?_;apply bg;intro hlt2;have hlt3:j - l'.length < N.length:=by omega
     exact ht (j - l'.length) _ (ab hlt3) (by rw[show i0+(j - l'.length)=j by omega])
  ·rw[Gh _ h1]
 rw[hst]
 have hnotB:∀ t:Nm,(∀ (i:Nat) s,N[i]?=some s->t≠(d0,i0+i))->(¬ ∃ j:Nat,R[j]?=some t)->∀ s,(s,t) ∉ B:=by
  intro t ht hj s h;rcases (memB s t).1 h with ⟨j,h1,_⟩ | ⟨i,h1,h2⟩;·exact hj ⟨j,h1⟩
  ·exact ht i s h1 h2
 have htmf:Aq w2 I' lp (some (DY L L' B)) (putP (A2 f1 st.tmps) dst ((v0.sub (ED B)).ren (Ez B))) (FQ tmv dst v):=by
  cases dst with
  | none=>exact htm
  | some d=>exact htm.set d (take_val hB hU (Aw.mono (fun _ h=>h) (fun _ _=>rfl) hlp hv))
 refine⟨htmf,hkp,fun t ob hl=>?_,fun t hl=>?_⟩
 ·simp only at hl;by_cases ht:∃ (i:Nat) (s:Nm),N[i]?=some s/\t=(d0,i0+i)
  ·obtain⟨i,s,h1,rfl⟩:=ht;rw[key1 i s h1] at hl;cases hl;exact hobj s _ ((memB _ _).2 (.inr ⟨i,h1,rfl⟩))
  ·have ht':∀ (i:Nat) s,N[i]?=some s->t≠(d0,i0+i):=fun i s h1 h2=>ht ⟨i,s,h1,h2⟩;rw[key2 t ht'] at hl;by_cases hj:∃ j:Nat,R[j]?=some t
   ·obtain⟨s,h1,h2⟩:=(hlu t).1 hj;rw[h2] at hl;cases hl;exact hobj s t h1
   ·rw[(hlu t).2 fun j h=>hj ⟨j,h⟩] at hl;obtain⟨ob0,h0,rfl⟩:=Z3.1 hl;exact hother t ob0 (hnotB t ht' hj) h0
 ·simp only at hl;by_cases ht:∃ (i:Nat) (s:Nm),N[i]?=some s/\t=(d0,i0+i)
  ·obtain⟨i,s,h1,rfl⟩:=ht;rw[key1 i s h1] at hl;cases hl
  ·have ht':∀ (i:Nat) s,N[i]?=some s->t≠(d0,i0+i):=fun i s h1 h2=>ht ⟨i,s,h1,h2⟩;rw[key2 t ht'] at hl;by_cases hj:∃ j:Nat,R[j]?=some t
   ·obtain⟨s,h1,h2⟩:=(hlu t).1 hj;rw[h2] at hl;cases hl
   ·rw[(hlu t).2 fun j h=>hj ⟨j,h⟩] at hl;rw[hout t (hnotB t ht' hj)];exact hs.dom t (by simpa using hl)
end done
theorem RH {sl:Option Nat} {d0 i0:Nat} {R:List Nm} {st:St} {v:PV} {out:AO} (h:GY sl d0 i0 R st v=some out) :
  ∃ (N:List Nm) (B:List (Nm×Nm)),B=(R.zipIdx.map fun p=>((F7 (st.keep.getD p.2 .undef)).getD (0,p.2),p.1))++N.zipIdx.map (fun p=>(p.1,(d0,i0+p.2)))/\D6 (B.map (·.1))=true /\
   out={v:=(v.sub (ED B)).ren (Ez B),new:=N.map fun m=>(((Ak st.objs m).getD Bz).sub (ED B)).ren (Ez B),ups:=(R.zipIdx.map fun p=>(p.1,(((Ak st.objs ((F7 (st.keep.getD p.2 .undef)).getD (0,p.2))).getD Bz).sub (ED B)).ren (Ez B))),gone:=JR R st.keep,io:=true,slot:=sl}:=by
 unfold GY at h;obtain⟨h1,h2⟩:=Bn h;refine⟨_,_,rfl,h1,?_⟩;cases h2;simp only[FX,ay];rfl
theorem Y0 {objs:List (List Ob)} {d i0 j:Nat} {o:Ob} (hj:Ak objs (d,j)=some o) (h:KM (Ak objs) d=some i0):∃ l,objs[d]?=some l/\l.length=i0:=by
 unfold KM at h;rw[List.find?_eq_some_iff_append] at h;obtain⟨h1,as,bs,h2,h3⟩:=h;cases hl:objs[d]? with
 | none=>unfold Ak at hj;simp only[hl] at hj;cases hj
 | some l =>
  have hlook:∀ j,Ak objs (d,j)=l[j]?:=fun j=>by unfold Ak;simp only[hl]
  refine⟨l,rfl,?_⟩
  have hle:l.length<=i0:=by
   rw[hlook] at h1;simpa using h1
  have hlen:as.length=i0/\∀ k,k < as.length->as[k]?=some k:=by
   have hr:=h2;have hpos:(List.range 64)[as.length]?=some i0:=by rw[hr];simp
   obtain⟨q1,q2⟩:=ac.1 hpos;simp at q2;refine⟨q2,fun k hk=>?_⟩;have:(List.range 64)[k]?=as[k]?:=by rw[hr,bv hk]
   rw[<-this];simp at q1;exact bo (by omega)
  rcases cA l.length i0 with hlt | hge
  ·have hm:=hlen.2 l.length (by omega);have:=h3 _ (aj hm);rw[hlook] at this;simp at this
  ·omega
theorem WZ {cx:Cx} {M:Bf} {tab:FuncId->Option Au} (hM:EP cx M.call) (hsp:MSp cx M) (hloc:GD M) (hiod:Q4 cx M) {dd:FuncId->Er} (htab:Lq cx tab dd) (n:Nat) (g:FuncId) (d0:Nat) (st:St) (vs:List PV) (out:AO) (hc:GC M n tab g d0 (Ak st.objs) vs=some out):CT cx.P g /\
  ∀ (E:Type) (w0:World) (I0 F0:Nat->Prop) (O0:B9) (Hd:Nat->Option Obj) (R:BV E) (e:E) (ds:List Deferred) (I F:Nat->Prop) (lp:Nat->Option Nat) (L:AF) (tmv suf us:List Value) (w:World) (dst:Option Nat),
   SR lp I L st tmv suf w->Fr cx w0 I0 F0 O0 Hd R e ds I F L w->Aq w I lp (some L) vs us->(∀ d,dst=some d->d=d0/\st.objs[d]?=some [])->(dst=none->out.new=[]\/out.slot.isSome=true) ->
   (CallsIn Fence.wide 0 cx.P g us.toArray w fun
    | .returned v,w'=>∃ I' L',SR lp I' L' (apply st dst out) (FQ tmv dst v) suf w'/\Fr cx w0 I0 F0 O0 Hd R e ds I' F L' w'
    | _,_=>False) /\
   (Jx tab g=true->∀ u,CallsDIn Fence.wide 0 cx.P g us.toArray u w fun en u' w'=>u'=u/\match en with
    | .returned v=>∃ I' L',SR lp I' L' (apply st dst out) (FQ tmv dst v) suf w'/\Fr cx w0 I0 F0 O0 Hd R e ds I' F L' w'
    | _=>False):=by
 unfold GC at hc;split at hc
 case h_1=>cases hc
 rename_i rf hrf;obtain⟨fn,c,hfn,hbody,hres,hname,hnt,hcode⟩:=tab_fn htab hrf;simp only at hc;generalize hRd:DU (Bb (Ak st.objs) AW (AR vs))=R at hc;have hRn:∀ (i j:Nat) nm,R[i]?=some nm->R[j]?=some nm->i=j:=by rw[<-hRd];exact fun i j nm=>ZQ i j nm
 have hmemR:∀ nm∈AR vs,nm∈R:=fun nm hn=>by rw[<-hRd];exact RF.2 (Fd _ _ nm hn)
 split at hc
 case h_1=>cases hc
 rename_i ins hins;obtain⟨hk,hc⟩:=Bn hc;simp only[Z2,bC,decide_eq_true_eq] at hk;obtain⟨⟨⟨hy,hshut⟩,hoy⟩,⟨hlen,hRlen⟩,hnt0⟩:=hk;split at hc
 case h_2=>cases hc
 rename_i st2 v0 hraw
 have hplace:∃ sl d1 i1,GY sl d1 i1 R st2 v0=some out/\((sl=none/\d1=d0/\i1=0/\R=[])\/(sl=some d1/\∃ j,(d1,j)∈R/\KM (Ak st.objs) d1=some i1)):=by
  unfold Ma at hc;cases R with
  | nil=>exact⟨none,d0,0,hc,.inl ⟨rfl,rfl,rfl,rfl⟩⟩
  | cons r rs =>
   simp only at hc;split at hc
   ·rename_i i1 hi1;exact⟨some r.1,r.1,i1,hc,.inr ⟨rfl,r.2,aq,hi1⟩⟩
   ·cases hc
 obtain⟨sl,d1,i1,hc,hplace⟩:=hplace;obtain⟨N,B,hB,hBn,hout⟩:=RH hc
 have hrun:∃ x st3 l rs,((DP rf.code=true/\AQ M n rf.code AP 0 (I8 rf.gone rf.nt (ins.map (Ob.ren fun m=>(0,R.idxOf m))) (Bs (fun m=>(0,R.idxOf m)) vs)) ()=some (x,st3,())/\st2=st3) \/
   (DP rf.code=false/\Bk M n rf.nt rf.code (I8 rf.gone rf.nt (ins.map (Ob.ren fun m=>(0,R.idxOf m))) (Bs (fun m=>(0,R.idxOf m)) vs))=some (x,st3,l)/\G3 M rf.nt l st3=some st2))/\(∀ id,x≠.exit id)/\FM st2 rf.res=some rs/\v0=Hq rs:=by
  unfold HR at hraw;split at hraw
  ·rename_i hq;split at hraw
   case h_2=>cases hraw
   rename_i x st3 u hev;have hxe:∀ id,x≠.exit id:=by rintro id rfl;simp at hraw
   have hraw2:(match FM st3 rf.res with
     | some rs=>some (st3,Hq rs)
     | none=>none)=some (st2,v0):=by
    cases x with
    | normal=>exact hraw
    | ret=>exact hraw
    | exit id=>exact absurd rfl (hxe id)
   split at hraw2
   case h_2=>cases hraw2
   rename_i rs hrs;cases hraw2;exact⟨x,_,[],rs,.inl ⟨hq,hev,rfl⟩,hxe,hrs,rfl⟩
  ·rename_i hq;split at hraw
   case h_2=>cases hraw
   rename_i x st3 l hev;have hxe:∀ id,x≠.exit id:=by rintro id rfl;simp at hraw
   have hraw2:(match G3 M rf.nt l st3 with
     | some st=>match FM st rf.res with
      | some rs=>some (st,Hq rs)
      | none=>none
     | none=>none)=some (st2,v0):=by
    cases x with
    | normal=>exact hraw
    | ret=>exact hraw
    | exit id=>exact absurd rfl (hxe id)
   split at hraw2
   case h_2=>cases hraw2
   rename_i st4 hd;split at hraw2
   case h_2=>cases hraw2
   rename_i rs hrs;cases hraw2;exact⟨x,st3,l,rs,.inr ⟨by simpa using hq,hev,hd⟩,hxe,hrs,rfl⟩
 obtain⟨x,st3,l,rs,hev,hxe,hrs,rfl⟩:=hrun;obtain⟨m1,m2⟩:=Vk R ins hins;refine⟨⟨fn,hfn,by simpa using hname,by rw[hbody];rfl⟩,?_⟩;intro E w0 I0 F0 O0 Hd RE e ds I F lp L tmv suf us w dst hs hf hrep hd hnew
 have hRL:∀ nm∈R,∃ p ob,L nm=some p/\Ak st.objs nm=some ob/\BF w I lp L ob p:=by
  intro nm hn;obtain⟨j,hj,hget⟩:=cX hn;obtain⟨ob,_,h2⟩:=m2 j nm (by rw[ab hj,hget]);obtain⟨p,hp,ha⟩:=hs.ob nm ob h2;exact⟨p,ob,hp,h2,ha⟩
 let Lc:AF:=fun m=>if m.1=0 then (R[m.2]?).bind L else none
 let fr:Nm->Nm:=fun m=>(0,R.idxOf m)
 let LR:AF:=fun m=>if m∈R then L m else none
 have hren:∀ nm p,LR nm=some p->Lc (fr nm)=some p:=by
  intro nm p hp;simp only[LR] at hp;split at hp
  ·rename_i hm;simp only[Lc,fr,if_true,idx_get hm,cB,hp]
  ·cases hp
 have hLc:∀ nm p,Lc nm=some p->∃ t,R[nm.2]?=some t/\nm.1=0/\L t=some p:=by
  intro nm p hp;simp only[Lc] at hp;split at hp
  ·rename_i h1;cases hr:R[nm.2]? with
   | none=>rw[hr] at hp;simp at hp
   | some t=>rw[hr] at hp;exact⟨t,rfl,h1,by simpa using hp⟩
  ·cases hp
 let lp':Nat->Option Nat:=fun _=>none
 have hargs:Aq w I lp' (some Lc) (Bs fr vs) us:=by
  have h1:Aq w I lp' (some L) vs us:=hrep.noY hy;have h2:Aq w I lp' (some LR) vs us:=h1.narrow fun nm hn p hp=>by simp only[LR,hmemR nm hn,if_true];exact hp
  exact h2.rename hren
 have hil:(ins.map (Ob.ren fr)).length=R.length:=by rw[aL,m1]
 let wv:List Value:=(List.range rf.nt).map fun j=>match (R[j]?).bind L with
  | some (some (b,C))=>.slice (some ⟨b,0,none⟩) 0 C
  | _=>.slice none 0 0
 have hwvj:∀ (j:Nat) nm,R[j]?=some nm->wv.getD j undef=(match L nm with
    | some (some (b,C))=>.slice (some ⟨b,0,none⟩) 0 C
    | _=>.slice none 0 0):=by
  intro j nm hj;have hjl:j < rf.nt:=by have:=(ac.1 hj).1;omega
  rw[Z9,aa,bo hjl];simp only[ao,aM,hj,cB]
 have hwit:Aq w I lp' (some Lc) (Lu rf.gone rf.nt R.length) wv:=by
  refine Aq.of_get (by simp[Lu,wv]) fun i y v hy' hv=>?_;simp only[Lu,aa,Z3] at hy';obtain⟨j,hj,rfl⟩:=hy'
  have hlt:i < rf.nt/\j=i:=by
   obtain⟨h1,h2⟩:=ac.1 hj;simp at h1 h2;exact⟨h1,h2.symm⟩
  obtain⟨hlt,rfl⟩:=hlt;split
  case isFalse=>exact .undef _
  rename_i hjR0;have hjR:=hjR0.1;have ht:R[j]?=some R[j]:=ab hjR;have hv2:=hwvj j _ ht;rw[Z9,hv] at hv2;simp only[aM] at hv2;subst hv2;obtain⟨p,ob,hp,_,_⟩:=hRL _ (aj ht);have hlc:Lc (0,j)=some p:=by simp only[Lc,if_true,ht,cB,hp]
  rw[hp];cases p with
  | none=>exact .arrN _ _ hlc
  | some p =>
   obtain⟨b,C⟩:=p;have:=Aw.arr (w:=w) (I:=I) (lp:=lp') (L:=Lc) (0,j) 1 0 0 C b C hlc (by omega) (bR _);simpa using this
 have hst0:SR lp' I Lc (I8 rf.gone rf.nt (ins.map (Ob.ren fr)) (Bs fr vs)) (us.toArray++Array.replicate (fn.ntmps - us.toArray.size) undef).toList wv w:=by
  have hlen0:0 < (List.replicate rf.nt ([]:List Ob)).length:=by simpa using hnt0
  have hempty:∀ nm:Nm,nm.1≠0->Ak ((List.replicate rf.nt []).set 0 (ins.map (Ob.ren fr))) nm=none:=by
   intro nm h1;rw[Gh _ h1];unfold Ak;cases hg:(List.replicate rf.nt ([]:List Ob))[nm.1]? with
   | none=>rfl
   | some l =>
    have:=cO (aj hg);subst this;simp
  refine⟨?_,?_,?_,?_⟩
  ·have hl:=hargs.length;have h2:Aq w I lp' (some Lc) (List.replicate (rf.nt - (Bs fr vs).length) PV.undef) (List.replicate (rf.nt - (Bs fr vs).length) undef):=Aq.undefs _ _ (by simp);have:=hargs.append h2;show Aq w I lp' (some Lc) (Bs fr vs++List.replicate (rf.nt - (Bs fr vs).length) .undef) _;rw[hl] at this |-;simpa[hnt] using this
  ·show Aq w I lp' (some Lc) (Lu rf.gone rf.nt (ins.map (Ob.ren fr)).length) wv;rw[hil];exact hwit
  ·intro nm ob hl;have hobj:Ak ((List.replicate rf.nt []).set 0 (ins.map (Ob.ren fr))) nm=some ob:=hl;by_cases h1:nm.1=0
   ·obtain⟨a,j⟩:=nm;simp only at h1;subst h1;rw[G5 _ hlen0,aa] at hobj;obtain⟨ob0,ho0,rfl⟩:=Z3.1 hobj;have hj:j < R.length:=by have:=(ac.1 ho0).1;omega
    have hRt:R[j]?=some R[j]:=ab hj;obtain⟨ob1,h3,h4⟩:=m2 j _ hRt;rw[ho0] at h3;cases h3;obtain⟨p,hp,ha⟩:=hs.ob _ ob0 h4;refine⟨p,by simp only[Lc,if_true,hRt,cB,hp],?_⟩
    have hyo:ob0.hasY=false:=by
     have:=an.1 hoy ob0 (aj ho0);simpa using this
    have hnarrow:BF w I lp' LR ob0 p:=(ha.noY hyo).narrow fun m hm q hq=>by
     have:m∈R:=TU hshut (aj hRt) h4 m hm;simp only[LR,this,if_true];exact hq
    exact hnarrow.ren hren
   ·rw[hempty nm h1] at hobj;cases hobj
  ·intro nm hl;have hobj:Ak ((List.replicate rf.nt []).set 0 (ins.map (Ob.ren fr))) nm=none:=hl;simp only[Lc];split
   ·rename_i h1;obtain⟨a,j⟩:=nm;simp only at h1;subst h1;rw[G5 _ hlen0,aa] at hobj;have h2:ins[j]?=none:=by simpa using hobj
    have:R[j]?=none:=aI.2 (by have:=aI.1 h2;omega);rw[this];rfl
   ·rfl
 let O:Nat->Prop:=fun b=>∃ nm C,nm∈R/\L nm=some (some (b,C))
 have hfr0:Fr cx w I O ⟨O,[]⟩ (fun _=>none) Eu () [] I (fun _=>False) Lc w:=by
  refine⟨⟨rfl,rfl,rfl,Z5 _,fun _ _ _=>rfl,fun _ h=>h,fun _ h=>.inl h,fun b h=>h.elim⟩,⟨hf.sep.iB,fun b h=>h.elim⟩,fun b h=>h,fun nm b C hn=>?_,fun nm nm' b C C' hn hn'=>?_,hf.wd,trivial,.nil,fun b ob hb=>by cases hb⟩
  ·obtain⟨t,h1,_,h2⟩:=hLc nm _ hn;obtain⟨_,g2,g3,_⟩:=hf.lB t b C h2;exact⟨.inr ⟨t,C,aj h1,h2⟩,g2,g3,fun h=>h⟩
  ·obtain⟨t,h1,h3,h2⟩:=hLc nm _ hn;obtain⟨t',h1',h3',h2'⟩:=hLc nm' _ hn';have:=hf.inj t t' b C C' h2 h2';subst this;exact Prod.ext (h3.trans h3'.symm) (hRn _ _ t h1 h1')
 have tail:∀ (tm:Array Value) (w2:World) (I' F':Nat->Prop) (L':AF),SR lp' I' L' st2 tm.toList wv w2->Fr cx w I O ⟨O,[]⟩ (fun _=>none) Eu () [] I' F' L' w2 ->
   ∃ v,(results fn tm).run cx.P w2=.ok v w2/\∃ I' L',SR lp I' L' (apply st dst out) (FQ tmv dst v) suf w2/\Fr cx w0 I0 F0 O0 Hd RE e ds I' F L' w2:=by
  intro tm w2 I' F' L' hs2 hf';obtain⟨us',q1,q2⟩:=res_ok hs2 (P:=cx.P) fn.results.toList rf.res rs hres hrs;have hv:=WS q2;have hext:=hf'.ext
  have hge:∀ (j:Nat) nm,R[j]?=some nm->nm ∉ JR R st2.keep->∀ p,L nm=some p->∃ p',L' ((fun k=>(F7 (st2.keep.getD k .undef)).getD (0,k)) j)=some p'/\GeP p p':=by
   intro j nm hj hng p hp
   have hsome:(F7 (st2.keep.getD j .undef)).isSome=true:=by
    cases hw:F7 (st2.keep.getD j .undef) with
    | some q=>rfl
    | none =>
     refine absurd ?_ hng;unfold JR;exact Z4.2 ⟨(nm,j),bP.2 ⟨bn.2 hj,by simp only[hw];rfl⟩,rfl⟩
   obtain⟨q,hq⟩:=bT.1 hsome;simp only[hq,aM];have hkeep:=hs2.kp.getD j undef;have hval:=hwvj j nm hj
   have hform:st2.keep.getD j .undef=.arr q 1 0 0:=by
    unfold F7 at hq;split at hq;·rename_i nm' heq;cases hq;exact heq
    ·cases hq
   rw[hform,hval,hp] at hkeep;cases p with
   | none =>
    simp only at hkeep;cases hkeep with
    | arrN _ _ h=>exact⟨none,h,trivial⟩
   | some p =>
    obtain⟨b,C⟩:=p;simp only at hkeep;generalize hvv:(Value.slice (some ⟨b,0,none⟩) 0 C)=vv at hkeep;cases hkeep with
    | arr _ _ _ _ cap b' C' h hC hn =>
     simp only[Value.slice.injEq,Z6,Addr.mk.injEq] at hvv;obtain⟨⟨rfl,_,_⟩,_,rfl⟩:=hvv;exact⟨some (b,C'),h,rfl,by omega⟩
    | arrN _ _ h=>simp at hvv
  have hOb:∀ b,b < w.heap.size->(∀ nm C,nm∈R->L nm≠some (some (b,C)))->w2.heap[b]?=w.heap[b]?:=fun b hb hn=>hext.keep b hb fun ⟨nm,C,h1,h2⟩=>hn nm C h1 h2
  have htk:=io_taken (d0:=d1) (i0:=i1) (sl:=sl) (dst:=dst) (R:=R) (N:=N) (aN:=fun k=>(F7 (st2.keep.getD k .undef)).getD (0,k)) (gone:=JR R st2.keep) hs hf (lp':=lp') (fun d l h=>by cases h)
   (fun d hdd=>⟨(hd d hdd).2,fun h=>by
    rcases hplace with ⟨_,h1,_,_⟩ | ⟨h1,_⟩;·rw[h1];exact (hd d hdd).1
    ·rw[h] at h1;cases h1⟩)
   (fun r hr=>by
    rcases hplace with ⟨h1,_⟩ | ⟨h1,_⟩;·rw[hr] at h1;cases h1
    ·rw[hr] at h1;cases h1;rfl)
   (fun hN=>by
    rcases hplace with ⟨h1,h2,h3,h4⟩ | ⟨h1,j,h2,h3⟩
    ·cases hdst:dst with
     | none =>
      rcases hnew hdst with h5 | h5;·rw[hout] at h5;exact absurd (by simpa using h5) hN
      ·rw[hout,h1] at h5;cases h5
     | some d =>
      obtain⟨g1,g2⟩:=hd d hdst;exact⟨[],by rw[h2,<-g1];exact g2,by rw[h3];rfl⟩
    ·obtain⟨p,ob,hp,hl,_⟩:=hRL _ h2;exact Y0 hl h3)
   (fun h1 hn=>by
    rcases hnew hn with h5 | h5;·rw[hout] at h5;simpa using h5
    ·rw[hout,h1] at h5;cases h5) (fun nm hn=>let ⟨p,_,hp,_⟩:=hRL nm hn;⟨p,hp⟩) hRn hs2 hv
   hext.os hext.tape hext.output hext.size hOb hext.subI
   (fun b hb=>by
    rcases hext.newI b hb with h | h | h;·exact .inl h
    ·exact .inr ⟨hf'.sep.iB b hb,.inr h⟩
    ·exact .inr ⟨hf'.sep.iB b hb,.inl h⟩)
   (fun nm b C hn=>by
    obtain⟨g1,g2,g3,_⟩:=hf'.lB nm b C hn;exact⟨g2,g3,g1⟩) hf'.inj (by rw[<-hB];exact hBn) hge hB
  refine⟨if h:us'.toArray.size=1 then us'.toArray[0] else .tuple us'.toArray,?_,I',DY L L' B,?_⟩
  ·unfold results;rw[Sem.run_bind,df,Sem.run_map];rw[bt] at q1;exact (congrArg (fun r:Result (List Value)=>(r.andThen fun a w'=>Result.ok a.toArray w').andThen fun a w'=>Sem.run cx.P (pure (if h:a.size=1 then a[0] else Value.tuple a)) w') q1).trans rfl
  ·rw[hout];exact htk
 have body:∀ (Q:Exit->Act->World->Prop),(∀ a' w',(DP rf.code=true->∀ d∈a'.defers,∃ r,d.target=.collected r)->LeavesInM Fence.wide 0 cx.P fn a'.tmps (fun
    | .returned v,w'=>∃ I' L',SR lp I' L' (apply st dst out) (FQ tmv dst v) suf w'/\Fr cx w0 I0 F0 O0 Hd RE e ds I' F L' w'
    | _,_=>False) a'.defers .returning w'->Q .normal a' w'/\Q .ret a' w')->c.wpIn (Ee none) 0 cx.P Q {tmps:=us.toArray++Array.replicate (fn.ntmps - us.toArray.size) undef,defers:=[]} w:=by
  intro Q hQ
  have hx:∀ a' w',Q .normal a' w'/\Q .ret a' w'->Q (DD x) a' w':=by
   intro a' w' h;cases x with
   | normal=>exact h.1
   | ret=>exact h.2
   | exit id=>exact absurd rfl (hxe id)
  rcases hev with ⟨hq,hev,rfl⟩ | ⟨hq,hev,hd⟩
  ·rw[hcode] at hev;refine S2 (dd:=dd g) (M:=M) hM hsp hloc c Unit AP 0 Eu lp' w I O ⟨O,[]⟩ (fun _=>none) wv none _ () x st2 () hev ⟨⟨I,O,w,Pe cx _ _ _ _,Cf.refl _ _ _⟩,fun d l h=>by cases h⟩ (fun l0 he=>by cases he) _ w I (fun _=>False) _ _ hst0 hfr0 fun a' w' I' F' L' hs' hf'=>hx a' w' (hQ a' w' (fun _ d hd=>?_) ?_)
   ·have key:∀ ds rs,DC w.heap.size I' F' L' w' ds rs->rs=[]->∀ d∈ds,∃ r,d.target=.collected r:=by
     intro ds rs hm;induction hm with
     | nil=>intro _ d hd;cases hd
     | cons D ds rs _ _ _ _ _ _ _ _ ih =>
      intro h0 d hd;rcases Z7.1 hd with rfl | hd;·exact⟨D,rfl⟩
      ·exact ih h0 d hd
     | call d ds rs _ _ _=>intro h0;cases h0
    exact key _ _ hf'.mks rfl d hd
   ·exact Ux (nt:=rf.nt) (M:=M) hiod a'.defers [] [] [] st2 w' I' F' L' hs' hf' .nil rfl fun w2 I2 F2 L2 g1 g2=>tail a'.tmps w2 I2 F2 L2 g1 g2
  ·rw[hcode] at hev;refine evalD_ok (dd:=dd g) (M:=M) hM hsp hloc c lp' w I O O [] wv _ x st3 l hev ⟨⟨I,O,w,Pe cx _ _ _ _,Cf.refl _ _ _⟩,fun d l h=>by cases h⟩ _ w I (fun _=>False) _ _ hst0 hfr0 fun a' w' I' F' L' us' rs' hs' hf' hp=>hx a' w' (hQ a' w' (fun h=>by rw[hq] at h;cases h) ?_);rw[bz] at hf';exact Ux (nt:=rf.nt) (M:=M) hiod a'.defers rs' l us' st3 w' I' F' L' hs' hf' hp hd fun w2 I2 F2 L2 g1 g2=>tail a'.tmps w2 I2 F2 L2 g1 g2
 refine⟨callsIn_of_wp_marks hfn hbody trivial (body _ fun a' w' _ h=>⟨h,h⟩),fun hfl u=>?_⟩
 have hnd:DP rf.code=true:=by
  unfold Jx at hfl;rw[hrf] at hfl;exact hfl
 refine (Xo (R:=fun
    | .returned v,w'=>∃ I' L',SR lp I' L' (apply st dst out) (FQ tmv dst v) suf w'/\Fr cx w0 I0 F0 O0 Hd RE e ds I' F L' w'
    | _,_=>False) hfn hbody trivial (body _ fun a' w' hm h=>⟨⟨hm hnd,h⟩,⟨hm hnd,h⟩⟩)).mono fun en u' w' hq=>⟨hq.1,?_⟩
 cases en<;>exact hq.2
theorem io_ok {cx:Cx} {M:Bf} {tab:FuncId->Option Au} (hM:EP cx M.call) (hsp:MSp cx M) (hloc:GD M) (hiod:Q4 cx M) {dd:FuncId->Er} (htab:Lq cx tab dd) (n:Nat):IoOK cx (GC M n tab):=by
 intro g d0 st vs out hc;obtain⟨h1,h2⟩:=WZ hM hsp hloc hiod htab n g d0 st vs out hc;exact⟨h1,fun E w0 I0 F0 O0 Hd R e ds I F lp L tmv suf us w dst hs hf hr hd hn=>(h2 E w0 I0 F0 O0 Hd R e ds I F lp L tmv suf us w dst hs hf hr hd hn).1⟩
theorem Zo {σ σ':Nm->Option Ob}:∀ (l:List Nm),(∀ nm∈l,σ nm=σ' nm)->l.mapM σ=l.mapM σ':=by
 intro l;induction l with
 | nil=>intro _;rfl
 | cons x l ih =>
  intro h;rw[bi,bi,h x aq,ih fun nm hn=>h nm (ap _ hn)]
theorem Y2 {σ σ':Nm->Option Ob} {R:List Nm} (h:∀ nm∈R,σ nm=σ' nm):Dw σ R=Dw σ' R:=by
 unfold Dw;rw[ba];simp only[an];exact⟨fun g nm hn=>by rw[<-h nm hn];exact g nm hn,fun g nm hn=>by rw[h nm hn];exact g nm hn⟩
theorem io_loc (M:Bf) (n:Nat) (tab:FuncId->Option Au):Xn (GC M n tab):=by
 intro g d σ σ' vs out hσ h hst;unfold GC at h |-;cases ht:tab g with
 | none=>rw[ht] at h;cases h
 | some fn =>
  rw[ht] at h;simp only at h |-;rw[<-MY _ _ hσ];have hc:∀ nm∈DU (Bb σ AW (AR vs)),σ nm=σ' nm:=fun nm hn=>hσ nm (RF.1 hn);rw[<-Zo _ hc,<-Y2 hc];cases hm:(DU (Bb σ AW (AR vs))).mapM σ with
  | none=>rw[hm] at h;cases h
  | some ins =>
   rw[hm] at h;simp only at h |-;generalize DU (Bb σ AW (AR vs))=R at h |-;obtain⟨h1,h2⟩:=Bn h;simp only[AI,h1,if_true];split at h2
   case h_2=>cases h2
   rename_i st v hraw;unfold Ma at h2 |-;cases R with
   | nil=>exact h2
   | cons r rs =>
    simp only at h2;split at h2
    ·obtain⟨N,B,_,_,rfl⟩:=RH h2;simp[CC,EL] at hst
    ·cases h2
theorem Wj {sl:Option Nat} {d0 i0:Nat} {R:List Nm} {st:St} {v:PV} {out:AO} (h:GY sl d0 i0 R st v=some out):out.io=true:=by
 obtain⟨_,_,_,_,rfl⟩:=RH h;rfl
theorem SV (M:Bf) (n:Nat) (tab:FuncId->Option Au) (g:FuncId) (d:Nat) (σ:Nm->Option Ob) (vs:List PV) (out:AO) (h:GC M n tab g d σ vs=some out):out.io=true:=by
 unfold GC at h;split at h
 case h_1=>cases h
 simp only at h;split at h
 case h_1=>cases h
 obtain⟨_,h⟩:=Bn h;split at h
 case h_2=>cases h
 unfold Ma at h;split at h;·exact Wj h
 ·split at h;·exact Wj h
  ·cases h
theorem evalM_ok {cx:Cx} {sp:FuncId->(Nm->Option Ob)->List PV->Option AO} {tab:FuncId->Option Au} (hsp:SpOK cx sp) (hloc:PW sp) {dd:FuncId->Er} (htab:Lq cx tab dd):∀ n,EP cx (EC sp tab n).call/\MSp cx (EC sp tab n)/\GD (EC sp tab n)/\Q4 cx (EC sp tab n):=by
 intro n;induction n with
 | zero=>exact⟨fun E h R dep lp Ir Fr_ wr g args e r obs e' hc=>(by cases hc),⟨hsp,fun g d st vs out h=>(by cases h),fun g d σ vs out h=>(by cases h)⟩,⟨hloc,fun _ _ _ _ _ _ _ h _=>h⟩,fun g d st vs out _ h=>(by cases h)⟩
 | succ n ih =>
  obtain⟨i1,i2,i3,i4⟩:=ih;refine⟨callOf_ok i1 i2 i3 htab n,⟨hsp,io_ok i1 i2 i3 i4 htab n,SV _ n tab⟩,⟨hloc,io_loc _ n tab⟩,fun g d st vs out hfl hc=>?_⟩;obtain⟨h1,h2⟩:=WZ i1 i2 i3 i4 htab n g d st vs out hc;exact⟨h1,fun E w0 I0 F0 O0 Hd R e ds I F lp L tmv suf us w u hs hf hr hn=>(h2 E w0 I0 F0 O0 Hd R e ds I F lp L tmv suf us w none hs hf hr (fun d h=>by cases h) (fun _=>hn)).2 hfl u⟩
theorem fn_ok {cx:Cx} {sp:FuncId->(Nm->Option Ob)->List PV->Option AO} {tab:FuncId->Option Au} (hsp:SpOK cx sp) (hloc:PW sp) {dd:FuncId->Er} (htab:Lq cx tab dd) (n:Nat):EP cx (B1 sp tab n):=(evalM_ok hsp hloc htab n).1
end Go.Ab


namespace Go.Ab
theorem Xr {w w':World} {may:MemPlace->Prop} (h1:w'.os=w.os) (h2:w'.output=w.output) (h3:∀ b,b < w.heap.size->w'.heap[b]?=w.heap[b]?):w.keptBut w' may:=by
 refine⟨h1,h2,fun i hi=>?_⟩;rw[h3 i hi];cases hx:w.heap[i]? with
 | none=>rfl
 | some o=>cases o<;>first | rfl | exact⟨rfl,rfl,rfl,fun _ _=>rfl⟩ | exact .inr ⟨rfl,rfl⟩
structure Lb (w w':World):Prop where
 os:w'.os=w.os
 tape:w'.tape=w.tape
 output:w'.output=w.output
 size:w.heap.size<=w'.heap.size
 same:∀ b,b < w.heap.size->w'.heap[b]?=w.heap[b]?
theorem law_calls {cx:Cx} {call:Ht} (hM:EP cx call) {g:FuncId} {args:List PV} {b:Bool} {obs:List Ob} (hev:call Unit AP 0 g args ()=some (.bool b,obs,())) {I:Nat->Prop} {w:World} {vs:List Value}
  (hI:∀ b,I b->b < w.heap.size) (hw:cx.Wd I w) (hrep:Aq w I (fun _=>none) none args vs) :
  Calls cx.P g vs.toArray w fun e w'=>e=.returned (.bool b)/\Lb w w':=by
 obtain⟨_,h⟩:=hM Unit AP Eu 0 (fun _=>none) I (fun _=>False) w g args () (.bool b) obs () hev (Pe cx _ _ _ _) (fun d l h=>by cases h);have:=h I (fun _=>False) w vs (Cf.refl _ _ _) ⟨hI,fun b hb=>hb.elim⟩ hw trivial hrep;refine callsIn_wide.1 (CallsIn.mono' this fun e w' hr=>?_);cases e with
 | returned v =>
  obtain⟨I',F',ps,hce⟩:=hr;exact⟨by rw[Fx hce.rep],hce.ext.os,hce.ext.tape,hce.ext.output,hce.ext.size,fun b hb=>hce.ext.keep b hb fun h=>h⟩
 | panicked chain=>exact hr.elim
 | outgrown=>exact hr.elim
end Go.Ab


namespace Go.Ab
def Bj (P:Nat->Prop):Prop:=∃ m,∀ k,m<=k->P k
theorem Bj.of {P:Nat->Prop} (h:∀ k,P k):Bj P:=⟨0,fun k _=>h k⟩
theorem Bj.and {P Q:Nat->Prop} (h:Bj P) (h':Bj Q):Bj fun k=>P k/\Q k:=by
 obtain⟨a,ha⟩:=h;obtain⟨b,hb⟩:=h';exact⟨max a b,fun k hk=>⟨ha k (by omega),hb k (by omega)⟩⟩
theorem Bj.mono {P Q:Nat->Prop} (h:Bj P) (f:∀ k,P k->Q k):Bj Q:=by
 obtain⟨a,ha⟩:=h;exact⟨a,fun k hk=>f k (ha k hk)⟩
theorem Bj.mono2 {P Q S:Nat->Prop} (h:Bj P) (h':Bj Q) (f:∀ k,P k->Q k->S k):Bj S:=(h.and h').mono fun k ⟨a,b⟩=>f k a b
def HRel {E1 E2:Type} (RE:E1->E2->Prop) (h1:Ay E1) (h2:Nat->Ay E2):Prop :=
 ∀ l args e1 e2,RE e1 e2->∀ b e1',h1 l args e1=some (b,e1')->∃ e2',RE e1' e2'/\Bj fun k=>h2 k l args e2=some (b,e2')
def Tw (c1:Ht) (c2:Nat->Ht):Prop :=
 ∀ (E1 E2:Type) (RE:E1->E2->Prop) (h1:Ay E1) (h2:Nat->Ay E2),HRel RE h1 h2 ->
  ∀ dep g args e1 e2,RE e1 e2->∀ r obs e1',c1 E1 h1 dep g args e1=some (r,obs,e1')->∃ e2',RE e1' e2'/\Bj fun k=>c2 k E2 (h2 k) dep g args e2=some (r,obs,e2')
structure GF (M1:Bf) (M2:Nat->Bf):Prop where
 sp:∀ k,M1.sp=(M2 k).sp
 call:Tw M1.call fun k=>(M2 k).call
 isIo:∀ k,M1.isIo=(M2 k).isIo
 leans:∀ k,M1.leans=(M2 k).leans
 flat:∀ k,M1.flat=(M2 k).flat
 io:∀ g dst σ vs out,M1.io g dst σ vs=some out->Bj fun k=>(M2 k).io g dst σ vs=some out
section par
variable {M1:Bf} {M2:Nat->Bf} (hM:GF M1 M2) {E1 E2:Type} {RE:E1->E2->Prop} {h1:Ay E1} {h2:Nat->Ay E2} (hh:HRel RE h1 h2)
include hM
theorem RT (g:FuncId) (args:List PV) {r:PV} {obs:List Ob} {u:Unit} (h:M1.call Unit AP 0 g args ()=some (r,obs,u)):Bj fun k=>(M2 k).call Unit AP 0 g args ()=some (r,obs,()):=by
 obtain⟨_,_,h'⟩:=hM.call Unit Unit (fun _ _=>True) AP (fun _=>AP) (fun _ _ _ _ _ _ _ h=>by cases h) 0 g args () () trivial r obs u h;exact h'
include hh
theorem X1 (dep dst:Nat) (σ:Nm->Option Ob) (tm:List PV) (f:RX) (args:List RX) {e1:E1} {e2:E2} (he:RE e1 e2) {out:AO} {e1':E1}
  (h:Dr M1 h1 dep dst σ tm f args e1=some (out,e1')):∃ e2',RE e1' e2'/\Bj fun k=>Dr (M2 k) (h2 k) dep dst σ tm f args e2=some (out,e2'):=by
 unfold Dr at h |-;cases hf:f.ev tm with
 | yld d =>
  simp only[hf] at h |-;by_cases hS:(AR (args.map (RX.ev tm))).isEmpty=true
  ·simp only[hS,if_true] at h |-;unfold AI at h |-;split at h
   ·rename_i hy;simp only[hy,if_true];cases hq:h1 d (args.map (RX.ev tm)) e1 with
    | none=>rw[hq] at h;cases h
    | some p =>
     obtain⟨b,e⟩:=p;rw[hq] at h;cases h;obtain⟨e2',hr,h2'⟩:=hh _ _ _ _ he _ _ hq;exact⟨e2',hr,h2'.mono fun k hk=>by rw[hk]⟩
   ·cases h
  ·simp only[hS] at h |-;unfold AI at h |-;simp only[Z0,if_false] at h |-;split at h
   ·rename_i hy;simp only[hy,if_true];cases hq:h1 d (A2 (BJ σ) (args.map (RX.ev tm))) e1 with
    | none=>rw[hq] at h;cases h
    | some p =>
     obtain⟨b,e⟩:=p;rw[hq] at h;cases h;obtain⟨e2',hr,h2'⟩:=hh _ _ _ _ he _ _ hq;exact⟨e2',hr,h2'.mono fun k hk=>by rw[hk]⟩
   ·cases h
 | fn g cap =>
  simp only[hf] at h |-;simp only[<-hM.sp,<-hM.isIo,<-hM.leans];cases hs:M1.sp (AY g) σ (Bt g (args.map (RX.ev tm)) cap) with
  | some o=>simp only[hs] at h |-;cases h;exact⟨e2,he,.of fun _=>rfl⟩
  | none =>
   simp only[hs] at h |-;cases hio:M1.isIo (AY g) with
   | true =>
    simp only[hio,if_true] at h |-;cases hq:M1.io (AY g) dst σ (Bt g (args.map (RX.ev tm)) cap) with
    | none=>rw[hq] at h;cases h
    | some o=>rw[hq] at h;cases h;exact⟨e2,he,(hM.io _ _ _ _ _ hq).mono fun k hk=>by rw[hk]⟩
   | false =>
   simp only[hio,Z0,if_false] at h |-;by_cases hS:(AR (Bt g (args.map (RX.ev tm)) cap)).isEmpty=true
   ·simp only[hS,if_true] at h |-;by_cases hy:BI (Bt g (args.map (RX.ev tm)) cap)=true
    ·simp only[hy,if_true] at h |-;cases hq:M1.call E1 h1 dep (AY g) (Bt g (args.map (RX.ev tm)) cap) e1 with
     | none=>rw[hq] at h;cases h
     | some p =>
      obtain⟨r,obs,e⟩:=p;rw[hq] at h;cases h;obtain⟨e2',hr,h2'⟩:=hM.call E1 E2 RE h1 h2 hh _ _ _ _ _ he _ _ _ hq;exact⟨e2',hr,h2'.mono fun k hk=>by simp only at hk;rw[hk]⟩
    ·simp only[hy] at h |-;simp only[Z0,if_false] at h |-;cases hq:M1.call Unit AP 0 (AY g) (Bt g (args.map (RX.ev tm)) cap) () with
     | none=>rw[hq] at h;cases h
     | some p =>
      obtain⟨r,obs,e⟩:=p;rw[hq] at h;cases h;exact⟨e2,he,(RT hM _ _ hq).mono fun k hk=>by rw[hk]⟩
   ·simp only[hS] at h |-;unfold AI at h |-;simp only[Z0,if_false] at h |-;split at h
    ·rename_i hy;simp only[hy,if_true];cases hq:M1.call Unit AP 0 (AY g) (A2 (BJ σ) (Bt g (args.map (RX.ev tm)) cap)) () with
     | none=>rw[hq] at h;cases h
     | some p =>
      obtain⟨r,obs,e⟩:=p;rw[hq] at h;cases h;exact⟨e2,he,(RT hM _ _ hq).mono fun k hk=>by rw[hk]⟩
    ·cases h
 | _=>simp only[hf] at h;cases h
theorem Vb (dep:Nat) (o:AX) (st:St) {e1:E1} {e2:E2} (he:RE e1 e2) {out:AO} {e1':E1} (h:DG M1 h1 dep o st e1=some (out,e1')) :
  ∃ e2',RE e1' e2'/\Bj fun k=>DG (M2 k) (h2 k) dep o st e2=some (out,e2'):=by
 unfold DG AI at h |-;split at h
 ·rename_i hf;simp only[hf,if_true];cases hop:o.op with
  | call f args =>
   simp only[hop] at h |-;cases hq:Dr M1 h1 dep (o.dst.getD 0) (Ak st.objs) st.tmps f args e1 with
   | none=>rw[hq] at h;cases h
   | some p =>
    obtain⟨out1,e3⟩:=p;rw[hq] at h;simp only[AI] at h;split at h
    ·rename_i hg;cases h;obtain⟨e2',hr,h2'⟩:=X1 hM hh dep _ _ _ f args he hq;exact⟨e2',hr,h2'.mono fun k hk=>by rw[hk];simp only[hg,if_true]⟩
    ·cases h
  | _ =>
   simp only[hop] at h |-;split at h;·cases h;exact⟨e2,he,.of fun _=>rfl⟩
   ·cases h
 ·cases h
theorem YR (dep:Nat) (o:AX) (st:St) {e1:E1} {e2:E2} (he:RE e1 e2) {st':St} {e1':E1} (h:JG M1 h1 dep o st e1=some (st',e1')) :
  ∃ e2',RE e1' e2'/\Bj fun k=>JG (M2 k) (h2 k) dep o st e2=some (st',e2'):=by
 unfold JG at h |-;cases hq:DG M1 h1 dep o st e1 with
 | none=>rw[hq] at h;cases h
 | some p =>
  obtain⟨out,e⟩:=p;rw[hq] at h;cases h;obtain⟨e2',hr,h2'⟩:=Vb hM hh dep o st he hq;exact⟨e2',hr,h2'.mono fun k hk=>by rw[hk]⟩
theorem stepG_par (dep:Nat) (ops:List AX) (o:AX) (st:St) {e1:E1} {e2:E2} (he:RE e1 e2) {st':St} {e1':E1} (h:stepG M1 h1 dep ops o st e1=some (st',e1')) :
  ∃ e2',RE e1' e2'/\Bj fun k=>stepG (M2 k) (h2 k) dep ops o st e2=some (st',e2'):=by
 unfold stepG at h |-;cases hw:DX ops o st.tmps with
 | none=>rw[hw] at h;cases h
 | some b =>
  rw[hw] at h;cases b with
  | true=>exact YR hM hh dep o st he h
  | false=>cases h;exact⟨e2,he,.of fun _=>rfl⟩
theorem Un (dep:Nat) (ops:List AX):∀ (l:List AX) (st:St) {e1:E1} {e2:E2} (_:RE e1 e2) {st':St} {e1':E1} (_:E5 M1 h1 dep ops l st e1=some (st',e1')),
  ∃ e2',RE e1' e2'/\Bj fun k=>E5 (M2 k) (h2 k) dep ops l st e2=some (st',e2'):=by
 intro l;induction l with
 | nil=>intro st e1 e2 he st' e1' h;cases h;exact⟨e2,he,.of fun _=>rfl⟩
 | cons o rest ih =>
  intro st e1 e2 he st' e1' h;unfold E5 at h |-;cases hq:stepG M1 h1 dep ops o st e1 with
  | none=>rw[hq] at h;cases h
  | some p =>
   obtain⟨s,e⟩:=p;rw[hq] at h;obtain⟨e2',hr,h2'⟩:=stepG_par hM hh dep ops o st he hq;obtain⟨e3',hr3,h3'⟩:=ih s hr h;exact⟨e3',hr3,h2'.mono2 h3' fun k hk hk'=>by rw[hk];exact hk'⟩
theorem outD_par (dep:Nat) (ops:List AX) (i:Nat) (o:AX) (st:St) {e1:E1} {e2:E2} (he:RE e1 e2) {out:AO} {e1':E1} {inf:C9} (h:B8 M1 h1 dep ops i o st e1=some (out,e1',inf)) :
  ∃ e2',RE e1' e2'/\Bj fun k=>B8 (M2 k) (h2 k) dep ops i o st e2=some (out,e2',inf):=by
 unfold B8 at h |-;cases hw:DX ops o st.tmps with
 | none=>rw[hw] at h;cases h
 | some b =>
  rw[hw] at h;cases b with
  | true =>
   simp only at h |-;cases hq:DG M1 h1 dep o st e1 with
   | none=>rw[hq] at h;cases h
   | some p =>
    obtain⟨out,e⟩:=p;rw[hq] at h;cases h;obtain⟨e2',hr,h2'⟩:=Vb hM hh dep o st he hq;exact⟨e2',hr,h2'.mono fun k hk=>by rw[hk]⟩
  | false=>cases h;exact⟨e2,he,.of fun _=>rfl⟩
theorem runD_par (dep:Nat) (ops:List AX):∀ (l:List (Nat×Nat)) (infos:List C9) (st:St) {e1:E1} {e2:E2} (_:RE e1 e2) {st':St} {e1':E1} (_:Hx M1 h1 dep ops l infos st e1=some (st',e1')),
  ∃ e2',RE e1' e2'/\Bj fun k=>Hx (M2 k) (h2 k) dep ops l infos st e2=some (st',e2'):=by
 intro l;induction l with
 | nil=>intro infos st e1 e2 he st' e1' h;cases h;exact⟨e2,he,.of fun _=>rfl⟩
 | cons p rest ih =>
  obtain⟨i,bef⟩:=p;intro infos st e1 e2 he st' e1' h;unfold Hx at h |-;cases hi:ops[i]? with
  | none=>rw[hi] at h;cases h
  | some o =>
   simp only[hi] at h |-;unfold Mx at h |-;cases hq:B8 M1 h1 dep ops i o st e1 with
   | none=>rw[hq] at h;cases h
   | some p =>
    obtain⟨out,e,inf⟩:=p;simp only[hq] at h |-;obtain⟨e2',hr,h2'⟩:=outD_par hM hh dep ops i o st he hq;unfold AI at h |-;split at h
    ·rename_i hc;obtain⟨e3',hr3,h3'⟩:=ih _ _ hr h;exact⟨e3',hr3,h2'.mono2 h3' fun k hk hk'=>by rw[hk];simp only[hc,if_true];exact hk'⟩
    ·cases h
end par
def KY (M:Bf) (fuel:Nat) (asg b:Bu) {E:Type} (h:Ay E) (dep:Nat) (ps:List Nat):Ay (GE E):=fun l args r =>
 if l=dep then
  match r with
  |(s,none,e) =>
   if args.length=ps.length then
    match AQ M fuel asg h (dep+1) {s with tmps:=Ho ps args s.tmps,keep:=s.tmps++s.keep} e with
    | some (.normal,s',e)=>match AQ M fuel b h (dep+1) s' e with
     | some (x,s',e)=>some (x==.normal,({s' with tmps:=s'.keep.take s.tmps.length,keep:=s'.keep.drop s.tmps.length},(if x=.normal then none else some x),e))
     | none=>none
    | _=>none
   else none
  | _=>none
 else
  match r with
  |(s,p,e)=>match h l args e with
   | some (b,e)=>some (b,(s,p,e))
   | none=>none
theorem TM (M:Bf) (fuel:Nat) (f:RX) (ps:List Nat) (asg b:Bu) {E:Type} (h:Ay E) (dep:Nat) (st:St) (e:E) :
  AQ M fuel (.rangeFunc f ps asg b) h dep st e=(match KR st (f.ev st.tmps) with
   | some (.fn g cap,st)=>match M.call (GE E) (KY M fuel asg b h dep ps) (dep+1) (AY g) (Bt g [.yld dep] cap) (st,none,e) with
    | some (_,_,s,p,e)=>some (p.getD .normal,s,e)
    | none=>none
   | _=>none):=rfl
def Gl (M:Bf) (fuel:Nat) (asg:List Nat) (grow:List (Nat×Nat)) (b:Bu) {E:Type} (h:Ay E) (dep:Nat) (ds:List Nat) (s:St×E):Option (Sum (St×E) (Ex×(St×E))) :=
 match AQ M fuel b h dep s.1 s.2 with
 | some (.normal,st,e)=>some (.inl (norm asg grow (drop ds st),e))
 | some (x,st,e)=>some (.inr (x,st,e))
 | none=>none
theorem UJ (M:Bf) (fuel:Nat) (asg:List Nat) (grow:List (Nat×Nat)) (b:Bu) {E:Type} (h:Ay E) (dep:Nat) (st:St) (e:E) :
  AQ M fuel (.loop asg grow b) h dep st e=(match Gn (Gl M fuel asg grow b h dep (undefs (norm asg grow st))) fuel (norm asg grow st,e) with
   | some (x,st,e)=>some (x,st,e)
   | none=>none):=rfl
def JK {σ ρ τ:Type} (f:σ->Option τ) (g:ρ->Option τ):Option (Sum σ ρ)->Option τ
 | some (.inl s)=>f s
 | some (.inr r)=>g r
 | none=>none
theorem Y9 {σ1 σ2 ρ1 ρ2:Type} {R:σ1->σ2->Prop} {Q:ρ1->ρ2->Prop} {s1:σ1->Option (Sum σ1 ρ1)} {s2:Nat->σ2->Option (Sum σ2 ρ2)}
  (rep1:Nat->σ1->Option ρ1) (hz1:∀ s,rep1 0 s=none) (hs1:∀ n s,rep1 (n+1) s=JK (rep1 n) some (s1 s))
  (rep2:Nat->Nat->σ2->Option ρ2) (hs2:∀ k n s,rep2 k (n+1) s=JK (rep2 k n) some (s2 k s))
  (hs:∀ a b,R a b->(∀ a',s1 a=some (.inl a')->∃ b',R a' b'/\Bj fun k=>s2 k b=some (.inl b'))/\(∀ r,s1 a=some (.inr r)->∃ r',Q r r'/\Bj fun k=>s2 k b=some (.inr r'))) :
  ∀ (n:Nat) a b,R a b->∀ r,rep1 n a=some r->∃ r',Q r r'/\Bj fun k=>∀ j,n<=j->rep2 k j b=some r':=by
 intro n;induction n with
 | zero=>intro a b _ r h;rw[hz1] at h;cases h
 | succ n ih =>
  intro a b hr r h;rw[hs1] at h;cases hq:s1 a with
  | none=>rw[hq] at h;cases h
  | some q =>
   rw[hq] at h;cases q with
   | inl a1 =>
    obtain⟨b1,hr1,h2⟩:=(hs a b hr).1 a1 hq;obtain⟨r',hq',h3⟩:=ih a1 b1 hr1 r h
    exact⟨r',hq',h2.mono2 h3 fun k hk hk' j hj=>by
     obtain⟨j,rfl⟩:∃ i,j=i+1:=⟨j - 1,by omega⟩;rw[hs2,hk];exact hk' j (by omega)⟩
   | inr p =>
    cases h;obtain⟨r',hr1,h2⟩:=(hs a b hr).2 r hq
    exact⟨r',hr1,h2.mono fun k hk j hj=>by
     obtain⟨j,rfl⟩:∃ i,j=i+1:=⟨j - 1,by omega⟩;rw[hs2,hk];rfl⟩
theorem OR {σ:Type} (step:σ->Option (Sum σ (Ex×σ))) (n:Nat) (s:σ) :
  Gn step (n+1) s=JK (Gn step n) some (step s):=by
 rw[Gn];rcases step s with _ | (_ | _)<;>rfl
theorem Bj.diag {P:Nat->Nat->Prop} {n:Nat} (h:Bj fun k=>∀ j,n<=j->P k j):Bj fun k=>P k k:=by
 obtain⟨a,ha⟩:=h;exact⟨max a n,fun k hk=>ha k (by omega) k (by omega)⟩
theorem Sd {M1:Bf} {M2:Nat->Bf} (hM:GF M1 M2) {f1:Nat}:∀ (c:Bu) {E1 E2:Type} {RE:E1->E2->Prop} {h1:Ay E1} {h2:Nat->Ay E2} (_:HRel RE h1 h2) (dep:Nat) (st:St) {e1:E1} {e2:E2} (_:RE e1 e2)
  {x:Ex} {st':St} {e1':E1} (_:AQ M1 f1 c h1 dep st e1=some (x,st',e1')),∃ e2',RE e1' e2'/\Bj fun k=>AQ (M2 k) k c (h2 k) dep st e2=some (x,st',e2'):=by
 intro c;induction c with
 | skip=>intro E1 E2 RE h1 h2 hh dep st e1 e2 he x st' e1' h;cases h;exact⟨e2,he,.of fun _=>rfl⟩
 | region ops dr lv =>
  intro E1 E2 RE h1 h2 hh dep st e1 e2 he x st' e1' h;cases dr with
  | none =>
   simp only[AQ] at h |-;cases hq:E5 M1 h1 dep ops ops (Fa (CX ops) st) e1 with
   | none=>rw[hq] at h;cases h
   | some p =>
    obtain⟨s,e⟩:=p;rw[hq] at h;cases h;obtain⟨e2',hr,h2'⟩:=Un hM hh dep ops ops _ he hq;exact⟨e2',hr,h2'.mono fun k hk=>by rw[hk]⟩
  | some bef =>
   simp only[AQ] at h |-;cases hq:Hx M1 h1 dep ops bef [] (Fa (CX ops) st) e1 with
   | none=>rw[hq] at h;cases h
   | some p =>
    obtain⟨s,e⟩:=p;rw[hq] at h;cases h;obtain⟨e2',hr,h2'⟩:=runD_par hM hh dep ops bef [] _ he hq;exact⟨e2',hr,h2'.mono fun k hk=>by rw[hk]⟩
 | seq a b iha ihb =>
  intro E1 E2 RE h1 h2 hh dep st e1 e2 he x st' e1' h;simp only[AQ] at h |-;cases hq:AQ M1 f1 a h1 dep st e1 with
  | none=>rw[hq] at h;cases h
  | some p =>
   obtain⟨y,s,e⟩:=p;rw[hq] at h;obtain⟨e2',hr,h2'⟩:=iha hh dep st he hq;cases y with
   | normal =>
    obtain⟨e3',hr3,h3'⟩:=ihb hh dep s hr h;exact⟨e3',hr3,h2'.mono2 h3' fun k hk hk'=>by rw[hk];exact hk'⟩
   | exit id=>cases h;exact⟨e2',hr,h2'.mono fun k hk=>by rw[hk]⟩
   | ret=>cases h;exact⟨e2',hr,h2'.mono fun k hk=>by rw[hk]⟩
 | cond c a b iha ihb =>
  intro E1 E2 RE h1 h2 hh dep st e1 e2 he x st' e1' h;simp only[AQ] at h |-;cases hc:c.ev st.tmps with
  | bool v =>
   rw[hc] at h;cases v with
   | true=>exact iha hh dep st he h
   | false=>exact ihb hh dep st he h
  | _=>rw[hc] at h;cases h
 | block id b ih =>
  intro E1 E2 RE h1 h2 hh dep st e1 e2 he x st' e1' h;simp only[AQ] at h |-;cases hq:AQ M1 f1 b h1 dep st e1 with
  | none=>rw[hq] at h;cases h
  | some p =>
   obtain⟨y,s,e⟩:=p;rw[hq] at h;obtain⟨e2',hr,h2'⟩:=ih hh dep st he hq;cases y with
   | normal=>cases h;exact⟨e2',hr,h2'.mono fun k hk=>by rw[hk]⟩
   | ret=>cases h;exact⟨e2',hr,h2'.mono fun k hk=>by rw[hk]⟩
   | exit id' =>
    simp only at h |-;split at h<;>rename_i hid;·cases h;exact⟨e2',hr,h2'.mono fun k hk=>by rw[hk];simp only[hid,if_true]⟩
    ·cases h;exact⟨e2',hr,h2'.mono fun k hk=>by rw[hk];simp only[hid,if_false]⟩
 | loop asg grow b ih =>
  intro E1 E2 RE h1 h2 hh dep st e1 e2 he x st' e1' h;simp only[UJ] at h |-;generalize norm asg grow st=z0 at h |-;cases hq:Gn (Gl M1 f1 asg grow b h1 dep (undefs z0)) f1 (z0,e1) with
  | none=>rw[hq] at h;cases h
  | some q =>
   obtain⟨x0,st0,e0⟩:=q;rw[hq] at h;cases h
   obtain⟨⟨x2,s2,e2'⟩,hr,h2'⟩:=Y9 (R:=fun (a:St×E1) (b:St×E2)=>a.1=b.1/\RE a.2 b.2) (Q:=fun (a:Ex×St×E1) (b:Ex×St×E2)=>a.1=b.1/\a.2.1=b.2.1/\RE a.2.2 b.2.2)
    (s1:=Gl M1 f1 asg grow b h1 dep (undefs z0)) (s2:=fun k=>Gl (M2 k) k asg grow b (h2 k) dep (undefs z0))
    (Gn (Gl M1 f1 asg grow b h1 dep (undefs z0))) (fun _=>rfl) (fun n s=>OR _ n s) (fun k=>Gn (Gl (M2 k) k asg grow b (h2 k) dep (undefs z0))) (fun k n s=>OR (Gl (M2 k) k asg grow b (h2 k) dep (undefs z0)) n s) (by
     rintro ⟨a,ea⟩ ⟨b',eb⟩ ⟨h01,hre⟩;simp only at h01 hre;subst h01;refine⟨fun a' ha=>?_,fun r ha=>?_⟩
     ·unfold Gl at ha |-;simp only at ha |-;cases hb:AQ M1 f1 b h1 dep a ea with
      | none=>rw[hb] at ha;cases ha
      | some p =>
       obtain⟨y,s,e⟩:=p;rw[hb] at ha;obtain⟨e3,hr3,h3⟩:=ih hh dep a hre hb;cases y with
       | normal=>cases ha;exact⟨(_,e3),⟨rfl,hr3⟩,h3.mono fun k hk=>by rw[hk]⟩
       | exit id=>cases ha
       | ret=>cases ha
     ·unfold Gl at ha |-;simp only at ha |-;cases hb:AQ M1 f1 b h1 dep a ea with
      | none=>rw[hb] at ha;cases ha
      | some p =>
       obtain⟨y,s,e⟩:=p;rw[hb] at ha;obtain⟨e3,hr3,h3⟩:=ih hh dep a hre hb;cases y with
       | normal=>cases ha
       | exit id=>cases ha;exact⟨(_,_,e3),⟨rfl,rfl,hr3⟩,h3.mono fun k hk=>by rw[hk]⟩
       | ret=>cases ha;exact⟨(_,_,e3),⟨rfl,rfl,hr3⟩,h3.mono fun k hk=>by rw[hk]⟩) f1 (z0,e1) (z0,e2) ⟨rfl,he⟩ _ hq
   simp only at hr;obtain⟨h00,h01,hre⟩:=hr;subst h00;subst h01;exact⟨e2',hre,h2'.diag.mono fun k hk=>by rw[hk]⟩
 | rangeFunc f ps asg b iha ihb =>
  intro E1 E2 RE h1 h2 hh dep st e1 e2 he x st' e1' h;simp only[TM] at h |-;cases hz:KR st (f.ev st.tmps) with
  | none=>rw[hz] at h;cases h
  | some p =>
   obtain⟨v,s0⟩:=p;rw[hz] at h;cases v with
   | fn g cap =>
    simp only at h |-;cases hq:M1.call (GE E1) (KY M1 f1 asg b h1 dep ps) (dep+1) (AY g) (Bt g [.yld dep] cap) (s0,none,e1) with
    | none=>rw[hq] at h;cases h
    | some q =>
     obtain⟨r,obs,s,p,e⟩:=q;rw[hq] at h;cases h
     obtain⟨⟨s2,p2,e2'⟩,hr,h2'⟩:=hM.call (GE E1) (GE E2) (fun (a:GE E1) (b:GE E2)=>a.1=b.1/\a.2.1=b.2.1/\RE a.2.2 b.2.2) (KY M1 f1 asg b h1 dep ps) (fun k=>KY (M2 k) k asg b (h2 k) dep ps) (by
       rintro l args ⟨s,p,e⟩ ⟨s2,p2,e2⟩ ⟨h01,h02,hre⟩ bb ⟨s',p',e'⟩ hq;simp only at h01 h02 hre;subst h01;subst h02;unfold KY at hq |-;by_cases hl:l=dep
       ·simp only[hl,if_true] at hq |-;cases p with
        | some x=>cases hq
        | none =>
         simp only at hq |-;by_cases hlen:args.length=ps.length
         ·simp only[hlen,if_true] at hq |-;cases ha:AQ M1 f1 asg h1 (dep+1) {s with tmps:=Ho ps args s.tmps,keep:=s.tmps++s.keep} e with
          | none=>rw[ha] at hq;cases hq
          | some q =>
           obtain⟨y,s3,e3⟩:=q;rw[ha] at hq;obtain⟨e4,hr4,h4⟩:=iha hh (dep+1) _ hre ha;cases y with
           | normal =>
            simp only at hq |-;cases hb:AQ M1 f1 b h1 (dep+1) s3 e3 with
            | none=>rw[hb] at hq;cases hq
            | some q =>
             obtain⟨y,s5,e5⟩:=q;rw[hb] at hq;obtain⟨e6,hr6,h6⟩:=ihb hh (dep+1) _ hr4 hb;cases hq;exact⟨(_,_,e6),⟨rfl,rfl,hr6⟩,h4.mono2 h6 fun k hk hk'=>by simp only[hk,hk'];rfl⟩
           | exit id=>cases hq
           | ret=>cases hq
         ·simp only[hlen,if_false] at hq;cases hq
       ·simp only[hl,if_false] at hq |-;cases ha:h1 l args e with
        | none=>rw[ha] at hq;cases hq
        | some q =>
         obtain⟨y,e3⟩:=q;rw[ha] at hq;cases hq;obtain⟨e4,hr4,h4⟩:=hh l args _ _ hre _ _ ha;exact⟨(_,_,e4),⟨rfl,rfl,hr4⟩,h4.mono fun k hk=>by rw[hk]⟩) (dep+1) (AY g) (Bt g [.yld dep] cap) (s0,none,e1) (s0,none,e2) ⟨rfl,rfl,he⟩ r obs _ hq
     simp only at hr;obtain⟨h01,h02,hre⟩:=hr;subst h01;subst h02;exact⟨e2',hre,h2'.mono fun k hk=>by simp only at hk;rw[hk]⟩
   | _=>cases h
 | exit id=>intro E1 E2 RE h1 h2 hh dep st e1 e2 he x st' e1' h;cases h;exact⟨e2,he,.of fun _=>rfl⟩
 | norm g=>intro E1 E2 RE h1 h2 hh dep st e1 e2 he x st' e1' h;cases h;exact⟨e2,he,.of fun _=>rfl⟩
 | scope b ih =>
  intro E1 E2 RE h1 h2 hh dep st e1 e2 he x st' e1' h;simp only[AQ] at h |-;cases hq:AQ M1 f1 b h1 dep st e1 with
  | none=>rw[hq] at h;cases h
  | some p =>
   obtain⟨y,s,e⟩:=p;rw[hq] at h;obtain⟨e2',hr,h2'⟩:=ih hh dep st he hq;cases y with
   | normal=>cases h;exact⟨e2',hr,h2'.mono fun k hk=>by rw[hk]⟩
   | ret=>cases h;exact⟨e2',hr,h2'.mono fun k hk=>by rw[hk]⟩
   | exit id' =>
    simp only at h |-;split at h<;>rename_i hid;·cases h;exact⟨e2',hr,h2'.mono fun k hk=>by rw[hk];simp only[hid,if_true]⟩
    ·cases h
 | ret=>intro E1 E2 RE h1 h2 hh dep st e1 e2 he x st' e1' h;cases h;exact⟨e2,he,.of fun _=>rfl⟩
 | dreg=>intro E1 E2 RE h1 h2 hh dep st e1 e2 he x st' e1' h;cases h
 | bad=>intro E1 E2 RE h1 h2 hh dep st e1 e2 he x st' e1' h;cases h
theorem Bj.shift {P:Nat->Prop} (h:Bj P):Bj fun k=>∃ j,k=j+1/\P j:=by
 obtain⟨a,ha⟩:=h;exact⟨a+1,fun k hk=>⟨k - 1,by omega,ha _ (by omega)⟩⟩
theorem HRel.shift {E1 E2:Type} {RE:E1->E2->Prop} {h1:Ay E1} {h2:Nat->Ay E2} (hh:HRel RE h1 h2):HRel RE h1 fun k=>h2 (k+1):=by
 intro l args e1 e2 he b e1' h;obtain⟨e2',hr,a,ha⟩:=hh l args e1 e2 he b e1' h;exact⟨e2',hr,a,fun k hk=>ha _ (by omega)⟩
theorem UT {M1:Bf} {M2:Nat->Bf} (hM:GF M1 M2) (n:Nat) (tab:FuncId->Option Au):Tw (IT M1 n tab) (fun k=>IT (M2 k) k tab):=by
 intro E1 E2 RE h1 h2 hh dep g args e1 e2 he r obs e1' h;simp only[IT] at h |-;cases ht:tab g with
 | none=>rw[ht] at h;cases h
 | some fn =>
  rw[ht] at h;simp only at h |-;cases hq:AQ M1 n fn.code h1 dep {tmps:=args++List.replicate (fn.nt - args.length) .undef,objs:=List.replicate fn.nt [],keep:=[]} e1 with
  | none=>rw[hq] at h;cases h
  | some p =>
   obtain⟨x,s,e⟩:=p;rw[hq] at h;obtain⟨e2',hr,h2'⟩:=Sd hM fn.code hh dep _ he hq;cases x with
   | exit id=>cases h
   | normal =>
    simp only at h;cases h3:FM s fn.res with
    | none=>rw[h3] at h;cases h
    | some vs =>
     rw[h3] at h;simp only at h;cases h4:Jw fn.shut s (Hq vs) with
     | none=>rw[h4] at h;cases h
     | some q =>
      obtain⟨v,obs'⟩:=q;rw[h4] at h;cases h;exact⟨e2',hr,h2'.mono fun k hk=>by simp only[hk,h3,h4]⟩
   | ret =>
    simp only at h;cases h3:FM s fn.res with
    | none=>rw[h3] at h;cases h
    | some vs =>
     rw[h3] at h;simp only at h;cases h4:Jw fn.shut s (Hq vs) with
     | none=>rw[h4] at h;cases h
     | some q =>
      obtain⟨v,obs'⟩:=q;rw[h4] at h;cases h;exact⟨e2',hr,h2'.mono fun k hk=>by simp only[hk,h3,h4]⟩
theorem Zq {r:Option (Ex×St×Unit)} {x:Ex} {st:St} {l:List Nat} (h:Gx r=some (x,st,l)):r=some (x,st,())/\l=[]:=by
 unfold Gx at h;split at h;·cases h;exact⟨rfl,rfl⟩
 ·cases h
theorem evalD_par {M1:Bf} {M2:Nat->Bf} (hM:GF M1 M2) {n nt:Nat}:∀ (c:Bu) (st:St) {x:Ex} {st':St} {l:List Nat},Bk M1 n nt c st=some (x,st',l)->Bj fun k=>Bk (M2 k) k nt c st=some (x,st',l):=by
 have leaf:∀ (c:Bu) (st:St) {x:Ex} {st':St} {l:List Nat},Gx (AQ M1 n c AP 0 st ())=some (x,st',l)->Bj fun k=>Gx (AQ (M2 k) k c AP 0 st ())=some (x,st',l):=by
  intro c st x st' l h;obtain⟨h1,rfl⟩:=Zq h;obtain⟨e2',_,h2'⟩:=Sd (RE:=fun (_ _:Unit)=>True) (h1:=AP) (h2:=fun _=>AP) hM c (fun _ _ _ _ _ _ _ h=>by cases h) 0 _ (e1:=()) (e2:=()) trivial h1;exact h2'.mono fun k hk=>by rw[hk];rfl
 intro c;induction c with
 | dreg ops f args live =>
  intro st x st' l h;simp only[Bk] at h |-;cases hq:E5 M1 AP 0 ops ops (Fa (CX ops) st) () with
  | none=>rw[hq] at h;cases h
  | some p =>
   obtain⟨s,u⟩:=p;rw[hq] at h;obtain⟨e2',_,h2'⟩:=Un (RE:=fun (_ _:Unit)=>True) (h1:=AP) (h2:=fun _=>AP) hM (fun _ _ _ _ _ _ _ h=>by cases h) 0 ops ops _ (e1:=()) (e2:=()) trivial hq;exact h2'.mono fun k hk=>by rw[hk];exact h
 | seq a b iha ihb =>
  intro st x st' l h;simp only[Bk] at h |-;cases hq:Bk M1 n nt a st with
  | none=>rw[hq] at h;cases h
  | some p =>
   obtain⟨y,s,l1⟩:=p;rw[hq] at h;have h1:=iha _ hq;cases y with
   | normal =>
    simp only at h;cases hb:Bk M1 n nt b s with
    | none=>rw[hb] at h;cases h
    | some q =>
     obtain⟨z,s2,l2⟩:=q;rw[hb] at h;exact h1.mono2 (ihb _ hb) fun k g1 g2=>by rw[g1];simp only;rw[g2];exact h
   | exit id=>exact h1.mono fun k g1=>by rw[g1];exact h
   | ret=>exact h1.mono fun k g1=>by rw[g1];exact h
 | cond c a b iha ihb =>
  intro st x st' l h;simp only[Bk] at h |-;split at h;·exact iha _ h
  ·exact ihb _ h
  ·cases h
 | block id b ih =>
  intro st x st' l h;simp only[Bk] at h |-;cases hq:Bk M1 n nt b st with
  | none=>rw[hq] at h;cases h
  | some p =>
   rw[hq] at h;exact (ih _ hq).mono fun k g=>by rw[g];exact h
 | scope b ih =>
  intro st x st' l h;simp only[Bk] at h |-;split at h;·cases h
  rename_i hl;simp only[hl,Z0,if_false];cases hq:Bk M1 n nt b st with
  | none=>rw[hq] at h;cases h
  | some p =>
   rw[hq] at h;exact (ih _ hq).mono fun k g=>by rw[g];exact h
 | skip=>intro st x st' l h;exact leaf _ st h
 | region ops d lv=>intro st x st' l h;exact leaf _ st h
 | loop a g b _=>intro st x st' l h;exact leaf _ st h
 | rangeFunc f ps a b _ _=>intro st x st' l h;exact leaf _ st h
 | exit id=>intro st x st' l h;exact leaf _ st h
 | ret=>intro st x st' l h;exact leaf _ st h
 | norm g=>intro st x st' l h;exact leaf _ st h
 | bad=>intro st x st' l h;exact leaf _ st h
theorem Wy {M1:Bf} {M2:Nat->Bf} (hM:GF M1 M2) {nt:Nat}:∀ (l:List Nat) (st:St) {st':St},G3 M1 nt l st=some st'->Bj fun k=>G3 (M2 k) nt l st=some st':=by
 intro l;induction l with
 | nil=>intro st st' h;exact .of fun _=>h
 | cons n l ih =>
  intro st st' h;unfold G3 at h |-;split at h
  case h_2=>cases h
  rename_i f cap hf;split at h;·cases h
  rename_i hsp;split at h
  case isFalse=>cases h
  rename_i hfl;split at h
  case h_2=>cases h
  rename_i out hout;unfold AI at h;split at h
  case isFalse=>cases h
  rename_i hn;refine (hM.io _ _ _ _ _ hout).mono2 (ih _ h) fun k g1 g2=>?_;rw[<-hM.sp k,hsp,<-hM.isIo k,<-hM.flat k];simp only[hfl,if_true,g1,AI,hn];exact g2
theorem ioRaw_par {M1:Bf} {M2:Nat->Bf} (hM:GF M1 M2) (n:Nat) (fn:Au) (ins:List Ob) (vs:List PV) {r:St×PV} (h:HR M1 n fn ins vs=some r):Bj fun k=>HR (M2 k) k fn ins vs=some r:=by
 unfold HR at h |-;cases hd:DP fn.code with
 | true =>
  simp only[hd,if_true] at h |-;cases hq:AQ M1 n fn.code AP 0 (I8 fn.gone fn.nt ins vs) () with
  | none=>rw[hq] at h;cases h
  | some p =>
   obtain⟨x,s,e⟩:=p;rw[hq] at h;obtain⟨e2',_,h2'⟩:=Sd (RE:=fun (_ _:Unit)=>True) (h1:=AP) (h2:=fun _=>AP) hM fn.code (fun _ _ _ _ _ _ _ h=>by cases h) 0 _ (e1:=()) (e2:=()) trivial hq;refine h2'.mono fun k hk=>?_;rw[hk];exact h
 | false =>
  simp only[hd,Z0,if_false] at h |-;cases hq:Bk M1 n fn.nt fn.code (I8 fn.gone fn.nt ins vs) with
  | none=>rw[hq] at h;cases h
  | some p =>
   obtain⟨x,s,l⟩:=p;rw[hq] at h;have h1:=evalD_par hM fn.code _ hq;cases x with
   | exit id=>cases h
   | normal =>
    simp only at h;cases hq2:G3 M1 fn.nt l s with
    | none=>rw[hq2] at h;cases h
    | some s2 =>
     rw[hq2] at h;exact h1.mono2 (Wy hM l s hq2) fun k g1 g2=>by rw[g1];simp only;rw[g2];exact h
   | ret =>
    simp only at h;cases hq2:G3 M1 fn.nt l s with
    | none=>rw[hq2] at h;cases h
    | some s2 =>
     rw[hq2] at h;exact h1.mono2 (Wy hM l s hq2) fun k g1 g2=>by rw[g1];simp only;rw[g2];exact h
theorem Wi {M1:Bf} {M2:Nat->Bf} (hM:GF M1 M2) (n:Nat) (tab:FuncId->Option Au) (g:FuncId) (dst:Nat) (σ:Nm->Option Ob) (vs:List PV) (out:AO) (h:GC M1 n tab g dst σ vs=some out) :
  Bj fun k=>GC (M2 k) k tab g dst σ vs=some out:=by
 unfold GC at h |-;cases ht:tab g with
 | none=>rw[ht] at h;cases h
 | some fn =>
  rw[ht] at h;simp only at h |-;cases hm:(DU (Bb σ AW (AR vs))).mapM σ with
  | none=>rw[hm] at h;cases h
  | some ins =>
   rw[hm] at h;simp only at h |-;unfold AI at h |-;split at h
   case isFalse=>cases h
   rename_i hc;simp only[hc,if_true];cases hq:HR M1 n fn (ins.map (Ob.ren fun m=>(0,(DU (Bb σ AW (AR vs))).idxOf m))) (Bs (fun m=>(0,(DU (Bb σ AW (AR vs))).idxOf m)) vs) with
   | none=>rw[hq] at h;cases h
   | some p =>
    rw[hq] at h;refine (ioRaw_par hM n fn _ _ hq).mono fun k hk=>?_;rw[hk];exact h
theorem GF.of_tail {M1:Bf} {M2:Nat->Bf} (h:GF M1 fun k=>M2 (k+1)) (h0:M1.sp=(M2 0).sp) (h1:M1.isIo=(M2 0).isIo) (h2:M1.leans=(M2 0).leans) (h3:M1.flat=(M2 0).flat):GF M1 M2 where
 sp k:=by cases k with | zero=>exact h0 | succ k=>exact h.sp k
 call:=by
  intro E1 E2 RE g1 g2 hh dep g args e1 e2 he r obs e1' hq;obtain⟨e2',hr,h2⟩:=h.call E1 E2 RE g1 (fun k=>g2 (k+1)) hh.shift dep g args e1 e2 he r obs e1' hq;exact⟨e2',hr,h2.shift.mono fun k ⟨j,hj,hp⟩=>by subst hj;exact hp⟩
 isIo k:=by cases k with | zero=>exact h1 | succ k=>exact h.isIo k
 leans k:=by cases k with | zero=>exact h2 | succ k=>exact h.leans k
 flat k:=by cases k with | zero=>exact h3 | succ k=>exact h.flat k
 io g dst σ vs out hq:=(h.io g dst σ vs out hq).shift.mono fun k ⟨j,hj,hp⟩=>by subst hj;exact hp
theorem SE (sp:FuncId->(Nm->Option Ob)->List PV->Option AO) (tab:FuncId->Option Au) (n:Nat):(EC sp tab n).sp=sp:=by cases n<;>rfl
theorem RN (sp:FuncId->(Nm->Option Ob)->List PV->Option AO) (tab:FuncId->Option Au) (n:Nat):(EC sp tab n).isIo=Fi tab:=by cases n<;>rfl
theorem Ru (sp:FuncId->(Nm->Option Ob)->List PV->Option AO) (tab:FuncId->Option Au) (n:Nat):(EC sp tab n).leans=GL tab:=by cases n<;>rfl
theorem RO (sp:FuncId->(Nm->Option Ob)->List PV->Option AO) (tab:FuncId->Option Au) (n:Nat):(EC sp tab n).flat=Jx tab:=by cases n<;>rfl
theorem Ww {sp:FuncId->(Nm->Option Ob)->List PV->Option AO} {tab:FuncId->Option Au}:∀ (n:Nat),GF (EC sp tab n) (EC sp tab):=by
 intro n;induction n with
 | zero=>exact {sp:=fun k=>(by rw[SE,SE]),call:=fun E1 E2 RE h1 h2 hh dep g args e1 e2 he r obs e1' h=>(by cases h),isIo:=fun k=>(by rw[RN,RN]),leans:=fun k=>(by rw[Ru,Ru]),flat:=fun k=>(by rw[RO,RO]),io:=fun g dst σ vs out h=>(by cases h)}
 | succ n ih =>
  refine GF.of_tail ⟨fun k=>rfl,?_,fun k=>rfl,fun k=>rfl,fun k=>rfl,fun g dst σ vs out h=>Wi ih n tab g dst σ vs out h⟩ rfl rfl rfl rfl;exact UT ih n tab
theorem RP {sp:FuncId->(Nm->Option Ob)->List PV->Option AO} {tab:FuncId->Option Au} (n:Nat):Tw (B1 sp tab n) (B1 sp tab):=(Ww n).call
end Go.Ab


namespace Go.Ab
def Ac {α β:Type} (x:Option α) (f:α->Option β):Option β :=
 match x with
 | some a=>f a
 | none=>none
def Ah {β:Type} (v:PV) (a b:Option β):Option β :=
 match v with
 | .bool true=>a
 | .bool false=>b
 | _=>none
def DL {β:Type} (v:Bool) (a b:Option β):Option β :=
 match v with
 | true=>a
 | false=>b
def Af {β:Type} (v:Bool) (a:Option β):Option β :=
 match v with
 | true=>a
 | false=>none
mutual
def okV:PV->Bool
 | .undef | .bool _ | .int _ _ | .str _ | .nilS | .nilP | .nilF | .nilI | .nilM | .glob _ _=>true
 | .sl _ xs _=>At xs | .ptr cs _=>At cs | .agg cs=>At cs | .iface _ x=>okV x | .fn _ cap=>At cap | .tup xs=>At xs | .imap es=>At es
 | .yld _ | .ref _ _ | .aref _ _ _ _ | .arr _ _ _ _ | .mp _ | .it _=>false
def At:List PV->Bool
 | []=>true
 | x :: xs=>okV x&&At xs
end
def Ad (op:AC):Option PV :=
 match exec 0 (fun _=>none) [] op with
 | some out=>some out.v
 | none=>none
def I7 (cs:List PV) (o:Nat):PV:=if o < cs.length then .ptr cs o else .undef
def arefO (k k':Nat) (xs:List PV) (i o:Nat):PV:=if k=k' then (match xs[i]? with | some x=>if o < x.cells.length then .ptr x.cells o else .undef | none=>.undef) else .undef
def AD (k k':Nat) (xs:List PV) (o n:Nat):PV:=if k=k'/\o+n<=xs.length then .sl k ((xs.drop o).take n) false else .undef
def Ai (v:PV) (i:Nat):PV:=v.cells.getD i .undef
def AA (v:PV) (n:Nat):Bool:=v.isVal&&v.cells.length==n
def AU (v:PV) (o n:Nat) (ag:Bool):Option PV:=BG v.cells o n ag
def MO (xs:List PV) (i o n:Nat) (ag:Bool):Option PV :=
 match xs[i]? with
 | some e=>BG e.cells o n ag
 | none=>none
def GZ (k:Nat) (xs:List PV) (i o n:Nat) (v:PV):Option (List PV) :=
 match xs[i]? with
 | some (.agg es)=>Af (v.isVal&&decide (v.cells.length=n)&&decide (o+n<=es.length)) (some (xs.set i (.agg (splice es o v.cells))))
 | some _=>Af (k==1&&o==0&&n==1&&v.isCell) (some (xs.set i v))
 | none=>none
def FR (v:PV):Option Nat:=Dx v
def DW (x:Option PV) (d top:Nat):Option Nat:=CM x d top
def IR (k:Nat) (v:PV):Option (List PV):=elems (fun _=>none) k v
def appO (k:Nat) (v:PV) (ys:List PV):Option (List PV) :=
 match v with
 | .nilS=>Af (decide (ys.length<=FA)) (some ys)
 | .sl k' xs true=>match ys with
  | []=>none
  | y :: ys=>Af (k==k'&&decide (xs.length+(ys.length+1)<=FA)) (some (xs++y :: ys))
 | _=>none
def insO (c:TC) (es:List PV) (k v:PV):Option (List PV) :=
 match G0 k v es with
 | some es'=>Af (GX c k&&v.isVal) (some es')
 | none=>none
def lookO (c:TC) (z:PV) (ok:Bool) (es:List PV) (k:PV):Option PV :=
 match DJ k es with
 | none=>none
 | some r=>Af (GX c k) (some (if ok then .tup [r.getD z,.bool r.isSome] else r.getD z))
def Ki (l c:PV):Option Nat :=
 match Dx l,Dx c with
 | some l,some c=>Af (decide (l<=c)&&decide (c<=FA)) (some l)
 | _,_=>none
def strO (v:PV):Option (List UInt8) :=
 match v with
 | .str s=>some s
 | _=>none
def runeP (s:List UInt8) (pos:Nat):PV:=.int .i32 (Utf8.decode ⟨s.toArray⟩ pos).1
def runeN (s:List UInt8) (pos:Nat):Nat:=(Utf8.decode ⟨s.toArray⟩ pos).2
def asP {β:Type} (e:TypeId) (v:PV) (f:PV->Option β) (g:Option β):Option β :=
 match v with
 | .nilI=>g
 | .iface t x=>if t=e then f x else none
 | _=>none
def notNil {β:Type} (v:PV) (a:Option β):Option β :=
 match v with
 | .nilS=>none
 | _=>a
def CO {β:Type} (v:PV) (a:Option β):Option β :=
 match v with
 | .nilS=>a
 | _=>none
def nilB {β:Type} (v:PV) (a b:Option β):Option β :=
 match v with
 | .nilS=>a
 | _=>b
def Ss (v:PV) (i:Nat):Bool :=
 match v.cells[i]? with
 | some .nilS=>false
 | _=>true
def Aa (vs:List PV) (i:Nat):PV:=vs.getD i .undef
def Al (v:PV):Nat :=
 match v with
 | .int _ n=>n.toNat
 | _=>0
def Ap (v:PV):List PV :=
 match v with
 | .sl _ xs _=>xs
 | _=>[]
def Ll (v:PV):List PV :=
 match v with
 | .imap es=>es
 | _=>[]
def strP (v:PV):List UInt8 :=
 match v with
 | .str s=>s
 | _=>[]
def HY (v:PV) (i:Nat):PV :=
 match v with
 | .tup xs=>xs.getD i .undef
 | .agg xs=>xs.getD i .undef
 | _=>.undef
def Av (a b:Nat):Nat:=a+b
def subN (a b:Nat):Nat:=a - b
def minN (a b:Nat):Nat:=min a b
def Az (a b:Nat):Bool:=Nat.ble a b
def D2 (a b:Nat):Bool:=Nat.blt a b
def Ge (a b:Nat):Bool:=Nat.beq a b
def eqOff (a b:Nat):Bool:=Nat.beq a b
def halfN (a:Nat):Nat:=a / 2
def Bi (a b:Bool):Bool:=a&&b
def nI (n:Nat):PV:=.int .i64 (n:Int)
def Ae (l:List PV):Nat:=l.length
def As (n:Nat) (l:List PV):List PV:=l.take n
def AG (n:Nat) (l:List PV):List PV:=l.drop n
def A9 (l l':List PV):List PV:=l++l'
def GU (n:Nat) (v:PV):List PV:=List.replicate n v
def lenS (s:List UInt8):Nat:=s.length
def Ei (v:PV):List PV:=v.cells
def Ij (l:List PV) (n:Nat):Bool:=l.length==n&&At l
def AT (k:Nat) (l:List PV):Bool:=l.all fun x=>x.isVal&&x.cells.length==k
def MC (u w:PV) (o n:Nat):Bool:=u.isVal&&decide (u.cells.length=n)&&decide (o+n<=w.cells.length)
def Hw (u w:PV) (o:Nat):PV:=.agg (splice w.cells o u.cells)
def JD (p:Option Ex):Bool :=
 match p with
 | none=>true
 | _=>false
def IN (p:Option Ex):Bool :=
 match p with
 | some .ret=>true
 | _=>false
def WX (p:Option Ex) (id:Nat):Bool :=
 match p with
 | some (.exit id')=>Nat.beq id' id
 | _=>false
def A1 (v:PV):Bool:=v.isVal
def Bh (v:PV):Bool:=okV v
def AZ (vs:List PV):Bool:=vs.all fun v=>!Hc v
def noYL (vs:List PV):Bool:=!BI vs
def Oe (k:IntKind) (v:PV):Bool :=
 match v with
 | .int k' _=>decide (k'=k)
 | _=>false
def Tq (k:IntKind) (x:Int) (v:PV):Bool :=
 match v with
 | .int k' z=>decide (k'=k)&&decide (z=x)
 | _=>false
open Classical in
noncomputable def lim {α:Type} (f:Nat->Option α):Option α:=if h:∃ a,Bj fun n=>f n=some a then some h.choose else none
theorem NB {α:Type} {f:Nat->Option α} {a:α} (h:lim f=some a):Bj fun n=>f n=some a:=by
 unfold lim at h;split at h
 ·rename_i hx;have:=hx.choose_spec;cases h;exact this
 ·cases h
theorem Bj.unique {α:Type} {f:Nat->Option α} {a b:α} (h:Bj fun n=>f n=some a) (h':Bj fun n=>f n=some b):a=b:=by
 obtain⟨m,hm⟩:=h.and h';have:=hm m (Z5 _);exact cf (this.1.symm.trans this.2)
theorem JM {α:Type} {f:Nat->Option α} {a:α} (h:Bj fun n=>f n=some a):lim f=some a:=by
 unfold lim;have hx:∃ a,Bj fun n=>f n=some a:=⟨a,h⟩;rw[dif_pos hx];exact congrArg some (Bj.unique hx.choose_spec h)
def G1 {σ ρ:Type} (step:σ->Option (Sum σ ρ)):Nat->σ->Option ρ
 | 0,_=>none
 | n+1,s=>JK (G1 step n) some (step s)
noncomputable def Bg {σ ρ:Type} (step:σ->Option (Sum σ ρ)) (s:σ):Option ρ:=lim fun n=>G1 step n s
theorem repS_mono {σ ρ:Type} {step:σ->Option (Sum σ ρ)}:∀ {n m:Nat} {s:σ} {r:ρ},n<=m->G1 step n s=some r->G1 step m s=some r:=by
 intro n;induction n with
 | zero=>intro m s r _ h;cases h
 | succ n ih =>
  intro m s r hm h;obtain⟨m,rfl⟩:∃ k,m=k+1:=⟨m - 1,by omega⟩;unfold G1 at h |-;revert h;rcases step s with _ | (s1 | r1)<;>intro h;·exact h
  ·exact ih (by omega) h
  ·exact h
theorem OV {σ ρ:Type} {step:σ->Option (Sum σ ρ)} {s:σ} {r:ρ} (h:Bg step s=some r):∃ n,G1 step n s=some r:=by
 obtain⟨m,hm⟩:=NB h;exact⟨m,hm m (Z5 _)⟩
theorem Sv {σ ρ:Type} {step:σ->Option (Sum σ ρ)} {s:σ} {r:ρ} {n:Nat} (h:G1 step n s=some r):Bg step s=some r :=
 JM ⟨n,fun _ hk=>repS_mono hk h⟩
theorem Wb {σ ρ:Type} (step:σ->Option (Sum σ ρ)) (s:σ):Bg step s=JK (Bg step) some (step s):=by
 cases hs:step s with
 | none =>
  cases hl:Bg step s with
  | none=>rfl
  | some r =>
   obtain⟨n,hn⟩:=OV hl;cases n with
   | zero=>cases hn
   | succ n=>unfold G1 at hn;rw[hs] at hn;cases hn
 | some q =>
  cases q with
  | inl s1 =>
   show Bg step s=Bg step s1;cases hl:Bg step s with
   | some r =>
    obtain⟨n,hn⟩:=OV hl;cases n with
    | zero=>cases hn
    | succ n=>unfold G1 at hn;rw[hs] at hn;exact (Sv hn).symm
   | none =>
    cases hl1:Bg step s1 with
    | none=>rfl
    | some r =>
     obtain⟨n,hn⟩:=OV hl1;have:Bg step s=some r:=Sv (n:=n+1) (by unfold G1;rw[hs];exact hn);rw[hl] at this;cases this
  | inr r=>exact Sv (n:=1) (by unfold G1;rw[hs];rfl)
theorem Dq {σ ρ:Type} {step:σ->Option (Sum σ ρ)} {s s':σ} (h:step s=some (.inl s')):Bg step s=Bg step s':=by
 rw[Wb,h];rfl
theorem BW {σ ρ:Type} {step:σ->Option (Sum σ ρ)} {s:σ} {r:ρ} (h:step s=some (.inr r)):Bg step s=some r:=by
 rw[Wb,h];rfl
inductive KV where
 | un | sk
 | lit (b:Bool)
 | nils
 | cv (v:PV)
 | yld (d:Nat)
 | ref (nm:Nm) (o:Nat)
 | aref (nm:Nm) (k i o:Nat)
 | arr (nm:Nm) (k o n:Nat)
 | mp (nm:Nm)
 | it (nm:Nm)
 | wit (nm:Nm)
 | agg (cs:List KV)
 | iface (t:TypeId) (x:KV)
 | fn (f:FuncId) (cap:List KV)
 | tup (xs:List KV)
 deriving Inhabited
mutual
def KV.pv:KV->PV
 | .un=>.undef | .sk=>.tup [] | .lit b=>.bool b | .nils=>.nilS | .cv v=>v | .yld d=>.yld d
 | .ref nm o=>.ref nm o | .aref nm k i o=>.aref nm k i o | .arr nm k o n=>.arr nm k o n | .mp nm=>.mp nm | .it nm=>.it nm | .wit nm=>.arr nm 1 0 0
 | .agg cs=>.agg (AN cs) | .iface t x=>.iface t x.pv | .fn f cap=>.fn f (AN cap) | .tup xs=>.tup (AN xs)
def AN:List KV->List PV
 | []=>[]
 | x :: xs=>x.pv :: AN xs
end
mutual
def KV.names:KV->List Nm
 | .un | .sk | .lit _ | .nils | .cv _ | .yld _=>[]
 | .ref nm _=>[nm] | .aref nm _ _ _=>[nm] | .arr nm _ _ _=>[nm] | .mp nm=>[nm] | .it nm=>[nm] | .wit nm=>[nm]
 | .agg cs=>Dt cs | .iface _ x=>x.names | .fn _ cap=>Dt cap | .tup xs=>Dt xs
def Dt:List KV->List Nm
 | []=>[]
 | x :: xs=>x.names++Dt xs
end
mutual
def KV.hasY:KV->Bool
 | .yld _=>true
 | .agg cs=>FG cs | .iface _ x=>x.hasY | .fn _ cap=>FG cap | .tup xs=>FG xs
 | .un | .sk | .lit _ | .nils | .cv _ | .ref _ _ | .aref _ _ _ _ | .arr _ _ _ _ | .mp _ | .it _ | .wit _=>false
def FG:List KV->Bool
 | []=>false
 | x :: xs=>x.hasY||FG xs
end
mutual
def KV.cl:KV->Option PV
 | .lit b=>some (.bool b) | .nils=>some .nilS | .cv v=>some v
 | .agg cs=>(D3 cs).map .agg | .iface t x=>x.cl.map (.iface t) | .fn f cap=>(D3 cap).map (.fn f)
 | .un | .sk | .yld _ | .ref _ _ | .aref _ _ _ _ | .arr _ _ _ _ | .mp _ | .it _ | .wit _ | .tup _=>none
def D3:List KV->Option (List PV)
 | []=>some []
 | x :: xs=>match x.cl,D3 xs with
  | some v,some vs=>some (v :: vs)
  | _,_=>none
end
mutual
def KV.off (p:Nm->Bool):KV->KV
 | .ref nm o=>if p nm then .un else .ref nm o
 | .aref nm k i o=>if p nm then .un else .aref nm k i o
 | .arr nm k o n=>if p nm then .un else .arr nm k o n
 | .mp nm=>if p nm then .un else .mp nm
 | .it nm=>if p nm then .un else .it nm
 | .wit nm=>if p nm then .un else .wit nm
 | .agg cs=>.agg (Kh p cs) | .iface t x=>.iface t (x.off p) | .fn f cap=>.fn f (Kh p cap) | .tup xs=>.tup (Kh p xs)
 | .un=>.un | .sk=>.sk | .lit b=>.lit b | .nils=>.nils | .cv v=>.cv v | .yld d=>.yld d
def Kh (p:Nm->Bool):List KV->List KV
 | []=>[]
 | x :: xs=>x.off p :: Kh p xs
end
mutual
def KV.ren (f:Nm->Nm):KV->KV
 | .ref nm o=>.ref (f nm) o | .aref nm k i o=>.aref (f nm) k i o | .arr nm k o n=>.arr (f nm) k o n | .mp nm=>.mp (f nm) | .it nm=>.it (f nm) | .wit nm=>.wit (f nm)
 | .agg cs=>.agg (FO f cs) | .iface t x=>.iface t (x.ren f) | .fn g cap=>.fn g (FO f cap) | .tup xs=>.tup (FO f xs)
 | .un=>.un | .sk=>.sk | .lit b=>.lit b | .nils=>.nils | .cv v=>.cv v | .yld d=>.yld d
def FO (f:Nm->Nm):List KV->List KV
 | []=>[]
 | x :: xs=>x.ren f :: FO f xs
end
inductive Aj where
 | cells (ty:Nat) (cs:List KV)
 | whole (ty:Nat) (v:PV)
 | arr (k ty:Nat) (xs:List PV)
 | map (es:List PV)
 | siter (s:List UInt8) (pos:Nat)
 deriving Inhabited
def Aj.ob:Aj->Ob
 | .cells ty cs=>.cells ty (AN cs)
 | .whole ty v=>.cells ty (Ei v)
 | .arr k kt xs=>.arr k kt xs
 | .map es=>.map es
 | .siter s pos=>.siter s pos
def Aj.names:Aj->List Nm
 | .cells _ cs=>Dt cs
 | _=>[]
def Aj.off (p:Nm->Bool):Aj->Aj
 | .cells ty cs=>.cells ty (Kh p cs)
 | o=>o
def Aj.ren (f:Nm->Nm):Aj->Aj
 | .cells ty cs=>.cells ty (FO f cs)
 | o=>o
abbrev Sp:=List (Nat×KV)
abbrev Ba:=List (Nat×List Aj)
def A5:Sp->Nat->KV
 | [],_=>.un
 |(j,v) :: l,i=>match Nat.beq i j with
  | true=>v
  | false=>A5 l i
def Dg (i:Nat) (v:KV):Sp->Sp
 | []=>[(i,v)]
 |(j,u) :: l=>match Nat.beq i j with
  | true=>(i,v) :: l
  | false=>match Nat.blt i j with
   | true=>(i,v) :: (j,u) :: l
   | false=>(j,u) :: Dg i v l
def J2 (i:Nat):Sp->Sp
 | []=>[]
 |(j,u) :: l=>match Nat.beq i j with
  | true=>J2 i l
  | false=>(j,u) :: J2 i l
def My (i:Nat) (v:KV) (l:Sp):Sp :=
 match v with
 | .un=>J2 i l
 | v=>Dg i v l
def D9 (f:KV->KV):Sp->Sp
 | []=>[]
 |(j,u) :: l=>match f u with
  | .un=>D9 f l
  | u=>(j,u) :: D9 f l
def F4 (p:Nat->Bool):Sp->Sp
 | []=>[]
 |(j,u) :: l=>match p j with
  | true=>(j,u) :: F4 p l
  | false=>F4 p l
def Gv:Sp->Nat->Bool
 | [],_=>false
 |(j,_) :: l,i=>match Nat.beq i j with
  | true=>true
  | false=>Gv l i
def Fz:Sp->List Nm
 | []=>[]
 |(_,u) :: l=>u.names++Fz l
def Be:Ba->Nat->List Aj
 | [],_=>[]
 |(j,v) :: l,i=>match Nat.beq i j with
  | true=>v
  | false=>Be l i
def ER (i:Nat) (v:List Aj):Ba->Ba
 | []=>[(i,v)]
 |(j,u) :: l=>match Nat.beq i j with
  | true=>(i,v) :: l
  | false=>match Nat.blt i j with
   | true=>(i,v) :: (j,u) :: l
   | false=>(j,u) :: ER i v l
def Fl (f:Aj->Aj):Ba->Ba
 | []=>[]
 |(j,u) :: l=>(j,u.map f) :: Fl f l
def JI (p:Nat->Bool):Ba->Ba
 | []=>[]
 |(j,u) :: l=>match p j with
  | true=>(j,u) :: JI p l
  | false=>JI p l
def HE:Ba->List Nm
 | []=>[]
 |(_,u) :: l=>u.flatMap Aj.names++HE l
structure AE where
 nt:Nat
 tmps:Sp
 objs:Ba
 keep:List Sp
 deriving Inhabited
def BE (nt:Nat) (l:Sp):List PV:=(List.range nt).map fun i=>(A5 l i).pv
def CI (nt:Nat) (l:Ba):List (List Ob):=(List.range nt).map fun i=>(Be l i).map Aj.ob
def AE.st (ks:AE):St:={tmps:=BE ks.nt ks.tmps,objs:=CI ks.nt ks.objs,keep:=ks.keep.flatMap (BE ks.nt)}
def Bm (σ:Ba) (nm:Nm):Option Aj:=(Be σ nm.1)[nm.2]?
def kput (σ:Ba) (nm:Nm) (o:Aj):Ba :=
 match Bm σ nm with
 | some _=>ER nm.1 ((Be σ nm.1).set nm.2 o) σ
 | none=>σ
def GP (σ:Nm->Option Aj):Nat->List Nm->List Nm
 | 0,l=>l
 | d+1,l=>l++GP σ d (l.flatMap fun nm=>((σ nm).map Aj.names).getD [])
def J4 (σ:Nm->Option Aj) (R:List Nm):Bool:=R.all fun nm=>(((σ nm).map Aj.names).getD []).all fun m=>R.contains m
mutual
def KV.close (g:Nm->Option Ob):KV->PV
 | .ref nm o=>match g nm with
  | some (.cells _ cs)=>I7 cs o
  | _=>.undef
 | .aref nm k i o=>match g nm with
  | some (.arr k' kt xs)=>arefO k k' xs i o
  | _=>.undef
 | .arr nm k o n=>match g nm with
  | some (.arr k' kt xs)=>AD k k' xs o n
  | _=>.undef
 | .mp nm=>match g nm with
  | some (.map es)=>.imap es
  | _=>.undef
 | .it _=>.undef
 | .wit nm=>match g nm with
  | some (.arr k' kt xs)=>AD 1 k' xs 0 0
  | _=>.undef
 | .agg cs=>.agg (F6 g cs) | .iface t x=>.iface t (x.close g) | .fn f cap=>.fn f (F6 g cap) | .tup xs=>.tup (F6 g xs)
 | .un=>.undef | .sk=>.tup [] | .lit b=>.bool b | .nils=>.nilS | .cv v=>v | .yld d=>.yld d
def F6 (g:Nm->Option Ob):List KV->List PV
 | []=>[]
 | x :: xs=>x.close g :: F6 g xs
end
def Aj.close (g:Nm->Option Ob):Aj->Ob
 | .cells ty cs=>.cells ty (F6 g cs)
 | o=>o.ob
def Du (σ:Nm->Option Aj):Nat->Nm->Option Ob
 | 0,nm=>(σ nm).map (Aj.close fun _=>none)
 | d+1,nm=>(σ nm).map (Aj.close (Du σ d))
mutual
def KV.frz (p:Nm->Bool) (g:Nm->Option Ob):KV->KV
 | .ref nm o=>if p nm then .cv ((KV.ref nm o).close g) else .ref nm o
 | .aref nm k i o=>if p nm then .cv ((KV.aref nm k i o).close g) else .aref nm k i o
 | .arr nm k o n=>if p nm then .cv ((KV.arr nm k o n).close g) else .arr nm k o n
 | .mp nm=>if p nm then .cv ((KV.mp nm).close g) else .mp nm
 | .it nm=>if p nm then .un else .it nm
 | .wit nm=>if p nm then .cv ((KV.wit nm).close g) else .wit nm
 | .agg cs=>.agg (Kj p g cs) | .iface t x=>.iface t (x.frz p g) | .fn f cap=>.fn f (Kj p g cap) | .tup xs=>.tup (Kj p g xs)
 | .un=>.un | .sk=>.sk | .lit b=>.lit b | .nils=>.nils | .cv v=>.cv v | .yld d=>.yld d
def Kj (p:Nm->Bool) (g:Nm->Option Ob):List KV->List KV
 | []=>[]
 | x :: xs=>x.frz p g :: Kj p g xs
end
def Aj.frz (p:Nm->Bool) (g:Nm->Option Ob):Aj->Aj
 | .cells ty cs=>.cells ty (Kj p g cs)
 | o=>o
def Gy:Aj:=.arr 0 0 []
def Mr (p:Nm->Bool) (ks:AE):AE:={ks with tmps:=D9 (KV.off p) ks.tmps,objs:=Fl (Aj.off p) ks.objs,keep:=ks.keep.map (D9 (KV.off p))}
def PM (σ:Nm->Option Aj) (R:List Nm) (ks:AE):AE :=
 let p:=fun m=>R.contains m
 let g:=Du σ AW
 {ks with tmps:=D9 (KV.frz p g) ks.tmps,objs:=R.foldl (fun objs nm=>kput objs nm Gy) (Fl (Aj.frz p g) ks.objs),keep:=ks.keep.map (D9 (KV.frz p g))}
mutual
def JV {R:Type}:KV->(KV->R)->R
 | .un,K=>K .un | .sk,K=>K .sk | .lit b,K=>(match b with | true=>K (.lit true) | false=>K (.lit false)) | .nils,K=>K .nils | .cv v,K=>K (.cv v) | .yld d,K=>K (.yld d)
 | .ref nm o,K=>(match nm with | (a,b)=>K (.ref (a,b) o)) | .aref nm k i o,K=>(match nm with | (a,b)=>K (.aref (a,b) k i o)) | .arr nm k o n,K=>(match nm with | (a,b)=>K (.arr (a,b) k o n))
 | .mp nm,K=>(match nm with | (a,b)=>K (.mp (a,b))) | .it nm,K=>(match nm with | (a,b)=>K (.it (a,b))) | .wit nm,K=>(match nm with | (a,b)=>K (.wit (a,b)))
 | .agg cs,K=>K5 cs fun cs=>K (.agg cs) | .iface t x,K=>JV x fun x=>K (.iface t x) | .fn f cap,K=>K5 cap fun cap=>K (.fn f cap) | .tup xs,K=>K5 xs fun xs=>K (.tup xs)
def K5 {R:Type}:List KV->(List KV->R)->R
 | [],K=>K []
 | x :: xs,K=>JV x fun x=>K5 xs fun xs=>K (x :: xs)
end
def SX {R:Type}:Aj->(Aj->R)->R
 | .cells ty cs,K=>K5 cs fun cs=>K (.cells ty cs)
 | .whole ty v,K=>K (.whole ty v) | .arr k kt xs,K=>K (.arr k kt xs) | .map es,K=>K (.map es) | .siter s pos,K=>K (.siter s pos)
def PA {R:Type}:List Aj->(List Aj->R)->R
 | [],K=>K []
 | x :: xs,K=>SX x fun x=>PA xs fun xs=>K (x :: xs)
def NX {R:Type}:Sp->(Sp->R)->R
 | [],K=>K []
 |(j,x) :: xs,K=>JV x fun x=>NX xs fun xs=>K ((j,x) :: xs)
def PO {R:Type}:Ba->(Ba->R)->R
 | [],K=>K []
 |(j,x) :: xs,K=>PA x fun x=>PO xs fun xs=>K ((j,x) :: xs)
def PP {R:Type}:List Sp->(List Sp->R)->R
 | [],K=>K []
 | x :: xs,K=>NX x fun x=>PP xs fun xs=>K (x :: xs)
def Dz {R:Type} (ks:AE) (K:AE->R):R :=
 match ks with
 | ⟨nt,tmps,objs,keep⟩=>NX tmps fun a=>PO objs fun b=>PP keep fun c=>K {nt,tmps:=a,objs:=b,keep:=c}
def H0 (v:PV):KV :=
 match v with
 | .bool b=>.lit b
 | .nilS=>.nils
 | .fn f []=>.fn f []
 | v=>.cv v
def RX.kv (tm:Sp):RX->KV
 | .t i=>A5 tm i
 | .c v=>H0 v
def EW:RX->Bool
 | .t _=>true
 | .c v=>okV v
def AC.mapX (g:RX->RX):AC->AC
 | .mov x=>.mov (g x) | .pick c a b=>.pick (g c) (g a) (g b) | .box x=>.box (g x) | .alloc ty z=>.alloc ty z
 | .build z ps=>.build z (ps.map fun p=>(p.1,p.2.1,g p.2.2)) | .mkSl k ps=>.mkSl k (ps.map g) | .load n ag x=>.load n ag (g x) | .store n x v=>.store n (g x) (g v)
 | .nilck x=>.nilck (g x) | .bin op c cst x y=>.bin op c cst (g x) (g y) | .un op x=>.un op (g x) | .conv k x=>.conv k (g x) | .toBytes x=>.toBytes (g x) | .ofBytes x=>.ofBytes (g x)
 | .ofRune x=>.ofRune (g x) | .strId x=>.strId (g x) | .mkI t x=>.mkI t (g x) | .mkF f cap=>.mkF f (cap.map g) | .mkMap=>.mkMap | .insert c x k v=>.insert c (g x) (g k) (g v)
 | .lookup c z ok x k=>.lookup c z ok (g x) (g k) | .mkS k z l c=>.mkS k z (g l) (g c) | .slice k x lo hi mx=>.slice k (g x) (lo.map g) (hi.map g) (mx.map g) | .strSlice x lo hi=>.strSlice (g x) (lo.map g) (hi.map g)
 | .fieldAddr off x=>.fieldAddr off (g x) | .field off n ag x=>.field off n ag (g x) | .idxAddr k x i=>.idxAddr k (g x) (g i) | .idxAddrA k l x i=>.idxAddrA k l (g x) (g i) | .strIdx x i=>.strIdx (g x) (g i)
 | .extract j x=>.extract j (g x) | .len c x=>.len c (g x) | .append k ty s x=>.append k ty (g s) (g x) | .copy k d s=>.copy k (g d) (g s) | .minmax mx xs=>.minmax mx (xs.map g) | .call f args=>.call (g f) (args.map g)
 | .iter x=>.iter (g x) | .next x=>.next (g x) | .tassert t z ok x=>.tassert t z ok (g x) | .bad=>.bad
def instX (tm:Sp) (x:RX):RX:=.c (((x.kv tm).cl).getD .undef)
structure AB where
 v:KV
 new:List Aj:=[]
 upd:Option (Nm×Aj):=none
 kill:Option Nm:=none
 frz:List Nm:=[]
 gone:List Nm:=[]
 ups:List (Nm×Aj):=[]
 io:Bool:=false
 slot:Option Nat:=none
def isG:AC->Bool
 | .build _ _ | .load _ _ _ | .nilck _ | .bin _ _ _ _ _ | .un _ _ | .conv _ _ | .toBytes _ | .ofBytes _ | .ofRune _ | .strId _ | .lookup _ _ _ _ _ | .slice _ _ _ _ _ | .strSlice _ _ _
 | .fieldAddr _ _ | .field _ _ _ _ | .idxAddr _ _ _ | .idxAddrA _ _ _ _ | .strIdx _ _ | .extract _ _ | .len _ _ | .minmax _ _ | .tassert _ _ _ _=>true
 | _=>false
def okOp:AC->Bool
 | .build z _=>At z
 | .lookup _ z _ _ _=>okV z
 | .tassert _ z _ _=>okV z
 | _=>true
def gO {R:Type} (tm:Sp) (op:AC) (K:AB->Option R):Option R :=
 if (isG op&&okOp op&&op.xs.all fun x=>((x.kv tm).cl).isSome) then Ac (Ad (op.mapX (instX tm))) fun z=>K {v:=.cv z} else none
def Qf {R:Type} (n:Nat) (x:KV) (K:List KV->Option R):Option R :=
 match x with
 | .agg cs=>if cs.length=n then K cs else none
 | .cv v=>Af (AA v n) (K ((List.range n).map fun i=>.cv (Ai v i)))
 | .un | .sk | .tup _=>none
 | y=>if n=1 then K [y] else none
def Qv {R:Type} (tm:Sp):List KV->List (Nat×Nat×RX)->(List KV->Option R)->Option R
 | z,[],K=>K z
 | z,(off,n,x) :: ps,K=>Qf n (x.kv tm) fun cs=>if off+n<=z.length then Qv tm (z.take off++cs++z.drop (off+n)) ps K else none
def Oh {R:Type} (σ:Nm->Option Aj) (k:Nat) (x:KV) (K:List PV->Option R):Option R :=
 match x with
 | .arr nm k' o n=>match σ nm with
  | some (.arr k'' kt xs)=>if k=k'/\k'=k'' then Af (Az (Av o n) (Ae xs)) (K (As n (AG o xs))) else none
  | _=>none
 | x=>match x.cl with
  | some v=>Ac (IR k v) K
  | none=>none
def CK {R:Type} (d:Nat) (σ:Nm->Option Aj) (tm:Sp) (op:AC) (K:AB->Option R):Option R :=
 match op with
 | .mov x=>K {v:=x.kv tm}
 | .pick c a b=>match c.kv tm with
  | .lit true=>K {v:=a.kv tm}
  | .lit false=>K {v:=b.kv tm}
  | .cv v=>Ah v (K {v:=a.kv tm}) (K {v:=b.kv tm})
  | _=>none
 | .box x=>match x.kv tm with
  | .cv v=>Af (A1 v) (K {v:=.ref (d,0) 0,new:=[.whole 0 v]})
  | .agg cs=>K {v:=.ref (d,0) 0,new:=[.cells 0 cs]}
  | .un | .sk | .tup _=>none
  | y=>K {v:=.ref (d,0) 0,new:=[.cells 0 [y]]}
 | .alloc ty z=>if At z then K {v:=.ref (d,0) 0,new:=[.cells ty (z.map H0)]} else none
 | .build z ps =>
  if !ps.isEmpty&&((ps.all fun p=>((p.2.2.kv tm).cl).isSome)&&Nat.ble z.length 6) then gO tm (.build z ps) K
  else if At z then Qv tm (z.map H0) ps fun cs=>K {v:=.agg cs} else none
 | .mkSl k ps =>
  let xs:=ps.map (RX.kv tm)
  match D3 xs with
  | some vs=>Af (AT k vs) (K {v:=.arr (d,0) k 0 (Ae vs),new:=[.arr k 0 vs]})
  | none =>
   let R:=GP σ AW (Dt xs)
   if (Dt xs).isEmpty then none
   else if J4 σ R/\FG xs=false then
    let ys:=F6 (Du σ AW) xs
    Af (AT k ys) (K {v:=.arr (d,0) k 0 (Ae ys),new:=[.arr k 0 ys],frz:=R})
   else none
 | .load n ag x=>match x.kv tm with
  | .ref nm o=>match σ nm with
   | some (.cells _ cs)=>if ag then (if o+n<=cs.length then K {v:=.agg ((cs.drop o).take n)} else none) else (match cs[o]? with | some c=>K {v:=c} | none=>none)
   | some (.whole _ v)=>Ac (AU v o n ag) fun z=>K {v:=.cv z}
   | _=>none
  | .aref nm k i o=>match σ nm with
   | some (.arr k' kt xs)=>if k=k' then Ac (MO xs i o n ag) fun z=>K {v:=.cv z} else none
   | _=>none
  | _=>gO tm op K
 | .store n x v=>match x.kv tm with
  | .ref nm o=>match σ nm with
   | some (.cells ty cs)=>Qf n (v.kv tm) fun vs=>if o+n<=cs.length then K {v:=.un,upd:=some (nm,.cells ty (cs.take o++vs++cs.drop (o+n)))} else none
   | some (.whole ty w)=>match (v.kv tm).cl with
    | some u=>Af (MC u w o n) (K {v:=.un,upd:=some (nm,.whole ty (Hw u w o))})
    | none=>none
   | _=>none
  | .aref nm k i o=>match σ nm with
   | some (.arr k' kt xs)=>match (v.kv tm).cl with
    | some u=>if k=k' then Ac (GZ k xs i o n u) fun ys=>K {v:=.un,upd:=some (nm,.arr k kt ys)} else none
    | none=>none
   | _=>none
  | _=>none
 | .nilck x=>match x.kv tm with
  | .ref nm o=>K {v:=.ref nm o}
  | .aref nm k i o=>K {v:=.aref nm k i o}
  | .fn f cap=>K {v:=.fn f cap}
  | .yld l=>K {v:=.yld l}
  | _=>gO tm op K
 | .bin o c cst x y=>match x.kv tm,y.kv tm with
  | .ref _ _,.cv v=>match o with
   | .eql=>DL (match c,v with | .ptr,.nilP=>true | _,_=>false) (K {v:=.lit false}) none
   | .neq=>DL (match c,v with | .ptr,.nilP=>true | _,_=>false) (K {v:=.lit true}) none
   | _=>none
  | _,_=>gO tm op K
 | .un .not x=>match x.kv tm with
  | .lit b=>K {v:=.lit (!b)}
  | _=>gO tm op K
 | .mkI t x=>match (x.kv tm).cl with
  | some v=>K {v:=.cv (.iface t v)}
  | none=>match x.kv tm with
   | .un | .sk | .tup _ | .yld _=>none
   | y=>K {v:=.iface t y}
 | .mkF f cap=>if (cap.map (RX.kv tm)).all fun | .un | .sk | .tup _ | .yld _=>false | _=>true then K {v:=.fn f (cap.map (RX.kv tm))} else none
 | .mkMap=>K {v:=.mp (d,0),new:=[.map []]}
 | .insert c x k v=>match x.kv tm with
  | .mp nm=>match σ nm,(k.kv tm).cl,(v.kv tm).cl with
   | some (.map es),some kk,some vv=>Ac (insO c es kk vv) fun es'=>K {v:=.un,upd:=some (nm,.map es')}
   | some (.map es),some kk,none =>
    let R:=GP σ AW (Dt [v.kv tm])
    if (Dt [v.kv tm]).isEmpty then none
    else if J4 σ R/\FG [v.kv tm]=false/\R.contains nm=false then
     Ac (insO c es kk (Aa (F6 (Du σ AW) [v.kv tm]) 0)) fun es'=>K {v:=.un,upd:=some (nm,.map es'),frz:=R}
    else none
   | _,_,_=>none
  | _=>none
 | .lookup c z ok x k=>match x.kv tm with
  | .mp nm=>match σ nm,(k.kv tm).cl with
   | some (.map es),some kk=>if okV z=true then Ac (lookO c z ok es kk) fun v=>K {v:=.cv v} else none
   | _,_=>none
  | _=>gO tm op K
 | .mkS k z l c=>match (l.kv tm).cl,(c.kv tm).cl with
  | some l,some c=>if z.cells.length=k/\okV z=true then Ac (Ki l c) fun n=>K {v:=.arr (d,0) k 0 n,new:=[.arr k 0 (GU n z)]} else none
  | _,_=>none
 | .slice k x lo hi mx=>match x.kv tm with
  | .arr nm k' o n =>
   if k=k'/\(mx.isNone\/hi.isSome)/\(lo.toList++hi.toList++mx.toList).all fun y=>((y.kv tm).cl).isSome then
    let ev:=fun (y:RX)=>((y.kv tm).cl).getD .undef
    Ac (DW (mx.map ev) n n) fun m=>Ac (DW (hi.map ev) n m) fun h =>
     match lo with
     | none=>K {v:=.arr nm k o h}
     | some lo=>Ac (DW (some (ev lo)) 0 h) fun l=>DL (Bi (Ge h l) (D2 0 l)) (K {v:=.cv (.sl k [] false)}) (K {v:=.arr nm k (Av o l) (subN h l)})
   else none
  | _=>gO tm op K
 | .fieldAddr off x=>match x.kv tm with
  | .ref nm o=>K {v:=.ref nm (o+off)}
  | .aref nm k i o=>K {v:=.aref nm k i (o+off)}
  | _=>gO tm op K
 | .field off n ag x=>match x.kv tm with
  | .agg cs=>if ag then (if off+n<=cs.length then K {v:=.agg ((cs.drop off).take n)} else none) else (match cs[off]? with | some c=>K {v:=c} | none=>none)
  | _=>gO tm op K
 | .idxAddr k x i=>match x.kv tm with
  | .arr nm k' o n=>match (i.kv tm).cl with
   | some i=>if k=k' then Ac (FR i) fun j=>Af (D2 j n) (K {v:=.aref nm k (Av o j) 0}) else none
   | none=>none
  | _=>gO tm op K
 | .extract j x=>match x.kv tm with
  | .tup xs=>match xs[j]? with
   | some v=>K {v}
   | none=>none
  | _=>gO tm op K
 | .len c x=>match x.kv tm with
  | .arr _ _ _ n=>match c with
   | .slice=>K {v:=.cv (nI n)}
   | _=>none
  | .mp nm=>match c,σ nm with
   | .map,some (.map es)=>K {v:=.cv (nI (halfN (Ae es)))}
   | _,_=>none
  | _=>gO tm op K
 | .ofBytes x=>match x.kv tm with
  | .arr nm k o n=>Oh σ 1 (.arr nm k o n) fun ys=>Ac (Ad (.ofBytes (.c (.sl 1 ys false)))) fun z=>K {v:=.cv z}
  | _=>gO tm op K
 | .append k ty s x=>Oh σ k (x.kv tm) fun ys =>
  match s.kv tm with
  | .arr nm k' o n=>match σ nm with
   | some (.arr k'' kt xs)=>if k=k'/\k'=k''/\o=0 then Af (Bi (Az n (Ae xs)) (Az (Av n (Ae ys)) FA)) (K {v:=.arr nm k 0 (Av n (Ae ys)),upd:=some (nm,.arr k (if kt=ty then ty else 0) (A9 (As n xs) ys)),kill:=some nm}) else none
   | _=>none
  | .nils=>Af (Az (Ae ys) FA) (K {v:=.arr (d,0) k 0 (Ae ys),new:=[.arr k ty ys]})
  | .cv v=>Ac (appO k v ys) fun zs=>K {v:=.arr (d,0) k 0 (Ae zs),new:=[.arr k ty zs]}
  | _=>none
 | .copy k x s=>Oh σ k (s.kv tm) fun ys =>
  match x.kv tm with
  | .arr nm k' o n=>match σ nm with
   | some (.arr k'' kt xs)=>if k=k'/\k'=k'' then Af (Az (Av o n) (Ae xs)) (K {v:=.cv (nI (minN (Ae ys) n)),upd:=some (nm,.arr k kt (A9 (A9 (As o xs) (As n ys)) (AG (Av o (Ae (As n ys))) xs)))}) else none
   | _=>none
  | .nils=>K {v:=.cv (nI 0)}
  | _=>none
 | .iter x=>match (x.kv tm).cl with
  | some v=>Ac (strO v) fun s=>K {v:=.it (d,0),new:=[.siter s 0]}
  | none=>none
 | .next x=>match x.kv tm with
  | .it nm=>match σ nm with
   | some (.siter s pos)=>DL (D2 pos (lenS s)) (K {v:=.tup [.lit true,.cv (nI pos),.cv (runeP s pos)],upd:=some (nm,.siter s (Av pos (runeN s pos)))}) (K {v:=.tup [.lit false]})
   | _=>none
  | _=>none
 | .tassert t z ok x=>match x.kv tm with
  | .iface u y=>if u=t then K {v:=if ok then .tup [y,.lit true] else y} else if ok=true/\okV z=true then K {v:=.tup [.cv z,.lit false]} else none
  | _=>gO tm op K
 | .call _ _=>none
 | .bad=>none
 | _=>gO tm op K
def kupd (u:Option (Nm×Aj)) (ks:AE):AE :=
 match u with
 | some (nm,ob)=>{ks with objs:=kput ks.objs nm ob}
 | none=>ks
def MK (k:Option Nm) (ks:AE):AE :=
 match k with
 | some nm=>Mr (fun m=>m==nm) ks
 | none=>ks
def Oz (σ:Nm->Option Aj) (R:List Nm) (ks:AE):AE :=
 match R with
 | []=>ks
 | nm :: R=>PM σ (nm :: R) ks
def ML (l:List Nm) (ks:AE):AE :=
 match l with
 | []=>ks
 | nm :: l=>Mr (fun m=>(nm :: l).contains m) ks
def kups:List (Nm×Aj)->Ba->Ba
 | [],σ=>σ
 |(nm,o) :: l,σ=>kups l (kput σ nm o)
def kset (dst:Option Nat) (v:KV) (new:List Aj) (ks:AE):AE :=
 match dst with
 | some d=>match Nat.blt d ks.nt with
  | true=>{ks with tmps:=My d v ks.tmps,objs:=match new with | []=>ks.objs | x :: xs=>ER d (x :: xs) ks.objs}
  | false=>ks
 | none=>ks
def MI (l:List (Nm×Aj)) (ks:AE):AE:={ks with objs:=kups l ks.objs}
def kext (sl:Option Nat) (new:List Aj) (ks:AE):AE :=
 match sl with
 | some r=>match Nat.blt r ks.nt with
  | true=>{ks with objs:=ER r (Be ks.objs r++new) ks.objs}
  | false=>ks
 | none=>ks
def Ou (sl:Option Nat) (new:List Aj):List Aj :=
 match sl with
 | some _=>[]
 | none=>new
def GQ (ks:AE) (dst:Option Nat) (o:AB):AE:=kset dst o.v (Ou o.slot o.new) (kext o.slot o.new<|MI o.ups (ML o.gone (Oz (Bm ks.objs) o.frz (MK o.kill (kupd o.upd ks)))))
mutual
def Bp:KV->KV->Bool
 | .un,x=>match x with | .un=>true | _=>false
 | .sk,x=>match x with | .sk=>true | _=>false
 | .yld _,x=>match x with | .yld _=>true | _=>false
 | .ref nm o,x=>match x with | .ref nm' o'=>nm==nm'&&o==o' | _=>false
 | .aref _ _ _ _,_=>false
 | .arr nm k o _,x=>match x with | .arr nm' k' o' _=>nm==nm'&&k==k'&&Nat.beq o o' | _=>false
 | .mp nm,x=>match x with | .mp nm'=>nm==nm' | _=>false
 | .it nm,x=>match x with | .it nm'=>nm==nm' | _=>false
 | .wit nm,x=>match x with | .wit nm'=>nm==nm' | _=>false
 | .fn f cap,x=>match x with | .fn f' cap'=>f==f'&&Ep cap cap' | _=>false
 | .tup xs,x=>match x with | .tup ys=>Ep xs ys | _=>false
 | .lit _,x=>x.cl.isSome
 | .nils,x=>x.cl.isSome
 | .cv _,x=>x.cl.isSome
 | .agg cs,x=>if (D3 cs).isSome then x.cl.isSome else match x with | .agg cs'=>Ep cs cs' | _=>false
 | .iface t y,x=>if y.cl.isSome then x.cl.isSome else match x with | .iface t' y'=>t==t'&&Bp y y' | _=>false
def Ep:List KV->List KV->Bool
 | [],l=>match l with | []=>true | _=>false
 | x :: xs,l=>match l with | y :: ys=>Bp x y&&Ep xs ys | _=>false
end
mutual
def Cc:KV->KV->List PV
 | .un,_=>[] | .sk,_=>[] | .yld _,x=>(match x with | .yld d=>[nI d] | _=>[]) | .ref _ _,_=>[] | .aref _ _ _ _,_=>[] | .mp _,_=>[] | .it _,_=>[] | .wit _,_=>[]
 | .arr _ _ _ _,x=>match x with | .arr _ _ _ n=>[nI n] | _=>[]
 | .fn _ cap,x=>match x with | .fn _ cap'=>Gq cap cap' | _=>[]
 | .tup xs,x=>match x with | .tup ys=>Gq xs ys | _=>[]
 | .lit _,x=>[x.cl.getD .undef]
 | .nils,x=>[x.cl.getD .undef]
 | .cv _,x=>[x.cl.getD .undef]
 | .agg cs,x=>if (D3 cs).isSome then [x.cl.getD .undef] else match x with | .agg cs'=>Gq cs cs' | _=>[]
 | .iface _ y,x=>if y.cl.isSome then [x.cl.getD .undef] else match x with | .iface _ y'=>Cc y y' | _=>[]
def Gq:List KV->List KV->List PV
 | [],_=>[]
 | x :: xs,l=>match l with | y :: ys=>Cc x y++Gq xs ys | _=>[]
end
mutual
def fill:KV->List PV->Nat->KV×Nat
 | .un,_,i=>(.un,i) | .sk,_,i=>(.sk,i) | .yld _,vs,i=>(.yld (Al (Aa vs i)),i+1) | .ref nm o,_,i=>(.ref nm o,i) | .aref nm k j o,_,i=>(.aref nm k j o,i) | .mp nm,_,i=>(.mp nm,i) | .it nm,_,i=>(.it nm,i) | .wit nm,_,i=>(.wit nm,i)
 | .arr nm k o _,vs,i=>(.arr nm k o (Al (Aa vs i)),i+1)
 | .fn f cap,vs,i=>let p:=C6 cap vs i;(.fn f p.1,p.2)
 | .tup xs,vs,i=>let p:=C6 xs vs i;(.tup p.1,p.2)
 | .lit _,vs,i=>(.cv (Aa vs i),i+1)
 | .nils,vs,i=>(.cv (Aa vs i),i+1)
 | .cv _,vs,i=>(.cv (Aa vs i),i+1)
 | .agg cs,vs,i=>if (D3 cs).isSome then (.cv (Aa vs i),i+1) else let p:=C6 cs vs i;(.agg p.1,p.2)
 | .iface t y,vs,i=>if y.cl.isSome then (.cv (Aa vs i),i+1) else let p:=fill y vs i;(.iface t p.1,p.2)
def C6:List KV->List PV->Nat->List KV×Nat
 | [],_,i=>([],i)
 | x :: xs,vs,i=>let p:=fill x vs i;let q:=C6 xs vs p.2;(p.1 :: q.1,q.2)
end
def DA:Aj->Aj->Bool
 | .cells ty cs,x=>match x with | .cells ty' cs'=>ty==ty'&&Ep cs cs' | _=>false
 | .whole ty _,x=>match x with | .whole ty' _=>ty==ty' | _=>false
 | .arr k t _,x=>match x with | .arr k' t' _=>k==k'&&t==t' | _=>false
 | .map _,x=>match x with | .map _=>true | _=>false
 | .siter _ _,x=>match x with | .siter _ _=>true | _=>false
def G9:Aj->Aj->List PV
 | .cells _ cs,x=>match x with | .cells _ cs'=>Gq cs cs' | _=>[]
 | .whole _ _,x=>match x with | .whole _ v=>[v] | _=>[]
 | .arr k _ _,x=>match x with | .arr _ _ xs=>[.sl k xs false] | _=>[]
 | .map _,x=>match x with | .map es=>[.imap es] | _=>[]
 | .siter _ _,x=>match x with | .siter s pos=>[.str s,nI pos] | _=>[]
def Cs:Aj->List PV->Nat->Aj×Nat
 | .cells ty cs,vs,i=>let p:=C6 cs vs i;(.cells ty p.1,p.2)
 | .whole ty _,vs,i=>(.whole ty (Aa vs i),i+1)
 | .arr k t _,vs,i=>(.arr k t (Ap (Aa vs i)),i+1)
 | .map _,vs,i=>(.map (Ll (Aa vs i)),i+1)
 | .siter _ _,vs,i=>(.siter (strP (Aa vs i)) (Al (Aa vs (i+1))),i+2)
def EN:List Aj->List Aj->Bool
 | [],[]=>true
 | x :: xs,y :: ys=>DA x y&&EN xs ys
 | _,_=>false
def Iv:List Aj->List Aj->List PV
 | x :: xs,y :: ys=>G9 x y++Iv xs ys
 | _,_=>[]
def C5:List Aj->List PV->Nat->List Aj×Nat
 | [],_,i=>([],i)
 | x :: xs,vs,i=>let p:=Cs x vs i;let q:=C5 xs vs p.2;(p.1 :: q.1,q.2)
def I4:Sp->Sp->Bool
 | [],[]=>true
 |(i,x) :: xs,(j,y) :: ys=>Nat.beq i j&&(Bp x y&&I4 xs ys)
 | _,_=>false
def G8:Sp->Sp->List PV
 |(_,x) :: xs,(_,y) :: ys=>Cc x y++G8 xs ys
 | _,_=>[]
def Fk:Sp->List PV->Nat->Sp×Nat
 | [],_,i=>([],i)
 |(j,x) :: xs,vs,i=>let p:=fill x vs i;let q:=Fk xs vs p.2;((j,p.1) :: q.1,q.2)
def J8:Ba->Ba->Bool
 | [],[]=>true
 |(i,x) :: xs,(j,y) :: ys=>Nat.beq i j&&(EN x y&&J8 xs ys)
 | _,_=>false
def LV:Ba->Ba->List PV
 |(_,x) :: xs,(_,y) :: ys=>Iv x y++LV xs ys
 | _,_=>[]
def GS:Ba->List PV->Nat->Ba×Nat
 | [],_,i=>([],i)
 |(j,x) :: xs,vs,i=>let p:=C5 x vs i;let q:=GS xs vs p.2;((j,p.1) :: q.1,q.2)
def J9:List Sp->List Sp->Bool
 | [],[]=>true
 | x :: xs,y :: ys=>I4 x y&&J9 xs ys
 | _,_=>false
def Pv:List Sp->List Sp->List PV
 | x :: xs,y :: ys=>G8 x y++Pv xs ys
 | _,_=>[]
def K8:List Sp->List PV->Nat->List Sp×Nat
 | [],_,i=>([],i)
 | x :: xs,vs,i=>let p:=Fk x vs i;let q:=K8 xs vs p.2;(p.1 :: q.1,q.2)
def MN (p x:AE):Bool:=Nat.beq p.nt x.nt&&(I4 p.tmps x.tmps&&(J8 p.objs x.objs&&J9 p.keep x.keep))
def Fe (p x:AE):List PV:=G8 p.tmps x.tmps++LV p.objs x.objs++Pv p.keep x.keep
def CH (p:AE) (vs:List PV):AE :=
 let a:=Fk p.tmps vs 0
 let b:=GS p.objs vs a.2
 let c:=K8 p.keep vs b.2
 {nt:=p.nt,tmps:=a.1,objs:=b.1,keep:=c.1}
mutual
def EB:KV->KV->Bool
 | .un,x=>match x with | .un=>true | _=>false
 | .sk,x=>match x with | .sk=>true | _=>false
 | .yld _,x=>match x with | .yld _=>true | _=>false
 | .ref nm o,x=>match x with | .ref nm' o'=>nm==nm'&&o==o' | _=>false
 | .aref _ _ _ _,_=>false
 | .arr nm k _ _,x=>match x with | .arr nm' k' _ _=>nm==nm'&&k==k' | _=>false
 | .mp nm,x=>match x with | .mp nm'=>nm==nm' | _=>false
 | .it nm,x=>match x with | .it nm'=>nm==nm' | _=>false
 | .wit nm,x=>match x with | .wit nm'=>nm==nm' | _=>false
 | .fn f cap,x=>match x with | .fn f' cap'=>f==f'&&I5 cap cap' | _=>false
 | .tup xs,x=>match x with | .tup ys=>I5 xs ys | _=>false
 | .lit _,x=>x.cl.isSome
 | .nils,x=>x.cl.isSome
 | .cv _,x=>x.cl.isSome
 | .agg cs,x=>if (D3 cs).isSome then x.cl.isSome else match x with | .agg cs'=>I5 cs cs' | _=>false
 | .iface t y,x=>if y.cl.isSome then x.cl.isSome else match x with | .iface t' y'=>t==t'&&EB y y' | _=>false
def I5:List KV->List KV->Bool
 | [],l=>match l with | []=>true | _=>false
 | x :: xs,l=>match l with | y :: ys=>EB x y&&I5 xs ys | _=>false
end
mutual
def HQ:KV->KV->List Bool
 | .arr _ _ o _,x=>match x with | .arr _ _ o' _=>[eqOff o o'] | _=>[]
 | .fn _ cap,x=>match x with | .fn _ cap'=>IV cap cap' | _=>[]
 | .tup xs,x=>match x with | .tup ys=>IV xs ys | _=>[]
 | .agg cs,x=>match x with | .agg cs'=>IV cs cs' | _=>[]
 | .iface _ y,x=>match x with | .iface _ y'=>HQ y y' | _=>[]
 | .un,_ | .sk,_ | .yld _,_ | .ref _ _,_ | .aref _ _ _ _,_ | .mp _,_ | .it _,_ | .wit _,_ | .lit _,_ | .nils,_ | .cv _,_=>[]
def IV:List KV->List KV->List Bool
 | [],_=>[]
 | x :: xs,l=>match l with | y :: ys=>HQ x y++IV xs ys | _=>[]
end
def Tt:Aj->Aj->Bool
 | .cells ty cs,x=>match x with | .cells ty' cs'=>ty==ty'&&I5 cs cs' | _=>false
 | .whole ty v,x=>DA (.whole ty v) x | .arr k t xs,x=>DA (.arr k t xs) x | .map es,x=>DA (.map es) x | .siter s p,x=>DA (.siter s p) x
def Td:Aj->Aj->List Bool
 | .cells _ cs,x=>match x with | .cells _ cs'=>IV cs cs' | _=>[]
 | _,_=>[]
def Md:List Aj->List Aj->Bool
 | [],[]=>true
 | x :: xs,y :: ys=>Tt x y&&Md xs ys
 | _,_=>false
def L7:List Aj->List Aj->List Bool
 | x :: xs,y :: ys=>Td x y++L7 xs ys
 | _,_=>[]
def K7:Sp->Sp->Bool
 | [],[]=>true
 |(i,x) :: xs,(j,y) :: ys=>Nat.beq i j&&(EB x y&&K7 xs ys)
 | _,_=>false
def K0:Sp->Sp->List Bool
 |(_,x) :: xs,(_,y) :: ys=>HQ x y++K0 xs ys
 | _,_=>[]
def Mu:Ba->Ba->Bool
 | [],[]=>true
 |(i,x) :: xs,(j,y) :: ys=>Nat.beq i j&&(Md x y&&Mu xs ys)
 | _,_=>false
def Ml:Ba->Ba->List Bool
 |(_,x) :: xs,(_,y) :: ys=>L7 x y++Ml xs ys
 | _,_=>[]
def Mv:List Sp->List Sp->Bool
 | [],[]=>true
 | x :: xs,y :: ys=>K7 x y&&Mv xs ys
 | _,_=>false
def Mm:List Sp->List Sp->List Bool
 | x :: xs,y :: ys=>K0 x y++Mm xs ys
 | _,_=>[]
def K6 (p x:AE):Bool:=Nat.beq p.nt x.nt&&(K7 p.tmps x.tmps&&(Mu p.objs x.objs&&Mv p.keep x.keep))
def N8 (p x:AE):List Bool:=K0 p.tmps x.tmps++(Ml p.objs x.objs++Mm p.keep x.keep)
def chks {β:Type}:List Bool->Option β->Option β
 | [],a=>a
 | b :: l,a=>Af b (chks l a)
mutual
def Ch:KV->PV->Option (List PV)
 | .un,x=>match x with | .undef=>some [] | _=>none
 | .sk,x=>match x with | .tup []=>some [] | _=>none
 | .yld _,x=>match x with | .yld d=>some [nI d] | _=>none
 | .aref _ _ _ _,_=>none
 | .wit nm,x=>match x with | .arr nm' 1 0 0=>Af (nm==nm') (some []) | _=>none
 | .ref nm o,x=>match x with | .ref nm' o'=>Af (nm==nm'&&o==o') (some []) | _=>none
 | .mp nm,x=>match x with | .mp nm'=>Af (nm==nm') (some []) | _=>none
 | .it nm,x=>match x with | .it nm'=>Af (nm==nm') (some []) | _=>none
 | .arr nm k o _,x=>match x with | .arr nm' k' o' n=>Af (nm==nm'&&k==k'&&Nat.beq o o') (some [nI n]) | _=>none
 | .lit _,x=>Af (okV x) (some [x])
 | .nils,x=>Af (okV x) (some [x])
 | .cv _,x=>Af (okV x) (some [x])
 | .fn f cap,x=>match x with | .fn f' cap'=>if f=f' then HS cap cap' else none | _=>none
 | .tup xs,x=>match x with | .tup ys=>HS xs ys | _=>none
 | .agg cs,x=>if (D3 cs).isSome then Af (okV x) (some [x]) else match x with | .agg cs'=>HS cs cs' | _=>none
 | .iface t y,x=>if y.cl.isSome then Af (okV x) (some [x]) else match x with | .iface t' y'=>if t=t' then Ch y y' else none | _=>none
def HS:List KV->List PV->Option (List PV)
 | [],l=>match l with | []=>some [] | _=>none
 | x :: xs,l=>match l with
  | y :: ys=>match Ch x y,HS xs ys with
   | some a,some b=>some (a++b)
   | _,_=>none
  | _=>none
end
def Fj:Aj->Ob->Option (List PV)
 | .cells ty cs,x=>match x with | .cells ty' cs'=>if ty=ty' then HS cs cs' else none | _=>none
 | .whole ty _,x=>match x with | .cells ty' cs'=>Af (ty==ty'&&At cs') (some [.agg cs']) | _=>none
 | .arr k t _,x=>match x with | .arr k' t' xs=>Af (k==k'&&t==t'&&At xs) (some [.sl k xs false]) | _=>none
 | .map _,x=>match x with | .map es=>Af (At es) (some [.imap es]) | _=>none
 | .siter _ _,x=>match x with | .siter s pos=>some [.str s,nI pos] | _=>none
def IH:List Aj->List Ob->Option (List PV)
 | [],l=>match l with | []=>some [] | _=>none
 | x :: xs,l=>match l with
  | y :: ys=>match Fj x y,IH xs ys with
   | some a,some b=>some (a++b)
   | _,_=>none
  | _=>none
structure BK where
 args:List KV
 ins:List Aj
 res:KV
 outs:List Aj
 news:List Aj
 gone:List Nat
 deriving Inhabited
def Qy (P:BK) (out:AO):Option (List PV) :=
 if out.gone=P.gone.map (fun j=>(0,j)) then
  match Ch P.res out.v,IH P.outs (out.ups.map (·.2)),IH P.news out.new with
  | some a,some b,some c=>some (a++(b++c))
  | _,_,_=>none
 else none
def EO (k:Nat):List Nm:=(List.range k).map fun j=>(0,j)
inductive Bq where
 | cl
 | own (k:Nat)
 | opt (k:Nat)
 | tup (l:List Bq)
 | agg (l:List Bq)
 deriving Inhabited
mutual
def CL (obs:List Ob):Bq->Nat->PV->Option (PV×Nat)
 | .cl,j,v=>Af (okV v) (some (v,j))
 | .own k,j,v=>match v,obs[j]? with
  | .arr nm k' o n,some (.arr k'' kt xs)=>Af (nm==(0,j)&&k==k'&&k==k''&&o==0&&n==xs.length&&kt==0&&At xs) (some (.sl k xs false,j+1))
  | _,_=>none
 | .opt k,j,v=>match v,obs[j]? with
  | .nilS,_=>some (.nilS,j)
  | .arr nm k' o n,some (.arr k'' kt xs)=>Af (nm==(0,j)&&k==k'&&k==k''&&o==0&&n==xs.length&&kt==0&&At xs) (some (.sl k xs false,j+1))
  | _,_=>none
 | .tup l,j,v=>match v with
  | .tup vs=>(F5 obs l j vs).map fun p=>(.tup p.1,p.2)
  | _=>none
 | .agg l,j,v=>match v with
  | .agg vs=>(F5 obs l j vs).map fun p=>(.agg p.1,p.2)
  | _=>none
def F5 (obs:List Ob):List Bq->Nat->List PV->Option (List PV×Nat)
 | [],j,[]=>some ([],j)
 | s :: l,j,v :: vs=>match CL obs s j v with
  | some (u,j)=>(F5 obs l j vs).map fun p=>(u :: p.1,p.2)
  | none=>none
 | _,_,_=>none
end
def El (sh:Bq) (v:PV) (obs:List Ob):Option PV :=
 match CL obs sh 0 v with
 | some (r,j)=>Af (j==obs.length) (some r)
 | none=>none
mutual
def D0 (d:Nat):Bq->Nat->PV->KV×List Aj×Nat
 | .cl,j,r=>(.cv r,[],j)
 | .own k,j,r=>(.arr (d,j) k 0 (Ae (Ap r)),[.arr k 0 (Ap r)],j+1)
 | .opt _,j,r=>(.cv r,[],j)
 | .tup l,j,r=>let p:=Im d l j r 0;(.tup p.1,p.2)
 | .agg l,j,r=>let p:=Im d l j r 0;(.agg p.1,p.2)
def Im (d:Nat):List Bq->Nat->PV->Nat->List KV×List Aj×Nat
 | [],j,_,_=>([],[],j)
 | s :: l,j,r,i =>
  let p:=D0 d s j (HY r i)
  let q:=Im d l p.2.2 r (i+1)
  (p.1 :: q.1,p.2.1++q.2.1,q.2.2)
end
mutual
def IE {R:Type}:Bq->PV->(Bq->Option R)->Option R
 | .cl,_,K=>K .cl
 | .own k,_,K=>K (.own k)
 | .opt k,u,K=>nilB u (K .cl) (K (.own k))
 | .tup l,u,K=>Nw l u 0 fun l=>K (.tup l)
 | .agg l,u,K=>Nw l u 0 fun l=>K (.agg l)
def Nw {R:Type}:List Bq->PV->Nat->(List Bq->Option R)->Option R
 | [],_,_,K=>K []
 | s :: l,u,i,K=>IE s (HY u i) fun s=>Nw l u (i+1) fun l=>K (s :: l)
end
mutual
def Bq.fix:Bq->Bool
 | .opt _=>false
 | .cl | .own _=>true
 | .tup l | .agg l=>fixL l
def fixL:List Bq->Bool
 | []=>true
 | s :: l=>s.fix&&fixL l
end
structure KB where
 sp:FuncId->(Nm->Option Ob)->List PV->Option AO
 L:Ht
 I:FuncId->List Ob->List PV->Option (St×PV)
 isIo:FuncId->Bool
 leans:FuncId->Bool
structure D1 where
 b:KB
 spF:FuncId->Bool
 asT:FuncId->TypeId->Option (TypeId×Nat)
 rsh:FuncId->Bq×Bool
 dsh:Nat->Bq
 ioF:FuncId->Option (List KV->List Aj->BK)
 spK:FuncId->Option ((Nm->Option Aj)->List KV->Option (Bool×AB)):=fun _=>none
 flatF:FuncId->Bool:=fun _=>false
def spO (sp:FuncId->(Nm->Option Ob)->List PV->Option AO) (g:FuncId) (vs:List PV):Option (Option (PV×List Ob)) :=
 match sp g (fun _=>none) vs with
 | some out=>Af (out.upd.isNone&&out.kill.isNone&&out.frz.isEmpty&&out.gone.isEmpty&&out.ups.isEmpty&&!out.io&&out.slot.isNone) (some (some (out.v,out.new)))
 | none=>some none
noncomputable def Ax (B:KB) (sh:Bq) (f:PV) (args:List PV):Option PV :=
 match f with
 | .fn g cap=>match spO B.sp (AY g) (Bt g args cap) with
  | some (some (v,obs))=>El sh v obs
  | some none=>if B.isIo (AY g) then none else match B.L Unit AP 0 (AY g) (Bt g args cap) () with
   | some (r,obs,_)=>El sh r obs
   | none=>none
  | none=>none
 | _=>none
noncomputable def A8 (B:KB) (sh:Bq) (fr:Bool) (g:FuncId) (args:List PV):Option PV :=
 if BI args then none
 else match B.L Unit AP 0 g args () with
  | some (r,obs,_)=>Af ((r.free&&obs.all Ob.free&&!B.leans g)==fr) (El sh r obs)
  | none=>none
noncomputable def Hg (B:KB) {E:Type} (h:Ay E) (dep:Nat) (f:PV) (e:E):Option E :=
 match f with
 | .fn g cap=>match B.L E h (dep+1) (AY g) (Bt g [.yld dep] cap) e with
  | some (_,_,e)=>some e
  | none=>none
 | _=>none
noncomputable def ioO (B:KB) (P:BK) (g:FuncId) (vs:List PV):Option (List PV) :=
 match B.I g ((C5 P.ins vs (C6 P.args vs 0).2).1.map Aj.ob) (AN (C6 P.args vs 0).1) with
 | some (st,v)=>match GY none 1 0 (EO P.ins.length) st v with
  | some out=>Qy P out
  | none=>none
 | none=>none
def Cg (R:List Nm) (d i0:Nat) (m:Nm):Nm:=if m.1=0 then R.getD m.2 (0,0) else (d,i0+m.2)
def MM (P:BK) (R:List Nm) (sl:Option Nat) (d i0:Nat) (rs:List PV):AB :=
 let v:=fill P.res rs 0
 let o:=C5 P.outs rs v.2
 let w:=C5 P.news rs o.2
 {v:=v.1.ren (Cg R d i0),new:=w.1.map (Aj.ren (Cg R d i0)),gone:=P.gone.map fun j=>R.getD j (0,0),ups:=R.zip (o.1.map (Aj.ren (Cg R d i0))),io:=true,slot:=sl}
noncomputable def NT {R:Type} (cfg:D1) (Pf:List KV->List Aj->BK) (g:FuncId) (d:Nat) (σ:Nm->Option Aj) (xs:List KV) (K:AB->Option R):Option R :=
 let S:=DU (GP σ AW (Dt xs))
 match S.mapM σ with
 | none=>none
 | some ins =>
  let f:Nm->Nm:=fun m=>(0,S.idxOf m)
  let P:=Pf xs ins
  if J4 σ S=true/\FG xs=false/\cfg.spF g=false/\(Ep P.args (FO f xs)&&EN P.ins (ins.map (Aj.ren f)))=true then
   Ac (ioO cfg.b P g (Gq P.args (FO f xs)++Iv P.ins (ins.map (Aj.ren f)))) fun rs=>match S with
    | []=>K (MM P S none d 0 rs)
    | r :: _=>match KM σ r.1 with
     | some i0=>K (MM P S (some r.1) r.1 i0 rs)
     | none=>none
  else none
def Id (f:FuncId) (vs cap:List KV):List KV:=match Nat.blt f Df with
 | true=>vs++cap
 | false=>cap.take (Fu f)++(vs++cap.drop (Fu f))
noncomputable def kcall {E R:Type} (cfg:D1) (h:Ay E) (d:Nat) (σ:Nm->Option Aj) (tm:Sp) (f:RX) (args:List RX) (e:E) (K:AB->E->Option R):Option R :=
 match f.kv tm with
 | .yld l =>
  let xs:=args.map (RX.kv tm)
  match D3 xs with
  | some vs=>Ac (h l vs e) fun p=>K {v:=.cv (.bool p.1)} p.2
  | none =>
   let R:=GP σ AW (Dt xs)
   if (Dt xs).isEmpty then none
   else if J4 σ R then
    let ys:=F6 (Du σ AW) xs
    Af (noYL ys) (Ac (h l ys e) fun p=>K {v:=.cv (.bool p.1),frz:=R} p.2)
   else none
 | .fn f caps =>
  let g:=AY f
  let xs:=Id f (args.map (RX.kv tm)) caps
  match cfg.spK g with
  | some s=>(match s σ xs with
   | some p=>Af p.1 (K p.2 e)
   | none=>none)
  | none =>
  match cfg.ioF g with
  | some P=>NT cfg P g d σ xs fun out=>K out e
  | none =>
  match xs with
  | [ex,.iface p (.ref nm 0)]=>match cfg.asT g p,ex.cl,σ nm with
   | some (t,n),some err,some (.cells ty cs)=>Af (Ge cs.length n) (asP t err (fun x=>Af (AA x n) (K {v:=.lit true,upd:=some (nm,.whole ty x)} e)) (K {v:=.lit false} e))
   | _,_,_=>none
  | _=>match D3 xs with
   | some vs=>Ac (Ax cfg.b (cfg.rsh g).1 (.fn g []) vs) fun r=>IE (cfg.rsh g).1 r fun sh=>let p:=D0 d sh 0 r;K {v:=p.1,new:=p.2.1} e
   | none =>
    let R:=GP σ AW (Dt xs)
    if (Dt xs).isEmpty\/cfg.spF g=true then none
    else if J4 σ R then
     Ac (A8 cfg.b (cfg.rsh g).1 (cfg.rsh g).2 g (F6 (Du σ AW) xs)) fun r=>IE (cfg.rsh g).1 r fun sh=>let p:=D0 d sh 0 r;K {v:=p.1,new:=p.2.1,frz:=if (cfg.rsh g).2 then [] else R} e
    else none
 | .cv v=>match D3 (args.map (RX.kv tm)) with
  | some vs=>Ac (Ax cfg.b (cfg.dsh d) v vs) fun r=>IE (cfg.dsh d) r fun sh=>let p:=D0 d sh 0 r;K {v:=p.1,new:=p.2.1} e
  | none=>none
 | _=>none
def To (o:AX) (ks:AE):Bool :=
 if Lg o.op then
  match o.dst with
  | some d=>Nat.blt d ks.nt&&(Be ks.objs d).isEmpty
  | none=>match o.op with
   | .call _ _=>true
   | _=>false
 else true
def Fg:Ba->Bool
 | []=>true
 |(_,u) :: l=>(u.all fun o=>match o with | .cells _ cs=>!FG cs | _=>true)&&Fg l
def MQ (cfg:D1) (op:AC) (tm:Sp):Bool :=
 match op with
 | .mkSl _ _=>false
 | .insert _ _ _ _=>false
 | .call f _=>match f.kv tm with
  | .fn g _=>(cfg.ioF (AY g)).isNone
  | _=>true
 | _=>true
noncomputable def Mq {E R:Type} (cfg:D1) (h:Ay E) (o:AX) (ks:AE) (e:E) (K:AB->E->Option R):Option R :=
 if To o ks/\o.op.xs.all EW/\(Fg ks.objs||MQ cfg o.op ks.tmps)=true then
  match o.op with
  | .call f args=>kcall cfg h (o.dst.getD 0) (Bm ks.objs) ks.tmps f args e fun out e=>if ((!out.io||o.dst.isSome||out.new.isEmpty||out.slot.isSome)&&(out.frz.isEmpty||Fg ks.objs))=true then K out e else none
  | op=>CK (o.dst.getD 0) (Bm ks.objs) ks.tmps op fun out=>if (out.frz.isEmpty||Fg ks.objs)=true then K out e else none
 else none
def P8 {R:Type} (ops:List AX) (o:AX) (ks:AE) (K:Bool->AE->Option R):Option R :=
 match o.guard with
 | none=>K true ks
 | some (j,want) =>
  match ops[j]? with
  | some p=>match p.dst with
   | some d=>match A5 ks.tmps d with
    | .lit b=>K (b==want) ks
    | .sk=>K false ks
    | .cv v=>Ah v (K (true==want) {ks with tmps:=Dg d (.lit true) ks.tmps}) (K (false==want) {ks with tmps:=Dg d (.lit false) ks.tmps})
    | _=>none
   | none=>none
  | none=>none
noncomputable def kstep {E R:Type} (cfg:D1) (h:Ay E) (ops:List AX) (o:AX) (ks:AE) (e:E) (K:AE->E->Option R):Option R :=
 P8 ops o ks fun b ks=>match b with
  | true=>Mq cfg h o ks e fun out e=>Dz (GQ ks o.dst out) fun ks=>K ks e
  | false=>Dz (GQ ks o.dst {v:=.sk}) fun ks=>K ks e
noncomputable def MJ {E R:Type} (cfg:D1) (h:Ay E) (ops:List AX):List AX->AE->E->(AE->E->Option R)->Option R
 | [],ks,e,K=>K ks e
 | o :: rest,ks,e,K=>kstep cfg h ops o ks e fun ks e=>MJ cfg h ops rest ks e K
def Oc (o:AB):Bool:=o.upd.isNone&&o.kill.isNone&&o.frz.isEmpty&&o.gone.isEmpty&&o.ups.isEmpty&&o.slot.isNone
def Ti (o:AB):Bool:=o.gone.isEmpty&&o.ups.isEmpty&&o.slot.isNone&&!o.io
def R3 (o:AB):List Nm :=
 match o.upd with
 | some (nm,_)=>[nm]
 | none=>[]
def spAt (ks:AE) (s:Nat):KV :=
 match Nat.blt s ks.nt with
 | true=>A5 ks.tmps s
 | false=>.un
def Tk (op:AC) (tm:Sp):Bool :=
 match op with
 | .call f args=>match f.kv tm with
  | .yld _=>(Dt (args.map (RX.kv tm))).isEmpty
  | _=>false
 | _=>false
def Tl (σ:Nm->Option Aj) (l:List Nm):List Nm:=l.flatMap fun nm=>((σ nm).map Aj.names).getD []
def Qt (o:AX) (ks:AE) (out:AB):List Nm :=
 if HV o.op&&Oc out then [] else GP (Bm ks.objs) (Jt o.op (Oc out)) (Dt (o.op.xs.map (RX.kv ks.tmps))++out.frz)
def kinfo (ops:List AX) (i:Nat) (o:AX) (ks:AE) (out:AB):C9 :=
 let vs:=o.op.xs.map (RX.kv ks.tmps)
 {i,dst:=o.dst,reads:=PG o.op.xs++Gj ops o,rn:=Qt o ks out,rv:=if FH o.op then [] else Tl (Bm ks.objs) (Qt o ks out),
  cls:=if Fh o.op&&FG vs then (if Tk o.op ks.tmps then .calls else .other) else if Oc out then .quiet else if Ti out then .turns else .other,
  on:=out.v.names++out.new.flatMap Aj.names,tch:=R3 out++(out.frz++out.kill.toList),frz:=!(out.frz++out.kill.toList).isEmpty,
  vn:=(PG o.op.xs++Gj ops o).flatMap fun s=>(spAt ks s).names}
noncomputable def Tj {E R:Type} (cfg:D1) (h:Ay E) (ops:List AX) (i:Nat) (o:AX) (ks:AE) (e:E) (K:AE->E->C9->Option R):Option R :=
 P8 ops o ks fun b ks=>match b with
  | true=>Mq cfg h o ks e fun out e=>Dz (GQ ks o.dst out) fun k1=>K k1 e (kinfo ops i o ks out)
  | false=>Dz (GQ ks o.dst {v:=.sk}) fun k1=>K k1 e {i,cls:=.quiet,dst:=o.dst,reads:=Gj ops o,rn:=[],vn:=(Gj ops o).flatMap fun s=>(spAt ks s).names}
noncomputable def P9 {E R:Type} (cfg:D1) (h:Ay E) (ops:List AX):List (Nat×Nat)->List C9->AE->E->(AE->E->Option R)->Option R
 | [],_,ks,e,K=>K ks e
 |(i,bef) :: rest,infos,ks,e,K=>match ops[i]? with
  | some o=>Tj cfg h ops i o ks e fun ks e info=>if (infos.all fun j=>bef.testBit j.i||IZ j info) then P9 cfg h ops rest (info :: infos) ks e K else none
  | none=>none
def Eh (ds:List Nat) (ks:AE):AE :=
 if ds.all fun d=>(Be ks.objs d).isEmpty then ks
 else
  let ks:=Mr (fun m=>ds.contains m.1) ks
  {ks with objs:=JI (fun i=>!ds.contains i) ks.objs}
def JQ (ks:AE) (t:Nat):Bool:=Nat.blt t ks.nt&&(Be ks.objs t).isEmpty
def LJ (t:Nat) (ks:AE) (nm:Nm):AE :=
  if nm≠(t,0)/\JQ ks t=true then
   match Bm ks.objs nm with
   | some ob =>
    let f:Nm->Nm:=fun m=>if m=nm then (t,0) else m
    let objs:=Fl (Aj.ren f) ks.objs
    {ks with tmps:=D9 (KV.ren f) ks.tmps,objs:=ER t [ob.ren f] (kput objs nm Gy),keep:=ks.keep.map (D9 (KV.ren f))}
   | none=>ks
  else ks
def Ju (t:Nat) (ks:AE):AE :=
 match A5 ks.tmps t with
 | .arr nm _ _ _=>LJ t ks nm
 | .wit nm=>LJ t ks nm
 | _=>ks
def Ms (nm:Nm) (ty:Nat) (cs:List KV) (i k:Nat) (ks:AE):AE :=
 let l:=Be ks.objs nm.1
 {ks with objs:=ER nm.1 (l.set nm.2 (.cells ty (cs.set i (.arr (nm.1,l.length) k 0 0)))++[.arr k 0 []]) ks.objs}
def LK (nm m:Nm) (ks:AE):AE :=
 let l:=Be ks.objs nm.1
 if m.1≠nm.1 then
  match Bm ks.objs m with
  | some ob =>
   let f:Nm->Nm:=fun x=>if x=m then (nm.1,l.length) else x
   let objs:=kput (Fl (Aj.ren f) ks.objs) m Gy
   {ks with tmps:=D9 (KV.ren f) ks.tmps,objs:=ER nm.1 (Be objs nm.1++[ob.ren f]) objs,keep:=ks.keep.map (D9 (KV.ren f))}
  | none=>ks
 else ks
def R5 {R:Type} (nm:Nm) (ty:Nat) (cs:List KV) (i k:Nat) (ks:AE) (K:AE->Option R):Option R :=
 match cs[i]? with
 | some .nils=>K (Ms nm ty cs i k ks)
 | some (.cv v)=>CO v (K (Ms nm ty cs i k ks))
 | some (.arr m _ _ _)=>K (LK nm m ks)
 | some (.wit m)=>K (LK nm m ks)
 | _=>K ks
def Tm {R:Type} (x off k:Nat) (ks:AE) (K:AE->Option R):Option R :=
 match A5 ks.tmps x with
 | .ref nm o=>match Bm ks.objs nm with
  | some (.cells ty cs)=>R5 nm ty cs (o+off) k ks K
  | some (.whole _ v)=>Af (Ss v (o+off)) (K ks)
  | _=>K ks
 | _=>K ks
def Tn {R:Type} (t k:Nat) (ks:AE) (K:AE->Option R):Option R :=
 if IQ<=t then Tm (t%IQ) (t / IQ - 1) k ks K
 else match A5 ks.tmps t with
 | .nils=>K (if JQ ks t then {ks with tmps:=Dg t (.arr (t,0) k 0 0) ks.tmps,objs:=ER t [.arr k 0 []] ks.objs} else ks)
 | .cv v=>notNil v (K ks)
 | _=>K ks
def Qa {R:Type}:List (Nat×Nat)->AE->(AE->Option R)->Option R
 | [],ks,K=>K ks
 |(t,k) :: l,ks,K=>Tn t k ks fun ks=>Qa l ks K
def IA (ks:AE):List Nat :=
 let R:=Fz ks.tmps++ks.keep.flatMap Fz++HE ks.objs
 (ks.objs.filter fun p=>!p.2.isEmpty&&R.all fun nm=>nm.1 != p.1).map (·.1)
def Oy {R:Type} (asg:List Nat) (grow:List (Nat×Nat)) (ks:AE) (K:AE->Option R):Option R :=
 Qa grow (asg.foldl (fun ks t=>Ju t ks) ks) fun ks=>K (Eh (IA ks) ks)
def HI (R:List Nm):Ba->Ba
 | []=>[]
 |(j,u) :: l=>match u.take (HU R j u.length) with
  | []=>HI R l
  | v :: vs=>(j,v :: vs) :: HI R l
def Ow (ks:AE):AE:={ks with objs:=HI (Fz ks.tmps++ks.keep.flatMap Fz++HE ks.objs) ks.objs}
def J5 (k0:AE) (ks:AE):AE :=
 let ks:={ks with tmps:=F4 (Gv k0.tmps) ks.tmps}
 Eh (IA ks) ks
def Li (live:Option (List Nat)) (ks:AE):AE :=
 match live with
 | none=>ks
 | some l =>
  let ks:={ks with tmps:=F4 (fun i=>l.contains i) ks.tmps}
  Eh (IA ks) ks
def Mk:AC->Bool
 | .mov _ | .pick _ _ _ | .build _ _ | .nilck _ | .bin _ _ _ _ _ | .un _ _ | .conv _ _ | .toBytes _ | .ofBytes _ | .ofRune _ | .strId _ | .mkI _ _ | .lookup _ _ _ _ _ | .slice _ _ _ _ _ | .strSlice _ _ _
 | .fieldAddr _ _ | .field _ _ _ _ | .idxAddr _ _ _ | .idxAddrA _ _ _ _ | .strIdx _ _ | .extract _ _ | .len _ _ | .minmax _ _ | .tassert _ _ _ _ | .load _ _ _=>true
 | _=>false
def WB (ops:List AX) (lv:Option (List Nat)):Option Nat :=
 if (ops.any fun o=>o.guard.isSome)&&(ops.all fun o=>Mk o.op) then
  match lv with
  | some l=>match l.filter fun t=>(ops.filterMap (·.dst)).contains t with
   | [t]=>some t
   | _=>none
  | none=>none
 else none
def IM:List Nat->List PV->Nat->Sp->Sp
 | p :: ps,vs,i,tm=>IM ps vs (i+1) (Dg p (.cv (Aa vs i)) tm)
 | [],_,_,tm=>tm
def isNormal:Ex->Bool
 | .normal=>true
 | _=>false
def exitOf:Ex->Option Ex
 | .normal=>none
 | x=>some x
def II:Bu->List Nat
 | .seq a b=>II a++II b
 | .cond _ a b=>II a++II b
 | .block id b=>(II b).filter fun i=>i != id
 | .loop _ _ b=>II b
 | .rangeFunc _ _ _ b=>II b
 | .scope b=>II b
 | .exit id=>[id]
 | _=>[]
def Qu {R:Type}:List Nat->Option Ex->(Nat->Option R)->Option R
 | [],_,_=>none
 | id :: l,p,K=>DL (WX p id) (K id) (Qu l p K)
abbrev LA (E:Type):=List PV×Option Ex×E
def Gp {E:Type} (dep:Nat) (h:Ay E) (body:List PV->List PV->E->Option (Bool×LA E)):Ay (LA E):=fun l args r =>
 if l=dep then
  match r with
  |(vs,none,e)=>body vs args e
  | _=>none
 else
  match r with
  |(vs,p,e)=>match h l args e with
   | some (b,e)=>some (b,(vs,p,e))
   | none=>none
def P3 {E R:Type} (asg:List Nat) (grow:List (Nat×Nat)) (k0:AE) (K:Ex->AE->E->Option R) (x:Ex) (ks:AE) (e:E):Option (Sum (List PV×E) R) :=
 match x with
 | .normal=>Oy asg grow (J5 k0 ks) fun k1=>Dz k1 fun k1=>if K6 k0 k1 then chks (N8 k0 k1) (some (.inl (Fe k0 k1,e))) else none
 | x=>Ac (K x ks e) fun r=>some (.inr r)
noncomputable def Dh (cfg:D1):Bu->{E R:Type}->Ay E->Nat->AE->E->(Ex->AE->E->Option R)->Option R
 | .skip,_,_,_,_,ks,e,K=>K .normal ks e
 | .region ops none lv,E,_,h,_,ks,e,K =>
  Dz (Eh (CX ops) ks) fun ks =>
  match WB ops lv with
  | some t=>Ac (MJ (E:=E) cfg h ops ops ks e fun ks _=>(A5 ks.tmps t).cl) fun z=>Dz (Li lv {ks with tmps:=Dg t (.cv z) ks.tmps}) fun ks=>K .normal ks e
  | none=>MJ cfg h ops ops ks e fun ks e=>Dz (Li lv ks) fun ks=>K .normal ks e
 | .region ops (some bef) lv,_,_,h,_,ks,e,K=>Dz (Eh (CX ops) ks) fun ks=>P9 cfg h ops bef [] ks e fun ks e=>Dz (Li lv ks) fun ks=>K .normal ks e
 | .seq a b,_,_,h,dep,ks,e,K=>Dh cfg a h dep ks e fun x ks e=>match x with
  | .normal=>Dh cfg b h dep ks e K
  | x=>K x ks e
 | .cond c a b,_,_,h,dep,ks,e,K=>match c.kv ks.tmps with
  | .lit true=>Dh cfg a h dep ks e K
  | .lit false=>Dh cfg b h dep ks e K
  | .cv v=>Ah v (Dh cfg a h dep ks e K) (Dh cfg b h dep ks e K)
  | _=>none
 | .block id body,_,_,h,dep,ks,e,K=>Dh cfg body h dep ks e fun x ks e=>match x with
  | .exit id'=>if id'=id then K .normal ks e else K (.exit id') ks e
  | x=>K x ks e
 | .loop asg grow body,E,R,h,dep,ks,e,K=>Oy asg grow ks fun k0=>Dz k0 fun k0=>Af (AZ (G8 k0.tmps k0.tmps))<|if K6 k0 k0=false then none else
  Bg (σ:=List PV×E) (ρ:=R) (fun s=>Dz (CH k0 s.1) fun ks=>Dh cfg body h dep ks s.2 (P3 asg grow k0 K)) (Fe k0 k0,e)
 | .rangeFunc f ps assign body,E,R,h,dep,ks,e,K =>
  match (f.kv ks.tmps).cl with
  | some fv=>if (ps.all fun p=>Nat.blt p ks.nt)&&K6 ks ks&&EW f then Ac (Hg (E:=LA E) cfg.b (Gp dep h fun vs args e =>
    Af (Ij args ps.length) (
     Dz (CH ks vs) fun k0 =>
     Dz {k0 with tmps:=IM ps args 0 k0.tmps,keep:=k0.tmps :: k0.keep} fun k1 =>
     Dh cfg assign (R:=Bool×LA E) h (dep+1) k1 e fun x k1 e=>match x with
      | .normal=>Dh cfg body h (dep+1) k1 e fun x k2 e =>
       match k2.keep with
       | []=>none
       | sp :: kp =>
        Dz {k2 with tmps:=sp,keep:=kp} fun k3 =>
        if K6 ks k3 then chks (N8 ks k3) (some (isNormal x,(Fe ks k3,exitOf x,e))) else none
      | _=>none)) dep fv (Fe ks ks,none,e)) fun r=>Dz (CH ks r.1) fun k1 =>
    DL (JD r.2.1) (K .normal k1 r.2.2) (DL (IN r.2.1) (K .ret k1 r.2.2)
     (Qu (II body) r.2.1 fun id=>K (.exit id) k1 r.2.2)) else none
  | none=>none
 | .exit id,_,_,_,_,ks,e,K=>K (.exit id) ks e
 | .scope b,_,_,h,dep,ks,e,K=>Dh cfg b h dep ks e fun x ks e=>match x with
  | .exit id=>if id < CJ then K (.exit id) ks e else none
  | x=>K x ks e
 | .ret,_,_,_,_,ks,e,K=>K .ret ks e
 | .norm grow,_,_,_,_,ks,e,K=>Oy [] grow (Ow ks) fun k0=>Dz k0 fun k0=>K .normal k0 e
 | .dreg _ _ _ _,_,_,_,_,_,_,_=>none
 | .bad,_,_,_,_,_,_,_=>none
def kisFn:KV->Bool
 | .fn _ _=>true
 | _=>false
def kisUn:KV->Bool
 | .un=>true
 | _=>false
noncomputable def FI (cfg:D1) (nt:Nat):Bu->{R:Type}->AE->(Ex->AE->List Nat->Option R)->Option R
 | .dreg ops f args live,_,ks,K=>Dz (Eh (CX ops) ks) fun ks=>MJ (E:=Unit) cfg AP ops ops ks () fun ks _ =>
  if kisFn (f.kv ks.tmps)=true/\(Nat.ble (args.length+1) nt&&Nat.beq ks.nt nt)=true/\(f :: args).all EW=true/\(f.kv ks.tmps :: args.map (RX.kv ks.tmps)).any kisUn=false then
   Dz (Li live {ks with keep:=((f.kv ks.tmps :: args.map (RX.kv ks.tmps)).zipIdx.map fun p=>(p.2,p.1)) :: ks.keep}) fun ks=>K .normal ks [args.length]
  else none
 | .seq a b,_,ks,K=>FI cfg nt a ks fun x ks l=>match x with
  | .normal=>FI cfg nt b ks fun x ks l'=>K x ks (l'++l)
  | x=>K x ks l
 | .cond c a b,_,ks,K=>match c.kv ks.tmps with
  | .lit true=>FI cfg nt a ks K
  | .lit false=>FI cfg nt b ks K
  | .cv v=>Ah v (FI cfg nt a ks K) (FI cfg nt b ks K)
  | _=>none
 | .block id body,_,ks,K=>FI cfg nt body ks fun x ks l=>match x with
  | .exit id'=>if id'=id then K .normal ks l else K (.exit id') ks l
  | x=>K x ks l
 | .scope body,_,ks,K=>if Sw body then none else FI cfg nt body ks fun x ks l=>match x with
  | .exit id=>if id < CJ then K (.exit id) ks l else none
  | x=>K x ks l
 | c,_,ks,K=>Dh cfg c (E:=Unit) AP 0 ks () fun x ks _=>K x ks []
noncomputable def QA (cfg:D1) (nt:Nat) {R:Type}:List Nat->AE->(AE->Option R)->Option R
 | [],ks,K=>K ks
 | n :: l,ks,K=>match ks.keep with
  | []=>none
  | sp :: kp=>match A5 sp 0 with
   | .fn f caps=>match cfg.ioF (AY f) with
    | some P =>
     let xs:=Id f ((List.range n).map fun j=>A5 sp (j+1)) caps
     if cfg.flatF (AY f)=true/\(Nat.ble (n+1) nt&&Nat.beq ks.nt nt)=true/\Fg ks.objs=true then
      NT cfg P (AY f) 0 (Bm ks.objs) xs fun out=>if out.new.isEmpty||out.slot.isSome then Dz (GQ {ks with keep:=kp} none out) fun ks=>QA cfg nt l ks K else none
     else none
    | none=>none
   | _=>none
def kresV {R:Type} (ks:AE) (r:H1) (K:KV->Option R):Option R :=
 match r with
 | .tmp t=>K (A5 ks.tmps t)
 | .cell t n ag=>match A5 ks.tmps t with
  | .ref nm o=>match Bm ks.objs nm with
   | some (.cells _ cs)=>if ag then (if o+n<=cs.length then K (.agg ((cs.drop o).take n)) else none) else (match cs[o]? with | some c=>K c | none=>none)
   | some (.whole _ v)=>Ac (AU v o n ag) fun z=>K (.cv z)
   | _=>none
  | _=>none
def JN {R:Type} (ks:AE):List H1->(List KV->Option R)->Option R
 | [],K=>K []
 | r :: rs,K=>kresV ks r fun v=>JN ks rs fun vs=>K (v :: vs)
def JO:List KV->KV
 | [v]=>v
 | vs=>.tup vs
def Ik:Nat->Bool
 | 0=>true
 | _=>false
def Qs:KV->List Nm
 | .arr nm _ o _=>if Ik o then [nm] else []
 | .wit nm=>[nm]
 | .agg cs=>cs.flatMap fun | .arr nm _ o _=>if Ik o then [nm] else [] | .wit nm=>[nm] | _=>[]
 | .tup xs=>xs.flatMap fun | .arr nm _ o _=>if Ik o then [nm] else [] | .wit nm=>[nm] | .agg cs=>cs.flatMap (fun | .arr nm _ o _=>if Ik o then [nm] else [] | .wit nm=>[nm] | _=>[]) | _=>[]
 | _=>[]
mutual
def CV:Bq->KV->List Nm
 | .own _,x=>match x with | .arr nm _ _ _=>[nm] | _=>[]
 | .opt _,x=>match x with | .arr nm _ _ _=>[nm] | _=>[]
 | .tup l,x=>match x with | .tup xs=>Hp l xs | _=>[]
 | .agg l,x=>match x with | .agg xs=>Hp l xs | _=>[]
 | .cl,_=>[]
def Hp:List Bq->List KV->List Nm
 | s :: l,x :: xs=>CV s x++Hp l xs
 | _,_=>[]
end
mutual
def F8 {R:Type} (σ:Nm->Option Aj) (S:List Nm):Bq->KV->(PV->Option R)->Option R
 | .cl,x,K=>match x.cl with
  | some u=>K u
  | none=>match x with
   | .tup xs=>match D3 xs with
    | some us=>K (.tup us)
    | none=>if x.names.all fun nm=>!S.contains nm then Af (Bh (x.close (Du σ AW))) (K (x.close (Du σ AW))) else none
   | _=>if x.names.all fun nm=>!S.contains nm then Af (Bh (x.close (Du σ AW))) (K (x.close (Du σ AW))) else none
 | .own k,x,K=>match x with
  | .arr nm k' o n=>match σ nm with
   | some (.arr k'' kt xs)=>if k=k'/\k=k''/\Ik o=true then Af (Ge n (Ae xs)) (K (.sl k xs false)) else none
   | _=>none
  | _=>none
 | .opt k,x,K=>match x with
  | .arr nm k' o n=>match σ nm with
   | some (.arr k'' kt xs)=>if k=k'/\k=k''/\Ik o=true then Af (Ge n (Ae xs)) (K (.sl k xs false)) else none
   | _=>none
  | .nils=>K .nilS
  | .cv v=>CO v (K .nilS)
  | _=>none
 | .tup l,x,K=>match x with
  | .tup xs=>HL σ S l xs fun us=>K (.tup us)
  | _=>none
 | .agg l,x,K=>match x with
  | .agg xs=>HL σ S l xs fun us=>K (.agg us)
  | _=>none
def HL {R:Type} (σ:Nm->Option Aj) (S:List Nm):List Bq->List KV->(List PV->Option R)->Option R
 | [],[],K=>K []
 | s :: l,x :: xs,K=>F8 σ S s x fun u=>HL σ S l xs fun us=>K (u :: us)
 | _,_,_=>none
end
def L9 (shut:Bool) (v:KV):List Nm :=
 match shut with
 | true=>[]
 | false=>Qs v
def O9 {R:Type} (ks:AE) (shut:Bool) (sh:Bq) (v:KV) (K:PV->Option R):Option R :=
 let σ:=Bm ks.objs
 let S:=L9 shut v
 let R:=GP σ AW (v.names.filter fun nm=>!S.contains nm)
 if S=CV sh v/\D6 S=true/\(S.all (fun nm=>!R.contains nm))=true/\J4 σ R=true then F8 σ S sh v K else none
noncomputable def AM (cfg:D1) (fn:Au) (sh:Bq) {E:Type} (h:Ay E) (dep:Nat) (args:List KV) (e:E):Option (PV×E) :=
 Dz {nt:=fn.nt,tmps:=args.zipIdx.map fun p=>(p.2,p.1),objs:=[],keep:=[]} fun ks=>Dh cfg fn.code h dep ks e fun x ks e=>match x with
  | .exit _=>none
  | _=>JN ks fn.res fun vs=>O9 ks fn.shut sh (JO vs) fun v=>some (v,e)
def Mp:KV->Option Nm
 | .wit nm=>some nm
 | .arr nm k o n=>if k=1/\o=0/\n=0 then some nm else none
 | _=>none
def Lj (σ:Nm->Option Aj) (B:List (Nm×Nm)) (nm:Nm):Aj :=
 (((σ nm).getD Gy).off fun m=>!(B.map (·.1)).contains m).ren fun m=>(B.lookup m).getD m
def PK (σ:Nm->Option Aj) (A:List (Nm×Nm)) (v:KV):List Nm :=
 DU ((GP σ AW (v.names++A.flatMap fun p=>((σ p.1).map Aj.names).getD [])).filter fun m=>!(A.map (·.1)).contains m)
def Jv (k:Nat) (sp:Sp):List (Nm×Nm):=(EO k).zipIdx.map fun p=>((Mp (A5 sp p.2)).getD (0,p.2),p.1)
def PL (k:Nat) (sp:Sp):List Nm:=((EO k).zipIdx.filter fun p=>(Mp (A5 sp p.2)).isNone).map (·.1)
def Np (p x:Aj):List PV :=
 match x with
 | .whole _ v=>[.agg (Ei v)]
 | x=>G9 p x
def M7:List Aj->List Aj->List PV
 | x :: xs,y :: ys=>Np x y++M7 xs ys
 | _,_=>[]
def Od (P:BK) (ks:AE) (v:KV):Option (List PV) :=
 match ks.keep with
 | [sp] =>
  let A:=Jv P.ins.length sp
  let N:=PK (Bm ks.objs) A v
  let B:=A++N.zipIdx.map fun p=>(p.1,(1,0+p.2))
  let u:=(v.off fun m=>!(B.map (·.1)).contains m).ren fun m=>(B.lookup m).getD m
  let os:=A.map fun p=>Lj (Bm ks.objs) B p.1
  let ns:=N.map (Lj (Bm ks.objs) B)
  if D6 (B.map (·.1))=true/\PL P.ins.length sp=P.gone.map (fun j=>(0,j))/\(Bp P.res u&&(EN P.outs os&&EN P.news ns))=true then
   some (Cc P.res u++(M7 P.outs os++M7 P.news ns))
  else none
 | _=>none
noncomputable def S7 (cfg:D1) (fn:Au) (P:BK) (vs:List PV):Option (List PV) :=
 let a:=C6 P.args vs 0
 let b:=C5 P.ins vs a.2
 Dz {nt:=fn.nt,tmps:=a.1.zipIdx.map fun p=>(p.2,p.1),objs:=[(0,b.1)],keep:=[((List.range P.ins.length).filter fun j=>!fn.gone.contains j).map fun j=>(j,.wit (0,j))]} fun ks =>
 if DP fn.code then Dh (E:=Unit) cfg fn.code AP 0 ks () fun x ks _=>match x with
  | .exit _=>none
  | _=>JN ks fn.res fun vs=>Od P ks (JO vs)
 else FI cfg fn.nt fn.code ks fun x ks l=>match x with
  | .exit _=>none
  | _=>QA cfg fn.nt l ks fun ks=>JN ks fn.res fun vs=>Od P ks (JO vs)
end Go.Ab


namespace Go.Ab
theorem EY {xs:List PV}:At xs=true↔∀ x∈xs,okV x=true:=by
 induction xs with
 | nil=>simp[At]
 | cons x xs ih=>simp[At,ih]
mutual
theorem EZ:∀ {v:PV},okV v=true->v.names=[]/\v.hasY=false
 | .undef,_ | .bool _,_ | .int _ _,_ | .str _,_ | .nilS,_ | .nilP,_ | .nilF,_ | .nilI,_ | .nilM,_ | .glob _ _,_=>by simp[PV.names,PV.hasY]
 | .sl _ xs _,h=>by simp only[okV] at h;simp[PV.names,PV.hasY,(Da h).2]
 | .ptr cs _,h=>by simp only[okV] at h;simp[PV.names,PV.hasY,(Da h).2]
 | .imap es,h=>by simp only[okV] at h;simp[PV.names,PV.hasY,(Da h).2]
 | .agg cs,h=>by simp only[okV] at h;simp[PV.names,PV.hasY,Da h]
 | .fn _ cap,h=>by simp only[okV] at h;simp[PV.names,PV.hasY,Da h]
 | .tup xs,h=>by simp only[okV] at h;simp[PV.names,PV.hasY,Da h]
 | .iface _ x,h=>by simp only[okV] at h;simp[PV.names,PV.hasY,EZ h]
 | .yld _,h | .ref _ _,h | .aref _ _ _ _,h | .arr _ _ _ _,h | .mp _,h | .it _,h=>by simp[okV] at h
theorem Da:∀ {xs:List PV},At xs=true->AR xs=[]/\BI xs=false
 | [],_=>by simp[AR,BI]
 | x :: xs,h=>by
  simp only[At,Z2] at h;simp[AR,BI,EZ h.1,Da h.2]
end
theorem Jp {v:PV} (h:v.names=[]) (f:Nm->Option (Option Ob)):v.sub f=v:=by
 rw[PV.sub_congr (g:=fun _=>none) v (by rw[h];simp)];exact sub_id v
where
 sub_id:∀ (x:PV),x.sub (fun _=>none)=x
  | .undef | .bool _ | .int _ _ | .str _ | .nilS | .nilP | .nilF | .nilI | .nilM | .sl _ _ _ | .ptr _ _ | .yld _ | .imap _ | .glob _ _ | .ref _ _ | .aref _ _ _ _ | .arr _ _ _ _ | .mp _ | .it _=>by simp[PV.sub]
  | .agg cs=>by simp[PV.sub,subL_id cs]
  | .iface t x=>by simp[PV.sub,sub_id x]
  | .fn g cap=>by simp[PV.sub,subL_id cap]
  | .tup xs=>by simp[PV.sub,subL_id xs]
 subL_id:∀ (xs:List PV),A2 (fun _=>none) xs=xs
  | []=>rfl
  | x :: xs=>by simp[A2,sub_id x,subL_id xs]
mutual
theorem KC:∀ {v:PV},v.names=[]->∀ (f:Nm->Nm),v.ren f=v
 | .undef,_,_ | .bool _,_,_ | .int _ _,_,_ | .str _,_,_ | .nilS,_,_ | .nilP,_,_ | .nilF,_,_ | .nilI,_,_ | .nilM,_,_ | .sl _ _ _,_,_ | .ptr _ _,_,_ | .yld _,_,_ | .imap _,_,_ | .glob _ _,_,_=>by simp[PV.ren]
 | .agg cs,h,f=>by simp[PV.names] at h;simp[PV.ren,Ni h f]
 | .iface t x,h,f=>by simp[PV.names] at h;simp[PV.ren,KC h f]
 | .fn g cap,h,f=>by simp[PV.names] at h;simp[PV.ren,Ni h f]
 | .tup xs,h,f=>by simp[PV.names] at h;simp[PV.ren,Ni h f]
 | .ref _ _,h,_ | .aref _ _ _ _,h,_ | .arr _ _ _ _,h,_ | .mp _,h,_ | .it _,h,_=>by simp[PV.names] at h
theorem Ni:∀ {xs:List PV},AR xs=[]->∀ (f:Nm->Nm),Bs f xs=xs
 | [],_,_=>rfl
 | x :: xs,h,f=>by simp[AR] at h;simp[Bs,KC h.1 f,Ni h.2 f]
end
mutual
def KV.ok:KV->Prop
 | .cv v=>okV v=true
 | .agg cs=>A6 cs
 | .iface _ x=>x.ok
 | .fn _ cap=>A6 cap
 | .tup xs=>A6 xs
 | .un | .sk | .lit _ | .nils | .yld _ | .ref _ _ | .aref _ _ _ _ | .arr _ _ _ _ | .mp _ | .it _ | .wit _=>True
def A6:List KV->Prop
 | []=>True
 | x :: xs=>x.ok/\A6 xs
end
theorem Dd {xs:List KV}:A6 xs↔∀ x∈xs,x.ok:=by
 induction xs with
 | nil=>simp[A6]
 | cons x xs ih=>simp[A6,ih]
theorem Ev (xs:List KV):AN xs=xs.map KV.pv:=by
 induction xs with
 | nil=>rfl
 | cons x xs ih=>simp[AN,ih]
mutual
theorem KV.pv_names:∀ {x:KV},x.ok->x.pv.names=x.names
 | .un,_ | .sk,_ | .lit _,_ | .nils,_ | .yld _,_ | .ref _ _,_ | .aref _ _ _ _,_ | .arr _ _ _ _,_ | .mp _,_ | .it _,_ | .wit _,_=>by simp[KV.pv,PV.names,KV.names,AR]
 | .cv v,h=>by simp[KV.pv,KV.names,(EZ h).1]
 | .agg cs,h=>by simp[KV.pv,PV.names,KV.names,FU h]
 | .iface t x,h=>by simp[KV.pv,PV.names,KV.names,KV.pv_names (x:=x) h]
 | .fn f cap,h=>by simp[KV.pv,PV.names,KV.names,FU h]
 | .tup xs,h=>by simp[KV.pv,PV.names,KV.names,FU h]
theorem FU:∀ {xs:List KV},A6 xs->AR (AN xs)=Dt xs
 | [],_=>rfl
 | x :: xs,h=>by simp[AN,AR,Dt,KV.pv_names h.1,FU h.2]
end
mutual
theorem KV.pv_hasY:∀ {x:KV},x.ok->x.pv.hasY=x.hasY
 | .un,_ | .sk,_ | .lit _,_ | .nils,_ | .yld _,_ | .ref _ _,_ | .aref _ _ _ _,_ | .arr _ _ _ _,_ | .mp _,_ | .it _,_ | .wit _,_=>by simp[KV.pv,PV.hasY,KV.hasY,BI]
 | .cv v,h=>by simp[KV.pv,KV.hasY,(EZ h).2]
 | .agg cs,h=>by simp[KV.pv,PV.hasY,KV.hasY,KE h]
 | .iface t x,h=>by simp[KV.pv,PV.hasY,KV.hasY,KV.pv_hasY (x:=x) h]
 | .fn f cap,h=>by simp[KV.pv,PV.hasY,KV.hasY,KE h]
 | .tup xs,h=>by simp[KV.pv,PV.hasY,KV.hasY,KE h]
theorem KE:∀ {xs:List KV},A6 xs->BI (AN xs)=FG xs
 | [],_=>rfl
 | x :: xs,h=>by simp[AN,BI,FG,KV.pv_hasY h.1,KE h.2]
end
mutual
theorem KV.cl_pv:∀ {x:KV} {v:PV},x.cl=some v->x.pv=v
 | .lit b,v,h=>by simp[KV.cl] at h;simp[KV.pv,h]
 | .nils,v,h=>by simp[KV.cl] at h;simp[KV.pv,h]
 | .cv u,v,h=>by simp[KV.cl] at h;simp[KV.pv,h]
 | .agg cs,v,h=>by
  simp only[KV.cl,Z3] at h;obtain⟨vs,hv,rfl⟩:=h;simp[KV.pv,JX hv]
 | .iface t x,v,h=>by
  simp only[KV.cl,Z3] at h;obtain⟨u,hv,rfl⟩:=h;simp[KV.pv,KV.cl_pv hv]
 | .fn f cap,v,h=>by
  simp only[KV.cl,Z3] at h;obtain⟨vs,hv,rfl⟩:=h;simp[KV.pv,JX hv]
 | .un,v,h | .sk,v,h | .yld _,v,h | .ref _ _,v,h | .aref _ _ _ _,v,h | .arr _ _ _ _,v,h | .mp _,v,h | .it _,v,h | .wit _,v,h | .tup _,v,h=>by simp[KV.cl] at h
theorem JX:∀ {xs:List KV} {vs:List PV},D3 xs=some vs->AN xs=vs
 | [],vs,h=>by simp[D3] at h;simp[AN,h]
 | x :: xs,vs,h=>by
  simp only[D3] at h;split at h
  ·rename_i v us h1 h2;cases h;simp[AN,KV.cl_pv h1,JX h2]
  ·cases h
end
mutual
theorem KV.cl_ok:∀ {x:KV} {v:PV},x.ok->x.cl=some v->okV v=true
 | .lit b,v,_,h=>by simp[KV.cl] at h;subst h;rfl
 | .nils,v,_,h=>by simp[KV.cl] at h;subst h;rfl
 | .cv u,v,hx,h=>by simp[KV.cl] at h;subst h;exact hx
 | .agg cs,v,hx,h=>by
  simp only[KV.cl,Z3] at h;obtain⟨vs,hv,rfl⟩:=h;simpa[okV] using IS (xs:=cs) hx hv
 | .iface t x,v,hx,h=>by
  simp only[KV.cl,Z3] at h;obtain⟨u,hv,rfl⟩:=h;simpa[okV] using KV.cl_ok (x:=x) hx hv
 | .fn f cap,v,hx,h=>by
  simp only[KV.cl,Z3] at h;obtain⟨vs,hv,rfl⟩:=h;simpa[okV] using IS (xs:=cap) hx hv
 | .un,v,_,h | .sk,v,_,h | .yld _,v,_,h | .ref _ _,v,_,h | .aref _ _ _ _,v,_,h | .arr _ _ _ _,v,_,h | .mp _,v,_,h | .it _,v,_,h | .wit _,v,_,h | .tup _,v,_,h=>by simp[KV.cl] at h
theorem IS:∀ {xs:List KV} {vs:List PV},A6 xs->D3 xs=some vs->At vs=true
 | [],vs,_,h=>by simp[D3] at h;subst h;rfl
 | x :: xs,vs,hx,h=>by
  simp only[D3] at h;split at h
  ·rename_i v us h1 h2;cases h;simp[At,KV.cl_ok hx.1 h1,IS hx.2 h2]
  ·cases h
end
def Ih (p:Nm->Bool):Nm->Option (Option Ob):=fun m=>if p m=true then some none else none
mutual
theorem KV.off_pv (p:Nm->Bool):∀ {x:KV},x.ok->(x.off p).pv=x.pv.sub (Ih p)
 | .un,_ | .sk,_ | .lit _,_ | .nils,_ | .yld _,_=>by simp[KV.off,KV.pv,PV.sub,A2]
 | .cv v,h=>by simp[KV.off,KV.pv,Jp (EZ h).1]
 | .ref nm _,_ | .aref nm _ _ _,_ | .arr nm _ _ _,_ | .mp nm,_ | .it nm,_ | .wit nm,_=>by
  simp only[KV.off,KV.pv,PV.sub,Ih];cases hp:p nm<;>simp[KV.pv]
 | .agg cs,h=>by simp[KV.off,KV.pv,PV.sub,NO p h]
 | .iface t x,h=>by simp[KV.off,KV.pv,PV.sub,KV.off_pv p (x:=x) h]
 | .fn f cap,h=>by simp[KV.off,KV.pv,PV.sub,NO p h]
 | .tup xs,h=>by simp[KV.off,KV.pv,PV.sub,NO p h]
theorem NO (p:Nm->Bool):∀ {xs:List KV},A6 xs->AN (Kh p xs)=A2 (Ih p) (AN xs)
 | [],_=>rfl
 | x :: xs,h=>by simp[Kh,AN,A2,KV.off_pv p h.1,NO p h.2]
end
mutual
theorem KV.off_ok (p:Nm->Bool):∀ {x:KV},x.ok->(x.off p).ok
 | .un,_ | .sk,_ | .lit _,_ | .nils,_ | .yld _,_=>by simp[KV.off,KV.ok]
 | .cv v,h=>by simpa[KV.off,KV.ok] using h
 | .ref nm _,_ | .aref nm _ _ _,_ | .arr nm _ _ _,_ | .mp nm,_ | .it nm,_ | .wit nm,_=>by
  simp only[KV.off];cases hp:p nm<;>simp[KV.ok]
 | .agg cs,h=>by simpa[KV.off,KV.ok] using NP p h
 | .iface t x,h=>by simpa[KV.off,KV.ok] using KV.off_ok p (x:=x) h
 | .fn f cap,h=>by simpa[KV.off,KV.ok] using NP p h
 | .tup xs,h=>by simpa[KV.off,KV.ok] using NP p h
theorem NP (p:Nm->Bool):∀ {xs:List KV},A6 xs->A6 (Kh p xs)
 | [],_=>trivial
 | x :: xs,h=>⟨KV.off_ok p h.1,NP p h.2⟩
end
mutual
theorem KV.ren_pv (f:Nm->Nm):∀ {x:KV},x.ok->(x.ren f).pv=x.pv.ren f
 | .un,_ | .sk,_ | .lit _,_ | .nils,_ | .yld _,_ | .ref _ _,_ | .aref _ _ _ _,_ | .arr _ _ _ _,_ | .mp _,_ | .it _,_ | .wit _,_=>by simp[KV.ren,KV.pv,PV.ren,Bs]
 | .cv v,h=>by simp[KV.ren,KV.pv,KC (EZ h).1]
 | .agg cs,h=>by simp[KV.ren,KV.pv,PV.ren,L5 f h]
 | .iface t x,h=>by simp[KV.ren,KV.pv,PV.ren,KV.ren_pv f (x:=x) h]
 | .fn g cap,h=>by simp[KV.ren,KV.pv,PV.ren,L5 f h]
 | .tup xs,h=>by simp[KV.ren,KV.pv,PV.ren,L5 f h]
theorem L5 (f:Nm->Nm):∀ {xs:List KV},A6 xs->AN (FO f xs)=Bs f (AN xs)
 | [],_=>rfl
 | x :: xs,h=>by simp[FO,AN,Bs,KV.ren_pv f h.1,L5 f h.2]
end
mutual
theorem KV.ren_ok (f:Nm->Nm):∀ {x:KV},x.ok->(x.ren f).ok
 | .un,_ | .sk,_ | .lit _,_ | .nils,_ | .yld _,_ | .ref _ _,_ | .aref _ _ _ _,_ | .arr _ _ _ _,_ | .mp _,_ | .it _,_ | .wit _,_=>by simp[KV.ren,KV.ok]
 | .cv v,h=>by simpa[KV.ren,KV.ok] using h
 | .agg cs,h=>by simpa[KV.ren,KV.ok] using LX f h
 | .iface t x,h=>by simpa[KV.ren,KV.ok] using KV.ren_ok f (x:=x) h
 | .fn g cap,h=>by simpa[KV.ren,KV.ok] using LX f h
 | .tup xs,h=>by simpa[KV.ren,KV.ok] using LX f h
theorem LX (f:Nm->Nm):∀ {xs:List KV},A6 xs->A6 (FO f xs)
 | [],_=>trivial
 | x :: xs,h=>⟨KV.ren_ok f h.1,LX f h.2⟩
end
def EQ (g:Nm->Option Ob):Nm->Option (Option Ob):=fun m=>some (g m)
mutual
theorem KV.close_pv (g:Nm->Option Ob):∀ {x:KV},x.ok->x.close g=x.pv.sub (EQ g)
 | .un,_ | .sk,_ | .lit _,_ | .nils,_ | .yld _,_=>by simp[KV.close,KV.pv,PV.sub,A2]
 | .cv v,h=>by simp[KV.close,KV.pv,Jp (EZ h).1]
 | .ref nm o,_=>by
  simp only[KV.close,KV.pv,PV.sub,EQ];cases g nm with
  | none=>rfl
  | some ob=>cases ob<;>simp[I7]
 | .aref nm k i o,_=>by
  simp only[KV.close,KV.pv,PV.sub,EQ];cases g nm with
  | none=>rfl
  | some ob =>
   cases ob with
   | arr k' kt xs =>
    simp only[arefO];by_cases hk:k=k'
    ·simp only[hk,if_true];cases xs[i]?<;>rfl
    ·simp[hk]
   | _=>rfl
 | .arr nm k o n,_=>by
  simp only[KV.close,KV.pv,PV.sub,EQ];cases g nm with
  | none=>rfl
  | some ob=>cases ob<;>simp[AD]
 | .mp nm,_=>by
  simp only[KV.close,KV.pv,PV.sub,EQ];cases g nm with
  | none=>rfl
  | some ob=>cases ob<;>rfl
 | .it nm,_=>by simp[KV.close,KV.pv,PV.sub,EQ]
 | .wit nm,_=>by
  simp only[KV.close,KV.pv,PV.sub,EQ];cases g nm with
  | none=>rfl
  | some ob=>cases ob<;>simp[AD]
 | .agg cs,h=>by simp[KV.close,KV.pv,PV.sub,LP g h]
 | .iface t x,h=>by simp[KV.close,KV.pv,PV.sub,KV.close_pv g (x:=x) h]
 | .fn f cap,h=>by simp[KV.close,KV.pv,PV.sub,LP g h]
 | .tup xs,h=>by simp[KV.close,KV.pv,PV.sub,LP g h]
theorem LP (g:Nm->Option Ob):∀ {xs:List KV},A6 xs->F6 g xs=A2 (EQ g) (AN xs)
 | [],_=>rfl
 | x :: xs,h=>by simp[F6,AN,A2,KV.close_pv g h.1,LP g h.2]
end
def Ew (p:Nm->Bool) (g:Nm->Option Ob):Nm->Option (Option Ob):=fun m=>if p m=true then some (g m) else none
mutual
theorem KV.frz_pv (p:Nm->Bool) (g:Nm->Option Ob):∀ {x:KV},x.ok->(x.frz p g).pv=x.pv.sub (Ew p g)
 | .un,_ | .sk,_ | .lit _,_ | .nils,_ | .yld _,_=>by simp[KV.frz,KV.pv,PV.sub,A2]
 | .cv v,h=>by simp[KV.frz,KV.pv,Jp (EZ h).1]
 | .ref nm o,_=>by
  cases hp:p nm with
  | false=>simp[KV.frz,hp,KV.pv,PV.sub,Ew]
  | true =>
   have:=KV.close_pv g (x:=.ref nm o) trivial;simp only[KV.frz,hp,if_true,KV.pv];rw[this];simp[KV.pv,PV.sub,Ew,EQ,hp]
 | .aref nm k i o,_=>by
  cases hp:p nm with
  | false=>simp[KV.frz,hp,KV.pv,PV.sub,Ew]
  | true =>
   have:=KV.close_pv g (x:=.aref nm k i o) trivial;simp only[KV.frz,hp,if_true,KV.pv];rw[this];simp[KV.pv,PV.sub,Ew,EQ,hp]
 | .arr nm k o n,_=>by
  cases hp:p nm with
  | false=>simp[KV.frz,hp,KV.pv,PV.sub,Ew]
  | true =>
   have:=KV.close_pv g (x:=.arr nm k o n) trivial;simp only[KV.frz,hp,if_true,KV.pv];rw[this];simp[KV.pv,PV.sub,Ew,EQ,hp]
 | .mp nm,_=>by
  cases hp:p nm with
  | false=>simp[KV.frz,hp,KV.pv,PV.sub,Ew]
  | true =>
   have:=KV.close_pv g (x:=.mp nm) trivial;simp only[KV.frz,hp,if_true,KV.pv];rw[this];simp[KV.pv,PV.sub,Ew,EQ,hp]
 | .it nm,_=>by
  cases hp:p nm with
  | false=>simp[KV.frz,hp,KV.pv,PV.sub,Ew]
  | true=>simp[KV.frz,hp,KV.pv,PV.sub,Ew]
 | .wit nm,_=>by
  cases hp:p nm with
  | false=>simp[KV.frz,hp,KV.pv,PV.sub,Ew]
  | true =>
   have:=KV.close_pv g (x:=.wit nm) trivial;simp only[KV.frz,hp,if_true,KV.pv];rw[this];simp[KV.pv,PV.sub,Ew,EQ,hp]
 | .agg cs,h=>by simp[KV.frz,KV.pv,PV.sub,NV p g h]
 | .iface t x,h=>by simp[KV.frz,KV.pv,PV.sub,KV.frz_pv p g (x:=x) h]
 | .fn f cap,h=>by simp[KV.frz,KV.pv,PV.sub,NV p g h]
 | .tup xs,h=>by simp[KV.frz,KV.pv,PV.sub,NV p g h]
theorem NV (p:Nm->Bool) (g:Nm->Option Ob):∀ {xs:List KV},A6 xs->AN (Kj p g xs)=A2 (Ew p g) (AN xs)
 | [],_=>rfl
 | x :: xs,h=>by simp[Kj,AN,A2,KV.frz_pv p g h.1,NV p g h.2]
end
def Ob.shut (o:Ob):Prop :=
 match o with
 | .cells _ cs=>At cs=true
 | .arr _ _ xs=>At xs=true
 | .map es=>At es=true
 | .siter _ _=>True
theorem DR {v:PV} (h:okV v=true):At v.cells=true:=by
 cases v<;>simp_all [PV.cells,At,okV]
theorem PJ {xs ys:List PV} (h:At xs=true) (hs:∀ y∈ys,y∈xs):At ys=true:=EY.2 fun y hy=>EY.1 h y (hs y hy)
theorem HB {xs:List PV} (h:At xs=true) (n:Nat):At (xs.take n)=true:=PJ h fun _ hy=>aQ hy
theorem It {xs:List PV} (h:At xs=true) (n:Nat):At (xs.drop n)=true:=PJ h fun _ hy=>bf hy
theorem H7 {xs ys:List PV} (h:At xs=true) (h':At ys=true):At (xs++ys)=true :=
 EY.2 fun y hy=>(ar.1 hy).elim (EY.1 h y) (EY.1 h' y)
theorem Ia {xs:List PV} (h:At xs=true) {i:Nat} {x:PV} (hx:xs[i]?=some x):okV x=true:=EY.1 h x (aj hx)
theorem V5 {xs:List PV} (h:At xs=true) (i:Nat) {x:PV} (hx:okV x=true):At (xs.set i x)=true :=
 EY.2 fun y hy=>(cn hy).elim (EY.1 h y) fun e=>e ▸ hx
mutual
theorem KV.close_ok {g:Nm->Option Ob} (hg:∀ nm ob,g nm=some ob->ob.shut):∀ {x:KV},x.ok->x.hasY=false->okV (x.close g)=true
 | .un,_,_ | .sk,_,_ | .lit _,_,_ | .nils,_,_=>by simp[KV.close,okV,At]
 | .yld _,_,h=>by simp[KV.hasY] at h
 | .cv v,h,_=>by have:okV v=true:=h;simpa[KV.close] using this
 | .ref nm o,_,_=>by
  simp only[KV.close];cases hn:g nm with
  | none=>rfl
  | some ob =>
   cases ob with
   | cells ty cs =>
    have:At cs=true:=hg _ _ hn;simp only[I7];split;·simpa[okV] using this
    ·rfl
   | _=>rfl
 | .aref nm k i o,_,_=>by
  simp only[KV.close];cases hn:g nm with
  | none=>rfl
  | some ob =>
   cases ob with
   | arr k' kt xs =>
    have:At xs=true:=hg _ _ hn;simp only[arefO];split
    ·split
     ·rename_i x hx;split;·simpa[okV] using DR (Ia this hx)
      ·rfl
     ·rfl
    ·rfl
   | _=>rfl
 | .arr nm k o n,_,_=>by
  simp only[KV.close];cases hn:g nm with
  | none=>rfl
  | some ob =>
   cases ob with
   | arr k' kt xs =>
    have:At xs=true:=hg _ _ hn;simp only[AD];split;·simpa[okV] using HB (It this o) n
    ·rfl
   | _=>rfl
 | .mp nm,_,_=>by
  simp only[KV.close];cases hn:g nm with
  | none=>rfl
  | some ob =>
   cases ob with
   | map es =>
    have:At es=true:=hg _ _ hn;simpa[okV] using this
   | _=>rfl
 | .it nm,_,_=>by simp[KV.close,okV,PV.names,PV.hasY]
 | .wit nm,_,_=>by
  simp only[KV.close];cases hn:g nm with
  | none=>rfl
  | some ob =>
   cases ob with
   | arr k' kt xs =>
    have:At xs=true:=hg _ _ hn;simp only[AD];split;·simpa[okV] using HB (It this 0) 0
    ·rfl
   | _=>rfl
 | .agg cs,h,hy=>by simpa[KV.close,okV] using Jn hg (xs:=cs) h (by simpa[KV.hasY] using hy)
 | .iface t x,h,hy=>by simpa[KV.close,okV] using KV.close_ok hg (x:=x) h (by simpa[KV.hasY] using hy)
 | .fn f cap,h,hy=>by simpa[KV.close,okV] using Jn hg (xs:=cap) h (by simpa[KV.hasY] using hy)
 | .tup xs,h,hy=>by simpa[KV.close,okV] using Jn hg (xs:=xs) h (by simpa[KV.hasY] using hy)
theorem Jn {g:Nm->Option Ob} (hg:∀ nm ob,g nm=some ob->ob.shut):∀ {xs:List KV},A6 xs->FG xs=false->At (F6 g xs)=true
 | [],_,_=>rfl
 | x :: xs,h,hy=>by
  simp only[FG,bD] at hy;simp[F6,At,KV.close_ok hg h.1 hy.1,Jn hg h.2 hy.2]
end
mutual
theorem KV.frz_ok {p:Nm->Bool} {g:Nm->Option Ob} (hg:∀ nm ob,g nm=some ob->ob.shut):∀ {x:KV},x.ok->(x.frz p g).ok
 | .un,_ | .sk,_ | .lit _,_ | .nils,_ | .yld _,_=>by simp[KV.frz,KV.ok]
 | .cv v,h=>by simpa[KV.frz,KV.ok] using h
 | .ref nm o,_=>by
  simp only[KV.frz];split;·exact KV.close_ok hg (x:=.ref nm o) trivial rfl
  ·trivial
 | .aref nm k i o,_=>by
  simp only[KV.frz];split;·exact KV.close_ok hg (x:=.aref nm k i o) trivial rfl
  ·trivial
 | .arr nm k o n,_=>by
  simp only[KV.frz];split;·exact KV.close_ok hg (x:=.arr nm k o n) trivial rfl
  ·trivial
 | .mp nm,_=>by
  simp only[KV.frz];split;·exact KV.close_ok hg (x:=.mp nm) trivial rfl
  ·trivial
 | .it nm,_=>by
  simp only[KV.frz];split<;>trivial
 | .wit nm,_=>by
  simp only[KV.frz];split;·exact KV.close_ok hg (x:=.wit nm) trivial rfl
  ·trivial
 | .agg cs,h=>by simpa[KV.frz,KV.ok] using NW hg h
 | .iface t x,h=>by simpa[KV.frz,KV.ok] using KV.frz_ok hg (x:=x) h
 | .fn f cap,h=>by simpa[KV.frz,KV.ok] using NW hg h
 | .tup xs,h=>by simpa[KV.frz,KV.ok] using NW hg h
theorem NW {p:Nm->Bool} {g:Nm->Option Ob} (hg:∀ nm ob,g nm=some ob->ob.shut):∀ {xs:List KV},A6 xs->A6 (Kj p g xs)
 | [],_=>trivial
 | x :: xs,h=>⟨KV.frz_ok hg h.1,NW hg h.2⟩
end
end Go.Ab


namespace Go.Ab
theorem C4 {i j:Nat} (h:Nat.beq i j=true):i=j:=bF h
theorem GJ {i j:Nat} (h:Nat.beq i j=false):i≠j:=Nat.ne_of_beq_eq_false h
theorem RV (i:Nat) (v:KV):∀ (l:Sp) (j:Nat),A5 (Dg i v l) j=if j=i then v else A5 l j:=by
 intro l;induction l with
 | nil =>
  intro j;simp only[Dg,A5];cases h:Nat.beq j i with
  | true=>simp[C4 h]
  | false=>simp[GJ h]
 | cons p l ih =>
  obtain⟨k,u⟩:=p;intro j;simp only[Dg];cases h:Nat.beq i k with
  | true =>
   have:=C4 h;subst this;simp only[A5];cases h2:Nat.beq j i with
   | true=>simp[C4 h2]
   | false=>simp[GJ h2]
  | false =>
   cases h3:Nat.blt i k with
   | true =>
    simp only[A5];cases h2:Nat.beq j i with
    | true=>simp[C4 h2]
    | false=>simp[GJ h2]
   | false =>
    simp only[A5];cases h2:Nat.beq j k with
    | true =>
     have h4:=C4 h2;have h5:=GJ h;subst h4;simp[aH h5]
    | false=>exact ih j
theorem spGet_out (i:Nat):∀ (l:Sp) (j:Nat),A5 (J2 i l) j=if j=i then .un else A5 l j:=by
 intro l;induction l with
 | nil=>intro j;simp[J2,A5]
 | cons p l ih =>
  obtain⟨k,u⟩:=p;intro j;simp only[J2];cases h:Nat.beq i k with
  | true =>
   have:=C4 h;subst this;simp only[A5];rw[ih j];cases h2:Nat.beq j i with
   | true=>simp[C4 h2]
   | false=>simp[GJ h2]
  | false =>
   simp only[A5];cases h2:Nat.beq j k with
   | true =>
    have h4:=C4 h2;have h5:=GJ h;subst h4;simp[aH h5]
   | false=>exact ih j
theorem spGet_set (i:Nat) (v:KV) (l:Sp) (j:Nat):A5 (My i v l) j=if j=i then v else A5 l j:=by
 unfold My;split;·exact spGet_out i l j
 ·exact RV i v l j
theorem YV (p:Nat->Bool):∀ (l:Sp) (j:Nat),A5 (F4 p l) j=if p j=true then A5 l j else .un:=by
 intro l;induction l with
 | nil=>intro j;simp[F4,A5]
 | cons q l ih =>
  obtain⟨k,u⟩:=q;intro j;simp only[F4];cases hp:p k with
  | true =>
   simp only[A5];cases h2:Nat.beq j k with
   | true=>have:=C4 h2;subst this;simp[hp]
   | false=>exact ih j
  | false =>
   simp only[A5];rw[ih j];cases h2:Nat.beq j k with
   | true=>have:=C4 h2;subst this;simp[hp]
   | false=>rfl
def E9:KV->Bool
 | .un=>true
 | _=>false
structure BQ (nt:Nat) (l:Sp):Prop where
 srt:(l.map (·.1)).Pairwise (· < ·)
 lt:∀ p∈l,p.1 < nt
 ok:∀ p∈l,p.2.ok
 nu:∀ p∈l,E9 p.2=false
theorem BQ.nil (nt:Nat):BQ nt []:=⟨.nil,by simp,by simp,by simp⟩
theorem BQ.tail {nt:Nat} {p:Nat×KV} {l:Sp} (h:BQ nt (p :: l)):BQ nt l :=
 ⟨(aZ.1 h.srt).2,fun q hq=>h.lt q (by simp[hq]),fun q hq=>h.ok q (by simp[hq]),fun q hq=>h.nu q (by simp[hq])⟩
theorem RW {l:Sp} {i:Nat} (h:∀ p∈l,p.1≠i):A5 l i=.un:=by
 induction l with
 | nil=>rfl
 | cons p l ih =>
  obtain⟨k,u⟩:=p;simp only[A5];cases h2:Nat.beq i k with
  | true=>exact absurd (C4 h2).symm (h (k,u) (by simp))
  | false=>exact ih fun q hq=>h q (by simp[hq])
theorem BQ.get_mem {nt:Nat} {l:Sp} (h:BQ nt l) {p:Nat×KV} (hp:p∈l):A5 l p.1=p.2:=by
 induction l with
 | nil=>cases hp
 | cons q l ih =>
  obtain⟨k,u⟩:=q;simp only[A5];rcases Z7.1 hp with rfl | hp';·simp
  ·have h1:=(aZ.1 h.srt).1 p.1 (Z4.2 ⟨p,hp',rfl⟩);simp only at h1;cases h2:Nat.beq p.1 k with
   | true=>have:=C4 h2;omega
   | false=>exact ih h.tail hp'
theorem Nd {l:Sp} {i:Nat} (h:A5 l i≠.un):(i,A5 l i)∈l:=by
 induction l with
 | nil=>exact absurd rfl h
 | cons p l ih =>
  obtain⟨k,u⟩:=p;simp only[A5] at h |-;cases h2:Nat.beq i k with
  | true=>have:=C4 h2;subst this;simp
  | false=>rw[h2] at h;simp only at h |-;exact ap _ (ih h)
theorem VS (x:KV):x=.un\/x≠.un:=by cases x<;>simp
theorem BQ.get_ok {nt:Nat} {l:Sp} (h:BQ nt l) (i:Nat):(A5 l i).ok:=by
 rcases VS (A5 l i) with h1 | h1;·rw[h1];trivial
 ·exact h.ok _ (Nd h1)
theorem BQ.get_ge {nt:Nat} {l:Sp} (h:BQ nt l) {i:Nat} (hi:nt<=i):A5 l i=.un:=by
 rcases VS (A5 l i) with h1 | h1;·exact h1
 ·have:=h.lt _ (Nd h1);simp only at this;omega
theorem OZ {i:Nat} {v:KV}:∀ {l:Sp} {p:Nat×KV},p∈Dg i v l->p=(i,v)\/p∈l:=by
 intro l;induction l with
 | nil=>intro p hp;simp[Dg] at hp;exact .inl hp
 | cons q l ih =>
  obtain⟨k,u⟩:=q;intro p hp;simp only[Dg] at hp;cases h:Nat.beq i k with
  | true =>
   rw[h] at hp;simp only[Z7] at hp |-;rcases hp with rfl | hp;·exact .inl rfl
   ·exact .inr (.inr hp)
  | false =>
   rw[h] at hp;cases h3:Nat.blt i k with
   | true =>
    rw[h3] at hp;simp only[Z7] at hp |-;rcases hp with rfl | hp | hp;·exact .inl rfl
    ·exact .inr (.inl hp)
    ·exact .inr (.inr hp)
   | false =>
    rw[h3] at hp;simp only[Z7] at hp |-;rcases hp with rfl | hp;·exact .inr (.inl rfl)
    ·exact (ih hp).imp id .inr
theorem spPut_srt {i:Nat} {v:KV}:∀ {l:Sp},(l.map (·.1)).Pairwise (· < ·)->((Dg i v l).map (·.1)).Pairwise (· < ·):=by
 intro l;induction l with
 | nil=>intro _;simp[Dg]
 | cons q l ih =>
  obtain⟨k,u⟩:=q;intro h;have h1:=aZ.1 h;simp only[Dg];cases h2:Nat.beq i k with
  | true =>
   have:=C4 h2;subst this;exact aZ.2 ⟨h1.1,h1.2⟩
  | false =>
   cases h3:Nat.blt i k with
   | true =>
    have h4:i < k:=by simpa[bc] using h3
    refine aZ.2 ⟨fun a ha=>?_,h⟩;simp only[ZZ,Z7] at ha;rcases ha with rfl | ha;·exact h4
    ·exact Nat.lt_trans h4 (h1.1 a ha)
   | false =>
    have h5:=GJ h2;have h4:¬ i < k:=by intro h6;rw[show Nat.blt i k=true by simpa[bc] using h6] at h3;cases h3
    refine aZ.2 ⟨fun a ha=>?_,ih h1.2⟩;obtain⟨p,hp,rfl⟩:=Z4.1 ha;rcases OZ hp with rfl | hp;·simp only;omega
    ·exact h1.1 _ (Z4.2 ⟨p,hp,rfl⟩)
theorem BQ.put {nt:Nat} {l:Sp} (h:BQ nt l) {i:Nat} (hi:i < nt) {v:KV} (hv:v.ok) (hu:E9 v=false):BQ nt (Dg i v l) where
 srt:=spPut_srt h.srt
 lt p hp:=(OZ hp).elim (fun e=>by rw[e];exact hi) (h.lt p)
 ok p hp:=(OZ hp).elim (fun e=>by rw[e];exact hv) (h.ok p)
 nu p hp:=(OZ hp).elim (fun e=>by rw[e];exact hu) (h.nu p)
theorem spOut_sub (i:Nat):∀ (l:Sp),(J2 i l).Sublist l:=by
 intro l;induction l with
 | nil=>exact .slnil
 | cons q l ih =>
  obtain⟨k,u⟩:=q;simp only[J2];cases Nat.beq i k with
  | true=>exact .cons _ ih
  | false=>exact .cons_cons _ ih
theorem YU (p:Nat->Bool):∀ (l:Sp),(F4 p l).Sublist l:=by
 intro l;induction l with
 | nil=>exact .slnil
 | cons q l ih =>
  obtain⟨k,u⟩:=q;simp only[F4];cases p k with
  | true=>exact .cons_cons _ ih
  | false=>exact .cons _ ih
theorem BQ.sub {nt:Nat} {l l':Sp} (h:BQ nt l) (hs:l'.Sublist l):BQ nt l' :=
 ⟨h.srt.sublist (hs.map _),fun p hp=>h.lt p (hs.subset hp),fun p hp=>h.ok p (hs.subset hp),fun p hp=>h.nu p (hs.subset hp)⟩
theorem BQ.set {nt:Nat} {l:Sp} (h:BQ nt l) {i:Nat} (hi:i < nt) {v:KV} (hv:v.ok):BQ nt (My i v l):=by
 unfold My;split;·exact h.sub (spOut_sub i l)
 ·rename_i hu;refine h.put hi hv ?_;cases v<;>simp_all [E9]
theorem YT (f:KV->KV):∀ (l:Sp),((D9 f l).map (·.1)).Sublist (l.map (·.1)):=by
 intro l;induction l with
 | nil=>exact .slnil
 | cons q l ih =>
  obtain⟨k,u⟩:=q;simp only[D9];split;·exact .cons _ ih
  ·exact .cons_cons _ ih
theorem O1 {f:KV->KV}:∀ {l:Sp} {p:Nat×KV},p∈D9 f l->∃ q∈l,p=(q.1,f q.2)/\E9 p.2=false:=by
 intro l;induction l with
 | nil=>intro p hp;cases hp
 | cons q l ih =>
  obtain⟨k,u⟩:=q;intro p hp;simp only[D9] at hp;split at hp;·obtain⟨q,hq,h⟩:=ih hp;exact⟨q,by simp[hq],h⟩
  ·rename_i hne;rcases Z7.1 hp with rfl | hp;·exact⟨(k,u),by simp,rfl,by cases hf:f u<;>simp_all [E9]⟩
   ·obtain⟨q,hq,h⟩:=ih hp;exact⟨q,by simp[hq],h⟩
theorem BQ.map {nt:Nat} {l:Sp} (h:BQ nt l) {f:KV->KV} (hf:∀ x:KV,x.ok->(f x).ok):BQ nt (D9 f l) where
 srt:=h.srt.sublist (YT f l)
 lt p hp:=by obtain⟨q,hq,rfl,_⟩:=O1 hp;exact h.lt q hq
 ok p hp:=by obtain⟨q,hq,rfl,_⟩:=O1 hp;exact hf _ (h.ok q hq)
 nu p hp:=by obtain⟨q,hq,_,h⟩:=O1 hp;exact h
theorem U1 {nt:Nat} {f:KV->KV} (hf:f .un=.un):∀ {l:Sp} (_:BQ nt l) (i:Nat),A5 (D9 f l) i=f (A5 l i):=by
 intro l;induction l with
 | nil=>intro _ i;simp[D9,A5,hf]
 | cons q l ih =>
  obtain⟨k,u⟩:=q;intro h i;have h1:=aZ.1 h.srt;simp only[D9,A5];split
  ·rename_i hu;cases h2:Nat.beq i k with
   | true =>
    have:=C4 h2;subst this;simp only
    rw[hu];refine RW fun p hp=>?_;obtain⟨q,hq,rfl,_⟩:=O1 hp;have:=h1.1 q.1 (Z4.2 ⟨q,hq,rfl⟩);simp only at this |-;omega
   | false=>exact ih h.tail i
  ·simp only[A5];cases h2:Nat.beq i k with
   | true=>rfl
   | false=>exact ih h.tail i
theorem spHas_iff {l:Sp} {i:Nat}:Gv l i=true↔∃ p∈l,p.1=i:=by
 induction l with
 | nil=>simp[Gv]
 | cons q l ih =>
  obtain⟨k,u⟩:=q;simp only[Gv];cases h2:Nat.beq i k with
  | true=>simp[C4 h2]
  | false=>simp[ih,aH (GJ h2)]
theorem X7 {l:Sp} {nm:Nm}:nm∈Fz l↔∃ p∈l,nm∈p.2.names:=by
 induction l with
 | nil=>simp[Fz]
 | cons q l ih=>obtain⟨k,u⟩:=q;simp[Fz,ih]
theorem BQ.has_iff {nt:Nat} {l:Sp} (h:BQ nt l) (i:Nat):Gv l i=true↔A5 l i≠.un:=by
 rw[spHas_iff];constructor
 ·rintro ⟨p,hp,rfl⟩ hu;rw[h.get_mem hp] at hu;have:=h.nu p hp;rw[hu] at this;cases this
 ·intro hu;exact⟨_,Nd hu,rfl⟩
theorem dense_get? (nt:Nat) (l:Sp) (i:Nat):(BE nt l)[i]?=if i < nt then some (A5 l i).pv else none:=by
 unfold BE;rw[aa];split;·rename_i h;rw[bo h];rfl
 ·rename_i h;rw[aA (by simpa using h)];rfl
theorem Et (nt:Nat) (l:Sp):(BE nt l).length=nt:=by simp[BE]
theorem Ku {nt:Nat} {l:Sp} (h:BQ nt l) (i:Nat):(BE nt l).getD i .undef=(A5 l i).pv:=by
 rw[Z9,dense_get?];split;·rfl
 ·rename_i hi;rw[h.get_ge (by omega)];rfl
theorem Kz {nt:Nat} {l:Sp} {xs:List PV} (hl:xs.length=nt) (h:∀ i,i < nt->xs[i]?=some (A5 l i).pv):BE nt l=xs:=by
 apply aO;intro i;rw[dense_get?];split;·rename_i hi;exact (h i hi).symm
 ·rename_i hi;rw[aA (by omega)]
theorem VI {nt:Nat} {l:Sp} (d:Nat) (v:KV):BE nt (My d v l)=(BE nt l).set d v.pv:=by
 refine Kz (by simp[Et]) fun i hi=>?_;rw[cg,Et,dense_get?,spGet_set];by_cases h:d=i
 ·subst h;simp[hi]
 ·simp[h,aH h,hi]
theorem Pm {nt:Nat} {l:Sp} (d:Nat) (v:KV):BE nt (Dg d v l)=(BE nt l).set d v.pv:=by
 refine Kz (by simp[Et]) fun i hi=>?_;rw[cg,Et,dense_get?,RV];by_cases h:d=i
 ·subst h;simp[hi]
 ·simp[h,aH h,hi]
theorem Pn {nt:Nat} {l:Sp} (h:BQ nt l) {f:KV->KV} {g:Nm->Option (Option Ob)} (hu:f .un=.un) (hf:∀ x:KV,x.ok->(f x).pv=x.pv.sub g) :
  BE nt (D9 f l)=A2 g (BE nt l):=by
 refine Kz (by rw[OG,Et]) fun i hi=>?_;rw[subL_getElem?,dense_get?,U1 hu h,if_pos hi,hf _ (h.get_ok i)];rfl
theorem Yg (f:Nm->Nm) (xs:List PV):(Bs f xs).length=xs.length:=by
 induction xs with
 | nil=>rfl
 | cons x xs ih=>simp[Bs,ih]
theorem renL_getElem? (f:Nm->Nm) (xs:List PV) (i:Nat):(Bs f xs)[i]?=(xs[i]?).map (PV.ren f):=by
 induction xs generalizing i with
 | nil=>rfl
 | cons x xs ih=>cases i<;>simp[Bs,ih]
theorem Pl {nt:Nat} {l:Sp} (h:BQ nt l) (f:Nm->Nm):BE nt (D9 (KV.ren f) l)=Bs f (BE nt l):=by
 refine Kz (by rw[Yg,Et]) fun i hi=>?_;rw[renL_getElem?,dense_get?,U1 (by simp[KV.ren]) h,if_pos hi,KV.ren_pv f (h.get_ok i)];rfl
theorem OL {nt:Nat} {l:Sp} (h:BQ nt l) (nm:Nm):nm∈AR (BE nt l)↔nm∈Fz l:=by
 have hm:∀ (xs:List PV),nm∈AR xs↔∃ x∈xs,nm∈x.names:=by
  intro xs;induction xs with
  | nil=>simp[AR]
  | cons x xs ih=>simp[AR,ih]
 rw[hm,X7];constructor
 ·rintro ⟨x,hx,hn⟩;obtain⟨i,hi⟩:=List.getElem?_of_mem hx;rw[dense_get?] at hi;split at hi
  ·cases hi;rw[KV.pv_names (h.get_ok i)] at hn;have hne:A5 l i≠.un:=by intro hu;rw[hu] at hn;simp[KV.names] at hn
   exact⟨_,Nd hne,hn⟩
  ·cases hi
 ·rintro ⟨p,hp,hn⟩;have:=h.get_mem hp;refine⟨p.2.pv,aj (i:=p.1) ?_,?_⟩;·rw[dense_get?,if_pos (h.lt p hp),this]
  ·rw[KV.pv_names (h.ok p hp)];exact hn
def Aj.ok:Aj->Prop
 | .cells _ cs=>A6 cs
 | .whole _ v=>okV v=true
 | .arr _ _ xs=>At xs=true
 | .map es=>At es=true
 | .siter _ _=>True
structure BL (nt:Nat) (l:Ba):Prop where
 srt:(l.map (·.1)).Pairwise (· < ·)
 lt:∀ p∈l,p.1 < nt
 ok:∀ p∈l,∀ o∈p.2,o.ok
theorem BL.nil (nt:Nat):BL nt []:=⟨.nil,by simp,by simp⟩
theorem BL.tail {nt:Nat} {p:Nat×List Aj} {l:Ba} (h:BL nt (p :: l)):BL nt l :=
 ⟨(aZ.1 h.srt).2,fun q hq=>h.lt q (by simp[hq]),fun q hq=>h.ok q (by simp[hq])⟩
theorem Aj.ob_names {o:Aj} (h:o.ok):o.ob.names=o.names:=by
 cases o with
 | cells ty cs=>exact FU h
 | whole ty v=>exact (Da (DR h)).1
 | _=>rfl
theorem soGet_put (i:Nat) (v:List Aj):∀ (l:Ba) (j:Nat),Be (ER i v l) j=if j=i then v else Be l j:=by
 intro l;induction l with
 | nil =>
  intro j;simp only[ER,Be];cases h:Nat.beq j i with
  | true=>simp[C4 h]
  | false=>simp[GJ h]
 | cons p l ih =>
  obtain⟨k,u⟩:=p;intro j;simp only[ER];cases h:Nat.beq i k with
  | true =>
   have:=C4 h;subst this;simp only[Be];cases h2:Nat.beq j i with
   | true=>simp[C4 h2]
   | false=>simp[GJ h2]
  | false =>
   cases h3:Nat.blt i k with
   | true =>
    simp only[Be];cases h2:Nat.beq j i with
    | true=>simp[C4 h2]
    | false=>simp[GJ h2]
   | false =>
    simp only[Be];cases h2:Nat.beq j k with
    | true =>
     have h4:=C4 h2;have h5:=GJ h;subst h4;simp[aH h5]
    | false=>exact ih j
theorem YZ (p:Nat->Bool):∀ (l:Ba) (j:Nat),Be (JI p l) j=if p j=true then Be l j else []:=by
 intro l;induction l with
 | nil=>intro j;simp[JI,Be]
 | cons q l ih =>
  obtain⟨k,u⟩:=q;intro j;simp only[JI];cases hp:p k with
  | true =>
   simp only[Be];cases h2:Nat.beq j k with
   | true=>have:=C4 h2;subst this;simp[hp]
   | false=>exact ih j
  | false =>
   simp only[Be];rw[ih j];cases h2:Nat.beq j k with
   | true=>have:=C4 h2;subst this;simp[hp]
   | false=>rfl
theorem soGet_map (f:Aj->Aj):∀ (l:Ba) (j:Nat),Be (Fl f l) j=(Be l j).map f:=by
 intro l;induction l with
 | nil=>intro j;simp[Fl,Be]
 | cons q l ih =>
  obtain⟨k,u⟩:=q;intro j;simp only[Fl,Be];cases h2:Nat.beq j k with
  | true=>rfl
  | false=>exact ih j
theorem LH {l:Ba} {i:Nat} (h:Be l i≠[]):(i,Be l i)∈l:=by
 induction l with
 | nil=>exact absurd rfl h
 | cons p l ih =>
  obtain⟨k,u⟩:=p;simp only[Be] at h |-;cases h2:Nat.beq i k with
  | true=>have:=C4 h2;subst this;simp
  | false=>rw[h2] at h;simp only at h |-;exact ap _ (ih h)
theorem BL.get_mem {nt:Nat} {l:Ba} (h:BL nt l) {p:Nat×List Aj} (hp:p∈l):Be l p.1=p.2:=by
 induction l with
 | nil=>cases hp
 | cons q l ih =>
  obtain⟨k,u⟩:=q;simp only[Be];rcases Z7.1 hp with rfl | hp';·simp
  ·have h1:=(aZ.1 h.srt).1 p.1 (Z4.2 ⟨p,hp',rfl⟩);simp only at h1;cases h2:Nat.beq p.1 k with
   | true=>have:=C4 h2;omega
   | false=>exact ih h.tail hp'
theorem BL.get_ok {nt:Nat} {l:Ba} (h:BL nt l) {i:Nat} {o:Aj} (ho:o∈Be l i):o.ok:=by
 have:Be l i≠[]:=by intro h1;rw[h1] at ho;cases ho
 exact h.ok _ (LH this) o ho
theorem BL.get_ge {nt:Nat} {l:Ba} (h:BL nt l) {i:Nat} (hi:nt<=i):Be l i=[]:=by
 by_cases h1:Be l i=[]
 ·exact h1
 ·have:=h.lt _ (LH h1);simp only at this;omega
theorem RY {i:Nat} {v:List Aj}:∀ {l:Ba} {p:Nat×List Aj},p∈ER i v l->p=(i,v)\/p∈l:=by
 intro l;induction l with
 | nil=>intro p hp;simp[ER] at hp;exact .inl hp
 | cons q l ih =>
  obtain⟨k,u⟩:=q;intro p hp;simp only[ER] at hp;cases h:Nat.beq i k with
  | true =>
   rw[h] at hp;simp only[Z7] at hp |-;rcases hp with rfl | hp;·exact .inl rfl
   ·exact .inr (.inr hp)
  | false =>
   rw[h] at hp;cases h3:Nat.blt i k with
   | true =>
    rw[h3] at hp;simp only[Z7] at hp |-;rcases hp with rfl | hp | hp;·exact .inl rfl
    ·exact .inr (.inl hp)
    ·exact .inr (.inr hp)
   | false =>
    rw[h3] at hp;simp only[Z7] at hp |-;rcases hp with rfl | hp;·exact .inr (.inl rfl)
    ·exact (ih hp).imp id .inr
theorem soPut_srt {i:Nat} {v:List Aj}:∀ {l:Ba},(l.map (·.1)).Pairwise (· < ·)->((ER i v l).map (·.1)).Pairwise (· < ·):=by
 intro l;induction l with
 | nil=>intro _;simp[ER]
 | cons q l ih =>
  obtain⟨k,u⟩:=q;intro h;have h1:=aZ.1 h;simp only[ER];cases h2:Nat.beq i k with
  | true =>
   have:=C4 h2;subst this;exact aZ.2 ⟨h1.1,h1.2⟩
  | false =>
   cases h3:Nat.blt i k with
   | true =>
    have h4:i < k:=by simpa[bc] using h3
    refine aZ.2 ⟨fun a ha=>?_,h⟩;simp only[ZZ,Z7] at ha;rcases ha with rfl | ha;·exact h4
    ·exact Nat.lt_trans h4 (h1.1 a ha)
   | false =>
    have h5:=GJ h2;have h4:¬ i < k:=by intro h6;rw[show Nat.blt i k=true by simpa[bc] using h6] at h3;cases h3
    refine aZ.2 ⟨fun a ha=>?_,ih h1.2⟩;obtain⟨p,hp,rfl⟩:=Z4.1 ha;rcases RY hp with rfl | hp;·simp only;omega
    ·exact h1.1 _ (Z4.2 ⟨p,hp,rfl⟩)
theorem BL.put {nt:Nat} {l:Ba} (h:BL nt l) {i:Nat} (hi:i < nt) {v:List Aj} (hv:∀ o∈v,o.ok):BL nt (ER i v l) where
 srt:=soPut_srt h.srt
 lt p hp:=(RY hp).elim (fun e=>by rw[e];exact hi) (h.lt p)
 ok p hp:=(RY hp).elim (fun e=>by rw[e];exact hv) (h.ok p)
theorem YX (p:Nat->Bool):∀ (l:Ba),(JI p l).Sublist l:=by
 intro l;induction l with
 | nil=>exact .slnil
 | cons q l ih =>
  obtain⟨k,u⟩:=q;simp only[JI];cases p k with
  | true=>exact .cons_cons _ ih
  | false=>exact .cons _ ih
theorem BL.sub {nt:Nat} {l l':Ba} (h:BL nt l) (hs:l'.Sublist l):BL nt l' :=
 ⟨h.srt.sublist (hs.map _),fun p hp=>h.lt p (hs.subset hp),fun p hp=>h.ok p (hs.subset hp)⟩
theorem YW (f:Aj->Aj):∀ (l:Ba),(Fl f l).map (·.1)=l.map (·.1):=by
 intro l;induction l with
 | nil=>rfl
 | cons q l ih=>obtain⟨k,u⟩:=q;simp[Fl,ih]
theorem U2 {f:Aj->Aj}:∀ {l:Ba} {p:Nat×List Aj},p∈Fl f l->∃ q∈l,p=(q.1,q.2.map f):=by
 intro l;induction l with
 | nil=>intro p hp;cases hp
 | cons q l ih =>
  obtain⟨k,u⟩:=q;intro p hp;rcases Z7.1 hp with rfl | hp;·exact⟨(k,u),by simp,rfl⟩
  ·obtain⟨q,hq,h⟩:=ih hp;exact⟨q,by simp[hq],h⟩
theorem BL.map {nt:Nat} {l:Ba} (h:BL nt l) {f:Aj->Aj} (hf:∀ x:Aj,x.ok->(f x).ok):BL nt (Fl f l) where
 srt:=by rw[YW];exact h.srt
 lt p hp:=by obtain⟨q,hq,rfl⟩:=U2 hp;exact h.lt q hq
 ok p hp o ho:=by
  obtain⟨q,hq,rfl⟩:=U2 hp;obtain⟨o',ho',rfl⟩:=Z4.1 ho;exact hf _ (h.ok q hq o' ho')
theorem X9 {l:Ba} {nm:Nm}:nm∈HE l↔∃ p∈l,∃ o∈p.2,nm∈o.names:=by
 induction l with
 | nil=>simp[HE]
 | cons q l ih=>obtain⟨k,u⟩:=q;simp[HE,ih]
theorem denseO_get? (nt:Nat) (l:Ba) (i:Nat):(CI nt l)[i]?=if i < nt then some ((Be l i).map Aj.ob) else none:=by
 unfold CI;rw[aa];split;·rename_i h;rw[bo h];rfl
 ·rename_i h;rw[aA (by simpa using h)];rfl
theorem H3 (nt:Nat) (l:Ba):(CI nt l).length=nt:=by simp[CI]
theorem Kw {nt:Nat} {l:Ba} {xs:List (List Ob)} (hl:xs.length=nt) (h:∀ i,i < nt->xs[i]?=some ((Be l i).map Aj.ob)):CI nt l=xs:=by
 apply aO;intro i;rw[denseO_get?];split;·rename_i hi;exact (h i hi).symm
 ·rename_i hi;rw[aA (by omega)]
theorem Kv {nt:Nat} {l:Ba} (d:Nat) (v:List Aj):CI nt (ER d v l)=(CI nt l).set d (v.map Aj.ob):=by
 refine Kw (by simp[H3]) fun i hi=>?_;rw[cg,H3,denseO_get?,soGet_put];by_cases h:d=i
 ·subst h;simp[hi]
 ·simp[h,aH h,hi]
theorem OY {nt:Nat} {l:Ba} (h:BL nt l) {f:Aj->Aj} {g:Ob->Ob} (hf:∀ x:Aj,x.ok->(f x).ob=g x.ob):CI nt (Fl f l)=(CI nt l).map (·.map g):=by
 refine Kw (by simp[H3]) fun i hi=>?_;rw[aa,denseO_get?,if_pos hi,soGet_map];simp only[ao,ay,Z6];apply aD;intro o ho;simp[hf o (h.get_ok ho)]
theorem YF {nt:Nat} {l:Ba} (h:BL nt l) (nm:Nm):Ak (CI nt l) nm=(Bm l nm).map Aj.ob:=by
 unfold Ak Bm;rw[denseO_get?];split
 ·rename_i x hx;split at hx;·cases hx;rw[aa]
  ·cases hx
 ·rename_i hx;split at hx;·cases hx
  ·rw[h.get_ge (by omega)];rfl
theorem Px {nt:Nat} {l:Ba} (h:BL nt l) {nm:Nm} {o:Aj} (ho:Bm l nm=some o):nm.1 < nt:=by
 apply bg;intro hn;unfold Bm at ho;rw[h.get_ge (by omega)] at ho;cases ho
theorem D4 {nt:Nat} {l:Ba} (h:BL nt l) {nm:Nm} {o:Aj} (ho:Bm l nm=some o):o.ok:=h.get_ok (aj ho)
theorem M0 {nt:Nat} {l:Ba} (h:BL nt l) (nm:Nm) (o:Aj):CI nt (kput l nm o)=Bl (CI nt l) nm o.ob:=by
 unfold kput Bl;cases hk:Bm l nm with
 | some o' =>
  have hlt:=Px h hk;simp only
  rw[Kv,denseO_get?,if_pos hlt];simp[bK]
 | none =>
  simp only
  rw[denseO_get?];split
  ·rename_i x hx;split at hx
   ·cases hx
    have h1:((Be l nm.1).map Aj.ob).set nm.2 o.ob=(Be l nm.1).map Aj.ob:=by
     rw[cJ];have:=aI.1 hk;simpa using this
    rw[h1];refine Kw (by simp[H3]) fun i hi=>?_;rw[cg,H3,denseO_get?];by_cases h2:nm.1=i
    ·subst h2;simp[hi]
    ·simp[h2,hi]
   ·cases hx
  ·rfl
theorem BL.kput {nt:Nat} {l:Ba} (h:BL nt l) (nm:Nm) {o:Aj} (ho:o.ok):BL nt (kput l nm o):=by
 unfold Go.Ab.kput;cases hk:Bm l nm with
 | some o' =>
  refine h.put (Px h hk) fun x hx=>?_;rcases cn hx with h1 | rfl;·exact h.get_ok h1
  ·exact ho
 | none=>exact h
theorem TO {nt:Nat} {l:Ba} (h:BL nt l) (nm:Nm):nm∈(CI nt l).flatMap (fun l=>l.flatMap Ob.names)↔nm∈HE l:=by
 rw[X9];simp only[bE];constructor
 ·rintro ⟨x,hx,ob,hob,hn⟩;obtain⟨i,hi⟩:=List.getElem?_of_mem hx;rw[denseO_get?] at hi;split at hi
  ·cases hi;obtain⟨o,ho,rfl⟩:=Z4.1 hob;rw[Aj.ob_names (h.get_ok ho)] at hn;have:Be l i≠[]:=by intro h1;rw[h1] at ho;cases ho
   exact⟨_,LH this,o,ho,hn⟩
  ·cases hi
 ·rintro ⟨p,hp,o,ho,hn⟩;have:=h.get_mem hp;refine⟨p.2.map Aj.ob,aj (i:=p.1) ?_,o.ob,Z4.2 ⟨o,ho,rfl⟩,?_⟩;·rw[denseO_get?,if_pos (h.lt p hp),this]
  ·rw[Aj.ob_names (h.ok p hp o ho)];exact hn
end Go.Ab


namespace Go.Ab
mutual
theorem R7 {R:Type}:∀ (x:KV) (K:KV->R),JV x K=K x
 | .un,_ | .sk,_ | .nils,_ | .cv _,_ | .yld _,_=>rfl
 | .lit b,K=>by cases b<;>rfl
 | .ref nm _,_ | .aref nm _ _ _,_ | .arr nm _ _ _,_ | .mp nm,_ | .it nm,_ | .wit nm,_=>by cases nm;rfl
 | .agg cs,K=>by simp only[JV];rw[Nq cs]
 | .iface t x,K=>by simp only[JV];rw[R7 x]
 | .fn f cap,K=>by simp only[JV];rw[Nq cap]
 | .tup xs,K=>by simp only[JV];rw[Nq xs]
theorem Nq {R:Type}:∀ (xs:List KV) (K:List KV->R),K5 xs K=K xs
 | [],_=>rfl
 | x :: xs,K=>by simp only[K5];rw[R7 x,Nq xs]
end
theorem ZE {R:Type} (x:Aj) (K:Aj->R):SX x K=K x:=by cases x<;>simp[SX,Nq]
theorem T6 {R:Type}:∀ (xs:List Aj) (K:List Aj->R),PA xs K=K xs
 | [],_=>rfl
 | x :: xs,K=>by simp only[PA];rw[ZE x,T6 xs]
theorem RI {R:Type}:∀ (xs:Sp) (K:Sp->R),NX xs K=K xs
 | [],_=>rfl
 |(j,x) :: xs,K=>by simp only[NX];rw[R7 x,RI xs]
theorem UD {R:Type}:∀ (xs:Ba) (K:Ba->R),PO xs K=K xs
 | [],_=>rfl
 |(j,x) :: xs,K=>by simp only[PO];rw[T6 x,UD xs]
theorem UE {R:Type}:∀ (xs:List Sp) (K:List Sp->R),PP xs K=K xs
 | [],_=>rfl
 | x :: xs,K=>by simp only[PP];rw[RI x,UE xs]
theorem D5 {R:Type} (ks:AE) (K:AE->R):Dz ks K=K ks:=by
 cases ks;simp only[Dz];rw[RI,UD,UE]
structure AE.Ok (ks:AE):Prop where
 tm:BQ ks.nt ks.tmps
 ob:BL ks.nt ks.objs
 kp:∀ sp∈ks.keep,BQ ks.nt sp
theorem Xe (v:PV):(H0 v).pv=v:=by
 unfold H0;split<;>simp[KV.pv,AN]
theorem Xf {v:PV} (h:okV v=true):(H0 v).ok:=by
 unfold H0;split;·trivial
 ·trivial
 ·trivial
 ·exact h
variable {ks:AE}
theorem GT (h:ks.Ok) (x:RX):x.ev ks.st.tmps=(x.kv ks.tmps).pv:=by
 cases x with
 | t i=>exact Ku h.tm i
 | c v=>exact (Xe v).symm
theorem MH (h:ks.Ok) {x:RX} (hx:EW x=true):(x.kv ks.tmps).ok:=by
 cases x with
 | t i=>exact h.tm.get_ok i
 | c v=>exact Xf hx
theorem Ha (h:ks.Ok) (nm:Nm):Ak ks.st.objs nm=(Bm ks.objs nm).map Aj.ob:=YF h.ob nm
theorem EK (h:ks.Ok):Ak ks.st.objs=fun nm=>(Bm ks.objs nm).map Aj.ob:=funext (Ha h)
theorem Aj.off_ob (p:Nm->Bool) {o:Aj} (h:o.ok):(o.off p).ob=o.ob.sub (Ih p):=by
 cases o with
 | cells ty cs=>simp[Aj.off,Aj.ob,Ob.sub,NO p h]
 | whole ty v =>
  have:=(Da (DR h)).1;simp only[Aj.off,Aj.ob,Ob.sub,Ei];rw[subL_none this]
 | _=>rfl
where
 subL_none {xs:List PV} (h:AR xs=[]):A2 (Ih p) xs=xs:=by
  induction xs with
  | nil=>rfl
  | cons x xs ih =>
   simp[AR] at h;simp[A2,Jp h.1,ih h.2]
theorem Aj.off_ok (p:Nm->Bool) {o:Aj} (h:o.ok):(o.off p).ok:=by
 cases o with
 | cells ty cs=>exact NP p h
 | _=>exact h
theorem TT (f:Nm->Option (Option Ob)) (xs ys:List PV):A2 f (xs++ys)=A2 f xs++A2 f ys:=by
 induction xs with
 | nil=>rfl
 | cons x xs ih=>simp[A2,ih]
theorem PB {nt:Nat} {l:List Sp} {f:KV->KV} {g:List PV->List PV} (hg:g []=[]) (ha:∀ xs ys,g (xs++ys)=g xs++g ys) (h:∀ sp∈l,BE nt (D9 f sp)=g (BE nt sp)) :
  (l.map (D9 f)).flatMap (BE nt)=g (l.flatMap (BE nt)):=by
 induction l with
 | nil=>simp[hg]
 | cons x l ih =>
  simp only[ZZ,bu,ha];rw[h x (by simp),ih fun sp hsp=>h sp (by simp[hsp])]
theorem ST (p:Nm->Bool) (h:ks.Ok):(Mr p ks).st=D7 (Ih p) ks.st:=by
 unfold Mr AE.st D7;simp only
 rw[Pn h.tm (by simp[KV.off]) (fun x hx=>KV.off_pv p hx),OY h.ob (fun o ho=>Aj.off_ob p ho),
  PB (g:=A2 (Ih p)) rfl (TT _) fun sp hsp=>Pn (h.kp sp hsp) (by simp[KV.off]) fun x hx=>KV.off_pv p hx]
theorem SU (p:Nm->Bool) (h:ks.Ok):(Mr p ks).Ok where
 tm:=h.tm.map fun x hx=>KV.off_ok p hx
 ob:=h.ob.map fun x hx=>Aj.off_ok p hx
 kp sp hsp:=by
  obtain⟨q,hq,rfl⟩:=Z4.1 hsp;exact (h.kp q hq).map fun x hx=>KV.off_ok p hx
theorem Aj.close_ob (g:Nm->Option Ob) {o:Aj} (h:o.ok):o.close g=o.ob.sub (EQ g):=by
 cases o with
 | cells ty cs=>simp[Aj.close,Aj.ob,Ob.sub,LP g h]
 | whole ty v =>
  have:=(Da (DR h)).1;simp only[Aj.close,Aj.ob,Ob.sub,Ei];rw[subL_none this]
 | _=>rfl
where
 subL_none {xs:List PV} (h:AR xs=[]):A2 (EQ g) xs=xs:=by
  induction xs with
  | nil=>rfl
  | cons x xs ih =>
   simp[AR] at h;simp[A2,Jp h.1,ih h.2]
theorem RG {σ:Nm->Option Aj} (hσ:∀ nm o,σ nm=some o->o.ok):∀ (d:Nat) (nm:Nm),Du σ d nm=(σ nm).map fun o=>Ie (fun nm=>(σ nm).map Aj.ob) d o.ob:=by
 intro d;induction d with
 | zero =>
  intro nm;unfold Du;cases h:σ nm with
  | none=>rfl
  | some o=>simp only[ao];rw[Aj.close_ob _ (hσ _ _ h)];rfl
 | succ d ih =>
  intro nm;unfold Du;cases h:σ nm with
  | none=>rfl
  | some o =>
   simp only[ao];rw[Aj.close_ob _ (hσ _ _ h)];congr 1;unfold Ie;congr 1;funext m;unfold EQ;rw[ih m,cw];rfl
def P0 (σ:Nm->Option Aj):Prop:=∀ nm ty cs,σ nm=some (.cells ty cs)->FG cs=false
theorem LB {σ:Nm->Option Aj} (hσ:∀ nm o,σ nm=some o->o.ok) (hq:P0 σ):∀ (d:Nat) (nm:Nm) (ob:Ob),Du σ d nm=some ob->ob.shut:=by
 intro d;induction d with
 | zero =>
  intro nm ob h;unfold Du at h;cases ho:σ nm with
  | none=>rw[ho] at h;cases h
  | some o =>
   rw[ho] at h;cases h;have hok:=hσ _ _ ho;cases o with
   | cells ty cs=>exact (Jn (fun _ _ h=>by cases h) hok (hq _ _ _ ho))
   | whole ty v=>exact (DR hok)
   | arr k kt xs=>exact hok
   | map es=>exact hok
   | siter s pos=>trivial
 | succ d ih =>
  intro nm ob h;unfold Du at h;cases ho:σ nm with
  | none=>rw[ho] at h;cases h
  | some o =>
   rw[ho] at h;cases h;have hok:=hσ _ _ ho;cases o with
   | cells ty cs=>exact (Jn ih hok (hq _ _ _ ho))
   | whole ty v=>exact (DR hok)
   | arr k kt xs=>exact hok
   | map es=>exact hok
   | siter s pos=>trivial
theorem Aj.frz_ob (p:Nm->Bool) (g:Nm->Option Ob) {o:Aj} (h:o.ok):(o.frz p g).ob=o.ob.sub (Ew p g):=by
 cases o with
 | cells ty cs=>simp[Aj.frz,Aj.ob,Ob.sub,NV p g h]
 | whole ty v =>
  have:=(Da (DR h)).1;simp only[Aj.frz,Aj.ob,Ob.sub,Ei];rw[subL_none this]
 | _=>rfl
where
 subL_none {xs:List PV} (h:AR xs=[]):A2 (Ew p g) xs=xs:=by
  induction xs with
  | nil=>rfl
  | cons x xs ih =>
   simp[AR] at h;simp[A2,Jp h.1,ih h.2]
theorem Aj.frz_ok {p:Nm->Bool} {g:Nm->Option Ob} (hg:∀ nm ob,g nm=some ob->ob.shut) {o:Aj} (h:o.ok):(o.frz p g).ok:=by
 cases o with
 | cells ty cs=>exact NW hg h
 | _=>exact h
theorem kputs_ok {nt:Nat}:∀ (R:List Nm) {l:Ba},BL nt l->BL nt (R.foldl (fun objs nm=>kput objs nm Gy) l):=by
 intro R;induction R with
 | nil=>intro l h;exact h
 | cons nm R ih=>intro l h;exact ih (h.kput nm (o:=Gy) rfl)
theorem kputs_st {nt:Nat}:∀ (R:List Nm) {l:Ba},BL nt l->CI nt (R.foldl (fun objs nm=>kput objs nm Gy) l)=R.foldl (fun objs nm=>Bl objs nm Bz) (CI nt l):=by
 intro R;induction R with
 | nil=>intro l _;rfl
 | cons nm R ih =>
  intro l h;simp only[bJ];rw[ih (h.kput nm (o:=Gy) rfl),M0 h];rfl
theorem DE (h:ks.Ok):∀ nm o,Bm ks.objs nm=some o->o.ok:=fun _ _ ho=>D4 h.ob ho
theorem Zw (h:ks.Ok) (nm:Nm):EQ (Du (Bm ks.objs) AW) nm=BJ (Ak ks.st.objs) nm:=by
 unfold EQ BJ;rw[RG (DE h),EK h,cw];rfl
theorem kquiet_ok {l:Ba} (h:Fg l=true):∀ p∈l,∀ ty cs,Aj.cells ty cs∈p.2->FG cs=false:=by
 induction l with
 | nil=>intro p hp;cases hp
 | cons q l ih =>
  obtain⟨k,u⟩:=q;simp only[Fg,Z2] at h;intro p hp ty cs hcs;rcases Z7.1 hp with rfl | hp
  ·have:=an.1 h.1 _ hcs;simpa using this
  ·exact ih h.2 p hp ty cs hcs
theorem M5 {l:Ba} (h:Fg l=true):P0 (Bm l):=by
 intro nm ty cs ho;have hm:Be l nm.1≠[]:=by intro h1;unfold Bm at ho;rw[h1] at ho;cases ho
 exact kquiet_ok h _ (LH hm) ty cs (aj ho)
theorem Yv {l:AE} (hl:l.Ok) {σ:Nm->Option Aj} (hσ:∀ nm o,σ nm=some o->o.ok) (hq:P0 σ) (R:List Nm) :
  (PM σ R l).st=CZ (fun nm=>(σ nm).map Aj.ob) R l.st:=by
 have hf:Ew (fun m=>R.contains m) (Du σ AW)=fun m=>if R.contains m=true then BJ (fun nm=>(σ nm).map Aj.ob) m else none:=by
  funext m;unfold Ew BJ;rw[RG hσ,cw];rfl
 unfold PM CZ D7 AE.st;simp only
 rw[Pn hl.tm (g:=Ew (fun m=>R.contains m) (Du σ AW)) (by simp[KV.frz]) (fun x hx=>KV.frz_pv _ _ hx),
  kputs_st R (hl.ob.map fun x hx=>Aj.frz_ok (LB hσ hq AW) hx),OY hl.ob (fun o ho=>Aj.frz_ob _ _ ho),
  PB (g:=A2 (Ew (fun m=>R.contains m) (Du σ AW))) rfl (TT _) fun sp hsp=>Pn (hl.kp sp hsp) (by simp[KV.frz]) fun x hx=>KV.frz_pv _ _ hx,hf]
theorem Zv {l:AE} (hl:l.Ok) {σ:Nm->Option Aj} (hσ:∀ nm o,σ nm=some o->o.ok) (hq:P0 σ) (R:List Nm):(PM σ R l).Ok where
 tm:=hl.tm.map fun x hx=>KV.frz_ok (LB hσ hq AW) hx
 ob:=kputs_ok R (hl.ob.map fun x hx=>Aj.frz_ok (LB hσ hq AW) hx)
 kp sp hsp:=by
  obtain⟨q,hq',rfl⟩:=Z4.1 hsp;exact (hl.kp q hq').map fun x hx=>KV.frz_ok (LB hσ hq AW) hx
structure AB.Ok (o:AB):Prop where
 v:o.v.ok
 new:∀ x∈o.new,x.ok
 upd:∀ nm x,o.upd=some (nm,x)->x.ok
 ups:∀ p∈o.ups,p.2.ok:=by simp
def AB.out (o:AB):AO:={v:=o.v.pv,new:=o.new.map Aj.ob,upd:=o.upd.map fun p=>(p.1,p.2.ob),kill:=o.kill,frz:=o.frz,gone:=o.gone,ups:=o.ups.map fun p=>(p.1,p.2.ob),io:=o.io,slot:=o.slot}
def Lw (u:Option (Nm×Ob)) (st:St):St :=
 match u with
 | some (nm,ob)=>{st with objs:=Bl st.objs nm ob}
 | none=>st
def Lp (k:Option Nm) (st:St):St :=
 match k with
 | some nm=>D7 (fun m=>if m=nm then some none else none) st
 | none=>st
def Kk (dst:Option Nat) (v:PV) (new:List Ob) (st:St):St :=
 match dst with
 | some d=>{st with tmps:=st.tmps.set d v,objs:=if new.isEmpty then st.objs else st.objs.set d new}
 | none=>st
def MR (l:List Nm) (st:St):St:=if l.isEmpty then st else D7 (fun m=>if l.contains m then some none else none) st
def Lo (l:List (Nm×Ob)) (st:St):St:=if l.isEmpty then st else {st with objs:=FE l st.objs}
def bext (sl:Option Nat) (new:List Ob) (st:St):St :=
 match sl with
 | some r=>{st with objs:=st.objs.set r (st.objs.getD r []++new)}
 | none=>st
def N9 (sl:Option Nat) (new:List Ob):List Ob :=
 match sl with
 | some _=>[]
 | none=>new
theorem SH (st:St) (dst:Option Nat) (o:AO):apply st dst o=Kk dst o.v (N9 o.slot o.new) (bext o.slot o.new<|Lo o.ups (MR o.gone (if o.frz.isEmpty then Lp o.kill (Lw o.upd st) else CZ (Ak st.objs) o.frz (Lp o.kill (Lw o.upd st))))):=by
 unfold apply Kk Lp Lw MR Lo bext N9;cases dst<;>cases o.upd<;>cases o.kill<;>cases o.slot<;>rfl
theorem kups_ok {nt:Nat}:∀ (l:List (Nm×Aj)) {σ:Ba},(∀ p∈l,p.2.ok)->BL nt σ->BL nt (kups l σ):=by
 intro l;induction l with
 | nil=>intro σ _ h;exact h
 | cons p l ih =>
  obtain⟨nm,o⟩:=p;intro σ hl h;exact ih (fun q hq=>hl q (ap _ hq)) (h.kput nm (hl (nm,o) aq))
theorem kups_st {nt:Nat}:∀ (l:List (Nm×Aj)) {σ:Ba},(∀ p∈l,p.2.ok)->BL nt σ->CI nt (kups l σ)=FE (l.map fun p=>(p.1,p.2.ob)) (CI nt σ):=by
 intro l;induction l with
 | nil=>intro σ _ h;rfl
 | cons p l ih =>
  obtain⟨nm,o⟩:=p;intro σ hl h;show CI nt (kups l (kput σ nm o))=FE (l.map fun p=>(p.1,p.2.ob)) (Bl (CI nt σ) nm o.ob);rw[ih (fun q hq=>hl q (ap _ hq)) (h.kput nm (hl (nm,o) aq)),M0 h]
theorem Rp (h:ks.Ok) {o:AB} (hq:(o.frz.isEmpty||Fg ks.objs)=true) (dst:Option Nat) (ho:o.Ok):(GQ ks dst o).st=apply ks.st dst o.out/\(GQ ks dst o).Ok:=by
 rw[SH];unfold GQ AB.out;simp only
 have h1:(kupd o.upd ks).Ok/\(kupd o.upd ks).st=Lw (o.upd.map fun p=>(p.1,p.2.ob)) ks.st:=by
  cases hu:o.upd with
  | none=>exact⟨h,rfl⟩
  | some p =>
   obtain⟨nm,ob⟩:=p;refine⟨⟨h.tm,h.ob.kput nm (ho.upd _ _ hu),h.kp⟩,?_⟩;simp only[ao,kupd,Lw,AE.st];rw[M0 h.ob]
 rw[<-h1.2];generalize kupd o.upd ks=k1 at h1 |-
 have h2:(MK o.kill k1).Ok/\(MK o.kill k1).st=Lp o.kill k1.st:=by
  cases hu:o.kill with
  | none=>exact⟨h1.1,rfl⟩
  | some nm =>
   refine⟨SU _ h1.1,?_⟩;simp only[MK,Lp];rw[ST _ h1.1];congr 1;funext m;unfold Ih;by_cases hm:m=nm
   ·simp[hm]
   ·simp[hm]
 rw[<-h2.2];generalize MK o.kill k1=k2 at h2 |-
 have h3:(Oz (Bm ks.objs) o.frz k2).Ok/\(Oz (Bm ks.objs) o.frz k2).st=(if o.frz.isEmpty=true then k2.st else CZ (Ak ks.st.objs) o.frz k2.st):=by
  cases hf:o.frz with
  | nil=>exact⟨h2.1,rfl⟩
  | cons nm R =>
   have hq:Fg ks.objs=true:=by rw[hf] at hq;simpa using hq
   refine⟨Zv h2.1 (DE h) (M5 hq) _,?_⟩;rw[EK h];exact Yv h2.1 (DE h) (M5 hq) _
 rw[<-h3.2];generalize Oz (Bm ks.objs) o.frz k2=k4 at h3 |-
 have h5:(ML o.gone k4).Ok/\(ML o.gone k4).st=MR o.gone k4.st:=by
  cases hg:o.gone with
  | nil=>exact⟨h3.1,rfl⟩
  | cons nm l =>
   refine⟨SU _ h3.1,?_⟩;simp only[ML,MR,List.isEmpty_cons,Z0,if_false];rw[ST _ h3.1];congr 1
 rw[<-h5.2];generalize ML o.gone k4=k5 at h5 |-
 have h6:(MI o.ups k5).Ok/\(MI o.ups k5).st=Lo (o.ups.map fun p=>(p.1,p.2.ob)) k5.st:=by
  refine⟨⟨h5.1.tm,kups_ok _ ho.ups h5.1.ob,h5.1.kp⟩,?_⟩
  have:∀ (l:List (Nm×Ob)) (s:St),Lo l s={s with objs:=FE l s.objs}:=by
   intro l s;unfold Lo;split;·rename_i hl;rw[aY.1 hl];rfl
   ·rfl
  rw[this];simp only[MI,AE.st];rw[kups_st _ ho.ups h5.1.ob]
 rw[<-h6.2];generalize MI o.ups k5=k6 at h6 |-
 have h7:(kext o.slot o.new k6).Ok/\(kext o.slot o.new k6).st=bext o.slot (o.new.map Aj.ob) k6.st:=by
  cases hs:o.slot with
  | none=>exact⟨h6.1,rfl⟩
  | some r =>
   simp only[kext,bext];cases hr:Nat.blt r k6.nt with
   | true =>
    have hr':r < k6.nt:=by simpa[bc] using hr
    refine⟨⟨h6.1.tm,h6.1.ob.put hr' fun x hx=>?_,h6.1.kp⟩,?_⟩
    ·rcases ar.1 hx with hx | hx;·exact h6.1.ob.get_ok hx
     ·exact ho.new x hx
    ·unfold AE.st;simp only
     rw[Kv,bm];congr 3;rw[Z9,denseO_get?,if_pos hr'];rfl
   | false =>
    have hr':¬ r < k6.nt:=by intro h;rw[show Nat.blt r k6.nt=true by simpa[bc] using h] at hr;cases hr
    refine⟨h6.1,?_⟩;unfold AE.st;simp only
    rw[cJ (by rw[H3];omega)]
 rw[<-h7.2];have hnew2:N9 o.slot (o.new.map Aj.ob)=(Ou o.slot o.new).map Aj.ob:=by cases o.slot<;>rfl
 rw[hnew2]
 have honew:∀ x∈Ou o.slot o.new,x.ok:=by
  cases o.slot with
  | none=>exact ho.new
  | some r=>intro x hx;cases hx
 generalize Ou o.slot o.new=nw at honew |-;generalize kext o.slot o.new k6=k3 at h7 |-;obtain⟨ok3,_⟩:=h7;cases dst with
 | none=>exact⟨rfl,ok3⟩
 | some d =>
  simp only[kset,Kk];cases hd:Nat.blt d k3.nt with
  | true =>
   have hd':d < k3.nt:=by simpa[bc] using hd
   refine⟨?_,?_⟩
   ·unfold AE.st;simp only
    rw[VI];cases hn:nw with
    | nil=>simp
    | cons x xs=>simp[Kv]
   ·refine⟨ok3.tm.set hd' ho.v,?_,ok3.kp⟩;simp only
    cases hn:nw with
    | nil=>exact ok3.ob
    | cons x xs=>rw[hn] at honew;exact ok3.ob.put hd' honew
  | false =>
   have hd':¬ d < k3.nt:=by intro h;rw[show Nat.blt d k3.nt=true by simpa[bc] using h] at hd;cases hd
   refine⟨?_,ok3⟩;unfold AE.st;simp only
   rw[cJ (by rw[Et];omega)];split;·rfl
   ·rw[cJ (by rw[H3];omega)]
end Go.Ab

