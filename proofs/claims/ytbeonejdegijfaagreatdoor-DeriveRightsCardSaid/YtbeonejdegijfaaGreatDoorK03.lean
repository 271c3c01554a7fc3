/-
  Part 3 of a proof: a machine of our own for the given program, its laws, and what it says of the program. Nothing here is a claim by itself.
-/
import Derived.Test.YtbeonejdegijfaaGreatDoorK02
import Derived.Test.YtbeonejdegijfaaGreatDoorK01
set_option linter.all false

namespace Go.Ab
section
variable {E:Type} {cx:Cx} {w0:World} {I0 F0:Nat->Prop} {O0:BZ} {Hd:Nat->Option Obj} {R:BR E} {e:E} {F:Nat->Prop} {lp:Nat->Option Nat} {suf tmv:List Value}
variable {I:Nat->Prop} {L:AB} {st:St} {w:World} {ds:List Deferred}
theorem res_ok (hs:SR lp I L st tmv suf w) {P:Program}:∀ (rv:List ResultVar) (rs:List HL) (vs:List PV),Me P rv=some rs->Ft st rs=some vs ->
  ∃ us,(rv.mapM fun (r:ResultVar)=>(match r with
   | .tmp t=>pure (tmv.toArray.getD t undef)
   | .cell a t=>do loadVar t (<-asAddr (tmv.toArray.getD a undef)):Sem Value)).run P w=.ok us w/\Aq w I lp (some L) vs us:=by
 intro rv;induction rv with
 | nil =>
  intro rs vs h1 h2;simp only[Me,bG] at h1;subst h1;simp only[Ft,bG] at h2;subst h2;exact⟨[],rfl,.nil⟩
 | cons r rv ih =>
  intro rs vs h1 h2;simp only[Me] at h1;split at h1
  case h_2=>cases h1
  rename_i x xs hx hxs;cases h1;simp only[Ft] at h2;split at h2
  case h_2=>cases h2
  rename_i v vs' hv hvs;cases h2;obtain⟨us,q1,q2⟩:=ih xs vs' hxs hvs
  have key:∃ u,(match r with
   | .tmp t=>pure (tmv.toArray.getD t undef)
   | .cell a t=>do loadVar t (<-asAddr (tmv.toArray.getD a undef)):Sem Value).run P w=.ok u w/\Au w I lp (some L) v u:=by
   cases r with
   | tmp t =>
    simp only[bG] at hx;subst hx;simp only[BW,bG] at hv;subst hv;refine⟨tmv.toArray.getD t undef,rfl,?_⟩;rw[Tm];exact hs.tm.getD t undef
   | cell a t =>
    simp only[bD] at hx;obtain⟨⟨n,ag⟩,hsh,rfl⟩:=hx;simp only[BW] at hv;split at hv
    case h_2=>cases hv
    rename_i nm o hr;split at hv
    case h_2=>cases hv
    rename_i cs hlk;have hrep:=hs.tm.getD a undef;rw[hr] at hrep;obtain⟨b,C,hL,hbv⟩:=FC hrep;obtain⟨p,hp,ha⟩:=hs.ob nm _ hlk;rw[hL] at hp;cases hp;obtain⟨c,E',hb,hC,hone,hrl⟩:=ha;obtain⟨u,hu,hru⟩:=NP hrl hone.1 hv;refine⟨u,?_,hru⟩
    have hld:=OT (P:=P) hsh (off:=o) hb (v:=u) (by
     cases ag;·simpa using hu
     ·simp only[if_true] at hu |-;refine⟨by simpa using hu.1,?_⟩;rw[hu.2,M0,dK])
    show (do loadVar t (<-asAddr (tmv.toArray.getD a undef)):Sem Value).run P w=_;rw[Tm];have hbv':tmv.toArray.toList.getD a undef=.pointer (some ⟨b,o,none⟩):=hbv;rw[hbv'];simpa[Instr.loadAt,Instr.sureAddr,asAddr] using hld
  obtain⟨u,k1,k2⟩:=key;refine⟨u :: us,?_,.cons _ _ _ _ k2 q2⟩;rw[cQ,Sem.run_bind,k1,Result.andThen_ok,Sem.run_bind,q1,Result.andThen_ok];rfl
theorem XG {vs:List PV} {us:List Value} (h:Aq w I lp (some L) vs us):Au w I lp (some L) (G4 vs) (if h:us.toArray.size=1 then us.toArray[0] else .tuple us.toArray):=by
 match vs,us,h with
 | [],[],.nil=>exact .tup [] #[] .nil
 | [v],[u],.cons _ _ _ _ h .nil=>exact h
 | v :: v' :: vs,u :: u' :: us,h =>
  have:¬ (u :: u' :: us).toArray.size=1:=by simp
  rw[dif_neg this];exact .tup _ _ (by simpa using h)
theorem V7 {σ:Nm->Option Ob}:∀ (S:List Nm) (obs:List Ob),S.mapM σ=some obs->obs.length=S.length/\∀ (j:Nat) (nm:Nm),S[j]?=some nm->∃ ob,obs[j]?=some ob/\σ nm=some ob:=by
 intro S;induction S with
 | nil=>intro obs h;simp at h;subst h;exact⟨rfl,fun j nm h=>by simp at h⟩
 | cons x S ih =>
  intro obs h;rw[cQ] at h;simp only[dU,cB,d9,bG] at h;obtain⟨ob,ho,obs',hos,rfl⟩:=h;obtain⟨q1,q2⟩:=ih obs' hos;refine⟨by simp[q1],fun j nm hj=>?_⟩;cases j with
  | zero=>simp at hj;subst hj;exact⟨ob,rfl,ho⟩
  | succ j=>simp at hj;obtain⟨o,h1,h2⟩:=q2 j nm hj;exact⟨o,by simpa using h1,h2⟩
theorem Z9:∀ {S:List Nm},DE S=true->∀ (i j:Nat) (nm:Nm),S[i]?=some nm->S[j]?=some nm->i=j:=by
 intro S;induction S with
 | nil=>intro _ i j nm h;simp at h
 | cons x S ih =>
  intro h i j nm hi hj;simp only[DE,bB,dn] at h;obtain⟨h1,h2⟩:=h;have hx:x ∉ S:=by simpa using h1
  cases i with
  | zero =>
   cases j with
   | zero=>rfl
   | succ j=>simp at hi hj;subst hi;exact absurd (bQ hj) hx
  | succ i =>
   cases j with
   | zero=>simp at hi hj;subst hj;exact absurd (bQ hi) hx
   | succ j=>simp at hi hj;rw[ih h2 i j nm hi hj]
theorem ar {ob:Ob} (h:JT ob=true):JT ob.bare=true:=by cases ob<;>first | exact h | rfl
theorem BD.bare {w:World} {I:Nat->Prop} {lp:Nat->Option Nat} {L:AB} {ob:Ob} {p:Option (Nat×Nat)} (h:BD w I lp L ob p):BD w I lp L ob.bare p:=by
 cases p with
 | none=>obtain⟨k,kt,rfl⟩:=h;exact⟨k,0,rfl⟩
 | some p =>
  cases ob with
  | arr k kt xs=>obtain⟨c,E,h1,h2,h3,h4⟩:=h;exact⟨c,E,h1,h2,⟨h3.1,.inl rfl⟩,h4⟩
  | cells ty cs=>exact h
  | map es=>exact h
  | siter s p=>exact h
theorem hand_ok {shut:Bool} (hs:SR lp I L st tmv suf w) (hf:Fr cx w0 I0 F0 ⟨fun _=>False,[]⟩ Hd R e ds I F L w) {v v':PV} {u:Value} {obs:List Ob} (hv:Au w I lp (some L) v u) (h:Jl shut st v=some (v',obs)) :
  ∃ I' ps,Mh cx R lp I0 F0 w0 v' obs e u w I' F ps:=by
 simp only[Jl] at h;generalize hS:(if (DE (H2 shut v)&&(H2 shut v).all fun nm=>!(A8 (Ak st.objs) AU (v.names.filter fun nm=>!(H2 shut v).contains nm)).contains nm)=true then H2 shut v else [])=S at h;generalize hRn:A8 (Ak st.objs) AU (v.names.filter fun nm=>!S.contains nm)=Rn at h;split at h
 case h_2=>cases h
 rename_i obs' hm;obtain⟨hk,h⟩:=Bm h;cases h;simp only[bB] at hk;obtain⟨hR,harr⟩:=hk;obtain⟨m1,m2⟩:=V7 S obs' hm
 have hSnd:DE S=true/\∀ nm∈S,nm ∉ Rn:=by
  by_cases hc:(DE (H2 shut v)&&(H2 shut v).all fun nm=>!(A8 (Ak st.objs) AU (v.names.filter fun nm=>!(H2 shut v).contains nm)).contains nm)=true
  ·rw[if_pos hc] at hS;subst hS;rw[bB] at hc;refine⟨hc.1,fun nm hn=>?_⟩;have:=bP.1 hc.2 nm hn;rw[hRn] at this;simpa using this
  ·rw[if_neg hc] at hS;subst hS;exact⟨rfl,fun nm hn=>by cases hn⟩
 obtain⟨hnd,hdis⟩:=hSnd
 have hloc:∀ (j:Nat) (nm:Nm),S[j]?=some nm->∃ p ob,L nm=some p/\obs'[j]?=some ob/\BD w I lp L ob p:=by
  intro j nm hj;obtain⟨ob,h1,h2⟩:=m2 j nm hj;obtain⟨p,hp,ha⟩:=hs.ob nm ob h2;exact⟨p,ob,hp,h1,ha⟩
 refine⟨DM I L Rn,S.map (fun nm=>(L nm).getD none),?_⟩;have hfz:=hf.freeze Rn
 have hps:∀ (j:Nat) (p:Option (Nat×Nat)),(S.map (fun nm=>(L nm).getD none))[j]?=some p->∃ nm,S[j]?=some nm/\L nm=some p:=by
  intro j p hj;rw[bK,bD] at hj;obtain⟨nm,h1,h2⟩:=hj;obtain⟨q,ob,hq,_,_⟩:=hloc j nm h1;rw[hq] at h2;simp only[cr] at h2;subst h2;exact⟨nm,h1,hq⟩
 refine⟨hfz.ext,hfz.sep,hfz.wd,hfz.re,by rw[bS,bS,m1],?_,?_,?_,?_,by rw[List.all_map];exact bP.2 fun ob ho=>ar (bP.1 harr ob ho)⟩
 ·intro j ob p hj hp;obtain⟨nm,h1,h2⟩:=hps j p hp;obtain⟨q,ob',hq,ho,ha⟩:=hloc j nm h1;rw[h2] at hq;cases hq;rw[bK,ho] at hj;cases hj;have hj:=ho;refine BD.bare ?_;exact (ha.mono (I':=DM I L Rn) (fun _ h=>.inl h) (fun _ _=>rfl) (fun _ _ h=>h) fun _ _ _=>rfl).ofArr (bP.1 harr _ (bQ hj))
 ·intro j b C hj;obtain⟨nm,h1,h2⟩:=hps j _ hj;obtain⟨g1,g2,g3,g4⟩:=hf.lB nm b C h2;refine⟨g1.elim id fun h=>h.elim,g2,?_,g4⟩;rintro (hb | ⟨nm',hm',C',hL'⟩);·exact g3 hb
  ·have:=hf.inj nm nm' b C C' h2 hL';subst this;exact hdis nm (bQ h1) hm'
 ·intro j j' b C C' h1 h2;obtain⟨nm,a1,a2⟩:=hps j _ h1;obtain⟨nm',b1,b2⟩:=hps j' _ h2;have:=hf.inj nm nm' b C C' a2 b2;subst this;exact Z9 hnd j j' nm a1 b1
 ·have hsub:Ee w (DM I L Rn) lp L (some fun nm=>if nm∈S then L nm else none) (fun nm=>nm∈S\/nm∈Rn) (fun nm=>if S.contains nm then none else BJ (Ak st.objs) nm):=by
   intro nm p hn hp;by_cases hm:nm∈S
   ·have:S.contains nm=true:=by simpa using hm
    simp only[this,if_true];exact⟨_,rfl,by simp[hm,hp]⟩
   ·have:S.contains nm=false:=by simpa using hm
    simp only[this,bA,if_false];have:=PC hs hR (none) nm p (hn.resolve_left hm) hp;cases hcl:BJ (Ak st.objs) nm with
    | none=>simp[BJ] at hcl
    | some q =>
     rw[hcl] at this;cases q with
     | none=>trivial
     | some ob=>exact this
  have h1:=Au.subst (I':=DM I L Rn) (fun b hb=>.inl hb) hsub hv (fun nm hn=>by
   by_cases hm:nm∈S
   ·exact .inl hm
   ·refine .inr ?_;rw[<-hRn];exact EM _ _ _ (dF.2 ⟨hn,by simpa using hm⟩))
  refine Au.rename (fun nm p hp=>?_) h1;split at hp
  ·rename_i hm;have hidx:=List.idxOf_lt_length_of_mem hm;have hget:S[S.idxOf nm]?=some nm:=by rw[bN hidx];simp
   simp[JN,OK,Cg,hget,hp]
  ·cases hp
theorem leaves_ok {P:Program} {fn:Func} {tmps:Array Value} {Rr:Ending->World->Prop}:∀ {ds:List Deferred} {w:World} {lo:Nat} {I F:Nat->Prop} {L:AB},Dd lo I F L w ds []->(∀ w':World,w'.os=w.os->w'.tape=w.tape->w'.output=w.output->w'.heap.size=w.heap.size ->
   (∀ b,(b < lo\/I b\/F b\/∃ nm C,L nm=some (some (b,C)))->w'.heap[b]?=w.heap[b]?)->∃ v,(results fn tmps).run P w'=.ok v w'/\Rr (.returned v) w') ->
  LeavesInM Fence.wide 0 P fn tmps Rr ds .returning w:=by
 intro ds;induction ds with
 | nil =>
  intro w lo I F L _ h;obtain⟨v,h1,h2⟩:=h w rfl rfl rfl rfl fun _ _=>rfl;exact⟨v,h1,h2⟩
 | cons d ds ih =>
  intro w lo I F L hm h;cases hm with
  | cons D _ _ h1 h2 h3 h4 h5 h6 h7 hr =>
   refine⟨by simp,.inl ⟨D,_,rfl,run_takeDeferred h6,?_⟩⟩;have hk:∀ b,b≠D->(w.putObj D (.deferred none)).heap[b]?=w.heap[b]?:=fun b hb=>World.putObj_heap_other hb;have hsz:(w.putObj D (.deferred none)).heap.size=w.heap.size:=World.putObj_size
   have hr':Dd lo I F L (w.putObj D (.deferred none)) ds []:=by
    have key:∀ ds rs,Dd lo I F L w ds rs->(∀ d∈ds,d.target≠.collected D)->Dd lo I F L (w.putObj D (.deferred none)) ds rs:=by
     intro ds rs hm;induction hm with
     | call d' ds rs hd _ ih=>intro hne;exact .call d' ds rs hd (ih fun d hd=>hne d (bM _ hd))
     | nil=>intro _;exact .nil
     | cons D' ds rs g1 g2 g3 g4 g5 g6 g7 _ ih =>
      intro hne;have hDD:D'≠D:=fun e=>hne {target:=.collected D',args:=#[]} bT (by rw[e]);exact .cons D' ds rs g1 (by rw[hsz];exact g2) g3 g4 g5 ((hk D' hDD).trans g6) g7 (ih fun d hd=>hne d (bM _ hd))
    exact key ds _ hr h7
   refine ih hr' fun w' e1 e2 e3 e4 e5=>h w' e1 e2 e3 (by rw[e4,hsz]) fun b hb=>?_
   have hne:b≠D:=by
    rintro rfl;rcases hb with hb | hb | hb | ⟨nm,C,hb⟩;·omega
    ·exact h3 hb
    ·exact h4 hb
    ·exact h5 nm C hb
   exact (e5 b hb).trans (hk b hne)
end
def Ll (cx:Cx) (tab:FuncId->Option At) (dd:FuncId->D0):Prop:=∀ f fn,tab f=some fn->Li cx.P cx.G (dd f) f=some {fn with io:=false,shut:=false,leans:=false,gone:=[]}
theorem tab_fn {cx:Cx} {tab:FuncId->Option At} {dd:FuncId->D0} (htab:Ll cx tab dd) {g:FuncId} {rf:At} (hrf:tab g=some rf):∃ fn c,cx.P.funcs[g]?=some fn/\fn.body=some c/\Me cx.P fn.results.toList=some rf.res/\¬ (fn.name == "runtime.NumGoroutine")=true/\rf.nt=fn.ntmps/\rf.code=BN cx.P cx.G (dd g) c:=by
 have hcf:=htab g rf hrf;unfold Li at hcf;split at hcf
 case h_2=>cases hcf
 rename_i fn hfn;split at hcf
 case h_2=>cases hcf
 rename_i c rs hbody hres;split at hcf
 case isTrue=>cases hcf
 rename_i hname;obtain⟨nt,code,res,io⟩:=rf;simp only[bG,At.mk.injEq,and_true] at hcf;obtain⟨rfl,rfl,rfl⟩:=hcf;exact⟨fn,c,hfn,hbody,hres,hname,rfl,rfl⟩
theorem callOf_ok {cx:Cx} {M:Ba} {tab:FuncId->Option At} (hM:En cx M.call) (hsp:MSp cx M) (hloc:Gq M) {dd:FuncId->D0} (htab:Ll cx tab dd) (n:Nat):En cx (IG M n tab):=by
  intro E h R dep lp Ir Fr_ wr g args e r obs e' hc hand hdep;simp only[IG] at hc;split at hc;·cases hc
  rename_i rf hrf;obtain⟨fn,c,hfn,hbody,hres,hname,hnt,hcode⟩:=tab_fn htab hrf;rw[hnt,hcode] at hc;split at hc
  case h_2=>cases hc
  rename_i x st2 e2 hev;refine⟨⟨fn,hfn,by simpa using hname,by rw[hbody];rfl⟩,fun I F w vs hx hsep hwd hre hrep=>?_⟩;have hend:x≠.normal->x=.ret\/∃ id,x=.exit id:=by cases x<;>simp
  have hxe:∀ id,x≠.exit id:=by rintro id rfl;simp at hc
  have hc2:(match Ft st2 rf.res with
     | some vs=>match Jl rf.shut st2 (G4 vs) with
      | some (v,obs)=>some (v,obs,e2)
      | none=>none
     | none=>none)=some (r,obs,e'):=by
   cases x with
   | normal=>exact hc
   | ret=>exact hc
   | exit id=>exact absurd rfl (hxe id)
  split at hc2
  case h_2=>cases hc2
  rename_i rvs hrvs;split at hc2
  case h_2=>cases hc2
  rename_i v' obs' hho;cases hc2;refine callsIn_of_wp_marks hfn hbody trivial ?_;have hlen:=hrep.length
  have hst0:SR lp I (fun _=>none) {tmps:=args++List.replicate (fn.ntmps - args.length) .undef,objs:=List.replicate fn.ntmps [],keep:=[]} (vs.toArray++Array.replicate (fn.ntmps - vs.toArray.size) undef).toList [] w:=by
   refine⟨?_,.nil,fun nm ob hl=>?_,fun nm _=>rfl⟩
   ·have h2:Aq w I lp (some fun _=>none) (List.replicate (fn.ntmps - args.length) PV.undef) (List.replicate (fn.ntmps - args.length) undef):=Aq.undefs _ _ (by simp);have:=(hrep.lift (some fun _=>none)).append h2;simpa[hlen] using this
   ·exfalso
    have hnone:Ak (List.replicate fn.ntmps []) nm=none:=by
     unfold Ak;cases hg:(List.replicate fn.ntmps ([]:List Ob))[nm.1]? with
     | none=>rfl
     | some l =>
      have:=eI (bQ hg);subst this;simp
    rw[hnone] at hl;cases hl
  have hfr0:Fr cx w I F ⟨fun _=>False,[]⟩ (fun _=>none) R e [] I F (fun _=>none) w :=
   ⟨B7.refl _ _ _,hsep,fun b hb=>hb.elim,fun nm b C hn=>(by cases hn),fun nm nm' b C C' hn=>(by cases hn),hwd,hre,.nil,fun b ob hb=>(by cases hb)⟩
  refine TH (dd:=dd g) (M:=M) hM hsp hloc c E h dep R lp w I F ⟨fun _=>False,[]⟩ (fun _=>none) [] none _ e x st2 e' hev ⟨⟨Ir,Fr_,wr,hand,hx⟩,hdep⟩ (fun l0 he=>by cases he) {tmps:=_,defers:=[]} w I F _ _ hst0 hfr0 ?_;rintro a' w' I' F' L' hs' hf'
  have hpost:LeavesInM Fence.wide 0 cx.P fn a'.tmps (Xt cx R lp I F w r obs e') a'.defers .returning w':=by
   refine leaves_ok hf'.mks fun w2 e1 e3 e4 e5 e6=>?_;have hkI:∀ b,I' b->w2.heap[b]?=w'.heap[b]?:=fun b hb=>e6 b (.inr (.inl hb));have hkF:∀ b,F' b->w2.heap[b]?=w'.heap[b]?:=fun b hb=>e6 b (.inr (.inr (.inl hb)));have hs2:SR lp I' L' st2 a'.tmps.toList [] w2:=hs'.keeps (fun _ h=>h) hkI fun nm b C hn=>e6 b (.inr (.inr (.inr ⟨nm,C,hn⟩)))
   have hf2:Fr cx w I F ⟨fun _=>False,[]⟩ (fun _=>none) R e' [] I' F' L' w2:=by
    refine⟨⟨e1.trans hf'.ext.os,e3.trans hf'.ext.tape,e4.trans hf'.ext.output,by rw[e5];exact hf'.ext.size,fun b hb hF=>(e6 b (.inl hb)).trans (hf'.ext.keep b hb hF),hf'.ext.subI,hf'.ext.newI,hf'.ext.newF⟩,
     ⟨fun b hb=>by rw[e5];exact hf'.sep.iB b hb,fun b hb=>⟨by rw[e5];exact (hf'.sep.fB b hb).1,(hf'.sep.fB b hb).2⟩⟩,fun b hb=>hb.elim,fun nm b C hn=>?_,hf'.inj,?_,?_,.nil,fun b ob hb=>by cases hb⟩
    ·obtain⟨q1,q2,q3,q4⟩:=hf'.lB nm b C hn;exact⟨q1,by rw[e5];exact q2,q3,q4⟩
    ·exact cx.stab I' I' w' w2 hf'.wd (fun _ h=>h) hkI (by rw[e5];exact bF _)
    ·exact R.stab e' I' I' F' w' w2 hf'.re (fun _ h=>h) (fun b hb=>hb.elim (hkI b) (hkF b)) (by rw[e5];exact bF _)
   obtain⟨us,q1,q2⟩:=res_ok hs2 (P:=cx.P) fn.results.toList rf.res rvs hres hrvs;obtain⟨I3,ps,hce⟩:=hand_ok hs2 hf2 (XG q2) hho;refine⟨_,?_,⟨I3,F',ps,hce⟩⟩;unfold results;rw[Sem.run_bind,eZ,Sem.run_map];rw[df] at q1;exact (congrArg (fun r:Result (List Value)=>(r.andThen fun a w'=>Result.ok a.toArray w').andThen fun a w'=>Sem.run cx.P (pure (if h:a.size=1 then a[0] else Value.tuple a)) w') q1).trans rfl
  cases x with
  | normal=>exact hpost
  | ret=>exact hpost
  | exit id=>exact absurd rfl (hxe id)
end Go.Ab


namespace Go.Ab
inductive Hi (nt:Nat):List Nat->List Value->List Deferred->Prop
 | nil:Hi nt [] [] []
 | cons (k:Nat) (l:List Nat) (us pad:List Value) (rs:List Deferred) (fn:Fn) (fst caps:Array Value) (args:List Value) (hk:args.length=k) (hn:1+k+pad.length=nt) (h:Hi nt l us rs) :
   Hi nt (k :: l) (.func fn fst caps :: (args++pad)++us) ({target:=.fn fn caps,args:=fst++args.toArray} :: rs)
theorem Hi.append {nt:Nat} {l l':List Nat} {us us':List Value} {rs rs':List Deferred} (h:Hi nt l us rs) (h':Hi nt l' us' rs'):Hi nt (l++l') (us++us') (rs++rs'):=by
 induction h with
 | nil=>exact h'
 | cons k l us pad rs fn fst caps args hk hn _ ih =>
  have:=Hi.cons k _ _ pad _ fn fst caps args hk hn ih;simpa[cC] using this
theorem Ig.more {M:Ba} {E:Type} {h:Ay E} {dep:Nat} {r1 r2:List AV} {l:List Nat} {st st2:St} {e e2:E} (hr:Ig M h dep r1 l st e st2 e2):Ig M h dep (r1++r2) l st e st2 e2:=by
 induction hr with
 | nil st e=>exact .nil st e
 | cons i rest o st st1 st2 e e1 e2 ho hs _ ih =>
  have hi:i < r1.length:=(bL.1 ho).1;refine .cons i rest o st st1 st2 e e1 e2 (by rw[dm hi];exact ho) ?_ ih
  have hw:∀ b,Dt r1 o st.tmps=some b->Dt (r1++r2) o st.tmps=some b:=by
   intro b hb;unfold Dt at hb |-;split at hb;·exact hb
   ·rename_i j want hg;cases hj:r1[j]? with
    | none=>rw[hj] at hb;cases hb
    | some p =>
     have hlt:j < r1.length:=(bL.1 hj).1;rw[hj] at hb;rw[dm hlt,hj];exact hb
  unfold stepG at hs |-;cases hq:Dt r1 o st.tmps with
  | none=>rw[hq] at hs;cases hs
  | some b =>
   rw[hq] at hs;rw[hw b hq];cases b<;>exact hs
section
variable {cx:Cx} {dd:D0} {M:Ba} {fuel nt:Nat}
theorem seq_leaf (g:List (Nat×Nat)) (f:RX) (ps:List Nat) (a b:Bw) (st:St):Bh M fuel nt (.seq (.norm g) (.rangeFunc f ps a b)) st=Gj (AP M fuel (.seq (.norm g) (.rangeFunc f ps a b)) AD 0 st ()):=by
 have e2:AP M fuel (.seq (.norm g) (.rangeFunc f ps a b)) AD 0 st ()=AP M fuel (.rangeFunc f ps a b) AD 0 (norm [] g (trim st)) ():=rfl;rw[e2]
 show (match Bh M fuel nt (.rangeFunc f ps a b) (norm [] g (trim st)) with
  | some (x,st,l')=>some (x,st,l'++[])
  | none=>none)=_
 rw[show Bh M fuel nt (.rangeFunc f ps a b) (norm [] g (trim st))=Gj (AP M fuel (.rangeFunc f ps a b) AD 0 (norm [] g (trim st)) ()) from rfl];cases AP M fuel (.rangeFunc f ps a b) AD 0 (norm [] g (trim st)) () with
 | none=>rfl
 | some p=>rfl
theorem S4:∀ (c:Bw) (st:St) (r:Ex×St×List Nat),Dk c=true->Bh M fuel nt c st=some r->Gj (AP M fuel c AD 0 st ())=some r:=by
 intro c;induction c with
 | seq a b iha ihb =>
  intro st r hn hev;simp only[Dk,bB] at hn;simp only[Bh] at hev;cases ha:Bh M fuel nt a st with
  | none=>rw[ha] at hev;cases hev
  | some q =>
   obtain⟨x,s1,l1⟩:=q;have h1:=iha st _ hn.1 ha;rw[ha] at hev;simp only[AP];cases hc:AP M fuel a AD 0 st () with
   | none=>rw[hc] at h1;cases h1
   | some q2 =>
    obtain⟨x2,s2,u⟩:=q2;rw[hc] at h1;cases h1;cases x with
    | normal =>
     simp only at hev |-;cases hb:Bh M fuel nt b s1 with
     | none=>rw[hb] at hev;cases hev
     | some q3 =>
      obtain⟨x3,s3,l3⟩:=q3;rw[hb] at hev;simp only[dB] at hev;rw[<-hev];exact ihb s1 _ hn.2 hb
    | exit id=>exact hev
    | ret=>exact hev
 | cond c a b iha ihb =>
  intro st r hn hev;simp only[Dk,bB] at hn;simp only[Bh] at hev;simp only[AP];split at hev;·exact iha st r hn.1 hev
  ·exact ihb st r hn.2 hev
  ·cases hev
 | block id b ih =>
  intro st r hn hev;simp only[Dk] at hn;simp only[Bh] at hev;cases ha:Bh M fuel nt b st with
  | none=>rw[ha] at hev;cases hev
  | some q =>
   obtain⟨x,s1,l1⟩:=q;have h1:=ih st _ hn ha;rw[ha] at hev;simp only[AP];cases hc:AP M fuel b AD 0 st () with
   | none=>rw[hc] at h1;cases h1
   | some q2 =>
    obtain⟨x2,s2,u⟩:=q2;rw[hc] at h1;cases h1;cases x with
    | exit id' =>
     simp only at hev |-;split at hev<;>rename_i hid;·rw[if_pos hid];exact hev
     ·rw[if_neg hid];exact hev
    | normal=>exact hev
    | ret=>exact hev
 | scope b ih =>
  intro st r hn hev;simp only[Dk] at hn;simp only[Bh] at hev;split at hev;·cases hev
  cases ha:Bh M fuel nt b st with
  | none=>rw[ha] at hev;cases hev
  | some q =>
   obtain⟨x,s1,l1⟩:=q;have h1:=ih st _ hn ha;rw[ha] at hev;simp only[AP];cases hc:AP M fuel b AD 0 st () with
   | none=>rw[hc] at h1;cases h1
   | some q2 =>
    obtain⟨x2,s2,u⟩:=q2;rw[hc] at h1;cases h1;cases x with
    | exit id' =>
     simp only at hev |-;split at hev<;>rename_i hid;·rw[if_pos hid];exact hev
     ·cases hev
    | normal=>exact hev
    | ret=>exact hev
 | dreg=>intro st r hn;cases hn
 | _=>intro st r _ hev;exact hev
theorem Zr {g:Option (List (Nat×Nat))} {r:Bw} {st st2:St} {x:Ex} {l:List Nat} (h:Bh M fuel nt (MI g r) st=some (x,st2,l)) :
  ∃ st4,Bh M fuel nt r st=some (x,st4,l)/\(st2=st4\/x=.normal/\∃ g,st2=norm [] g (trim st4)):=by
 cases g with
 | none=>exact⟨st2,h,.inl rfl⟩
 | some g =>
  simp only[MI,Bh] at h;cases ha:Bh M fuel nt r st with
  | none=>rw[ha] at h;cases h
  | some q =>
   obtain⟨y,s1,l1⟩:=q;rw[ha] at h;cases y with
   | normal =>
    simp only[AP,Gj,cE,bG,ch] at h;obtain⟨rfl,rfl,rfl⟩:=h;exact⟨s1,rfl,.inr ⟨rfl,g,rfl⟩⟩
   | exit id=>cases h;exact⟨_,rfl,.inl rfl⟩
   | ret=>cases h;exact⟨_,rfl,.inl rfl⟩
theorem V5 {g:Option (List (Nat×Nat))} {r:Bw} (h:Dk r=true):Dk (MI g r)=true:=by
 cases g with
 | none=>exact h
 | some g=>simp[MI,Dk,h]
theorem YO {G:EH} {o:Oper} {f:RX} {args:List RX} (h:P8 G o=some (f,args)) :
  ∃ c fo,o.op=.defer c/\o.guard=none/\o.dst=none/\c.callee=.value fo/\rx G fo=some f/\D2 G c.args.toList=some args:=by
 unfold P8 at h;split at h
 ·rename_i c h1 h2 h3;split at h
  ·rename_i fo hc;split at h
   ·rename_i f' as h4 h5;cases h;exact⟨c,fo,h1,h2,h3,hc,h4,h5⟩
   ·cases h
  ·cases h
 ·cases h
theorem evalD_ok (hM:En cx M.call) (hsp:MSp cx M) (hloc:Gq M):∀ (c:Code) (lp:Nat->Option Nat) (w0:World) (I0 F0 own:Nat->Prop) (rs:List Deferred) (suf:List Value) (st:St) (x:Ex) (st2:St) (l:List Nat),
  Bh M fuel nt (BN cx.P cx.G dd c) st=some (x,st2,l)->Ref cx lp D6 AD 0 w0 I0 F0 ->
  ∀ (a:Act) (w:World) (I F:Nat->Prop) (L:AB) (Q:Exit->Act->World->Prop),SR lp I L st a.tmps.toList suf w->Fr cx w0 I0 F0 ⟨own,rs⟩ (fun _=>none) D6 () a.defers I F L w ->
   (∀ a' w' I' F' L' us rs',SR lp I' L' st2 a'.tmps.toList (us++suf) w'->Fr cx w0 I0 F0 ⟨own,rs'++rs⟩ (fun _=>none) D6 () a'.defers I' F' L' w'->Hi nt l us rs'->Q (Df x) a' w') ->
   c.wpIn (DN none) 0 cx.P Q a w:=by
 have leaf:∀ (c:Code) (lp:Nat->Option Nat) (w0:World) (I0 F0 own:Nat->Prop) (rs:List Deferred) (suf:List Value) (st:St) (x:Ex) (st2:St) (l:List Nat),
   Gj (AP M fuel (BN cx.P cx.G dd c) AD 0 st ())=some (x,st2,l)->Ref cx lp D6 AD 0 w0 I0 F0 ->
   ∀ (a:Act) (w:World) (I F:Nat->Prop) (L:AB) (Q:Exit->Act->World->Prop),SR lp I L st a.tmps.toList suf w->Fr cx w0 I0 F0 ⟨own,rs⟩ (fun _=>none) D6 () a.defers I F L w ->
    (∀ a' w' I' F' L' us rs',SR lp I' L' st2 a'.tmps.toList (us++suf) w'->Fr cx w0 I0 F0 ⟨own,rs'++rs⟩ (fun _=>none) D6 () a'.defers I' F' L' w'->Hi nt l us rs'->Q (Df x) a' w') ->
    c.wpIn (DN none) 0 cx.P Q a w:=by
  intro c lp w0 I0 F0 own rs suf st x st2 l hev href a w I F L Q hs hf hQ;unfold Gj at hev;split at hev
  ·rename_i x' st' u hq;cases hev;exact TH hM hsp hloc c Unit AD 0 D6 lp w0 I0 F0 ⟨own,rs⟩ (fun _=>none) suf none st () x st2 u hq href (fun _ h=>by cases h) a w I F L Q hs hf fun a' w' I' F' L' g1 g2=>hQ a' w' I' F' L' [] [] g1 g2 .nil
  ·cases hev
 intro c;induction c with
 | seq c1 c2 ih1 ih2 =>
  intro lp w0 I0 F0 own rs suf st x st2 l hev href a w I F L Q hs hf hQ;simp only[BN,Bh] at hev;refine wpIn_seq ?_;split at hev
  ·rename_i st3 l1 g1;split at hev
   case h_2=>cases hev
   rename_i x' st4 l2 g2;cases hev
   exact ih1 lp w0 I0 F0 own rs suf st .normal st3 l1 g1 href a w I F L _ hs hf fun a' w' I' F' L' us rs' hs' hf' hp =>
    ih2 lp w0 I0 F0 own (rs'++rs) (us++suf) st3 x st2 l2 g2 href a' w' I' F' L' Q hs' hf' fun a2 w2 I2 F2 L2 us2 rs2 hs2 hf2 hp2 =>
     hQ a2 w2 I2 F2 L2 (us2++us) (rs2++rs') (by rw[cC];exact hs2) (by rw[cC];exact hf2) (hp2.append hp)
  ·rename_i hne;refine ih1 lp w0 I0 F0 own rs suf st x st2 l hev href a w I F L _ hs hf fun a' w' I' F' L' us rs' hs' hf' hp=>?_;have:=hQ a' w' I' F' L' us rs' hs' hf' hp;cases x with
   | normal=>exact (hne _ _ hev).elim
   | exit id =>
    simp only[Df] at this |-;split<;>rename_i hid;·simp only[hid,if_true] at this;exact this
    ·simp only[hid,if_false] at this;exact this
   | ret=>exact this
 | cond c c1 c2 ih1 ih2 =>
  intro lp w0 I0 F0 own rs suf st x st2 l hev href a w I F L Q hs hf hQ;simp only[BN] at hev;split at hev
  ·rename_i rc hrc;simp only[Bh] at hev;have hc:=By hs hf.wd hrc;split at hev
   ·rename_i hb;rw[hb] at hc;exact wpIn_cond_true (Fc hc) (ih1 lp w0 I0 F0 own rs suf st x st2 l hev href a w I F L Q hs hf hQ)
   ·rename_i hb;rw[hb] at hc;exact wpIn_cond_false (Fc hc) (ih2 lp w0 I0 F0 own rs suf st x st2 l hev href a w I F L Q hs hf hQ)
   ·cases hev
  ·simp[Bh,AP,Gj] at hev
 | block id c ih =>
  intro lp w0 I0 F0 own rs suf st x st2 l hev href a w I F L Q hs hf hQ;simp only[BN] at hev;split at hev
  case isFalse=>simp[Bh,AP,Gj] at hev
  rename_i hidb;simp only[Bh] at hev;refine wpIn_block ?_;split at hev
  ·rename_i id' st3 l3 h1;refine ih lp w0 I0 F0 own rs suf st (.exit id') st3 l3 h1 href a w I F L _ hs hf fun a' w' I' F' L' us rs' hs' hf' hp=>?_;by_cases hid:id'=id
   ·rw[if_pos hid] at hev;cases hev;subst hid;simp only[Df,hidb,Exit.inBlock,if_true];exact hQ a' w' I' F' L' us rs' hs' hf' hp
   ·rw[if_neg hid] at hev;cases hev;have:=hQ a' w' I' F' L' us rs' hs' hf' hp;simp only[Df] at this |-;split<;>rename_i hid2;·simp only[hid2,if_true] at this;simp only[Exit.inBlock,hid,if_false];exact this
    ·simp only[hid2,if_false] at this;exact this
  ·rename_i hne;refine ih lp w0 I0 F0 own rs suf st x st2 l hev href a w I F L _ hs hf fun a' w' I' F' L' us rs' hs' hf' hp=>?_;have:=hQ a' w' I' F' L' us rs' hs' hf' hp;cases x with
   | normal=>exact this
   | exit id=>exact (hne _ _ _ hev).elim
   | ret=>exact this
 | scope c ih =>
  intro lp w0 I0 F0 own rs suf st x st2 l hev href a w I F L Q hs hf hQ
  have hev:Bh M fuel nt (.scope (BN cx.P cx.G dd c)) st=some (x,st2,l):=by
   have h:Bh M fuel nt (Oi c (BN cx.P cx.G dd c)) st=some (x,st2,l):=hev;unfold Oi at h;split at h;·exact h
   ·split at h
    ·exfalso;simp[Bh,S8] at h
    ·exact h
  simp only[Bh] at hev;split at hev;·cases hev
  have key:Bh M fuel nt (BN cx.P cx.G dd c) st=some (x,st2,l)/\KN x:=by
   split at hev
   ·rename_i id s3 e3 hq;split at hev;·rename_i hid;cases hev;exact⟨hq,hid⟩
    ·cases hev
   ·rename_i hne;refine⟨hev,?_⟩;cases x with
    | exit id=>exact (hne _ _ _ hev).elim
    | _=>trivial
  exact UE key.2 (ih lp w0 I0 F0 own rs suf st x st2 l key.1 href a w I F L _ hs hf fun a' w' I' F' L' us rs' hs' hf' hp=>⟨rfl,hQ a' w' I' F' L' us rs' hs' hf' hp⟩)
 | region id ops draw =>
  intro lp w0 I0 F0 own rs suf st x st2 l hev href a w I F L Q hs hf hQ;cases draw with
  | true =>
   refine leaf (.region id ops true) lp w0 I0 F0 own rs suf st x st2 l ?_ href a w I F L Q hs hf hQ;refine S4 _ st _ ?_ hev;simp only[BN,if_true];refine V5 ?_;split<;>rfl
  | false =>
   cases hd:ops.toList.getLast?.bind (P8 cx.G) with
   | none =>
    refine leaf (.region id ops false) lp w0 I0 F0 own rs suf st x st2 l ?_ href a w I F L Q hs hf hQ;refine S4 _ st _ ?_ hev;simp only[BN,bA,if_false,Qh,hd];exact V5 rfl
   | some p =>
    obtain⟨f,args⟩:=p;simp only[BN,bA,if_false,Qh,hd] at hev;obtain⟨st4,hev,hst⟩:=Zr hev;simp only[Bh] at hev;split at hev
    case h_2=>cases hev
    rename_i st3 u hr;obtain⟨hchk,hev2⟩:=Bm hev;clear hev;cases hev2;simp only[bB,decide_eq_true_eq] at hchk;obtain⟨o,ho,hdo⟩:=cB.1 hd;obtain⟨c,fo,q1,q2,q3,q4,q5,q6⟩:=YO hdo
    have hsplit:ops.toList=ops.toList.dropLast++[o]:=by
     have hne:ops.toList≠[]:=fun e=>by rw[e] at ho;cases ho
     obtain⟨l0,hl0⟩:=List.getLast?_eq_some_iff.1 ho;rw[hl0];simp
    have hm:ops.toList.length=ops.toList.dropLast.length+1:=by rw[hsplit];simp
    obtain⟨L',hs',hf'⟩:=NL (CC (ops.toList.dropLast.map (Cy cx.P cx.G))) hs hf;refine wpIn_region ?_;have hr0:EB M AD 0 (ops.toList.dropLast.map (Cy cx.P cx.G)) ((ops.toList.dropLast.map (Cy cx.P cx.G)).drop 0) (EG (CC (ops.toList.dropLast.map (Cy cx.P cx.G))) st) ()=some (st3,u):=by rw[cI];exact hr
    have hrun:=(UI 0 hr0).more (r2:=[Cy cx.P cx.G o]);rw[cI,bS] at hrun
    have hmap:ops.toList.dropLast.map (Cy cx.P cx.G)++[Cy cx.P cx.G o]=ops.toList.map (Cy cx.P cx.G):=by
     conv=>rhs;rw[hsplit]
     simp
    rw[hmap] at hrun
    have hrange:List.range ops.size=List.range ops.toList.dropLast.length++[ops.toList.dropLast.length]:=by
     rw[<-dl,hm,List.range_succ]
    rw[hrange];refine R6 hM hsp href hrun hs' hf' fun a1 w1 I1 F1 L1 hs1 hf1=>?_
    have hget:ops[ops.toList.dropLast.length]?=some o:=by
     rw[<-dM,hsplit];simp
    simp only[wpOpsIn,hget];have hwant:Region.wanted o (yielded ops a1.tmps)=true:=by simp[Region.wanted,q2]
    rw[if_pos hwant];have hfv:=By hs1 hf1.wd q5;have hargs:=P7 hs1 hf1.wd q6
    obtain⟨g,cap,hfn⟩:∃ g cap,f.ev st3.tmps=.fn g cap:=by
     have:=hchk.2;unfold isFn at this;split at this;·rename_i g cap hq;exact⟨g,cap,hq⟩
     ·cases this
    have hfv2:=hfv;rw[hfn] at hfv;obtain⟨fst,caps,hv,_,_⟩:=KX hfv
    have hrunD:(execOp a1.eval o).run cx.P w1=.ok (.defer {target:=.fn (.func (AW g)) caps,args:=fst++(c.args.toList.map a1.eval).toArray}) w1:=by
     have harr:(c.args.toList.map a1.eval).toArray=c.args.map a1.eval:=by rw[<-eH,df]
     simp[execOp,q1,resolve,q4,hv,Deferred.ofValue,harr]
    refine⟨fun _ _=>trivial,?_⟩;show o.uponIn (DN none) 0 cx.P a1 _ Q ((execOp a1.eval o).run cx.P w1);rw[hrunD,Oper.uponIn_defer,q3];show wpOpsIn (DN none) 0 cx.P ops Q [] _ w1;simp only[wpOpsIn]
    have hal:(c.args.toList.map a1.eval).length=args.length:=by
     have:=hargs.length;simpa using this.symm
    have hkp:Aq w1 I1 lp (some L1) (f.ev st3.tmps :: args.map (RX.ev st3.tmps)++List.replicate (nt - (f.ev st3.tmps :: args.map (RX.ev st3.tmps)).length) .undef++st3.keep)
      (.func (.func (AW g)) fst caps :: (c.args.toList.map a1.eval++List.replicate (nt - (f.ev st3.tmps :: args.map (RX.ev st3.tmps)).length) undef)++suf):=by
     have h1:Aq w1 I1 lp (some L1) (f.ev st3.tmps :: args.map (RX.ev st3.tmps)) (.func (.func (AW g)) fst caps :: c.args.toList.map a1.eval):=.cons _ _ _ _ (by rw[<-hv];exact hfv2) hargs;have h2:=(h1.append (Aq.undefs (nt - (f.ev st3.tmps :: args.map (RX.ev st3.tmps)).length) (List.replicate (nt - (f.ev st3.tmps :: args.map (RX.ev st3.tmps)).length) undef) (by simp))).append hs1.kp;simpa[cC] using h2
    have hs2:SR lp I1 L1 (QA nt (f.ev st3.tmps :: args.map (RX.ev st3.tmps)) st3) a1.tmps.toList (.func (.func (AW g)) fst caps :: (c.args.toList.map a1.eval++List.replicate (nt - (f.ev st3.tmps :: args.map (RX.ev st3.tmps)).length) undef)++suf) w1 :=
     ⟨hs1.tm,hkp,hs1.ob,hs1.dom⟩
    have hf2:Fr cx w0 I0 F0 ⟨own,[{target:=.fn (.func (AW g)) caps,args:=fst++(c.args.toList.map a1.eval).toArray}]++rs⟩ (fun _=>none) D6 () ({target:=.fn (.func (AW g)) caps,args:=fst++(c.args.toList.map a1.eval).toArray} :: a1.defers) I1 F1 L1 w1 :=
     ⟨hf1.ext,hf1.sep,hf1.oF,hf1.lB,hf1.inj,hf1.wd,hf1.re,.call _ _ _ (fun D h=>by cases h) hf1.mks,hf1.hld⟩
    obtain⟨L2,t1,t2⟩:∃ L2,SR lp I1 L2 st2 a1.tmps.toList (.func (.func (AW g)) fst caps :: (c.args.toList.map a1.eval++List.replicate (nt - (f.ev st3.tmps :: args.map (RX.ev st3.tmps)).length) undef)++suf) w1 /\
      Fr cx w0 I0 F0 ⟨own,[{target:=.fn (.func (AW g)) caps,args:=fst++(c.args.toList.map a1.eval).toArray}]++rs⟩ (fun _=>none) D6 () ({target:=.fn (.func (AW g)) caps,args:=fst++(c.args.toList.map a1.eval).toArray} :: a1.defers) I1 F1 L2 w1:=by
     obtain⟨L2,t1,t2⟩:=PT (dd id).lv hs2 hf2;rcases hst with rfl | ⟨_,g',rfl⟩;·exact⟨L2,t1,t2⟩
     ·obtain⟨L3,t3,t4⟩:=Tn t1 t2;exact NV [] g' t3 t4
    refine hQ _ w1 I1 F1 L2 (.func (.func (AW g)) fst caps :: (c.args.toList.map a1.eval++List.replicate (nt - (f.ev st3.tmps :: args.map (RX.ev st3.tmps)).length) undef)) [_] t1 t2 ?_;have hp:=Hi.cons (nt:=nt) args.length [] [] (List.replicate (nt - (f.ev st3.tmps :: args.map (RX.ev st3.tmps)).length) undef) [] (.func (AW g)) fst caps (c.args.toList.map a1.eval) hal (by simp;omega) .nil;simpa using hp
 | skip=>intro lp w0 I0 F0 own rs suf st x st2 l hev;exact leaf .skip lp w0 I0 F0 own rs suf st x st2 l hev
 | loop c _ =>
  intro lp w0 I0 F0 own rs suf st x st2 l hev;refine leaf (.loop c) lp w0 I0 F0 own rs suf st x st2 l (S4 _ st _ ?_ hev);simp only[BN,QF];split
  ·rename_i hp;simp only[bB] at hp;simp[Dk,hp.2]
  ·rfl
 | rangeFunc f ps asg b _ _ =>
  intro lp w0 I0 F0 own rs suf st x st2 l hev
  exact leaf (.rangeFunc f ps asg b) lp w0 I0 F0 own rs suf st x st2 l (by
   rw[<-hev];simp only[BN];split
   ·unfold T1;split;·rfl
    ·exact (seq_leaf _ _ _ _ _ _).symm
   ·rfl)
 | exit id=>intro lp w0 I0 F0 own rs suf st x st2 l hev;exact leaf (.exit id) lp w0 I0 F0 own rs suf st x st2 l (by rw[<-hev];simp only[BN];split<;>rfl)
 | label n=>intro lp w0 I0 F0 own rs suf st x st2 l hev;exact leaf (.label n) lp w0 I0 F0 own rs suf st x st2 l hev
 | goto n=>intro lp w0 I0 F0 own rs suf st x st2 l hev;exact leaf (.goto n) lp w0 I0 F0 own rs suf st x st2 l hev
 | ret=>intro lp w0 I0 F0 own rs suf st x st2 l hev;exact leaf .ret lp w0 I0 F0 own rs suf st x st2 l hev
 | refuse s=>intro lp w0 I0 F0 own rs suf st x st2 l hev;exact leaf (.refuse s) lp w0 I0 F0 own rs suf st x st2 l hev
theorem Us {P:Program} {F:Fence} {k:Nat} {fn:Func} {tmps:Array Value} {R:Ending->World->Prop} {cs:List Frame}:∀ (ds:List Deferred) (w:World) (fr:Frame),
  fr.mode=.returning->fr.defers=ds->F.fn fr.fn->F.room (cs.length+1+k)->(∀ d∈ds,∃ r,d.target=.collected r)->LeavesInM F k P fn tmps R ds .returning w ->
  ∃ v w',StepsIn (Machine.fenced P F) P (lone fr cs w) (lone {fr with defers:=[]} cs w')/\(results fn tmps).run P w'=.ok v w'/\R (.returned v) w':=by
 intro ds;induction ds with
 | nil =>
  intro w fr hm hd _ _ _ h;obtain⟨v,h1,h2⟩:=h;refine⟨v,w,?_,h1,h2⟩;have:({fr with defers:=[]}:Frame)=fr:=by rw[<-hd]
  rw[this];exact StepsIn.refl _
 | cons d ds ih =>
  intro w fr hm hd hb hroom hall h;obtain⟨hrun,h⟩:=h;obtain⟨r,hr⟩:=hall d bT;rcases h with ⟨r',w',htar,htake,hrest⟩ | ⟨_,fv,cap,f,args,htar,_⟩
  ·have hm':fr.mode≠.run:=by rw[hm];simp
   have h1:=step_collected (cs:=cs) hm' hd htar htake;have i1:(lone fr cs w).fenced P F:=fenced_out hb hroom hm' hd (fun g hg=>by rw[htar] at hg;simp[Target.leads] at hg);obtain⟨v,w'',g1,g2,g3⟩:=ih w' {fr with defers:=[]++ds} hm rfl hb hroom (fun d hd=>hall d (bM _ hd)) hrest;exact⟨v,w'',.head i1 h1 g1,g2,g3⟩
  ·rw[hr] at htar;cases htar
def bt (F:Fence) (n:Nat) (P:Program) (fn:Func) (R:Ending->World->Prop):Exit->Act->World->Prop
 | .normal,a,w | .ret,a,w=>(∀ d∈a.defers,∃ r,d.target=.collected r)/\LeavesInM F n P fn a.tmps R a.defers .returning w
 | _,_,_=>False
theorem Yd {P:Program} {F:Fence} {n:Nat} {f:FuncId} {fn:Func} {c:Code} {args:Array Value} {u:FrameMode} {w:World} {R:Ending->World->Prop}
  (hf:P.funcs[f]?=some fn) (hb:fn.body=some c) (hF:F.fn f)
  (h:c.wpIn F n P (bt F n P fn R) {tmps:=args++Array.replicate (fn.ntmps - args.size) undef,defers:=[]} w) (hro:F.round=none:=by rfl) :
  CallsDIn F n P f args u w fun e u' w'=>u'=u/\R e w':=by
 refine⟨hF,fun c₀ cs hu hr=>?_⟩
 let b:Frame:={(default:Frame) with fn:=f,kind:=.deferred,roundOf:=none}
 have henter:Frame.enter P f args .deferred =
   b.atR {tmps:=args++Array.replicate (fn.ntmps - args.size) undef,defers:=[]} [.code c]:=by
  simp[Frame.enter,Frame.atR,hf,hb,b]
 have hc:({c₀ with mode:=u}:Frame)=c₀:=by subst hu;rfl
 obtain⟨e,a',w',hq,harr⟩:=h b [] (c₀ :: cs) hro.symm hF hr;rw[<-henter] at harr;cases e with
 | normal =>
  obtain⟨hm,hl⟩:=hq;obtain⟨v,w'',g1,g2,g3⟩:=Us a'.defers w' {b.atR a' [] with mode:=.returning} rfl rfl hF hr hm hl;exact⟨.returned v,u,w'',_,⟨rfl,g3⟩,(by rw[hc];exact StepsIn.trans (StepsIn.trans harr (.one (fenced_calm (fr:=b.atR a' []) hF hr rfl) (stepR_end rfl))) g1),rfl,rfl,rfl,rfl,fn,hf,g2⟩
 | ret =>
  obtain⟨hm,hl⟩:=hq;obtain⟨todo,hs⟩:=harr.1 rfl;obtain⟨v,w'',g1,g2,g3⟩:=Us a'.defers w' {b.atR a' todo with mode:=.returning} rfl rfl hF hr hm hl;exact⟨.returned v,u,w'',_,⟨rfl,g3⟩,(by rw[hc];exact StepsIn.trans hs g1),rfl,rfl,rfl,rfl,fn,hf,g2⟩
 | panic chain=>exact hq.elim
 | exit id=>exact hq.elim
 | goto l=>exact hq.elim
 | outgrown=>exact hq.elim
def Rz (cx:Cx) (M:Ba):Prop :=
 ∀ (g:FuncId) (d0:Nat) (st:St) (vs:List PV) (out:AK),M.flat g=true->M.io g d0 (Ak st.objs) vs=some out->Cw cx.P g /\
  ∀ (E:Type) (w0:World) (I0 F0:Nat->Prop) (O0:BZ) (Hd:Nat->Option Obj) (R:BR E) (e:E) (ds:List Deferred) (I F:Nat->Prop) (lp:Nat->Option Nat) (L:AB) (tmv suf us:List Value) (w:World) (u:FrameMode),
   SR lp I L st tmv suf w->Fr cx w0 I0 F0 O0 Hd R e ds I F L w->Aq w I lp (some L) vs us->(out.new=[]\/out.slot.isSome=true) ->
   CallsDIn Fence.wide 0 cx.P g us.toArray u w fun en u' w'=>u'=u/\match en with
    | .returned _=>∃ I' L',SR lp I' L' (apply st none out) tmv suf w'/\Fr cx w0 I0 F0 O0 Hd R e ds I' F L' w'
    | _=>False
theorem Fr.unmark {E:Type} {w0 w:World} {I0 F0 I F:Nat->Prop} {O0:BZ} {Hd:Nat->Option Obj} {R:BR E} {e:E} {ds:List Deferred} {L:AB} {D:Nat} (hHd:∀ b,Hd b=none)
  (hf:Fr cx w0 I0 F0 O0 Hd R e ({target:=.collected D,args:=#[]} :: ds) I F L w) :
  w.heap[D]?=some (.deferred (some []))/\¬ I D/\(∀ nm C,L nm≠some (some (D,C)))/\Fr cx w0 I0 F0 O0 Hd R e ds I F L (w.putObj D (.deferred none)):=by
 obtain⟨rs,hrs⟩:∃ rs,rs=O0.dfs:=⟨_,rfl⟩;have hm:=hf.mks;rw[<-hrs] at hm;cases hm with
 | call d ds rs hd h=>exact absurd rfl (hd D)
 | cons D' ds' rs' h1 h2 h3 h4 h5 h6 h7 hr =>
  have hk:∀ b,b≠D->(w.putObj D (.deferred none)).heap[b]?=w.heap[b]?:=fun b hb=>World.putObj_heap_other hb;have hsz:(w.putObj D (.deferred none)).heap.size=w.heap.size:=World.putObj_size
  refine⟨h6,h3,h5,⟨hf.ext.os,hf.ext.tape,hf.ext.output,by rw[hsz];exact hf.ext.size,fun b hb hF=>?_,hf.ext.subI,hf.ext.newI,hf.ext.newF⟩,⟨fun b hb=>by rw[hsz];exact hf.sep.iB b hb,fun b hb=>⟨by rw[hsz];exact (hf.sep.fB b hb).1,(hf.sep.fB b hb).2⟩⟩,hf.oF,
   fun nm b C hn=>⟨(hf.lB nm b C hn).1,by rw[hsz];exact (hf.lB nm b C hn).2.1,(hf.lB nm b C hn).2.2⟩,hf.inj,?_,?_,?_,?_⟩
  ·have hne:b≠D:=fun e=>by omega
   exact (hk b hne).trans (hf.ext.keep b hb hF)
  ·exact cx.stab I I w _ hf.wd (fun _ h=>h) (fun b hb=>hk b fun e=>h3 (e ▸ hb)) (by rw[hsz];exact bF _)
  ·exact R.stab e I I F w _ hf.re (fun _ h=>h) (fun b hb=>hk b fun e=>hb.elim (fun h=>h3 (e ▸ h)) fun h=>h4 (e ▸ h)) (by rw[hsz];exact bF _)
  ·have key:∀ ds rs,Dd w0.heap.size I F L w ds rs->(∀ d∈ds,d.target≠.collected D)->Dd w0.heap.size I F L (w.putObj D (.deferred none)) ds rs:=by
    intro ds rs hm;induction hm with
    | nil=>intro _;exact .nil
    | call d' ds rs hd _ ih=>intro hne;exact .call d' ds rs hd (ih fun d hd=>hne d (bM _ hd))
    | cons D' ds rs g1 g2 g3 g4 g5 g6 g7 _ ih =>
     intro hne;have hDD:D'≠D:=fun e=>hne {target:=.collected D',args:=#[]} bT (by rw[e]);exact .cons D' ds rs g1 (by rw[hsz];exact g2) g3 g4 g5 ((hk D' hDD).trans g6) g7 (ih fun d hd=>hne d (bM _ hd))
   rw[<-hrs];exact key ds _ hr h7
  ·intro b ob hb;rw[hHd b] at hb;cases hb
theorem Vj (hiod:Rz cx M) {fn:Func} {tmps:Array Value} {Rr:Ending->World->Prop} {w0:World} {I0 F0 own:Nat->Prop} {lp:Nat->Option Nat} {suf:List Value} {st2:St}:∀ (ds:List Deferred) (rs:List Deferred) (l:List Nat) (us:List Value) (st:St) (w:World) (I F:Nat->Prop) (L:AB),
  SR lp I L st tmps.toList (us++suf) w->Fr cx w0 I0 F0 ⟨own,rs⟩ (fun _=>none) D6 () ds I F L w->Hi nt l us rs->GS M nt l st=some st2 ->
  (∀ w2 I2 F2 L2,SR lp I2 L2 st2 tmps.toList suf w2->Fr cx w0 I0 F0 ⟨own,[]⟩ (fun _=>none) D6 () [] I2 F2 L2 w2->∃ v,(results fn tmps).run cx.P w2=.ok v w2/\Rr (.returned v) w2) ->
  LeavesInM Fence.wide 0 cx.P fn tmps Rr ds .returning w:=by
 intro ds;induction ds with
 | nil =>
  intro rs l us st w I F L hs hf hp hd h;have hm:=hf.mks;cases hm;cases hp;cases hd;exact h w I F L hs hf
 | cons d ds ih =>
  intro rs l us st w I F L hs hf hp hd h;cases hm:hf.mks with
  | cons D _ _ h1 h2 h3 h4 h5 h6 h7 hr =>
   obtain⟨q1,q2,q3,q4⟩:=hf.unmark fun _=>rfl;exact⟨by simp,.inl ⟨D,_,rfl,run_takeDeferred q1,ih rs l us st _ I F L (hs.hput _ q2 q3) q4 hp hd h⟩⟩
  | call _ _ rs' hdt hr =>
   cases hp with
   | cons k l' us' pad _ fv fst caps args hk hn hp' =>
    unfold GS at hd;have hkp:=hs.kp;have h0:=hkp.getD 0 undef;split at hd
    case h_2=>cases hd
    rename_i f cap hfv;rw[hfv] at h0;have e0:(Value.func fv fst caps :: (args++pad)++us'++suf).getD 0 undef=.func fv fst caps:=rfl;rw[e0] at h0;obtain⟨us0,vs0,hv,hfk,hcap⟩:=KX h0;cases hv;split at hd;·cases hd
    split at hd
    case isFalse=>cases hd
    rename_i hflat
    simp only[bB] at hflat
    split at hd
    case h_2=>cases hd
    rename_i out hout;obtain⟨hnew,hd⟩:=Bm hd
    have hargs:Aq w I lp (some L) ((st.keep.drop 1).take k) args:=by
     have:=(hkp.drop 1).take k
     have e:((Value.func (.func (AW f)) fst caps :: (args++pad)++us'++suf).drop 1).take k=args:=by
      simp[cC,<-hk]
     rwa [e] at this
    have hall:=Sf hfk hcap hargs
    have hkeep:Aq w I lp (some L) (st.keep.drop nt) (us'++suf):=by
     have:=hkp.drop nt
     have e:(Value.func (.func (AW f)) fst caps :: (args++pad)++us'++suf).drop nt=us'++suf:=by
      have e2:(Value.func (.func (AW f)) fst caps :: (args++pad)++us'++suf)=(Value.func (.func (AW f)) fst caps :: (args++pad))++(us'++suf):=by simp[cC]
      rw[e2,List.drop_append_of_le_length (by simp;omega),dC (by simp;omega)];rfl
     rwa [e] at this
    have hs1:SR lp I L {st with keep:=st.keep.drop nt} tmps.toList (us'++suf) w:=⟨hs.tm,hkeep,hs.ob,hs.dom⟩;have hf1:Fr cx w0 I0 F0 ⟨own,rs'⟩ (fun _=>none) D6 () ds I F L w:=⟨hf.ext,hf.sep,hf.oF,hf.lB,hf.inj,hf.wd,hf.re,hr,hf.hld⟩;obtain⟨q1,q2⟩:=hiod (AW f) 0 {st with keep:=st.keep.drop nt} _ out hflat.2 hout;have hnew:out.new=[]\/out.slot.isSome=true:=by simpa using hnew
    have hcall:=q2 Unit w0 I0 F0 ⟨own,rs'⟩ (fun _=>none) D6 () ds I F lp L tmps.toList (us'++suf) _ w .returning hs1 hf1 hall hnew;obtain⟨fnG,e1,e2,e3⟩:=q1;have hb:¬ fnG.body=none:=by intro h;rw[h] at e3;cases e3
    have hname:¬ fnG.name = "runtime.NumGoroutine":=by intro h;rw[h] at e2;simp at e2
    have harr:(fst.toList++(args++caps.toList)).toArray=fst++args.toArray++caps:=by simp[Array.append_assoc]
    refine⟨by simp,.inr ⟨fun h=>by simp[Fence.wide] at h,.func (AW f),caps,AW f,fst++args.toArray++caps,rfl,by simp[invoke,callFunc,e1,hname,hb],fun _ _=>trivial,?_⟩⟩;rw[harr] at hcall;refine hcall.mono fun en u' w' hq=>?_;obtain⟨rfl,hq⟩:=hq;cases en with
    | returned v =>
     obtain⟨I',L',g1,g2⟩:=hq;exact ih rs' l' us' _ w' I' F L' g1 g2 hp' hd h
    | panicked chain=>exact hq.elim
    | outgrown=>exact hq.elim
end
end Go.Ab


namespace Go.Ab
section
variable {w:World} {I:Nat->Prop} {lp lp':Nat->Option Nat}
theorem Aq.narrow {L L':AB} {xs:List PV} {vs:List Value} (h:Aq w I lp (some L) xs vs) (hn:∀ nm∈AQ xs,∀ p,L nm=some p->L' nm=some p):Aq w I lp (some L') xs vs:=by
 have hs:Ee w I lp L (some L') (fun nm=>nm∈AQ xs) (fun _=>none):=fun nm p hS hp=>⟨L',rfl,hn nm hS p hp⟩;have:=Aq.subst (fun _ h=>h) hs h fun _ h=>h
 rwa [Go.Ab.subL_id] at this
theorem BD.narrow {L L':AB} {ob:Ob} {p:Option (Nat×Nat)} (h:BD w I lp L ob p) (hn:∀ nm∈ob.names,∀ p,L nm=some p->L' nm=some p):BD w I lp L' ob p:=by
 have hs:Ee w I lp L (some L') (fun nm=>nm∈ob.names) (fun _=>none):=fun nm p hS hp=>⟨L',rfl,hn nm hS p hp⟩;have:=BD.subst h (fun _ h=>h) (fun _ _=>rfl) hs (fun _ h=>h) fun _ _ _=>rfl
 rwa [Ob.sub_id] at this
theorem BD.noY {L:AB} {ob:Ob} {p:Option (Nat×Nat)} (h:BD w I lp L ob p) (hy:ob.hasY=false):BD w I lp' L ob p:=by
 cases p with
 | none=>exact h
 | some p =>
  cases ob with
  | cells ty cs=>obtain⟨c,E,h1,h2,h4,h3⟩:=h;exact⟨c,E,h1,h2,h4,h3.noY hy⟩
  | arr k kt xs=>obtain⟨c,E,h1,h2,h3,h4,h6,h5⟩:=h;exact⟨c,E,h1,h2,h3,h4,h6,h5.noY (RY (w:=w) (I:=I) (lp:=lp) (lp':=lp') xs hy)⟩
  | map es=>obtain⟨c,E,h1,h2⟩:=h;exact⟨c,E,h1,h2.noY hy⟩
  | siter s pos=>exact h
def GeP:Option (Nat×Nat)->Option (Nat×Nat)->Prop
 | none,none=>True
 | some (b,C),some (b',C')=>b'=b/\C<=C'
 | _,_=>False
def J0 (L L':AB):Prop:=∀ nm p,L nm=some p->∃ p',L' nm=some p'/\GeP p p'
theorem GeP.refl (p:Option (Nat×Nat)):GeP p p:=by
 cases p with
 | none=>trivial
 | some p=>exact⟨rfl,bF _⟩
theorem J0.at {L L':AB} (h:J0 L L') {nm:Nm} {b C:Nat} (hn:L nm=some (some (b,C))):∃ C',L' nm=some (some (b,C'))/\C<=C':=by
 obtain⟨p,h1,h2⟩:=h nm _ hn;cases p with
 | none=>exact h2.elim
 | some p=>obtain⟨b',C'⟩:=p;obtain⟨rfl,h3⟩:=h2;exact⟨C',h1,h3⟩
theorem J0.atN {L L':AB} (h:J0 L L') {nm:Nm} (hn:L nm=some none):L' nm=some none:=by
 obtain⟨p,h1,h2⟩:=h nm _ hn;cases p with
 | none=>exact h1
 | some p=>exact h2.elim
mutual
theorem Au.ge {L L':AB} {x:PV} {v:Value}:Au w I lp (some L) x v->J0 L L'->Au w I lp (some L') x v
 | .undef v,_=>.undef v
 | .bool b,_=>.bool b
 | .int k n,_=>.int k n
 | .str s,_=>.str s
 | .nilS,_=>.nilS
 | .nilP,_=>.nilP
 | .nilF,_=>.nilF
 | .nilI,_=>.nilI
 | .nilM,_=>.nilM
 | .slE k full a cap hf,_=>.slE k full a cap hf
 | .sl k xs full b off cap c E fr h1 h2 h3 h4 h5 h6 h8 h7,_=>.sl k xs full b off cap c E fr h1 h2 h3 h4 h5 h6 h8 h7
 | .ptr cs o b off c E fr h1 h2 h3 h4 h8 h5,_=>.ptr cs o b off c E fr h1 h2 h3 h4 h8 h5
 | .agg cs vs h1 h,e=>.agg cs vs h1 (h.ge e)
 | .iface t x v h,e=>.iface t x v (h.ge e)
 | .fn f cs us vs hk h,e=>.fn f cs us vs hk (h.ge e)
 | .yld d l h,_=>.yld d l h
 | .tup xs vs h,e=>.tup xs vs (h.ge e)
 | .imap es r ents clock h1 h2 h3,_=>.imap es r ents clock h1 h2 h3
 | .glob g t x c E fr h1 h2 h3,_=>.glob g t x c E fr h1 h2 h3
 | .ref nm o b C h,e=>let ⟨C',h',_⟩:=e.at h;.ref nm o b C' h'
 | .aref nm k i o b C h,e=>let ⟨C',h',_⟩:=e.at h;.aref nm k i o b C' h'
 | .arr nm k o n cap b C h hC hn,e=>let ⟨C',h',hle⟩:=e.at h;.arr nm k o n cap b C' h' (dz hC hle) hn
 | .arrN nm k h,e=>.arrN nm k (e.atN h)
 | .mp nm b C h,e=>let ⟨C',h',_⟩:=e.at h;.mp nm b C' h'
 | .it nm b C h,e=>let ⟨C',h',_⟩:=e.at h;.it nm b C' h'
theorem Aq.ge {L L':AB} {xs:List PV} {vs:List Value}:Aq w I lp (some L) xs vs->J0 L L'->Aq w I lp (some L') xs vs
 | .nil,_=>.nil
 | .cons x v xs vs h hs,e=>.cons x v xs vs (h.ge e) (hs.ge e)
end
theorem BD.ge {L L':AB} {ob:Ob} {p:Option (Nat×Nat)} (h:BD w I lp L ob p) (e:J0 L L'):BD w I lp L' ob p:=by
 cases p with
 | none=>exact h
 | some p =>
  cases ob with
  | cells ty cs=>obtain⟨c,E,h1,h2,h4,h3⟩:=h;exact⟨c,E,h1,h2,h4,h3.ge e⟩
  | arr k kt xs=>exact h
  | map es=>exact h
  | siter s pos=>exact h
theorem Aq.of_get {L:Option AB}:∀ {xs:List PV} {vs:List Value},xs.length=vs.length->(∀ (i:Nat) (x:PV) (v:Value),xs[i]?=some x->vs[i]?=some v->Au w I lp L x v)->Aq w I lp L xs vs:=by
 intro xs;induction xs with
 | nil=>intro vs h _;cases vs with | nil=>exact .nil | cons v vs=>simp at h
 | cons x xs ih =>
  intro vs h hg;cases vs with
  | nil=>simp at h
  | cons v vs=>exact .cons _ _ _ _ (hg 0 x v rfl rfl) (ih (by simpa using h) fun i y u hy hu=>hg (i+1) y u (by simpa using hy) (by simpa using hu))
end
theorem Sa:∀ {l:List Nm} {x:Nm},x∈Dr l↔x∈l:=by
 intro l;induction l with
 | nil=>intro x;simp[Dr]
 | cons y l ih =>
  intro x;simp only[Dr];split
  ·rename_i h;have hy:y∈l:=by simpa using h
   rw[ih,bH];exact⟨.inr,fun h=>h.elim (fun e=>e ▸ hy) id⟩
  ·rw[bH,bH,ih]
theorem bn:∀ {l:List Nm} (i j:Nat) (x:Nm),(Dr l)[i]?=some x->(Dr l)[j]?=some x->i=j:=by
 intro l;induction l with
 | nil=>intro i j x h;simp[Dr] at h
 | cons y l ih =>
  intro i j x hi hj;simp only[Dr] at hi hj;split at hi
  ·rename_i h;rw[if_pos h] at hj;exact ih i j x hi hj
  ·rename_i h;rw[if_neg h] at hj;have hy:y ∉ Dr l:=fun hm=>h (by simpa using Sa.1 hm);cases i with
   | zero =>
    cases j with
    | zero=>rfl
    | succ j=>simp at hi hj;subst hi;exact absurd (bQ hj) hy
   | succ i =>
    cases j with
    | zero=>simp at hi hj;subst hj;exact absurd (bQ hi) hy
    | succ j=>simp at hi hj;rw[ih i j x hi hj]
theorem idx_get {l:List Nm} {x:Nm} (h:x∈l):l[l.idxOf x]?=some x:=by
 have hidx:=List.idxOf_lt_length_of_mem h;rw[bN hidx];simp
theorem SA:∀ {B:List (Nm×Nm)} {s t:Nm},DE (B.map (·.1))=true->(s,t)∈B->B.lookup s=some t:=by
 intro B;induction B with
 | nil=>intro s t _ h;cases h
 | cons p B ih =>
  obtain⟨a,b⟩:=p;intro s t hn h;simp only[bz,DE,bB,dn] at hn;rcases bH.1 h with h2 | h2;·cases h2;simp
  ·have hne:s≠a:=by
    rintro rfl;have:(B.map (·.1)).contains s=true:=by rw[cV];exact bE.2 ⟨(s,t),h2,rfl⟩
    rw[this] at hn;cases hn.1
   have hb:(s==a)=false:=by simpa using hne
   rw[eB,hb];exact ih hn.2 h2
theorem az {B:List (Nm×Nm)} (hn:DE (B.map (·.1))=true) {s t t':Nm} (h:(s,t)∈B) (h':(s,t')∈B):t=t':=by
 have:=(SA hn h).symm.trans (SA hn h');exact dp this
theorem Zg:∀ (l:List (Nm×Ob)) (objs:List (List Ob)) (t:Nm),(∀ p∈l,∃ o,Ak objs p.1=some o) ->
  (∀ o,(∀ o',(t,o')∈l->o'=o)->(t,o)∈l->Ak (Fj l objs) t=some o)/\((∀ o,(t,o) ∉ l)->Ak (Fj l objs) t=Ak objs t):=by
 intro l;induction l with
 | nil=>intro objs t _;exact⟨fun o _ h=>(by cases h),fun _=>rfl⟩
 | cons p l ih =>
  obtain⟨nm,ob⟩:=p;intro objs t hx
  have hx':∀ p∈l,∃ o,Ak (Bi objs nm ob) p.1=some o:=by
   intro p hp;cases hl:Ak (Bi objs nm ob) p.1 with
   | some o=>exact⟨o,rfl⟩
   | none =>
    obtain⟨o,ho⟩:=hx p (bM _ hp);rw[IZ] at hl;rw[ho] at hl;cases hl
  obtain⟨i1,i2⟩:=ih (Bi objs nm ob) t hx';refine⟨fun o hu ho=>?_,fun hno=>?_⟩
  ·by_cases hl:∃ o',(t,o')∈l
   ·obtain⟨o',ho'⟩:=hl;have:=hu o' (bM _ ho');subst this;exact i1 o' (fun o2 h2=>hu o2 (bM _ h2)) ho'
   ·have hnl:∀ o',(t,o') ∉ l:=fun o' h=>hl ⟨o',h⟩;rcases bH.1 ho with he | he
    ·have e1:t=nm:=congrArg Prod.fst he;have e2:o=ob:=congrArg Prod.snd he;subst e1;subst e2;obtain⟨o0,h0⟩:=hx (t,o) bT;have:=i2 hnl;exact this.trans (Kf o h0)
    ·exact absurd he (hnl o)
  ·have hne:t≠nm:=by rintro rfl;exact hno ob bT
   show Ak (Fj l (Bi objs nm ob)) t=Ak objs t;rw[i2 fun o h=>hno o (bM _ h),Hk ob hne]
noncomputable def Du (L L':AB) (B:List (Nm×Nm)):AB:=fun t =>
 open Classical in if h:∃ s,(s,t)∈B then some ((L' h.choose).getD none) else L t
theorem WY {L L':AB} {B:List (Nm×Nm)} (hU:∀ s s' t,(s,t)∈B->(s',t)∈B->s=s') {s t:Nm} (h:(s,t)∈B):Du L L' B t=some ((L' s).getD none):=by
 unfold Du;have hx:∃ s,(s,t)∈B:=⟨s,h⟩;rw[dif_pos hx,hU _ _ t hx.choose_spec h]
theorem locIo_out {L L':AB} {B:List (Nm×Nm)} {t:Nm} (h:∀ s,(s,t) ∉ B):Du L L' B t=L t:=by
 unfold Du;rw[dif_neg fun ⟨s,hs⟩=>h s hs]
def Ed (B:List (Nm×Nm)) (m:Nm):Option (Option Ob):=if (B.map (·.1)).contains m then none else some none
def Ea (B:List (Nm×Nm)) (m:Nm):Nm:=(B.lookup m).getD m
theorem mem_first {B:List (Nm×Nm)} {m:Nm}:(B.map (·.1)).contains m=true↔∃ t,(m,t)∈B:=by
 rw[cV,bE];constructor;·rintro ⟨⟨a,b⟩,h1,rfl⟩;exact⟨b,h1⟩
 ·rintro ⟨t,h⟩;exact⟨(m,t),h,rfl⟩
section take
variable {w:World} {I:Nat->Prop} {lp:Nat->Option Nat} {L L':AB} {B:List (Nm×Nm)}
theorem cut_ok (hn:DE (B.map (·.1))=true) (hU:∀ s s' t,(s,t)∈B->(s',t)∈B->s=s'):Ee w I lp L' (some fun m=>if (B.map (·.1)).contains m then L' m else none) (fun _=>True) (Ed B):=by
 intro nm p _ hp;by_cases h:(B.map (·.1)).contains nm=true
 ·simp only[Ed,h,if_true];exact⟨_,rfl,by simp only[h,if_true];exact hp⟩
 ·simp only[Ed,h];trivial
theorem XI (hn:DE (B.map (·.1))=true) (hU:∀ s s' t,(s,t)∈B->(s',t)∈B->s=s') (nm:Nm) (p:Option (Nat×Nat)) (hp:(fun m=>if (B.map (·.1)).contains m then L' m else none) nm=some p):Du L L' B (Ea B nm)=some p:=by
 simp only at hp;split at hp
 ·rename_i h;obtain⟨t,ht⟩:=mem_first.1 h;have hl:Ea B nm=t:=by unfold Ea;rw[SA hn ht];rfl
  rw[hl,WY hU ht,hp];rfl
 ·cases hp
theorem take_val (hn:DE (B.map (·.1))=true) (hU:∀ s s' t,(s,t)∈B->(s',t)∈B->s=s') {x:PV} {v:Value} (h:Au w I lp (some L') x v):Au w I lp (some (Du L L' B)) ((x.sub (Ed B)).ren (Ea B)) v :=
 Au.rename (XI hn hU) (Au.subst (fun _ h=>h) (cut_ok hn hU) h fun _ _=>trivial)
theorem take_ob (hn:DE (B.map (·.1))=true) (hU:∀ s s' t,(s,t)∈B->(s',t)∈B->s=s') {ob:Ob} {p:Option (Nat×Nat)} (h:BD w I lp L' ob p):BD w I lp (Du L L' B) ((ob.sub (Ed B)).ren (Ea B)) p :=
 BD.ren (BD.subst h (fun _ h=>h) (fun _ _=>rfl) (cut_ok hn hU) (fun _ _=>trivial) fun _ _ _=>rfl) (XI hn hU)
end take
def putP (tm:List PV) (dst:Option Nat) (v:PV):List PV :=
 match dst with
 | some d=>tm.set d v
 | none=>tm
section done
variable {E:Type} {cx:Cx} {w0:World} {I0 F0:Nat->Prop} {O0:BZ} {Hd:Nat->Option Obj} {RE:BR E} {e:E} {ds:List Deferred} {I F I':Nat->Prop} {lp lp':Nat->Option Nat} {L L':AB} {st st2:St} {tmv tmv2 suf wv:List Value} {w w2:World}
theorem io_taken {d0 i0:Nat} {sl dst:Option Nat} {R N:List Nm} {aN:Nat->Nm} {gone:List Nm} {v0:PV} {v:Value}
  (hs:SR lp I L st tmv suf w) (hf:Fr cx w0 I0 F0 O0 Hd RE e ds I F L w) (hlp:lpLe lp' lp)
  (hd:∀ d,dst=some d->st.objs[d]?=some []/\(sl=none->d=d0)) (hsl:∀ r,sl=some r->r=d0) (hlen:N≠[]->∃ l,st.objs[d0]?=some l/\l.length=i0) (hnew:sl=none->dst=none->N=[])
  (hR:∀ nm∈R,∃ p,L nm=some p) (hRn:∀ (i j:Nat) nm,R[i]?=some nm->R[j]?=some nm->i=j)
  (hs2:SR lp' I' L' st2 tmv2 wv w2) (hv:Au w2 I' lp' (some L') v0 v)
  (x1:w2.os=w.os) (x2:w2.tape=w.tape) (x3:w2.output=w.output) (x4:w.heap.size<=w2.heap.size)
  (x5:∀ b,b < w.heap.size->(∀ nm C,nm∈R->L nm≠some (some (b,C)))->w2.heap[b]?=w.heap[b]?) (x6:∀ b,I b->I' b)
  (x7:∀ b,I' b->I b\/(b < w2.heap.size/\(w.heap.size<=b\/∃ nm C,nm∈R/\L nm=some (some (b,C)))))
  (x8:∀ nm b C,L' nm=some (some (b,C))->b < w2.heap.size/\¬ I' b/\(w.heap.size<=b\/∃ nm' C',nm'∈R/\L nm'=some (some (b,C'))))
  (x9:∀ nm nm' b C C',L' nm=some (some (b,C))->L' nm'=some (some (b,C'))->nm=nm')
  (hB:DE (((R.zipIdx.map fun p=>(aN p.2,p.1))++N.zipIdx.map fun p=>(p.1,(d0,i0+p.2))).map (·.1))=true)
  (hge:∀ (j:Nat) nm,R[j]?=some nm->nm ∉ gone->∀ p,L nm=some p->∃ p',L' (aN j)=some p'/\GeP p p') {B:List (Nm×Nm)} (hBd:B=(R.zipIdx.map fun p=>(aN p.2,p.1))++N.zipIdx.map fun p=>(p.1,(d0,i0+p.2))) :
  SR lp I' (Du L L' B) (apply st dst {v:=(v0.sub (Ed B)).ren (Ea B),new:=N.map fun m=>(((Ak st2.objs m).getD Bz).sub (Ed B)).ren (Ea B),ups:=(R.zipIdx.map fun p=>(p.1,(((Ak st2.objs (aN p.2)).getD Bz).sub (Ed B)).ren (Ea B))),gone:=gone,io:=true,slot:=sl}) (Fy tmv dst v) suf w2 /\
   Fr cx w0 I0 F0 O0 Hd RE e ds I' F (Du L L' B) w2:=by
 rw[<-hBd] at hB
 have memB:∀ s t,(s,t)∈B↔(∃ j:Nat,R[j]?=some t/\s=aN j)\/(∃ i:Nat,N[i]?=some s/\t=(d0,i0+i)):=by
  intro s t;rw[hBd,bW,bE,bE];constructor
  ·rintro (⟨⟨a,j⟩,h1,h2⟩ | ⟨⟨a,i⟩,h1,h2⟩)
   ·cases h2;exact .inl ⟨j,(cW.1 h1),rfl⟩
   ·cases h2;exact .inr ⟨i,(cW.1 h1),rfl⟩
  ·rintro (⟨j,h1,rfl⟩ | ⟨i,h1,rfl⟩);·exact .inl ⟨(t,j),cW.2 h1,rfl⟩
   ·exact .inr ⟨(s,i),cW.2 h1,rfl⟩
 have hslot:∀ i:Nat,(∃ s,N[i]?=some s)->L (d0,i0+i)=none:=by
  rintro i ⟨s,hs'⟩;obtain⟨l,h1,h2⟩:=hlen fun h=>by rw[h] at hs';simp at hs'
  refine hs.dom _ ?_;unfold Ak;rw[h1];exact co.2 (by simp only;omega)
 have hRL:∀ (j:Nat) t,R[j]?=some t->∃ p,L t=some p:=fun j t h=>hR t (bQ h)
 have hU:∀ s s' t,(s,t)∈B->(s',t)∈B->s=s':=by
  intro s s' t h h';rcases (memB s t).1 h with ⟨j,h1,rfl⟩ | ⟨i,h1,rfl⟩<;>rcases (memB s' _).1 h' with ⟨j',h2,rfl⟩ | ⟨i',h2,h3⟩;·rw[hRn j j' t h1 h2]
  ·obtain⟨p,hp⟩:=hRL j t h1;rw[h3,hslot i' ⟨_,h2⟩] at hp;cases hp
  ·obtain⟨p,hp⟩:=hRL j' _ h2;rw[hslot i ⟨_,h1⟩] at hp;cases hp
  ·have h4:i0+i=i0+i':=congrArg Prod.snd h3;have:i=i':=by omega
   subst this;exact dp (h1.symm.trans h2)
 have hin:∀ s t,(s,t)∈B->Du L L' B t=some ((L' s).getD none):=fun s t h=>WY hU h;have hout:∀ t,(∀ s,(s,t) ∉ B)->Du L L' B t=L t:=fun t h=>locIo_out h
 have hfr:Fr cx w0 I0 F0 O0 Hd RE e ds I' F (Du L L' B) w2:=by
  have hsrc:∀ t b C,Du L L' B t=some (some (b,C))->(∃ s,(s,t)∈B/\L' s=some (some (b,C)))\/((∀ s,(s,t) ∉ B)/\L t=some (some (b,C))):=by
   intro t b C h;by_cases hx:∃ s,(s,t)∈B
   ·obtain⟨s,hst⟩:=hx;rw[hin s t hst] at h;refine .inl ⟨s,hst,?_⟩;cases hl:L' s with
    | none=>rw[hl] at h;simp at h
    | some p=>rw[hl] at h;simpa using h
   ·have hx':∀ s,(s,t) ∉ B:=fun s h=>hx ⟨s,h⟩;rw[hout t hx'] at h;exact .inr ⟨hx',h⟩
  have hnotR:∀ t,(∀ s,(s,t) ∉ B)->t ∉ R:=by
   intro t h hm;obtain⟨j,hj,hget⟩:=eU hm;exact h (aN j) ((memB _ _).2 (.inl ⟨j,by rw[bN hj,hget],rfl⟩))
  refine hf.own x1 x2 x3 x4 (fun b hb hn=>x5 b hb fun nm C _=>hn nm C) x6 (fun b hb=>(x7 b hb).imp id fun h=>⟨h.1,h.2.imp id fun ⟨nm,C,_,h⟩=>⟨nm,C,h⟩⟩) (fun t b C ht=>?_) (fun t t' b C C' ht ht'=>?_)
  ·rcases hsrc t b C ht with ⟨s,_,h⟩ | ⟨hx,h⟩
   ·obtain⟨g1,g2,g3⟩:=x8 s b C h;exact⟨g1,g2,g3.imp id fun ⟨nm,C,_,h⟩=>⟨nm,C,h⟩⟩
   ·obtain⟨g1,g2,g3,g4⟩:=hf.lB t b C h;refine⟨by omega,fun hi=>?_,.inr ⟨t,C,h⟩⟩;rcases x7 b hi with h1 | ⟨_,h1 | ⟨nm,C',h1,h2⟩⟩;·exact g3 h1
    ·omega
    ·have:=hf.inj t nm b C C' h h2;subst this;exact hnotR t hx h1
  ·rcases hsrc t b C ht with ⟨s,hb,h⟩ | ⟨hx,h⟩<;>rcases hsrc t' b C' ht' with ⟨s',hb',h'⟩ | ⟨hx',h'⟩
   ·have:=x9 s s' b C C' h h';subst this;exact az hB hb hb'
   ·obtain⟨_,_,g3⟩:=x8 s b C h;rcases g3 with g3 | ⟨nm,C2,g3,g4⟩;·have:=(hf.lB t' b C' h').2.1;omega
    ·have:=hf.inj t' nm b C' C2 h' g4;subst this;exact absurd g3 (hnotR t' hx')
   ·obtain⟨_,_,g3⟩:=x8 s' b C' h';rcases g3 with g3 | ⟨nm,C2,g3,g4⟩;·have:=(hf.lB t b C h).2.1;omega
    ·have:=hf.inj t nm b C C2 h g4;subst this;exact absurd g3 (hnotR t hx)
   ·exact hf.inj t t' b C C' h h'
 refine⟨?_,hfr⟩;have hIk:∀ b,I b->w2.heap[b]?=w.heap[b]?:=fun b hb=>x5 b (hf.sep.iB b hb) fun nm C _ hn=>(hf.lB nm b C hn).2.2.1 hb
 let L1:AB:=fun t=>if t∈R/\t ∉ gone then Du L L' B t else L t
 have hnB:∀ t,t ∉ R->∀ p,L t=some p->∀ s,(s,t) ∉ B:=by
  intro t ht p hp s h;rcases (memB s t).1 h with ⟨j,h1,rfl⟩ | ⟨i,h1,rfl⟩;·exact ht (bQ h1)
  ·rw[hslot i ⟨_,h1⟩] at hp;cases hp
 have hge1:J0 L L1:=by
  intro t p hp;by_cases ht:t∈R/\t ∉ gone
  ·obtain⟨j,hj,hget⟩:=eU ht.1;have hj':R[j]?=some t:=by rw[bN hj,hget]
   obtain⟨p',h1,h2⟩:=hge j t hj' ht.2 p hp;refine⟨p',?_,h2⟩;simp only[L1,ht,not_false_eq_true,and_self,if_true];rw[hin (aN j) t ((memB _ _).2 (.inl ⟨j,hj',rfl⟩)),h1];rfl
  ·exact⟨p,by simp only[L1,ht,if_false];exact hp,GeP.refl p⟩
 let f1:Nm->Option (Option Ob):=fun m=>if gone.contains m then some none else none
 have hsub1:Ee w2 I' lp L1 (some (Du L L' B)) (fun _=>True) f1:=by
  intro t p _ hp;by_cases hg:gone.contains t=true
  ·simp only[f1,hg,if_true]
  ·simp only[f1,hg];refine⟨_,rfl,?_⟩;have hg':t ∉ gone:=by simpa using hg
   by_cases ht:t∈R
   ·have:t∈R/\t ∉ gone:=⟨ht,hg'⟩;simpa only [L1,this,not_false_eq_true,and_self,if_true] using hp
   ·have:¬ (t∈R/\t ∉ gone):=fun h=>ht h.1;simp only[L1,this,if_false] at hp;rw[hout t (hnB t ht p hp)];exact hp
 have htm:Aq w2 I' lp (some (Du L L' B)) (AX f1 st.tmps) tmv:=Aq.subst (fun _ h=>h) hsub1 ((Aq.mono x6 hIk (fun _ _ h=>h) hs.tm).ge hge1) fun _ _=>trivial;have hkp:Aq w2 I' lp (some (Du L L' B)) (AX f1 st.keep) suf:=Aq.subst (fun _ h=>h) hsub1 ((Aq.mono x6 hIk (fun _ _ h=>h) hs.kp).ge hge1) fun _ _=>trivial;generalize hups:(R.zipIdx.map fun p=>(p.1,(((Ak st2.objs (aN p.2)).getD Bz).sub (Ed B)).ren (Ea B)))=ups
 have memU:∀ t o,(t,o)∈ups↔∃ j:Nat,R[j]?=some t/\o=(((Ak st2.objs (aN j)).getD Bz).sub (Ed B)).ren (Ea B):=by
  intro t o;rw[<-hups,bE];constructor
  ·rintro ⟨⟨a,j⟩,h1,h2⟩;cases h2;exact⟨j,cW.1 h1,rfl⟩
  ·rintro ⟨j,h1,rfl⟩;exact⟨(t,j),cW.2 h1,rfl⟩
 have hdead:∀ f g,(Bz.sub f).ren g=Bz:=fun f g=>rfl
 have hobj:∀ s t,(s,t)∈B->∃ p,Du L L' B t=some p/\BD w2 I' lp (Du L L' B) ((((Ak st2.objs s).getD Bz).sub (Ed B)).ren (Ea B)) p:=by
  intro s t hst;refine⟨_,hin s t hst,?_⟩;cases hl:Ak st2.objs s with
  | none =>
   rw[hs2.dom s hl];simp only[Option.getD_none,hdead];exact⟨0,0,rfl⟩
  | some ob =>
   obtain⟨p,hp,ha⟩:=hs2.ob s ob hl;rw[hp];simp only[cr];exact take_ob hB hU (ha.mono (fun _ h=>h) (fun _ _=>rfl) hlp fun _ _ _=>rfl)
 have hlook0:∀ t,Ak (st.objs.map (·.map (Ob.sub f1))) t=(Ak st.objs t).map (Ob.sub f1):=fun t=>Fb _ _ t
 have hpres:∀ p∈ups,∃ o,Ak (st.objs.map (·.map (Ob.sub f1))) p.1=some o:=by
  rintro ⟨t,o⟩ hp;obtain⟨j,hj,_⟩:=(memU t o).1 hp;obtain⟨p,hL⟩:=hRL j t hj;obtain⟨ob,hob,_⟩:=hs.some_of_loc hL;exact⟨_,by rw[hlook0,hob];rfl⟩
 have hlu:∀ t,((∃ j:Nat,R[j]?=some t)->∃ s,(s,t)∈B/\Ak (Fj ups (st.objs.map (·.map (Ob.sub f1)))) t=some ((((Ak st2.objs s).getD Bz).sub (Ed B)).ren (Ea B))) /\
   ((∀ j:Nat,R[j]?≠some t)->Ak (Fj ups (st.objs.map (·.map (Ob.sub f1)))) t=(Ak st.objs t).map (Ob.sub f1)):=by
  intro t;obtain⟨h1,h2⟩:=Zg ups (st.objs.map (·.map (Ob.sub f1))) t hpres;refine⟨?_,fun hno=>?_⟩
  ·rintro ⟨j,hj⟩;refine⟨aN j,(memB _ _).2 (.inl ⟨j,hj,rfl⟩),h1 _ (fun o' ho'=>?_) ((memU _ _).2 ⟨j,hj,rfl⟩)⟩;obtain⟨j',hj',rfl⟩:=(memU _ _).1 ho';rw[hRn j j' t hj hj']
  ·rw[h2 fun o ho=>by obtain⟨j,hj,_⟩:=(memU _ _).1 ho;exact hno j hj,hlook0]
 have hother:∀ t ob,(∀ s,(s,t) ∉ B)->Ak st.objs t=some ob->∃ p,Du L L' B t=some p/\BD w2 I' lp (Du L L' B) (ob.sub f1) p:=by
  intro t ob hx hl;obtain⟨p,hp,ha⟩:=hs.ob t ob hl;refine⟨p,by rw[hout t hx];exact hp,?_⟩
  have ha2:BD w2 I' lp L ob p:=ha.mono x6 hIk (fun _ _ h=>h) fun b C hpb=>by
   subst hpb;refine x5 b (hf.lB t b C hp).2.1 fun nm C' hm hn=>?_;have:=hf.inj t nm b C C' hp hn;subst this;obtain⟨j,hj,hget⟩:=eU hm;exact hx (aN j) ((memB _ _).2 (.inl ⟨j,by rw[bN hj,hget],rfl⟩))
  exact BD.subst (ha2.ge hge1) (fun _ h=>h) (fun _ _=>rfl) hsub1 (fun _ _=>trivial) fun _ _ _=>rfl
 have hlens:∀ (l:List (Nm×Ob)) (objs:List (List Ob)) (d:Nat),(Fj l objs).length=objs.length/\∀ x,objs[d]?=some x->∃ y,(Fj l objs)[d]?=some y/\y.length=x.length:=by
  intro l;induction l with
  | nil=>intro objs d;exact⟨rfl,fun x h=>⟨x,h,rfl⟩⟩
  | cons p l ih =>
   obtain⟨nm,o⟩:=p;intro objs d;obtain⟨q1,q2⟩:=ih (Bi objs nm o) d;have hp:(Bi objs nm o).length=objs.length:=by unfold Bi;split<;>simp
   refine⟨q1.trans hp,fun x hx=>?_⟩
   have:∃ y,(Bi objs nm o)[d]?=some y/\y.length=x.length:=by
    unfold Bi;split
    ·rename_i l' hl';by_cases hnd:nm.1=d
     ·subst hnd;rw[hx] at hl';cases hl';exact⟨_,dx (bL.1 hx).1,by simp⟩
     ·exact⟨x,by rw[cg hnd];exact hx,rfl⟩
    ·exact⟨x,hx,rfl⟩
   obtain⟨y,h1,h2⟩:=this;obtain⟨z,h3,h4⟩:=q2 y h1;exact⟨z,h3,h4.trans h2⟩
 generalize hXd:Fj ups (st.objs.map (·.map (Ob.sub f1)))=X at hlu;have hX1:X.length=st.objs.length:=by rw[<-hXd,(hlens ups _ 0).1,bS]
 have hX2:∀ (d:Nat) (l:List Ob),st.objs[d]?=some l->∃ l',X[d]?=some l'/\l'.length=l.length:=by
  intro d l h;obtain⟨y,h1,h2⟩:=(hlens ups (st.objs.map (·.map (Ob.sub f1))) d).2 (l.map (Ob.sub f1)) (by rw[bK,h];rfl);exact⟨y,by rw[<-hXd];exact h1,by rw[h2,bS]⟩
 generalize hnews:(N.map fun m=>(((Ak st2.objs m).getD Bz).sub (Ed B)).ren (Ea B))=news;have hnn:news.length=N.length:=by rw[<-hnews,bS]
 have hset:∀ (X:List (List Ob)) (d:Nat),X.set d (X.getD d []++[])=X:=by
  intro X d;rw[dB];apply ct;intro i;by_cases hi:i=d
  ·subst hi;by_cases hlt:i < X.length
   ·rw[dx hlt,bI,bN hlt];rfl
   ·rw[co.2 (by simpa using hlt),co.2 (by simpa using hlt)]
  ·rw[cg (cn hi)]
 have hst:apply st dst {v:=(v0.sub (Ed B)).ren (Ea B),new:=news,ups:=ups,gone:=gone,io:=true,slot:=sl} =
   {tmps:=putP (AX f1 st.tmps) dst ((v0.sub (Ed B)).ren (Ea B)),objs:=X.set d0 (X.getD d0 []++news),keep:=AX f1 st.keep}:=by
  have e1:(if gone.isEmpty=true then st else DF f1 st)={tmps:=AX f1 st.tmps,objs:=st.objs.map (·.map (Ob.sub f1)),keep:=AX f1 st.keep}:=by
   split
   ·rename_i hg;have hg':f1=fun _=>none:=by funext m;simp only[f1];rw[cD.1 hg];rfl
    rw[hg',subL_id,subL_id]
    have:(fun l:List Ob=>l.map (Ob.sub fun _=>none))=id:=by
     funext l;rw[show (Ob.sub fun _=>none)=id from funext Ob.sub_id,List.map_id];rfl
    rw[this,List.map_id]
   ·rfl
  have e2:∀ s:St,(if ups.isEmpty=true then s else {s with objs:=Fj ups s.objs})={s with objs:=Fj ups s.objs}:=by
   intro s;split
   ·rename_i hu;rw[cD.1 hu];rfl
   ·rfl
  unfold apply;simp only[dI,if_true];rw[e1,e2];simp only[hXd];cases sl with
  | some r =>
   have:=hsl r rfl;subst this;cases dst with
   | none=>rfl
   | some d=>rfl
  | none =>
   cases hdst:dst with
   | none =>
    have hN:=hnew rfl hdst;have:news=[]:=by rw[<-hnews,hN];rfl
    rw[this,hset];rfl
   | some d =>
    obtain⟨hcl,h0⟩:=hd d hdst;have h0:=h0 rfl;subst h0;simp only[eJ,cU];obtain⟨l',h1,h2⟩:=hX2 d [] hcl;have h3:l'=[]:=dL.1 h2;subst h3;cases hn0:news with
    | nil=>simp only[dI,if_true,hset];rfl
    | cons n ns =>
     have:X.getD d []=[]:=by rw[bI,h1];rfl
     simp only[List.isEmpty_cons,bA,if_false,this,cE];rfl
 have key1:∀ (i:Nat) s,N[i]?=some s->Ak (X.set d0 (X.getD d0 []++news)) (d0,i0+i)=some ((((Ak st2.objs s).getD Bz).sub (Ed B)).ren (Ea B)):=by
  intro i s hi;obtain⟨l,h1,h2⟩:=hlen fun h=>by rw[h] at hi;simp at hi
  obtain⟨l',h3,h4⟩:=hX2 d0 l h1;have hlt:d0 < X.length:=(bL.1 h3).1;rw[GU _ hlt,bI,h3];simp only[cr];rw[dO (by omega),show i0+i - l'.length=i by omega,<-hnews,bK,hi];rfl
 have key2:∀ t:Nm,(∀ (i:Nat) s,N[i]?=some s->t≠(d0,i0+i))->Ak (X.set d0 (X.getD d0 []++news)) t=Ak X t:=by
  intro t ht;by_cases h1:t.1=d0
  ·obtain⟨a,j⟩:=t;simp only at h1;subst h1;by_cases hN:N=[]
   ·have:news=[]:=by rw[<-hnews,hN];rfl
    rw[this,hset]
   ·obtain⟨l,g1,g2⟩:=hlen hN;obtain⟨l',h3,h4⟩:=hX2 a l g1;have hlt:a < X.length:=(bL.1 h3).1;rw[GU _ hlt,bI,h3];simp only[cr];have hX:Ak X (a,j)=l'[j]?:=by unfold Ak;rw[h3]
    rw[hX];by_cases hj:j < l'.length
    ·rw[dm hj]
    ·rw[dO (by omega),co.2 (by omega:l'.length<=j)];refine co.2 ?_;apply cM;intro hlt2;have hlt3:j - l'.length < N.length:=by omega
     exact ht (j - l'.length) _ (bN hlt3) (by rw[show i0+(j - l'.length)=j by omega])
  ·rw[FU _ h1]
 rw[hst]
 have hnotB:∀ t:Nm,(∀ (i:Nat) s,N[i]?=some s->t≠(d0,i0+i))->(¬ ∃ j:Nat,R[j]?=some t)->∀ s,(s,t) ∉ B:=by
  intro t ht hj s h;rcases (memB s t).1 h with ⟨j,h1,_⟩ | ⟨i,h1,h2⟩;·exact hj ⟨j,h1⟩
  ·exact ht i s h1 h2
 have htmf:Aq w2 I' lp (some (Du L L' B)) (putP (AX f1 st.tmps) dst ((v0.sub (Ed B)).ren (Ea B))) (Fy tmv dst v):=by
  cases dst with
  | none=>exact htm
  | some d=>exact htm.set d (take_val hB hU (Au.mono (fun _ h=>h) (fun _ _=>rfl) hlp hv))
 refine⟨htmf,hkp,fun t ob hl=>?_,fun t hl=>?_⟩
 ·simp only at hl;by_cases ht:∃ (i:Nat) (s:Nm),N[i]?=some s/\t=(d0,i0+i)
  ·obtain⟨i,s,h1,rfl⟩:=ht;rw[key1 i s h1] at hl;cases hl;exact hobj s _ ((memB _ _).2 (.inr ⟨i,h1,rfl⟩))
  ·have ht':∀ (i:Nat) s,N[i]?=some s->t≠(d0,i0+i):=fun i s h1 h2=>ht ⟨i,s,h1,h2⟩;rw[key2 t ht'] at hl;by_cases hj:∃ j:Nat,R[j]?=some t
   ·obtain⟨s,h1,h2⟩:=(hlu t).1 hj;rw[h2] at hl;cases hl;exact hobj s t h1
   ·rw[(hlu t).2 fun j h=>hj ⟨j,h⟩] at hl;obtain⟨ob0,h0,rfl⟩:=bD.1 hl;exact hother t ob0 (hnotB t ht' hj) h0
 ·simp only at hl;by_cases ht:∃ (i:Nat) (s:Nm),N[i]?=some s/\t=(d0,i0+i)
  ·obtain⟨i,s,h1,rfl⟩:=ht;rw[key1 i s h1] at hl;cases hl
  ·have ht':∀ (i:Nat) s,N[i]?=some s->t≠(d0,i0+i):=fun i s h1 h2=>ht ⟨i,s,h1,h2⟩;rw[key2 t ht'] at hl;by_cases hj:∃ j:Nat,R[j]?=some t
   ·obtain⟨s,h1,h2⟩:=(hlu t).1 hj;rw[h2] at hl;cases hl
   ·rw[(hlu t).2 fun j h=>hj ⟨j,h⟩] at hl;rw[hout t (hnotB t ht' hj)];exact hs.dom t (by simpa using hl)
end done
theorem Sd {sl:Option Nat} {d0 i0:Nat} {R:List Nm} {st:St} {v:PV} {out:AK} (h:GM sl d0 i0 R st v=some out) :
  ∃ (N:List Nm) (B:List (Nm×Nm)),B=(R.zipIdx.map fun p=>((FH (st.keep.getD p.2 .undef)).getD (0,p.2),p.1))++N.zipIdx.map (fun p=>(p.1,(d0,i0+p.2)))/\DE (B.map (·.1))=true /\
   out={v:=(v.sub (Ed B)).ren (Ea B),new:=N.map fun m=>(((Ak st.objs m).getD Bz).sub (Ed B)).ren (Ea B),ups:=(R.zipIdx.map fun p=>(p.1,(((Ak st.objs ((FH (st.keep.getD p.2 .undef)).getD (0,p.2))).getD Bz).sub (Ed B)).ren (Ea B))),gone:=JD R st.keep,io:=true,slot:=sl}:=by
 unfold GM at h;obtain⟨h1,h2⟩:=Bm h;refine⟨_,_,rfl,h1,?_⟩;cases h2;simp only[FB,cc];rfl
theorem ZQ {objs:List (List Ob)} {d i0 j:Nat} {o:Ob} (hj:Ak objs (d,j)=some o) (h:Kz (Ak objs) d=some i0):∃ l,objs[d]?=some l/\l.length=i0:=by
 unfold Kz at h;rw[List.find?_eq_some_iff_append] at h;obtain⟨h1,as,bs,h2,h3⟩:=h;cases hl:objs[d]? with
 | none=>unfold Ak at hj;simp only[hl] at hj;cases hj
 | some l =>
  have hlook:∀ j,Ak objs (d,j)=l[j]?:=fun j=>by unfold Ak;simp only[hl]
  refine⟨l,rfl,?_⟩
  have hle:l.length<=i0:=by
   rw[hlook] at h1;simpa using h1
  have hlen:as.length=i0/\∀ k,k < as.length->as[k]?=some k:=by
   have hr:=h2;have hpos:(List.range 64)[as.length]?=some i0:=by rw[hr];simp
   obtain⟨q1,q2⟩:=bL.1 hpos;simp at q2;refine⟨q2,fun k hk=>?_⟩;have:(List.range 64)[k]?=as[k]?:=by rw[hr,dm hk]
   rw[<-this];simp at q1;exact cX (by omega)
  rcases Nat.lt_or_ge l.length i0 with hlt | hge
  ·have hm:=hlen.2 l.length (by omega);have:=h3 _ (bQ hm);rw[hlook] at this;simp at this
  ·omega
theorem XP {cx:Cx} {M:Ba} {tab:FuncId->Option At} (hM:En cx M.call) (hsp:MSp cx M) (hloc:Gq M) (hiod:Rz cx M) {dd:FuncId->D0} (htab:Ll cx tab dd) (n:Nat) (g:FuncId) (d0:Nat) (st:St) (vs:List PV) (out:AK) (hc:Gp M n tab g d0 (Ak st.objs) vs=some out):Cw cx.P g /\
  ∀ (E:Type) (w0:World) (I0 F0:Nat->Prop) (O0:BZ) (Hd:Nat->Option Obj) (R:BR E) (e:E) (ds:List Deferred) (I F:Nat->Prop) (lp:Nat->Option Nat) (L:AB) (tmv suf us:List Value) (w:World) (dst:Option Nat),
   SR lp I L st tmv suf w->Fr cx w0 I0 F0 O0 Hd R e ds I F L w->Aq w I lp (some L) vs us->(∀ d,dst=some d->d=d0/\st.objs[d]?=some [])->(dst=none->out.new=[]\/out.slot.isSome=true) ->
   (CallsIn Fence.wide 0 cx.P g us.toArray w fun
    | .returned v,w'=>∃ I' L',SR lp I' L' (apply st dst out) (Fy tmv dst v) suf w'/\Fr cx w0 I0 F0 O0 Hd R e ds I' F L' w'
    | _,_=>False) /\
   (Jm tab g=true->∀ u,CallsDIn Fence.wide 0 cx.P g us.toArray u w fun en u' w'=>u'=u/\match en with
    | .returned v=>∃ I' L',SR lp I' L' (apply st dst out) (Fy tmv dst v) suf w'/\Fr cx w0 I0 F0 O0 Hd R e ds I' F L' w'
    | _=>False):=by
 unfold Gp at hc;split at hc
 case h_1=>cases hc
 rename_i rf hrf;obtain⟨fn,c,hfn,hbody,hres,hname,hnt,hcode⟩:=tab_fn htab hrf;simp only at hc;generalize hRd:Dr (A8 (Ak st.objs) AU (AQ vs))=R at hc;have hRn:∀ (i j:Nat) nm,R[i]?=some nm->R[j]?=some nm->i=j:=by rw[<-hRd];exact fun i j nm=>bn i j nm
 have hmemR:∀ nm∈AQ vs,nm∈R:=fun nm hn=>by rw[<-hRd];exact Sa.2 (EM _ _ nm hn)
 split at hc
 case h_1=>cases hc
 rename_i ins hins;obtain⟨hk,hc⟩:=Bm hc;simp only[bB,dn,decide_eq_true_eq] at hk;obtain⟨⟨⟨hy,hshut⟩,hoy⟩,⟨hlen,hRlen⟩,hnt0⟩:=hk;split at hc
 case h_2=>cases hc
 rename_i st2 v0 hraw
 have hplace:∃ sl d1 i1,GM sl d1 i1 R st2 v0=some out/\((sl=none/\d1=d0/\i1=0/\R=[])\/(sl=some d1/\∃ j,(d1,j)∈R/\Kz (Ak st.objs) d1=some i1)):=by
  unfold L9 at hc;cases R with
  | nil=>exact⟨none,d0,0,hc,.inl ⟨rfl,rfl,rfl,rfl⟩⟩
  | cons r rs =>
   simp only at hc;split at hc
   ·rename_i i1 hi1;exact⟨some r.1,r.1,i1,hc,.inr ⟨rfl,r.2,bT,hi1⟩⟩
   ·cases hc
 obtain⟨sl,d1,i1,hc,hplace⟩:=hplace;obtain⟨N,B,hB,hBn,hout⟩:=Sd hc
 have hrun:∃ x st3 l rs,((Dk rf.code=true/\AP M n rf.code AD 0 (IU rf.gone rf.nt (ins.map (Ob.ren fun m=>(0,R.idxOf m))) (Bt (fun m=>(0,R.idxOf m)) vs)) ()=some (x,st3,())/\st2=st3) \/
   (Dk rf.code=false/\Bh M n rf.nt rf.code (IU rf.gone rf.nt (ins.map (Ob.ren fun m=>(0,R.idxOf m))) (Bt (fun m=>(0,R.idxOf m)) vs))=some (x,st3,l)/\GS M rf.nt l st3=some st2))/\(∀ id,x≠.exit id)/\Ft st2 rf.res=some rs/\v0=G4 rs:=by
  unfold Hz at hraw;split at hraw
  ·rename_i hq;split at hraw
   case h_2=>cases hraw
   rename_i x st3 u hev;have hxe:∀ id,x≠.exit id:=by rintro id rfl;simp at hraw
   have hraw2:(match Ft st3 rf.res with
     | some rs=>some (st3,G4 rs)
     | none=>none)=some (st2,v0):=by
    cases x with
    | normal=>exact hraw
    | ret=>exact hraw
    | exit id=>exact absurd rfl (hxe id)
   split at hraw2
   case h_2=>cases hraw2
   rename_i rs hrs;cases hraw2;exact⟨x,_,[],rs,.inl ⟨hq,hev,rfl⟩,hxe,hrs,rfl⟩
  ·rename_i hq;split at hraw
   case h_2=>cases hraw
   rename_i x st3 l hev;have hxe:∀ id,x≠.exit id:=by rintro id rfl;simp at hraw
   have hraw2:(match GS M rf.nt l st3 with
     | some st=>match Ft st rf.res with
      | some rs=>some (st,G4 rs)
      | none=>none
     | none=>none)=some (st2,v0):=by
    cases x with
    | normal=>exact hraw
    | ret=>exact hraw
    | exit id=>exact absurd rfl (hxe id)
   split at hraw2
   case h_2=>cases hraw2
   rename_i st4 hd;split at hraw2
   case h_2=>cases hraw2
   rename_i rs hrs;cases hraw2;exact⟨x,st3,l,rs,.inr ⟨by simpa using hq,hev,hd⟩,hxe,hrs,rfl⟩
 obtain⟨x,st3,l,rs,hev,hxe,hrs,rfl⟩:=hrun;obtain⟨m1,m2⟩:=V7 R ins hins;refine⟨⟨fn,hfn,by simpa using hname,by rw[hbody];rfl⟩,?_⟩;intro E w0 I0 F0 O0 Hd RE e ds I F lp L tmv suf us w dst hs hf hrep hd hnew
 have hRL:∀ nm∈R,∃ p ob,L nm=some p/\Ak st.objs nm=some ob/\BD w I lp L ob p:=by
  intro nm hn;obtain⟨j,hj,hget⟩:=eU hn;obtain⟨ob,_,h2⟩:=m2 j nm (by rw[bN hj,hget]);obtain⟨p,hp,ha⟩:=hs.ob nm ob h2;exact⟨p,ob,hp,h2,ha⟩
 let Lc:AB:=fun m=>if m.1=0 then (R[m.2]?).bind L else none
 let fr:Nm->Nm:=fun m=>(0,R.idxOf m)
 let LR:AB:=fun m=>if m∈R then L m else none
 have hren:∀ nm p,LR nm=some p->Lc (fr nm)=some p:=by
  intro nm p hp;simp only[LR] at hp;split at hp
  ·rename_i hm;simp only[Lc,fr,if_true,idx_get hm,eo,hp]
  ·cases hp
 have hLc:∀ nm p,Lc nm=some p->∃ t,R[nm.2]?=some t/\nm.1=0/\L t=some p:=by
  intro nm p hp;simp only[Lc] at hp;split at hp
  ·rename_i h1;cases hr:R[nm.2]? with
   | none=>rw[hr] at hp;simp at hp
   | some t=>rw[hr] at hp;exact⟨t,rfl,h1,by simpa using hp⟩
  ·cases hp
 let lp':Nat->Option Nat:=fun _=>none
 have hargs:Aq w I lp' (some Lc) (Bt fr vs) us:=by
  have h1:Aq w I lp' (some L) vs us:=hrep.noY hy;have h2:Aq w I lp' (some LR) vs us:=h1.narrow fun nm hn p hp=>by simp only[LR,hmemR nm hn,if_true];exact hp
  exact h2.rename hren
 have hil:(ins.map (Ob.ren fr)).length=R.length:=by rw[bS,m1]
 let wv:List Value:=(List.range rf.nt).map fun j=>match (R[j]?).bind L with
  | some (some (b,C))=>.slice (some ⟨b,0,none⟩) 0 C
  | _=>.slice none 0 0
 have hwvj:∀ (j:Nat) nm,R[j]?=some nm->wv.getD j undef=(match L nm with
    | some (some (b,C))=>.slice (some ⟨b,0,none⟩) 0 C
    | _=>.slice none 0 0):=by
  intro j nm hj;have hjl:j < rf.nt:=by have:=(bL.1 hj).1;omega
  rw[bI,bK,cX hjl];simp only[bU,cr,hj,eo]
 have hwit:Aq w I lp' (some Lc) (Lp rf.gone rf.nt R.length) wv:=by
  refine Aq.of_get (by simp[Lp,wv]) fun i y v hy' hv=>?_;simp only[Lp,bK,bD] at hy';obtain⟨j,hj,rfl⟩:=hy'
  have hlt:i < rf.nt/\j=i:=by
   obtain⟨h1,h2⟩:=bL.1 hj;simp at h1 h2;exact⟨h1,h2.symm⟩
  obtain⟨hlt,rfl⟩:=hlt;split
  case isFalse=>exact .undef _
  rename_i hjR0;have hjR:=hjR0.1;have ht:R[j]?=some R[j]:=bN hjR;have hv2:=hwvj j _ ht;rw[bI,hv] at hv2;simp only[cr] at hv2;subst hv2;obtain⟨p,ob,hp,_,_⟩:=hRL _ (bQ ht);have hlc:Lc (0,j)=some p:=by simp only[Lc,if_true,ht,eo,hp]
  rw[hp];cases p with
  | none=>exact .arrN _ _ hlc
  | some p =>
   obtain⟨b,C⟩:=p;have:=Au.arr (w:=w) (I:=I) (lp:=lp') (L:=Lc) (0,j) 1 0 0 C b C hlc (by omega) (de _);simpa using this
 have hst0:SR lp' I Lc (IU rf.gone rf.nt (ins.map (Ob.ren fr)) (Bt fr vs)) (us.toArray++Array.replicate (fn.ntmps - us.toArray.size) undef).toList wv w:=by
  have hlen0:0 < (List.replicate rf.nt ([]:List Ob)).length:=by simpa using hnt0
  have hempty:∀ nm:Nm,nm.1≠0->Ak ((List.replicate rf.nt []).set 0 (ins.map (Ob.ren fr))) nm=none:=by
   intro nm h1;rw[FU _ h1];unfold Ak;cases hg:(List.replicate rf.nt ([]:List Ob))[nm.1]? with
   | none=>rfl
   | some l =>
    have:=eI (bQ hg);subst this;simp
  refine⟨?_,?_,?_,?_⟩
  ·have hl:=hargs.length;have h2:Aq w I lp' (some Lc) (List.replicate (rf.nt - (Bt fr vs).length) PV.undef) (List.replicate (rf.nt - (Bt fr vs).length) undef):=Aq.undefs _ _ (by simp);have:=hargs.append h2;show Aq w I lp' (some Lc) (Bt fr vs++List.replicate (rf.nt - (Bt fr vs).length) .undef) _;rw[hl] at this |-;simpa[hnt] using this
  ·show Aq w I lp' (some Lc) (Lp rf.gone rf.nt (ins.map (Ob.ren fr)).length) wv;rw[hil];exact hwit
  ·intro nm ob hl;have hobj:Ak ((List.replicate rf.nt []).set 0 (ins.map (Ob.ren fr))) nm=some ob:=hl;by_cases h1:nm.1=0
   ·obtain⟨a,j⟩:=nm;simp only at h1;subst h1;rw[GU _ hlen0,bK] at hobj;obtain⟨ob0,ho0,rfl⟩:=bD.1 hobj;have hj:j < R.length:=by have:=(bL.1 ho0).1;omega
    have hRt:R[j]?=some R[j]:=bN hj;obtain⟨ob1,h3,h4⟩:=m2 j _ hRt;rw[ho0] at h3;cases h3;obtain⟨p,hp,ha⟩:=hs.ob _ ob0 h4;refine⟨p,by simp only[Lc,if_true,hRt,eo,hp],?_⟩
    have hyo:ob0.hasY=false:=by
     have:=bP.1 hoy ob0 (bQ ho0);simpa using this
    have hnarrow:BD w I lp' LR ob0 p:=(ha.noY hyo).narrow fun m hm q hq=>by
     have:m∈R:=UH hshut (bQ hRt) h4 m hm;simp only[LR,this,if_true];exact hq
    exact hnarrow.ren hren
   ·rw[hempty nm h1] at hobj;cases hobj
  ·intro nm hl;have hobj:Ak ((List.replicate rf.nt []).set 0 (ins.map (Ob.ren fr))) nm=none:=hl;simp only[Lc];split
   ·rename_i h1;obtain⟨a,j⟩:=nm;simp only at h1;subst h1;rw[GU _ hlen0,bK] at hobj;have h2:ins[j]?=none:=by simpa using hobj
    have:R[j]?=none:=co.2 (by have:=co.1 h2;omega);rw[this];rfl
   ·rfl
 let O:Nat->Prop:=fun b=>∃ nm C,nm∈R/\L nm=some (some (b,C))
 have hfr0:Fr cx w I O ⟨O,[]⟩ (fun _=>none) D6 () [] I (fun _=>False) Lc w:=by
  refine⟨⟨rfl,rfl,rfl,bF _,fun _ _ _=>rfl,fun _ h=>h,fun _ h=>.inl h,fun b h=>h.elim⟩,⟨hf.sep.iB,fun b h=>h.elim⟩,fun b h=>h,fun nm b C hn=>?_,fun nm nm' b C C' hn hn'=>?_,hf.wd,trivial,.nil,fun b ob hb=>by cases hb⟩
  ·obtain⟨t,h1,_,h2⟩:=hLc nm _ hn;obtain⟨_,g2,g3,_⟩:=hf.lB t b C h2;exact⟨.inr ⟨t,C,bQ h1,h2⟩,g2,g3,fun h=>h⟩
  ·obtain⟨t,h1,h3,h2⟩:=hLc nm _ hn;obtain⟨t',h1',h3',h2'⟩:=hLc nm' _ hn';have:=hf.inj t t' b C C' h2 h2';subst this;exact Prod.ext (h3.trans h3'.symm) (hRn _ _ t h1 h1')
 have tail:∀ (tm:Array Value) (w2:World) (I' F':Nat->Prop) (L':AB),SR lp' I' L' st2 tm.toList wv w2->Fr cx w I O ⟨O,[]⟩ (fun _=>none) D6 () [] I' F' L' w2 ->
   ∃ v,(results fn tm).run cx.P w2=.ok v w2/\∃ I' L',SR lp I' L' (apply st dst out) (Fy tmv dst v) suf w2/\Fr cx w0 I0 F0 O0 Hd RE e ds I' F L' w2:=by
  intro tm w2 I' F' L' hs2 hf';obtain⟨us',q1,q2⟩:=res_ok hs2 (P:=cx.P) fn.results.toList rf.res rs hres hrs;have hv:=XG q2;have hext:=hf'.ext
  have hge:∀ (j:Nat) nm,R[j]?=some nm->nm ∉ JD R st2.keep->∀ p,L nm=some p->∃ p',L' ((fun k=>(FH (st2.keep.getD k .undef)).getD (0,k)) j)=some p'/\GeP p p':=by
   intro j nm hj hng p hp
   have hsome:(FH (st2.keep.getD j .undef)).isSome=true:=by
    cases hw:FH (st2.keep.getD j .undef) with
    | some q=>rfl
    | none =>
     refine absurd ?_ hng;unfold JD;exact bE.2 ⟨(nm,j),dF.2 ⟨cW.2 hj,by simp only[hw];rfl⟩,rfl⟩
   obtain⟨q,hq⟩:=dH.1 hsome;simp only[hq,cr];have hkeep:=hs2.kp.getD j undef;have hval:=hwvj j nm hj
   have hform:st2.keep.getD j .undef=.arr q 1 0 0:=by
    unfold FH at hq;split at hq;·rename_i nm' heq;cases hq;exact heq
    ·cases hq
   rw[hform,hval,hp] at hkeep;cases p with
   | none =>
    simp only at hkeep;cases hkeep with
    | arrN _ _ h=>exact⟨none,h,trivial⟩
   | some p =>
    obtain⟨b,C⟩:=p;simp only at hkeep;generalize hvv:(Value.slice (some ⟨b,0,none⟩) 0 C)=vv at hkeep;cases hkeep with
    | arr _ _ _ _ cap b' C' h hC hn =>
     simp only[Value.slice.injEq,bG,Addr.mk.injEq] at hvv;obtain⟨⟨rfl,_,_⟩,_,rfl⟩:=hvv;exact⟨some (b,C'),h,rfl,by omega⟩
    | arrN _ _ h=>simp at hvv
  have hOb:∀ b,b < w.heap.size->(∀ nm C,nm∈R->L nm≠some (some (b,C)))->w2.heap[b]?=w.heap[b]?:=fun b hb hn=>hext.keep b hb fun ⟨nm,C,h1,h2⟩=>hn nm C h1 h2
  have htk:=io_taken (d0:=d1) (i0:=i1) (sl:=sl) (dst:=dst) (R:=R) (N:=N) (aN:=fun k=>(FH (st2.keep.getD k .undef)).getD (0,k)) (gone:=JD R st2.keep) hs hf (lp':=lp') (fun d l h=>by cases h)
   (fun d hdd=>⟨(hd d hdd).2,fun h=>by
    rcases hplace with ⟨_,h1,_,_⟩ | ⟨h1,_⟩;·rw[h1];exact (hd d hdd).1
    ·rw[h] at h1;cases h1⟩)
   (fun r hr=>by
    rcases hplace with ⟨h1,_⟩ | ⟨h1,_⟩;·rw[hr] at h1;cases h1
    ·rw[hr] at h1;cases h1;rfl)
   (fun hN=>by
    rcases hplace with ⟨h1,h2,h3,h4⟩ | ⟨h1,j,h2,h3⟩
    ·cases hdst:dst with
     | none =>
      rcases hnew hdst with h5 | h5;·rw[hout] at h5;exact absurd (by simpa using h5) hN
      ·rw[hout,h1] at h5;cases h5
     | some d =>
      obtain⟨g1,g2⟩:=hd d hdst;exact⟨[],by rw[h2,<-g1];exact g2,by rw[h3];rfl⟩
    ·obtain⟨p,ob,hp,hl,_⟩:=hRL _ h2;exact ZQ hl h3)
   (fun h1 hn=>by
    rcases hnew hn with h5 | h5;·rw[hout] at h5;simpa using h5
    ·rw[hout,h1] at h5;cases h5) (fun nm hn=>let ⟨p,_,hp,_⟩:=hRL nm hn;⟨p,hp⟩) hRn hs2 hv
   hext.os hext.tape hext.output hext.size hOb hext.subI
   (fun b hb=>by
    rcases hext.newI b hb with h | h | h;·exact .inl h
    ·exact .inr ⟨hf'.sep.iB b hb,.inr h⟩
    ·exact .inr ⟨hf'.sep.iB b hb,.inl h⟩)
   (fun nm b C hn=>by
    obtain⟨g1,g2,g3,_⟩:=hf'.lB nm b C hn;exact⟨g2,g3,g1⟩) hf'.inj (by rw[<-hB];exact hBn) hge hB
  refine⟨if h:us'.toArray.size=1 then us'.toArray[0] else .tuple us'.toArray,?_,I',Du L L' B,?_⟩
  ·unfold results;rw[Sem.run_bind,eZ,Sem.run_map];rw[df] at q1;exact (congrArg (fun r:Result (List Value)=>(r.andThen fun a w'=>Result.ok a.toArray w').andThen fun a w'=>Sem.run cx.P (pure (if h:a.size=1 then a[0] else Value.tuple a)) w') q1).trans rfl
  ·rw[hout];exact htk
 have body:∀ (Q:Exit->Act->World->Prop),(∀ a' w',(Dk rf.code=true->∀ d∈a'.defers,∃ r,d.target=.collected r)->LeavesInM Fence.wide 0 cx.P fn a'.tmps (fun
    | .returned v,w'=>∃ I' L',SR lp I' L' (apply st dst out) (Fy tmv dst v) suf w'/\Fr cx w0 I0 F0 O0 Hd RE e ds I' F L' w'
    | _,_=>False) a'.defers .returning w'->Q .normal a' w'/\Q .ret a' w')->c.wpIn (DN none) 0 cx.P Q {tmps:=us.toArray++Array.replicate (fn.ntmps - us.toArray.size) undef,defers:=[]} w:=by
  intro Q hQ
  have hx:∀ a' w',Q .normal a' w'/\Q .ret a' w'->Q (Df x) a' w':=by
   intro a' w' h;cases x with
   | normal=>exact h.1
   | ret=>exact h.2
   | exit id=>exact absurd rfl (hxe id)
  rcases hev with ⟨hq,hev,rfl⟩ | ⟨hq,hev,hd⟩
  ·rw[hcode] at hev;refine TH (dd:=dd g) (M:=M) hM hsp hloc c Unit AD 0 D6 lp' w I O ⟨O,[]⟩ (fun _=>none) wv none _ () x st2 () hev ⟨⟨I,O,w,Pt cx _ _ _ _,B7.refl _ _ _⟩,fun d l h=>by cases h⟩ (fun l0 he=>by cases he) _ w I (fun _=>False) _ _ hst0 hfr0 fun a' w' I' F' L' hs' hf'=>hx a' w' (hQ a' w' (fun _ d hd=>?_) ?_)
   ·have key:∀ ds rs,Dd w.heap.size I' F' L' w' ds rs->rs=[]->∀ d∈ds,∃ r,d.target=.collected r:=by
     intro ds rs hm;induction hm with
     | nil=>intro _ d hd;cases hd
     | cons D ds rs _ _ _ _ _ _ _ _ ih =>
      intro h0 d hd;rcases bH.1 hd with rfl | hd;·exact⟨D,rfl⟩
      ·exact ih h0 d hd
     | call d ds rs _ _ _=>intro h0;cases h0
    exact key _ _ hf'.mks rfl d hd
   ·exact Vj (nt:=rf.nt) (M:=M) hiod a'.defers [] [] [] st2 w' I' F' L' hs' hf' .nil rfl fun w2 I2 F2 L2 g1 g2=>tail a'.tmps w2 I2 F2 L2 g1 g2
  ·rw[hcode] at hev;refine evalD_ok (dd:=dd g) (M:=M) hM hsp hloc c lp' w I O O [] wv _ x st3 l hev ⟨⟨I,O,w,Pt cx _ _ _ _,B7.refl _ _ _⟩,fun d l h=>by cases h⟩ _ w I (fun _=>False) _ _ hst0 hfr0 fun a' w' I' F' L' us' rs' hs' hf' hp=>hx a' w' (hQ a' w' (fun h=>by rw[hq] at h;cases h) ?_);rw[dB] at hf';exact Vj (nt:=rf.nt) (M:=M) hiod a'.defers rs' l us' st3 w' I' F' L' hs' hf' hp hd fun w2 I2 F2 L2 g1 g2=>tail a'.tmps w2 I2 F2 L2 g1 g2
 refine⟨callsIn_of_wp_marks hfn hbody trivial (body _ fun a' w' _ h=>⟨h,h⟩),fun hfl u=>?_⟩
 have hnd:Dk rf.code=true:=by
  unfold Jm at hfl;rw[hrf] at hfl;exact hfl
 refine (Yd (R:=fun
    | .returned v,w'=>∃ I' L',SR lp I' L' (apply st dst out) (Fy tmv dst v) suf w'/\Fr cx w0 I0 F0 O0 Hd RE e ds I' F L' w'
    | _,_=>False) hfn hbody trivial (body _ fun a' w' hm h=>⟨⟨hm hnd,h⟩,⟨hm hnd,h⟩⟩)).mono fun en u' w' hq=>⟨hq.1,?_⟩
 cases en<;>exact hq.2
theorem io_ok {cx:Cx} {M:Ba} {tab:FuncId->Option At} (hM:En cx M.call) (hsp:MSp cx M) (hloc:Gq M) (hiod:Rz cx M) {dd:FuncId->D0} (htab:Ll cx tab dd) (n:Nat):IoOK cx (Gp M n tab):=by
 intro g d0 st vs out hc;obtain⟨h1,h2⟩:=XP hM hsp hloc hiod htab n g d0 st vs out hc;exact⟨h1,fun E w0 I0 F0 O0 Hd R e ds I F lp L tmv suf us w dst hs hf hr hd hn=>(h2 E w0 I0 F0 O0 Hd R e ds I F lp L tmv suf us w dst hs hf hr hd hn).1⟩
theorem af {σ σ':Nm->Option Ob}:∀ (l:List Nm),(∀ nm∈l,σ nm=σ' nm)->l.mapM σ=l.mapM σ':=by
 intro l;induction l with
 | nil=>intro _;rfl
 | cons x l ih =>
  intro h;rw[cQ,cQ,h x bT,ih fun nm hn=>h nm (bM _ hn)]
theorem ZS {σ σ':Nm->Option Ob} {R:List Nm} (h:∀ nm∈R,σ nm=σ' nm):C8 σ R=C8 σ' R:=by
 unfold C8;rw[cJ];simp only[bP];exact⟨fun g nm hn=>by rw[<-h nm hn];exact g nm hn,fun g nm hn=>by rw[h nm hn];exact g nm hn⟩
theorem io_loc (M:Ba) (n:Nat) (tab:FuncId->Option At):Yc (Gp M n tab):=by
 intro g d σ σ' vs out hσ h hst;unfold Gp at h |-;cases ht:tab g with
 | none=>rw[ht] at h;cases h
 | some fn =>
  rw[ht] at h;simp only at h |-;rw[<-M4 _ _ hσ];have hc:∀ nm∈Dr (A8 σ AU (AQ vs)),σ nm=σ' nm:=fun nm hn=>hσ nm (Sa.1 hn);rw[<-af _ hc,<-ZS hc];cases hm:(Dr (A8 σ AU (AQ vs))).mapM σ with
  | none=>rw[hm] at h;cases h
  | some ins =>
   rw[hm] at h;simp only at h |-;generalize Dr (A8 σ AU (AQ vs))=R at h |-;obtain⟨h1,h2⟩:=Bm h;simp only[AC,h1,if_true];split at h2
   case h_2=>cases h2
   rename_i st v hraw;unfold L9 at h2 |-;cases R with
   | nil=>exact h2
   | cons r rs =>
    simp only at h2;split at h2
    ·obtain⟨N,B,_,_,rfl⟩:=Sd h2;simp[Cm,Ei] at hst
    ·cases h2
theorem W4 {sl:Option Nat} {d0 i0:Nat} {R:List Nm} {st:St} {v:PV} {out:AK} (h:GM sl d0 i0 R st v=some out):out.io=true:=by
 obtain⟨_,_,_,_,rfl⟩:=Sd h;rfl
theorem Ty (M:Ba) (n:Nat) (tab:FuncId->Option At) (g:FuncId) (d:Nat) (σ:Nm->Option Ob) (vs:List PV) (out:AK) (h:Gp M n tab g d σ vs=some out):out.io=true:=by
 unfold Gp at h;split at h
 case h_1=>cases h
 simp only at h;split at h
 case h_1=>cases h
 obtain⟨_,h⟩:=Bm h;split at h
 case h_2=>cases h
 unfold L9 at h;split at h;·exact W4 h
 ·split at h;·exact W4 h
  ·cases h
theorem evalM_ok {cx:Cx} {sp:FuncId->(Nm->Option Ob)->List PV->Option AK} {tab:FuncId->Option At} (hsp:SpOK cx sp) (hloc:Qb sp) {dd:FuncId->D0} (htab:Ll cx tab dd):∀ n,En cx (Ec sp tab n).call/\MSp cx (Ec sp tab n)/\Gq (Ec sp tab n)/\Rz cx (Ec sp tab n):=by
 intro n;induction n with
 | zero=>exact⟨fun E h R dep lp Ir Fr_ wr g args e r obs e' hc=>(by cases hc),⟨hsp,fun g d st vs out h=>(by cases h),fun g d σ vs out h=>(by cases h)⟩,⟨hloc,fun _ _ _ _ _ _ _ h _=>h⟩,fun g d st vs out _ h=>(by cases h)⟩
 | succ n ih =>
  obtain⟨i1,i2,i3,i4⟩:=ih;refine⟨callOf_ok i1 i2 i3 htab n,⟨hsp,io_ok i1 i2 i3 i4 htab n,Ty _ n tab⟩,⟨hloc,io_loc _ n tab⟩,fun g d st vs out hfl hc=>?_⟩;obtain⟨h1,h2⟩:=XP i1 i2 i3 i4 htab n g d st vs out hc;exact⟨h1,fun E w0 I0 F0 O0 Hd R e ds I F lp L tmv suf us w u hs hf hr hn=>(h2 E w0 I0 F0 O0 Hd R e ds I F lp L tmv suf us w none hs hf hr (fun d h=>by cases h) (fun _=>hn)).2 hfl u⟩
theorem fn_ok {cx:Cx} {sp:FuncId->(Nm->Option Ob)->List PV->Option AK} {tab:FuncId->Option At} (hsp:SpOK cx sp) (hloc:Qb sp) {dd:FuncId->D0} (htab:Ll cx tab dd) (n:Nat):En cx (Bc sp tab n):=(evalM_ok hsp hloc htab n).1
end Go.Ab


namespace Go.Ab
theorem Yg {w w':World} {may:MemPlace->Prop} (h1:w'.os=w.os) (h2:w'.output=w.output) (h3:∀ b,b < w.heap.size->w'.heap[b]?=w.heap[b]?):w.keptBut w' may:=by
 refine⟨h1,h2,fun i hi=>?_⟩;rw[h3 i hi];cases hx:w.heap[i]? with
 | none=>rfl
 | some o=>cases o<;>first | rfl | exact⟨rfl,rfl,rfl,fun _ _=>rfl⟩ | exact .inr ⟨rfl,rfl⟩
structure K7 (w w':World):Prop where
 os:w'.os=w.os
 tape:w'.tape=w.tape
 output:w'.output=w.output
 size:w.heap.size<=w'.heap.size
 same:∀ b,b < w.heap.size->w'.heap[b]?=w.heap[b]?
theorem law_calls {cx:Cx} {call:Ha} (hM:En cx call) {g:FuncId} {args:List PV} {b:Bool} {obs:List Ob} (hev:call Unit AD 0 g args ()=some (.bool b,obs,())) {I:Nat->Prop} {w:World} {vs:List Value}
  (hI:∀ b,I b->b < w.heap.size) (hw:cx.Wd I w) (hrep:Aq w I (fun _=>none) none args vs) :
  Calls cx.P g vs.toArray w fun e w'=>e=.returned (.bool b)/\K7 w w':=by
 obtain⟨_,h⟩:=hM Unit AD D6 0 (fun _=>none) I (fun _=>False) w g args () (.bool b) obs () hev (Pt cx _ _ _ _) (fun d l h=>by cases h);have:=h I (fun _=>False) w vs (B7.refl _ _ _) ⟨hI,fun b hb=>hb.elim⟩ hw trivial hrep;refine callsIn_wide.1 (CallsIn.mono' this fun e w' hr=>?_);cases e with
 | returned v =>
  obtain⟨I',F',ps,hce⟩:=hr;exact⟨by rw[Fc hce.rep],hce.ext.os,hce.ext.tape,hce.ext.output,hce.ext.size,fun b hb=>hce.ext.keep b hb fun h=>h⟩
 | panicked chain=>exact hr.elim
 | outgrown=>exact hr.elim
end Go.Ab


namespace Go.Ab
def Bg (P:Nat->Prop):Prop:=∃ m,∀ k,m<=k->P k
theorem Bg.of {P:Nat->Prop} (h:∀ k,P k):Bg P:=⟨0,fun k _=>h k⟩
theorem Bg.and {P Q:Nat->Prop} (h:Bg P) (h':Bg Q):Bg fun k=>P k/\Q k:=by
 obtain⟨a,ha⟩:=h;obtain⟨b,hb⟩:=h';exact⟨max a b,fun k hk=>⟨ha k (by omega),hb k (by omega)⟩⟩
theorem Bg.mono {P Q:Nat->Prop} (h:Bg P) (f:∀ k,P k->Q k):Bg Q:=by
 obtain⟨a,ha⟩:=h;exact⟨a,fun k hk=>f k (ha k hk)⟩
theorem Bg.mono2 {P Q S:Nat->Prop} (h:Bg P) (h':Bg Q) (f:∀ k,P k->Q k->S k):Bg S:=(h.and h').mono fun k ⟨a,b⟩=>f k a b
def HRel {E1 E2:Type} (RE:E1->E2->Prop) (h1:Ay E1) (h2:Nat->Ay E2):Prop :=
 ∀ l args e1 e2,RE e1 e2->∀ b e1',h1 l args e1=some (b,e1')->∃ e2',RE e1' e2'/\Bg fun k=>h2 k l args e2=some (b,e2')
def Uk (c1:Ha) (c2:Nat->Ha):Prop :=
 ∀ (E1 E2:Type) (RE:E1->E2->Prop) (h1:Ay E1) (h2:Nat->Ay E2),HRel RE h1 h2 ->
  ∀ dep g args e1 e2,RE e1 e2->∀ r obs e1',c1 E1 h1 dep g args e1=some (r,obs,e1')->∃ e2',RE e1' e2'/\Bg fun k=>c2 k E2 (h2 k) dep g args e2=some (r,obs,e2')
structure Gt (M1:Ba) (M2:Nat->Ba):Prop where
 sp:∀ k,M1.sp=(M2 k).sp
 call:Uk M1.call fun k=>(M2 k).call
 isIo:∀ k,M1.isIo=(M2 k).isIo
 leans:∀ k,M1.leans=(M2 k).leans
 flat:∀ k,M1.flat=(M2 k).flat
 io:∀ g dst σ vs out,M1.io g dst σ vs=some out->Bg fun k=>(M2 k).io g dst σ vs=some out
section par
variable {M1:Ba} {M2:Nat->Ba} (hM:Gt M1 M2) {E1 E2:Type} {RE:E1->E2->Prop} {h1:Ay E1} {h2:Nat->Ay E2} (hh:HRel RE h1 h2)
include hM
theorem Sq (g:FuncId) (args:List PV) {r:PV} {obs:List Ob} {u:Unit} (h:M1.call Unit AD 0 g args ()=some (r,obs,u)):Bg fun k=>(M2 k).call Unit AD 0 g args ()=some (r,obs,()):=by
 obtain⟨_,_,h'⟩:=hM.call Unit Unit (fun _ _=>True) AD (fun _=>AD) (fun _ _ _ _ _ _ _ h=>by cases h) 0 g args () () trivial r obs u h;exact h'
include hh
theorem YM (dep dst:Nat) (σ:Nm->Option Ob) (tm:List PV) (f:RX) (args:List RX) {e1:E1} {e2:E2} (he:RE e1 e2) {out:AK} {e1':E1}
  (h:C0 M1 h1 dep dst σ tm f args e1=some (out,e1')):∃ e2',RE e1' e2'/\Bg fun k=>C0 (M2 k) (h2 k) dep dst σ tm f args e2=some (out,e2'):=by
 unfold C0 at h |-;cases hf:f.ev tm with
 | yld d =>
  simp only[hf] at h |-;by_cases hS:(AQ (args.map (RX.ev tm))).isEmpty=true
  ·simp only[hS,if_true] at h |-;unfold AC at h |-;split at h
   ·rename_i hy;simp only[hy,if_true];cases hq:h1 d (args.map (RX.ev tm)) e1 with
    | none=>rw[hq] at h;cases h
    | some p =>
     obtain⟨b,e⟩:=p;rw[hq] at h;cases h;obtain⟨e2',hr,h2'⟩:=hh _ _ _ _ he _ _ hq;exact⟨e2',hr,h2'.mono fun k hk=>by rw[hk]⟩
   ·cases h
  ·simp only[hS] at h |-;unfold AC at h |-;simp only[bA,if_false] at h |-;split at h
   ·rename_i hy;simp only[hy,if_true];cases hq:h1 d (AX (BJ σ) (args.map (RX.ev tm))) e1 with
    | none=>rw[hq] at h;cases h
    | some p =>
     obtain⟨b,e⟩:=p;rw[hq] at h;cases h;obtain⟨e2',hr,h2'⟩:=hh _ _ _ _ he _ _ hq;exact⟨e2',hr,h2'.mono fun k hk=>by rw[hk]⟩
   ·cases h
 | fn g cap =>
  simp only[hf] at h |-;simp only[<-hM.sp,<-hM.isIo,<-hM.leans];cases hs:M1.sp (AW g) σ (Bv g (args.map (RX.ev tm)) cap) with
  | some o=>simp only[hs] at h |-;cases h;exact⟨e2,he,.of fun _=>rfl⟩
  | none =>
   simp only[hs] at h |-;cases hio:M1.isIo (AW g) with
   | true =>
    simp only[hio,if_true] at h |-;cases hq:M1.io (AW g) dst σ (Bv g (args.map (RX.ev tm)) cap) with
    | none=>rw[hq] at h;cases h
    | some o=>rw[hq] at h;cases h;exact⟨e2,he,(hM.io _ _ _ _ _ hq).mono fun k hk=>by rw[hk]⟩
   | false =>
   simp only[hio,bA,if_false] at h |-;by_cases hS:(AQ (Bv g (args.map (RX.ev tm)) cap)).isEmpty=true
   ·simp only[hS,if_true] at h |-;by_cases hy:BF (Bv g (args.map (RX.ev tm)) cap)=true
    ·simp only[hy,if_true] at h |-;cases hq:M1.call E1 h1 dep (AW g) (Bv g (args.map (RX.ev tm)) cap) e1 with
     | none=>rw[hq] at h;cases h
     | some p =>
      obtain⟨r,obs,e⟩:=p;rw[hq] at h;cases h;obtain⟨e2',hr,h2'⟩:=hM.call E1 E2 RE h1 h2 hh _ _ _ _ _ he _ _ _ hq;exact⟨e2',hr,h2'.mono fun k hk=>by simp only at hk;rw[hk]⟩
    ·simp only[hy] at h |-;simp only[bA,if_false] at h |-;cases hq:M1.call Unit AD 0 (AW g) (Bv g (args.map (RX.ev tm)) cap) () with
     | none=>rw[hq] at h;cases h
     | some p =>
      obtain⟨r,obs,e⟩:=p;rw[hq] at h;cases h;exact⟨e2,he,(Sq hM _ _ hq).mono fun k hk=>by rw[hk]⟩
   ·simp only[hS] at h |-;unfold AC at h |-;simp only[bA,if_false] at h |-;split at h
    ·rename_i hy;simp only[hy,if_true];cases hq:M1.call Unit AD 0 (AW g) (AX (BJ σ) (Bv g (args.map (RX.ev tm)) cap)) () with
     | none=>rw[hq] at h;cases h
     | some p =>
      obtain⟨r,obs,e⟩:=p;rw[hq] at h;cases h;exact⟨e2,he,(Sq hM _ _ hq).mono fun k hk=>by rw[hk]⟩
    ·cases h
 | _=>simp only[hf] at h;cases h
theorem VX (dep:Nat) (o:AV) (st:St) {e1:E1} {e2:E2} (he:RE e1 e2) {out:AK} {e1':E1} (h:Dj M1 h1 dep o st e1=some (out,e1')) :
  ∃ e2',RE e1' e2'/\Bg fun k=>Dj (M2 k) (h2 k) dep o st e2=some (out,e2'):=by
 unfold Dj AC at h |-;split at h
 ·rename_i hf;simp only[hf,if_true];cases hop:o.op with
  | call f args =>
   simp only[hop] at h |-;cases hq:C0 M1 h1 dep (o.dst.getD 0) (Ak st.objs) st.tmps f args e1 with
   | none=>rw[hq] at h;cases h
   | some p =>
    obtain⟨out1,e3⟩:=p;rw[hq] at h;simp only[AC] at h;split at h
    ·rename_i hg;cases h;obtain⟨e2',hr,h2'⟩:=YM hM hh dep _ _ _ f args he hq;exact⟨e2',hr,h2'.mono fun k hk=>by rw[hk];simp only[hg,if_true]⟩
    ·cases h
  | _ =>
   simp only[hop] at h |-;split at h;·cases h;exact⟨e2,he,.of fun _=>rfl⟩
   ·cases h
 ·cases h
theorem ZH (dep:Nat) (o:AV) (st:St) {e1:E1} {e2:E2} (he:RE e1 e2) {st':St} {e1':E1} (h:Jt M1 h1 dep o st e1=some (st',e1')) :
  ∃ e2',RE e1' e2'/\Bg fun k=>Jt (M2 k) (h2 k) dep o st e2=some (st',e2'):=by
 unfold Jt at h |-;cases hq:Dj M1 h1 dep o st e1 with
 | none=>rw[hq] at h;cases h
 | some p =>
  obtain⟨out,e⟩:=p;rw[hq] at h;cases h;obtain⟨e2',hr,h2'⟩:=VX hM hh dep o st he hq;exact⟨e2',hr,h2'.mono fun k hk=>by rw[hk]⟩
theorem stepG_par (dep:Nat) (ops:List AV) (o:AV) (st:St) {e1:E1} {e2:E2} (he:RE e1 e2) {st':St} {e1':E1} (h:stepG M1 h1 dep ops o st e1=some (st',e1')) :
  ∃ e2',RE e1' e2'/\Bg fun k=>stepG (M2 k) (h2 k) dep ops o st e2=some (st',e2'):=by
 unfold stepG at h |-;cases hw:Dt ops o st.tmps with
 | none=>rw[hw] at h;cases h
 | some b =>
  rw[hw] at h;cases b with
  | true=>exact ZH hM hh dep o st he h
  | false=>cases h;exact⟨e2,he,.of fun _=>rfl⟩
theorem U9 (dep:Nat) (ops:List AV):∀ (l:List AV) (st:St) {e1:E1} {e2:E2} (_:RE e1 e2) {st':St} {e1':E1} (_:EB M1 h1 dep ops l st e1=some (st',e1')),
  ∃ e2',RE e1' e2'/\Bg fun k=>EB (M2 k) (h2 k) dep ops l st e2=some (st',e2'):=by
 intro l;induction l with
 | nil=>intro st e1 e2 he st' e1' h;cases h;exact⟨e2,he,.of fun _=>rfl⟩
 | cons o rest ih =>
  intro st e1 e2 he st' e1' h;unfold EB at h |-;cases hq:stepG M1 h1 dep ops o st e1 with
  | none=>rw[hq] at h;cases h
  | some p =>
   obtain⟨s,e⟩:=p;rw[hq] at h;obtain⟨e2',hr,h2'⟩:=stepG_par hM hh dep ops o st he hq;obtain⟨e3',hr3,h3'⟩:=ih s hr h;exact⟨e3',hr3,h2'.mono2 h3' fun k hk hk'=>by rw[hk];exact hk'⟩
theorem outD_par (dep:Nat) (ops:List AV) (i:Nat) (o:AV) (st:St) {e1:E1} {e2:E2} (he:RE e1 e2) {out:AK} {e1':E1} {inf:CK} (h:BX M1 h1 dep ops i o st e1=some (out,e1',inf)) :
  ∃ e2',RE e1' e2'/\Bg fun k=>BX (M2 k) (h2 k) dep ops i o st e2=some (out,e2',inf):=by
 unfold BX at h |-;cases hw:Dt ops o st.tmps with
 | none=>rw[hw] at h;cases h
 | some b =>
  rw[hw] at h;cases b with
  | true =>
   simp only at h |-;cases hq:Dj M1 h1 dep o st e1 with
   | none=>rw[hq] at h;cases h
   | some p =>
    obtain⟨out,e⟩:=p;rw[hq] at h;cases h;obtain⟨e2',hr,h2'⟩:=VX hM hh dep o st he hq;exact⟨e2',hr,h2'.mono fun k hk=>by rw[hk]⟩
  | false=>cases h;exact⟨e2,he,.of fun _=>rfl⟩
theorem runD_par (dep:Nat) (ops:List AV):∀ (l:List (Nat×Nat)) (infos:List CK) (st:St) {e1:E1} {e2:E2} (_:RE e1 e2) {st':St} {e1':E1} (_:Hg M1 h1 dep ops l infos st e1=some (st',e1')),
  ∃ e2',RE e1' e2'/\Bg fun k=>Hg (M2 k) (h2 k) dep ops l infos st e2=some (st',e2'):=by
 intro l;induction l with
 | nil=>intro infos st e1 e2 he st' e1' h;cases h;exact⟨e2,he,.of fun _=>rfl⟩
 | cons p rest ih =>
  obtain⟨i,bef⟩:=p;intro infos st e1 e2 he st' e1' h;unfold Hg at h |-;cases hi:ops[i]? with
  | none=>rw[hi] at h;cases h
  | some o =>
   simp only[hi] at h |-;unfold MB at h |-;cases hq:BX M1 h1 dep ops i o st e1 with
   | none=>rw[hq] at h;cases h
   | some p =>
    obtain⟨out,e,inf⟩:=p;simp only[hq] at h |-;obtain⟨e2',hr,h2'⟩:=outD_par hM hh dep ops i o st he hq;unfold AC at h |-;split at h
    ·rename_i hc;obtain⟨e3',hr3,h3'⟩:=ih _ _ hr h;exact⟨e3',hr3,h2'.mono2 h3' fun k hk hk'=>by rw[hk];simp only[hc,if_true];exact hk'⟩
    ·cases h
end par
def KM (M:Ba) (fuel:Nat) (asg b:Bw) {E:Type} (h:Ay E) (dep:Nat) (ps:List Nat):Ay (Gs E):=fun l args r =>
 if l=dep then
  match r with
  |(s,none,e) =>
   if args.length=ps.length then
    match AP M fuel asg h (dep+1) {s with tmps:=G2 ps args s.tmps,keep:=s.tmps++s.keep} e with
    | some (.normal,s',e)=>match AP M fuel b h (dep+1) s' e with
     | some (x,s',e)=>some (x==.normal,({s' with tmps:=s'.keep.take s.tmps.length,keep:=s'.keep.drop s.tmps.length},(if x=.normal then none else some x),e))
     | none=>none
    | _=>none
   else none
  | _=>none
 else
  match r with
  |(s,p,e)=>match h l args e with
   | some (b,e)=>some (b,(s,p,e))
   | none=>none
theorem Uz (M:Ba) (fuel:Nat) (f:RX) (ps:List Nat) (asg b:Bw) {E:Type} (h:Ay E) (dep:Nat) (st:St) (e:E) :
  AP M fuel (.rangeFunc f ps asg b) h dep st e=(match KG st (f.ev st.tmps) with
   | some (.fn g cap,st)=>match M.call (Gs E) (KM M fuel asg b h dep ps) (dep+1) (AW g) (Bv g [.yld dep] cap) (st,none,e) with
    | some (_,_,s,p,e)=>some (p.getD .normal,s,e)
    | none=>none
   | _=>none):=rfl
def FZ (M:Ba) (fuel:Nat) (asg:List Nat) (grow:List (Nat×Nat)) (b:Bw) {E:Type} (h:Ay E) (dep:Nat) (ds:List Nat) (s:St×E):Option (Sum (St×E) (Ex×(St×E))) :=
 match AP M fuel b h dep s.1 s.2 with
 | some (.normal,st,e)=>some (.inl (norm asg grow (drop ds st),e))
 | some (x,st,e)=>some (.inr (x,st,e))
 | none=>none
theorem Vu (M:Ba) (fuel:Nat) (asg:List Nat) (grow:List (Nat×Nat)) (b:Bw) {E:Type} (h:Ay E) (dep:Nat) (st:St) (e:E) :
  AP M fuel (.loop asg grow b) h dep st e=(match F6 (FZ M fuel asg grow b h dep (undefs (norm asg grow st))) fuel (norm asg grow st,e) with
   | some (x,st,e)=>some (x,st,e)
   | none=>none):=rfl
def Jx {σ ρ τ:Type} (f:σ->Option τ) (g:ρ->Option τ):Option (Sum σ ρ)->Option τ
 | some (.inl s)=>f s
 | some (.inr r)=>g r
 | none=>none
theorem ZZ {σ1 σ2 ρ1 ρ2:Type} {R:σ1->σ2->Prop} {Q:ρ1->ρ2->Prop} {s1:σ1->Option (Sum σ1 ρ1)} {s2:Nat->σ2->Option (Sum σ2 ρ2)}
  (rep1:Nat->σ1->Option ρ1) (hz1:∀ s,rep1 0 s=none) (hs1:∀ n s,rep1 (n+1) s=Jx (rep1 n) some (s1 s))
  (rep2:Nat->Nat->σ2->Option ρ2) (hs2:∀ k n s,rep2 k (n+1) s=Jx (rep2 k n) some (s2 k s))
  (hs:∀ a b,R a b->(∀ a',s1 a=some (.inl a')->∃ b',R a' b'/\Bg fun k=>s2 k b=some (.inl b'))/\(∀ r,s1 a=some (.inr r)->∃ r',Q r r'/\Bg fun k=>s2 k b=some (.inr r'))) :
  ∀ (n:Nat) a b,R a b->∀ r,rep1 n a=some r->∃ r',Q r r'/\Bg fun k=>∀ j,n<=j->rep2 k j b=some r':=by
 intro n;induction n with
 | zero=>intro a b _ r h;rw[hz1] at h;cases h
 | succ n ih =>
  intro a b hr r h;rw[hs1] at h;cases hq:s1 a with
  | none=>rw[hq] at h;cases h
  | some q =>
   rw[hq] at h;cases q with
   | inl a1 =>
    obtain⟨b1,hr1,h2⟩:=(hs a b hr).1 a1 hq;obtain⟨r',hq',h3⟩:=ih a1 b1 hr1 r h
    exact⟨r',hq',h2.mono2 h3 fun k hk hk' j hj=>by
     obtain⟨j,rfl⟩:∃ i,j=i+1:=⟨j - 1,by omega⟩;rw[hs2,hk];exact hk' j (by omega)⟩
   | inr p =>
    cases h;obtain⟨r',hr1,h2⟩:=(hs a b hr).2 r hq
    exact⟨r',hr1,h2.mono fun k hk j hj=>by
     obtain⟨j,rfl⟩:∃ i,j=i+1:=⟨j - 1,by omega⟩;rw[hs2,hk];rfl⟩
theorem O7 {σ:Type} (step:σ->Option (Sum σ (Ex×σ))) (n:Nat) (s:σ) :
  F6 step (n+1) s=Jx (F6 step n) some (step s):=by
 rw[F6];rcases step s with _ | (_ | _)<;>rfl
theorem Bg.diag {P:Nat->Nat->Prop} {n:Nat} (h:Bg fun k=>∀ j,n<=j->P k j):Bg fun k=>P k k:=by
 obtain⟨a,ha⟩:=h;exact⟨max a n,fun k hk=>ha k (by omega) k (by omega)⟩
theorem SL {M1:Ba} {M2:Nat->Ba} (hM:Gt M1 M2) {f1:Nat}:∀ (c:Bw) {E1 E2:Type} {RE:E1->E2->Prop} {h1:Ay E1} {h2:Nat->Ay E2} (_:HRel RE h1 h2) (dep:Nat) (st:St) {e1:E1} {e2:E2} (_:RE e1 e2)
  {x:Ex} {st':St} {e1':E1} (_:AP M1 f1 c h1 dep st e1=some (x,st',e1')),∃ e2',RE e1' e2'/\Bg fun k=>AP (M2 k) k c (h2 k) dep st e2=some (x,st',e2'):=by
 intro c;induction c with
 | skip=>intro E1 E2 RE h1 h2 hh dep st e1 e2 he x st' e1' h;cases h;exact⟨e2,he,.of fun _=>rfl⟩
 | region ops dr lv =>
  intro E1 E2 RE h1 h2 hh dep st e1 e2 he x st' e1' h;cases dr with
  | none =>
   simp only[AP] at h |-;cases hq:EB M1 h1 dep ops ops (EG (CC ops) st) e1 with
   | none=>rw[hq] at h;cases h
   | some p =>
    obtain⟨s,e⟩:=p;rw[hq] at h;cases h;obtain⟨e2',hr,h2'⟩:=U9 hM hh dep ops ops _ he hq;exact⟨e2',hr,h2'.mono fun k hk=>by rw[hk]⟩
  | some bef =>
   simp only[AP] at h |-;cases hq:Hg M1 h1 dep ops bef [] (EG (CC ops) st) e1 with
   | none=>rw[hq] at h;cases h
   | some p =>
    obtain⟨s,e⟩:=p;rw[hq] at h;cases h;obtain⟨e2',hr,h2'⟩:=runD_par hM hh dep ops bef [] _ he hq;exact⟨e2',hr,h2'.mono fun k hk=>by rw[hk]⟩
 | seq a b iha ihb =>
  intro E1 E2 RE h1 h2 hh dep st e1 e2 he x st' e1' h;simp only[AP] at h |-;cases hq:AP M1 f1 a h1 dep st e1 with
  | none=>rw[hq] at h;cases h
  | some p =>
   obtain⟨y,s,e⟩:=p;rw[hq] at h;obtain⟨e2',hr,h2'⟩:=iha hh dep st he hq;cases y with
   | normal =>
    obtain⟨e3',hr3,h3'⟩:=ihb hh dep s hr h;exact⟨e3',hr3,h2'.mono2 h3' fun k hk hk'=>by rw[hk];exact hk'⟩
   | exit id=>cases h;exact⟨e2',hr,h2'.mono fun k hk=>by rw[hk]⟩
   | ret=>cases h;exact⟨e2',hr,h2'.mono fun k hk=>by rw[hk]⟩
 | cond c a b iha ihb =>
  intro E1 E2 RE h1 h2 hh dep st e1 e2 he x st' e1' h;simp only[AP] at h |-;cases hc:c.ev st.tmps with
  | bool v =>
   rw[hc] at h;cases v with
   | true=>exact iha hh dep st he h
   | false=>exact ihb hh dep st he h
  | _=>rw[hc] at h;cases h
 | block id b ih =>
  intro E1 E2 RE h1 h2 hh dep st e1 e2 he x st' e1' h;simp only[AP] at h |-;cases hq:AP M1 f1 b h1 dep st e1 with
  | none=>rw[hq] at h;cases h
  | some p =>
   obtain⟨y,s,e⟩:=p;rw[hq] at h;obtain⟨e2',hr,h2'⟩:=ih hh dep st he hq;cases y with
   | normal=>cases h;exact⟨e2',hr,h2'.mono fun k hk=>by rw[hk]⟩
   | ret=>cases h;exact⟨e2',hr,h2'.mono fun k hk=>by rw[hk]⟩
   | exit id' =>
    simp only at h |-;split at h<;>rename_i hid;·cases h;exact⟨e2',hr,h2'.mono fun k hk=>by rw[hk];simp only[hid,if_true]⟩
    ·cases h;exact⟨e2',hr,h2'.mono fun k hk=>by rw[hk];simp only[hid,if_false]⟩
 | loop asg grow b ih =>
  intro E1 E2 RE h1 h2 hh dep st e1 e2 he x st' e1' h;simp only[Vu] at h |-;generalize norm asg grow st=z0 at h |-;cases hq:F6 (FZ M1 f1 asg grow b h1 dep (undefs z0)) f1 (z0,e1) with
  | none=>rw[hq] at h;cases h
  | some q =>
   obtain⟨x0,st0,e0⟩:=q;rw[hq] at h;cases h
   obtain⟨⟨x2,s2,e2'⟩,hr,h2'⟩:=ZZ (R:=fun (a:St×E1) (b:St×E2)=>a.1=b.1/\RE a.2 b.2) (Q:=fun (a:Ex×St×E1) (b:Ex×St×E2)=>a.1=b.1/\a.2.1=b.2.1/\RE a.2.2 b.2.2)
    (s1:=FZ M1 f1 asg grow b h1 dep (undefs z0)) (s2:=fun k=>FZ (M2 k) k asg grow b (h2 k) dep (undefs z0))
    (F6 (FZ M1 f1 asg grow b h1 dep (undefs z0))) (fun _=>rfl) (fun n s=>O7 _ n s) (fun k=>F6 (FZ (M2 k) k asg grow b (h2 k) dep (undefs z0))) (fun k n s=>O7 (FZ (M2 k) k asg grow b (h2 k) dep (undefs z0)) n s) (by
     rintro ⟨a,ea⟩ ⟨b',eb⟩ ⟨h01,hre⟩;simp only at h01 hre;subst h01;refine⟨fun a' ha=>?_,fun r ha=>?_⟩
     ·unfold FZ at ha |-;simp only at ha |-;cases hb:AP M1 f1 b h1 dep a ea with
      | none=>rw[hb] at ha;cases ha
      | some p =>
       obtain⟨y,s,e⟩:=p;rw[hb] at ha;obtain⟨e3,hr3,h3⟩:=ih hh dep a hre hb;cases y with
       | normal=>cases ha;exact⟨(_,e3),⟨rfl,hr3⟩,h3.mono fun k hk=>by rw[hk]⟩
       | exit id=>cases ha
       | ret=>cases ha
     ·unfold FZ at ha |-;simp only at ha |-;cases hb:AP M1 f1 b h1 dep a ea with
      | none=>rw[hb] at ha;cases ha
      | some p =>
       obtain⟨y,s,e⟩:=p;rw[hb] at ha;obtain⟨e3,hr3,h3⟩:=ih hh dep a hre hb;cases y with
       | normal=>cases ha
       | exit id=>cases ha;exact⟨(_,_,e3),⟨rfl,rfl,hr3⟩,h3.mono fun k hk=>by rw[hk]⟩
       | ret=>cases ha;exact⟨(_,_,e3),⟨rfl,rfl,hr3⟩,h3.mono fun k hk=>by rw[hk]⟩) f1 (z0,e1) (z0,e2) ⟨rfl,he⟩ _ hq
   simp only at hr;obtain⟨h00,h01,hre⟩:=hr;subst h00;subst h01;exact⟨e2',hre,h2'.diag.mono fun k hk=>by rw[hk]⟩
 | rangeFunc f ps asg b iha ihb =>
  intro E1 E2 RE h1 h2 hh dep st e1 e2 he x st' e1' h;simp only[Uz] at h |-;cases hz:KG st (f.ev st.tmps) with
  | none=>rw[hz] at h;cases h
  | some p =>
   obtain⟨v,s0⟩:=p;rw[hz] at h;cases v with
   | fn g cap =>
    simp only at h |-;cases hq:M1.call (Gs E1) (KM M1 f1 asg b h1 dep ps) (dep+1) (AW g) (Bv g [.yld dep] cap) (s0,none,e1) with
    | none=>rw[hq] at h;cases h
    | some q =>
     obtain⟨r,obs,s,p,e⟩:=q;rw[hq] at h;cases h
     obtain⟨⟨s2,p2,e2'⟩,hr,h2'⟩:=hM.call (Gs E1) (Gs E2) (fun (a:Gs E1) (b:Gs E2)=>a.1=b.1/\a.2.1=b.2.1/\RE a.2.2 b.2.2) (KM M1 f1 asg b h1 dep ps) (fun k=>KM (M2 k) k asg b (h2 k) dep ps) (by
       rintro l args ⟨s,p,e⟩ ⟨s2,p2,e2⟩ ⟨h01,h02,hre⟩ bb ⟨s',p',e'⟩ hq;simp only at h01 h02 hre;subst h01;subst h02;unfold KM at hq |-;by_cases hl:l=dep
       ·simp only[hl,if_true] at hq |-;cases p with
        | some x=>cases hq
        | none =>
         simp only at hq |-;by_cases hlen:args.length=ps.length
         ·simp only[hlen,if_true] at hq |-;cases ha:AP M1 f1 asg h1 (dep+1) {s with tmps:=G2 ps args s.tmps,keep:=s.tmps++s.keep} e with
          | none=>rw[ha] at hq;cases hq
          | some q =>
           obtain⟨y,s3,e3⟩:=q;rw[ha] at hq;obtain⟨e4,hr4,h4⟩:=iha hh (dep+1) _ hre ha;cases y with
           | normal =>
            simp only at hq |-;cases hb:AP M1 f1 b h1 (dep+1) s3 e3 with
            | none=>rw[hb] at hq;cases hq
            | some q =>
             obtain⟨y,s5,e5⟩:=q;rw[hb] at hq;obtain⟨e6,hr6,h6⟩:=ihb hh (dep+1) _ hr4 hb;cases hq;exact⟨(_,_,e6),⟨rfl,rfl,hr6⟩,h4.mono2 h6 fun k hk hk'=>by simp only[hk,hk'];rfl⟩
           | exit id=>cases hq
           | ret=>cases hq
         ·simp only[hlen,if_false] at hq;cases hq
       ·simp only[hl,if_false] at hq |-;cases ha:h1 l args e with
        | none=>rw[ha] at hq;cases hq
        | some q =>
         obtain⟨y,e3⟩:=q;rw[ha] at hq;cases hq;obtain⟨e4,hr4,h4⟩:=hh l args _ _ hre _ _ ha;exact⟨(_,_,e4),⟨rfl,rfl,hr4⟩,h4.mono fun k hk=>by rw[hk]⟩) (dep+1) (AW g) (Bv g [.yld dep] cap) (s0,none,e1) (s0,none,e2) ⟨rfl,rfl,he⟩ r obs _ hq
     simp only at hr;obtain⟨h01,h02,hre⟩:=hr;subst h01;subst h02;exact⟨e2',hre,h2'.mono fun k hk=>by simp only at hk;rw[hk]⟩
   | _=>cases h
 | exit id=>intro E1 E2 RE h1 h2 hh dep st e1 e2 he x st' e1' h;cases h;exact⟨e2,he,.of fun _=>rfl⟩
 | norm g=>intro E1 E2 RE h1 h2 hh dep st e1 e2 he x st' e1' h;cases h;exact⟨e2,he,.of fun _=>rfl⟩
 | scope b ih =>
  intro E1 E2 RE h1 h2 hh dep st e1 e2 he x st' e1' h;simp only[AP] at h |-;cases hq:AP M1 f1 b h1 dep st e1 with
  | none=>rw[hq] at h;cases h
  | some p =>
   obtain⟨y,s,e⟩:=p;rw[hq] at h;obtain⟨e2',hr,h2'⟩:=ih hh dep st he hq;cases y with
   | normal=>cases h;exact⟨e2',hr,h2'.mono fun k hk=>by rw[hk]⟩
   | ret=>cases h;exact⟨e2',hr,h2'.mono fun k hk=>by rw[hk]⟩
   | exit id' =>
    simp only at h |-;split at h<;>rename_i hid;·cases h;exact⟨e2',hr,h2'.mono fun k hk=>by rw[hk];simp only[hid,if_true]⟩
    ·cases h
 | ret=>intro E1 E2 RE h1 h2 hh dep st e1 e2 he x st' e1' h;cases h;exact⟨e2,he,.of fun _=>rfl⟩
 | dreg=>intro E1 E2 RE h1 h2 hh dep st e1 e2 he x st' e1' h;cases h
 | bad=>intro E1 E2 RE h1 h2 hh dep st e1 e2 he x st' e1' h;cases h
theorem Bg.shift {P:Nat->Prop} (h:Bg P):Bg fun k=>∃ j,k=j+1/\P j:=by
 obtain⟨a,ha⟩:=h;exact⟨a+1,fun k hk=>⟨k - 1,by omega,ha _ (by omega)⟩⟩
theorem HRel.shift {E1 E2:Type} {RE:E1->E2->Prop} {h1:Ay E1} {h2:Nat->Ay E2} (hh:HRel RE h1 h2):HRel RE h1 fun k=>h2 (k+1):=by
 intro l args e1 e2 he b e1' h;obtain⟨e2',hr,a,ha⟩:=hh l args e1 e2 he b e1' h;exact⟨e2',hr,a,fun k hk=>ha _ (by omega)⟩
theorem VF {M1:Ba} {M2:Nat->Ba} (hM:Gt M1 M2) (n:Nat) (tab:FuncId->Option At):Uk (IG M1 n tab) (fun k=>IG (M2 k) k tab):=by
 intro E1 E2 RE h1 h2 hh dep g args e1 e2 he r obs e1' h;simp only[IG] at h |-;cases ht:tab g with
 | none=>rw[ht] at h;cases h
 | some fn =>
  rw[ht] at h;simp only at h |-;cases hq:AP M1 n fn.code h1 dep {tmps:=args++List.replicate (fn.nt - args.length) .undef,objs:=List.replicate fn.nt [],keep:=[]} e1 with
  | none=>rw[hq] at h;cases h
  | some p =>
   obtain⟨x,s,e⟩:=p;rw[hq] at h;obtain⟨e2',hr,h2'⟩:=SL hM fn.code hh dep _ he hq;cases x with
   | exit id=>cases h
   | normal =>
    simp only at h;cases h3:Ft s fn.res with
    | none=>rw[h3] at h;cases h
    | some vs =>
     rw[h3] at h;simp only at h;cases h4:Jl fn.shut s (G4 vs) with
     | none=>rw[h4] at h;cases h
     | some q =>
      obtain⟨v,obs'⟩:=q;rw[h4] at h;cases h;exact⟨e2',hr,h2'.mono fun k hk=>by simp only[hk,h3,h4]⟩
   | ret =>
    simp only at h;cases h3:Ft s fn.res with
    | none=>rw[h3] at h;cases h
    | some vs =>
     rw[h3] at h;simp only at h;cases h4:Jl fn.shut s (G4 vs) with
     | none=>rw[h4] at h;cases h
     | some q =>
      obtain⟨v,obs'⟩:=q;rw[h4] at h;cases h;exact⟨e2',hr,h2'.mono fun k hk=>by simp only[hk,h3,h4]⟩
theorem ai {r:Option (Ex×St×Unit)} {x:Ex} {st:St} {l:List Nat} (h:Gj r=some (x,st,l)):r=some (x,st,())/\l=[]:=by
 unfold Gj at h;split at h;·cases h;exact⟨rfl,rfl⟩
 ·cases h
theorem evalD_par {M1:Ba} {M2:Nat->Ba} (hM:Gt M1 M2) {n nt:Nat}:∀ (c:Bw) (st:St) {x:Ex} {st':St} {l:List Nat},Bh M1 n nt c st=some (x,st',l)->Bg fun k=>Bh (M2 k) k nt c st=some (x,st',l):=by
 have leaf:∀ (c:Bw) (st:St) {x:Ex} {st':St} {l:List Nat},Gj (AP M1 n c AD 0 st ())=some (x,st',l)->Bg fun k=>Gj (AP (M2 k) k c AD 0 st ())=some (x,st',l):=by
  intro c st x st' l h;obtain⟨h1,rfl⟩:=ai h;obtain⟨e2',_,h2'⟩:=SL (RE:=fun (_ _:Unit)=>True) (h1:=AD) (h2:=fun _=>AD) hM c (fun _ _ _ _ _ _ _ h=>by cases h) 0 _ (e1:=()) (e2:=()) trivial h1;exact h2'.mono fun k hk=>by rw[hk];rfl
 intro c;induction c with
 | dreg ops f args live =>
  intro st x st' l h;simp only[Bh] at h |-;cases hq:EB M1 AD 0 ops ops (EG (CC ops) st) () with
  | none=>rw[hq] at h;cases h
  | some p =>
   obtain⟨s,u⟩:=p;rw[hq] at h;obtain⟨e2',_,h2'⟩:=U9 (RE:=fun (_ _:Unit)=>True) (h1:=AD) (h2:=fun _=>AD) hM (fun _ _ _ _ _ _ _ h=>by cases h) 0 ops ops _ (e1:=()) (e2:=()) trivial hq;exact h2'.mono fun k hk=>by rw[hk];exact h
 | seq a b iha ihb =>
  intro st x st' l h;simp only[Bh] at h |-;cases hq:Bh M1 n nt a st with
  | none=>rw[hq] at h;cases h
  | some p =>
   obtain⟨y,s,l1⟩:=p;rw[hq] at h;have h1:=iha _ hq;cases y with
   | normal =>
    simp only at h;cases hb:Bh M1 n nt b s with
    | none=>rw[hb] at h;cases h
    | some q =>
     obtain⟨z,s2,l2⟩:=q;rw[hb] at h;exact h1.mono2 (ihb _ hb) fun k g1 g2=>by rw[g1];simp only;rw[g2];exact h
   | exit id=>exact h1.mono fun k g1=>by rw[g1];exact h
   | ret=>exact h1.mono fun k g1=>by rw[g1];exact h
 | cond c a b iha ihb =>
  intro st x st' l h;simp only[Bh] at h |-;split at h;·exact iha _ h
  ·exact ihb _ h
  ·cases h
 | block id b ih =>
  intro st x st' l h;simp only[Bh] at h |-;cases hq:Bh M1 n nt b st with
  | none=>rw[hq] at h;cases h
  | some p =>
   rw[hq] at h;exact (ih _ hq).mono fun k g=>by rw[g];exact h
 | scope b ih =>
  intro st x st' l h;simp only[Bh] at h |-;split at h;·cases h
  rename_i hl;simp only[hl,bA,if_false];cases hq:Bh M1 n nt b st with
  | none=>rw[hq] at h;cases h
  | some p =>
   rw[hq] at h;exact (ih _ hq).mono fun k g=>by rw[g];exact h
 | skip=>intro st x st' l h;exact leaf _ st h
 | region ops d lv=>intro st x st' l h;exact leaf _ st h
 | loop a g b _=>intro st x st' l h;exact leaf _ st h
 | rangeFunc f ps a b _ _=>intro st x st' l h;exact leaf _ st h
 | exit id=>intro st x st' l h;exact leaf _ st h
 | ret=>intro st x st' l h;exact leaf _ st h
 | norm g=>intro st x st' l h;exact leaf _ st h
 | bad=>intro st x st' l h;exact leaf _ st h
theorem Xk {M1:Ba} {M2:Nat->Ba} (hM:Gt M1 M2) {nt:Nat}:∀ (l:List Nat) (st:St) {st':St},GS M1 nt l st=some st'->Bg fun k=>GS (M2 k) nt l st=some st':=by
 intro l;induction l with
 | nil=>intro st st' h;exact .of fun _=>h
 | cons n l ih =>
  intro st st' h;unfold GS at h |-;split at h
  case h_2=>cases h
  rename_i f cap hf;split at h;·cases h
  rename_i hsp;split at h
  case isFalse=>cases h
  rename_i hfl;split at h
  case h_2=>cases h
  rename_i out hout;unfold AC at h;split at h
  case isFalse=>cases h
  rename_i hn;refine (hM.io _ _ _ _ _ hout).mono2 (ih _ h) fun k g1 g2=>?_;rw[<-hM.sp k,hsp,<-hM.isIo k,<-hM.flat k];simp only[hfl,if_true,g1,AC,hn];exact g2
theorem ioRaw_par {M1:Ba} {M2:Nat->Ba} (hM:Gt M1 M2) (n:Nat) (fn:At) (ins:List Ob) (vs:List PV) {r:St×PV} (h:Hz M1 n fn ins vs=some r):Bg fun k=>Hz (M2 k) k fn ins vs=some r:=by
 unfold Hz at h |-;cases hd:Dk fn.code with
 | true =>
  simp only[hd,if_true] at h |-;cases hq:AP M1 n fn.code AD 0 (IU fn.gone fn.nt ins vs) () with
  | none=>rw[hq] at h;cases h
  | some p =>
   obtain⟨x,s,e⟩:=p;rw[hq] at h;obtain⟨e2',_,h2'⟩:=SL (RE:=fun (_ _:Unit)=>True) (h1:=AD) (h2:=fun _=>AD) hM fn.code (fun _ _ _ _ _ _ _ h=>by cases h) 0 _ (e1:=()) (e2:=()) trivial hq;refine h2'.mono fun k hk=>?_;rw[hk];exact h
 | false =>
  simp only[hd,bA,if_false] at h |-;cases hq:Bh M1 n fn.nt fn.code (IU fn.gone fn.nt ins vs) with
  | none=>rw[hq] at h;cases h
  | some p =>
   obtain⟨x,s,l⟩:=p;rw[hq] at h;have h1:=evalD_par hM fn.code _ hq;cases x with
   | exit id=>cases h
   | normal =>
    simp only at h;cases hq2:GS M1 fn.nt l s with
    | none=>rw[hq2] at h;cases h
    | some s2 =>
     rw[hq2] at h;exact h1.mono2 (Xk hM l s hq2) fun k g1 g2=>by rw[g1];simp only;rw[g2];exact h
   | ret =>
    simp only at h;cases hq2:GS M1 fn.nt l s with
    | none=>rw[hq2] at h;cases h
    | some s2 =>
     rw[hq2] at h;exact h1.mono2 (Xk hM l s hq2) fun k g1 g2=>by rw[g1];simp only;rw[g2];exact h
theorem W3 {M1:Ba} {M2:Nat->Ba} (hM:Gt M1 M2) (n:Nat) (tab:FuncId->Option At) (g:FuncId) (dst:Nat) (σ:Nm->Option Ob) (vs:List PV) (out:AK) (h:Gp M1 n tab g dst σ vs=some out) :
  Bg fun k=>Gp (M2 k) k tab g dst σ vs=some out:=by
 unfold Gp at h |-;cases ht:tab g with
 | none=>rw[ht] at h;cases h
 | some fn =>
  rw[ht] at h;simp only at h |-;cases hm:(Dr (A8 σ AU (AQ vs))).mapM σ with
  | none=>rw[hm] at h;cases h
  | some ins =>
   rw[hm] at h;simp only at h |-;unfold AC at h |-;split at h
   case isFalse=>cases h
   rename_i hc;simp only[hc,if_true];cases hq:Hz M1 n fn (ins.map (Ob.ren fun m=>(0,(Dr (A8 σ AU (AQ vs))).idxOf m))) (Bt (fun m=>(0,(Dr (A8 σ AU (AQ vs))).idxOf m)) vs) with
   | none=>rw[hq] at h;cases h
   | some p =>
    rw[hq] at h;refine (ioRaw_par hM n fn _ _ hq).mono fun k hk=>?_;rw[hk];exact h
theorem Gt.of_tail {M1:Ba} {M2:Nat->Ba} (h:Gt M1 fun k=>M2 (k+1)) (h0:M1.sp=(M2 0).sp) (h1:M1.isIo=(M2 0).isIo) (h2:M1.leans=(M2 0).leans) (h3:M1.flat=(M2 0).flat):Gt M1 M2 where
 sp k:=by cases k with | zero=>exact h0 | succ k=>exact h.sp k
 call:=by
  intro E1 E2 RE g1 g2 hh dep g args e1 e2 he r obs e1' hq;obtain⟨e2',hr,h2⟩:=h.call E1 E2 RE g1 (fun k=>g2 (k+1)) hh.shift dep g args e1 e2 he r obs e1' hq;exact⟨e2',hr,h2.shift.mono fun k ⟨j,hj,hp⟩=>by subst hj;exact hp⟩
 isIo k:=by cases k with | zero=>exact h1 | succ k=>exact h.isIo k
 leans k:=by cases k with | zero=>exact h2 | succ k=>exact h.leans k
 flat k:=by cases k with | zero=>exact h3 | succ k=>exact h.flat k
 io g dst σ vs out hq:=(h.io g dst σ vs out hq).shift.mono fun k ⟨j,hj,hp⟩=>by subst hj;exact hp
theorem Tg (sp:FuncId->(Nm->Option Ob)->List PV->Option AK) (tab:FuncId->Option At) (n:Nat):(Ec sp tab n).sp=sp:=by cases n<;>rfl
theorem Sk (sp:FuncId->(Nm->Option Ob)->List PV->Option AK) (tab:FuncId->Option At) (n:Nat):(Ec sp tab n).isIo=EU tab:=by cases n<;>rfl
theorem R0 (sp:FuncId->(Nm->Option Ob)->List PV->Option AK) (tab:FuncId->Option At) (n:Nat):(Ec sp tab n).leans=F4 tab:=by cases n<;>rfl
theorem Sl (sp:FuncId->(Nm->Option Ob)->List PV->Option AK) (tab:FuncId->Option At) (n:Nat):(Ec sp tab n).flat=Jm tab:=by cases n<;>rfl
theorem Xj {sp:FuncId->(Nm->Option Ob)->List PV->Option AK} {tab:FuncId->Option At}:∀ (n:Nat),Gt (Ec sp tab n) (Ec sp tab):=by
 intro n;induction n with
 | zero=>exact {sp:=fun k=>(by rw[Tg,Tg]),call:=fun E1 E2 RE h1 h2 hh dep g args e1 e2 he r obs e1' h=>(by cases h),isIo:=fun k=>(by rw[Sk,Sk]),leans:=fun k=>(by rw[R0,R0]),flat:=fun k=>(by rw[Sl,Sl]),io:=fun g dst σ vs out h=>(by cases h)}
 | succ n ih =>
  refine Gt.of_tail ⟨fun k=>rfl,?_,fun k=>rfl,fun k=>rfl,fun k=>rfl,fun g dst σ vs out h=>W3 ih n tab g dst σ vs out h⟩ rfl rfl rfl rfl;exact VF ih n tab
theorem Sm {sp:FuncId->(Nm->Option Ob)->List PV->Option AK} {tab:FuncId->Option At} (n:Nat):Uk (Bc sp tab n) (Bc sp tab):=(Xj n).call
end Go.Ab


namespace Go.Ab
def Ac {α β:Type} (x:Option α) (f:α->Option β):Option β :=
 match x with
 | some a=>f a
 | none=>none
def Ar {β:Type} (v:PV) (a b:Option β):Option β :=
 match v with
 | .bool true=>a
 | .bool false=>b
 | _=>none
def B9 {β:Type} (v:Bool) (a b:Option β):Option β :=
 match v with
 | true=>a
 | false=>b
def Ae {β:Type} (v:Bool) (a:Option β):Option β :=
 match v with
 | true=>a
 | false=>none
mutual
def okV:PV->Bool
 | .undef | .bool _ | .int _ _ | .str _ | .nilS | .nilP | .nilF | .nilI | .nilM | .glob _ _=>true
 | .sl _ xs _=>Ao xs | .ptr cs _=>Ao cs | .agg cs=>Ao cs | .iface _ x=>okV x | .fn _ cap=>Ao cap | .tup xs=>Ao xs | .imap es=>Ao es
 | .yld _ | .ref _ _ | .aref _ _ _ _ | .arr _ _ _ _ | .mp _ | .it _=>false
def Ao:List PV->Bool
 | []=>true
 | x :: xs=>okV x&&Ao xs
end
def Ad (op:Ax):Option PV :=
 match exec 0 (fun _=>none) [] op with
 | some out=>some out.v
 | none=>none
def FN (cs:List PV) (o:Nat):PV:=if o < cs.length then .ptr cs o else .undef
def arefO (k k':Nat) (xs:List PV) (i o:Nat):PV:=if k=k' then (match xs[i]? with | some x=>if o < x.cells.length then .ptr x.cells o else .undef | none=>.undef) else .undef
def AN (k k':Nat) (xs:List PV) (o n:Nat):PV:=if k=k'/\o+n<=xs.length then .sl k ((xs.drop o).take n) false else .undef
def Ah (v:PV) (i:Nat):PV:=v.cells.getD i .undef
def AF (v:PV) (n:Nat):Bool:=v.isVal&&v.cells.length==n
def Am (v:PV) (o n:Nat) (ag:Bool):Option PV:=BE v.cells o n ag
def MT (xs:List PV) (i o n:Nat) (ag:Bool):Option PV :=
 match xs[i]? with
 | some e=>BE e.cells o n ag
 | none=>none
def He (k:Nat) (xs:List PV) (i o n:Nat) (v:PV):Option (List PV) :=
 match xs[i]? with
 | some (.agg es)=>Ae (v.isVal&&decide (v.cells.length=n)&&decide (o+n<=es.length)) (some (xs.set i (.agg (splice es o v.cells))))
 | some _=>Ae (k==1&&o==0&&n==1&&v.isCell) (some (xs.set i v))
 | none=>none
def FO (v:PV):Option Nat:=CS v
def EX (x:Option PV) (d top:Nat):Option Nat:=Cn x d top
def Ia (k:Nat) (v:PV):Option (List PV):=elems (fun _=>none) k v
def appO (k:Nat) (v:PV) (ys:List PV):Option (List PV) :=
 match v with
 | .nilS=>Ae (decide (ys.length<=Ff)) (some ys)
 | .sl k' xs true=>match ys with
  | []=>none
  | y :: ys=>Ae (k==k'&&decide (xs.length+(ys.length+1)<=Ff)) (some (xs++y :: ys))
 | _=>none
def Hh (c:TC) (es:List PV) (k v:PV):Option (List PV) :=
 match GO k v es with
 | some es'=>Ae (GL c k&&v.isVal) (some es')
 | none=>none
def QG (c:TC) (z:PV) (ok:Bool) (es:List PV) (k:PV):Option PV :=
 match Dc k es with
 | none=>none
 | some r=>Ae (GL c k) (some (if ok then .tup [r.getD z,.bool r.isSome] else r.getD z))
def J3 (l c:PV):Option Nat :=
 match CS l,CS c with
 | some l,some c=>Ae (decide (l<=c)&&decide (c<=Ff)) (some l)
 | _,_=>none
def strO (v:PV):Option (List UInt8) :=
 match v with
 | .str s=>some s
 | _=>none
def runeP (s:List UInt8) (pos:Nat):PV:=.int .i32 (Utf8.decode ⟨s.toArray⟩ pos).1
def runeN (s:List UInt8) (pos:Nat):Nat:=(Utf8.decode ⟨s.toArray⟩ pos).2
def asP {β:Type} (e:TypeId) (v:PV) (f:PV->Option β) (g:Option β):Option β :=
 match v with
 | .nilI=>g
 | .iface t x=>if t=e then f x else none
 | _=>none
def notNil {β:Type} (v:PV) (a:Option β):Option β :=
 match v with
 | .nilS=>none
 | _=>a
def DY {β:Type} (v:PV) (a:Option β):Option β :=
 match v with
 | .nilS=>a
 | _=>none
def nilB {β:Type} (v:PV) (a b:Option β):Option β :=
 match v with
 | .nilS=>a
 | _=>b
def S3 (v:PV) (i:Nat):Bool :=
 match v.cells[i]? with
 | some .nilS=>false
 | _=>true
def Aa (vs:List PV) (i:Nat):PV:=vs.getD i .undef
def An (v:PV):Nat :=
 match v with
 | .int _ n=>n.toNat
 | _=>0
def Av (v:PV):List PV :=
 match v with
 | .sl _ xs _=>xs
 | _=>[]
def Lg (v:PV):List PV :=
 match v with
 | .imap es=>es
 | _=>[]
def strP (v:PV):List UInt8 :=
 match v with
 | .str s=>s
 | _=>[]
def HG (v:PV) (i:Nat):PV :=
 match v with
 | .tup xs=>xs.getD i .undef
 | .agg xs=>xs.getD i .undef
 | _=>.undef
def AG (a b:Nat):Nat:=a+b
def subN (a b:Nat):Nat:=a - b
def minN (a b:Nat):Nat:=min a b
def AO (a b:Nat):Bool:=Nat.ble a b
def DL (a b:Nat):Bool:=Nat.blt a b
def Fz (a b:Nat):Bool:=Nat.beq a b
def eqOff (a b:Nat):Bool:=Nat.beq a b
def halfN (a:Nat):Nat:=a / 2
def BG (a b:Bool):Bool:=a&&b
def nI (n:Nat):PV:=.int .i64 (n:Int)
def Ai (l:List PV):Nat:=l.length
def AE (n:Nat) (l:List PV):List PV:=l.take n
def AS (n:Nat) (l:List PV):List PV:=l.drop n
def BC (l l':List PV):List PV:=l++l'
def GJ (n:Nat) (v:PV):List PV:=List.replicate n v
def lenS (s:List UInt8):Nat:=s.length
def CH (v:PV):List PV:=v.cells
def DQ (l:List PV) (n:Nat):Bool:=l.length==n&&Ao l
def AY (k:Nat) (l:List PV):Bool:=l.all fun x=>x.isVal&&x.cells.length==k
def QB (u w:PV) (o n:Nat):Bool:=u.isVal&&decide (u.cells.length=n)&&decide (o+n<=w.cells.length)
def Gm (u w:PV) (o:Nat):PV:=.agg (splice w.cells o u.cells)
def F8 (p:Option Ex):Bool :=
 match p with
 | none=>true
 | _=>false
def GF (p:Option Ex):Bool :=
 match p with
 | some .ret=>true
 | _=>false
def XN (p:Option Ex) (id:Nat):Bool :=
 match p with
 | some (.exit id')=>Nat.beq id' id
 | _=>false
def A3 (v:PV):Bool:=v.isVal
def Bl (v:PV):Bool:=okV v
def Bp (vs:List PV):Bool:=vs.all fun v=>!Gy v
def noYL (vs:List PV):Bool:=!BF vs
def IA (k:IntKind) (v:PV):Bool :=
 match v with
 | .int k' _=>decide (k'=k)
 | _=>false
def Oq (k:IntKind) (x:Int) (v:PV):Bool :=
 match v with
 | .int k' z=>decide (k'=k)&&decide (z=x)
 | _=>false
open Classical in
noncomputable def lim {α:Type} (f:Nat->Option α):Option α:=if h:∃ a,Bg fun n=>f n=some a then some h.choose else none
theorem NG {α:Type} {f:Nat->Option α} {a:α} (h:lim f=some a):Bg fun n=>f n=some a:=by
 unfold lim at h;split at h
 ·rename_i hx;have:=hx.choose_spec;cases h;exact this
 ·cases h
theorem Bg.unique {α:Type} {f:Nat->Option α} {a b:α} (h:Bg fun n=>f n=some a) (h':Bg fun n=>f n=some b):a=b:=by
 obtain⟨m,hm⟩:=h.and h';have:=hm m (bF _);exact dp (this.1.symm.trans this.2)
theorem Jy {α:Type} {f:Nat->Option α} {a:α} (h:Bg fun n=>f n=some a):lim f=some a:=by
 unfold lim;have hx:∃ a,Bg fun n=>f n=some a:=⟨a,h⟩;rw[dif_pos hx];exact congrArg some (Bg.unique hx.choose_spec h)
def GP {σ ρ:Type} (step:σ->Option (Sum σ ρ)):Nat->σ->Option ρ
 | 0,_=>none
 | n+1,s=>Jx (GP step n) some (step s)
noncomputable def BL {σ ρ:Type} (step:σ->Option (Sum σ ρ)) (s:σ):Option ρ:=lim fun n=>GP step n s
theorem repS_mono {σ ρ:Type} {step:σ->Option (Sum σ ρ)}:∀ {n m:Nat} {s:σ} {r:ρ},n<=m->GP step n s=some r->GP step m s=some r:=by
 intro n;induction n with
 | zero=>intro m s r _ h;cases h
 | succ n ih =>
  intro m s r hm h;obtain⟨m,rfl⟩:∃ k,m=k+1:=⟨m - 1,by omega⟩;unfold GP at h |-;revert h;rcases step s with _ | (s1 | r1)<;>intro h;·exact h
  ·exact ih (by omega) h
  ·exact h
theorem Pb {σ ρ:Type} {step:σ->Option (Sum σ ρ)} {s:σ} {r:ρ} (h:BL step s=some r):∃ n,GP step n s=some r:=by
 obtain⟨m,hm⟩:=NG h;exact⟨m,hm m (bF _)⟩
theorem S7 {σ ρ:Type} {step:σ->Option (Sum σ ρ)} {s:σ} {r:ρ} {n:Nat} (h:GP step n s=some r):BL step s=some r :=
 Jy ⟨n,fun _ hk=>repS_mono hk h⟩
theorem WW {σ ρ:Type} (step:σ->Option (Sum σ ρ)) (s:σ):BL step s=Jx (BL step) some (step s):=by
 cases hs:step s with
 | none =>
  cases hl:BL step s with
  | none=>rfl
  | some r =>
   obtain⟨n,hn⟩:=Pb hl;cases n with
   | zero=>cases hn
   | succ n=>unfold GP at hn;rw[hs] at hn;cases hn
 | some q =>
  cases q with
  | inl s1 =>
   show BL step s=BL step s1;cases hl:BL step s with
   | some r =>
    obtain⟨n,hn⟩:=Pb hl;cases n with
    | zero=>cases hn
    | succ n=>unfold GP at hn;rw[hs] at hn;exact (S7 hn).symm
   | none =>
    cases hl1:BL step s1 with
    | none=>rfl
    | some r =>
     obtain⟨n,hn⟩:=Pb hl1;have:BL step s=some r:=S7 (n:=n+1) (by unfold GP;rw[hs];exact hn);rw[hl] at this;cases this
  | inr r=>exact S7 (n:=1) (by unfold GP;rw[hs];rfl)
theorem D4 {σ ρ:Type} {step:σ->Option (Sum σ ρ)} {s s':σ} (h:step s=some (.inl s')):BL step s=BL step s':=by
 rw[WW,h];rfl
theorem Cj {σ ρ:Type} {step:σ->Option (Sum σ ρ)} {s:σ} {r:ρ} (h:step s=some (.inr r)):BL step s=some r:=by
 rw[WW,h];rfl
inductive KV where
 | un | sk
 | lit (b:Bool)
 | nils
 | cv (v:PV)
 | yld (d:Nat)
 | ref (nm:Nm) (o:Nat)
 | aref (nm:Nm) (k i o:Nat)
 | arr (nm:Nm) (k o n:Nat)
 | mp (nm:Nm)
 | it (nm:Nm)
 | wit (nm:Nm)
 | agg (cs:List KV)
 | iface (t:TypeId) (x:KV)
 | fn (f:FuncId) (cap:List KV)
 | tup (xs:List KV)
 deriving Inhabited
mutual
def KV.pv:KV->PV
 | .un=>.undef | .sk=>.tup [] | .lit b=>.bool b | .nils=>.nilS | .cv v=>v | .yld d=>.yld d
 | .ref nm o=>.ref nm o | .aref nm k i o=>.aref nm k i o | .arr nm k o n=>.arr nm k o n | .mp nm=>.mp nm | .it nm=>.it nm | .wit nm=>.arr nm 1 0 0
 | .agg cs=>.agg (AJ cs) | .iface t x=>.iface t x.pv | .fn f cap=>.fn f (AJ cap) | .tup xs=>.tup (AJ xs)
def AJ:List KV->List PV
 | []=>[]
 | x :: xs=>x.pv :: AJ xs
end
mutual
def KV.names:KV->List Nm
 | .un | .sk | .lit _ | .nils | .cv _ | .yld _=>[]
 | .ref nm _=>[nm] | .aref nm _ _ _=>[nm] | .arr nm _ _ _=>[nm] | .mp nm=>[nm] | .it nm=>[nm] | .wit nm=>[nm]
 | .agg cs=>C4 cs | .iface _ x=>x.names | .fn _ cap=>C4 cap | .tup xs=>C4 xs
def C4:List KV->List Nm
 | []=>[]
 | x :: xs=>x.names++C4 xs
end
mutual
def KV.hasY:KV->Bool
 | .yld _=>true
 | .agg cs=>Fl cs | .iface _ x=>x.hasY | .fn _ cap=>Fl cap | .tup xs=>Fl xs
 | .un | .sk | .lit _ | .nils | .cv _ | .ref _ _ | .aref _ _ _ _ | .arr _ _ _ _ | .mp _ | .it _ | .wit _=>false
def Fl:List KV->Bool
 | []=>false
 | x :: xs=>x.hasY||Fl xs
end
mutual
def KV.cl:KV->Option PV
 | .lit b=>some (.bool b) | .nils=>some .nilS | .cv v=>some v
 | .agg cs=>(Dz cs).map .agg | .iface t x=>x.cl.map (.iface t) | .fn f cap=>(Dz cap).map (.fn f)
 | .un | .sk | .yld _ | .ref _ _ | .aref _ _ _ _ | .arr _ _ _ _ | .mp _ | .it _ | .wit _ | .tup _=>none
def Dz:List KV->Option (List PV)
 | []=>some []
 | x :: xs=>match x.cl,Dz xs with
  | some v,some vs=>some (v :: vs)
  | _,_=>none
end
mutual
def KV.off (p:Nm->Bool):KV->KV
 | .ref nm o=>if p nm then .un else .ref nm o
 | .aref nm k i o=>if p nm then .un else .aref nm k i o
 | .arr nm k o n=>if p nm then .un else .arr nm k o n
 | .mp nm=>if p nm then .un else .mp nm
 | .it nm=>if p nm then .un else .it nm
 | .wit nm=>if p nm then .un else .wit nm
 | .agg cs=>.agg (J2 p cs) | .iface t x=>.iface t (x.off p) | .fn f cap=>.fn f (J2 p cap) | .tup xs=>.tup (J2 p xs)
 | .un=>.un | .sk=>.sk | .lit b=>.lit b | .nils=>.nils | .cv v=>.cv v | .yld d=>.yld d
def J2 (p:Nm->Bool):List KV->List KV
 | []=>[]
 | x :: xs=>x.off p :: J2 p xs
end
mutual
def KV.ren (f:Nm->Nm):KV->KV
 | .ref nm o=>.ref (f nm) o | .aref nm k i o=>.aref (f nm) k i o | .arr nm k o n=>.arr (f nm) k o n | .mp nm=>.mp (f nm) | .it nm=>.it (f nm) | .wit nm=>.wit (f nm)
 | .agg cs=>.agg (Fu f cs) | .iface t x=>.iface t (x.ren f) | .fn g cap=>.fn g (Fu f cap) | .tup xs=>.tup (Fu f xs)
 | .un=>.un | .sk=>.sk | .lit b=>.lit b | .nils=>.nils | .cv v=>.cv v | .yld d=>.yld d
def Fu (f:Nm->Nm):List KV->List KV
 | []=>[]
 | x :: xs=>x.ren f :: Fu f xs
end
inductive Aj where
 | cells (ty:Nat) (cs:List KV)
 | whole (ty:Nat) (v:PV)
 | arr (k ty:Nat) (xs:List PV)
 | map (es:List PV)
 | siter (s:List UInt8) (pos:Nat)
 deriving Inhabited
def Aj.ob:Aj->Ob
 | .cells ty cs=>.cells ty (AJ cs)
 | .whole ty v=>.cells ty (CH v)
 | .arr k kt xs=>.arr k kt xs
 | .map es=>.map es
 | .siter s pos=>.siter s pos
def Aj.names:Aj->List Nm
 | .cells _ cs=>C4 cs
 | _=>[]
def Aj.off (p:Nm->Bool):Aj->Aj
 | .cells ty cs=>.cells ty (J2 p cs)
 | o=>o
def Aj.ren (f:Nm->Nm):Aj->Aj
 | .cells ty cs=>.cells ty (Fu f cs)
 | o=>o
abbrev Sp:=List (Nat×KV)
abbrev A6:=List (Nat×List Aj)
def A2:Sp->Nat->KV
 | [],_=>.un
 |(j,v) :: l,i=>match Nat.beq i j with
  | true=>v
  | false=>A2 l i
def CR (i:Nat) (v:KV):Sp->Sp
 | []=>[(i,v)]
 |(j,u) :: l=>match Nat.beq i j with
  | true=>(i,v) :: l
  | false=>match Nat.blt i j with
   | true=>(i,v) :: (j,u) :: l
   | false=>(j,u) :: CR i v l
def JP (i:Nat):Sp->Sp
 | []=>[]
 |(j,u) :: l=>match Nat.beq i j with
  | true=>JP i l
  | false=>(j,u) :: JP i l
def MC (i:Nat) (v:KV) (l:Sp):Sp :=
 match v with
 | .un=>JP i l
 | v=>CR i v l
def DG (f:KV->KV):Sp->Sp
 | []=>[]
 |(j,u) :: l=>match f u with
  | .un=>DG f l
  | u=>(j,u) :: DG f l
def FD (p:Nat->Bool):Sp->Sp
 | []=>[]
 |(j,u) :: l=>match p j with
  | true=>(j,u) :: FD p l
  | false=>FD p l
def Gg:Sp->Nat->Bool
 | [],_=>false
 |(j,_) :: l,i=>match Nat.beq i j with
  | true=>true
  | false=>Gg l i
def Fe:Sp->List Nm
 | []=>[]
 |(_,u) :: l=>u.names++Fe l
def A9:A6->Nat->List Aj
 | [],_=>[]
 |(j,v) :: l,i=>match Nat.beq i j with
  | true=>v
  | false=>A9 l i
def Ep (i:Nat) (v:List Aj):A6->A6
 | []=>[(i,v)]
 |(j,u) :: l=>match Nat.beq i j with
  | true=>(i,v) :: l
  | false=>match Nat.blt i j with
   | true=>(i,v) :: (j,u) :: l
   | false=>(j,u) :: Ep i v l
def EY (f:Aj->Aj):A6->A6
 | []=>[]
 |(j,u) :: l=>(j,u.map f) :: EY f l
def Jv (p:Nat->Bool):A6->A6
 | []=>[]
 |(j,u) :: l=>match p j with
  | true=>(j,u) :: Jv p l
  | false=>Jv p l
def Hp:A6->List Nm
 | []=>[]
 |(_,u) :: l=>u.flatMap Aj.names++Hp l
structure Az where
 nt:Nat
 tmps:Sp
 objs:A6
 keep:List Sp
 deriving Inhabited
def BB (nt:Nat) (l:Sp):List PV:=(List.range nt).map fun i=>(A2 l i).pv
def Cq (nt:Nat) (l:A6):List (List Ob):=(List.range nt).map fun i=>(A9 l i).map Aj.ob
def Az.st (ks:Az):St:={tmps:=BB ks.nt ks.tmps,objs:=Cq ks.nt ks.objs,keep:=ks.keep.flatMap (BB ks.nt)}
def Bk (σ:A6) (nm:Nm):Option Aj:=(A9 σ nm.1)[nm.2]?
def kput (σ:A6) (nm:Nm) (o:Aj):A6 :=
 match Bk σ nm with
 | some _=>Ep nm.1 ((A9 σ nm.1).set nm.2 o) σ
 | none=>σ
def GD (σ:Nm->Option Aj):Nat->List Nm->List Nm
 | 0,l=>l
 | d+1,l=>l++GD σ d (l.flatMap fun nm=>((σ nm).map Aj.names).getD [])
def JQ (σ:Nm->Option Aj) (R:List Nm):Bool:=R.all fun nm=>(((σ nm).map Aj.names).getD []).all fun m=>R.contains m
mutual
def KV.close (g:Nm->Option Ob):KV->PV
 | .ref nm o=>match g nm with
  | some (.cells _ cs)=>FN cs o
  | _=>.undef
 | .aref nm k i o=>match g nm with
  | some (.arr k' kt xs)=>arefO k k' xs i o
  | _=>.undef
 | .arr nm k o n=>match g nm with
  | some (.arr k' kt xs)=>AN k k' xs o n
  | _=>.undef
 | .mp nm=>match g nm with
  | some (.map es)=>.imap es
  | _=>.undef
 | .it _=>.undef
 | .wit nm=>match g nm with
  | some (.arr k' kt xs)=>AN 1 k' xs 0 0
  | _=>.undef
 | .agg cs=>.agg (FG g cs) | .iface t x=>.iface t (x.close g) | .fn f cap=>.fn f (FG g cap) | .tup xs=>.tup (FG g xs)
 | .un=>.undef | .sk=>.tup [] | .lit b=>.bool b | .nils=>.nilS | .cv v=>v | .yld d=>.yld d
def FG (g:Nm->Option Ob):List KV->List PV
 | []=>[]
 | x :: xs=>x.close g :: FG g xs
end
def Aj.close (g:Nm->Option Ob):Aj->Ob
 | .cells ty cs=>.cells ty (FG g cs)
 | o=>o.ob
def C5 (σ:Nm->Option Aj):Nat->Nm->Option Ob
 | 0,nm=>(σ nm).map (Aj.close fun _=>none)
 | d+1,nm=>(σ nm).map (Aj.close (C5 σ d))
mutual
def KV.frz (p:Nm->Bool) (g:Nm->Option Ob):KV->KV
 | .ref nm o=>if p nm then .cv ((KV.ref nm o).close g) else .ref nm o
 | .aref nm k i o=>if p nm then .cv ((KV.aref nm k i o).close g) else .aref nm k i o
 | .arr nm k o n=>if p nm then .cv ((KV.arr nm k o n).close g) else .arr nm k o n
 | .mp nm=>if p nm then .cv ((KV.mp nm).close g) else .mp nm
 | .it nm=>if p nm then .un else .it nm
 | .wit nm=>if p nm then .cv ((KV.wit nm).close g) else .wit nm
 | .agg cs=>.agg (J9 p g cs) | .iface t x=>.iface t (x.frz p g) | .fn f cap=>.fn f (J9 p g cap) | .tup xs=>.tup (J9 p g xs)
 | .un=>.un | .sk=>.sk | .lit b=>.lit b | .nils=>.nils | .cv v=>.cv v | .yld d=>.yld d
def J9 (p:Nm->Bool) (g:Nm->Option Ob):List KV->List KV
 | []=>[]
 | x :: xs=>x.frz p g :: J9 p g xs
end
def Aj.frz (p:Nm->Bool) (g:Nm->Option Ob):Aj->Aj
 | .cells ty cs=>.cells ty (J9 p g cs)
 | o=>o
def Gk:Aj:=.arr 0 0 []
def Mu (p:Nm->Bool) (ks:Az):Az:={ks with tmps:=DG (KV.off p) ks.tmps,objs:=EY (Aj.off p) ks.objs,keep:=ks.keep.map (DG (KV.off p))}
def P2 (σ:Nm->Option Aj) (R:List Nm) (ks:Az):Az :=
 let p:=fun m=>R.contains m
 let g:=C5 σ AU
 {ks with tmps:=DG (KV.frz p g) ks.tmps,objs:=R.foldl (fun objs nm=>kput objs nm Gk) (EY (Aj.frz p g) ks.objs),keep:=ks.keep.map (DG (KV.frz p g))}
mutual
def JF {R:Type}:KV->(KV->R)->R
 | .un,K=>K .un | .sk,K=>K .sk | .lit b,K=>(match b with | true=>K (.lit true) | false=>K (.lit false)) | .nils,K=>K .nils | .cv v,K=>K (.cv v) | .yld d,K=>K (.yld d)
 | .ref nm o,K=>(match nm with | (a,b)=>K (.ref (a,b) o)) | .aref nm k i o,K=>(match nm with | (a,b)=>K (.aref (a,b) k i o)) | .arr nm k o n,K=>(match nm with | (a,b)=>K (.arr (a,b) k o n))
 | .mp nm,K=>(match nm with | (a,b)=>K (.mp (a,b))) | .it nm,K=>(match nm with | (a,b)=>K (.it (a,b))) | .wit nm,K=>(match nm with | (a,b)=>K (.wit (a,b)))
 | .agg cs,K=>K0 cs fun cs=>K (.agg cs) | .iface t x,K=>JF x fun x=>K (.iface t x) | .fn f cap,K=>K0 cap fun cap=>K (.fn f cap) | .tup xs,K=>K0 xs fun xs=>K (.tup xs)
def K0 {R:Type}:List KV->(List KV->R)->R
 | [],K=>K []
 | x :: xs,K=>JF x fun x=>K0 xs fun xs=>K (x :: xs)
end
def TA {R:Type}:Aj->(Aj->R)->R
 | .cells ty cs,K=>K0 cs fun cs=>K (.cells ty cs)
 | .whole ty v,K=>K (.whole ty v) | .arr k kt xs,K=>K (.arr k kt xs) | .map es,K=>K (.map es) | .siter s pos,K=>K (.siter s pos)
def PO {R:Type}:List Aj->(List Aj->R)->R
 | [],K=>K []
 | x :: xs,K=>TA x fun x=>PO xs fun xs=>K (x :: xs)
def N3 {R:Type}:Sp->(Sp->R)->R
 | [],K=>K []
 |(j,x) :: xs,K=>JF x fun x=>N3 xs fun xs=>K ((j,x) :: xs)
def P5 {R:Type}:A6->(A6->R)->R
 | [],K=>K []
 |(j,x) :: xs,K=>PO x fun x=>P5 xs fun xs=>K ((j,x) :: xs)
def P6 {R:Type}:List Sp->(List Sp->R)->R
 | [],K=>K []
 | x :: xs,K=>N3 x fun x=>P6 xs fun xs=>K (x :: xs)
def Da {R:Type} (ks:Az) (K:Az->R):R :=
 match ks with
 | ⟨nt,tmps,objs,keep⟩=>N3 tmps fun a=>P5 objs fun b=>P6 keep fun c=>K {nt,tmps:=a,objs:=b,keep:=c}
def HK (v:PV):KV :=
 match v with
 | .bool b=>.lit b
 | .nilS=>.nils
 | .fn f []=>.fn f []
 | v=>.cv v
def RX.kv (tm:Sp):RX->KV
 | .t i=>A2 tm i
 | .c v=>HK v
def Ew:RX->Bool
 | .t _=>true
 | .c v=>okV v
def Ax.mapX (g:RX->RX):Ax->Ax
 | .mov x=>.mov (g x) | .pick c a b=>.pick (g c) (g a) (g b) | .box x=>.box (g x) | .alloc ty z=>.alloc ty z
 | .build z ps=>.build z (ps.map fun p=>(p.1,p.2.1,g p.2.2)) | .mkSl k ps=>.mkSl k (ps.map g) | .load n ag x=>.load n ag (g x) | .store n x v=>.store n (g x) (g v)
 | .nilck x=>.nilck (g x) | .bin op c cst x y=>.bin op c cst (g x) (g y) | .un op x=>.un op (g x) | .conv k x=>.conv k (g x) | .toBytes x=>.toBytes (g x) | .ofBytes x=>.ofBytes (g x)
 | .ofRune x=>.ofRune (g x) | .strId x=>.strId (g x) | .mkI t x=>.mkI t (g x) | .mkF f cap=>.mkF f (cap.map g) | .mkMap=>.mkMap | .insert c x k v=>.insert c (g x) (g k) (g v)
 | .lookup c z ok x k=>.lookup c z ok (g x) (g k) | .mkS k z l c=>.mkS k z (g l) (g c) | .slice k x lo hi mx=>.slice k (g x) (lo.map g) (hi.map g) (mx.map g) | .strSlice x lo hi=>.strSlice (g x) (lo.map g) (hi.map g)
 | .fieldAddr off x=>.fieldAddr off (g x) | .field off n ag x=>.field off n ag (g x) | .idxAddr k x i=>.idxAddr k (g x) (g i) | .idxAddrA k l x i=>.idxAddrA k l (g x) (g i) | .strIdx x i=>.strIdx (g x) (g i)
 | .extract j x=>.extract j (g x) | .len c x=>.len c (g x) | .append k ty s x=>.append k ty (g s) (g x) | .copy k d s=>.copy k (g d) (g s) | .minmax mx xs=>.minmax mx (xs.map g) | .call f args=>.call (g f) (args.map g)
 | .iter x=>.iter (g x) | .next x=>.next (g x) | .tassert t z ok x=>.tassert t z ok (g x) | .bad=>.bad
def instX (tm:Sp) (x:RX):RX:=.c (((x.kv tm).cl).getD .undef)
structure Aw where
 v:KV
 new:List Aj:=[]
 upd:Option (Nm×Aj):=none
 kill:Option Nm:=none
 frz:List Nm:=[]
 gone:List Nm:=[]
 ups:List (Nm×Aj):=[]
 io:Bool:=false
 slot:Option Nat:=none
def isG:Ax->Bool
 | .build _ _ | .load _ _ _ | .nilck _ | .bin _ _ _ _ _ | .un _ _ | .conv _ _ | .toBytes _ | .ofBytes _ | .ofRune _ | .strId _ | .lookup _ _ _ _ _ | .slice _ _ _ _ _ | .strSlice _ _ _
 | .fieldAddr _ _ | .field _ _ _ _ | .idxAddr _ _ _ | .idxAddrA _ _ _ _ | .strIdx _ _ | .extract _ _ | .len _ _ | .minmax _ _ | .tassert _ _ _ _=>true
 | _=>false
def okOp:Ax->Bool
 | .build z _=>Ao z
 | .lookup _ z _ _ _=>okV z
 | .tassert _ z _ _=>okV z
 | _=>true
def gO {R:Type} (tm:Sp) (op:Ax) (K:Aw->Option R):Option R :=
 if (isG op&&okOp op&&op.xs.all fun x=>((x.kv tm).cl).isSome) then Ac (Ad (op.mapX (instX tm))) fun z=>K {v:=.cv z} else none
def Qu {R:Type} (n:Nat) (x:KV) (K:List KV->Option R):Option R :=
 match x with
 | .agg cs=>if cs.length=n then K cs else none
 | .cv v=>Ae (AF v n) (K ((List.range n).map fun i=>.cv (Ah v i)))
 | .un | .sk | .tup _=>none
 | y=>if n=1 then K [y] else none
def QM {R:Type} (tm:Sp):List KV->List (Nat×Nat×RX)->(List KV->Option R)->Option R
 | z,[],K=>K z
 | z,(off,n,x) :: ps,K=>Qu n (x.kv tm) fun cs=>if off+n<=z.length then QM tm (z.take off++cs++z.drop (off+n)) ps K else none
def Ov {R:Type} (σ:Nm->Option Aj) (k:Nat) (x:KV) (K:List PV->Option R):Option R :=
 match x with
 | .arr nm k' o n=>match σ nm with
  | some (.arr k'' kt xs)=>if k=k'/\k'=k'' then Ae (AO (AG o n) (Ai xs)) (K (AE n (AS o xs))) else none
  | _=>none
 | x=>match x.cl with
  | some v=>Ac (Ia k v) K
  | none=>none
def Cs {R:Type} (d:Nat) (σ:Nm->Option Aj) (tm:Sp) (op:Ax) (K:Aw->Option R):Option R :=
 match op with
 | .mov x=>K {v:=x.kv tm}
 | .pick c a b=>match c.kv tm with
  | .lit true=>K {v:=a.kv tm}
  | .lit false=>K {v:=b.kv tm}
  | .cv v=>Ar v (K {v:=a.kv tm}) (K {v:=b.kv tm})
  | _=>none
 | .box x=>match x.kv tm with
  | .cv v=>Ae (A3 v) (K {v:=.ref (d,0) 0,new:=[.whole 0 v]})
  | .agg cs=>K {v:=.ref (d,0) 0,new:=[.cells 0 cs]}
  | .un | .sk | .tup _=>none
  | y=>K {v:=.ref (d,0) 0,new:=[.cells 0 [y]]}
 | .alloc ty z=>if Ao z then K {v:=.ref (d,0) 0,new:=[.cells ty (z.map HK)]} else none
 | .build z ps =>
  if !ps.isEmpty&&((ps.all fun p=>((p.2.2.kv tm).cl).isSome)&&Nat.ble z.length 6) then gO tm (.build z ps) K
  else if Ao z then QM tm (z.map HK) ps fun cs=>K {v:=.agg cs} else none
 | .mkSl k ps =>
  let xs:=ps.map (RX.kv tm)
  match Dz xs with
  | some vs=>Ae (AY k vs) (K {v:=.arr (d,0) k 0 (Ai vs),new:=[.arr k 0 vs]})
  | none =>
   let R:=GD σ AU (C4 xs)
   if (C4 xs).isEmpty then none
   else if JQ σ R/\Fl xs=false then
    let ys:=FG (C5 σ AU) xs
    Ae (AY k ys) (K {v:=.arr (d,0) k 0 (Ai ys),new:=[.arr k 0 ys],frz:=R})
   else none
 | .load n ag x=>match x.kv tm with
  | .ref nm o=>match σ nm with
   | some (.cells _ cs)=>if ag then (if o+n<=cs.length then K {v:=.agg ((cs.drop o).take n)} else none) else (match cs[o]? with | some c=>K {v:=c} | none=>none)
   | some (.whole _ v)=>Ac (Am v o n ag) fun z=>K {v:=.cv z}
   | _=>none
  | .aref nm k i o=>match σ nm with
   | some (.arr k' kt xs)=>if k=k' then Ac (MT xs i o n ag) fun z=>K {v:=.cv z} else none
   | _=>none
  | _=>gO tm op K
 | .store n x v=>match x.kv tm with
  | .ref nm o=>match σ nm with
   | some (.cells ty cs)=>Qu n (v.kv tm) fun vs=>if o+n<=cs.length then K {v:=.un,upd:=some (nm,.cells ty (cs.take o++vs++cs.drop (o+n)))} else none
   | some (.whole ty w)=>match (v.kv tm).cl with
    | some u=>Ae (QB u w o n) (K {v:=.un,upd:=some (nm,.whole ty (Gm u w o))})
    | none=>none
   | _=>none
  | .aref nm k i o=>match σ nm with
   | some (.arr k' kt xs)=>match (v.kv tm).cl with
    | some u=>if k=k' then Ac (He k xs i o n u) fun ys=>K {v:=.un,upd:=some (nm,.arr k kt ys)} else none
    | none=>none
   | _=>none
  | _=>none
 | .nilck x=>match x.kv tm with
  | .ref nm o=>K {v:=.ref nm o}
  | .aref nm k i o=>K {v:=.aref nm k i o}
  | .fn f cap=>K {v:=.fn f cap}
  | .yld l=>K {v:=.yld l}
  | _=>gO tm op K
 | .bin o c cst x y=>match x.kv tm,y.kv tm with
  | .ref _ _,.cv v=>match o with
   | .eql=>B9 (match c,v with | .ptr,.nilP=>true | _,_=>false) (K {v:=.lit false}) none
   | .neq=>B9 (match c,v with | .ptr,.nilP=>true | _,_=>false) (K {v:=.lit true}) none
   | _=>none
  | _,_=>gO tm op K
 | .un .not x=>match x.kv tm with
  | .lit b=>K {v:=.lit (!b)}
  | _=>gO tm op K
 | .mkI t x=>match (x.kv tm).cl with
  | some v=>K {v:=.cv (.iface t v)}
  | none=>match x.kv tm with
   | .un | .sk | .tup _ | .yld _=>none
   | y=>K {v:=.iface t y}
 | .mkF f cap=>if (cap.map (RX.kv tm)).all fun | .un | .sk | .tup _ | .yld _=>false | _=>true then K {v:=.fn f (cap.map (RX.kv tm))} else none
 | .mkMap=>K {v:=.mp (d,0),new:=[.map []]}
 | .insert c x k v=>match x.kv tm with
  | .mp nm=>match σ nm,(k.kv tm).cl,(v.kv tm).cl with
   | some (.map es),some kk,some vv=>Ac (Hh c es kk vv) fun es'=>K {v:=.un,upd:=some (nm,.map es')}
   | some (.map es),some kk,none =>
    let R:=GD σ AU (C4 [v.kv tm])
    if (C4 [v.kv tm]).isEmpty then none
    else if JQ σ R/\Fl [v.kv tm]=false/\R.contains nm=false then
     Ac (Hh c es kk (Aa (FG (C5 σ AU) [v.kv tm]) 0)) fun es'=>K {v:=.un,upd:=some (nm,.map es'),frz:=R}
    else none
   | _,_,_=>none
  | _=>none
 | .lookup c z ok x k=>match x.kv tm with
  | .mp nm=>match σ nm,(k.kv tm).cl with
   | some (.map es),some kk=>if okV z=true then Ac (QG c z ok es kk) fun v=>K {v:=.cv v} else none
   | _,_=>none
  | _=>gO tm op K
 | .mkS k z l c=>match (l.kv tm).cl,(c.kv tm).cl with
  | some l,some c=>if z.cells.length=k/\okV z=true then Ac (J3 l c) fun n=>K {v:=.arr (d,0) k 0 n,new:=[.arr k 0 (GJ n z)]} else none
  | _,_=>none
 | .slice k x lo hi mx=>match x.kv tm with
  | .arr nm k' o n =>
   if k=k'/\(mx.isNone\/hi.isSome)/\(lo.toList++hi.toList++mx.toList).all fun y=>((y.kv tm).cl).isSome then
    let ev:=fun (y:RX)=>((y.kv tm).cl).getD .undef
    Ac (EX (mx.map ev) n n) fun m=>Ac (EX (hi.map ev) n m) fun h =>
     match lo with
     | none=>K {v:=.arr nm k o h}
     | some lo=>Ac (EX (some (ev lo)) 0 h) fun l=>B9 (BG (Fz h l) (DL 0 l)) (K {v:=.cv (.sl k [] false)}) (K {v:=.arr nm k (AG o l) (subN h l)})
   else none
  | _=>gO tm op K
 | .fieldAddr off x=>match x.kv tm with
  | .ref nm o=>K {v:=.ref nm (o+off)}
  | .aref nm k i o=>K {v:=.aref nm k i (o+off)}
  | _=>gO tm op K
 | .field off n ag x=>match x.kv tm with
  | .agg cs=>if ag then (if off+n<=cs.length then K {v:=.agg ((cs.drop off).take n)} else none) else (match cs[off]? with | some c=>K {v:=c} | none=>none)
  | _=>gO tm op K
 | .idxAddr k x i=>match x.kv tm with
  | .arr nm k' o n=>match (i.kv tm).cl with
   | some i=>if k=k' then Ac (FO i) fun j=>Ae (DL j n) (K {v:=.aref nm k (AG o j) 0}) else none
   | none=>none
  | _=>gO tm op K
 | .extract j x=>match x.kv tm with
  | .tup xs=>match xs[j]? with
   | some v=>K {v}
   | none=>none
  | _=>gO tm op K
 | .len c x=>match x.kv tm with
  | .arr _ _ _ n=>match c with
   | .slice=>K {v:=.cv (nI n)}
   | _=>none
  | .mp nm=>match c,σ nm with
   | .map,some (.map es)=>K {v:=.cv (nI (halfN (Ai es)))}
   | _,_=>none
  | _=>gO tm op K
 | .ofBytes x=>match x.kv tm with
  | .arr nm k o n=>Ov σ 1 (.arr nm k o n) fun ys=>Ac (Ad (.ofBytes (.c (.sl 1 ys false)))) fun z=>K {v:=.cv z}
  | _=>gO tm op K
 | .append k ty s x=>Ov σ k (x.kv tm) fun ys =>
  match s.kv tm with
  | .arr nm k' o n=>match σ nm with
   | some (.arr k'' kt xs)=>if k=k'/\k'=k''/\o=0 then Ae (BG (AO n (Ai xs)) (AO (AG n (Ai ys)) Ff)) (K {v:=.arr nm k 0 (AG n (Ai ys)),upd:=some (nm,.arr k (if kt=ty then ty else 0) (BC (AE n xs) ys)),kill:=some nm}) else none
   | _=>none
  | .nils=>Ae (AO (Ai ys) Ff) (K {v:=.arr (d,0) k 0 (Ai ys),new:=[.arr k ty ys]})
  | .cv v=>Ac (appO k v ys) fun zs=>K {v:=.arr (d,0) k 0 (Ai zs),new:=[.arr k ty zs]}
  | _=>none
 | .copy k x s=>Ov σ k (s.kv tm) fun ys =>
  match x.kv tm with
  | .arr nm k' o n=>match σ nm with
   | some (.arr k'' kt xs)=>if k=k'/\k'=k'' then Ae (AO (AG o n) (Ai xs)) (K {v:=.cv (nI (minN (Ai ys) n)),upd:=some (nm,.arr k kt (BC (BC (AE o xs) (AE n ys)) (AS (AG o (Ai (AE n ys))) xs)))}) else none
   | _=>none
  | .nils=>K {v:=.cv (nI 0)}
  | _=>none
 | .iter x=>match (x.kv tm).cl with
  | some v=>Ac (strO v) fun s=>K {v:=.it (d,0),new:=[.siter s 0]}
  | none=>none
 | .next x=>match x.kv tm with
  | .it nm=>match σ nm with
   | some (.siter s pos)=>B9 (DL pos (lenS s)) (K {v:=.tup [.lit true,.cv (nI pos),.cv (runeP s pos)],upd:=some (nm,.siter s (AG pos (runeN s pos)))}) (K {v:=.tup [.lit false]})
   | _=>none
  | _=>none
 | .tassert t z ok x=>match x.kv tm with
  | .iface u y=>if u=t then K {v:=if ok then .tup [y,.lit true] else y} else if ok=true/\okV z=true then K {v:=.tup [.cv z,.lit false]} else none
  | _=>gO tm op K
 | .call _ _=>none
 | .bad=>none
 | _=>gO tm op K
def kupd (u:Option (Nm×Aj)) (ks:Az):Az :=
 match u with
 | some (nm,ob)=>{ks with objs:=kput ks.objs nm ob}
 | none=>ks
def MN (k:Option Nm) (ks:Az):Az :=
 match k with
 | some nm=>Mu (fun m=>m==nm) ks
 | none=>ks
def OO (σ:Nm->Option Aj) (R:List Nm) (ks:Az):Az :=
 match R with
 | []=>ks
 | nm :: R=>P2 σ (nm :: R) ks
def MO (l:List Nm) (ks:Az):Az :=
 match l with
 | []=>ks
 | nm :: l=>Mu (fun m=>(nm :: l).contains m) ks
def kups:List (Nm×Aj)->A6->A6
 | [],σ=>σ
 |(nm,o) :: l,σ=>kups l (kput σ nm o)
def kset (dst:Option Nat) (v:KV) (new:List Aj) (ks:Az):Az :=
 match dst with
 | some d=>match Nat.blt d ks.nt with
  | true=>{ks with tmps:=MC d v ks.tmps,objs:=match new with | []=>ks.objs | x :: xs=>Ep d (x :: xs) ks.objs}
  | false=>ks
 | none=>ks
def ML (l:List (Nm×Aj)) (ks:Az):Az:={ks with objs:=kups l ks.objs}
def kext (sl:Option Nat) (new:List Aj) (ks:Az):Az :=
 match sl with
 | some r=>match Nat.blt r ks.nt with
  | true=>{ks with objs:=Ep r (A9 ks.objs r++new) ks.objs}
  | false=>ks
 | none=>ks
def OJ (sl:Option Nat) (new:List Aj):List Aj :=
 match sl with
 | some _=>[]
 | none=>new
def GE (ks:Az) (dst:Option Nat) (o:Aw):Az:=kset dst o.v (OJ o.slot o.new) (kext o.slot o.new<|ML o.ups (MO o.gone (OO (Bk ks.objs) o.frz (MN o.kill (kupd o.upd ks)))))
mutual
def Bo:KV->KV->Bool
 | .un,x=>match x with | .un=>true | _=>false
 | .sk,x=>match x with | .sk=>true | _=>false
 | .yld _,x=>match x with | .yld _=>true | _=>false
 | .ref nm o,x=>match x with | .ref nm' o'=>nm==nm'&&o==o' | _=>false
 | .aref _ _ _ _,_=>false
 | .arr nm k o _,x=>match x with | .arr nm' k' o' _=>nm==nm'&&k==k'&&Nat.beq o o' | _=>false
 | .mp nm,x=>match x with | .mp nm'=>nm==nm' | _=>false
 | .it nm,x=>match x with | .it nm'=>nm==nm' | _=>false
 | .wit nm,x=>match x with | .wit nm'=>nm==nm' | _=>false
 | .fn f cap,x=>match x with | .fn f' cap'=>f==f'&&DZ cap cap' | _=>false
 | .tup xs,x=>match x with | .tup ys=>DZ xs ys | _=>false
 | .lit _,x=>x.cl.isSome
 | .nils,x=>x.cl.isSome
 | .cv _,x=>x.cl.isSome
 | .agg cs,x=>if (Dz cs).isSome then x.cl.isSome else match x with | .agg cs'=>DZ cs cs' | _=>false
 | .iface t y,x=>if y.cl.isSome then x.cl.isSome else match x with | .iface t' y'=>t==t'&&Bo y y' | _=>false
def DZ:List KV->List KV->Bool
 | [],l=>match l with | []=>true | _=>false
 | x :: xs,l=>match l with | y :: ys=>Bo x y&&DZ xs ys | _=>false
end
mutual
def B5:KV->KV->List PV
 | .un,_=>[] | .sk,_=>[] | .yld _,x=>(match x with | .yld d=>[nI d] | _=>[]) | .ref _ _,_=>[] | .aref _ _ _ _,_=>[] | .mp _,_=>[] | .it _,_=>[] | .wit _,_=>[]
 | .arr _ _ _ _,x=>match x with | .arr _ _ _ n=>[nI n] | _=>[]
 | .fn _ cap,x=>match x with | .fn _ cap'=>F7 cap cap' | _=>[]
 | .tup xs,x=>match x with | .tup ys=>F7 xs ys | _=>[]
 | .lit _,x=>[x.cl.getD .undef]
 | .nils,x=>[x.cl.getD .undef]
 | .cv _,x=>[x.cl.getD .undef]
 | .agg cs,x=>if (Dz cs).isSome then [x.cl.getD .undef] else match x with | .agg cs'=>F7 cs cs' | _=>[]
 | .iface _ y,x=>if y.cl.isSome then [x.cl.getD .undef] else match x with | .iface _ y'=>B5 y y' | _=>[]
def F7:List KV->List KV->List PV
 | [],_=>[]
 | x :: xs,l=>match l with | y :: ys=>B5 x y++F7 xs ys | _=>[]
end
mutual
def fill:KV->List PV->Nat->KV×Nat
 | .un,_,i=>(.un,i) | .sk,_,i=>(.sk,i) | .yld _,vs,i=>(.yld (An (Aa vs i)),i+1) | .ref nm o,_,i=>(.ref nm o,i) | .aref nm k j o,_,i=>(.aref nm k j o,i) | .mp nm,_,i=>(.mp nm,i) | .it nm,_,i=>(.it nm,i) | .wit nm,_,i=>(.wit nm,i)
 | .arr nm k o _,vs,i=>(.arr nm k o (An (Aa vs i)),i+1)
 | .fn f cap,vs,i=>let p:=CI cap vs i;(.fn f p.1,p.2)
 | .tup xs,vs,i=>let p:=CI xs vs i;(.tup p.1,p.2)
 | .lit _,vs,i=>(.cv (Aa vs i),i+1)
 | .nils,vs,i=>(.cv (Aa vs i),i+1)
 | .cv _,vs,i=>(.cv (Aa vs i),i+1)
 | .agg cs,vs,i=>if (Dz cs).isSome then (.cv (Aa vs i),i+1) else let p:=CI cs vs i;(.agg p.1,p.2)
 | .iface t y,vs,i=>if y.cl.isSome then (.cv (Aa vs i),i+1) else let p:=fill y vs i;(.iface t p.1,p.2)
def CI:List KV->List PV->Nat->List KV×Nat
 | [],_,i=>([],i)
 | x :: xs,vs,i=>let p:=fill x vs i;let q:=CI xs vs p.2;(p.1 :: q.1,q.2)
end
def Db:Aj->Aj->Bool
 | .cells ty cs,x=>match x with | .cells ty' cs'=>ty==ty'&&DZ cs cs' | _=>false
 | .whole ty _,x=>match x with | .whole ty' _=>ty==ty' | _=>false
 | .arr k t _,x=>match x with | .arr k' t' _=>k==k'&&t==t' | _=>false
 | .map _,x=>match x with | .map _=>true | _=>false
 | .siter _ _,x=>match x with | .siter _ _=>true | _=>false
def GX:Aj->Aj->List PV
 | .cells _ cs,x=>match x with | .cells _ cs'=>F7 cs cs' | _=>[]
 | .whole _ _,x=>match x with | .whole _ v=>[v] | _=>[]
 | .arr k _ _,x=>match x with | .arr _ _ xs=>[.sl k xs false] | _=>[]
 | .map _,x=>match x with | .map es=>[.imap es] | _=>[]
 | .siter _ _,x=>match x with | .siter s pos=>[.str s,nI pos] | _=>[]
def Ch:Aj->List PV->Nat->Aj×Nat
 | .cells ty cs,vs,i=>let p:=CI cs vs i;(.cells ty p.1,p.2)
 | .whole ty _,vs,i=>(.whole ty (Aa vs i),i+1)
 | .arr k t _,vs,i=>(.arr k t (Av (Aa vs i)),i+1)
 | .map _,vs,i=>(.map (Lg (Aa vs i)),i+1)
 | .siter _ _,vs,i=>(.siter (strP (Aa vs i)) (An (Aa vs (i+1))),i+2)
def El:List Aj->List Aj->Bool
 | [],[]=>true
 | x :: xs,y :: ys=>Db x y&&El xs ys
 | _,_=>false
def Io:List Aj->List Aj->List PV
 | x :: xs,y :: ys=>GX x y++Io xs ys
 | _,_=>[]
def CF:List Aj->List PV->Nat->List Aj×Nat
 | [],_,i=>([],i)
 | x :: xs,vs,i=>let p:=Ch x vs i;let q:=CF xs vs p.2;(p.1 :: q.1,q.2)
def IN:Sp->Sp->Bool
 | [],[]=>true
 |(i,x) :: xs,(j,y) :: ys=>Nat.beq i j&&(Bo x y&&IN xs ys)
 | _,_=>false
def GW:Sp->Sp->List PV
 |(_,x) :: xs,(_,y) :: ys=>B5 x y++GW xs ys
 | _,_=>[]
def EW:Sp->List PV->Nat->Sp×Nat
 | [],_,i=>([],i)
 |(j,x) :: xs,vs,i=>let p:=fill x vs i;let q:=EW xs vs p.2;((j,p.1) :: q.1,q.2)
def JV:A6->A6->Bool
 | [],[]=>true
 |(i,x) :: xs,(j,y) :: ys=>Nat.beq i j&&(El x y&&JV xs ys)
 | _,_=>false
def LT:A6->A6->List PV
 |(_,x) :: xs,(_,y) :: ys=>Io x y++LT xs ys
 | _,_=>[]
def GH:A6->List PV->Nat->A6×Nat
 | [],_,i=>([],i)
 |(j,x) :: xs,vs,i=>let p:=CF x vs i;let q:=GH xs vs p.2;((j,p.1) :: q.1,q.2)
def JW:List Sp->List Sp->Bool
 | [],[]=>true
 | x :: xs,y :: ys=>IN x y&&JW xs ys
 | _,_=>false
def PJ:List Sp->List Sp->List PV
 | x :: xs,y :: ys=>GW x y++PJ xs ys
 | _,_=>[]
def K3:List Sp->List PV->Nat->List Sp×Nat
 | [],_,i=>([],i)
 | x :: xs,vs,i=>let p:=EW x vs i;let q:=K3 xs vs p.2;(p.1 :: q.1,q.2)
def MR (p x:Az):Bool:=Nat.beq p.nt x.nt&&(IN p.tmps x.tmps&&(JV p.objs x.objs&&JW p.keep x.keep))
def EO (p x:Az):List PV:=GW p.tmps x.tmps++LT p.objs x.objs++PJ p.keep x.keep
def Cp (p:Az) (vs:List PV):Az :=
 let a:=EW p.tmps vs 0
 let b:=GH p.objs vs a.2
 let c:=K3 p.keep vs b.2
 {nt:=p.nt,tmps:=a.1,objs:=b.1,keep:=c.1}
mutual
def Eb:KV->KV->Bool
 | .un,x=>match x with | .un=>true | _=>false
 | .sk,x=>match x with | .sk=>true | _=>false
 | .yld _,x=>match x with | .yld _=>true | _=>false
 | .ref nm o,x=>match x with | .ref nm' o'=>nm==nm'&&o==o' | _=>false
 | .aref _ _ _ _,_=>false
 | .arr nm k _ _,x=>match x with | .arr nm' k' _ _=>nm==nm'&&k==k' | _=>false
 | .mp nm,x=>match x with | .mp nm'=>nm==nm' | _=>false
 | .it nm,x=>match x with | .it nm'=>nm==nm' | _=>false
 | .wit nm,x=>match x with | .wit nm'=>nm==nm' | _=>false
 | .fn f cap,x=>match x with | .fn f' cap'=>f==f'&&IP cap cap' | _=>false
 | .tup xs,x=>match x with | .tup ys=>IP xs ys | _=>false
 | .lit _,x=>x.cl.isSome
 | .nils,x=>x.cl.isSome
 | .cv _,x=>x.cl.isSome
 | .agg cs,x=>if (Dz cs).isSome then x.cl.isSome else match x with | .agg cs'=>IP cs cs' | _=>false
 | .iface t y,x=>if y.cl.isSome then x.cl.isSome else match x with | .iface t' y'=>t==t'&&Eb y y' | _=>false
def IP:List KV->List KV->Bool
 | [],l=>match l with | []=>true | _=>false
 | x :: xs,l=>match l with | y :: ys=>Eb x y&&IP xs ys | _=>false
end
mutual
def Hw:KV->KV->List Bool
 | .arr _ _ o _,x=>match x with | .arr _ _ o' _=>[eqOff o o'] | _=>[]
 | .fn _ cap,x=>match x with | .fn _ cap'=>IH cap cap' | _=>[]
 | .tup xs,x=>match x with | .tup ys=>IH xs ys | _=>[]
 | .agg cs,x=>match x with | .agg cs'=>IH cs cs' | _=>[]
 | .iface _ y,x=>match x with | .iface _ y'=>Hw y y' | _=>[]
 | .un,_ | .sk,_ | .yld _,_ | .ref _ _,_ | .aref _ _ _ _,_ | .mp _,_ | .it _,_ | .wit _,_ | .lit _,_ | .nils,_ | .cv _,_=>[]
def IH:List KV->List KV->List Bool
 | [],_=>[]
 | x :: xs,l=>match l with | y :: ys=>Hw x y++IH xs ys | _=>[]
end
def Ui:Aj->Aj->Bool
 | .cells ty cs,x=>match x with | .cells ty' cs'=>ty==ty'&&IP cs cs' | _=>false
 | .whole ty v,x=>Db (.whole ty v) x | .arr k t xs,x=>Db (.arr k t xs) x | .map es,x=>Db (.map es) x | .siter s p,x=>Db (.siter s p) x
def T4:Aj->Aj->List Bool
 | .cells _ cs,x=>match x with | .cells _ cs'=>IH cs cs' | _=>[]
 | _,_=>[]
def Md:List Aj->List Aj->Bool
 | [],[]=>true
 | x :: xs,y :: ys=>Ui x y&&Md xs ys
 | _,_=>false
def L6:List Aj->List Aj->List Bool
 | x :: xs,y :: ys=>T4 x y++L6 xs ys
 | _,_=>[]
def K2:Sp->Sp->Bool
 | [],[]=>true
 |(i,x) :: xs,(j,y) :: ys=>Nat.beq i j&&(Eb x y&&K2 xs ys)
 | _,_=>false
def KO:Sp->Sp->List Bool
 |(_,x) :: xs,(_,y) :: ys=>Hw x y++KO xs ys
 | _,_=>[]
def Mw:A6->A6->Bool
 | [],[]=>true
 |(i,x) :: xs,(j,y) :: ys=>Nat.beq i j&&(Md x y&&Mw xs ys)
 | _,_=>false
def Mm:A6->A6->List Bool
 |(_,x) :: xs,(_,y) :: ys=>L6 x y++Mm xs ys
 | _,_=>[]
def Mx:List Sp->List Sp->Bool
 | [],[]=>true
 | x :: xs,y :: ys=>K2 x y&&Mx xs ys
 | _,_=>false
def Mn:List Sp->List Sp->List Bool
 | x :: xs,y :: ys=>KO x y++Mn xs ys
 | _,_=>[]
def K1 (p x:Az):Bool:=Nat.beq p.nt x.nt&&(K2 p.tmps x.tmps&&(Mw p.objs x.objs&&Mx p.keep x.keep))
def Ol (p x:Az):List Bool:=KO p.tmps x.tmps++(Mm p.objs x.objs++Mn p.keep x.keep)
def chks {β:Type}:List Bool->Option β->Option β
 | [],a=>a
 | b :: l,a=>Ae b (chks l a)
mutual
def Cb:KV->PV->Option (List PV)
 | .un,x=>match x with | .undef=>some [] | _=>none
 | .sk,x=>match x with | .tup []=>some [] | _=>none
 | .yld _,x=>match x with | .yld d=>some [nI d] | _=>none
 | .aref _ _ _ _,_=>none
 | .wit nm,x=>match x with | .arr nm' 1 0 0=>Ae (nm==nm') (some []) | _=>none
 | .ref nm o,x=>match x with | .ref nm' o'=>Ae (nm==nm'&&o==o') (some []) | _=>none
 | .mp nm,x=>match x with | .mp nm'=>Ae (nm==nm') (some []) | _=>none
 | .it nm,x=>match x with | .it nm'=>Ae (nm==nm') (some []) | _=>none
 | .arr nm k o _,x=>match x with | .arr nm' k' o' n=>Ae (nm==nm'&&k==k'&&Nat.beq o o') (some [nI n]) | _=>none
 | .lit _,x=>Ae (okV x) (some [x])
 | .nils,x=>Ae (okV x) (some [x])
 | .cv _,x=>Ae (okV x) (some [x])
 | .fn f cap,x=>match x with | .fn f' cap'=>if f=f' then HA cap cap' else none | _=>none
 | .tup xs,x=>match x with | .tup ys=>HA xs ys | _=>none
 | .agg cs,x=>if (Dz cs).isSome then Ae (okV x) (some [x]) else match x with | .agg cs'=>HA cs cs' | _=>none
 | .iface t y,x=>if y.cl.isSome then Ae (okV x) (some [x]) else match x with | .iface t' y'=>if t=t' then Cb y y' else none | _=>none
def HA:List KV->List PV->Option (List PV)
 | [],l=>match l with | []=>some [] | _=>none
 | x :: xs,l=>match l with
  | y :: ys=>match Cb x y,HA xs ys with
   | some a,some b=>some (a++b)
   | _,_=>none
  | _=>none
end
def EV:Aj->Ob->Option (List PV)
 | .cells ty cs,x=>match x with | .cells ty' cs'=>if ty=ty' then HA cs cs' else none | _=>none
 | .whole ty _,x=>match x with | .cells ty' cs'=>Ae (ty==ty'&&Ao cs') (some [.agg cs']) | _=>none
 | .arr k t _,x=>match x with | .arr k' t' xs=>Ae (k==k'&&t==t'&&Ao xs) (some [.sl k xs false]) | _=>none
 | .map _,x=>match x with | .map es=>Ae (Ao es) (some [.imap es]) | _=>none
 | .siter _ _,x=>match x with | .siter s pos=>some [.str s,nI pos] | _=>none
def Iv:List Aj->List Ob->Option (List PV)
 | [],l=>match l with | []=>some [] | _=>none
 | x :: xs,l=>match l with
  | y :: ys=>match EV x y,Iv xs ys with
   | some a,some b=>some (a++b)
   | _,_=>none
  | _=>none
structure BK where
 args:List KV
 ins:List Aj
 res:KV
 outs:List Aj
 news:List Aj
 gone:List Nat
 deriving Inhabited
def QP (P:BK) (out:AK):Option (List PV) :=
 if out.gone=P.gone.map (fun j=>(0,j)) then
  match Cb P.res out.v,Iv P.outs (out.ups.map (·.2)),Iv P.news out.new with
  | some a,some b,some c=>some (a++(b++c))
  | _,_,_=>none
 else none
def Em (k:Nat):List Nm:=(List.range k).map fun j=>(0,j)
inductive Bq where
 | cl
 | own (k:Nat)
 | opt (k:Nat)
 | tup (l:List Bq)
 | agg (l:List Bq)
 deriving Inhabited
mutual
def Ct (obs:List Ob):Bq->Nat->PV->Option (PV×Nat)
 | .cl,j,v=>Ae (okV v) (some (v,j))
 | .own k,j,v=>match v,obs[j]? with
  | .arr nm k' o n,some (.arr k'' kt xs)=>Ae (nm==(0,j)&&k==k'&&k==k''&&o==0&&n==xs.length&&kt==0&&Ao xs) (some (.sl k xs false,j+1))
  | _,_=>none
 | .opt k,j,v=>match v,obs[j]? with
  | .nilS,_=>some (.nilS,j)
  | .arr nm k' o n,some (.arr k'' kt xs)=>Ae (nm==(0,j)&&k==k'&&k==k''&&o==0&&n==xs.length&&kt==0&&Ao xs) (some (.sl k xs false,j+1))
  | _,_=>none
 | .tup l,j,v=>match v with
  | .tup vs=>(FF obs l j vs).map fun p=>(.tup p.1,p.2)
  | _=>none
 | .agg l,j,v=>match v with
  | .agg vs=>(FF obs l j vs).map fun p=>(.agg p.1,p.2)
  | _=>none
def FF (obs:List Ob):List Bq->Nat->List PV->Option (List PV×Nat)
 | [],j,[]=>some ([],j)
 | s :: l,j,v :: vs=>match Ct obs s j v with
  | some (u,j)=>(FF obs l j vs).map fun p=>(u :: p.1,p.2)
  | none=>none
 | _,_,_=>none
end
def DW (sh:Bq) (v:PV) (obs:List Ob):Option PV :=
 match Ct obs sh 0 v with
 | some (r,j)=>Ae (j==obs.length) (some r)
 | none=>none
mutual
def Dw (d:Nat):Bq->Nat->PV->KV×List Aj×Nat
 | .cl,j,r=>(.cv r,[],j)
 | .own k,j,r=>(.arr (d,j) k 0 (Ai (Av r)),[.arr k 0 (Av r)],j+1)
 | .opt _,j,r=>(.cv r,[],j)
 | .tup l,j,r=>let p:=Ic d l j r 0;(.tup p.1,p.2)
 | .agg l,j,r=>let p:=Ic d l j r 0;(.agg p.1,p.2)
def Ic (d:Nat):List Bq->Nat->PV->Nat->List KV×List Aj×Nat
 | [],j,_,_=>([],[],j)
 | s :: l,j,r,i =>
  let p:=Dw d s j (HG r i)
  let q:=Ic d l p.2.2 r (i+1)
  (p.1 :: q.1,p.2.1++q.2.1,q.2.2)
end
mutual
def Iu {R:Type}:Bq->PV->(Bq->Option R)->Option R
 | .cl,_,K=>K .cl
 | .own k,_,K=>K (.own k)
 | .opt k,u,K=>nilB u (K .cl) (K (.own k))
 | .tup l,u,K=>NB l u 0 fun l=>K (.tup l)
 | .agg l,u,K=>NB l u 0 fun l=>K (.agg l)
def NB {R:Type}:List Bq->PV->Nat->(List Bq->Option R)->Option R
 | [],_,_,K=>K []
 | s :: l,u,i,K=>Iu s (HG u i) fun s=>NB l u (i+1) fun l=>K (s :: l)
end
mutual
def Bq.fix:Bq->Bool
 | .opt _=>false
 | .cl | .own _=>true
 | .tup l | .agg l=>fixL l
def fixL:List Bq->Bool
 | []=>true
 | s :: l=>s.fix&&fixL l
end
structure KB where
 sp:FuncId->(Nm->Option Ob)->List PV->Option AK
 L:Ha
 I:FuncId->List Ob->List PV->Option (St×PV)
 isIo:FuncId->Bool
 leans:FuncId->Bool
structure Dx where
 b:KB
 spF:FuncId->Bool
 asT:FuncId->TypeId->Option (TypeId×Nat)
 rsh:FuncId->Bq×Bool
 dsh:Nat->Bq
 ioF:FuncId->Option (List KV->List Aj->BK)
 spK:FuncId->Option ((Nm->Option Aj)->List KV->Option (Bool×Aw)):=fun _=>none
 flatF:FuncId->Bool:=fun _=>false
def spO (sp:FuncId->(Nm->Option Ob)->List PV->Option AK) (g:FuncId) (vs:List PV):Option (Option (PV×List Ob)) :=
 match sp g (fun _=>none) vs with
 | some out=>Ae (out.upd.isNone&&out.kill.isNone&&out.frz.isEmpty&&out.gone.isEmpty&&out.ups.isEmpty&&!out.io&&out.slot.isNone) (some (some (out.v,out.new)))
 | none=>some none
noncomputable def Al (B:KB) (sh:Bq) (f:PV) (args:List PV):Option PV :=
 match f with
 | .fn g cap=>match spO B.sp (AW g) (Bv g args cap) with
  | some (some (v,obs))=>DW sh v obs
  | some none=>if B.isIo (AW g) then none else match B.L Unit AD 0 (AW g) (Bv g args cap) () with
   | some (r,obs,_)=>DW sh r obs
   | none=>none
  | none=>none
 | _=>none
noncomputable def Bs (B:KB) (sh:Bq) (fr:Bool) (g:FuncId) (args:List PV):Option PV :=
 if BF args then none
 else match B.L Unit AD 0 g args () with
  | some (r,obs,_)=>Ae ((r.free&&obs.all Ob.free&&!B.leans g)==fr) (DW sh r obs)
  | none=>none
noncomputable def CP (B:KB) {E:Type} (h:Ay E) (dep:Nat) (f:PV) (e:E):Option E :=
 match f with
 | .fn g cap=>match B.L E h (dep+1) (AW g) (Bv g [.yld dep] cap) e with
  | some (_,_,e)=>some e
  | none=>none
 | _=>none
noncomputable def Bx (B:KB) (P:BK) (g:FuncId) (vs:List PV):Option (List PV) :=
 match B.I g ((CF P.ins vs (CI P.args vs 0).2).1.map Aj.ob) (AJ (CI P.args vs 0).1) with
 | some (st,v)=>match GM none 1 0 (Em P.ins.length) st v with
  | some out=>QP P out
  | none=>none
 | none=>none
def Ca (R:List Nm) (d i0:Nat) (m:Nm):Nm:=if m.1=0 then R.getD m.2 (0,0) else (d,i0+m.2)
def MP (P:BK) (R:List Nm) (sl:Option Nat) (d i0:Nat) (rs:List PV):Aw :=
 let v:=fill P.res rs 0
 let o:=CF P.outs rs v.2
 let w:=CF P.news rs o.2
 {v:=v.1.ren (Ca R d i0),new:=w.1.map (Aj.ren (Ca R d i0)),gone:=P.gone.map fun j=>R.getD j (0,0),ups:=R.zip (o.1.map (Aj.ren (Ca R d i0))),io:=true,slot:=sl}
noncomputable def NZ {R:Type} (cfg:Dx) (Pf:List KV->List Aj->BK) (g:FuncId) (d:Nat) (σ:Nm->Option Aj) (xs:List KV) (K:Aw->Option R):Option R :=
 let S:=Dr (GD σ AU (C4 xs))
 match S.mapM σ with
 | none=>none
 | some ins =>
  let f:Nm->Nm:=fun m=>(0,S.idxOf m)
  let P:=Pf xs ins
  if JQ σ S=true/\Fl xs=false/\cfg.spF g=false/\(DZ P.args (Fu f xs)&&El P.ins (ins.map (Aj.ren f)))=true then
   Ac (Bx cfg.b P g (F7 P.args (Fu f xs)++Io P.ins (ins.map (Aj.ren f)))) fun rs=>match S with
    | []=>K (MP P S none d 0 rs)
    | r :: _=>match Kz σ r.1 with
     | some i0=>K (MP P S (some r.1) r.1 i0 rs)
     | none=>none
  else none
def HZ (f:FuncId) (vs cap:List KV):List KV:=match Nat.blt f CQ with
 | true=>vs++cap
 | false=>cap.take (E9 f)++(vs++cap.drop (E9 f))
noncomputable def kcall {E R:Type} (cfg:Dx) (h:Ay E) (d:Nat) (σ:Nm->Option Aj) (tm:Sp) (f:RX) (args:List RX) (e:E) (K:Aw->E->Option R):Option R :=
 match f.kv tm with
 | .yld l =>
  let xs:=args.map (RX.kv tm)
  match Dz xs with
  | some vs=>Ac (h l vs e) fun p=>K {v:=.cv (.bool p.1)} p.2
  | none =>
   let R:=GD σ AU (C4 xs)
   if (C4 xs).isEmpty then none
   else if JQ σ R then
    let ys:=FG (C5 σ AU) xs
    Ae (noYL ys) (Ac (h l ys e) fun p=>K {v:=.cv (.bool p.1),frz:=R} p.2)
   else none
 | .fn f caps =>
  let g:=AW f
  let xs:=HZ f (args.map (RX.kv tm)) caps
  match cfg.spK g with
  | some s=>(match s σ xs with
   | some p=>Ae p.1 (K p.2 e)
   | none=>none)
  | none =>
  match cfg.ioF g with
  | some P=>NZ cfg P g d σ xs fun out=>K out e
  | none =>
  match xs with
  | [ex,.iface p (.ref nm 0)]=>match cfg.asT g p,ex.cl,σ nm with
   | some (t,n),some err,some (.cells ty cs)=>Ae (Fz cs.length n) (asP t err (fun x=>Ae (AF x n) (K {v:=.lit true,upd:=some (nm,.whole ty x)} e)) (K {v:=.lit false} e))
   | _,_,_=>none
  | _=>match Dz xs with
   | some vs=>Ac (Al cfg.b (cfg.rsh g).1 (.fn g []) vs) fun r=>Iu (cfg.rsh g).1 r fun sh=>let p:=Dw d sh 0 r;K {v:=p.1,new:=p.2.1} e
   | none =>
    let R:=GD σ AU (C4 xs)
    if (C4 xs).isEmpty\/cfg.spF g=true then none
    else if JQ σ R then
     Ac (Bs cfg.b (cfg.rsh g).1 (cfg.rsh g).2 g (FG (C5 σ AU) xs)) fun r=>Iu (cfg.rsh g).1 r fun sh=>let p:=Dw d sh 0 r;K {v:=p.1,new:=p.2.1,frz:=if (cfg.rsh g).2 then [] else R} e
    else none
 | .cv v=>match Dz (args.map (RX.kv tm)) with
  | some vs=>Ac (Al cfg.b (cfg.dsh d) v vs) fun r=>Iu (cfg.dsh d) r fun sh=>let p:=Dw d sh 0 r;K {v:=p.1,new:=p.2.1} e
  | none=>none
 | _=>none
def Ue (o:AV) (ks:Az):Bool :=
 if Lb o.op then
  match o.dst with
  | some d=>Nat.blt d ks.nt&&(A9 ks.objs d).isEmpty
  | none=>match o.op with
   | .call _ _=>true
   | _=>false
 else true
def ES:A6->Bool
 | []=>true
 |(_,u) :: l=>(u.all fun o=>match o with | .cells _ cs=>!Fl cs | _=>true)&&ES l
def MU (cfg:Dx) (op:Ax) (tm:Sp):Bool :=
 match op with
 | .mkSl _ _=>false
 | .insert _ _ _ _=>false
 | .call f _=>match f.kv tm with
  | .fn g _=>(cfg.ioF (AW g)).isNone
  | _=>true
 | _=>true
noncomputable def Mt {E R:Type} (cfg:Dx) (h:Ay E) (o:AV) (ks:Az) (e:E) (K:Aw->E->Option R):Option R :=
 if Ue o ks/\o.op.xs.all Ew/\(ES ks.objs||MU cfg o.op ks.tmps)=true then
  match o.op with
  | .call f args=>kcall cfg h (o.dst.getD 0) (Bk ks.objs) ks.tmps f args e fun out e=>if ((!out.io||o.dst.isSome||out.new.isEmpty||out.slot.isSome)&&(out.frz.isEmpty||ES ks.objs))=true then K out e else none
  | op=>Cs (o.dst.getD 0) (Bk ks.objs) ks.tmps op fun out=>if (out.frz.isEmpty||ES ks.objs)=true then K out e else none
 else none
def Qm {R:Type} (ops:List AV) (o:AV) (ks:Az) (K:Bool->Az->Option R):Option R :=
 match o.guard with
 | none=>K true ks
 | some (j,want) =>
  match ops[j]? with
  | some p=>match p.dst with
   | some d=>match A2 ks.tmps d with
    | .lit b=>K (b==want) ks
    | .sk=>K false ks
    | .cv v=>Ar v (K (true==want) {ks with tmps:=CR d (.lit true) ks.tmps}) (K (false==want) {ks with tmps:=CR d (.lit false) ks.tmps})
    | _=>none
   | none=>none
  | none=>none
noncomputable def kstep {E R:Type} (cfg:Dx) (h:Ay E) (ops:List AV) (o:AV) (ks:Az) (e:E) (K:Az->E->Option R):Option R :=
 Qm ops o ks fun b ks=>match b with
  | true=>Mt cfg h o ks e fun out e=>Da (GE ks o.dst out) fun ks=>K ks e
  | false=>Da (GE ks o.dst {v:=.sk}) fun ks=>K ks e
noncomputable def MM {E R:Type} (cfg:Dx) (h:Ay E) (ops:List AV):List AV->Az->E->(Az->E->Option R)->Option R
 | [],ks,e,K=>K ks e
 | o :: rest,ks,e,K=>kstep cfg h ops o ks e fun ks e=>MM cfg h ops rest ks e K
def On (o:Aw):Bool:=o.upd.isNone&&o.kill.isNone&&o.frz.isEmpty&&o.gone.isEmpty&&o.ups.isEmpty&&o.slot.isNone
def T8 (o:Aw):Bool:=o.gone.isEmpty&&o.ups.isEmpty&&o.slot.isNone&&!o.io
def SB (o:Aw):List Nm :=
 match o.upd with
 | some (nm,_)=>[nm]
 | none=>[]
def spAt (ks:Az) (s:Nat):KV :=
 match Nat.blt s ks.nt with
 | true=>A2 ks.tmps s
 | false=>.un
def Ua (op:Ax) (tm:Sp):Bool :=
 match op with
 | .call f args=>match f.kv tm with
  | .yld _=>(C4 (args.map (RX.kv tm))).isEmpty
  | _=>false
 | _=>false
def Ub (σ:Nm->Option Aj) (l:List Nm):List Nm:=l.flatMap fun nm=>((σ nm).map Aj.names).getD []
def QK (o:AV) (ks:Az) (out:Aw):List Nm :=
 if HC o.op&&On out then [] else GD (Bk ks.objs) (Ji o.op (On out)) (C4 (o.op.xs.map (RX.kv ks.tmps))++out.frz)
def kinfo (ops:List AV) (i:Nat) (o:AV) (ks:Az) (out:Aw):CK :=
 let vs:=o.op.xs.map (RX.kv ks.tmps)
 {i,dst:=o.dst,reads:=PU o.op.xs++FX ops o,rn:=QK o ks out,rv:=if Fm o.op then [] else Ub (Bk ks.objs) (QK o ks out),
  cls:=if ET o.op&&Fl vs then (if Ua o.op ks.tmps then .calls else .other) else if On out then .quiet else if T8 out then .turns else .other,
  on:=out.v.names++out.new.flatMap Aj.names,tch:=SB out++(out.frz++out.kill.toList),frz:=!(out.frz++out.kill.toList).isEmpty,
  vn:=(PU o.op.xs++FX ops o).flatMap fun s=>(spAt ks s).names}
noncomputable def T9 {E R:Type} (cfg:Dx) (h:Ay E) (ops:List AV) (i:Nat) (o:AV) (ks:Az) (e:E) (K:Az->E->CK->Option R):Option R :=
 Qm ops o ks fun b ks=>match b with
  | true=>Mt cfg h o ks e fun out e=>Da (GE ks o.dst out) fun k1=>K k1 e (kinfo ops i o ks out)
  | false=>Da (GE ks o.dst {v:=.sk}) fun k1=>K k1 e {i,cls:=.quiet,dst:=o.dst,reads:=FX ops o,rn:=[],vn:=(FX ops o).flatMap fun s=>(spAt ks s).names}
noncomputable def Qn {E R:Type} (cfg:Dx) (h:Ay E) (ops:List AV):List (Nat×Nat)->List CK->Az->E->(Az->E->Option R)->Option R
 | [],_,ks,e,K=>K ks e
 |(i,bef) :: rest,infos,ks,e,K=>match ops[i]? with
  | some o=>T9 cfg h ops i o ks e fun ks e info=>if (infos.all fun j=>bef.testBit j.i||IL j info) then Qn cfg h ops rest (info :: infos) ks e K else none
  | none=>none
def DR (ds:List Nat) (ks:Az):Az :=
 if ds.all fun d=>(A9 ks.objs d).isEmpty then ks
 else
  let ks:=Mu (fun m=>ds.contains m.1) ks
  {ks with objs:=Jv (fun i=>!ds.contains i) ks.objs}
def JC (ks:Az) (t:Nat):Bool:=Nat.blt t ks.nt&&(A9 ks.objs t).isEmpty
def LE (t:Nat) (ks:Az) (nm:Nm):Az :=
  if nm≠(t,0)/\JC ks t=true then
   match Bk ks.objs nm with
   | some ob =>
    let f:Nm->Nm:=fun m=>if m=nm then (t,0) else m
    let objs:=EY (Aj.ren f) ks.objs
    {ks with tmps:=DG (KV.ren f) ks.tmps,objs:=Ep t [ob.ren f] (kput objs nm Gk),keep:=ks.keep.map (DG (KV.ren f))}
   | none=>ks
  else ks
def Jj (t:Nat) (ks:Az):Az :=
 match A2 ks.tmps t with
 | .arr nm _ _ _=>LE t ks nm
 | .wit nm=>LE t ks nm
 | _=>ks
def Mv (nm:Nm) (ty:Nat) (cs:List KV) (i k:Nat) (ks:Az):Az :=
 let l:=A9 ks.objs nm.1
 {ks with objs:=Ep nm.1 (l.set nm.2 (.cells ty (cs.set i (.arr (nm.1,l.length) k 0 0)))++[.arr k 0 []]) ks.objs}
def LF (nm m:Nm) (ks:Az):Az :=
 let l:=A9 ks.objs nm.1
 if m.1≠nm.1 then
  match Bk ks.objs m with
  | some ob =>
   let f:Nm->Nm:=fun x=>if x=m then (nm.1,l.length) else x
   let objs:=kput (EY (Aj.ren f) ks.objs) m Gk
   {ks with tmps:=DG (KV.ren f) ks.tmps,objs:=Ep nm.1 (A9 objs nm.1++[ob.ren f]) objs,keep:=ks.keep.map (DG (KV.ren f))}
  | none=>ks
 else ks
def SD {R:Type} (nm:Nm) (ty:Nat) (cs:List KV) (i k:Nat) (ks:Az) (K:Az->Option R):Option R :=
 match cs[i]? with
 | some .nils=>K (Mv nm ty cs i k ks)
 | some (.cv v)=>DY v (K (Mv nm ty cs i k ks))
 | some (.arr m _ _ _)=>K (LF nm m ks)
 | some (.wit m)=>K (LF nm m ks)
 | _=>K ks
def Uc {R:Type} (x off k:Nat) (ks:Az) (K:Az->Option R):Option R :=
 match A2 ks.tmps x with
 | .ref nm o=>match Bk ks.objs nm with
  | some (.cells ty cs)=>SD nm ty cs (o+off) k ks K
  | some (.whole _ v)=>Ae (S3 v (o+off)) (K ks)
  | _=>K ks
 | _=>K ks
def Ud {R:Type} (t k:Nat) (ks:Az) (K:Az->Option R):Option R :=
 if ID<=t then Uc (t%ID) (t / ID - 1) k ks K
 else match A2 ks.tmps t with
 | .nils=>K (if JC ks t then {ks with tmps:=CR t (.arr (t,0) k 0 0) ks.tmps,objs:=Ep t [.arr k 0 []] ks.objs} else ks)
 | .cv v=>notNil v (K ks)
 | _=>K ks
def Qo {R:Type}:List (Nat×Nat)->Az->(Az->Option R)->Option R
 | [],ks,K=>K ks
 |(t,k) :: l,ks,K=>Ud t k ks fun ks=>Qo l ks K
def Iq (ks:Az):List Nat :=
 let R:=Fe ks.tmps++ks.keep.flatMap Fe++Hp ks.objs
 (ks.objs.filter fun p=>!p.2.isEmpty&&R.all fun nm=>nm.1 != p.1).map (·.1)
def ON {R:Type} (asg:List Nat) (grow:List (Nat×Nat)) (ks:Az) (K:Az->Option R):Option R :=
 Qo grow (asg.foldl (fun ks t=>Jj t ks) ks) fun ks=>K (DR (Iq ks) ks)
def Hr (R:List Nm):A6->A6
 | []=>[]
 |(j,u) :: l=>match u.take (HB R j u.length) with
  | []=>Hr R l
  | v :: vs=>(j,v :: vs) :: Hr R l
def OL (ks:Az):Az:={ks with objs:=Hr (Fe ks.tmps++ks.keep.flatMap Fe++Hp ks.objs) ks.objs}
def JR (k0:Az) (ks:Az):Az :=
 let ks:={ks with tmps:=FD (Gg k0.tmps) ks.tmps}
 DR (Iq ks) ks
def Ld (live:Option (List Nat)) (ks:Az):Az :=
 match live with
 | none=>ks
 | some l =>
  let ks:={ks with tmps:=FD (fun i=>l.contains i) ks.tmps}
  DR (Iq ks) ks
def Ml:Ax->Bool
 | .mov _ | .pick _ _ _ | .build _ _ | .nilck _ | .bin _ _ _ _ _ | .un _ _ | .conv _ _ | .toBytes _ | .ofBytes _ | .ofRune _ | .strId _ | .mkI _ _ | .lookup _ _ _ _ _ | .slice _ _ _ _ _ | .strSlice _ _ _
 | .fieldAddr _ _ | .field _ _ _ _ | .idxAddr _ _ _ | .idxAddrA _ _ _ _ | .strIdx _ _ | .extract _ _ | .len _ _ | .minmax _ _ | .tassert _ _ _ _ | .load _ _ _=>true
 | _=>false
def Xm (ops:List AV) (lv:Option (List Nat)):Option Nat :=
 if (ops.any fun o=>o.guard.isSome)&&(ops.all fun o=>Ml o.op) then
  match lv with
  | some l=>match l.filter fun t=>(ops.filterMap (·.dst)).contains t with
   | [t]=>some t
   | _=>none
  | none=>none
 else none
def Iz:List Nat->List PV->Nat->Sp->Sp
 | p :: ps,vs,i,tm=>Iz ps vs (i+1) (CR p (.cv (Aa vs i)) tm)
 | [],_,_,tm=>tm
def isNormal:Ex->Bool
 | .normal=>true
 | _=>false
def exitOf:Ex->Option Ex
 | .normal=>none
 | x=>some x
def Iw:Bw->List Nat
 | .seq a b=>Iw a++Iw b
 | .cond _ a b=>Iw a++Iw b
 | .block id b=>(Iw b).filter fun i=>i != id
 | .loop _ _ b=>Iw b
 | .rangeFunc _ _ _ b=>Iw b
 | .scope b=>Iw b
 | .exit id=>[id]
 | _=>[]
def QL {R:Type}:List Nat->Option Ex->(Nat->Option R)->Option R
 | [],_,_=>none
 | id :: l,p,K=>B9 (XN p id) (K id) (QL l p K)
abbrev Hj (E:Type):=List PV×Option Ex×E
def DC {E:Type} (dep:Nat) (h:Ay E) (body:List PV->List PV->E->Option (Bool×Hj E)):Ay (Hj E):=fun l args r =>
 if l=dep then
  match r with
  |(vs,none,e)=>body vs args e
  | _=>none
 else
  match r with
  |(vs,p,e)=>match h l args e with
   | some (b,e)=>some (b,(vs,p,e))
   | none=>none
def Qi {E R:Type} (asg:List Nat) (grow:List (Nat×Nat)) (k0:Az) (K:Ex->Az->E->Option R) (x:Ex) (ks:Az) (e:E):Option (Sum (List PV×E) R) :=
 match x with
 | .normal=>ON asg grow (JR k0 ks) fun k1=>Da k1 fun k1=>if K1 k0 k1 then chks (Ol k0 k1) (some (.inl (EO k0 k1,e))) else none
 | x=>Ac (K x ks e) fun r=>some (.inr r)
noncomputable def CT (cfg:Dx):Bw->{E R:Type}->Ay E->Nat->Az->E->(Ex->Az->E->Option R)->Option R
 | .skip,_,_,_,_,ks,e,K=>K .normal ks e
 | .region ops none lv,E,_,h,_,ks,e,K =>
  Da (DR (CC ops) ks) fun ks =>
  match Xm ops lv with
  | some t=>Ac (MM (E:=E) cfg h ops ops ks e fun ks _=>(A2 ks.tmps t).cl) fun z=>Da (Ld lv {ks with tmps:=CR t (.cv z) ks.tmps}) fun ks=>K .normal ks e
  | none=>MM cfg h ops ops ks e fun ks e=>Da (Ld lv ks) fun ks=>K .normal ks e
 | .region ops (some bef) lv,_,_,h,_,ks,e,K=>Da (DR (CC ops) ks) fun ks=>Qn cfg h ops bef [] ks e fun ks e=>Da (Ld lv ks) fun ks=>K .normal ks e
 | .seq a b,_,_,h,dep,ks,e,K=>CT cfg a h dep ks e fun x ks e=>match x with
  | .normal=>CT cfg b h dep ks e K
  | x=>K x ks e
 | .cond c a b,_,_,h,dep,ks,e,K=>match c.kv ks.tmps with
  | .lit true=>CT cfg a h dep ks e K
  | .lit false=>CT cfg b h dep ks e K
  | .cv v=>Ar v (CT cfg a h dep ks e K) (CT cfg b h dep ks e K)
  | _=>none
 | .block id body,_,_,h,dep,ks,e,K=>CT cfg body h dep ks e fun x ks e=>match x with
  | .exit id'=>if id'=id then K .normal ks e else K (.exit id') ks e
  | x=>K x ks e
 | .loop asg grow body,E,R,h,dep,ks,e,K=>ON asg grow ks fun k0=>Da k0 fun k0=>Ae (Bp (GW k0.tmps k0.tmps))<|if K1 k0 k0=false then none else
  BL (σ:=List PV×E) (ρ:=R) (fun s=>Da (Cp k0 s.1) fun ks=>CT cfg body h dep ks s.2 (Qi asg grow k0 K)) (EO k0 k0,e)
 | .rangeFunc f ps assign body,E,R,h,dep,ks,e,K =>
  match (f.kv ks.tmps).cl with
  | some fv=>if (ps.all fun p=>Nat.blt p ks.nt)&&K1 ks ks&&Ew f then Ac (CP (E:=Hj E) cfg.b (DC dep h fun vs args e =>
    Ae (DQ args ps.length) (
     Da (Cp ks vs) fun k0 =>
     Da {k0 with tmps:=Iz ps args 0 k0.tmps,keep:=k0.tmps :: k0.keep} fun k1 =>
     CT cfg assign (R:=Bool×Hj E) h (dep+1) k1 e fun x k1 e=>match x with
      | .normal=>CT cfg body h (dep+1) k1 e fun x k2 e =>
       match k2.keep with
       | []=>none
       | sp :: kp =>
        Da {k2 with tmps:=sp,keep:=kp} fun k3 =>
        if K1 ks k3 then chks (Ol ks k3) (some (isNormal x,(EO ks k3,exitOf x,e))) else none
      | _=>none)) dep fv (EO ks ks,none,e)) fun r=>Da (Cp ks r.1) fun k1 =>
    B9 (F8 r.2.1) (K .normal k1 r.2.2) (B9 (GF r.2.1) (K .ret k1 r.2.2)
     (QL (Iw body) r.2.1 fun id=>K (.exit id) k1 r.2.2)) else none
  | none=>none
 | .exit id,_,_,_,_,ks,e,K=>K (.exit id) ks e
 | .scope b,_,_,h,dep,ks,e,K=>CT cfg b h dep ks e fun x ks e=>match x with
  | .exit id=>if id < Cr then K (.exit id) ks e else none
  | x=>K x ks e
 | .ret,_,_,_,_,ks,e,K=>K .ret ks e
 | .norm grow,_,_,_,_,ks,e,K=>ON [] grow (OL ks) fun k0=>Da k0 fun k0=>K .normal k0 e
 | .dreg _ _ _ _,_,_,_,_,_,_,_=>none
 | .bad,_,_,_,_,_,_,_=>none
def kisFn:KV->Bool
 | .fn _ _=>true
 | _=>false
def kisUn:KV->Bool
 | .un=>true
 | _=>false
noncomputable def Fp (cfg:Dx) (nt:Nat):Bw->{R:Type}->Az->(Ex->Az->List Nat->Option R)->Option R
 | .dreg ops f args live,_,ks,K=>Da (DR (CC ops) ks) fun ks=>MM (E:=Unit) cfg AD ops ops ks () fun ks _ =>
  if kisFn (f.kv ks.tmps)=true/\(Nat.ble (args.length+1) nt&&Nat.beq ks.nt nt)=true/\(f :: args).all Ew=true/\(f.kv ks.tmps :: args.map (RX.kv ks.tmps)).any kisUn=false then
   Da (Ld live {ks with keep:=((f.kv ks.tmps :: args.map (RX.kv ks.tmps)).zipIdx.map fun p=>(p.2,p.1)) :: ks.keep}) fun ks=>K .normal ks [args.length]
  else none
 | .seq a b,_,ks,K=>Fp cfg nt a ks fun x ks l=>match x with
  | .normal=>Fp cfg nt b ks fun x ks l'=>K x ks (l'++l)
  | x=>K x ks l
 | .cond c a b,_,ks,K=>match c.kv ks.tmps with
  | .lit true=>Fp cfg nt a ks K
  | .lit false=>Fp cfg nt b ks K
  | .cv v=>Ar v (Fp cfg nt a ks K) (Fp cfg nt b ks K)
  | _=>none
 | .block id body,_,ks,K=>Fp cfg nt body ks fun x ks l=>match x with
  | .exit id'=>if id'=id then K .normal ks l else K (.exit id') ks l
  | x=>K x ks l
 | .scope body,_,ks,K=>if S8 body then none else Fp cfg nt body ks fun x ks l=>match x with
  | .exit id=>if id < Cr then K (.exit id) ks l else none
  | x=>K x ks l
 | c,_,ks,K=>CT cfg c (E:=Unit) AD 0 ks () fun x ks _=>K x ks []
noncomputable def Q1 (cfg:Dx) (nt:Nat) {R:Type}:List Nat->Az->(Az->Option R)->Option R
 | [],ks,K=>K ks
 | n :: l,ks,K=>match ks.keep with
  | []=>none
  | sp :: kp=>match A2 sp 0 with
   | .fn f caps=>match cfg.ioF (AW f) with
    | some P =>
     let xs:=HZ f ((List.range n).map fun j=>A2 sp (j+1)) caps
     if cfg.flatF (AW f)=true/\(Nat.ble (n+1) nt&&Nat.beq ks.nt nt)=true/\ES ks.objs=true then
      NZ cfg P (AW f) 0 (Bk ks.objs) xs fun out=>if out.new.isEmpty||out.slot.isSome then Da (GE {ks with keep:=kp} none out) fun ks=>Q1 cfg nt l ks K else none
     else none
    | none=>none
   | _=>none
def kresV {R:Type} (ks:Az) (r:HL) (K:KV->Option R):Option R :=
 match r with
 | .tmp t=>K (A2 ks.tmps t)
 | .cell t n ag=>match A2 ks.tmps t with
  | .ref nm o=>match Bk ks.objs nm with
   | some (.cells _ cs)=>if ag then (if o+n<=cs.length then K (.agg ((cs.drop o).take n)) else none) else (match cs[o]? with | some c=>K c | none=>none)
   | some (.whole _ v)=>Ac (Am v o n ag) fun z=>K (.cv z)
   | _=>none
  | _=>none
def Jz {R:Type} (ks:Az):List HL->(List KV->Option R)->Option R
 | [],K=>K []
 | r :: rs,K=>kresV ks r fun v=>Jz ks rs fun vs=>K (v :: vs)
def JA:List KV->KV
 | [v]=>v
 | vs=>.tup vs
def H7:Nat->Bool
 | 0=>true
 | _=>false
def QJ:KV->List Nm
 | .arr nm _ o _=>if H7 o then [nm] else []
 | .wit nm=>[nm]
 | .agg cs=>cs.flatMap fun | .arr nm _ o _=>if H7 o then [nm] else [] | .wit nm=>[nm] | _=>[]
 | .tup xs=>xs.flatMap fun | .arr nm _ o _=>if H7 o then [nm] else [] | .wit nm=>[nm] | .agg cs=>cs.flatMap (fun | .arr nm _ o _=>if H7 o then [nm] else [] | .wit nm=>[nm] | _=>[]) | _=>[]
 | _=>[]
mutual
def CA:Bq->KV->List Nm
 | .own _,x=>match x with | .arr nm _ _ _=>[nm] | _=>[]
 | .opt _,x=>match x with | .arr nm _ _ _=>[nm] | _=>[]
 | .tup l,x=>match x with | .tup xs=>G3 l xs | _=>[]
 | .agg l,x=>match x with | .agg xs=>G3 l xs | _=>[]
 | .cl,_=>[]
def G3:List Bq->List KV->List Nm
 | s :: l,x :: xs=>CA s x++G3 l xs
 | _,_=>[]
end
mutual
def FI {R:Type} (σ:Nm->Option Aj) (S:List Nm):Bq->KV->(PV->Option R)->Option R
 | .cl,x,K=>match x.cl with
  | some u=>K u
  | none=>match x with
   | .tup xs=>match Dz xs with
    | some us=>K (.tup us)
    | none=>if x.names.all fun nm=>!S.contains nm then Ae (Bl (x.close (C5 σ AU))) (K (x.close (C5 σ AU))) else none
   | _=>if x.names.all fun nm=>!S.contains nm then Ae (Bl (x.close (C5 σ AU))) (K (x.close (C5 σ AU))) else none
 | .own k,x,K=>match x with
  | .arr nm k' o n=>match σ nm with
   | some (.arr k'' kt xs)=>if k=k'/\k=k''/\H7 o=true then Ae (Fz n (Ai xs)) (K (.sl k xs false)) else none
   | _=>none
  | _=>none
 | .opt k,x,K=>match x with
  | .arr nm k' o n=>match σ nm with
   | some (.arr k'' kt xs)=>if k=k'/\k=k''/\H7 o=true then Ae (Fz n (Ai xs)) (K (.sl k xs false)) else none
   | _=>none
  | .nils=>K .nilS
  | .cv v=>DY v (K .nilS)
  | _=>none
 | .tup l,x,K=>match x with
  | .tup xs=>Ht σ S l xs fun us=>K (.tup us)
  | _=>none
 | .agg l,x,K=>match x with
  | .agg xs=>Ht σ S l xs fun us=>K (.agg us)
  | _=>none
def Ht {R:Type} (σ:Nm->Option Aj) (S:List Nm):List Bq->List KV->(List PV->Option R)->Option R
 | [],[],K=>K []
 | s :: l,x :: xs,K=>FI σ S s x fun u=>Ht σ S l xs fun us=>K (u :: us)
 | _,_,_=>none
end
def L8 (shut:Bool) (v:KV):List Nm :=
 match shut with
 | true=>[]
 | false=>QJ v
def Po {R:Type} (ks:Az) (shut:Bool) (sh:Bq) (v:KV) (K:PV->Option R):Option R :=
 let σ:=Bk ks.objs
 let S:=L8 shut v
 let R:=GD σ AU (v.names.filter fun nm=>!S.contains nm)
 if S=CA sh v/\DE S=true/\(S.all (fun nm=>!R.contains nm))=true/\JQ σ R=true then FI σ S sh v K else none
noncomputable def AR (cfg:Dx) (fn:At) (sh:Bq) {E:Type} (h:Ay E) (dep:Nat) (args:List KV) (e:E):Option (PV×E) :=
 Da {nt:=fn.nt,tmps:=args.zipIdx.map fun p=>(p.2,p.1),objs:=[],keep:=[]} fun ks=>CT cfg fn.code h dep ks e fun x ks e=>match x with
  | .exit _=>none
  | _=>Jz ks fn.res fun vs=>Po ks fn.shut sh (JA vs) fun v=>some (v,e)
def Ms:KV->Option Nm
 | .wit nm=>some nm
 | .arr nm k o n=>if k=1/\o=0/\n=0 then some nm else none
 | _=>none
def Le (σ:Nm->Option Aj) (B:List (Nm×Nm)) (nm:Nm):Aj :=
 (((σ nm).getD Gk).off fun m=>!(B.map (·.1)).contains m).ren fun m=>(B.lookup m).getD m
def P0 (σ:Nm->Option Aj) (A:List (Nm×Nm)) (v:KV):List Nm :=
 Dr ((GD σ AU (v.names++A.flatMap fun p=>((σ p.1).map Aj.names).getD [])).filter fun m=>!(A.map (·.1)).contains m)
def Jk (k:Nat) (sp:Sp):List (Nm×Nm):=(Em k).zipIdx.map fun p=>((Ms (A2 sp p.2)).getD (0,p.2),p.1)
def P1 (k:Nat) (sp:Sp):List Nm:=((Em k).zipIdx.filter fun p=>(Ms (A2 sp p.2)).isNone).map (·.1)
def Ns (p x:Aj):List PV :=
 match x with
 | .whole _ v=>[.agg (CH v)]
 | x=>GX p x
def Nb:List Aj->List Aj->List PV
 | x :: xs,y :: ys=>Ns x y++Nb xs ys
 | _,_=>[]
def Oo (P:BK) (ks:Az) (v:KV):Option (List PV) :=
 match ks.keep with
 | [sp] =>
  let A:=Jk P.ins.length sp
  let N:=P0 (Bk ks.objs) A v
  let B:=A++N.zipIdx.map fun p=>(p.1,(1,0+p.2))
  let u:=(v.off fun m=>!(B.map (·.1)).contains m).ren fun m=>(B.lookup m).getD m
  let os:=A.map fun p=>Le (Bk ks.objs) B p.1
  let ns:=N.map (Le (Bk ks.objs) B)
  if DE (B.map (·.1))=true/\P1 P.ins.length sp=P.gone.map (fun j=>(0,j))/\(Bo P.res u&&(El P.outs os&&El P.news ns))=true then
   some (B5 P.res u++(Nb P.outs os++Nb P.news ns))
  else none
 | _=>none
noncomputable def CG (cfg:Dx) (fn:At) (P:BK) (vs:List PV):Option (List PV) :=
 let a:=CI P.args vs 0
 let b:=CF P.ins vs a.2
 Da {nt:=fn.nt,tmps:=a.1.zipIdx.map fun p=>(p.2,p.1),objs:=[(0,b.1)],keep:=[((List.range P.ins.length).filter fun j=>!fn.gone.contains j).map fun j=>(j,.wit (0,j))]} fun ks =>
 if Dk fn.code then CT (E:=Unit) cfg fn.code AD 0 ks () fun x ks _=>match x with
  | .exit _=>none
  | _=>Jz ks fn.res fun vs=>Oo P ks (JA vs)
 else Fp cfg fn.nt fn.code ks fun x ks l=>match x with
  | .exit _=>none
  | _=>Q1 cfg fn.nt l ks fun ks=>Jz ks fn.res fun vs=>Oo P ks (JA vs)
end Go.Ab


namespace Go.Ab
theorem Ey {xs:List PV}:Ao xs=true↔∀ x∈xs,okV x=true:=by
 induction xs with
 | nil=>simp[Ao]
 | cons x xs ih=>simp[Ao,ih]
mutual
theorem Ez:∀ {v:PV},okV v=true->v.names=[]/\v.hasY=false
 | .undef,_ | .bool _,_ | .int _ _,_ | .str _,_ | .nilS,_ | .nilP,_ | .nilF,_ | .nilI,_ | .nilM,_ | .glob _ _,_=>by simp[PV.names,PV.hasY]
 | .sl _ xs _,h=>by simp only[okV] at h;simp[PV.names,PV.hasY,(CL h).2]
 | .ptr cs _,h=>by simp only[okV] at h;simp[PV.names,PV.hasY,(CL h).2]
 | .imap es,h=>by simp only[okV] at h;simp[PV.names,PV.hasY,(CL h).2]
 | .agg cs,h=>by simp only[okV] at h;simp[PV.names,PV.hasY,CL h]
 | .fn _ cap,h=>by simp only[okV] at h;simp[PV.names,PV.hasY,CL h]
 | .tup xs,h=>by simp only[okV] at h;simp[PV.names,PV.hasY,CL h]
 | .iface _ x,h=>by simp only[okV] at h;simp[PV.names,PV.hasY,Ez h]
 | .yld _,h | .ref _ _,h | .aref _ _ _ _,h | .arr _ _ _ _,h | .mp _,h | .it _,h=>by simp[okV] at h
theorem CL:∀ {xs:List PV},Ao xs=true->AQ xs=[]/\BF xs=false
 | [],_=>by simp[AQ,BF]
 | x :: xs,h=>by
  simp only[Ao,bB] at h;simp[AQ,BF,Ez h.1,CL h.2]
end
theorem Jf {v:PV} (h:v.names=[]) (f:Nm->Option (Option Ob)):v.sub f=v:=by
 rw[PV.sub_congr (g:=fun _=>none) v (by rw[h];simp)];exact sub_id v
where
 sub_id:∀ (x:PV),x.sub (fun _=>none)=x
  | .undef | .bool _ | .int _ _ | .str _ | .nilS | .nilP | .nilF | .nilI | .nilM | .sl _ _ _ | .ptr _ _ | .yld _ | .imap _ | .glob _ _ | .ref _ _ | .aref _ _ _ _ | .arr _ _ _ _ | .mp _ | .it _=>by simp[PV.sub]
  | .agg cs=>by simp[PV.sub,subL_id cs]
  | .iface t x=>by simp[PV.sub,sub_id x]
  | .fn g cap=>by simp[PV.sub,subL_id cap]
  | .tup xs=>by simp[PV.sub,subL_id xs]
 subL_id:∀ (xs:List PV),AX (fun _=>none) xs=xs
  | []=>rfl
  | x :: xs=>by simp[AX,sub_id x,subL_id xs]
mutual
theorem Kq:∀ {v:PV},v.names=[]->∀ (f:Nm->Nm),v.ren f=v
 | .undef,_,_ | .bool _,_,_ | .int _ _,_,_ | .str _,_,_ | .nilS,_,_ | .nilP,_,_ | .nilF,_,_ | .nilI,_,_ | .nilM,_,_ | .sl _ _ _,_,_ | .ptr _ _,_,_ | .yld _,_,_ | .imap _,_,_ | .glob _ _,_,_=>by simp[PV.ren]
 | .agg cs,h,f=>by simp[PV.names] at h;simp[PV.ren,Nj h f]
 | .iface t x,h,f=>by simp[PV.names] at h;simp[PV.ren,Kq h f]
 | .fn g cap,h,f=>by simp[PV.names] at h;simp[PV.ren,Nj h f]
 | .tup xs,h,f=>by simp[PV.names] at h;simp[PV.ren,Nj h f]
 | .ref _ _,h,_ | .aref _ _ _ _,h,_ | .arr _ _ _ _,h,_ | .mp _,h,_ | .it _,h,_=>by simp[PV.names] at h
theorem Nj:∀ {xs:List PV},AQ xs=[]->∀ (f:Nm->Nm),Bt f xs=xs
 | [],_,_=>rfl
 | x :: xs,h,f=>by simp[AQ] at h;simp[Bt,Kq h.1 f,Nj h.2 f]
end
mutual
def KV.ok:KV->Prop
 | .cv v=>okV v=true
 | .agg cs=>A4 cs
 | .iface _ x=>x.ok
 | .fn _ cap=>A4 cap
 | .tup xs=>A4 xs
 | .un | .sk | .lit _ | .nils | .yld _ | .ref _ _ | .aref _ _ _ _ | .arr _ _ _ _ | .mp _ | .it _ | .wit _=>True
def A4:List KV->Prop
 | []=>True
 | x :: xs=>x.ok/\A4 xs
end
theorem CO {xs:List KV}:A4 xs↔∀ x∈xs,x.ok:=by
 induction xs with
 | nil=>simp[A4]
 | cons x xs ih=>simp[A4,ih]
theorem D7 (xs:List KV):AJ xs=xs.map KV.pv:=by
 induction xs with
 | nil=>rfl
 | cons x xs ih=>simp[AJ,ih]
mutual
theorem KV.pv_names:∀ {x:KV},x.ok->x.pv.names=x.names
 | .un,_ | .sk,_ | .lit _,_ | .nils,_ | .yld _,_ | .ref _ _,_ | .aref _ _ _ _,_ | .arr _ _ _ _,_ | .mp _,_ | .it _,_ | .wit _,_=>by simp[KV.pv,PV.names,KV.names,AQ]
 | .cv v,h=>by simp[KV.pv,KV.names,(Ez h).1]
 | .agg cs,h=>by simp[KV.pv,PV.names,KV.names,FA h]
 | .iface t x,h=>by simp[KV.pv,PV.names,KV.names,KV.pv_names (x:=x) h]
 | .fn f cap,h=>by simp[KV.pv,PV.names,KV.names,FA h]
 | .tup xs,h=>by simp[KV.pv,PV.names,KV.names,FA h]
theorem FA:∀ {xs:List KV},A4 xs->AQ (AJ xs)=C4 xs
 | [],_=>rfl
 | x :: xs,h=>by simp[AJ,AQ,C4,KV.pv_names h.1,FA h.2]
end
mutual
theorem KV.pv_hasY:∀ {x:KV},x.ok->x.pv.hasY=x.hasY
 | .un,_ | .sk,_ | .lit _,_ | .nils,_ | .yld _,_ | .ref _ _,_ | .aref _ _ _ _,_ | .arr _ _ _ _,_ | .mp _,_ | .it _,_ | .wit _,_=>by simp[KV.pv,PV.hasY,KV.hasY,BF]
 | .cv v,h=>by simp[KV.pv,KV.hasY,(Ez h).2]
 | .agg cs,h=>by simp[KV.pv,PV.hasY,KV.hasY,Kr h]
 | .iface t x,h=>by simp[KV.pv,PV.hasY,KV.hasY,KV.pv_hasY (x:=x) h]
 | .fn f cap,h=>by simp[KV.pv,PV.hasY,KV.hasY,Kr h]
 | .tup xs,h=>by simp[KV.pv,PV.hasY,KV.hasY,Kr h]
theorem Kr:∀ {xs:List KV},A4 xs->BF (AJ xs)=Fl xs
 | [],_=>rfl
 | x :: xs,h=>by simp[AJ,BF,Fl,KV.pv_hasY h.1,Kr h.2]
end
mutual
theorem KV.cl_pv:∀ {x:KV} {v:PV},x.cl=some v->x.pv=v
 | .lit b,v,h=>by simp[KV.cl] at h;simp[KV.pv,h]
 | .nils,v,h=>by simp[KV.cl] at h;simp[KV.pv,h]
 | .cv u,v,h=>by simp[KV.cl] at h;simp[KV.pv,h]
 | .agg cs,v,h=>by
  simp only[KV.cl,bD] at h;obtain⟨vs,hv,rfl⟩:=h;simp[KV.pv,JI hv]
 | .iface t x,v,h=>by
  simp only[KV.cl,bD] at h;obtain⟨u,hv,rfl⟩:=h;simp[KV.pv,KV.cl_pv hv]
 | .fn f cap,v,h=>by
  simp only[KV.cl,bD] at h;obtain⟨vs,hv,rfl⟩:=h;simp[KV.pv,JI hv]
 | .un,v,h | .sk,v,h | .yld _,v,h | .ref _ _,v,h | .aref _ _ _ _,v,h | .arr _ _ _ _,v,h | .mp _,v,h | .it _,v,h | .wit _,v,h | .tup _,v,h=>by simp[KV.cl] at h
theorem JI:∀ {xs:List KV} {vs:List PV},Dz xs=some vs->AJ xs=vs
 | [],vs,h=>by simp[Dz] at h;simp[AJ,h]
 | x :: xs,vs,h=>by
  simp only[Dz] at h;split at h
  ·rename_i v us h1 h2;cases h;simp[AJ,KV.cl_pv h1,JI h2]
  ·cases h
end
mutual
theorem KV.cl_ok:∀ {x:KV} {v:PV},x.ok->x.cl=some v->okV v=true
 | .lit b,v,_,h=>by simp[KV.cl] at h;subst h;rfl
 | .nils,v,_,h=>by simp[KV.cl] at h;subst h;rfl
 | .cv u,v,hx,h=>by simp[KV.cl] at h;subst h;exact hx
 | .agg cs,v,hx,h=>by
  simp only[KV.cl,bD] at h;obtain⟨vs,hv,rfl⟩:=h;simpa[okV] using IE (xs:=cs) hx hv
 | .iface t x,v,hx,h=>by
  simp only[KV.cl,bD] at h;obtain⟨u,hv,rfl⟩:=h;simpa[okV] using KV.cl_ok (x:=x) hx hv
 | .fn f cap,v,hx,h=>by
  simp only[KV.cl,bD] at h;obtain⟨vs,hv,rfl⟩:=h;simpa[okV] using IE (xs:=cap) hx hv
 | .un,v,_,h | .sk,v,_,h | .yld _,v,_,h | .ref _ _,v,_,h | .aref _ _ _ _,v,_,h | .arr _ _ _ _,v,_,h | .mp _,v,_,h | .it _,v,_,h | .wit _,v,_,h | .tup _,v,_,h=>by simp[KV.cl] at h
theorem IE:∀ {xs:List KV} {vs:List PV},A4 xs->Dz xs=some vs->Ao vs=true
 | [],vs,_,h=>by simp[Dz] at h;subst h;rfl
 | x :: xs,vs,hx,h=>by
  simp only[Dz] at h;split at h
  ·rename_i v us h1 h2;cases h;simp[Ao,KV.cl_ok hx.1 h1,IE hx.2 h2]
  ·cases h
end
def H3 (p:Nm->Bool):Nm->Option (Option Ob):=fun m=>if p m=true then some none else none
mutual
theorem KV.off_pv (p:Nm->Bool):∀ {x:KV},x.ok->(x.off p).pv=x.pv.sub (H3 p)
 | .un,_ | .sk,_ | .lit _,_ | .nils,_ | .yld _,_=>by simp[KV.off,KV.pv,PV.sub,AX]
 | .cv v,h=>by simp[KV.off,KV.pv,Jf (Ez h).1]
 | .ref nm _,_ | .aref nm _ _ _,_ | .arr nm _ _ _,_ | .mp nm,_ | .it nm,_ | .wit nm,_=>by
  simp only[KV.off,KV.pv,PV.sub,H3];cases hp:p nm<;>simp[KV.pv]
 | .agg cs,h=>by simp[KV.off,KV.pv,PV.sub,NT p h]
 | .iface t x,h=>by simp[KV.off,KV.pv,PV.sub,KV.off_pv p (x:=x) h]
 | .fn f cap,h=>by simp[KV.off,KV.pv,PV.sub,NT p h]
 | .tup xs,h=>by simp[KV.off,KV.pv,PV.sub,NT p h]
theorem NT (p:Nm->Bool):∀ {xs:List KV},A4 xs->AJ (J2 p xs)=AX (H3 p) (AJ xs)
 | [],_=>rfl
 | x :: xs,h=>by simp[J2,AJ,AX,KV.off_pv p h.1,NT p h.2]
end
mutual
theorem KV.off_ok (p:Nm->Bool):∀ {x:KV},x.ok->(x.off p).ok
 | .un,_ | .sk,_ | .lit _,_ | .nils,_ | .yld _,_=>by simp[KV.off,KV.ok]
 | .cv v,h=>by simpa[KV.off,KV.ok] using h
 | .ref nm _,_ | .aref nm _ _ _,_ | .arr nm _ _ _,_ | .mp nm,_ | .it nm,_ | .wit nm,_=>by
  simp only[KV.off];cases hp:p nm<;>simp[KV.ok]
 | .agg cs,h=>by simpa[KV.off,KV.ok] using NU p h
 | .iface t x,h=>by simpa[KV.off,KV.ok] using KV.off_ok p (x:=x) h
 | .fn f cap,h=>by simpa[KV.off,KV.ok] using NU p h
 | .tup xs,h=>by simpa[KV.off,KV.ok] using NU p h
theorem NU (p:Nm->Bool):∀ {xs:List KV},A4 xs->A4 (J2 p xs)
 | [],_=>trivial
 | x :: xs,h=>⟨KV.off_ok p h.1,NU p h.2⟩
end
mutual
theorem KV.ren_pv (f:Nm->Nm):∀ {x:KV},x.ok->(x.ren f).pv=x.pv.ren f
 | .un,_ | .sk,_ | .lit _,_ | .nils,_ | .yld _,_ | .ref _ _,_ | .aref _ _ _ _,_ | .arr _ _ _ _,_ | .mp _,_ | .it _,_ | .wit _,_=>by simp[KV.ren,KV.pv,PV.ren,Bt]
 | .cv v,h=>by simp[KV.ren,KV.pv,Kq (Ez h).1]
 | .agg cs,h=>by simp[KV.ren,KV.pv,PV.ren,L4 f h]
 | .iface t x,h=>by simp[KV.ren,KV.pv,PV.ren,KV.ren_pv f (x:=x) h]
 | .fn g cap,h=>by simp[KV.ren,KV.pv,PV.ren,L4 f h]
 | .tup xs,h=>by simp[KV.ren,KV.pv,PV.ren,L4 f h]
theorem L4 (f:Nm->Nm):∀ {xs:List KV},A4 xs->AJ (Fu f xs)=Bt f (AJ xs)
 | [],_=>rfl
 | x :: xs,h=>by simp[Fu,AJ,Bt,KV.ren_pv f h.1,L4 f h.2]
end
mutual
theorem KV.ren_ok (f:Nm->Nm):∀ {x:KV},x.ok->(x.ren f).ok
 | .un,_ | .sk,_ | .lit _,_ | .nils,_ | .yld _,_ | .ref _ _,_ | .aref _ _ _ _,_ | .arr _ _ _ _,_ | .mp _,_ | .it _,_ | .wit _,_=>by simp[KV.ren,KV.ok]
 | .cv v,h=>by simpa[KV.ren,KV.ok] using h
 | .agg cs,h=>by simpa[KV.ren,KV.ok] using LV f h
 | .iface t x,h=>by simpa[KV.ren,KV.ok] using KV.ren_ok f (x:=x) h
 | .fn g cap,h=>by simpa[KV.ren,KV.ok] using LV f h
 | .tup xs,h=>by simpa[KV.ren,KV.ok] using LV f h
theorem LV (f:Nm->Nm):∀ {xs:List KV},A4 xs->A4 (Fu f xs)
 | [],_=>trivial
 | x :: xs,h=>⟨KV.ren_ok f h.1,LV f h.2⟩
end
def Eo (g:Nm->Option Ob):Nm->Option (Option Ob):=fun m=>some (g m)
mutual
theorem KV.close_pv (g:Nm->Option Ob):∀ {x:KV},x.ok->x.close g=x.pv.sub (Eo g)
 | .un,_ | .sk,_ | .lit _,_ | .nils,_ | .yld _,_=>by simp[KV.close,KV.pv,PV.sub,AX]
 | .cv v,h=>by simp[KV.close,KV.pv,Jf (Ez h).1]
 | .ref nm o,_=>by
  simp only[KV.close,KV.pv,PV.sub,Eo];cases g nm with
  | none=>rfl
  | some ob=>cases ob<;>simp[FN]
 | .aref nm k i o,_=>by
  simp only[KV.close,KV.pv,PV.sub,Eo];cases g nm with
  | none=>rfl
  | some ob =>
   cases ob with
   | arr k' kt xs =>
    simp only[arefO];by_cases hk:k=k'
    ·simp only[hk,if_true];cases xs[i]?<;>rfl
    ·simp[hk]
   | _=>rfl
 | .arr nm k o n,_=>by
  simp only[KV.close,KV.pv,PV.sub,Eo];cases g nm with
  | none=>rfl
  | some ob=>cases ob<;>simp[AN]
 | .mp nm,_=>by
  simp only[KV.close,KV.pv,PV.sub,Eo];cases g nm with
  | none=>rfl
  | some ob=>cases ob<;>rfl
 | .it nm,_=>by simp[KV.close,KV.pv,PV.sub,Eo]
 | .wit nm,_=>by
  simp only[KV.close,KV.pv,PV.sub,Eo];cases g nm with
  | none=>rfl
  | some ob=>cases ob<;>simp[AN]
 | .agg cs,h=>by simp[KV.close,KV.pv,PV.sub,LM g h]
 | .iface t x,h=>by simp[KV.close,KV.pv,PV.sub,KV.close_pv g (x:=x) h]
 | .fn f cap,h=>by simp[KV.close,KV.pv,PV.sub,LM g h]
 | .tup xs,h=>by simp[KV.close,KV.pv,PV.sub,LM g h]
theorem LM (g:Nm->Option Ob):∀ {xs:List KV},A4 xs->FG g xs=AX (Eo g) (AJ xs)
 | [],_=>rfl
 | x :: xs,h=>by simp[FG,AJ,AX,KV.close_pv g h.1,LM g h.2]
end
def D8 (p:Nm->Bool) (g:Nm->Option Ob):Nm->Option (Option Ob):=fun m=>if p m=true then some (g m) else none
mutual
theorem KV.frz_pv (p:Nm->Bool) (g:Nm->Option Ob):∀ {x:KV},x.ok->(x.frz p g).pv=x.pv.sub (D8 p g)
 | .un,_ | .sk,_ | .lit _,_ | .nils,_ | .yld _,_=>by simp[KV.frz,KV.pv,PV.sub,AX]
 | .cv v,h=>by simp[KV.frz,KV.pv,Jf (Ez h).1]
 | .ref nm o,_=>by
  cases hp:p nm with
  | false=>simp[KV.frz,hp,KV.pv,PV.sub,D8]
  | true =>
   have:=KV.close_pv g (x:=.ref nm o) trivial;simp only[KV.frz,hp,if_true,KV.pv];rw[this];simp[KV.pv,PV.sub,D8,Eo,hp]
 | .aref nm k i o,_=>by
  cases hp:p nm with
  | false=>simp[KV.frz,hp,KV.pv,PV.sub,D8]
  | true =>
   have:=KV.close_pv g (x:=.aref nm k i o) trivial;simp only[KV.frz,hp,if_true,KV.pv];rw[this];simp[KV.pv,PV.sub,D8,Eo,hp]
 | .arr nm k o n,_=>by
  cases hp:p nm with
  | false=>simp[KV.frz,hp,KV.pv,PV.sub,D8]
  | true =>
   have:=KV.close_pv g (x:=.arr nm k o n) trivial;simp only[KV.frz,hp,if_true,KV.pv];rw[this];simp[KV.pv,PV.sub,D8,Eo,hp]
 | .mp nm,_=>by
  cases hp:p nm with
  | false=>simp[KV.frz,hp,KV.pv,PV.sub,D8]
  | true =>
   have:=KV.close_pv g (x:=.mp nm) trivial;simp only[KV.frz,hp,if_true,KV.pv];rw[this];simp[KV.pv,PV.sub,D8,Eo,hp]
 | .it nm,_=>by
  cases hp:p nm with
  | false=>simp[KV.frz,hp,KV.pv,PV.sub,D8]
  | true=>simp[KV.frz,hp,KV.pv,PV.sub,D8]
 | .wit nm,_=>by
  cases hp:p nm with
  | false=>simp[KV.frz,hp,KV.pv,PV.sub,D8]
  | true =>
   have:=KV.close_pv g (x:=.wit nm) trivial;simp only[KV.frz,hp,if_true,KV.pv];rw[this];simp[KV.pv,PV.sub,D8,Eo,hp]
 | .agg cs,h=>by simp[KV.frz,KV.pv,PV.sub,N1 p g h]
 | .iface t x,h=>by simp[KV.frz,KV.pv,PV.sub,KV.frz_pv p g (x:=x) h]
 | .fn f cap,h=>by simp[KV.frz,KV.pv,PV.sub,N1 p g h]
 | .tup xs,h=>by simp[KV.frz,KV.pv,PV.sub,N1 p g h]
theorem N1 (p:Nm->Bool) (g:Nm->Option Ob):∀ {xs:List KV},A4 xs->AJ (J9 p g xs)=AX (D8 p g) (AJ xs)
 | [],_=>rfl
 | x :: xs,h=>by simp[J9,AJ,AX,KV.frz_pv p g h.1,N1 p g h.2]
end
def Ob.shut (o:Ob):Prop :=
 match o with
 | .cells _ cs=>Ao cs=true
 | .arr _ _ xs=>Ao xs=true
 | .map es=>Ao es=true
 | .siter _ _=>True
theorem Dm {v:PV} (h:okV v=true):Ao v.cells=true:=by
 cases v<;>simp_all [PV.cells,Ao,okV]
theorem PY {xs ys:List PV} (h:Ao xs=true) (hs:∀ y∈ys,y∈xs):Ao ys=true:=Ey.2 fun y hy=>Ey.1 h y (hs y hy)
theorem Hm {xs:List PV} (h:Ao xs=true) (n:Nat):Ao (xs.take n)=true:=PY h fun _ hy=>cw hy
theorem Im {xs:List PV} (h:Ao xs=true) (n:Nat):Ao (xs.drop n)=true:=PY h fun _ hy=>cL hy
theorem HQ {xs ys:List PV} (h:Ao xs=true) (h':Ao ys=true):Ao (xs++ys)=true :=
 Ey.2 fun y hy=>(bW.1 hy).elim (Ey.1 h y) (Ey.1 h' y)
theorem HU {xs:List PV} (h:Ao xs=true) {i:Nat} {x:PV} (hx:xs[i]?=some x):okV x=true:=Ey.1 h x (bQ hx)
theorem WQ {xs:List PV} (h:Ao xs=true) (i:Nat) {x:PV} (hx:okV x=true):Ao (xs.set i x)=true :=
 Ey.2 fun y hy=>(dW hy).elim (Ey.1 h y) fun e=>e ▸ hx
mutual
theorem KV.close_ok {g:Nm->Option Ob} (hg:∀ nm ob,g nm=some ob->ob.shut):∀ {x:KV},x.ok->x.hasY=false->okV (x.close g)=true
 | .un,_,_ | .sk,_,_ | .lit _,_,_ | .nils,_,_=>by simp[KV.close,okV,Ao]
 | .yld _,_,h=>by simp[KV.hasY] at h
 | .cv v,h,_=>by have:okV v=true:=h;simpa[KV.close] using this
 | .ref nm o,_,_=>by
  simp only[KV.close];cases hn:g nm with
  | none=>rfl
  | some ob =>
   cases ob with
   | cells ty cs =>
    have:Ao cs=true:=hg _ _ hn;simp only[FN];split;·simpa[okV] using this
    ·rfl
   | _=>rfl
 | .aref nm k i o,_,_=>by
  simp only[KV.close];cases hn:g nm with
  | none=>rfl
  | some ob =>
   cases ob with
   | arr k' kt xs =>
    have:Ao xs=true:=hg _ _ hn;simp only[arefO];split
    ·split
     ·rename_i x hx;split;·simpa[okV] using Dm (HU this hx)
      ·rfl
     ·rfl
    ·rfl
   | _=>rfl
 | .arr nm k o n,_,_=>by
  simp only[KV.close];cases hn:g nm with
  | none=>rfl
  | some ob =>
   cases ob with
   | arr k' kt xs =>
    have:Ao xs=true:=hg _ _ hn;simp only[AN];split;·simpa[okV] using Hm (Im this o) n
    ·rfl
   | _=>rfl
 | .mp nm,_,_=>by
  simp only[KV.close];cases hn:g nm with
  | none=>rfl
  | some ob =>
   cases ob with
   | map es =>
    have:Ao es=true:=hg _ _ hn;simpa[okV] using this
   | _=>rfl
 | .it nm,_,_=>by simp[KV.close,okV,PV.names,PV.hasY]
 | .wit nm,_,_=>by
  simp only[KV.close];cases hn:g nm with
  | none=>rfl
  | some ob =>
   cases ob with
   | arr k' kt xs =>
    have:Ao xs=true:=hg _ _ hn;simp only[AN];split;·simpa[okV] using Hm (Im this 0) 0
    ·rfl
   | _=>rfl
 | .agg cs,h,hy=>by simpa[KV.close,okV] using Je hg (xs:=cs) h (by simpa[KV.hasY] using hy)
 | .iface t x,h,hy=>by simpa[KV.close,okV] using KV.close_ok hg (x:=x) h (by simpa[KV.hasY] using hy)
 | .fn f cap,h,hy=>by simpa[KV.close,okV] using Je hg (xs:=cap) h (by simpa[KV.hasY] using hy)
 | .tup xs,h,hy=>by simpa[KV.close,okV] using Je hg (xs:=xs) h (by simpa[KV.hasY] using hy)
theorem Je {g:Nm->Option Ob} (hg:∀ nm ob,g nm=some ob->ob.shut):∀ {xs:List KV},A4 xs->Fl xs=false->Ao (FG g xs)=true
 | [],_,_=>rfl
 | x :: xs,h,hy=>by
  simp only[Fl,dJ] at hy;simp[FG,Ao,KV.close_ok hg h.1 hy.1,Je hg h.2 hy.2]
end
mutual
theorem KV.frz_ok {p:Nm->Bool} {g:Nm->Option Ob} (hg:∀ nm ob,g nm=some ob->ob.shut):∀ {x:KV},x.ok->(x.frz p g).ok
 | .un,_ | .sk,_ | .lit _,_ | .nils,_ | .yld _,_=>by simp[KV.frz,KV.ok]
 | .cv v,h=>by simpa[KV.frz,KV.ok] using h
 | .ref nm o,_=>by
  simp only[KV.frz];split;·exact KV.close_ok hg (x:=.ref nm o) trivial rfl
  ·trivial
 | .aref nm k i o,_=>by
  simp only[KV.frz];split;·exact KV.close_ok hg (x:=.aref nm k i o) trivial rfl
  ·trivial
 | .arr nm k o n,_=>by
  simp only[KV.frz];split;·exact KV.close_ok hg (x:=.arr nm k o n) trivial rfl
  ·trivial
 | .mp nm,_=>by
  simp only[KV.frz];split;·exact KV.close_ok hg (x:=.mp nm) trivial rfl
  ·trivial
 | .it nm,_=>by
  simp only[KV.frz];split<;>trivial
 | .wit nm,_=>by
  simp only[KV.frz];split;·exact KV.close_ok hg (x:=.wit nm) trivial rfl
  ·trivial
 | .agg cs,h=>by simpa[KV.frz,KV.ok] using N2 hg h
 | .iface t x,h=>by simpa[KV.frz,KV.ok] using KV.frz_ok hg (x:=x) h
 | .fn f cap,h=>by simpa[KV.frz,KV.ok] using N2 hg h
 | .tup xs,h=>by simpa[KV.frz,KV.ok] using N2 hg h
theorem N2 {p:Nm->Bool} {g:Nm->Option Ob} (hg:∀ nm ob,g nm=some ob->ob.shut):∀ {xs:List KV},A4 xs->A4 (J9 p g xs)
 | [],_=>trivial
 | x :: xs,h=>⟨KV.frz_ok hg h.1,N2 hg h.2⟩
end
end Go.Ab


namespace Go.Ab
theorem CE {i j:Nat} (h:Nat.beq i j=true):i=j:=dv h
theorem Gx {i j:Nat} (h:Nat.beq i j=false):i≠j:=Nat.ne_of_beq_eq_false h
theorem Su (i:Nat) (v:KV):∀ (l:Sp) (j:Nat),A2 (CR i v l) j=if j=i then v else A2 l j:=by
 intro l;induction l with
 | nil =>
  intro j;simp only[CR,A2];cases h:Nat.beq j i with
  | true=>simp[CE h]
  | false=>simp[Gx h]
 | cons p l ih =>
  obtain⟨k,u⟩:=p;intro j;simp only[CR];cases h:Nat.beq i k with
  | true =>
   have:=CE h;subst this;simp only[A2];cases h2:Nat.beq j i with
   | true=>simp[CE h2]
   | false=>simp[Gx h2]
  | false =>
   cases h3:Nat.blt i k with
   | true =>
    simp only[A2];cases h2:Nat.beq j i with
    | true=>simp[CE h2]
    | false=>simp[Gx h2]
   | false =>
    simp only[A2];cases h2:Nat.beq j k with
    | true =>
     have h4:=CE h2;have h5:=Gx h;subst h4;simp[cn h5]
    | false=>exact ih j
theorem spGet_out (i:Nat):∀ (l:Sp) (j:Nat),A2 (JP i l) j=if j=i then .un else A2 l j:=by
 intro l;induction l with
 | nil=>intro j;simp[JP,A2]
 | cons p l ih =>
  obtain⟨k,u⟩:=p;intro j;simp only[JP];cases h:Nat.beq i k with
  | true =>
   have:=CE h;subst this;simp only[A2];rw[ih j];cases h2:Nat.beq j i with
   | true=>simp[CE h2]
   | false=>simp[Gx h2]
  | false =>
   simp only[A2];cases h2:Nat.beq j k with
   | true =>
    have h4:=CE h2;have h5:=Gx h;subst h4;simp[cn h5]
   | false=>exact ih j
theorem spGet_set (i:Nat) (v:KV) (l:Sp) (j:Nat):A2 (MC i v l) j=if j=i then v else A2 l j:=by
 unfold MC;split;·exact spGet_out i l j
 ·exact Su i v l j
theorem ZL (p:Nat->Bool):∀ (l:Sp) (j:Nat),A2 (FD p l) j=if p j=true then A2 l j else .un:=by
 intro l;induction l with
 | nil=>intro j;simp[FD,A2]
 | cons q l ih =>
  obtain⟨k,u⟩:=q;intro j;simp only[FD];cases hp:p k with
  | true =>
   simp only[A2];cases h2:Nat.beq j k with
   | true=>have:=CE h2;subst this;simp[hp]
   | false=>exact ih j
  | false =>
   simp only[A2];rw[ih j];cases h2:Nat.beq j k with
   | true=>have:=CE h2;subst this;simp[hp]
   | false=>rfl
def EF:KV->Bool
 | .un=>true
 | _=>false
structure BQ (nt:Nat) (l:Sp):Prop where
 srt:(l.map (·.1)).Pairwise (· < ·)
 lt:∀ p∈l,p.1 < nt
 ok:∀ p∈l,p.2.ok
 nu:∀ p∈l,EF p.2=false
theorem BQ.nil (nt:Nat):BQ nt []:=⟨.nil,by simp,by simp,by simp⟩
theorem BQ.tail {nt:Nat} {p:Nat×KV} {l:Sp} (h:BQ nt (p :: l)):BQ nt l :=
 ⟨(cF.1 h.srt).2,fun q hq=>h.lt q (by simp[hq]),fun q hq=>h.ok q (by simp[hq]),fun q hq=>h.nu q (by simp[hq])⟩
theorem Sv {l:Sp} {i:Nat} (h:∀ p∈l,p.1≠i):A2 l i=.un:=by
 induction l with
 | nil=>rfl
 | cons p l ih =>
  obtain⟨k,u⟩:=p;simp only[A2];cases h2:Nat.beq i k with
  | true=>exact absurd (CE h2).symm (h (k,u) (by simp))
  | false=>exact ih fun q hq=>h q (by simp[hq])
theorem BQ.get_mem {nt:Nat} {l:Sp} (h:BQ nt l) {p:Nat×KV} (hp:p∈l):A2 l p.1=p.2:=by
 induction l with
 | nil=>cases hp
 | cons q l ih =>
  obtain⟨k,u⟩:=q;simp only[A2];rcases bH.1 hp with rfl | hp';·simp
  ·have h1:=(cF.1 h.srt).1 p.1 (bE.2 ⟨p,hp',rfl⟩);simp only at h1;cases h2:Nat.beq p.1 k with
   | true=>have:=CE h2;omega
   | false=>exact ih h.tail hp'
theorem Nh {l:Sp} {i:Nat} (h:A2 l i≠.un):(i,A2 l i)∈l:=by
 induction l with
 | nil=>exact absurd rfl h
 | cons p l ih =>
  obtain⟨k,u⟩:=p;simp only[A2] at h |-;cases h2:Nat.beq i k with
  | true=>have:=CE h2;subst this;simp
  | false=>rw[h2] at h;simp only at h |-;exact bM _ (ih h)
theorem WC (x:KV):x=.un\/x≠.un:=by cases x<;>simp
theorem BQ.get_ok {nt:Nat} {l:Sp} (h:BQ nt l) (i:Nat):(A2 l i).ok:=by
 rcases WC (A2 l i) with h1 | h1;·rw[h1];trivial
 ·exact h.ok _ (Nh h1)
theorem BQ.get_ge {nt:Nat} {l:Sp} (h:BQ nt l) {i:Nat} (hi:nt<=i):A2 l i=.un:=by
 rcases WC (A2 l i) with h1 | h1;·exact h1
 ·have:=h.lt _ (Nh h1);simp only at this;omega
theorem Pg {i:Nat} {v:KV}:∀ {l:Sp} {p:Nat×KV},p∈CR i v l->p=(i,v)\/p∈l:=by
 intro l;induction l with
 | nil=>intro p hp;simp[CR] at hp;exact .inl hp
 | cons q l ih =>
  obtain⟨k,u⟩:=q;intro p hp;simp only[CR] at hp;cases h:Nat.beq i k with
  | true =>
   rw[h] at hp;simp only[bH] at hp |-;rcases hp with rfl | hp;·exact .inl rfl
   ·exact .inr (.inr hp)
  | false =>
   rw[h] at hp;cases h3:Nat.blt i k with
   | true =>
    rw[h3] at hp;simp only[bH] at hp |-;rcases hp with rfl | hp | hp;·exact .inl rfl
    ·exact .inr (.inl hp)
    ·exact .inr (.inr hp)
   | false =>
    rw[h3] at hp;simp only[bH] at hp |-;rcases hp with rfl | hp;·exact .inr (.inl rfl)
    ·exact (ih hp).imp id .inr
theorem spPut_srt {i:Nat} {v:KV}:∀ {l:Sp},(l.map (·.1)).Pairwise (· < ·)->((CR i v l).map (·.1)).Pairwise (· < ·):=by
 intro l;induction l with
 | nil=>intro _;simp[CR]
 | cons q l ih =>
  obtain⟨k,u⟩:=q;intro h;have h1:=cF.1 h;simp only[CR];cases h2:Nat.beq i k with
  | true =>
   have:=CE h2;subst this;exact cF.2 ⟨h1.1,h1.2⟩
  | false =>
   cases h3:Nat.blt i k with
   | true =>
    have h4:i < k:=by simpa[cG] using h3
    refine cF.2 ⟨fun a ha=>?_,h⟩;simp only[bz,bH] at ha;rcases ha with rfl | ha;·exact h4
    ·exact Nat.lt_trans h4 (h1.1 a ha)
   | false =>
    have h5:=Gx h2;have h4:¬ i < k:=by intro h6;rw[show Nat.blt i k=true by simpa[cG] using h6] at h3;cases h3
    refine cF.2 ⟨fun a ha=>?_,ih h1.2⟩;obtain⟨p,hp,rfl⟩:=bE.1 ha;rcases Pg hp with rfl | hp;·simp only;omega
    ·exact h1.1 _ (bE.2 ⟨p,hp,rfl⟩)
theorem BQ.put {nt:Nat} {l:Sp} (h:BQ nt l) {i:Nat} (hi:i < nt) {v:KV} (hv:v.ok) (hu:EF v=false):BQ nt (CR i v l) where
 srt:=spPut_srt h.srt
 lt p hp:=(Pg hp).elim (fun e=>by rw[e];exact hi) (h.lt p)
 ok p hp:=(Pg hp).elim (fun e=>by rw[e];exact hv) (h.ok p)
 nu p hp:=(Pg hp).elim (fun e=>by rw[e];exact hu) (h.nu p)
theorem spOut_sub (i:Nat):∀ (l:Sp),(JP i l).Sublist l:=by
 intro l;induction l with
 | nil=>exact .slnil
 | cons q l ih =>
  obtain⟨k,u⟩:=q;simp only[JP];cases Nat.beq i k with
  | true=>exact .cons _ ih
  | false=>exact .cons_cons _ ih
theorem ZK (p:Nat->Bool):∀ (l:Sp),(FD p l).Sublist l:=by
 intro l;induction l with
 | nil=>exact .slnil
 | cons q l ih =>
  obtain⟨k,u⟩:=q;simp only[FD];cases p k with
  | true=>exact .cons_cons _ ih
  | false=>exact .cons _ ih
theorem BQ.sub {nt:Nat} {l l':Sp} (h:BQ nt l) (hs:l'.Sublist l):BQ nt l' :=
 ⟨h.srt.sublist (hs.map _),fun p hp=>h.lt p (hs.subset hp),fun p hp=>h.ok p (hs.subset hp),fun p hp=>h.nu p (hs.subset hp)⟩
theorem BQ.set {nt:Nat} {l:Sp} (h:BQ nt l) {i:Nat} (hi:i < nt) {v:KV} (hv:v.ok):BQ nt (MC i v l):=by
 unfold MC;split;·exact h.sub (spOut_sub i l)
 ·rename_i hu;refine h.put hi hv ?_;cases v<;>simp_all [EF]
theorem ZJ (f:KV->KV):∀ (l:Sp),((DG f l).map (·.1)).Sublist (l.map (·.1)):=by
 intro l;induction l with
 | nil=>exact .slnil
 | cons q l ih =>
  obtain⟨k,u⟩:=q;simp only[DG];split;·exact .cons _ ih
  ·exact .cons_cons _ ih
theorem Ph {f:KV->KV}:∀ {l:Sp} {p:Nat×KV},p∈DG f l->∃ q∈l,p=(q.1,f q.2)/\EF p.2=false:=by
 intro l;induction l with
 | nil=>intro p hp;cases hp
 | cons q l ih =>
  obtain⟨k,u⟩:=q;intro p hp;simp only[DG] at hp;split at hp;·obtain⟨q,hq,h⟩:=ih hp;exact⟨q,by simp[hq],h⟩
  ·rename_i hne;rcases bH.1 hp with rfl | hp;·exact⟨(k,u),by simp,rfl,by cases hf:f u<;>simp_all [EF]⟩
   ·obtain⟨q,hq,h⟩:=ih hp;exact⟨q,by simp[hq],h⟩
theorem BQ.map {nt:Nat} {l:Sp} (h:BQ nt l) {f:KV->KV} (hf:∀ x:KV,x.ok->(f x).ok):BQ nt (DG f l) where
 srt:=h.srt.sublist (ZJ f l)
 lt p hp:=by obtain⟨q,hq,rfl,_⟩:=Ph hp;exact h.lt q hq
 ok p hp:=by obtain⟨q,hq,rfl,_⟩:=Ph hp;exact hf _ (h.ok q hq)
 nu p hp:=by obtain⟨q,hq,_,h⟩:=Ph hp;exact h
theorem VP {nt:Nat} {f:KV->KV} (hf:f .un=.un):∀ {l:Sp} (_:BQ nt l) (i:Nat),A2 (DG f l) i=f (A2 l i):=by
 intro l;induction l with
 | nil=>intro _ i;simp[DG,A2,hf]
 | cons q l ih =>
  obtain⟨k,u⟩:=q;intro h i;have h1:=cF.1 h.srt;simp only[DG,A2];split
  ·rename_i hu;cases h2:Nat.beq i k with
   | true =>
    have:=CE h2;subst this;simp only
    rw[hu];refine Sv fun p hp=>?_;obtain⟨q,hq,rfl,_⟩:=Ph hp;have:=h1.1 q.1 (bE.2 ⟨q,hq,rfl⟩);simp only at this |-;omega
   | false=>exact ih h.tail i
  ·simp only[A2];cases h2:Nat.beq i k with
   | true=>rfl
   | false=>exact ih h.tail i
theorem spHas_iff {l:Sp} {i:Nat}:Gg l i=true↔∃ p∈l,p.1=i:=by
 induction l with
 | nil=>simp[Gg]
 | cons q l ih =>
  obtain⟨k,u⟩:=q;simp only[Gg];cases h2:Nat.beq i k with
  | true=>simp[CE h2]
  | false=>simp[ih,cn (Gx h2)]
theorem YT {l:Sp} {nm:Nm}:nm∈Fe l↔∃ p∈l,nm∈p.2.names:=by
 induction l with
 | nil=>simp[Fe]
 | cons q l ih=>obtain⟨k,u⟩:=q;simp[Fe,ih]
theorem BQ.has_iff {nt:Nat} {l:Sp} (h:BQ nt l) (i:Nat):Gg l i=true↔A2 l i≠.un:=by
 rw[spHas_iff];constructor
 ·rintro ⟨p,hp,rfl⟩ hu;rw[h.get_mem hp] at hu;have:=h.nu p hp;rw[hu] at this;cases this
 ·intro hu;exact⟨_,Nh hu,rfl⟩
theorem dense_get? (nt:Nat) (l:Sp) (i:Nat):(BB nt l)[i]?=if i < nt then some (A2 l i).pv else none:=by
 unfold BB;rw[bK];split;·rename_i h;rw[cX h];rfl
 ·rename_i h;rw[cf (by simpa using h)];rfl
theorem D3 (nt:Nat) (l:Sp):(BB nt l).length=nt:=by simp[BB]
theorem Kk {nt:Nat} {l:Sp} (h:BQ nt l) (i:Nat):(BB nt l).getD i .undef=(A2 l i).pv:=by
 rw[bI,dense_get?];split;·rfl
 ·rename_i hi;rw[h.get_ge (by omega)];rfl
theorem Ko {nt:Nat} {l:Sp} {xs:List PV} (hl:xs.length=nt) (h:∀ i,i < nt->xs[i]?=some (A2 l i).pv):BB nt l=xs:=by
 apply ct;intro i;rw[dense_get?];split;·rename_i hi;exact (h i hi).symm
 ·rename_i hi;rw[cf (by omega)]
theorem Wt {nt:Nat} {l:Sp} (d:Nat) (v:KV):BB nt (MC d v l)=(BB nt l).set d v.pv:=by
 refine Ko (by simp[D3]) fun i hi=>?_;rw[dS,D3,dense_get?,spGet_set];by_cases h:d=i
 ·subst h;simp[hi]
 ·simp[h,cn h,hi]
theorem PA {nt:Nat} {l:Sp} (d:Nat) (v:KV):BB nt (CR d v l)=(BB nt l).set d v.pv:=by
 refine Ko (by simp[D3]) fun i hi=>?_;rw[dS,D3,dense_get?,Su];by_cases h:d=i
 ·subst h;simp[hi]
 ·simp[h,cn h,hi]
theorem PB {nt:Nat} {l:Sp} (h:BQ nt l) {f:KV->KV} {g:Nm->Option (Option Ob)} (hu:f .un=.un) (hf:∀ x:KV,x.ok->(f x).pv=x.pv.sub g) :
  BB nt (DG f l)=AX g (BB nt l):=by
 refine Ko (by rw[OW,D3]) fun i hi=>?_;rw[subL_getElem?,dense_get?,VP hu h,if_pos hi,hf _ (h.get_ok i)];rfl
theorem Y2 (f:Nm->Nm) (xs:List PV):(Bt f xs).length=xs.length:=by
 induction xs with
 | nil=>rfl
 | cons x xs ih=>simp[Bt,ih]
theorem renL_getElem? (f:Nm->Nm) (xs:List PV) (i:Nat):(Bt f xs)[i]?=(xs[i]?).map (PV.ren f):=by
 induction xs generalizing i with
 | nil=>rfl
 | cons x xs ih=>cases i<;>simp[Bt,ih]
theorem Pz {nt:Nat} {l:Sp} (h:BQ nt l) (f:Nm->Nm):BB nt (DG (KV.ren f) l)=Bt f (BB nt l):=by
 refine Ko (by rw[Y2,D3]) fun i hi=>?_;rw[renL_getElem?,dense_get?,VP (by simp[KV.ren]) h,if_pos hi,KV.ren_pv f (h.get_ok i)];rfl
theorem O1 {nt:Nat} {l:Sp} (h:BQ nt l) (nm:Nm):nm∈AQ (BB nt l)↔nm∈Fe l:=by
 have hm:∀ (xs:List PV),nm∈AQ xs↔∃ x∈xs,nm∈x.names:=by
  intro xs;induction xs with
  | nil=>simp[AQ]
  | cons x xs ih=>simp[AQ,ih]
 rw[hm,YT];constructor
 ·rintro ⟨x,hx,hn⟩;obtain⟨i,hi⟩:=List.getElem?_of_mem hx;rw[dense_get?] at hi;split at hi
  ·cases hi;rw[KV.pv_names (h.get_ok i)] at hn;have hne:A2 l i≠.un:=by intro hu;rw[hu] at hn;simp[KV.names] at hn
   exact⟨_,Nh hne,hn⟩
  ·cases hi
 ·rintro ⟨p,hp,hn⟩;have:=h.get_mem hp;refine⟨p.2.pv,bQ (i:=p.1) ?_,?_⟩;·rw[dense_get?,if_pos (h.lt p hp),this]
  ·rw[KV.pv_names (h.ok p hp)];exact hn
def Aj.ok:Aj->Prop
 | .cells _ cs=>A4 cs
 | .whole _ v=>okV v=true
 | .arr _ _ xs=>Ao xs=true
 | .map es=>Ao es=true
 | .siter _ _=>True
structure BM (nt:Nat) (l:A6):Prop where
 srt:(l.map (·.1)).Pairwise (· < ·)
 lt:∀ p∈l,p.1 < nt
 ok:∀ p∈l,∀ o∈p.2,o.ok
theorem BM.nil (nt:Nat):BM nt []:=⟨.nil,by simp,by simp⟩
theorem BM.tail {nt:Nat} {p:Nat×List Aj} {l:A6} (h:BM nt (p :: l)):BM nt l :=
 ⟨(cF.1 h.srt).2,fun q hq=>h.lt q (by simp[hq]),fun q hq=>h.ok q (by simp[hq])⟩
theorem Aj.ob_names {o:Aj} (h:o.ok):o.ob.names=o.names:=by
 cases o with
 | cells ty cs=>exact FA h
 | whole ty v=>exact (CL (Dm h)).1
 | _=>rfl
theorem soGet_put (i:Nat) (v:List Aj):∀ (l:A6) (j:Nat),A9 (Ep i v l) j=if j=i then v else A9 l j:=by
 intro l;induction l with
 | nil =>
  intro j;simp only[Ep,A9];cases h:Nat.beq j i with
  | true=>simp[CE h]
  | false=>simp[Gx h]
 | cons p l ih =>
  obtain⟨k,u⟩:=p;intro j;simp only[Ep];cases h:Nat.beq i k with
  | true =>
   have:=CE h;subst this;simp only[A9];cases h2:Nat.beq j i with
   | true=>simp[CE h2]
   | false=>simp[Gx h2]
  | false =>
   cases h3:Nat.blt i k with
   | true =>
    simp only[A9];cases h2:Nat.beq j i with
    | true=>simp[CE h2]
    | false=>simp[Gx h2]
   | false =>
    simp only[A9];cases h2:Nat.beq j k with
    | true =>
     have h4:=CE h2;have h5:=Gx h;subst h4;simp[cn h5]
    | false=>exact ih j
theorem ZP (p:Nat->Bool):∀ (l:A6) (j:Nat),A9 (Jv p l) j=if p j=true then A9 l j else []:=by
 intro l;induction l with
 | nil=>intro j;simp[Jv,A9]
 | cons q l ih =>
  obtain⟨k,u⟩:=q;intro j;simp only[Jv];cases hp:p k with
  | true =>
   simp only[A9];cases h2:Nat.beq j k with
   | true=>have:=CE h2;subst this;simp[hp]
   | false=>exact ih j
  | false =>
   simp only[A9];rw[ih j];cases h2:Nat.beq j k with
   | true=>have:=CE h2;subst this;simp[hp]
   | false=>rfl
theorem soGet_map (f:Aj->Aj):∀ (l:A6) (j:Nat),A9 (EY f l) j=(A9 l j).map f:=by
 intro l;induction l with
 | nil=>intro j;simp[EY,A9]
 | cons q l ih =>
  obtain⟨k,u⟩:=q;intro j;simp only[EY,A9];cases h2:Nat.beq j k with
  | true=>rfl
  | false=>exact ih j
theorem LD {l:A6} {i:Nat} (h:A9 l i≠[]):(i,A9 l i)∈l:=by
 induction l with
 | nil=>exact absurd rfl h
 | cons p l ih =>
  obtain⟨k,u⟩:=p;simp only[A9] at h |-;cases h2:Nat.beq i k with
  | true=>have:=CE h2;subst this;simp
  | false=>rw[h2] at h;simp only at h |-;exact bM _ (ih h)
theorem BM.get_mem {nt:Nat} {l:A6} (h:BM nt l) {p:Nat×List Aj} (hp:p∈l):A9 l p.1=p.2:=by
 induction l with
 | nil=>cases hp
 | cons q l ih =>
  obtain⟨k,u⟩:=q;simp only[A9];rcases bH.1 hp with rfl | hp';·simp
  ·have h1:=(cF.1 h.srt).1 p.1 (bE.2 ⟨p,hp',rfl⟩);simp only at h1;cases h2:Nat.beq p.1 k with
   | true=>have:=CE h2;omega
   | false=>exact ih h.tail hp'
theorem BM.get_ok {nt:Nat} {l:A6} (h:BM nt l) {i:Nat} {o:Aj} (ho:o∈A9 l i):o.ok:=by
 have:A9 l i≠[]:=by intro h1;rw[h1] at ho;cases ho
 exact h.ok _ (LD this) o ho
theorem BM.get_ge {nt:Nat} {l:A6} (h:BM nt l) {i:Nat} (hi:nt<=i):A9 l i=[]:=by
 by_cases h1:A9 l i=[]
 ·exact h1
 ·have:=h.lt _ (LD h1);simp only at this;omega
theorem Sw {i:Nat} {v:List Aj}:∀ {l:A6} {p:Nat×List Aj},p∈Ep i v l->p=(i,v)\/p∈l:=by
 intro l;induction l with
 | nil=>intro p hp;simp[Ep] at hp;exact .inl hp
 | cons q l ih =>
  obtain⟨k,u⟩:=q;intro p hp;simp only[Ep] at hp;cases h:Nat.beq i k with
  | true =>
   rw[h] at hp;simp only[bH] at hp |-;rcases hp with rfl | hp;·exact .inl rfl
   ·exact .inr (.inr hp)
  | false =>
   rw[h] at hp;cases h3:Nat.blt i k with
   | true =>
    rw[h3] at hp;simp only[bH] at hp |-;rcases hp with rfl | hp | hp;·exact .inl rfl
    ·exact .inr (.inl hp)
    ·exact .inr (.inr hp)
   | false =>
    rw[h3] at hp;simp only[bH] at hp |-;rcases hp with rfl | hp;·exact .inr (.inl rfl)
    ·exact (ih hp).imp id .inr
theorem soPut_srt {i:Nat} {v:List Aj}:∀ {l:A6},(l.map (·.1)).Pairwise (· < ·)->((Ep i v l).map (·.1)).Pairwise (· < ·):=by
 intro l;induction l with
 | nil=>intro _;simp[Ep]
 | cons q l ih =>
  obtain⟨k,u⟩:=q;intro h;have h1:=cF.1 h;simp only[Ep];cases h2:Nat.beq i k with
  | true =>
   have:=CE h2;subst this;exact cF.2 ⟨h1.1,h1.2⟩
  | false =>
   cases h3:Nat.blt i k with
   | true =>
    have h4:i < k:=by simpa[cG] using h3
    refine cF.2 ⟨fun a ha=>?_,h⟩;simp only[bz,bH] at ha;rcases ha with rfl | ha;·exact h4
    ·exact Nat.lt_trans h4 (h1.1 a ha)
   | false =>
    have h5:=Gx h2;have h4:¬ i < k:=by intro h6;rw[show Nat.blt i k=true by simpa[cG] using h6] at h3;cases h3
    refine cF.2 ⟨fun a ha=>?_,ih h1.2⟩;obtain⟨p,hp,rfl⟩:=bE.1 ha;rcases Sw hp with rfl | hp;·simp only;omega
    ·exact h1.1 _ (bE.2 ⟨p,hp,rfl⟩)
theorem BM.put {nt:Nat} {l:A6} (h:BM nt l) {i:Nat} (hi:i < nt) {v:List Aj} (hv:∀ o∈v,o.ok):BM nt (Ep i v l) where
 srt:=soPut_srt h.srt
 lt p hp:=(Sw hp).elim (fun e=>by rw[e];exact hi) (h.lt p)
 ok p hp:=(Sw hp).elim (fun e=>by rw[e];exact hv) (h.ok p)
theorem ZN (p:Nat->Bool):∀ (l:A6),(Jv p l).Sublist l:=by
 intro l;induction l with
 | nil=>exact .slnil
 | cons q l ih =>
  obtain⟨k,u⟩:=q;simp only[Jv];cases p k with
  | true=>exact .cons_cons _ ih
  | false=>exact .cons _ ih
theorem BM.sub {nt:Nat} {l l':A6} (h:BM nt l) (hs:l'.Sublist l):BM nt l' :=
 ⟨h.srt.sublist (hs.map _),fun p hp=>h.lt p (hs.subset hp),fun p hp=>h.ok p (hs.subset hp)⟩
theorem ZM (f:Aj->Aj):∀ (l:A6),(EY f l).map (·.1)=l.map (·.1):=by
 intro l;induction l with
 | nil=>rfl
 | cons q l ih=>obtain⟨k,u⟩:=q;simp[EY,ih]
theorem VQ {f:Aj->Aj}:∀ {l:A6} {p:Nat×List Aj},p∈EY f l->∃ q∈l,p=(q.1,q.2.map f):=by
 intro l;induction l with
 | nil=>intro p hp;cases hp
 | cons q l ih =>
  obtain⟨k,u⟩:=q;intro p hp;rcases bH.1 hp with rfl | hp;·exact⟨(k,u),by simp,rfl⟩
  ·obtain⟨q,hq,h⟩:=ih hp;exact⟨q,by simp[hq],h⟩
theorem BM.map {nt:Nat} {l:A6} (h:BM nt l) {f:Aj->Aj} (hf:∀ x:Aj,x.ok->(f x).ok):BM nt (EY f l) where
 srt:=by rw[ZM];exact h.srt
 lt p hp:=by obtain⟨q,hq,rfl⟩:=VQ hp;exact h.lt q hq
 ok p hp o ho:=by
  obtain⟨q,hq,rfl⟩:=VQ hp;obtain⟨o',ho',rfl⟩:=bE.1 ho;exact hf _ (h.ok q hq o' ho')
theorem YV {l:A6} {nm:Nm}:nm∈Hp l↔∃ p∈l,∃ o∈p.2,nm∈o.names:=by
 induction l with
 | nil=>simp[Hp]
 | cons q l ih=>obtain⟨k,u⟩:=q;simp[Hp,ih]
theorem denseO_get? (nt:Nat) (l:A6) (i:Nat):(Cq nt l)[i]?=if i < nt then some ((A9 l i).map Aj.ob) else none:=by
 unfold Cq;rw[bK];split;·rename_i h;rw[cX h];rfl
 ·rename_i h;rw[cf (by simpa using h)];rfl
theorem HM (nt:Nat) (l:A6):(Cq nt l).length=nt:=by simp[Cq]
theorem Km {nt:Nat} {l:A6} {xs:List (List Ob)} (hl:xs.length=nt) (h:∀ i,i < nt->xs[i]?=some ((A9 l i).map Aj.ob)):Cq nt l=xs:=by
 apply ct;intro i;rw[denseO_get?];split;·rename_i hi;exact (h i hi).symm
 ·rename_i hi;rw[cf (by omega)]
theorem Kl {nt:Nat} {l:A6} (d:Nat) (v:List Aj):Cq nt (Ep d v l)=(Cq nt l).set d (v.map Aj.ob):=by
 refine Km (by simp[HM]) fun i hi=>?_;rw[dS,HM,denseO_get?,soGet_put];by_cases h:d=i
 ·subst h;simp[hi]
 ·simp[h,cn h,hi]
theorem Pe {nt:Nat} {l:A6} (h:BM nt l) {f:Aj->Aj} {g:Ob->Ob} (hf:∀ x:Aj,x.ok->(f x).ob=g x.ob):Cq nt (EY f l)=(Cq nt l).map (·.map g):=by
 refine Km (by simp[HM]) fun i hi=>?_;rw[bK,denseO_get?,if_pos hi,soGet_map];simp only[bU,cc,bG];apply ci;intro o ho;simp[hf o (h.get_ok ho)]
theorem Zu {nt:Nat} {l:A6} (h:BM nt l) (nm:Nm):Ak (Cq nt l) nm=(Bk l nm).map Aj.ob:=by
 unfold Ak Bk;rw[denseO_get?];split
 ·rename_i x hx;split at hx;·cases hx;rw[bK]
  ·cases hx
 ·rename_i hx;split at hx;·cases hx
  ·rw[h.get_ge (by omega)];rfl
theorem PL {nt:Nat} {l:A6} (h:BM nt l) {nm:Nm} {o:Aj} (ho:Bk l nm=some o):nm.1 < nt:=by
 apply cM;intro hn;unfold Bk at ho;rw[h.get_ge (by omega)] at ho;cases ho
theorem DA {nt:Nat} {l:A6} (h:BM nt l) {nm:Nm} {o:Aj} (ho:Bk l nm=some o):o.ok:=h.get_ok (bQ ho)
theorem M6 {nt:Nat} {l:A6} (h:BM nt l) (nm:Nm) (o:Aj):Cq nt (kput l nm o)=Bi (Cq nt l) nm o.ob:=by
 unfold kput Bi;cases hk:Bk l nm with
 | some o' =>
  have hlt:=PL h hk;simp only
  rw[Kl,denseO_get?,if_pos hlt];simp[dD]
 | none =>
  simp only
  rw[denseO_get?];split
  ·rename_i x hx;split at hx
   ·cases hx
    have h1:((A9 l nm.1).map Aj.ob).set nm.2 o.ob=(A9 l nm.1).map Aj.ob:=by
     rw[eC];have:=co.1 hk;simpa using this
    rw[h1];refine Km (by simp[HM]) fun i hi=>?_;rw[dS,HM,denseO_get?];by_cases h2:nm.1=i
    ·subst h2;simp[hi]
    ·simp[h2,hi]
   ·cases hx
  ·rfl
theorem BM.kput {nt:Nat} {l:A6} (h:BM nt l) (nm:Nm) {o:Aj} (ho:o.ok):BM nt (kput l nm o):=by
 unfold Go.Ab.kput;cases hk:Bk l nm with
 | some o' =>
  refine h.put (PL h hk) fun x hx=>?_;rcases dW hx with h1 | rfl;·exact h.get_ok h1
  ·exact ho
 | none=>exact h
theorem UB {nt:Nat} {l:A6} (h:BM nt l) (nm:Nm):nm∈(Cq nt l).flatMap (fun l=>l.flatMap Ob.names)↔nm∈Hp l:=by
 rw[YV];simp only[dh];constructor
 ·rintro ⟨x,hx,ob,hob,hn⟩;obtain⟨i,hi⟩:=List.getElem?_of_mem hx;rw[denseO_get?] at hi;split at hi
  ·cases hi;obtain⟨o,ho,rfl⟩:=bE.1 hob;rw[Aj.ob_names (h.get_ok ho)] at hn;have:A9 l i≠[]:=by intro h1;rw[h1] at ho;cases ho
   exact⟨_,LD this,o,ho,hn⟩
  ·cases hi
 ·rintro ⟨p,hp,o,ho,hn⟩;have:=h.get_mem hp;refine⟨p.2.map Aj.ob,bQ (i:=p.1) ?_,o.ob,bE.2 ⟨o,ho,rfl⟩,?_⟩;·rw[denseO_get?,if_pos (h.lt p hp),this]
  ·rw[Aj.ob_names (h.ok p hp o ho)];exact hn
end Go.Ab


namespace Go.Ab
mutual
theorem SF {R:Type}:∀ (x:KV) (K:KV->R),JF x K=K x
 | .un,_ | .sk,_ | .nils,_ | .cv _,_ | .yld _,_=>rfl
 | .lit b,K=>by cases b<;>rfl
 | .ref nm _,_ | .aref nm _ _ _,_ | .arr nm _ _ _,_ | .mp nm,_ | .it nm,_ | .wit nm,_=>by cases nm;rfl
 | .agg cs,K=>by simp only[JF];rw[Nt cs]
 | .iface t x,K=>by simp only[JF];rw[SF x]
 | .fn f cap,K=>by simp only[JF];rw[Nt cap]
 | .tup xs,K=>by simp only[JF];rw[Nt xs]
theorem Nt {R:Type}:∀ (xs:List KV) (K:List KV->R),K0 xs K=K xs
 | [],_=>rfl
 | x :: xs,K=>by simp only[K0];rw[SF x,Nt xs]
end
theorem ay {R:Type} (x:Aj) (K:Aj->R):TA x K=K x:=by cases x<;>simp[TA,Nt]
theorem UR {R:Type}:∀ (xs:List Aj) (K:List Aj->R),PO xs K=K xs
 | [],_=>rfl
 | x :: xs,K=>by simp only[PO];rw[ay x,UR xs]
theorem Se {R:Type}:∀ (xs:Sp) (K:Sp->R),N3 xs K=K xs
 | [],_=>rfl
 |(j,x) :: xs,K=>by simp only[N3];rw[SF x,Se xs]
theorem Vp {R:Type}:∀ (xs:A6) (K:A6->R),P5 xs K=K xs
 | [],_=>rfl
 |(j,x) :: xs,K=>by simp only[P5];rw[UR x,Vp xs]
theorem Vq {R:Type}:∀ (xs:List Sp) (K:List Sp->R),P6 xs K=K xs
 | [],_=>rfl
 | x :: xs,K=>by simp only[P6];rw[Se x,Vq xs]
theorem DB {R:Type} (ks:Az) (K:Az->R):Da ks K=K ks:=by
 cases ks;simp only[Da];rw[Se,Vp,Vq]
structure Az.Ok (ks:Az):Prop where
 tm:BQ ks.nt ks.tmps
 ob:BM ks.nt ks.objs
 kp:∀ sp∈ks.keep,BQ ks.nt sp
theorem X4 (v:PV):(HK v).pv=v:=by
 unfold HK;split<;>simp[KV.pv,AJ]
theorem X5 {v:PV} (h:okV v=true):(HK v).ok:=by
 unfold HK;split;·trivial
 ·trivial
 ·trivial
 ·exact h
variable {ks:Az}
theorem GI (h:ks.Ok) (x:RX):x.ev ks.st.tmps=(x.kv ks.tmps).pv:=by
 cases x with
 | t i=>exact Kk h.tm i
 | c v=>exact (X4 v).symm
theorem MK (h:ks.Ok) {x:RX} (hx:Ew x=true):(x.kv ks.tmps).ok:=by
 cases x with
 | t i=>exact h.tm.get_ok i
 | c v=>exact X5 hx
theorem GY (h:ks.Ok) (nm:Nm):Ak ks.st.objs nm=(Bk ks.objs nm).map Aj.ob:=Zu h.ob nm
theorem Eh (h:ks.Ok):Ak ks.st.objs=fun nm=>(Bk ks.objs nm).map Aj.ob:=funext (GY h)
theorem Aj.off_ob (p:Nm->Bool) {o:Aj} (h:o.ok):(o.off p).ob=o.ob.sub (H3 p):=by
 cases o with
 | cells ty cs=>simp[Aj.off,Aj.ob,Ob.sub,NT p h]
 | whole ty v =>
  have:=(CL (Dm h)).1;simp only[Aj.off,Aj.ob,Ob.sub,CH];rw[subL_none this]
 | _=>rfl
where
 subL_none {xs:List PV} (h:AQ xs=[]):AX (H3 p) xs=xs:=by
  induction xs with
  | nil=>rfl
  | cons x xs ih =>
   simp[AQ] at h;simp[AX,Jf h.1,ih h.2]
theorem Aj.off_ok (p:Nm->Bool) {o:Aj} (h:o.ok):(o.off p).ok:=by
 cases o with
 | cells ty cs=>exact NU p h
 | _=>exact h
theorem UG (f:Nm->Option (Option Ob)) (xs ys:List PV):AX f (xs++ys)=AX f xs++AX f ys:=by
 induction xs with
 | nil=>rfl
 | cons x xs ih=>simp[AX,ih]
theorem PP {nt:Nat} {l:List Sp} {f:KV->KV} {g:List PV->List PV} (hg:g []=[]) (ha:∀ xs ys,g (xs++ys)=g xs++g ys) (h:∀ sp∈l,BB nt (DG f sp)=g (BB nt sp)) :
  (l.map (DG f)).flatMap (BB nt)=g (l.flatMap (BB nt)):=by
 induction l with
 | nil=>simp[hg]
 | cons x l ih =>
  simp only[bz,cH,ha];rw[h x (by simp),ih fun sp hsp=>h sp (by simp[hsp])]
theorem Tw (p:Nm->Bool) (h:ks.Ok):(Mu p ks).st=DF (H3 p) ks.st:=by
 unfold Mu Az.st DF;simp only
 rw[PB h.tm (by simp[KV.off]) (fun x hx=>KV.off_pv p hx),Pe h.ob (fun o ho=>Aj.off_ob p ho),
  PP (g:=AX (H3 p)) rfl (UG _) fun sp hsp=>PB (h.kp sp hsp) (by simp[KV.off]) fun x hx=>KV.off_pv p hx]
theorem Tx (p:Nm->Bool) (h:ks.Ok):(Mu p ks).Ok where
 tm:=h.tm.map fun x hx=>KV.off_ok p hx
 ob:=h.ob.map fun x hx=>Aj.off_ok p hx
 kp sp hsp:=by
  obtain⟨q,hq,rfl⟩:=bE.1 hsp;exact (h.kp q hq).map fun x hx=>KV.off_ok p hx
theorem Aj.close_ob (g:Nm->Option Ob) {o:Aj} (h:o.ok):o.close g=o.ob.sub (Eo g):=by
 cases o with
 | cells ty cs=>simp[Aj.close,Aj.ob,Ob.sub,LM g h]
 | whole ty v =>
  have:=(CL (Dm h)).1;simp only[Aj.close,Aj.ob,Ob.sub,CH];rw[subL_none this]
 | _=>rfl
where
 subL_none {xs:List PV} (h:AQ xs=[]):AX (Eo g) xs=xs:=by
  induction xs with
  | nil=>rfl
  | cons x xs ih =>
   simp[AQ] at h;simp[AX,Jf h.1,ih h.2]
theorem Sc {σ:Nm->Option Aj} (hσ:∀ nm o,σ nm=some o->o.ok):∀ (d:Nat) (nm:Nm),C5 σ d nm=(σ nm).map fun o=>H1 (fun nm=>(σ nm).map Aj.ob) d o.ob:=by
 intro d;induction d with
 | zero =>
  intro nm;unfold C5;cases h:σ nm with
  | none=>rfl
  | some o=>simp only[bU];rw[Aj.close_ob _ (hσ _ _ h)];rfl
 | succ d ih =>
  intro nm;unfold C5;cases h:σ nm with
  | none=>rfl
  | some o =>
   simp only[bU];rw[Aj.close_ob _ (hσ _ _ h)];congr 1;unfold H1;congr 1;funext m;unfold Eo;rw[ih m,eg];rfl
def Qg (σ:Nm->Option Aj):Prop:=∀ nm ty cs,σ nm=some (.cells ty cs)->Fl cs=false
theorem Lw {σ:Nm->Option Aj} (hσ:∀ nm o,σ nm=some o->o.ok) (hq:Qg σ):∀ (d:Nat) (nm:Nm) (ob:Ob),C5 σ d nm=some ob->ob.shut:=by
 intro d;induction d with
 | zero =>
  intro nm ob h;unfold C5 at h;cases ho:σ nm with
  | none=>rw[ho] at h;cases h
  | some o =>
   rw[ho] at h;cases h;have hok:=hσ _ _ ho;cases o with
   | cells ty cs=>exact (Je (fun _ _ h=>by cases h) hok (hq _ _ _ ho))
   | whole ty v=>exact (Dm hok)
   | arr k kt xs=>exact hok
   | map es=>exact hok
   | siter s pos=>trivial
 | succ d ih =>
  intro nm ob h;unfold C5 at h;cases ho:σ nm with
  | none=>rw[ho] at h;cases h
  | some o =>
   rw[ho] at h;cases h;have hok:=hσ _ _ ho;cases o with
   | cells ty cs=>exact (Je ih hok (hq _ _ _ ho))
   | whole ty v=>exact (Dm hok)
   | arr k kt xs=>exact hok
   | map es=>exact hok
   | siter s pos=>trivial
theorem Aj.frz_ob (p:Nm->Bool) (g:Nm->Option Ob) {o:Aj} (h:o.ok):(o.frz p g).ob=o.ob.sub (D8 p g):=by
 cases o with
 | cells ty cs=>simp[Aj.frz,Aj.ob,Ob.sub,N1 p g h]
 | whole ty v =>
  have:=(CL (Dm h)).1;simp only[Aj.frz,Aj.ob,Ob.sub,CH];rw[subL_none this]
 | _=>rfl
where
 subL_none {xs:List PV} (h:AQ xs=[]):AX (D8 p g) xs=xs:=by
  induction xs with
  | nil=>rfl
  | cons x xs ih =>
   simp[AQ] at h;simp[AX,Jf h.1,ih h.2]
theorem Aj.frz_ok {p:Nm->Bool} {g:Nm->Option Ob} (hg:∀ nm ob,g nm=some ob->ob.shut) {o:Aj} (h:o.ok):(o.frz p g).ok:=by
 cases o with
 | cells ty cs=>exact N2 hg h
 | _=>exact h
theorem kputs_ok {nt:Nat}:∀ (R:List Nm) {l:A6},BM nt l->BM nt (R.foldl (fun objs nm=>kput objs nm Gk) l):=by
 intro R;induction R with
 | nil=>intro l h;exact h
 | cons nm R ih=>intro l h;exact ih (h.kput nm (o:=Gk) rfl)
theorem kputs_st {nt:Nat}:∀ (R:List Nm) {l:A6},BM nt l->Cq nt (R.foldl (fun objs nm=>kput objs nm Gk) l)=R.foldl (fun objs nm=>Bi objs nm Bz) (Cq nt l):=by
 intro R;induction R with
 | nil=>intro l _;rfl
 | cons nm R ih =>
  intro l h;simp only[dA];rw[ih (h.kput nm (o:=Gk) rfl),M6 h];rfl
theorem Dg (h:ks.Ok):∀ nm o,Bk ks.objs nm=some o->o.ok:=fun _ _ ho=>DA h.ob ho
theorem ap (h:ks.Ok) (nm:Nm):Eo (C5 (Bk ks.objs) AU) nm=BJ (Ak ks.st.objs) nm:=by
 unfold Eo BJ;rw[Sc (Dg h),Eh h,eg];rfl
theorem kquiet_ok {l:A6} (h:ES l=true):∀ p∈l,∀ ty cs,Aj.cells ty cs∈p.2->Fl cs=false:=by
 induction l with
 | nil=>intro p hp;cases hp
 | cons q l ih =>
  obtain⟨k,u⟩:=q;simp only[ES,bB] at h;intro p hp ty cs hcs;rcases bH.1 hp with rfl | hp
  ·have:=bP.1 h.1 _ hcs;simpa using this
  ·exact ih h.2 p hp ty cs hcs
theorem M9 {l:A6} (h:ES l=true):Qg (Bk l):=by
 intro nm ty cs ho;have hm:A9 l nm.1≠[]:=by intro h1;unfold Bk at ho;rw[h1] at ho;cases ho
 exact kquiet_ok h _ (LD hm) ty cs (bQ ho)
theorem Zj {l:Az} (hl:l.Ok) {σ:Nm->Option Aj} (hσ:∀ nm o,σ nm=some o->o.ok) (hq:Qg σ) (R:List Nm) :
  (P2 σ R l).st=CD (fun nm=>(σ nm).map Aj.ob) R l.st:=by
 have hf:D8 (fun m=>R.contains m) (C5 σ AU)=fun m=>if R.contains m=true then BJ (fun nm=>(σ nm).map Aj.ob) m else none:=by
  funext m;unfold D8 BJ;rw[Sc hσ,eg];rfl
 unfold P2 CD DF Az.st;simp only
 rw[PB hl.tm (g:=D8 (fun m=>R.contains m) (C5 σ AU)) (by simp[KV.frz]) (fun x hx=>KV.frz_pv _ _ hx),
  kputs_st R (hl.ob.map fun x hx=>Aj.frz_ok (Lw hσ hq AU) hx),Pe hl.ob (fun o ho=>Aj.frz_ob _ _ ho),
  PP (g:=AX (D8 (fun m=>R.contains m) (C5 σ AU))) rfl (UG _) fun sp hsp=>PB (hl.kp sp hsp) (by simp[KV.frz]) fun x hx=>KV.frz_pv _ _ hx,hf]
theorem ao {l:Az} (hl:l.Ok) {σ:Nm->Option Aj} (hσ:∀ nm o,σ nm=some o->o.ok) (hq:Qg σ) (R:List Nm):(P2 σ R l).Ok where
 tm:=hl.tm.map fun x hx=>KV.frz_ok (Lw hσ hq AU) hx
 ob:=kputs_ok R (hl.ob.map fun x hx=>Aj.frz_ok (Lw hσ hq AU) hx)
 kp sp hsp:=by
  obtain⟨q,hq',rfl⟩:=bE.1 hsp;exact (hl.kp q hq').map fun x hx=>KV.frz_ok (Lw hσ hq AU) hx
structure Aw.Ok (o:Aw):Prop where
 v:o.v.ok
 new:∀ x∈o.new,x.ok
 upd:∀ nm x,o.upd=some (nm,x)->x.ok
 ups:∀ p∈o.ups,p.2.ok:=by simp
def Aw.out (o:Aw):AK:={v:=o.v.pv,new:=o.new.map Aj.ob,upd:=o.upd.map fun p=>(p.1,p.2.ob),kill:=o.kill,frz:=o.frz,gone:=o.gone,ups:=o.ups.map fun p=>(p.1,p.2.ob),io:=o.io,slot:=o.slot}
def Lt (u:Option (Nm×Ob)) (st:St):St :=
 match u with
 | some (nm,ob)=>{st with objs:=Bi st.objs nm ob}
 | none=>st
def Lk (k:Option Nm) (st:St):St :=
 match k with
 | some nm=>DF (fun m=>if m=nm then some none else none) st
 | none=>st
def Kb (dst:Option Nat) (v:PV) (new:List Ob) (st:St):St :=
 match dst with
 | some d=>{st with tmps:=st.tmps.set d v,objs:=if new.isEmpty then st.objs else st.objs.set d new}
 | none=>st
def MV (l:List Nm) (st:St):St:=if l.isEmpty then st else DF (fun m=>if l.contains m then some none else none) st
def Lj (l:List (Nm×Ob)) (st:St):St:=if l.isEmpty then st else {st with objs:=Fj l st.objs}
def bext (sl:Option Nat) (new:List Ob) (st:St):St :=
 match sl with
 | some r=>{st with objs:=st.objs.set r (st.objs.getD r []++new)}
 | none=>st
def Om (sl:Option Nat) (new:List Ob):List Ob :=
 match sl with
 | some _=>[]
 | none=>new
theorem Tl (st:St) (dst:Option Nat) (o:AK):apply st dst o=Kb dst o.v (Om o.slot o.new) (bext o.slot o.new<|Lj o.ups (MV o.gone (if o.frz.isEmpty then Lk o.kill (Lt o.upd st) else CD (Ak st.objs) o.frz (Lk o.kill (Lt o.upd st))))):=by
 unfold apply Kb Lk Lt MV Lj bext Om;cases dst<;>cases o.upd<;>cases o.kill<;>cases o.slot<;>rfl
theorem kups_ok {nt:Nat}:∀ (l:List (Nm×Aj)) {σ:A6},(∀ p∈l,p.2.ok)->BM nt σ->BM nt (kups l σ):=by
 intro l;induction l with
 | nil=>intro σ _ h;exact h
 | cons p l ih =>
  obtain⟨nm,o⟩:=p;intro σ hl h;exact ih (fun q hq=>hl q (bM _ hq)) (h.kput nm (hl (nm,o) bT))
theorem kups_st {nt:Nat}:∀ (l:List (Nm×Aj)) {σ:A6},(∀ p∈l,p.2.ok)->BM nt σ->Cq nt (kups l σ)=Fj (l.map fun p=>(p.1,p.2.ob)) (Cq nt σ):=by
 intro l;induction l with
 | nil=>intro σ _ h;rfl
 | cons p l ih =>
  obtain⟨nm,o⟩:=p;intro σ hl h;show Cq nt (kups l (kput σ nm o))=Fj (l.map fun p=>(p.1,p.2.ob)) (Bi (Cq nt σ) nm o.ob);rw[ih (fun q hq=>hl q (bM _ hq)) (h.kput nm (hl (nm,o) bT)),M6 h]
theorem RV (h:ks.Ok) {o:Aw} (hq:(o.frz.isEmpty||ES ks.objs)=true) (dst:Option Nat) (ho:o.Ok):(GE ks dst o).st=apply ks.st dst o.out/\(GE ks dst o).Ok:=by
 rw[Tl];unfold GE Aw.out;simp only
 have h1:(kupd o.upd ks).Ok/\(kupd o.upd ks).st=Lt (o.upd.map fun p=>(p.1,p.2.ob)) ks.st:=by
  cases hu:o.upd with
  | none=>exact⟨h,rfl⟩
  | some p =>
   obtain⟨nm,ob⟩:=p;refine⟨⟨h.tm,h.ob.kput nm (ho.upd _ _ hu),h.kp⟩,?_⟩;simp only[bU,kupd,Lt,Az.st];rw[M6 h.ob]
 rw[<-h1.2];generalize kupd o.upd ks=k1 at h1 |-
 have h2:(MN o.kill k1).Ok/\(MN o.kill k1).st=Lk o.kill k1.st:=by
  cases hu:o.kill with
  | none=>exact⟨h1.1,rfl⟩
  | some nm =>
   refine⟨Tx _ h1.1,?_⟩;simp only[MN,Lk];rw[Tw _ h1.1];congr 1;funext m;unfold H3;by_cases hm:m=nm
   ·simp[hm]
   ·simp[hm]
 rw[<-h2.2];generalize MN o.kill k1=k2 at h2 |-
 have h3:(OO (Bk ks.objs) o.frz k2).Ok/\(OO (Bk ks.objs) o.frz k2).st=(if o.frz.isEmpty=true then k2.st else CD (Ak ks.st.objs) o.frz k2.st):=by
  cases hf:o.frz with
  | nil=>exact⟨h2.1,rfl⟩
  | cons nm R =>
   have hq:ES ks.objs=true:=by rw[hf] at hq;simpa using hq
   refine⟨ao h2.1 (Dg h) (M9 hq) _,?_⟩;rw[Eh h];exact Zj h2.1 (Dg h) (M9 hq) _
 rw[<-h3.2];generalize OO (Bk ks.objs) o.frz k2=k4 at h3 |-
 have h5:(MO o.gone k4).Ok/\(MO o.gone k4).st=MV o.gone k4.st:=by
  cases hg:o.gone with
  | nil=>exact⟨h3.1,rfl⟩
  | cons nm l =>
   refine⟨Tx _ h3.1,?_⟩;simp only[MO,MV,List.isEmpty_cons,bA,if_false];rw[Tw _ h3.1];congr 1
 rw[<-h5.2];generalize MO o.gone k4=k5 at h5 |-
 have h6:(ML o.ups k5).Ok/\(ML o.ups k5).st=Lj (o.ups.map fun p=>(p.1,p.2.ob)) k5.st:=by
  refine⟨⟨h5.1.tm,kups_ok _ ho.ups h5.1.ob,h5.1.kp⟩,?_⟩
  have:∀ (l:List (Nm×Ob)) (s:St),Lj l s={s with objs:=Fj l s.objs}:=by
   intro l s;unfold Lj;split;·rename_i hl;rw[cD.1 hl];rfl
   ·rfl
  rw[this];simp only[ML,Az.st];rw[kups_st _ ho.ups h5.1.ob]
 rw[<-h6.2];generalize ML o.ups k5=k6 at h6 |-
 have h7:(kext o.slot o.new k6).Ok/\(kext o.slot o.new k6).st=bext o.slot (o.new.map Aj.ob) k6.st:=by
  cases hs:o.slot with
  | none=>exact⟨h6.1,rfl⟩
  | some r =>
   simp only[kext,bext];cases hr:Nat.blt r k6.nt with
   | true =>
    have hr':r < k6.nt:=by simpa[cG] using hr
    refine⟨⟨h6.1.tm,h6.1.ob.put hr' fun x hx=>?_,h6.1.kp⟩,?_⟩
    ·rcases bW.1 hx with hx | hx;·exact h6.1.ob.get_ok hx
     ·exact ho.new x hx
    ·unfold Az.st;simp only
     rw[Kl,di];congr 3;rw[bI,denseO_get?,if_pos hr'];rfl
   | false =>
    have hr':¬ r < k6.nt:=by intro h;rw[show Nat.blt r k6.nt=true by simpa[cG] using h] at hr;cases hr
    refine⟨h6.1,?_⟩;unfold Az.st;simp only
    rw[eC (by rw[HM];omega)]
 rw[<-h7.2];have hnew2:Om o.slot (o.new.map Aj.ob)=(OJ o.slot o.new).map Aj.ob:=by cases o.slot<;>rfl
 rw[hnew2]
 have honew:∀ x∈OJ o.slot o.new,x.ok:=by
  cases o.slot with
  | none=>exact ho.new
  | some r=>intro x hx;cases hx
 generalize OJ o.slot o.new=nw at honew |-;generalize kext o.slot o.new k6=k3 at h7 |-;obtain⟨ok3,_⟩:=h7;cases dst with
 | none=>exact⟨rfl,ok3⟩
 | some d =>
  simp only[kset,Kb];cases hd:Nat.blt d k3.nt with
  | true =>
   have hd':d < k3.nt:=by simpa[cG] using hd
   refine⟨?_,?_⟩
   ·unfold Az.st;simp only
    rw[Wt];cases hn:nw with
    | nil=>simp
    | cons x xs=>simp[Kl]
   ·refine⟨ok3.tm.set hd' ho.v,?_,ok3.kp⟩;simp only
    cases hn:nw with
    | nil=>exact ok3.ob
    | cons x xs=>rw[hn] at honew;exact ok3.ob.put hd' honew
  | false =>
   have hd':¬ d < k3.nt:=by intro h;rw[show Nat.blt d k3.nt=true by simpa[cG] using h] at hd;cases hd
   refine⟨?_,ok3⟩;unfold Az.st;simp only
   rw[eC (by rw[D3];omega)];split;·rfl
   ·rw[eC (by rw[HM];omega)]
end Go.Ab

