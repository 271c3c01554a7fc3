/- Part 5 of a proof: laws of a machine. -/
import Derived.Test.YtekfceoganklgaaGreatDoorK04
import Derived.Test.YtekfceoganklgaaGreatDoorK03
import Derived.RowKit
import Derived.Lib.AppendIntMem
import Derived.Lib.CountLaws
import Derived.Lib.Replace
import Derived.Lib.ItoaNum
import Derived.Conc.MuLone
import Derived.Lib.Join
import Derived.Test.YtekfceoganklgaaGreatDoorProg
import Derived.Test.YtekfceoganklgaaGreatDoorK01
import Derived.KernelRfl
import Derived.Lib.IndexMore
import Derived.Lib.ParseIntB
import Derived.Lib.ConvBytes
import Derived.IntWalk
import Derived.WalkKit
import Derived.LaidEql
import Derived.Stop.Asserts
import Derived.RowKitTokens
import Derived.Lib.Builder
import Derived.Lib.UnsafeStr
import Derived.Lib.Bytealg
import Derived.Lib.AppendZerosOnto
import Derived.Lib.Walk
import Derived.Lib.SliceRun
import Derived.Laws.Externs
import Derived.Shelf.RegionOpenPlain
import Derived.Shelf.Strconv.Itoa3
import Derived.Shelf.Strconv.Itoa4
import Derived.Shelf.Strings.OnBuilder
import Derived.Shelf.Strings.Replace
import Derived.Shelf.Strings.Count
import Derived.Shelf.Strings.Search2
import Derived.Shelf.Strconv.ParseIntPublic10
import Derived.Lib.Strings
import Derived.Laws.LoneSync
set_option linter.all false

namespace Go.Ab
variable{E R:Type} {M:AK} {T:lS} {d dep nt:Nat} {l:lU} {op:An} {ops:l8} {σ:Nm->lV} {K:Nat->Option R} {h:AF E} {r:R}
variable {cfg:Dr} {mq:lL->l6}
theorem w7 (hp:NM op=true) {out:Al} (h:exec d σ T op=some out):out={v:=out.v}:=by
 have hm:∀ {x:mc},(x.map fun v=>({v:=v}:Al))=some out->out={v:=out.v}:=by intro x O;obtain⟨v,_,rfl⟩:=ij.1 O;rfl
 have hcm:∀ {b:Bool} {x:mc},Av b (x.map fun v=>({v:=v}:Al))=some out->out={v:=out.v}:=by intro b x O;exact hm (Dh O).2
 have hc:∀ {b:Bool} {v:PV},Av b (some ({v:=v}:Al))=some out->out={v:=out.v}:=by intro b v O;obtain⟨_,O⟩:=Dh O;cases O;rfl
 cases op with
 | box | alloc | qf | store | mkF | mkMap | insert | uN | append | copy | call | iter | next | bad=>simp[NM] at hp
 | mov x=>cases h;rfl
 | mkI t x=>cases h;rfl
 | bin op c pU x y=>exact hm h
 | slice k x lo hi mx=>exact hm h
 | len c x =>
  simp only[exec] at h;obtain⟨n,_,rfl⟩:=ij.1 h;rfl
 | pick c a b | conv k x | oe x | pt x | un op x | nilck x=>simp only[exec] at h;split at h<;>first | (cases h;rfl) | cases h
 | build z ps=>simp only[exec] at h;split at h<;>first | (cases h;rfl) | cases h
 | nS x=>simp only[exec] at h;split at h<;>first | exact hc h | cases h
 | field off n ag x=>simp only[exec] at h;split at h<;>first | exact hm h | cases h
 | fieldAddr off x=>simp only[exec] at h;split at h<;>first | exact hc h | (cases h;rfl) | cases h
 | nL k l x i=>simp only[exec] at h;split at h<;>first | exact hc h | cases h
 | ofBytes x | oE x i | extract j x | nQ mx Z | mw k x i | nB x lo hi =>
  simp only[exec] at h;split at h
  all_goals first
   |(cases h;done)
   | exact hc h
   |(obtain⟨n,_,rfl⟩:=ij.1 h;rfl)
   |(split at h<;>first | (cases h;done) | exact hc h | (cases h;rfl) | (split at h<;>first | (cases h;done) | (cases h;rfl)))
 | nJ t z ok x =>
  simp only[exec] at h;split at h
  ·split at h;·cases h;rfl
   {exact hc h}
  {exact hc h};·cases h
 | lookup c z ok x k =>
  simp only[exec] at h;split at h;·cases h
  ·split at h;·cases h
   {exact hc h}
 | load n ag x =>
  simp only[exec] at h;split at h;{split at h;{exact hm h};·cases h};{exact hm h};{split at h;{split at h;{exact hcm h};·cases h};{cases h}};{cases h}
theorem W6 (V:St) (dst:lT) (v:PV):apply V dst {v}=LF dst v [] V:=by rw[Vd];simp[MB,MO,Ox,MA,wK,PO]
theorem w8:∀ (l:l8),(∀ o∈l,NM o.op=true)->∀ {V st':St} {e e':E},Dy M h dep ops l V e=some (st',e') ->
  e'=e/\st'.mi=V.mi/\st'.mj=V.mj/\st'.tmps.length=V.tmps.length/\∀ i,i ∉ l.filterMap (·.dst)->st'.tmps[i]?=V.tmps[i]?:=by
 intro l;induction l with
 | nil=>intro _ V st' e e' h;cases h;exact⟨rfl,rfl,rfl,rfl,fun _ _=>rfl⟩
 | cons o rest ih =>
  intro hp V st' e e' h;simp only[Dy] at h;split at h
  case h_2=>cases h
  rename_i s1 e1 hs;have nk:e1=e/\∃ v,s1=LF o.dst v [] V:=by unfold stepG at hs;split at hs;{unfold IA at hs;split at hs;{rename_i out e2 ho;cases hs;unfold By at ho;obtain⟨_,ho⟩:=Dh ho;have hpo:=hp o (by simp);split at ho;{rename_i f args qk;rw[qk] at hpo;simp[NM] at hpo};{split at ho;{rename_i rF O;cases ho;have:=w7 hpo O;refine⟨rfl,out.v,?_⟩;rw[this,W6]};{cases ho}}};{cases hs}};{cases hs;exact⟨rfl,_,W6 _ _ _⟩};{cases hs}
  obtain⟨rfl,v,rfl⟩:=nk;obtain⟨a,b,c,d,f⟩:=ih (fun o' sf=>hp o' (by simp[sf])) h;refine⟨a,?_,?_,?_,?_⟩;{rw[b];cases o.dst<;>rfl};{rw[c];cases o.dst<;>rfl};{rw[d];cases o.dst<;>simp[LF]}
  ·intro i hi
   have zq:i ∉ rest.filterMap (·.dst):=fun hm=>hi (by
    simp only[kz] at hm |-;obtain⟨o',sf,hd⟩:=hm;exact⟨o',by simp[sf],hd⟩)
   rw[f i zq];cases hd:o.dst with
   | none=>rfl
   | some t =>
    have mP:t≠i:=fun e=>hi (by
     simp only[kz];exact⟨o,by simp,by rw[hd,e]⟩)
    simp only[LF];rw[iI mP]
theorem eS {V st':St} (U:st'.mi=V.mi) (H:st'.mj=V.mj) (hl:st'.tmps.length=V.tmps.length) (h3:∀ i,i∈l->st'.tmps[i]?=V.tmps[i]?):Fz (some l) st'=Fz (some l) V:=by
 have:GE l st'=GE l V:=by
  unfold GE;obtain⟨t',o',k'⟩:=st';obtain⟨t,o,k⟩:=V;simp only at U H hl h3;subst U;subst H;have hl:t'.length=t.length:=hl;congr 1;show (t'.zipIdx.map fun (x:PV×Nat)=>if l.contains x.2 then x.1 else .undef)=t.zipIdx.map fun (x:PV×Nat)=>if l.contains x.2 then x.1 else .undef
  apply jc;intro i;rw[iC,iC,jD,jD];by_cases hi:i∈l;{rw[h3 i hi]}
  ·by_cases mL:i < t.length
   {rw[iG mL,iG (by omega)];simp[hi]};{rw[i6 (by omega),i6 (by omega)]}
 unfold Fz;simp only[this]
theorem zbd {k0 ks:Aw} (h:ks.Ok):(Lb k0 ks).Ok/\(Lb k0 ks).nt=ks.nt:=by unfold Lb;obtain⟨U,H⟩:=U5 h (Gi k0.tmps);obtain⟨h3,h4,h5⟩:=M8 H (Jo {ks with tmps:=FM (Gi k0.tmps) ks.tmps});exact⟨h4,h5⟩
theorem w9:∀ (ps:lU) (args:lS) (i:Nat) {tm:Sp},Bu nt tm->(∀ p∈ps,p < nt)->AB args=true->Bu nt (JB ps args i tm):=by
 intro ps;induction ps with
 | nil=>intro args i tm h _ _;exact h
 | cons p ps ih =>
  intro args i tm h hp ha;simp only[JB];refine ih args (i+1) (h.put (hp p (by simp)) ?_ rfl) (fun q hq=>hp q (by simp[hq])) ha;show Ax (Af args i)=true;unfold Af;rw[ip];cases hg:args[i]? with
  | none=>rfl
  | some v=>exact Io ha hg
theorem xa:∀ (ps:lU) (args:lS) (i:Nat) {tm:Sp},i+ps.length=args.length->Bi nt (JB ps args i tm)=GM ps (args.drop i) (Bi nt tm):=by
 intro ps;induction ps with
 | nil=>intro args i tm _;simp[JB,GM]
 | cons p ps ih =>
  intro args i tm hl;simp only[iM] at hl;have hd:args.drop i=args[i]'(by omega) :: args.drop (i+1):=ko (by omega);rw[hd];simp only[JB,GM];rw[ih args (i+1) (by omega),Rp];have:Af args i=args[i]'(by omega):=by unfold Af;rw[ip,iG (by omega)];rfl
  rw[<-this];rfl
theorem fX:∀ {l:lU} {p:Option Ex},Tb l p K=some r->∃ id,p=some (.exit id)/\K id=some r:=by
 intro l;induction l with
 | nil=>intro p h;cases h
 | cons id l ih =>
  intro p h;simp only[Tb] at h;rcases LS h with ⟨U,H⟩ | ⟨_,H⟩
  {refine⟨id,?_,H⟩;unfold bj at U;split at U;{rename_i pw;rw[i7 U]};·cases U};{exact ih H}
def zbe (sp:Sp) (k3:Aw):lS:=Bi k3.nt sp
theorem Vb (hc:Eu cfg mq):∀ (c:A1) {E R:Type} {h:AF E} {hn:Nat->AF E} (_:HOk h hn) (dep:Nat) {ks:Aw} {e:E} {K:Ex->Aw->E->Option R} {r:R},ks.Ok->CS cfg c h dep ks e K=some r ->
  ∃ x k' e',K x k' e'=some r/\k'.Ok/\AZ fun n=>Az (CR cfg.b.sp mq n) n c (hn n) dep ks.V e=some (x,k'.V,e'):=by
 intro c;induction c with
 | skip=>intro E R h hn hh dep ks e K r hk hr;exact⟨_,_,_,hr,hk,.of fun n=>rfl⟩
 | region ops dr lv =>
  intro E R h hn hh dep ks e K r hk hr;obtain⟨c1,c2,_⟩:=M8 hk (BI ops);cases dr with
  | none =>
   simp only[CS] at hr;rw[C9] at hr;split at hr
   ·rename_i t oo;obtain⟨z,hz,hr⟩:=CL hr;rw[C9] at hr;obtain⟨k1,e1,hz2,nA,U⟩:=U3 (dep:=dep) hc hh ops c2 hz;unfold am at oo;split at oo
    case isFalse=>cases oo
    rename_i qt;simp only[ie] at qt;cases lv with
    | none=>cases oo
    | some l =>
    simp only at oo;split at oo
    case h_2=>cases oo
    rename_i t' hfil;cases oo;have hpure:∀ o∈ops,NM o.op=true:=iy.1 qt.2;have hzok:Ax z=true:=KV.oQ (nA.tm.nN t) hz2;have htlt:t < k1.nt:=by apply kb;intro mL;rw[nA.tm.qE (by omega)] at hz2;cases hz2
    obtain⟨m,hm⟩:=U;have zu:=hm m (ik _);obtain⟨rfl,p2,p3,p4,p5⟩:=w8 ops hpure zu;have qU:k1.nt=(DN (BI ops) ks).nt:=by have:k1.V.tmps.length=(DN (BI ops) ks).V.tmps.length:=p4;have a1:k1.V.tmps.length=k1.nt:=DV _ _;have a2:(DN (BI ops) ks).V.tmps.length=(DN (BI ops) ks).nt:=DV _ _;omega
    have q7:({DN (BI ops) ks with tmps:=CP t (.cv z) (DN (BI ops) ks).tmps}:Aw).Ok:=⟨c2.tm.put (by omega) hzok rfl,c2.ob,c2.kp⟩;obtain⟨t1,t2⟩:=RH q7 (some l);refine⟨_,_,_,hr,t2,⟨m,fun n nO=>?_⟩⟩;have hb:=hm n nO;rw[c1] at hb;simp only[Az,hb,t1];have:Fz (some l) k1.V=Fz (some l) ({DN (BI ops) ks with tmps:=CP t (.cv z) (DN (BI ops) ks).tmps}:Aw).V:=by refine eS (st':=k1.V) (V:=({DN (BI ops) ks with tmps:=CP t (.cv z) (DN (BI ops) ks).tmps}:Aw).V) p2 p3 ?_ fun i hi=>?_;{rw[p4];show (Bi _ _).length=(Bi _ _).length;rw[DV,DV]};{show k1.V.tmps[i]?=(Bi _ (CP t (.cv z) _))[i]?;rw[Rp];by_cases hit:i=t;{subst hit;rw[jo (by rw[DV];show i < (DN (BI ops) ks).nt;omega)];show (Bi k1.nt k1.tmps)[i]?=_;rw[mZ,lu htlt,KV.od hz2];rfl};{rw[iI (iN hit)];refine p5 i fun o6=>hit ?_;have:i∈l.filter fun t=>(ops.filterMap (·.dst)).contains t:=ju.2 ⟨hi,by simpa using o6⟩;rw[hfil] at this;simpa using this}}
    rw[this]
   {obtain⟨k1,e1,hr,nA,U⟩:=U3 (dep:=dep) hc hh ops c2 hr;rw[C9] at hr;obtain⟨t1,t2⟩:=RH nA lv;rw[c1] at U;exact⟨_,_,_,hr,t2,U.mono fun n nO=>by simp only[Az,nO,t1]⟩}
  | some pr =>
   simp only[CS] at hr;rw[C9] at hr;obtain⟨k1,e1,hr,nA,U⟩:=wY (dep:=dep) hc hh pr [] c2 hr;rw[C9] at hr;obtain⟨t1,t2⟩:=RH nA lv;rw[c1] at U;exact⟨_,_,_,hr,t2,U.mono fun n nO=>by simp only[Az,nO,t1]⟩
 | seq a b qV qW =>
  intro E R h hn hh dep ks e K r hk hr;simp only[CS] at hr;obtain⟨x,k1,e1,hr,nA,U⟩:=qV hh dep hk hr;cases x with
  | normal =>
   obtain⟨x2,k2,e2,hr,pX,H⟩:=qW hh dep nA hr;exact⟨_,_,_,hr,pX,U.oP H fun n a b=>by simp only[Az,a,b]⟩
  | exit id=>exact⟨_,_,_,hr,nA,U.mono fun n a=>by simp only[Az,a]⟩
  | ret=>exact⟨_,_,_,hr,nA,U.mono fun n a=>by simp only[Az,a]⟩
 | cond c a b qV qW =>
  intro E R h hn hh dep ks e K r hk hr;simp only[CS] at hr;have mo:=GL hk c;split at hr;{rename_i hv;obtain⟨x,k1,e1,hr,nA,U⟩:=qV hh dep hk hr;exact⟨_,_,_,hr,nA,U.mono fun n a=>by simp only[Az,mo,hv,KV.pv,a]⟩};{rename_i hv;obtain⟨x,k1,e1,hr,nA,U⟩:=qW hh dep hk hr;exact⟨_,_,_,hr,nA,U.mono fun n a=>by simp only[Az,mo,hv,KV.pv,a]⟩}
  ·rename_i v hv;rcases Re hr with ⟨rfl,hr⟩ | ⟨rfl,hr⟩
   {obtain⟨x,k1,e1,hr,nA,U⟩:=qV hh dep hk hr;exact⟨_,_,_,hr,nA,U.mono fun n a=>by simp only[Az,mo,hv,KV.pv,a]⟩};{obtain⟨x,k1,e1,hr,nA,U⟩:=qW hh dep hk hr;exact⟨_,_,_,hr,nA,U.mono fun n a=>by simp only[Az,mo,hv,KV.pv,a]⟩}
  {cases hr}
 | block id b ih =>
  intro E R h hn hh dep ks e K r hk hr;simp only[CS] at hr;obtain⟨x,k1,e1,hr,nA,U⟩:=ih hh dep hk hr;cases x with
  | normal=>exact⟨_,_,_,hr,nA,U.mono fun n a=>by simp only[Az,a]⟩
  | ret=>exact⟨_,_,_,hr,nA,U.mono fun n a=>by simp only[Az,a]⟩
  | exit pw =>
   simp only at hr;split at hr;{rename_i hid;exact⟨_,_,_,hr,nA,U.mono fun n a=>by simp only[Az,a,hid,lq]⟩};{rename_i hid;exact⟨_,_,_,hr,nA,U.mono fun n a=>by simp only[Az,a,hid,lm]⟩}
 | loop mT grow b ih =>
  intro E R h hn hh dep ks e K r hk hr;simp only[CS] at hr;obtain⟨k0,hr,hk0,v8,qA⟩:=U4 hk hr;rw[C9] at hr;obtain⟨hU,hr⟩:=Bd hr;split at hr;·cases hr
  rename_i pG;have pG:Ou k0 k0=true:=WZ (by simpa using pG);obtain⟨m,hm⟩:=QW hr
  have key:∀ (m:Nat) (A:lS) (e:E),(Cn k0 A).Ok->GQ (fun s:lS×E=>Cp (Cn k0 s.1) fun ks=>CS cfg b h dep ks s.2 (Sr mT grow k0 K)) m (A,e)=some r ->
    ∃ x k' e',K x k' e'=some r/\k'.Ok/\AZ fun n=>∀ j,m<=j->Dx (Ge (CR cfg.b.sp mq n) n mT grow b (hn n) dep (mQ k0.V)) j ((Cn k0 A).V,e)=some (x,k'.V,e'):=by
   intro m;induction m with
   | zero=>intro A e _ h0;cases h0
   | succ m ihm =>
    intro A e sg hm;unfold GQ at hm;simp only at hm;rw[C9] at hm;cases hs:CS cfg b h dep (Cn k0 A) e (Sr mT grow k0 K) with
    | none =>
     rw[hs] at hm;cases hm
    | some q =>
     rw[hs] at hm;obtain⟨x,k1,e1,hq,nA,U⟩:=ih hh dep sg hs
     have qB:∀ y,y≠Ex.normal->x=y->(Aa (K y k1 e1) fun r=>some (Sum.inr r))=some q->∃ x k' e',K x k' e'=some r/\k'.Ok/\AZ fun n=>∀ j,m+1<=j->Dx (Ge (CR cfg.b.sp mq n) n mT grow b (hn n) dep (mQ k0.V)) j ((Cn k0 A).V,e)=some (x,k'.V,e'):=by
      intro y hy hxy hq;obtain⟨r',wb,hq⟩:=CL hq;cases hq;cases hm;refine⟨y,k1,e1,wb,nA,U.mono fun n nO j hj=>?_⟩;obtain⟨j,rfl⟩:∃ i,j=i+1:=⟨j - 1,by omega⟩;rw[QR];subst hxy;cases x with
      | normal=>exact lH rfl hy
      | exit id=>simp only[Ge,nO,KH]
      | ret=>simp only[Ge,nO,KH]
     cases x with
     | exit id=>exact qB (.exit id) (by simp) rfl hq
     | ret=>exact qB .ret (by simp) rfl hq
     | normal =>
      unfold Sr at hq;simp only at hq;obtain⟨d1,d2⟩:=zbd (k0:=k0) nA;obtain⟨k2,hq,pX,hnt2,hst2⟩:=U4 d1 hq;rw[C9] at hq;split at hq;{rename_i zbf;obtain⟨zbg,hq⟩:=UF hq;have qM:=Uy zbf zbg;cases hq;obtain⟨f1,f2,f3,f4⟩:=Rk qM hk0 pX;obtain⟨g1,_,_⟩:=zbb hk0 hU nA (by omega);obtain⟨x3,k3,e3,uk,hk3,h3⟩:=ihm _ _ f2 hm;refine⟨x3,k3,e3,uk,hk3,U.oP h3 fun n hn1 hn3 j hj=>?_⟩;obtain⟨j,rfl⟩:∃ i,j=i+1:=⟨j - 1,by omega⟩;rw[QR];have:=hn3 j (by omega);rw[f1,hst2,g1] at this;simp only[Ge,hn1,KH];exact this};{cases hq}
  obtain⟨s1,s2,_,_⟩:=Rk (p:=k0) (x:=k0) pG hk0 hk0;obtain⟨x,k',e',wb,qv,mo⟩:=key m _ e s2 hm;refine⟨x,k',e',wb,qv,mo.diag.mono fun n nO=>?_⟩;rw[s1,qA] at nO;rw[XW,nO]
 | rangeFunc f ps mT b qV qW =>
  intro E R h hn hh dep ks e K r hk hr;simp only[CS] at hr;split at hr
  case h_2=>cases hr
  rename_i fv tH;split at hr
  case isFalse=>cases hr
  rename_i yD;simp only[ie] at yD;obtain⟨⟨yD,hself0⟩,hxf⟩:=yD;have pG:=WZ hself0;have hpslt:∀ p∈ps,p < ks.nt:=fun p hp=>by have:=iy.1 yD p hp;simpa[jk] using this
  obtain⟨⟨A,p,e2⟩,qc,rH⟩:=CL hr;clear hr;rw[C9] at rH;simp only at rH;unfold zaO at qc;split at qc
  case h_2=>cases qc
  rename_i g cap;split at qc
  case h_2=>cases qc
  rename_i rv obs rr hL;cases qc;rw[hc.L] at hL;obtain⟨m,hm⟩:=Pe hL;have hm:=hm m (ik _);obtain⟨s1,s2,_,_⟩:=Rk (p:=ks) (x:=ks) pG hk hk
  obtain⟨⟨mM,p2,nF⟩,sF,mo⟩:=T6 (sp:=cfg.b.sp) (mq:=mq) m (KRec E) (DU E)
   (fun a b=>a.2.1=b.2.1/\a.2.2=b.2.2/\(Cn ks a.1).Ok/\(Cn ks a.1).V=b.1) _ (fun n=>HH (CR cfg.b.sp mq n) n mT b (hn n) dep ps) (by
    rintro l args ⟨A,p,e⟩ ⟨s,p',e'⟩ ⟨U,H,h3,h4⟩ bb ⟨yL,q,e1⟩ hq;simp only at U H h3 h4;subst U;subst H;subst h4;unfold aV at hq;unfold HH;by_cases hl:l=dep
    ·simp only[hl,lq] at hq |-;cases p with
     | some x=>cases hq
     | none =>
      simp only at hq |-;obtain⟨nD,hq⟩:=Bd hq;unfold zaK at nD;simp only[ie,ly] at nD;rw[C9,C9] at hq;have qU:(Cn ks A).nt=ks.nt:=rfl
      have nA:({Cn ks A with tmps:=JB ps args 0 (Cn ks A).tmps,mj:=(Cn ks A).tmps :: (Cn ks A).mj}:Aw).Ok :=
       ⟨w9 ps args 0 h3.tm hpslt nD.2,h3.ob,fun sp ny=>(im.1 ny).elim (fun e=>e ▸ h3.tm) (h3.kp sp)⟩
      have hk1st:({Cn ks A with tmps:=JB ps args 0 (Cn ks A).tmps,mj:=(Cn ks A).tmps :: (Cn ks A).mj}:Aw).V={(Cn ks A).V with tmps:=GM ps args (Cn ks A).V.tmps,mj:=(Cn ks A).V.tmps++(Cn ks A).V.mj}:=by
       unfold Aw.V;simp only
       rw[xa ps args 0 (by omega)];simp
      obtain⟨x1,k2,e3,hq,pX,ha⟩:=qV hh (dep+1) nA hq;cases x1 with
      | exit id=>cases hq
      | ret=>cases hq
      | normal =>
       simp only at hq;obtain⟨x2,k3,e4,hq,hk3,hb⟩:=qW hh (dep+1) pX hq;split at hq
       case h_1=>cases hq
       rename_i sp kp nG;rw[C9] at hq;split at hq
       case isFalse=>cases hq
       rename_i zbf;obtain⟨zbg,hq⟩:=UF hq;have qM:=Uy zbf zbg;cases hq;have hk4:({k3 with tmps:=sp,mj:=kp}:Aw).Ok:=⟨hk3.kp sp (by rw[nG];simp),hk3.ob,fun q hq=>hk3.kp q (by rw[nG];simp[hq])⟩;obtain⟨f1,f2,f3,f4⟩:=Rk qM hk hk4;have f5:ks.nt=k3.nt:=f4;refine⟨({tmps:=zbe sp k3,mi:=k3.V.mi,mj:=kp.flatMap (Bi k3.nt)},zaT x2,e1),⟨rfl,rfl,f2,?_⟩,ha.oP hb fun n hn1 hn2=>?_⟩;·rw[f1];rfl
       ·simp only[nD.1,lq];rw[<-hk1st,hn1];simp only
        rw[hn2];simp only
        have tM:k3.V.mj=Bi k3.nt sp++kp.flatMap (Bi k3.nt):=by show k3.mj.flatMap (Bi k3.nt)=_;rw[nG];rfl
        have hlen:(Cn ks A).V.tmps.length=(Bi k3.nt sp).length:=by show (Bi ks.nt _).length=_;rw[DV,DV];exact f5
        rw[tM,hlen,List.take_left,List.drop_left];cases x2<;>rfl
    ·simp only[hl,lm] at hq |-;split at hq
     ·rename_i b2 e3 h6;cases hq;exact⟨_,⟨rfl,rfl,h3,rfl⟩,(hh _ _ _ _ h6).mono fun n nO=>by rw[nO]⟩
     ·cases hq) (dep+1) (AO g) (Bc g [.mF dep] cap) (ET ks ks,none,e) (ks.V,none,e) ⟨rfl,rfl,s2,s1⟩ rv obs _ hm
  simp only at sF;obtain⟨U,H,h3,h4⟩:=sF;subst U;subst H;subst h4;have rV:f.ev ks.V.tmps=.fn g cap:=by rw[GL hk,KV.od tH]
  have qJ:(PV.fn g cap).names=[]:=by exact (EG (KV.oQ (Oh hk hxf) tH)).1
  have zbh:AZ fun n=>Az (CR cfg.b.sp mq n) n (.rangeFunc f ps mT b) (hn n) dep ks.V e=some (p.getD .normal,(Cn ks A).V,e2):=mo.mono fun n nO=>by
   rw[WF,rV];have hz:JT (CR cfg.b.sp mq n) (.fn g cap)=false:=by show (_&&!(Ar cap).isEmpty)=false;rw[show Ar cap=[] from qJ];simp
   rw[lr (by rw[hz];simp)];unfold KA;rw[qJ];simp only[jV,lq];simp only[CR,Ei] at nO |-;rw[nO]
  rcases LS rH with ⟨hp,rH⟩ | ⟨_,rH⟩
  ·cases p with
   | some x=>cases hp
   | none=>exact⟨_,_,_,rH,h3,zbh⟩
  ·rcases LS rH with ⟨hp,rH⟩ | ⟨_,rH⟩
   {unfold zaL at hp;split at hp;{exact⟨_,_,_,rH,h3,zbh⟩};·cases hp};{obtain⟨id,zT,uk⟩:=fX rH;subst zT;exact⟨_,_,_,uk,h3,zbh⟩}
 | exit id=>intro E R h hn hh dep ks e K r hk hr;exact⟨_,_,_,hr,hk,.of fun n=>rfl⟩
 | scope b ih =>
  intro E R h hn hh dep ks e K r hk hr;simp only[CS] at hr;obtain⟨x,k1,e1,hr,nA,U⟩:=ih hh dep hk hr;cases x with
  | normal=>exact⟨_,_,_,hr,nA,U.mono fun n a=>by simp only[Az,a]⟩
  | ret=>exact⟨_,_,_,hr,nA,U.mono fun n a=>by simp only[Az,a]⟩
  | exit pw =>
   simp only at hr;split at hr;{rename_i hid;exact⟨_,_,_,hr,nA,U.mono fun n a=>by simp only[Az,a,hid,lq]⟩};·cases hr
 | ret=>intro E R h hn hh dep ks e K r hk hr;exact⟨_,_,_,hr,hk,.of fun n=>rfl⟩
 | norm g =>
  intro E R h hn hh dep ks e K r hk hr;simp only[CS] at hr;obtain⟨t1,t2,_⟩:=zba hk;obtain⟨k',hr,qv,_,nK⟩:=U4 t2 hr;rw[C9] at hr;exact⟨_,_,_,hr,qv,.of fun n=>by simp only[Az,nK,t1]⟩
 | bad=>intro E R h hn hh dep ks e K r hk hr;cases hr
 | pZ ops f args lv=>intro E R h hn hh dep ks e K r hk hr;cases hr
end Go.Ab


namespace Go.Ab
variable{E R:Type} {args A:lX} {cs:lS} {dep nt:Nat} {fn:Ah} {g:lL} {sh:Bn} {u:PV} {v:KV} {x:F7} {K:KV->Option R} {h:AF E} {hn:Nat->AF E} {r:R}
variable {cfg:Dr} {mq:lL->l6} {ks:Aw}
theorem zbi (h:ks.Ok) (hr:zaU ks x K=some r):∃ v,K v=some r/\v.ok/\HW ks.V x=some v.pv:=by
 have nM:∀ t,ks.V.tmps.getD t .undef=(AS ks.tmps t).pv:=fun t=>LN h.tm t;have lk:=G1 h;cases x with
 | tmp t=>exact⟨_,hr,h.tm.nN t,by simp only[HW,nM]⟩
 | cell t n ag =>
  simp only[zaU] at hr;split at hr;{rename_i J o hv;split at hr;{rename_i cs hl;have oJ:AW cs:=Dv h.ob hl;split at hr;{rename_i uv;split at hr;{rename_i hle;refine⟨_,hr,OX (OY oJ _) _,?_⟩;simp only[HW,nM,hv,KV.pv,lk,hl,iu,Ad.ob,Cd,uv,lq,Av,GW,hle,lz,Nd,Nf]};{cases hr}};{rename_i uv;split at hr;{rename_i c hc;refine⟨_,hr,C8.1 oJ c (iz hc),?_⟩;simp only[HW,nM,hv,KV.pv,lk,hl,iu,Ad.ob,Cd,uv,pD,hc];rfl};{cases hr}}};{rename_i w hl;obtain⟨z,hz,hr⟩:=CL hr;have hw:Ax w=true:=Dv h.ob hl;unfold AN at hz;refine⟨_,hr,Pr (Df hw) hz,?_⟩;simp only[HW,nM,hv,KV.pv,lk,hl,iu,Ad.ob,FP,hz]};{cases hr}};{cases hr}
theorem YP (h:ks.Ok):∀ (l:List F7) {K:lX->Option R},KI ks l K=some r->∃ A,K A=some r/\AW A/\Dl ks.V l=some (AE A):=by
 intro l;induction l with
 | nil=>intro K hr;exact⟨[],hr,trivial,rfl⟩
 | cons x l ih =>
  intro K hr;simp only[KI] at hr;obtain⟨v,hr,hv,U⟩:=zbi h hr;obtain⟨A,hr,qz,H⟩:=ih hr;exact⟨v :: A,hr,⟨hv,qz⟩,by simp only[Dl,U,H,AE]⟩
theorem YR (h:AW A):(KJ A).ok/\(KJ A).pv=EL (AE A):=by
 match A,h with
 | [],h=>exact⟨trivial,rfl⟩
 | [v],h=>exact⟨h.1,rfl⟩
 | v :: w :: A,h=>exact⟨h,rfl⟩
theorem XJ {o:Nat}:IB o=true↔o=0:=by cases o<;>simp[IB]
def top1:PV->lW
 | .arr J _ 0 _=>[J]
 | _=>[]
def top2:PV->lW
 | .arr J _ 0 _=>[J]
 | .agg cs=>cs.flatMap top1
 | _=>[]
def zbj:KV->lW
 | .arr J _ o _=>if IB o then [J] else []
 | .oh J=>[J]
 | _=>[]
def Qm:KV->lW
 | .arr J _ o _=>if IB o then [J] else []
 | .oh J=>[J]
 | .agg cs=>cs.flatMap zbj
 | _=>[]
variable{x:KV}
theorem zbk (h:x.ok):zbj x=top1 x.pv:=by
 cases x with
 | arr J k o n=>cases o<;>rfl
 | cv v =>
  have hv:Ax v=true:=h;cases v<;>first | rfl | simp[Ax] at hv
 | _=>rfl
theorem Yc (h:AB cs=true):cs.flatMap top1=[]:=by rw[List.flatMap_eq_nil_iff];intro x O;have:=EF.1 h x O;cases x<;>first | rfl | simp[Ax] at this
theorem dK {cs:lX} (h:AW cs):cs.flatMap zbj=(AE cs).flatMap top1:=by
 rw[EV,lc];induction cs with
 | nil=>rfl
 | cons x Z ih=>simp only[jJ];rw[zbk h.1,ih h.2]
theorem U2 (h:x.ok):Qm x=top2 x.pv:=by
 cases x with
 | arr J k o n=>cases o<;>rfl
 | agg cs=>exact dK h
 | cv v =>
  have hv:Ax v=true:=h;cases v with
  | agg cs=>simp only[Ax] at hv;exact (Yc hv).symm
  | _=>first | rfl | simp[Ax] at hv
 | _=>rfl
theorem tops_eq (v:PV):yQ v=match v with | .mn Z=>Z.flatMap top2 | v=>top2 v:=by
 have e1:(fun (x:PV)=>match x with | .arr J _ 0 _=>[J] | _=>[])=top1:=by funext x;cases x<;>first | rfl | (rename_i J k o n;cases o<;>rfl)
 cases v with
 | arr J k o n=>cases o<;>rfl
 | agg cs=>simp only[yQ,top2];rfl
 | mn Z =>
  simp only[yQ];congr 1
 | _=>rfl
theorem zbl (v:KV):S9 v=match v with | .mn Z=>Z.flatMap Qm | v=>Qm v:=by cases v<;>first | rfl | (simp only[S9];congr 1)
theorem zbm (h:v.ok):S9 v=yQ v.pv:=by
 rw[zbl,tops_eq];cases v with
 | mn Z =>
  have O:AW Z:=h;simp only[KV.pv];rw[EV,lc];clear h;induction Z with
  | nil=>rfl
  | cons x Z ih=>simp only[jJ];rw[U2 O.1,ih O.2]
 | cv u =>
  have hu:Ax u=true:=h;simp only[KV.pv,Qm];cases u with
  | mn Z =>
   simp only[Ax] at hu;symm;rw[List.flatMap_eq_nil_iff];intro x O;have p9:=EF.1 hu x O;have:=U2 (x:=.cv x) p9;simpa[Qm,KV.pv] using this.symm
  | agg cs=>simp only[Ax] at hu;exact (Yc hu).symm
  | _=>first | rfl | simp[Ax] at hu
 | _=>exact U2 h
theorem Xv:∀ {l:lW},C0 l=true↔l.Nodup
 | []=>by simp[C0]
 | x :: Z=>by simp[C0,Xv (l:=Z)]
theorem xc {σ:Nm->lV}:∀ {S:lW},(∀ J∈S,∃ ob,σ J=some ob/\JU ob=true)->∃ obs,S.mapM σ=some obs/\obs.all JU=true/\obs.length=S.length/\∀ (i:Nat) J,S[i]?=some J->obs[i]?=σ J:=by
 intro S;induction S with
 | nil=>intro _;exact⟨[],rfl,rfl,rfl,by simp⟩
 | cons J S ih =>
  intro h;obtain⟨ob,U,H⟩:=h J (by simp);obtain⟨obs,h3,h4,h5,h6⟩:=ih fun m hm=>h m (by simp[hm]);refine⟨ob :: obs,by simp[jv,U,h3],by simp[H,h4],by simp[h5],?_⟩;intro i m hi;cases i with
  | zero=>simp at hi;subst hi;simp[U]
  | succ i=>simp at hi |-;exact h6 i m hi
theorem YZ {pre mid post:lW} {J:Nm} (pj:(pre++J :: mid++post).Nodup):(pre++J :: mid++post).idxOf J=pre.length:=by
 have hn:J ∉ pre:=fun hm=>by rw[iX,List.nodup_append] at pj;exact pj.2.2 J hm J (by simp) rfl
 rw[iX,List.idxOf_append,lr hn];simp
section hand
variable {σ:Nm->me} (hσ:∀ J o,σ J=some o->o.ok) {S:lW} (pj:S.Nodup) {obs:lY} (sY:∀ (i:Nat) J,S[i]?=some J->obs[i]?=(σ J).map fun o=>o.ob.bare)
include hσ pj sY
def Hk (σ:Nm->me) (S:lW):Nm->Option lV:=fun J=>if S.contains J=true then none else A7 (fun J=>(σ J).map Ad.ob) J
omit pj sY in
theorem gX (O:x.ok) (hn:(x.names.all fun J=>!S.contains J)=true):x.pv.sub (Hk σ S)=x.close (CZ σ AG):=by rw[KV.oR _ O];refine PV.sub_congr _ fun J hm=>?_;rw[KV.nY O] at hm;have:=iy.1 hn J hm;unfold Hk En A7;simp only[jt] at this;rw[this,TY hσ,kx];rfl
omit hσ pj sY in
theorem sub_cl (O:x.ok) (h:x.cl=some u) (f:Nm->Option lV) (g:Nm->Nm):(x.pv.sub f).mz g=u:=by have hu:=KV.oQ O h;rw[KV.od h,Kp (EG hu).1,LX (EG hu).1]
mutual
theorem ZU {R:Type} {r:R}:∀ (sh:Bn) (x:KV),x.ok->∀ {K:PV->Option R},FT σ S sh x K=some r->∀ (pre post:lW),S=pre++Cy sh x++post ->
  ∃ u,K u=some r/\Cv obs sh pre.length ((x.pv.sub (Hk σ S)).mz (JM S))=some (u,pre.length+(Cy sh x).length)
 | .cl,x,O,K,hr,pre,post,_=>by
  have zbn:(if x.names.all fun J=>!S.contains J then AC (okU (x.close (CZ σ AG))) (K (x.close (CZ σ AG))) else none)=some r ->
    ∃ u,K u=some r/\Cv obs .cl pre.length ((x.pv.sub (Hk σ S)).mz (JM S))=some (u,pre.length+(Cy .cl x).length):=by
   intro hr;split at hr;{rename_i hn;obtain⟨U,hr⟩:=Bd hr;unfold okU at U;refine⟨_,hr,?_⟩;rw[gX hσ O hn,LX (EG U).1];simp[Cv,U,AC,Cy]};{cases hr}
  simp only[FT] at hr;cases hu:x.cl with
  | some u =>
   rw[hu] at hr;refine⟨u,hr,?_⟩;rw[sub_cl O hu];simp[Cv,KV.oQ O hu,AC,Cy]
  | none =>
   rw[hu] at hr;cases x with
   | mn Z =>
    simp only at hr;cases tw:Du Z with
    | some us =>
     rw[tw] at hr;have oS:=JF (Z:=Z) O tw;have htup:Ax (.mn us)=true:=by simpa[Ax] using oS
     refine⟨.mn us,hr,?_⟩;have:(KV.mn Z).pv=.mn us:=by simp[KV.pv,KU tw]
     rw[this,Kp (EG htup).1,LX (EG htup).1];simp[Cv,htup,AC,Cy]
    | none=>rw[tw] at hr;exact zbn hr
   | _=>exact zbn hr
 | .own k,x,O,K,hr,pre,post,hS=>by
  simp only[FT] at hr;split at hr
  ·rename_i J k' o n;split at hr
   ·rename_i qg kt Z hl;split at hr
    ·rename_i hc;obtain⟨rfl,rfl,ho⟩:=hc;rw[XJ] at ho;subst ho;obtain⟨U,hr⟩:=Bd hr;rw[PE] at U;unfold AT at U;simp only[Cy] at hS;refine⟨_,hr,?_⟩;have o6:S.contains J=true:=by rw[jl,hS];simp
     have hi:S[pre.length]?=some J:=by rw[hS];simp
     have o7:S.idxOf J=pre.length:=by
      have e:S=pre++J :: []++post:=by rw[hS]
      rw[e];exact YZ (e ▸ pj)
     have oI:obs[pre.length]?=some (.arr k 0 Z):=by rw[sY _ _ hi,hl];rfl
     have hxok:AB Z=true:=hσ _ _ hl;have pA:(PV.arr J k 0 n).sub (Hk σ S)=.arr J k 0 n:=by simp only[PV.sub,Hk,o6,lq]
     simp only[KV.pv];rw[pA];simp[PV.mz,JM,o7,Cv,oI,AC,U,hxok,Cy]
    {cases hr}
   {cases hr}
  {cases hr}
 | .opt k,x,O,K,hr,pre,post,hS=>by
  simp only[FT] at hr;split at hr
  ·rename_i J k' o n;split at hr
   ·rename_i qg kt Z hl;split at hr
    ·rename_i hc;obtain⟨rfl,rfl,ho⟩:=hc;rw[XJ] at ho;subst ho;obtain⟨U,hr⟩:=Bd hr;rw[PE] at U;unfold AT at U;simp only[Cy] at hS;refine⟨_,hr,?_⟩;have o6:S.contains J=true:=by rw[jl,hS];simp
     have hi:S[pre.length]?=some J:=by rw[hS];simp
     have o7:S.idxOf J=pre.length:=by
      have e:S=pre++J :: []++post:=by rw[hS]
      rw[e];exact YZ (e ▸ pj)
     have oI:obs[pre.length]?=some (.arr k 0 Z):=by rw[sY _ _ hi,hl];rfl
     have hxok:AB Z=true:=hσ _ _ hl;have pA:(PV.arr J k 0 n).sub (Hk σ S)=.arr J k 0 n:=by simp only[PV.sub,Hk,o6,lq]
     simp only[KV.pv];rw[pA];simp[PV.mz,JM,o7,Cv,oI,AC,U,hxok,Cy]
    {cases hr}
   {cases hr}
  {refine⟨.mu,hr,?_⟩;simp[KV.pv,PV.sub,PV.mz,Cv,Cy]};{unfold nilO at hr;split at hr;{refine⟨.mu,hr,?_⟩;simp[KV.pv,PV.sub,PV.mz,Cv,Cy]};{cases hr}};{cases hr}
 | .mn l,x,O,K,hr,pre,post,hS=>by
  simp only[FT] at hr;split at hr;{rename_i Z;simp only[Cy] at hS;obtain⟨us,U,H⟩:=Ur l Z O hr pre post hS;refine⟨_,U,?_⟩;simp only[KV.pv,PV.sub,PV.mz,Cv,H,Cy];rfl};{cases hr}
 | .agg l,x,O,K,hr,pre,post,hS=>by
  simp only[FT] at hr;split at hr;{rename_i Z;simp only[Cy] at hS;obtain⟨us,U,H⟩:=Ur l Z O hr pre post hS;refine⟨_,U,?_⟩;simp only[KV.pv,PV.sub,PV.mz,Cv,H,Cy];rfl};{cases hr}
theorem Ur {R:Type} {r:R}:∀ (l:List Bn) (Z:lX),AW Z->∀ {K:lS->Option R},HJ σ S l Z K=some r->∀ (pre post:lW),S=pre++G6 l Z++post ->
  ∃ us,K us=some r/\FN obs l pre.length (AY (JM S) (AM (Hk σ S) (AE Z)))=some (us,pre.length+(G6 l Z).length)
 | [],[],_,K,hr,pre,post,_=>⟨[],hr,by simp[AE,AM,AY,FN,G6]⟩
 | [],_ :: _,_,K,hr,_,_,_=>by simp[HJ] at hr
 | _ :: _,[],_,K,hr,_,_,_=>by simp[HJ] at hr
 | s :: l,x :: Z,O,K,hr,pre,post,hS=>by
  simp only[HJ] at hr;simp only[G6] at hS;obtain⟨u,hr,U⟩:=ZU s x O.1 hr pre (G6 l Z++post) (by rw[hS];simp[iX]);obtain⟨us,hr,H⟩:=Ur l Z O.2 hr (pre++Cy s x) post (by rw[hS];simp[iX]);refine⟨u :: us,hr,?_⟩;simp only[AE,AM,AY,FN,U];rw[iQ] at H;rw[H];simp[G6,ke]
end
end hand
theorem own_arr {σ:Nm->me} {S:lW}:∀ (sh:Bn) (x:KV) {K:PV->Option R},FT σ S sh x K=some r->(∀ J∈Cy sh x,∃ k kt Z,σ J=some (.arr k kt Z))/\∃ u,K u=some r:=by
 intro sh
 refine Bn.rec (motive_1:=fun sh=>∀ (x:KV) {K:PV->Option R},FT σ S sh x K=some r->(∀ J∈Cy sh x,∃ k kt Z,σ J=some (.arr k kt Z))/\∃ u,K u=some r)
  (motive_2:=fun l=>∀ (Z:lX) {K:lS->Option R},HJ σ S l Z K=some r->(∀ J∈G6 l Z,∃ k kt ys,σ J=some (.arr k kt ys))/\∃ us,K us=some r) ?_ ?_ ?_ ?_ ?_ ?_ ?_ sh
 {intro x K hr;refine⟨by simp[Cy],?_⟩;simp only[FT] at hr;split at hr;{exact⟨_,hr⟩};{split at hr;{split at hr;{exact⟨_,hr⟩};{split at hr;{exact⟨_,(Bd hr).2⟩};·cases hr}};{split at hr;{exact⟨_,(Bd hr).2⟩};·cases hr}}};{intro k x K hr;simp only[FT] at hr;split at hr;{rename_i J k' o n;split at hr;{rename_i qg kt Z hl;split at hr;{exact⟨by simp[Cy,hl],_,(Bd hr).2⟩};·cases hr};{cases hr}};{cases hr}};{intro k x K hr;simp only[FT] at hr;split at hr;{rename_i J k' o n;split at hr;{rename_i qg kt Z hl;split at hr;{exact⟨by simp[Cy,hl],_,(Bd hr).2⟩};·cases hr};{cases hr}};{exact⟨by simp[Cy],_,hr⟩};{unfold nilO at hr;split at hr;{exact⟨by simp[Cy],_,hr⟩};·cases hr};{cases hr}};{intro l ih x K hr;simp only[FT] at hr;split at hr;{rename_i Z;obtain⟨U,us,H⟩:=ih Z hr;exact⟨by simpa[Cy] using U,_,H⟩};{cases hr}};{intro l ih x K hr;simp only[FT] at hr;split at hr;{rename_i Z;obtain⟨U,us,H⟩:=ih Z hr;exact⟨by simpa[Cy] using U,_,H⟩};{cases hr}}
 ·intro Z K hr;cases Z with
  | nil=>exact⟨by simp[G6],_,hr⟩
  | cons x Z=>simp[HJ] at hr
 ·intro s l ihs ihl Z K hr;cases Z with
  | nil=>simp[HJ] at hr
  | cons x Z =>
   simp only[HJ] at hr;obtain⟨U,u,hr⟩:=ihs x hr;obtain⟨H,us,hr⟩:=ihl Z hr;refine⟨?_,_,hr⟩;intro J hm;simp only[G6,iH] at hm;exact hm.elim (U J) (H J)
theorem QX (shut:Bool) (h:v.ok):Nw shut v=HF shut v.pv:=by
 cases shut with
 | true=>rfl
 | false=>exact zbm h
theorem dD (h:ks.Ok) {shut:Bool} (hv:v.ok) {K:PV->Option R} (hr:Rb ks shut sh v K=some r):∃ u rv obs,K u=some r/\Jp shut ks.V v.pv=some (rv,obs)/\D6 sh rv obs=some u:=by
 unfold Rb at hr;simp only at hr;split at hr
 case isFalse=>cases hr
 rename_i hc;obtain⟨hS,pj,hdis,oD⟩:=hc;have hσ:=C7 h;obtain⟨n7,_⟩:=own_arr sh v hr;rw[<-hS] at n7;have nq:=Ed h;obtain⟨obs,hm,nX,hlen,nM⟩:=xc (σ:=Ac ks.V.mi) (S:=Nw shut v) fun J hm=>by obtain⟨k,kt,Z,he⟩:=n7 J hm;exact⟨.arr k kt Z,by rw[G1 h,he];rfl,rfl⟩
 have hnd':=Xv.1 pj;obtain⟨u,hu,hconv⟩:=ZU hσ hnd' (obs:=obs.map Ob.bare) (fun i J hi=>by rw[iC,nM i J hi,G1 h,kx];rfl) sh v hv hr [] [] (by rw[<-hS];simp);refine⟨u,(v.pv.sub (Hk (A4 ks.mi) (Nw shut v))).mz (JM (Nw shut v)),obs.map Ob.bare,hu,?_,?_⟩
 ·have e:(fun J=>if (HF shut v.pv).contains J=true then none else A7 (Ac ks.V.mi) J)=Hk (A4 ks.mi) (Nw shut v):=by funext J;unfold Hk;rw[QX shut hv,nq]
  rw[Ht hσ,<-nq] at hdis oD;rw[Nk hσ,<-nq] at oD;rw[QX shut hv,<-KV.nY hv] at hdis oD;rw[QX shut hv] at pj hm;unfold Jp;simp only[pj,hdis,iZ,lq,hm,oD,nX,Av,e,QX shut hv]
 {unfold D6;simp only[jq,iO] at hconv;rw[hconv];simp[AC,hlen,hS]}
theorem Vu (ha:AW args) (hu:∀ x∈args,FV x=false) (hl:args.length<=nt):({nt,tmps:=args.zipIdx.map fun p=>(p.2,p.1),mi:=[],mj:=[]}:Aw).Ok /\
  ({nt,tmps:=args.zipIdx.map fun p=>(p.2,p.1),mi:=[],mj:=[]}:Aw).V={tmps:=AE args++List.replicate (nt - (AE args).length) .undef,mi:=List.replicate nt [],mj:=[]}:=by
 have o6:∀ p∈args.zipIdx.map (fun p=>(p.2,p.1)),args[p.1]?=some p.2:=by intro p hp;obtain⟨⟨x,i⟩,hq,rfl⟩:=ii.1 hp;rw[iY] at hq;exact hq
 have hw:Bu nt (args.zipIdx.map fun p=>(p.2,p.1)):=by refine⟨?_,?_,?_,?_⟩;{rw[iK];have:((fun p:Nat×KV=>p.1)∘fun p:KV×Nat=>(p.2,p.1))=Prod.snd:=rfl;rw[this,List.zipIdx_map_snd];exact List.pairwise_lt_range'};{intro p hp;have:=(ix.1 (o6 p hp)).1;omega};{intro p hp;exact C8.1 ha _ (iz (o6 p hp))};{intro p hp;exact hu _ (iz (o6 p hp))}
 refine⟨⟨hw,.nil nt,by simp⟩,?_⟩;unfold Aw.V;simp only[List.flatMap_nil];congr 1
 ·refine LV (by simp[GW];omega) fun i hi=>?_;by_cases hia:i < args.length
  ·rw[jd (by rw[GW];exact hia),pD,iG hia];have hp:(i,args[i])∈args.zipIdx.map (fun p=>(p.2,p.1)):=by refine ii.2 ⟨(args[i],i),?_,rfl⟩;rw[iY];simp[hia]
   rw[show AS (args.zipIdx.map fun p=>(p.2,p.1)) i=args[i] from hw.get_mem hp];rfl
  {rw[js (by rw[GW];omega),kL,lu (by rw[GW];omega)];rw[show AS (args.zipIdx.map fun p=>(p.2,p.1)) i=.un from Uh fun p hp=>by have:=(ix.1 (o6 p hp)).1;omega];rfl}
 {refine LP (by simp) fun i hi=>?_;rw[kL,lu hi];rfl}
theorem aP (hc:Eu cfg mq) (ht:mq g=some fn) (hh:HOk h hn) {e e':E} 
  (ha:AW args) (hu:∀ x∈args,FV x=false) (hl:args.length<=fn.nt) (hr:BV cfg fn sh h dep args e=some (u,e')) :
  ∃ r obs,D6 sh r obs=some u/\AZ fun n=>Ei cfg.b.sp mq n E (hn n) dep g (AE args) e=some (r,obs,e'):=by
 unfold BV at hr;rw[C9] at hr;obtain⟨i1,i2⟩:=Vu ha hu hl;have hh':HOk h fun n=>hn (n+1):=fun l args e r hq=>by obtain⟨a,hb⟩:=hh l args e r hq;exact⟨a,fun n nO=>hb (n+1) (by omega)⟩
 obtain⟨x,k1,e1,hr,nA,mo⟩:=Vb hc fn.code hh' dep i1 hr;rw[i2] at mo
 have fin:(KI k1 fn.res fun A=>Rb k1 fn.shut sh (KJ A) fun v=>some (v,e1))=some (u,e')->(∀ id,x≠.exit id)->∃ r obs,D6 sh r obs=some u/\AZ fun n=>Ei cfg.b.sp mq n E (hn n) dep g (AE args) e=some (r,obs,e'):=by
  intro hr O;obtain⟨A,hr,qz,U⟩:=YP nA fn.res hr;obtain⟨o1,o2⟩:=YR qz;obtain⟨u',rv,obs,hr,H,h3⟩:=dD nA o1 hr;cases hr;refine⟨rv,obs,h3,mo.shift.mono ?_⟩;rintro k ⟨j,rfl,hj⟩;show HN (Cb cfg.b.sp mq j) j mq E (hn (j+1)) dep g (AE args) e=_;simp only[HN,ht];simp only[CR] at hj;rw[hj];cases x with
  | exit id=>exact lH rfl (O id)
  | normal=>simp only[U];rw[<-o2,H]
  | ret=>simp only[U];rw[<-o2,H]
 cases x with
 | exit id=>cases hr
 | normal=>exact fin hr (by simp)
 | ret=>exact fin hr (by simp)
end Go.Ab


namespace Go.Ab
variable{α β:Type} {ag b f:Bool} {args cap A:lS} {fn:Ah} {g:lL} {j n:Nat} {k':IntKind} {obs:lY} {sh:Bn} {u v:PV}
section
variable {cfg:Dr} {mq:lL->l6}
theorem Wg:∀ (A:lS),AE (A.map KV.cv)=A
 | []=>rfl
 | v :: A=>by simp[AE,KV.pv,Wg A]
theorem zbo (h:AB A=true):AW (A.map KV.cv):=C8.2 fun x O=>by obtain⟨v,hv,rfl⟩:=ii.1 O;exact EF.1 h v hv
theorem zbp:∀ x∈A.map KV.cv,FV x=false:=fun x O=>by obtain⟨v,_,rfl⟩:=ii.1 O;rfl
theorem noH:HOk AL (fun _=>AL):=fun _ _ _ _ h=>by cases h
theorem eK (hc:Eu cfg mq) (ht:mq g=some fn) (ha:AB (args++cap)=true) (hl:(args++cap).length<=fn.nt)
  (ny:cfg.b.sp g (fun _=>none) (args++cap)=none) (hr:BV cfg fn sh AL 0 ((args++cap).map KV.cv) ()=some (u,())) (oV:fn.io=false:=by rfl) (hb:Nat.blt g Dj=true:=by rfl):AJ cfg.b sh (.fn g cap) args=some u:=by
 have hid:AO g=g:=by simp[AO,hb]
 have hfa:Bc g args cap=args++cap:=by simp[Bc,hb]
 obtain⟨r,obs,U,H⟩:=aP hc ht (hn:=fun _=>AL) noH (zbo ha) zbp (by simpa using hl) hr;rw[Wg] at H;have hL:cfg.b.L Unit AL 0 g (args++cap) ()=some (r,obs,()):=by rw[hc.L];exact Sv H
 have uP:cfg.b.ow g=false:=by rw[hc.ow];unfold E0;rw[ht];exact oV
 unfold AJ;simp only[hid,hfa,spO,ny,hL,uP,iq,lm];exact U
theorem Ud (hc:Eu cfg mq) (ny:cfg.b.sp g (fun _=>none) (args++cap)=some {v:=u}) (hu:Ax u=true) (hb:Nat.blt g Dj=true:=by rfl):AJ cfg.b .cl (.fn g cap) args=some u:=by
 have hid:AO g=g:=by simp[AO,hb]
 have hfa:Bc g args cap=args++cap:=by simp[Bc,hb]
 unfold AJ;simp[hid,hfa,spO,ny,hu,AC,D6,Cv]
theorem conv_cl {r:PV} (h:D6 .cl r obs=some u):r=u/\obs=[]/\Ax u=true:=by unfold D6 at h;simp only[Cv] at h;split at h;{rename_i r' j hr;obtain⟨U,H⟩:=Bd hr;cases H;obtain⟨h3,h4⟩:=Bd h;cases h4;simp only[ly] at h3;exact⟨rfl,kN.1 h3.symm,U⟩};{cases h}
theorem fU (hc:Eu cfg mq) (ht:mq g=some fn) (ha:AB args=true) (hl:args.length<=fn.nt)
  (hr:BV cfg fn .cl AL 0 (args.map KV.cv) ()=some (.bool b,())):∃ n,Ei cfg.b.sp mq n Unit AL 0 g args ()=some (.bool b,[],()):=by
 obtain⟨r,obs,U,m,hm⟩:=aP hc ht (hn:=fun _=>AL) noH (zbo ha) zbp (by simpa using hl) hr;rw[Wg] at hm;obtain⟨e1,e2,_⟩:=conv_cl U;subst e1;subst e2;exact⟨m,hm m (ik _)⟩
end
@[simp] theorem AU (a:α) (f:α->Option β):Aa (some a) f=f a:=rfl
@[simp] theorem bindO_none' (f:α->Option β):Aa none f=none:=rfl
@[simp] theorem FF (a:Option β):AC true a=a:=rfl
@[simp] theorem chkO_false (a:Option β):AC false a=none:=rfl
@[simp] theorem BT (b:Bool) (x y:Option β):AH (.bool b) x y=if b=true then x else y:=by cases b<;>rfl
@[simp] theorem iteB_bool (b:Bool) (x y:Option β):J6 b x y=if b=true then x else y:=by cases b<;>rfl
theorem Ci (x y:Option β):AH (.bool false) x y=y:=rfl
section pure
variable {c:TC} {pU:Bool} {k:lN}
@[simp] theorem UR (a b:Int):Ae (.bin .add c pU (.c (.int k a)) (.c (.int k b)))=some (.int k (k.wrap (a+b))):=by simp[Ae,exec,RX.ev,DF,Av,Fj]
@[simp] theorem zbq (a b:Int):Ae (.bin .sub c pU (.c (.int k a)) (.c (.int k b)))=some (.int k (k.wrap (a - b))):=by simp[Ae,exec,RX.ev,DF,Av,Fj]
@[simp] theorem pure_mul (a b:Int):Ae (.bin .mul c pU (.c (.int k a)) (.c (.int k b)))=some (.int k (k.wrap (a*b))):=by simp[Ae,exec,RX.ev,DF,Av,Fj]
theorem UP (a b:Int) (hb:b≠0):Ae (.bin .quo c pU (.c (.int k a)) (.c (.int k b)))=some (.int k (k.wrap (a.tdiv b))):=by simp[Ae,exec,RX.ev,DF,Av,Fj,hb]
theorem UO (a b:Int) (hb:b≠0):Ae (.bin .rem c pU (.c (.int k a)) (.c (.int k b)))=some (.int k (a.tmod b)):=by simp[Ae,exec,RX.ev,DF,Av,Fj,hb]
@[simp] theorem ZH (a b:Int):Ae (.bin .eql c pU (.c (.int k a)) (.c (.int k b)))=some (.bool (a==b)):=by simp[Ae,exec,RX.ev,DF,Av,Fj,KT]
@[simp] theorem zbr (a b:Int):Ae (.bin .neq c pU (.c (.int k a)) (.c (.int k b)))=some (.bool (a != b)):=by simp[Ae,exec,RX.ev,DF,Av,Fj,KT]
@[simp] theorem Ng (a b:Int):Ae (.bin .lss c pU (.c (.int k a)) (.c (.int k b)))=some (.bool (decide (a < b))):=by simp[Ae,exec,RX.ev,DF,Av,Fj,KT]
@[simp] theorem zbs (a b:Int):Ae (.bin .leq c pU (.c (.int k a)) (.c (.int k b)))=some (.bool (decide (a<=b))):=by simp[Ae,exec,RX.ev,DF,Av,Fj,KT]
@[simp] theorem zbt (a b:Int):Ae (.bin .gtr c pU (.c (.int k a)) (.c (.int k b)))=some (.bool (decide (b < a))):=by simp[Ae,exec,RX.ev,DF,Av,Fj,KT]
@[simp] theorem zbu (a b:Int):Ae (.bin .geq c pU (.c (.int k a)) (.c (.int k b)))=some (.bool (decide (b<=a))):=by simp[Ae,exec,RX.ev,DF,Av,Fj,KT]
@[simp] theorem UQ (a b:l4):Ae (.bin .eql c pU (.c (.str a)) (.c (.str b)))=some (.bool (a==b)):=by simp[Ae,exec,RX.ev,DF,KX]
@[simp] theorem pure_nes (a b:l4):Ae (.bin .neq c pU (.c (.str a)) (.c (.str b)))=some (.bool (!(a==b))):=by simp[Ae,exec,RX.ev,DF,KX]
@[simp] theorem RB (a b:Bool):Ae (.bin .eql .bool pU (.c (.bool a)) (.c (.bool b)))=some (.bool (a==b)):=by simp[Ae,exec,RX.ev,DF,Li]
@[simp] theorem zbv (a b:Bool):Ae (.bin .neq .bool pU (.c (.bool a)) (.c (.bool b)))=some (.bool (!(a==b))):=by simp[Ae,exec,RX.ev,DF,Li]
theorem zbw (a b:l4) (h:a.length+b.length<=PP):Ae (.bin .add c pU (.c (.str a)) (.c (.str b)))=some (.str (a++b)):=by simp[Ae,exec,RX.ev,DF,KX,Av,h]
@[simp] theorem Hu (b:Bool):Ae (.un .not (.c (.bool b)))=some (.bool (!b)):=rfl
@[simp] theorem ZG (n:Int):Ae (.un .neg (.c (.int k n)))=some (.int k (k.wrap (0 - n))):=rfl
@[simp] theorem Ul (n:Int):Ae (.conv k (.c (.int k' n)))=some (.int k (k.wrap n)):=rfl
@[simp] theorem Yy (s:l4):Ae (.len .str (.c (.str s)))=some (.int .i64 (s.length:Int)):=rfl
@[simp] theorem Yz (Z:lS) (f:Bool):Ae (.len .slice (.c (.sl j Z f)))=some (.int .i64 (Z.length:Int)):=rfl
@[simp] theorem pure_lenn:Ae (.len .slice (.c .mu))=some (.int .i64 0):=rfl
@[simp] theorem pure_tup (j:Nat) (Z:lS):Ae (.extract j (.c (.mn Z)))=Z[j]?:=by simp only[Ae,exec,RX.ev];cases Z[j]?<;>rfl
@[simp] theorem pure_load {o:Nat} (cs:lS):Ae (.load n ag (.c (.ptr cs o)))=Cd cs o n ag:=by simp only[Ae,exec,RX.ev];cases Cd cs o n ag<;>rfl
@[simp] theorem pure_field {o:Nat} (cs:lS):Ae (.field o n ag (.c (.agg cs)))=Cd cs o n ag:=by simp only[Ae,exec,RX.ev];cases Cd cs o n ag<;>rfl
@[simp] theorem pure_nilck (cs:lS) (o:Nat):Ae (.nilck (.c (.ptr cs o)))=some (.ptr cs o):=rfl
@[simp] theorem pure_nilckf (f:Nat) (cs:lS):Ae (.nilck (.c (.fn f cs)))=some (.fn f cs):=rfl
@[simp] theorem pure_faddr {off o:Nat} (cs:lS):Ae (.fieldAddr off (.c (.ptr cs o)))=if o+off < cs.length then some (.ptr cs (o+off)) else none:=by by_cases hq:o+off < cs.length<;>simp[Ae,exec,RX.ev,Av,hq]
theorem Yx {Z:lS} (hn:0 < n) (h:Z[j]?=some v):Ae (.mw n (.c (.sl n Z f)) (.c (.int k (j:Int))))=some (.ptr v.cells 0):=by simp[Ae,exec,RX.ev,Fk,h,Av,hn]
end pure
@[simp] theorem sel_one (v:PV):Cd [v] 0 1 false=some v:=rfl
@[simp] theorem cells_int (k:IntKind) (n:Int):(PV.int k n).cells=[.int k n]:=rfl
@[simp] theorem cells_str (s:l4):(PV.str s).cells=[.str s]:=rfl
@[simp] theorem cells_bool (b:Bool):(PV.bool b).cells=[.bool b]:=rfl
@[simp] theorem Ub (cs:lS):(PV.agg cs).cells=cs:=rfl
@[simp] theorem Sb (a b:Nat):BR a b=a+b:=rfl
@[simp] theorem subN_eq (a b:Nat):subN a b=a - b:=rfl
@[simp] theorem minN_eq (a b:Nat):minN a b=min a b:=rfl
@[simp] theorem Pv (l:lS):AT l=l.length:=rfl
@[simp] theorem O8 (n:Nat) (l:lS):B9 n l=l.take n:=rfl
@[simp] theorem Vc (n:Nat) (l:lS):Et n l=l.drop n:=rfl
@[simp] theorem VE (l m:lS):J7 l m=l++m:=rfl
@[simp] theorem replL_eq (n:Nat) (v:PV):S2 n v=List.replicate n v:=rfl
@[simp] theorem itemsP_sl (k:Nat) (Z:lS) (f:Bool):Bl (.sl k Z f)=Z:=rfl
@[simp] theorem natP_int (k:IntKind) (n:Int):Bj (.int k n)=n.toNat:=rfl
@[simp] theorem nI_eq (n:Nat):nI n=.int .i64 (n:Int):=rfl
@[simp] theorem VF (a b:Bool):J8 a b=(a&&b):=rfl
@[simp] theorem Sx (a b:Nat):Dd a b=decide (a<=b):=by rw[jN,Px,lE]
@[simp] theorem ltN_eq (a b:Nat):ltN a b=decide (a < b):=by rw[jN,Nv,lE]
@[simp] theorem eqN_eq (a b:Nat):yG a b=decide (a=b):=by rw[jN,PE,lE]
@[simp] theorem CQ (x:PV) (l:lS):Af (x :: l) 0=x:=rfl
@[simp] theorem BP (a x:PV) (l:lS):Af (a :: x :: l) 1=x:=rfl
@[simp] theorem BY (a b x:PV) (l:lS):Af (a :: b :: x :: l) 2=x:=rfl
@[simp] theorem Er (a b c x:PV) (l:lS):Af (a :: b :: c :: x :: l) 3=x:=rfl
@[simp] theorem Mt (a b c d x:PV) (l:lS):Af (a :: b :: c :: d :: x :: l) 4=x:=rfl
@[simp] theorem nth_5 (a b c d e x:PV) (l:lS):Af (a :: b :: c :: d :: e :: x :: l) 5=x:=rfl
@[simp] theorem nth_6 (a b c d e f x:PV) (l:lS):Af (a :: b :: c :: d :: e :: f :: x :: l) 6=x:=rfl
@[simp] theorem nth_7 (a b c d e f g x:PV) (l:lS):Af (a :: b :: c :: d :: e :: f :: g :: x :: l) 7=x:=rfl
@[simp] theorem nth_8 (a b c d e f g h x:PV) (l:lS):Af (a :: b :: c :: d :: e :: f :: g :: h :: x :: l) 8=x:=rfl
@[simp] theorem Vk (v:PV) (o n:Nat) (ag:Bool):AN v o n ag=Cd v.cells o n ag:=rfl
@[simp] theorem natO_int (k:IntKind) (n:Nat):natO (.int k (n:Int))=some n:=by simp[natO,Fk]
end Go.Ab


namespace Go.Ab
variable{R:Type} {nt:Nat} {x:KV}
section
variable {cfg:Dr} {mq:lL->l6}
theorem zbx (h:kisUn x=false):FV x=false:=by cases x<;>first | rfl | cases h
theorem xd (hc:Eu cfg mq):∀ (c:A1) {R:Type} {ks:Aw} {K:Ex->Aw->lU->Option R} {r:R},ks.Ok->Fi cfg nt c ks K=some r ->
  ∃ x k' l,K x k' l=some r/\k'.Ok/\AZ fun n=>AX (CR cfg.b.sp mq n) n nt c ks.V=some (x,k'.V,l):=by
 intro c;induction c with
 | pZ ops f args lv =>
  intro R ks K r hk hr;simp only[Fi] at hr;rw[C9] at hr;obtain⟨c1,c2,_⟩:=M8 hk (BI ops);obtain⟨k1,e1,hr,nA,U⟩:=U3 (hn:=fun _=>AL) (dep:=0) hc noH ops c2 hr;split at hr
  case isFalse=>cases hr
  rename_i hcd;obtain⟨a1,a2,a3,a4⟩:=hcd;rw[C9] at hr;simp only[ie] at a2;have hle:args.length+1<=nt:=ig a2.1;have qU:k1.nt=nt:=i7 a2.2;have hxf:Ey f=true:=iy.1 a3 f (by simp);have hxa:args.all Ey=true:=iy.2 fun x hm=>iy.1 a3 x (by simp[hm]);have ui:=Oh nA hxf;have hao:=Me nA hxa;have rV:=GL nA f;have hae:args.map (RX.ev k1.V.tmps)=AE (args.map (RX.kv k1.tmps)):=HI nA args;generalize n6:f.kv k1.tmps :: args.map (RX.kv k1.tmps)=Z at hr a4;have hlen:Z.length=args.length+1:=by rw[<-n6];simp
  have oS:AW Z:=by rw[<-n6];exact⟨ui,hao⟩
  have um:AE Z=f.ev k1.V.tmps :: args.map (RX.ev k1.V.tmps):=by rw[<-n6,rV,hae];rfl
  obtain⟨i1,i2⟩:=Vu (nt:=nt) oS (fun x O=>zbx (by
   rw[List.any_eq_false] at a4;simpa using a4 x O)) (by omega)
  have e1:Bi nt (Z.zipIdx.map fun p=>(p.2,p.1))=AE Z++List.replicate (nt - (AE Z).length) .undef:=lD St.tmps i2
  have pX:({k1 with mj:=(Z.zipIdx.map fun p=>(p.2,p.1)) :: k1.mj}:Aw).Ok:=⟨nA.tm,nA.ob,fun sp ny=>by
   rcases im.1 ny with rfl | ny;·rw[qU];exact i1.tm
   ·exact nA.kp sp ny⟩
  have hst2:({k1 with mj:=(Z.zipIdx.map fun p=>(p.2,p.1)) :: k1.mj}:Aw).V=Oc nt (f.ev k1.V.tmps :: args.map (RX.ev k1.V.tmps)) k1.V:=by rw[<-um];unfold Oc Aw.V;simp only[jJ];rw[qU,e1]
  obtain⟨t1,t2⟩:=RH pX lv
  have pY:isFn (f.ev k1.V.tmps)=true:=by
   rw[rV];cases hq:f.kv k1.tmps with
   | fn g cap=>rfl
   | _=>rw[hq] at a1;cases a1
  refine⟨_,_,_,hr,t2,U.mono fun n nO=>?_⟩;rw[c1] at nO;simp only[AX,nO,t1,hst2,Av,pY,Bool.and_true,lw,lu hle]
 | seq a b qV qW =>
  intro R ks K r hk hr;simp only[Fi] at hr;obtain⟨x,k1,l,hr,nA,U⟩:=qV hk hr;cases x with
  | normal =>
   obtain⟨x2,k2,l2,hr,pX,H⟩:=qW nA hr;exact⟨_,_,_,hr,pX,U.oP H fun n a b=>by simp only[AX,a,b]⟩
  | exit id=>exact⟨_,_,_,hr,nA,U.mono fun n a=>by simp only[AX,a]⟩
  | ret=>exact⟨_,_,_,hr,nA,U.mono fun n a=>by simp only[AX,a]⟩
 | cond c a b qV qW =>
  intro R ks K r hk hr;simp only[Fi] at hr;have mo:=GL hk c;split at hr;{rename_i hv;obtain⟨x,k1,e1,hr,nA,U⟩:=qV hk hr;exact⟨_,_,_,hr,nA,U.mono fun n a=>by simp only[AX,mo,hv,KV.pv,a]⟩};{rename_i hv;obtain⟨x,k1,e1,hr,nA,U⟩:=qW hk hr;exact⟨_,_,_,hr,nA,U.mono fun n a=>by simp only[AX,mo,hv,KV.pv,a]⟩}
  ·rename_i v hv;rcases Re hr with ⟨rfl,hr⟩ | ⟨rfl,hr⟩
   {obtain⟨x,k1,e1,hr,nA,U⟩:=qV hk hr;exact⟨_,_,_,hr,nA,U.mono fun n a=>by simp only[AX,mo,hv,KV.pv,a]⟩};{obtain⟨x,k1,e1,hr,nA,U⟩:=qW hk hr;exact⟨_,_,_,hr,nA,U.mono fun n a=>by simp only[AX,mo,hv,KV.pv,a]⟩}
  {cases hr}
 | block id b ih =>
  intro R ks K r hk hr;simp only[Fi] at hr;obtain⟨x,k1,l,hr,nA,U⟩:=ih hk hr;cases x with
  | normal=>exact⟨_,_,_,hr,nA,U.mono fun n a=>by simp only[AX,a]⟩
  | ret=>exact⟨_,_,_,hr,nA,U.mono fun n a=>by simp only[AX,a]⟩
  | exit pw =>
   simp only at hr;split at hr;{rename_i hid;exact⟨_,_,_,hr,nA,U.mono fun n a=>by simp only[AX,a,hid,lq]⟩};{rename_i hid;exact⟨_,_,_,hr,nA,U.mono fun n a=>by simp only[AX,a,hid,lm]⟩}
 | scope b ih =>
  intro R ks K r hk hr;simp only[Fi] at hr;split at hr;·cases hr
  rename_i hlb;obtain⟨x,k1,l,hr,nA,U⟩:=ih hk hr;cases x with
  | normal=>exact⟨_,_,_,hr,nA,U.mono fun n a=>by simp only[AX,a,hlb,lm,iq]⟩
  | ret=>exact⟨_,_,_,hr,nA,U.mono fun n a=>by simp only[AX,a,hlb,lm,iq]⟩
  | exit pw =>
   simp only at hr;split at hr;{rename_i hid;exact⟨_,_,_,hr,nA,U.mono fun n a=>by simp only[AX,a,hlb,hid,lq,lm,iq]⟩};·cases hr
 | _ =>
  intro R ks K r hk hr;simp only[Fi] at hr;obtain⟨x,k1,e1,hr,nA,U⟩:=Vb hc _ (h:=AL) (hn:=fun _=>AL) noH 0 hk hr;exact⟨_,_,_,hr,nA,U.mono fun n a=>by simp only[AX,a,FS]⟩
theorem zby (hc:Eu cfg mq):∀ (l:lU) {ks:Aw} {K:Aw->Option R} {r:R},ks.Ok->Tl cfg nt l ks K=some r ->
  ∃ k',K k'=some r/\k'.Ok/\AZ fun n=>Gz (CR cfg.b.sp mq n) nt l ks.V=some k'.V:=by
 intro l;induction l with
 | nil=>intro ks K r hk hr;exact⟨ks,hr,hk,.of fun n=>rfl⟩
 | cons n l ih =>
  intro ks K r hk hr;simp only[Tl] at hr;split at hr;·cases hr
  rename_i sp kp nG;split at hr
  case h_2=>cases hr
  rename_i f mO nM;split at hr
  case h_2=>cases hr
  rename_i P hP;split at hr
  case isFalse=>cases hr
  rename_i hcd;obtain⟨b1,b2,b3⟩:=hcd;simp only[ie] at b2;have hle:n+1<=nt:=ig b2.1;have qU:ks.nt=nt:=i7 b2.2;have ny:Bu nt sp:=by rw[<-qU];exact hk.kp sp (by rw[nG];exact iw)
  have rZ:AW mO:=by have:=ny.nN 0;rw[nM] at this;exact this
  have nD:AW ((List.range n).map fun j=>AS sp (j+1)):=C8.2 fun x O=>by obtain⟨j,_,rfl⟩:=ii.1 O;exact ny.nN _
  obtain⟨out,hr,ho,hspf,mo⟩:=XH hc hk b3 (XE (f:=f) nD rZ) hP hr;split at hr
  case isFalse=>cases hr
  rename_i nP;rw[C9] at hr;have pX:({ks with mj:=kp}:Aw).Ok:=⟨hk.tm,hk.ob,fun sp' h=>hk.kp sp' (by rw[nG];exact iA _ h)⟩;obtain⟨s1,s2⟩:=TL (ks:={ks with mj:=kp}) pX (by show (_||EX ks.mi)=true;rw[b3];simp) none ho;obtain⟨k',hr,qv,H⟩:=ih s2 hr;have tM:ks.V.mj=Bi nt sp++kp.flatMap (Bi nt):=by show ks.mj.flatMap (Bi ks.nt)=_;rw[nG,qU];rfl
  have hget0:ks.V.mj.getD 0 .undef=.fn f (AE mO):=by
   have:(Bi nt sp)[0]?=some (KV.fn f mO).pv:=by rw[mZ,lu (by omega),nM]
   rw[tM,ip,jd (by rw[DV];omega),this];rfl
  have zaw:(ks.V.mj.drop 1).take n=AE ((List.range n).map fun j=>AS sp (j+1)):=by rw[tM,EV,iK];apply jc;intro j;rw[List.getElem?_take,ku,iC];by_cases hj:j < n;{rw[lu hj,jd (by rw[DV];omega),mZ,lu (by omega),jG hj];simp[Nat.add_comm]};{rw[lr hj,i6 (by simp;omega)];rfl}
  have hdrop:({ks with mj:=kp}:Aw).V={ks.V with mj:=ks.V.mj.drop nt}:=by rw[tM,List.drop_left' (DV nt sp)];unfold Aw.V;simp only[qU]
  have qz:Bc f ((ks.V.mj.drop 1).take n) (AE mO)=AE (Iv f ((List.range n).map fun j=>AS sp (j+1)) mO):=by rw[zaw,XD]
  have u7:E0 mq (AO f)=true:=by rw[<-hc.uG,hP];rfl
  have uZ:Kt mq (AO f)=true:=hc.flat _ b1
  have hnew':(out.out.new.isEmpty||out.out.slot.isSome)=true:=by
   simp only[Au.out];have:(out.new.map Ad.ob).isEmpty=out.new.isEmpty:=by cases out.new<;>rfl
   rw[this];exact nP
  rw[s1,hdrop] at H;refine⟨k',hr,qv,mo.oP H fun m a b=>?_⟩;simp only[Gz,hget0,qz,Kq,QV,fQ,hc.yH _ hspf,u7,uZ,Bool.and_true,lq,a,Av,hnew',b]
end
end Go.Ab


namespace Go.Ab
variable{P:AA} {rs A:lS} {v x:KV}
mutual
theorem TM:∀ (p x:KV),A8 p x=true->x.ok->B1 p x.pv=some (BU p x)
 | .un,x,h,_=>by cases x<;>simp[A8] at h;rfl
 | .sk,x,h,_=>by cases x<;>simp[A8] at h;rfl
 | .mF d,x,h,_=>by cases x<;>simp[A8] at h;rfl
 | .ref J o,x,h,_=>by cases x<;>simp[A8] at h;obtain⟨rfl,rfl⟩:=h;simp[B1,KV.pv,BU,AC]
 | .my _ _ _ _,x,h,_=>by simp[A8] at h
 | .mp J,x,h,_=>by cases x<;>simp[A8] at h;subst h;simp[B1,KV.pv,BU,AC]
 | .it J,x,h,_=>by cases x<;>simp[A8] at h;subst h;simp[B1,KV.pv,BU,AC]
 | .oh J,x,h,_=>by cases x<;>simp[A8] at h;subst h;simp[B1,KV.pv,BU,AC]
 | .arr J k o n,x,h,_=>by
  cases x with
  | arr nr k' o' n' =>
   simp only[A8] at h;simp only[KV.pv,B1,BU];rw[h];rfl
  | _=>simp[A8] at h
 | .lit b,x,h,O=>Pg O (by simpa[A8] using h)
 | .nz,x,h,O=>Pg O (by simpa[A8] using h)
 | .cv v,x,h,O=>Pg O (by simpa[A8] using h)
 | .fn f cap,x,h,O=>by
  cases x with
  | fn f' qC =>
   simp only[A8,ie,ly] at h;obtain⟨rfl,h⟩:=h;simp only[KV.pv,B1,lq,BU];exact OE cap qC h O
  | _=>simp[A8] at h
 | .mn Z,x,h,O=>by
  cases x with
  | mn ys =>
   simp only[A8] at h;simp only[KV.pv,B1,BU];exact OE Z ys h O
  | _=>simp[A8] at h
 | .agg cs,x,h,O=>by
  simp only[A8] at h;simp only[B1,BU];by_cases hc:(Du cs).isSome=true;{rw[lu hc] at h;rw[lu hc,lu hc];exact Pg O h}
  ·rw[lr hc] at h;rw[lr hc,lr hc];cases x with
   | agg og=>exact OE cs og h O
   | _=>simp at h
 | .iface t y,x,h,O=>by
  simp only[A8] at h;simp only[B1,BU];by_cases hc:y.cl.isSome=true;{rw[lu hc] at h;rw[lu hc,lu hc];exact Pg O h}
  ·rw[lr hc] at h;rw[lr hc,lr hc];cases x with
   | iface t' y' =>
    simp only[ie,ly] at h;obtain⟨rfl,h⟩:=h;simp only[KV.pv,lq];exact TM y y' h O
   | _=>simp at h
theorem OE:∀ (ps Z:lX),Dq ps Z=true->AW Z->HT ps (AE Z)=some (Gf ps Z)
 | [],Z,h,_=>by cases Z<;>simp[Dq] at h;rfl
 | p :: ps,Z,h,O=>by
  cases Z with
  | nil=>simp[Dq] at h
  | cons x Z =>
   simp only[Dq,ie] at h;simp only[AE,HT,Gf];rw[TM p x h.1 O.1,OE ps Z h.2 O.2]
theorem Pg {x:KV} (O:x.ok) (h:x.cl.isSome=true):AC (Ax x.pv) (some [x.pv])=some [x.cl.getD .undef]:=by obtain⟨v,hv⟩:=jR.1 h;have U:=KV.oQ O hv;rw[KV.od hv,hv];simp[AC,U]
end
theorem dp (p x:Ad) (h:C5 p x=true) (O:x.ok):E4 p x.ob=some (O1 p x):=by
 cases p with
 | cells ty cs =>
  cases x with
  | cells uF og =>
   simp only[C5,ie,ly] at h;obtain⟨rfl,h⟩:=h;simp only[E4,Ad.ob,lq];exact OE cs og h O
  | _=>simp[C5] at h
 | whole ty w =>
  cases x with
  | whole uF v =>
   simp only[C5,ly] at h;subst h;have p9:Ax v=true:=O;have H:AB (FP v)=true:=Df p9;simp[E4,Ad.ob,O1,AC,H]
  | _=>simp[C5] at h
 | arr k kt ws =>
  cases x with
  | arr k' kt Z =>
   simp only[C5,ie,ly] at h;obtain⟨rfl,rfl⟩:=h;have p9:AB Z=true:=O;simp[E4,Ad.ob,O1,GY,AC,p9]
  | _=>simp[C5] at h
 | map ws =>
  cases x with
  | map es =>
   have p9:AB es=true:=O;simp[E4,Ad.ob,O1,GY,AC,p9]
  | _=>simp[C5] at h
 | mD s0 p0 =>
  cases x with
  | mD s pos=>rfl
  | _=>simp[C5] at h
theorem Tu:∀ (ps Z:lZ),Eh ps Z=true->(∀ o∈Z,o.ok)->Jw ps (Z.map Ad.ob)=some (OR ps Z)
 | [],[],_,_=>rfl
 | [],_ :: _,h,_=>by simp[Eh] at h
 | _ :: _,[],h,_=>by simp[Eh] at h
 | p :: ps,x :: Z,h,O=>by
  simp only[Eh,ie] at h;simp only[iE,Jw,OR];rw[dp p x h.1 (O x iw),Tu ps Z h.2 fun o ho=>O o (iA _ ho)]
theorem kwit_pv (h:x.ok):CO x.pv=NS x:=by
 cases x with
 | arr J k o n =>
  simp only[KV.pv,NS,CO];by_cases hc:k=1/\o=0/\n=0;{obtain⟨rfl,rfl,rfl⟩:=hc;rfl};{rw[lr hc];split;{rename_i heq;cases heq;exact lH ⟨rfl,rfl,rfl⟩ hc};{rfl}}
 | cv v =>
  have hv:Ax v=true:=h;simp only[KV.pv,NS];unfold CO;split;{simp[Ax] at hv};{rfl}
 | _=>rfl
section
variable {ks:Aw}
theorem xe (hk:ks.Ok) (hv:v.ok) (h:PS P ks v=some rs):∃ out,Gj none 1 0 (El P.ins.length) ks.V v.pv=some out/\Tf P out=some rs:=by
 unfold PS at h;split at h
 case h_2=>cases h
 rename_i sp nG;simp only at h;have ny:Bu ks.nt sp:=hk.kp sp (by rw[nG];exact iU.2 rfl);have nK:ks.V.mj=Bi ks.nt sp:=by show ks.mj.flatMap (Bi ks.nt)=_;rw[nG];simp
 have hw:∀ j,CO (ks.V.mj.getD j .undef)=NS (AS sp j):=fun j=>by rw[nK,LN ny,kwit_pv (ny.nN j)]
 have hA:FI (El P.ins.length) ks.V.mj=Ks P.ins.length sp:=by unfold FI Ks;exact iV fun p _=>by rw[hw]
 have hG:ID (El P.ins.length) ks.V.mj=R0 P.ins.length sp:=by unfold ID R0;congr 1;exact List.filter_congr fun p _=>by rw[hw]
 have nq:=Ed hk
 have sP:∀ m:Nm,((Ac ks.V.mi m).map Ob.names).getD []=((A4 ks.mi m).map Ad.names).getD []:=by
  intro m;rw[G1 hk];cases hl:A4 ks.mi m with
  | none=>rfl
  | some o =>
   simp only[iu,iT];exact Ad.pc (Dv hk.ob hl)
 have hN:Mh (Ac ks.V.mi) (Ks P.ins.length sp) v.pv=RZ (A4 ks.mi) (Ks P.ins.length sp) v:=by
  unfold Mh RZ;rw[KV.nY hv];have e1:((Ks P.ins.length sp).flatMap fun p=>((Ac ks.V.mi p.1).map Ob.names).getD [])=(Ks P.ins.length sp).flatMap fun p=>((A4 ks.mi p.1).map Ad.names).getD []:=by congr 1;funext p;exact sP p.1
  rw[e1,nq,<-Ht (C7 hk)]
 generalize Ks P.ins.length sp=zzc at h hA hN;generalize hNd:RZ (A4 ks.mi) zzc v=N at h hN;generalize hB:(zzc++N.zipIdx.map fun p=>(p.1,(1,0+p.2)))=B at h;split at h
 case isFalse=>cases h
 rename_i hcd;obtain⟨pj,sH,qM⟩:=hcd;cases h;simp only[ie] at qM;obtain⟨oM,ql,z1⟩:=qM
 have pz:(fun m=>if (B.map (·.1)).contains m then none else some none:Nm->Option lV)=Iz fun m=>!(B.map (·.1)).contains m:=by
  funext m;show (if (B.map (·.1)).contains m=true then none else some none)=if (!(B.map (·.1)).contains m)=true then some none else none
  cases (B.map (·.1)).contains m<;>rfl
 have oI:∀ J,GS (Ac ks.V.mi) B J=(Mw (A4 ks.mi) B J).ob/\(Mw (A4 ks.mi) B J).ok:=by
  intro J;unfold GS Mw
  have oS:((A4 ks.mi J).getD Fl).ok:=by
   cases hl:A4 ks.mi J with
   | none=>exact rfl
   | some o=>exact Dv hk.ob hl
  have sY:((Ac ks.V.mi J).getD AP)=((A4 ks.mi J).getD Fl).ob:=by rw[G1 hk];cases A4 ks.mi J<;>rfl
  rw[pz,sY,<-Ad.zaV _ oS,<-Ad.qd _ (Ad.po _ oS)];exact⟨rfl,Ad.nZ _ (Ad.po _ oS)⟩
 refine⟨{v:=(v.pv.sub fun m=>if (B.map (·.1)).contains m then none else some none).mz fun m=>(B.lookup m).getD m,new:=N.map (GS (Ac ks.V.mi) B),nh:=zzc.map fun p=>(p.2,GS (Ac ks.V.mi) B p.1),gone:=R0 P.ins.length sp,io:=true},?_,?_⟩
 ·unfold Gj;simp only
  rw[hA,hN,hB,hG];simp[Av,pj]
 ·unfold Tf;simp only
  rw[lu sH];have e1:(v.pv.sub fun m=>if (B.map (·.1)).contains m then none else some none).mz (fun m=>(B.lookup m).getD m)=((v.off fun m=>!(B.map (·.1)).contains m).mz fun m=>(B.lookup m).getD m).pv:=by rw[pz,<-KV.r6 _ hv,<-KV.r7 _ (KV.po _ hv)]
  have e2:(zzc.map fun p=>(p.2,GS (Ac ks.V.mi) B p.1)).map (·.2)=(zzc.map fun p=>Mw (A4 ks.mi) B p.1).map Ad.ob:=by rw[iK,iK];exact iV fun p _=>(oI p.1).1
  have e3:N.map (GS (Ac ks.V.mi) B)=(N.map (Mw (A4 ks.mi) B)).map Ad.ob:=by rw[iK];exact iV fun m _=>(oI m).1
  rw[e1,e2,e3,TM _ _ oM (KV.nZ _ (KV.po _ hv)),Tu _ _ ql (fun o ho=>by
   obtain⟨p,_,rfl⟩:=ii.1 ho;exact (oI p.1).2),Tu _ _ z1 (fun o ho=>by
   obtain⟨m,_,rfl⟩:=ii.1 ho;exact (oI m).2)]
end
mutual
theorem ab {A:lS} (hv:AB A=true):∀ (p:KV) (i:Nat),(fill p A i).1.ok
 | .un,i | .sk,i | .mF _,i | .ref _ _,i | .my _ _ _ _,i | .mp _,i | .it _,i | .oh _,i | .arr _ _ _ _,i=>trivial
 | .lit _,i | .nz,i | .cv _,i=>NP hv i
 | .fn f cap,i=>Na hv cap i
 | .mn Z,i=>Na hv Z i
 | .agg cs,i=>by
  simp only[fill];split;{exact NP hv i};{exact Na hv cs i}
 | .iface t y,i=>by
  simp only[fill];split;{exact NP hv i};{exact ab hv y i}
theorem Na {A:lS} (hv:AB A=true):∀ (ps:lX) (i:Nat),AW (CG ps A i).1
 | [],i=>trivial
 | p :: ps,i=>⟨ab hv p i,Na hv ps _⟩
theorem NP {A:lS} (hv:AB A=true) (i:Nat):Ax (Af A i)=true:=by
 unfold Af;rw[ip];cases h:A[i]? with
 | none=>rfl
 | some x=>exact Io hv h
end
theorem gU (hv:AB A=true) (p:Ad) (i:Nat):(B8 p A i).1.ok:=by
 cases p with
 | cells ty cs=>exact Na hv cs i
 | whole ty w=>exact NP hv i
 | arr k kt Z =>
  have:=NP hv i;show AB (Bl (Af A i))=true;unfold Bl;split;{rename_i heq;rw[heq] at this;simpa[Ax] using this};{rfl}
 | map es =>
  have:=NP hv i;show AB (Mx (Af A i))=true;unfold Mx;split;{rename_i heq;rw[heq] at this;simpa[Ax] using this};{rfl}
 | mD s p=>trivial
theorem W1 {A:lS} (hv:AB A=true):∀ (ps:lZ) (i:Nat),(∀ o∈(CE ps A i).1,o.ok)/\(CE ps A i).1.length=ps.length
 | [],i=>⟨fun o ho=>(by cases ho),rfl⟩
 | p :: ps,i=>by
  obtain⟨U,H⟩:=W1 hv ps (B8 p A i).2;refine⟨fun o ho=>?_,by simp[CE,H]⟩;simp only[CE,im] at ho;rcases ho with rfl | ho;{exact gU hv p i};{exact U o ho}
theorem ac {A:lS}:∀ (ps:lX) (i:Nat),(∀ p∈ps,FV p=false)->(∀ x∈(CG ps A i).1,FV x=false)/\(CG ps A i).1.length=ps.length
 | [],i,_=>⟨fun o ho=>(by cases ho),rfl⟩
 | p :: ps,i,hp=>by
  obtain⟨U,H⟩:=ac (A:=A) ps (fill p A i).2 fun q hq=>hp q (iA _ hq);refine⟨fun x O=>?_,by simp[CG,H]⟩;simp only[CG,im] at O;rcases O with rfl | O;{exact aF (hp p iw)};{exact U x O}
theorem Rf {cfg:Dr} {mq:lL->l6} (hc:Eu cfg mq) {g:lL} {fn:Ah} (ht:mq g=some fn) {P:AA} {Pf:lX->lZ->AA} (hPf:cfg.uG g=some Pf) {Z:lX} {obs:lZ} (hP:Pf Z obs=P) (hun:P.args.all (fun p=>!FV p)=true) {A rs:lS} (hv:AB A=true)
  (hr:NK cfg fn P A=some rs):Cs cfg.b P g A=some rs:=by
 obtain⟨fn',uV,⟨qU,_⟩,hll⟩:=hc.ioP g Pf hPf;have hla:=(hll Z obs).1;have tu:=(hll Z obs).2;rw[hP] at hla tu;rw[ht] at uV;cases uV;unfold NK at hr;simp only at hr;rw[C9] at hr;obtain⟨u1,u2⟩:=ac (A:=A) P.args 0 fun p hp=>by simpa using iy.1 hun p hp
 have a1:=Na hv P.args 0;obtain⟨b1,b2⟩:=W1 hv P.ins (CG P.args A 0).2;generalize has:(CG P.args A 0).1=aas at hr u1 u2 a1;generalize hos:(CE P.ins A (CG P.args A 0).2).1=os at hr b1 b2;obtain⟨i1,i2⟩:=Vu (nt:=fn.nt) a1 u1 (by omega);have hwsp:Bu fn.nt (((List.range P.ins.length).filter fun j=>!fn.gone.contains j).map fun j=>(j,KV.oh (0,j))):=by refine⟨?_,?_,?_,?_⟩;{rw[iK];have:((fun p:Nat×KV=>p.1)∘fun j=>(j,KV.oh (0,j)))=id:=rfl;rw[this,List.map_id];exact List.pairwise_lt_range.filter _};{intro p hp;obtain⟨j,hj,rfl⟩:=ii.1 hp;have:=jS.1 (ju.1 hj).1;simp only;omega};{intro p hp;obtain⟨j,hj,rfl⟩:=ii.1 hp;trivial};{intro p hp;obtain⟨j,hj,rfl⟩:=ii.1 hp;rfl}
 have hso:Bm fn.nt [(0,os)]:=⟨by simp,by simp[qU],fun p hp o ho=>by simp only[iU] at hp;subst hp;exact b1 o ho⟩
 have hks:({nt:=fn.nt,tmps:=aas.zipIdx.map fun p=>(p.2,p.1),mi:=[(0,os)],mj:=[((List.range P.ins.length).filter fun j=>!fn.gone.contains j).map fun j=>(j,KV.oh (0,j))]}:Aw).Ok :=
  ⟨i1.tm,hso,fun sp ny=>by simp only[iU] at ny;subst ny;exact hwsp⟩
 have nK:({nt:=fn.nt,tmps:=aas.zipIdx.map fun p=>(p.2,p.1),mi:=[(0,os)],mj:=[((List.range P.ins.length).filter fun j=>!fn.gone.contains j).map fun j=>(j,KV.oh (0,j))]}:Aw).V=EQ fn.gone fn.nt (os.map Ad.ob) (AE aas):=by
  have e1:Bi fn.nt (aas.zipIdx.map fun p=>(p.2,p.1))=AE aas++List.replicate (fn.nt - (AE aas).length) .undef:=lD St.tmps i2;unfold Aw.V EQ;simp only
  rw[e1];congr 1
  ·refine LP (by simp) fun i hi=>?_;by_cases h0:i=0;{subst h0;rw[jo (by simpa using qU)];rfl}
   ·rw[iI (iN h0),kL,lu hi]
    have:A2 [(0,os)] i=[]:=by
     simp only[A2];cases hb:Nat.beq i 0 with
     | true=>exact lH (CC hb) h0
     | false=>rfl
    rw[this];rfl
  ·simp only[jJ,List.flatMap_nil,j6];refine LV (by simp[F4]) fun i hi=>?_;unfold F4;rw[iC,jG hi];simp only[iu,iW];by_cases vq:i < os.length/\fn.gone.contains i=false;{rw[lu vq];have hm:(i,KV.oh (0,i))∈((List.range P.ins.length).filter fun j=>!fn.gone.contains j).map fun j=>(j,KV.oh (0,j)):=ii.2 ⟨i,ju.2 ⟨jS.2 (by have:=vq.1;omega),by simp only[vq.2,kc]⟩,rfl⟩;rw[show AS (((List.range P.ins.length).filter fun j=>!fn.gone.contains j).map fun j=>(j,KV.oh (0,j))) i=KV.oh (0,i) from hwsp.get_mem hm];rfl}
   ·rw[lr vq]
    rw[show AS (((List.range P.ins.length).filter fun j=>!fn.gone.contains j).map fun j=>(j,KV.oh (0,j))) i=.un from Uh fun p hp=>by
     obtain⟨j,hj,rfl⟩:=ii.1 hp;obtain⟨U,H⟩:=ju.1 hj;have:=jS.1 U;simp only
     intro e;subst e;exact vq ⟨by omega,by simpa using H⟩]
    rfl
 have fin:∀ {k1:Aw},k1.Ok->(KI k1 fn.res fun A=>PS P k1 (KJ A))=some rs->(∀ v,Dl k1.V fn.res=some v->AZ fun n=>Db (CR cfg.b.sp mq n) n fn (os.map Ad.ob) (AE aas)=some (k1.V,EL v))->Cs cfg.b P g A=some rs:=by
  intro k1 nA hr O;obtain⟨ws,hr,hws,U⟩:=YP nA fn.res hr;obtain⟨o1,o2⟩:=YR hws;obtain⟨out,g1,g2⟩:=xe nA o1 hr;have hI:cfg.b.I g (os.map Ad.ob) (AE aas)=some (k1.V,(KJ ws).pv):=by rw[hc.I];unfold S7;rw[ht,o2];exact Sv (O _ U)
  unfold Cs;rw[hos,has,hI];simp only[g1,g2]
 split at hr
 ·rename_i hD;obtain⟨x,k1,e1,hr,nA,mo⟩:=Vb hc fn.code (h:=AL) (hn:=fun _=>AL) noH 0 hks hr;rw[nK] at mo;cases x with
  | exit id=>cases hr
  | _ =>
   refine fin nA hr fun v U=>mo.mono fun n nO=>?_;unfold Db;rw[lu hD,nO];simp only[U]
 ·rename_i hD;obtain⟨x,k1,l,hr,nA,mo⟩:=xd hc fn.code hks hr;rw[nK] at mo;cases x with
  | exit id=>cases hr
  | _ =>
   obtain⟨k2,hr,pX,hdf⟩:=zby hc l nA hr;refine fin pX hr fun v U=>mo.oP hdf fun n nO qq=>?_;unfold Db;rw[lr hD,nO];simp only[qq,U]
end Go.Ab


namespace Go.Ab
variable{E':lP} {W:lJ} {a u:PV} {b:Nat} {c:Array lK} {fr:Nat×Nat} {n v:lK} {J:Nm} {p:Option (Nat×Nat)} {us:List lK}
section sp
variable {cx:Cx} {E:Type} {w0:lJ} {I0 F0:Nat->Prop} {O0:BE} {Hd:Nat->Option Obj} {R:Bs E} {e:E} {ds:List lQ} {I F:Nat->Prop} {lp:Nat->lT} {L:As} {mN ml:List lK} {V:St} {w w':lJ} {dst:lT}
theorem Dw (hs:SR lp I L V mN ml w) (hf:Fr cx w0 I0 F0 O0 Hd R e ds I F L w) (h:nR w w') (hv:Am w' I lp (some L) u v) :
  ∃ I' L',SR lp I' L' (apply V dst {v:=u}) (F5 mN dst v) ml w'/\Fr cx w0 I0 F0 O0 Hd R e ds I' F L' w':=by
 have O:BS I F w I F w':=⟨h.os,h.tape,h.output,h.size,fun b hb _=>h.same b hb,fun _ h=>h,fun _ h=>.inl h,fun _ h=>.inl h⟩;have hi:IF I F w':=⟨fun b hb=>jO (hf.sep.iB b hb) h.size,fun b hb=>⟨jO (hf.sep.fB b hb).1 h.size,(hf.sep.fB b hb).2⟩⟩;have hw:cx.Wd I w':=cx.pW I I w w' hf.wd (fun _ h=>h) (fun b hb=>h.same b (hf.sep.iB b hb)) h.size;have hr:R.rel e I F w':=R.pW e I I F w w' hf.re (fun _ h=>h) (fun b hb=>h.same b (hb.elim (hf.sep.iB b) fun h=>(hf.sep.fB b h).1)) h.size;refine⟨I,L,?_,hf.called O hi hw hr⟩;have H:=hs.called hf O;cases dst with
 | none=>exact H
 | some d=>exact H.put d hv
theorem na (w:lJ):nR w w:=⟨rfl,rfl,rfl,ik _,fun _ _=>rfl⟩
theorem RT (hs:SR lp I L V mN ml w) (hf:Fr cx w0 I0 F0 O0 Hd R e ds I F L w) {b C:Nat} (hL:L J=some (some (b,C)))
  (U:w'.os=w.os) (H:w'.tape=w.tape) (h3:w'.output=w.output) (h4:w.heap.size<=w'.heap.size) (hk:∀ k,k < w.heap.size->k≠b->w'.heap[k]?=w.heap[k]?)
  {ob:Ob} (oI:Tq w' I lp L b C ob) (hv:Am w' I lp (some L) u v) :
  ∃ I' L',SR lp I' L' (apply V dst {v:=u,nf:=some (J,ob)}) (F5 mN dst v) ml w'/\Fr cx w0 I0 F0 O0 Hd R e ds I' F L' w':=by
 have hI:∀ k,I k->w'.heap[k]?=w.heap[k]?:=fun k hi=>hk k (hf.sep.iB k hi) fun e=>(hf.lB J b C hL).2.2.1 (e ▸ hi)
 have qo:Fr cx w0 I0 F0 O0 Hd R e ds I F L w':=hf.own U H h3 h4
  (fun k hb sU=>hk k hb fun e=>sU J C (e ▸ hL)) (fun _ h=>h) (fun _ h=>.inl h)
  (fun nr b' C' h=>⟨jO (hf.lB nr b' C' h).2.1 h4,(hf.lB nr b' C' h).2.2.1,.inr ⟨nr,C',h⟩⟩) hf.inj
 have hsr:SR lp I L {V with mi:=AR V.mi J ob} mN ml w':=hs.nf hL hI
  (fun m b' C' hm h=>hk b' (hf.lB m b' C' h).2.1 fun e=>hm (hf.inj m J b' C' C h (e ▸ hL))) oI
 refine⟨I,L,?_,qo⟩;cases dst with
 | none=>exact hsr
 | some d=>exact hsr.put d hv
theorem sp_gone (hs:SR lp I L V mN ml w) (hf:Fr cx w0 I0 F0 O0 Hd R e ds I F L w) (hL:L J=some p)
  (U:w'.os=w.os) (H:w'.tape=w.tape) (h3:w'.output=w.output) (h4:w.heap.size<=w'.heap.size) (hk:∀ b',b' < w.heap.size->(∀ C,p≠some (b',C))->w'.heap[b']?=w.heap[b']?)
  (hv:∀ L':As,Am w' I lp (some L') u v) :
  ∃ I' L',SR lp I' L' (apply V dst {v:=u,nf:=some (J,AP),kill:=some J}) (F5 mN dst v) ml w'/\Fr cx w0 I0 F0 O0 Hd R e ds I' F L' w':=by
 have hI:∀ b',I b'->w'.heap[b']?=w.heap[b']?:=fun b' oT=>hk b' (hf.sep.iB b' oT) fun C e=>(hf.lB J b' C (by rw[hL,e])).2.2.1 oT
 have hu:=hs.yW (w':=w') (k:=0) (kt:=0) (Z:=[]) (p':=none) hL hI
  (fun m b' C' hm hn=>hk b' (hf.lB m b' C' hn).2.1 fun C e=>hm (hf.inj m J b' C' C hn (by rw[hL,e]))) ⟨0,0,rfl⟩
 refine⟨I,(fun m=>if m=J then some none else L m),?_,?_⟩
 ·cases dst with
  | none=>exact hu
  | some d=>exact hu.put d (hv _)
 ·refine hf.own U H h3 h4 (fun b' oT hn=>hk b' oT fun C e=>hn J C (by rw[hL,e])) (fun _ h=>h) (fun _ h=>.inl h) ?_ ?_;{intro m b' C' hn;by_cases hm:m=J;{simp[hm] at hn};{simp only[hm,lm] at hn;exact⟨by have:=(hf.lB m b' C' hn).2.1;omega,(hf.lB m b' C' hn).2.2.1,.inr ⟨m,C',hn⟩⟩}}
  ·intro m m' b' C1 C2 hn nO;by_cases hm:m=J;{simp[hm] at hn}
   ·by_cases qn:m'=J
    {simp[qn] at nO};{simp only[hm,qn,lm] at hn nO;exact hf.inj m m' b' C1 C2 hn nO}
end sp
theorem JP {w:lJ} {I:Nat->Prop} {lp:Nat->lT} {L:l7} (h:Ai w I lp L [a] us):∃ u,us=[u]/\Am w I lp L a u:=by
 obtain⟨u,r,U,rfl,H⟩:∃ u r,Am w I lp L a u/\us=u :: r/\Ai w I lp L [] r:=by cases h;exact⟨_,_,by assumption,rfl,by assumption⟩
 cases H;exact⟨u,rfl,U⟩
theorem DA {w:lJ} {I:Nat->Prop} {lp:Nat->lT} {L:l7} {b:PV} (h:Ai w I lp L [a,b] us):∃ u v,us=[u,v]/\Am w I lp L a u/\Am w I lp L b v:=by
 obtain⟨u,r,U,rfl,H⟩:∃ u r,Am w I lp L a u/\us=u :: r/\Ai w I lp L [b] r:=by cases h;exact⟨_,_,by assumption,rfl,by assumption⟩
 obtain⟨v,rfl,h3⟩:=JP H;exact⟨u,v,rfl,U,h3⟩
theorem n9 {o:Nat} (h:W.heap[b]?=some (.cells c E' fr)):(W.setCell ⟨b,o,none⟩ n).heap[b]?=some (.cells (c.setIfInBounds o n) E' fr):=by simp[World.setCell,Array.getElem?_modify,h]
theorem QE (W:lJ) (a:Addr) (n:lK):(W.setCell a n).heap.size=W.heap.size:=by simp[World.setCell]
theorem cell_of_heap {w w':lJ} (h:w'.heap[b]?=w.heap[b]?) (o:Nat):w'.cell? ⟨b,o,none⟩=w.cell? ⟨b,o,none⟩:=by simp only[World.cell?,h]
end Go.Ab


namespace Go.Ab
open Go
variable{L:l7} {S:lU} {zza gm gt:Nat} {W w:lJ} {c:Array lK} {gc:lL} {lp:Nat->lT} {sp:lL->(Nm->lV)->lS->l5} {us:List lK} {v:lK}
def ErrVars (gs:lU) (T:Nat) (I:Nat->Prop) (w:lJ):Prop :=
 ∃ ad:Nat->Addr,(∀ g∈gs,I g/\I (ad g).block/\(∃ E f,w.heap[g]?=some (.cells #[.iface T (.pointer (some (ad g)))] E f))/\∃ c t,w.heap[(ad g).block]?=some (.cells c t (0,0)))/\∀ g∈gs,∀ g'∈gs,g≠g'->ad g≠ad g'
structure WVars (gs:lU) (T:Nat) (et:List (Nat×lK)) (pP:List (Nat×Array lK)) (ns:lU) (I:Nat->Prop) (w:lJ):Prop where
 err:ErrVars gs T I w
 et0:∀ p∈et,I p.1/\w.cell? ⟨p.1,0,none⟩=some p.2
 mq:∀ p∈pP,I p.1/\∃ E f,w.heap[p.1]?=some (.cells p.2 E f)
 num:∀ g∈ns,I g/\∃ m,w.cell? ⟨g,0,none⟩=some (.int .i64 m)
def V9 (gs:lU) (T:Nat):EO:=fun g=>if gs.contains g then some [.mY g T] else none
noncomputable def Jg (P:lO) (mixed:P.follows .mixedOrders=true) (gs:lU) (T:Nat) (et:List (Nat×lK)) (pP:List (Nat×Array lK)) (ns:lU):Cx where
 P:=P
 mixed:=mixed
 G:=V9 gs T
 Wd I w:=WVars gs T et pP ns I w
 pW I I' w w' h U H _:=by obtain⟨⟨ad,e1,e2⟩,e0,ht,hn⟩:=h;refine⟨⟨ad,fun g hg=>?_,e2⟩,fun p hp=>⟨U _ (e0 p hp).1,by rw[cell_of_heap (H _ (e0 p hp).1)];exact (e0 p hp).2⟩,fun p hp=>?_,fun g hg=>?_⟩;{obtain⟨a1,a2,a3,a4⟩:=e1 g hg;exact⟨U _ a1,U _ a2,by rw[H _ a1];exact a3,by rw[H _ a2];exact a4⟩};{obtain⟨a1,a2⟩:=ht p hp;exact⟨U _ a1,by rw[H _ a1];exact a2⟩};{obtain⟨a1,m,a2⟩:=hn g hg;exact⟨U _ a1,m,by rw[cell_of_heap (H _ a1)];exact a2⟩}
 gl I w g cs h hg lp L:=by unfold V9 at hg;split at hg;{rename_i xf;cases hg;obtain⟨ad,e1,_⟩:=h.err;obtain⟨a1,a2,⟨E,f,a3⟩,a4⟩:=e1 g (by simpa using xf);exact Am.ptr (off:=0) (o:=0) [.mY g T] g _ _ _ a1 a3 (by simp) (by simp) (by simp[A6];rfl) (by simp;exact .cons _ _ _ _ (.mY g T _ _ _ _ a1 a3 rfl) .nil)};{cases hg}
def FB (cx:Cx) (g:lL) (V:St) (A:lS) (out:Al):Prop:=Bw cx.P g /\
  ∀ (E:Type) (w0:lJ) (I0 F0:Nat->Prop) (O0:BE) (Hd:Nat->Option Obj) (R:Bs E) (e:E) (ds:List lQ) (I F:Nat->Prop) (lp:Nat->lT) (L:As) (mN ml us:List lK) (w:lJ) (dst:lT),
   SR lp I L V mN ml w->Fr cx w0 I0 F0 O0 Hd R e ds I F L w->Ai w I lp (some L) A us->(∀ d,dst=some d->V.mi[d]?=some []) ->
   CallsIn Fence.wide 0 cx.P g us.toArray w fun
    | .returned v,w'=>∃ I' L',SR lp I' L' (apply V dst {out with v:=out.v.mz (EW (dst.getD 0))}) (F5 mN dst v) ml w'/\Fr cx w0 I0 F0 O0 Hd R e ds I' F L' w'
    | _,_=>False
def IH (f:(Nm->lV)->lS->l5):Prop:=∀ σ σ' A,(∀ J∈AI σ AG (Ar A),σ J=σ' J)->f σ A=f σ' A
theorem LT {I:Nat->Prop} {g:Nat} {t:lP} (h:Am w I lp L (.mY g t) v):∃ x c E fr,v=.iface t x/\w.heap[g]?=some (.cells c E fr)/\c[0]?=some (.iface t x):=by
 cases h with
 | mY g t x c E fr hI hb hv=>exact⟨x,c,E,fr,rfl,hb,hv⟩
theorem nd {w':lJ} (h:Go.RowKit.Below w.heap.size w w'):nR w w':=⟨h.os,h.tape,h.output,h.size,h.block⟩
structure AsOK (P:lO) (g:lL) (ge:Nat) (et:lK) (ps:List (Nat×Nat)):Prop where
 enters:Bw P g
 none:∀ (v:lK) (w:lJ),Calls P g #[.nilIface,v] w fun e w'=>e=.returned (.bool false)/\w'=w
 hit:∀ p t,ps.lookup p=some t->∀ (v n:lK),v.cells=#[n]->n.oneCell'=true->∀ (a:Addr) (qh:lK) (w:lJ),w.cell? ⟨ge,0,Option.none⟩=some et->w.cell? a=some qh->w.frozen? a=false ->
  Calls P g #[.iface t v,.iface p (.pointer (some a))] w fun e w'=>e=.returned (.bool true)/\∃ o1 o2 o3 o4,w'=((((w.alloc o1).alloc o2).alloc o3).alloc o4).setCell a n
section at_
variable {P:lO} {mx:P.follows .mixedOrders=true} {gs:lU} {T:Nat} {et:List (Nat×lK)} {pP:List (Nat×Array lK)} {ns:lU}
def zbz (gs:lU) (T:Nat) (S:lU):lS->l5
 | [.mB,.mY g t]=>if g∈gs/\t=T then some {v:=.bool false} else none
 | [.mY g t,.mY g' t']=>if g∈gs/\g'∈gs/\t=T/\t'=T then some {v:=.bool (g==g')} else none
 | [.iface s x,.mY g t]=>if g∈gs/\t=T/\s∈S/\Ax x=true then some {v:=.bool false} else none
 | _=>none
structure IsOK (P:lO) (g:lL) (T:Nat) (S:lU):Prop where
 enters:Bw P g
 none:∀ (a:Addr) (w:lJ),Calls P g #[.nilIface,.iface T (.pointer (some a))] w fun e w'=>e=.returned (.bool false)/\w'=w
 same:∀ (a:Addr) (w:lJ),Calls P g #[.iface T (.pointer (some a)),.iface T (.pointer (some a))] w fun e w'=>e=.returned (.bool true)/\w'=w
 other:∀ (a b:Addr) (ca cb:Array lK) (ta tb:lP) (w:lJ),a≠b->w.heap[a.block]?=some (.cells ca ta (0,0))->w.heap[b.block]?=some (.cells cb tb (0,0)) ->
  Calls P g #[.iface T (.pointer (some a)),.iface T (.pointer (some b))] w fun e w'=>e=.returned (.bool false)/\w'=w
 type:∀ s∈S,∀ (v:lK) (b:Addr) (w:lJ),Calls P g #[.iface s v,.iface T (.pointer (some b))] w fun e w'=>e=.returned (.bool false)/\w'=w
theorem is_at {g:lL} (hA:IsOK P g T S) {V:St} {A:lS} {out:Al} (h:zbz gs T S A=some out):FB (Jg P mx gs T et pP ns) g V A out:=by refine⟨hA.enters,?_⟩;unfold zbz at h;split at h;{split at h;{rename_i hp;obtain⟨xf,rfl⟩:=hp;cases h;intro E w0 I0 F0 O0 Hd R e ds I F lp L mN ml us w dst hs hf hu hd;obtain⟨u,v,rfl,U,H⟩:=DA hu;rw[Is U];obtain⟨ad,e1,e2⟩:=hf.wd.err;obtain⟨x,c,E',fr,rfl,q1,q2⟩:=LT H;obtain⟨_,_,⟨_,_,a3⟩,_⟩:=e1 _ xf;rw[a3] at q1;cases q1;cases q2;refine callsIn_wide.2 ((hA.none _ w).mono ?_);rintro ev w' ⟨rfl,rfl⟩;exact Dw hs hf (na _) (.bool false)};{cases h}};{rename_i g1 t1 g2 t2;split at h;{rename_i hp;obtain⟨hg1,hg2,rfl,rfl⟩:=hp;cases h;intro E w0 I0 F0 O0 Hd R e ds I F lp L mN ml us w dst hs hf hu hd;obtain⟨u,v,rfl,U,H⟩:=DA hu;obtain⟨ad,e1,e2⟩:=hf.wd.err;obtain⟨x,c,E',fr,rfl,q1,q2⟩:=LT U;obtain⟨y,c',E'',fr',rfl,q1',q2'⟩:=LT H;obtain⟨_,_,⟨_,_,a3⟩,ca,ta,a4⟩:=e1 _ hg1;obtain⟨_,_,⟨_,_,b3⟩,cb,tb,b4⟩:=e1 _ hg2;rw[a3] at q1;cases q1;cases q2;rw[b3] at q1';cases q1';cases q2';by_cases xf:g1=g2;{subst xf;refine callsIn_wide.2 ((hA.same _ w).mono ?_);rintro ev w' ⟨rfl,rfl⟩;rw[lF];exact Dw hs hf (na _) (.bool true)};{refine callsIn_wide.2 ((hA.other _ _ ca cb ta tb w (e2 _ hg1 _ hg2 xf) a4 b4).mono ?_);rintro ev w' ⟨rfl,rfl⟩;rw[beq_eq_false_iff_ne.2 xf];exact Dw hs hf (na _) (.bool false)}};{cases h}};{rename_i ss x g1 t1;split at h;{rename_i hp;obtain⟨xf,rfl,hS,O⟩:=hp;cases h;intro E w0 I0 F0 O0 Hd R e ds I F lp L mN ml us w dst hs hf hu hd;obtain⟨u,v,rfl,U,H⟩:=DA hu;obtain⟨u',rfl,p9⟩:=Kj U;obtain⟨ad,e1,e2⟩:=hf.wd.err;obtain⟨x,c,E',fr,rfl,q1,q2⟩:=LT H;obtain⟨_,_,⟨_,_,a3⟩,_⟩:=e1 _ xf;rw[a3] at q1;cases q1;cases q2;refine callsIn_wide.2 ((hA.type _ hS u' _ w).mono ?_);rintro ev w' ⟨rfl,rfl⟩;exact Dw hs hf (na _) (.bool false)};{cases h}};{cases h}
end at_
section any
variable {cx:Cx} {g:lL} {V:St} {A:lS} {out:Al}
def countB (c:UInt8):l4->Nat
 | []=>0
 | x :: Z=>(if x=c then 1 else 0)+countB c Z
def aL:lS->l5
 | [.str s,.str [c]]=>some {v:=.int .i64 (countB c s:Nat)}
 | _=>none
theorem al (c:UInt8):∀ s:l4,countB c s=Lib.countByte s c
 | []=>rfl
 | x :: Z=>by
  unfold countB;rw[al c Z];unfold Lib.countByte;rw[List.count_cons];by_cases h:x=c;{simp[h,Nat.add_comm]};{simp[h]}
theorem zbA (he:Bw cx.P g) (hc:∀ (s:ByteArray) (c:UInt8) (w:lJ),Calls cx.P g #[.string s,.string ⟨#[c]⟩] w fun e w'=>e=.returned (.int .i64 (Lib.countByte s.data.toList c))/\w'=w)
  (h:aL A=some out):FB cx g V A out:=by
 refine⟨he,?_⟩;unfold aL at h;split at h;{cases h;intro E w0 I0 F0 O0 Hd R e ds I F lp L mN ml us w dst hs hf hu hd;obtain⟨u,v,rfl,U,H⟩:=DA hu;rw[Cu U,Cu H];refine callsIn_wide.2 ((hc _ _ w).mono ?_);rintro ev w' ⟨rfl,rfl⟩;refine Dw hs hf (na _) ?_;rw[al];exact .int _ _};{cases h}
def zbB:lS->l5
 | [.str s,.int .u8 c]=>if 0<=c/\c < 256 then some {v:=.int .i64 (Lib.indexByte s (UInt8.ofNat c.toNat))} else none
 | _=>none
theorem idx_at (he:Bw cx.P g) (hc:∀ (s:ByteArray) (c:Int) (w:lJ),Calls cx.P g #[.string s,.int .u8 c] w fun e w'=>e=.returned (.int .i64 (Lib.indexByte s.data.toList c.toNat.toUInt8))/\w'=w)
  (h:zbB A=some out):FB cx g V A out:=by
 refine⟨he,?_⟩;unfold zbB at h;split at h;{split at h;{cases h;intro E w0 I0 F0 O0 Hd R e ds I F lp L mN ml us w dst hs hf hu hd;obtain⟨u,v,rfl,U,H⟩:=DA hu;rw[Cu U,CD H];refine callsIn_wide.2 ((hc _ _ w).mono ?_);rintro ev w' ⟨rfl,rfl⟩;exact Dw hs hf (na _) (.int _ _)};{cases h}};{cases h}
def Kv (T:Nat) (σ:Nm->lV):lS->l5
 | [.ref n 0]=>match σ n with
  | some (.cells t [.mJ,x])=>if t=T then some {v:=.mn [],nf:=some (n,.cells T [.ref n 0,x])} else none
  | some (.cells t [.ref n' 0,_])=>if t=T/\n'=n then some {v:=.mn []} else none
  | _=>none
 | _=>none
def JN (T zza:Nat) (σ:Nm->lV):lS->l5
 | [.ref n 0]=>match σ n with
  | some (.cells t [_,.mu])=>if t=T then some {v:=.str []} else none
  | some (.cells t [_,.arr n' 1 0 k])=>match σ n' with
   | some (.arr 1 u Z)=>match Ef (Z.take k) with
    | some s=>if t=T/\u=zza/\n'≠n/\0 < k/\k<=Z.length/\k<=EH then some {v:=.str s,nf:=some (n',AP),kill:=some n'} else none
    | none=>none
   | _=>none
  | _=>none
 | _=>none
theorem gY (T:Nat):IH (Kv T):=by intro σ σ' A h;unfold Kv;split;{rename_i n;rw[h n (DI _ _ n (by simp[Ar,PV.names]))]};{rfl}
theorem zbC (T zza:Nat):IH (JN T zza):=by
 intro σ σ' A h;unfold JN;split
 ·rename_i n;rw[<-h n (DI _ _ n (by simp[Ar,PV.names]))];have H:∀ t a n' k,σ n=some (.cells t [a,.arr n' 1 0 k])->σ n'=σ' n':=by intro t a n' k he;refine h n' ?_;show n'∈AI σ 3 [n];unfold AI;refine iJ _ (DI _ _ n' ?_);simp[he,Ob.names,Ar,PV.names]
  generalize O:σ n=o at *;split;{rfl};{rename_i t a n' k;rw[H t a n' k rfl]};{rfl}
 {rfl}
theorem Xn {w:lJ} {I:Nat->Prop} {lp:Nat->lT} {L:l7}:∀ (Z:lS) (A:List lK) (s:l4),Ai w I lp L Z A->Ef Z=some s->∀ (j:Nat) (x:UInt8),s[j]?=some x->A[j]?=some (.int .u8 (x.toNat:Int))
 | [],_,s,_,h,j,x,hj=>by cases h;simp at hj
 | p :: Z,_,s,h,hb,j,x,hj=>by
  cases h with
  | cons _ v _ A hv hs =>
   simp only[Ef] at hb;split at hb
   ·rename_i b bs U H;cases hb;have hp:v=.int .u8 (b.toNat:Int):=by unfold KW at U;split at U;{rename_i n;split at U;{rename_i hn;cases U;rw[CD hv];congr 1;simp;omega};{cases U}};{cases U}
    cases j with
    | zero=>simp at hj;subst hj;simp[hp]
    | succ j=>simp at hj |-;exact Xn Z A bs hs H j x hj
   {cases hb}
theorem W4:∀ (Z:lS) (s:l4),Ef Z=some s->s.length=Z.length
 | [],s,h=>by cases h;rfl
 | p :: Z,s,h=>by
  simp only[Ef] at h;split at h;{rename_i b bs U H;cases h;simp[W4 Z bs H]};{cases h}
theorem X3:∀ (Z:lS) (s:l4),Ef Z=some s->mr Z=Z
 | [],_,_=>rfl
 | p :: Z,s,h=>by
  simp only[Ef] at h;split at h
  ·rename_i b bs U H;have hp:p.cells=[p]:=by unfold KW at U;split at U;{rfl};·cases U
   simp[mr,hp,X3 Z bs H]
  {cases h}
theorem NF {a b:lK} (h:c.toList=[a,b]):c=#[a,b]:=by apply Array.toList_inj.1;simpa using h
theorem dH {a:Addr} {n k:Nat} (h:k≠a.block):(W.freeze a n).heap[k]?=W.heap[k]?:=by unfold World.freeze;split;{rfl};{simp[Array.getElem?_modify,iN h]}
theorem repL4 {I:Nat->Prop} {a b c d:PV} (h:Ai w I lp L [a,b,c,d] us):∃ u v x y,us=[u,v,x,y]/\Am w I lp L a u/\Am w I lp L b v/\Am w I lp L c x/\Am w I lp L d y:=by
 obtain⟨u,r,U,rfl,H⟩:∃ u r,Am w I lp L a u/\us=u :: r/\Ai w I lp L [b,c,d] r:=by cases h;exact⟨_,_,by assumption,rfl,by assumption⟩
 obtain⟨v,r,h3,rfl,h4⟩:∃ u q,Am w I lp L b u/\r=u :: q/\Ai w I lp L [c,d] q:=by cases H;exact⟨_,_,by assumption,rfl,by assumption⟩
 obtain⟨x,y,rfl,h5,h6⟩:=DA h4;exact⟨u,v,x,y,rfl,U,h3,h5,h6⟩
structure zbD (P:lO) (gc gs:lL) (T zza:Nat):Prop where
 u9:Bw P gc
 vd:Bw P gs
 nzT:T≠0
 nzU:zza≠0
 used:∀ (b:Nat) (w:lJ),w.cell? ⟨b,0,none⟩=some (.pointer (some ⟨b,0,none⟩))->Calls P gc #[.pointer (some ⟨b,0,none⟩)] w fun e w'=>e=.returned (.tuple #[])/\w'=w
 fresh:∀ (b:Nat) (w:lJ),w.cell? ⟨b,0,none⟩=some (.pointer none)->w.shape? b=some (T,2)->w.frozen? ⟨b,0,none⟩=false ->
  Calls P gc #[.pointer (some ⟨b,0,none⟩)] w fun e w'=>e=.returned (.tuple #[])/\w'=w.setCell ⟨b,0,none⟩ (.pointer (some ⟨b,0,none⟩))
 zbE:∀ (b:Nat) (p:lK) (w:lJ),w.heap[b]?=some (.cells #[p,.slice none 0 0] T (0,0))->Calls P gs #[.pointer (some ⟨b,0,none⟩)] w fun e w'=>e=.returned (.string ⟨#[]⟩)/\w'=w.drew
 ve:∀ (b g cap:Nat) (p:lK) (cur:Array lK) (l:l4) (w:lJ),w.heap[b]?=some (.cells #[p,.slice (some ⟨g,0,none⟩) l.length cap] T (0,0))->w.heap[g]?=some (.cells cur zza (0,0))->l≠[]->l.length<=cap->l.length<=cur.size ->
  l.length<=9223372036854775807->(∀ (j:Nat) (x:UInt8),l[j]?=some x->cur[j]?=some (Value.int .u8 (x.toNat:Int))) ->
  Calls P gs #[.pointer (some ⟨b,0,none⟩)] w fun e w'=>e=.returned (.string ⟨l.toArray⟩)/\w'=w.drew.freeze ⟨g,0,none⟩ l.length
theorem zbF {gs:lL} {T:Nat} (hB:zbD cx.P g gs T zza) (h:Kv T (Ac V.mi) A=some out):FB cx g V A out:=by
 refine⟨hB.u9,?_⟩;unfold Kv at h;split at h
 ·rename_i n;split at h
  ·rename_i t x nq;split at h
   case isFalse=>cases h
   rename_i ht;subst ht;cases h;intro E w0 I0 F0 O0 Hd R e ds I F lp L mN ml us w dst hs hf hu hd;obtain⟨u,rfl,hr⟩:=JP hu;obtain⟨b,C,hL,rfl⟩:=FJ hr;obtain⟨q,hq,oI⟩:=hs.ob n _ nq;rw[hL] at hq;cases hq;obtain⟨c,E',hb,hC,nk,oJ⟩:=oI;obtain⟨v0,v1,hc,r0,r1⟩:=DA oJ;have hc:=NF hc;subst hc;obtain rfl:E'=t:=nk.2.resolve_left hB.nzT;rw[L4 r0] at hb;refine callsIn_wide.2 ((hB.fresh b w (by simp[World.cell?,hb]) (by simp[World.shape?,hb]) (by simp[World.frozen?,hb])).mono ?_);rintro ev w' ⟨rfl,rfl⟩;have pG:=n9 (o:=0) (n:=.pointer (some ⟨b,0,none⟩)) hb;have hI:∀ k,I k->(w.setCell ⟨b,0,none⟩ (.pointer (some ⟨b,0,none⟩))).heap[k]?=w.heap[k]?:=fun k hk=>Go.RowKit.Below.heap_setCell _ _ _ _ fun (e:k=b)=>(hf.lB n b C hL).2.2.1 (e ▸ hk);refine RT (w':=w.setCell ⟨b,0,none⟩ (.pointer (some ⟨b,0,none⟩))) hs hf hL rfl rfl rfl (by rw[QE];exact ik _) (fun k _ hk=>Go.RowKit.Below.heap_setCell _ _ _ _ hk) ?_ (.mn [] #[] .nil);refine⟨_,E',pG,by simpa using hC,⟨?_,.inr rfl⟩,?_⟩;{intro v hv;simp at hv;rcases hv with rfl | rfl;{rfl};{exact nk.1 _ (by simp)}};{simp;exact .cons _ _ _ _ (.ref n 0 b C hL) (.cons _ _ _ _ (Am.mono (fun _ h=>h) hI (fun _ _ h=>h) r1) .nil)}
  {rename_i t n' x nq;split at h;{rename_i hn;obtain⟨rfl,rfl⟩:=hn;cases h;intro E w0 I0 F0 O0 Hd R e ds I F lp L mN ml us w dst hs hf hu hd;obtain⟨u,rfl,hr⟩:=JP hu;obtain⟨b,C,hL,rfl⟩:=FJ hr;obtain⟨q,hq,oI⟩:=hs.ob _ _ nq;rw[hL] at hq;cases hq;obtain⟨c,E',hb,hC,nk,oJ⟩:=oI;obtain⟨v0,v1,hc,r0,r1⟩:=DA oJ;have hc:=NF hc;subst hc;obtain⟨b',C',tD,rfl⟩:=FJ r0;rw[hL] at tD;cases tD;refine callsIn_wide.2 ((hB.used b w (by simp[World.cell?,hb])).mono ?_);rintro ev w' ⟨rfl,rfl⟩;exact Dw hs hf (na _) (.mn [] #[] .nil)};{cases h}};{cases h}
 {cases h}
theorem str_at {T:Nat} (hB:zbD cx.P gc g T zza) (h:JN T zza (Ac V.mi) A=some out):FB cx g V A out:=by
 refine⟨hB.vd,?_⟩;unfold JN at h;split at h
 ·rename_i n;split at h
  ·rename_i t x nq;split at h
   case isFalse=>cases h
   rename_i ht;subst ht;cases h;intro E w0 I0 F0 O0 Hd R e ds I F lp L mN ml us w dst hs hf hu hd;obtain⟨u,rfl,hr⟩:=JP hu;obtain⟨b,C,hL,rfl⟩:=FJ hr;obtain⟨q,hq,oI⟩:=hs.ob _ _ nq;rw[hL] at hq;cases hq;obtain⟨c,E',hb,hC,nk,oJ⟩:=oI;obtain⟨v0,v1,hc,r0,r1⟩:=DA oJ;have hc:=NF hc;subst hc;obtain rfl:E'=t:=nk.2.resolve_left hB.nzT;rw[GF r1] at hb;refine callsIn_wide.2 ((hB.zbE b v0 w hb).mono ?_);rintro ev w' ⟨rfl,rfl⟩;exact Dw (w':=w.drew) hs hf ⟨rfl,rfl,rfl,ik _,fun _ _=>rfl⟩ (.str [])
  ·rename_i t x n' k nq;split at h
   ·rename_i u' Z hlk';split at h
    ·rename_i s nT;split at h
     ·rename_i hc0;obtain⟨rfl,rfl,hnn,hk0,hkl,hkm⟩:=hc0;cases h;intro E w0 I0 F0 O0 Hd R e ds I F lp L mN ml us w dst hs hf hu hd;obtain⟨u,rfl,hr⟩:=JP hu;obtain⟨b,C,hL,rfl⟩:=FJ hr;obtain⟨q,hq,oI⟩:=hs.ob _ _ nq;rw[hL] at hq;cases hq;obtain⟨c,E',hb,hC,nk,oJ⟩:=oI;obtain⟨v0,v1,hc,r0,r1⟩:=DA oJ;have hc:=NF hc;subst hc;obtain rfl:E'=t:=nk.2.resolve_left hB.nzT;obtain⟨q',hq',hob'⟩:=hs.ob _ _ hlk';rcases G5 r1 with ⟨g,C',cap,tD,rfl,hC',hn⟩ | ⟨_,_,_,h0⟩
      ·rw[tD] at hq';cases hq';obtain⟨cur,E2,hg,hCg,hle,qe,sB,mG⟩:=hob';obtain rfl:E2=u':=hle.2.resolve_left hB.nzU;have hlen:=W4 _ _ nT;rw[j5,jf hkl] at hlen;have hrk:Ai w I lp none (Z.take k) (cur.toList.take k):=by have U:=mG.take k;rw[show k=k*1 by omega,<-Ke qe,X3 _ _ nT,jg,jf (by omega)] at U;simpa using U
       have hbytes:=Xn _ _ _ hrk nT;have hcur:k<=cur.size:=by have:=hle.1;omega
       subst hlen;refine callsIn_wide.2 ((hB.ve b g cap v0 cur s w (by simpa using hb) hg (by intro e;subst e;simp at hk0) hn hcur ?_ ?_).mono ?_);{unfold EH at hkm;omega};{intro j x O;have hj:j < s.length:=(ix.1 O).1;have U:=hbytes j x O;rw[j4 hj] at U;simpa using U}
       ·rintro ev w' ⟨rfl,rfl⟩;have tq:∀ (W:lJ) (a:Addr) (n:Nat),(W.freeze a n).os=W.os/\(W.freeze a n).tape=W.tape/\(W.freeze a n).output=W.output/\(W.freeze a n).heap.size=W.heap.size:=fun W a n=>by unfold World.freeze;split<;>simp
        obtain⟨f1,f2,f3,f4⟩:=tq w.drew ⟨g,0,none⟩ s.length;refine sp_gone (w':=w.drew.freeze ⟨g,0,none⟩ s.length) hs hf tD f1 f2 f3 (Nat.le_of_eq f4.symm) (fun k' qv mP=>?_) (fun L'=>.str s);rw[dH fun e=>mP C' (by rw[e])];rfl
      {omega}
     {cases h}
    {cases h}
   {cases h}
  {cases h}
 {cases h}
end any
def digs:Nat->Nat->l4
 | 0,_=>[]
 | k+1,u=>if u < 10 then [UInt8.ofNat (48+u)] else digs k (u / 10)++[UInt8.ofNat (48+u%10)]
def HR (n:Int):l4:=if n < 0 then 45 :: digs 20 n.natAbs else digs 20 n.toNat
theorem VB:∀ (k u:Nat),u < 10 ^ k->0 < k->digs k u=Lib.decDigits u
 | 0,_,_,h=>lH h (Nat.lt_irrefl _)
 | k+1,u,h,_=>by
  unfold digs;rw[Lib.decDigits];by_cases hu:u < 10;{rw[lu hu,dif_pos hu]}
  ·rw[lr hu,dif_neg hu];have U:0 < k:=by rcases Nat.eq_zero_or_pos k with rfl | hk;{exact lH (by simpa using h) hu};{exact hk}
   have H:u / 10 < 10 ^ k:=by refine Nat.div_lt_of_lt_mul ?_;rw[Nat.pow_succ,Nat.mul_comm] at h;exact h
   rw[VB k (u / 10) H U]
theorem Vr (n:Int) (h0 : -9223372036854775808<=n) (U:n<=9223372036854775807):HR n=Lib.itoa n:=by
 unfold HR Lib.itoa;have hp:(18446744073709551616:Nat)<=10 ^ 20:=by decide
 rw[VB 20 n.natAbs (by omega) (by decide),VB 20 n.toNat (by omega) (by decide)]
def Qb:lS->l5
 | [.int .i64 n,.int .i64 10]=>if -9223372036854775808<=n/\n<=9223372036854775807 then some {v:=.str (HR n)} else none
 | _=>none
def PJ:lS->l5
 | [.int .i64 n]=>if -9223372036854775808<=n/\n<=9223372036854775807 then some {v:=.str (HR n)} else none
 | _=>none
def PH:lS->l5
 | [.str s,.str qh,.str new,.int .i64 n]=>if s.length<=65536/\new.length<=65536/\1<=qh.length then some {v:=.str (Lib.replace s qh new n)} else none
 | _=>none
section at2
variable {P:lO} {mx:P.follows .mixedOrders=true} {gs:lU} {T:Nat} {et:List (Nat×lK)} {pP:List (Nat×Array lK)} {ns:lU} {g:lL} {V:St} {A:lS} {out:Al}
theorem fmt_at (he:Bw P g) (ht:(gt,(Lib.pow10Tab.map fun z=>Value.int .u64 z).toArray)∈pP) (hn:P.globalNamed "internal/strconv.uint64pow10"=some gt)
  (hc:∀ (n:Int), -9223372036854775808<=n->n<=9223372036854775807->∀ w:lJ,Lib.TabIs P w "internal/strconv.uint64pow10" .u64 Lib.pow10Tab->Calls P g #[.int .i64 n,.int .i64 10] w fun e w'=>e=.returned (.string ⟨(Lib.itoa n).toArray⟩)/\∃ k os,w'=Sort.grow (w.drewN k) os)
  (h:Qb A=some out):FB (Jg P mx gs T et pP ns) g V A out:=by
 refine⟨he,?_⟩;unfold Qb at h;split at h
 ·rename_i n;split at h
  ·rename_i hr;cases h;intro E w0 I0 F0 O0 Hd R e ds I F lp L mN ml us w dst hs hf hu hd;obtain⟨u,v,rfl,U,H⟩:=DA hu;rw[CD U,CD H];obtain⟨_,E',fr,hp⟩:=hf.wd.mq _ ht;have ht:Lib.TabIs P w "internal/strconv.uint64pow10" .u64 Lib.pow10Tab:=by unfold Lib.TabIs World.var?;rw[hn];simp only[jT,hp]
   refine callsIn_wide.2 ((hc n hr.1 hr.2 w ht).mono ?_);rintro ev w' ⟨rfl,k,os,rfl⟩;rw[Vr n hr.1 hr.2];exact Dw hs hf (nd (Lib.below_grow _ w (ik _) k os)) (.str _)
  {cases h}
 {cases h}
theorem itoa_at (he:Bw P g) (ht:(gt,(Lib.pow10Tab.map fun z=>Value.int .u64 z).toArray)∈pP) (hn:P.globalNamed "internal/strconv.uint64pow10"=some gt)
  (hc:∀ (n:Int), -9223372036854775808<=n->n<=9223372036854775807->∀ w:lJ,Lib.TabIs P w "internal/strconv.uint64pow10" .u64 Lib.pow10Tab->Calls P g #[.int .i64 n] w fun e w'=>e=.returned (.string ⟨(Lib.itoa n).toArray⟩)/\∃ k os,w'=Sort.grow (w.drewN k) os)
  (h:PJ A=some out):FB (Jg P mx gs T et pP ns) g V A out:=by
 refine⟨he,?_⟩;unfold PJ at h;split at h
 ·rename_i n;split at h
  ·rename_i hr;cases h;intro E w0 I0 F0 O0 Hd R e ds I F lp L mN ml us w dst hs hf hu hd;obtain⟨u,rfl,U⟩:=JP hu;rw[CD U];obtain⟨_,E',fr,hp⟩:=hf.wd.mq _ ht;have ht:Lib.TabIs P w "internal/strconv.uint64pow10" .u64 Lib.pow10Tab:=by unfold Lib.TabIs World.var?;rw[hn];simp only[jT,hp]
   refine callsIn_wide.2 ((hc n hr.1 hr.2 w ht).mono ?_);rintro ev w' ⟨rfl,k,os,rfl⟩;rw[Vr n hr.1 hr.2];exact Dw hs hf (nd (Lib.below_grow _ w (ik _) k os)) (.str _)
  {cases h}
 {cases h}
theorem repl_at (he:Bw P g) (hg:gm∈ns)
  (hc:∀ (s qh new:ByteArray) (n m:Int) (w:lJ),s.size < 4294967281->w.cell? ⟨gm,0,none⟩=some (.int .i64 m)->1<=qh.size->s.size+Lib.countB s qh*new.size<=140737488355328 ->
   Calls P g #[.string s,.string qh,.string new,.int .i64 n] w fun e w'=>e=.returned (.string ⟨(Lib.replace s.data.toList qh.data.toList new.data.toList n).toArray⟩)/\Go.RowKit.Below w.heap.size w w')
  (h:PH A=some out):FB (Jg P mx gs T et pP ns) g V A out:=by
 refine⟨he,?_⟩;unfold PH at h;split at h
 ·rename_i s qh new n;split at h
  ·rename_i hr;obtain⟨l1,l2,l3⟩:=hr;cases h;intro E w0 I0 F0 O0 Hd R e ds I F lp L mN ml us w dst hs hf hu hd;obtain⟨u1,u2,u3,u4,rfl,U,H,h3,h4⟩:=repL4 hu;rw[Cu U,Cu H,Cu h3,CD h4];obtain⟨_,m,hm⟩:=hf.wd.num _ hg;have oi:=Lib.count_le s qh
   refine callsIn_wide.2 ((hc ⟨s.toArray⟩ ⟨qh.toArray⟩ ⟨new.toArray⟩ n m w (by show s.toArray.size < _;simp;omega) hm (by show 1<=qh.toArray.size;simp;omega) (by
    show s.toArray.size+Lib.count s.toArray.toList qh.toArray.toList*new.toArray.size<=_;simp only[kH];have:Lib.count s qh*new.length<=65537*65536:=Nat.mul_le_mul (by omega) l2;omega)).mono ?_)
   rintro ev w' ⟨rfl,hw⟩;exact Dw hs hf (nd hw) (.str _)
  {cases h}
 {cases h}
end at2
theorem cfg_loc (h:∀ g,IH (sp g)) (g:lL) (σ:Nm->lV) (A:lS) (hv:AB A=true):sp g σ A=sp g (fun _=>none) A:=by
 refine h g σ _ A fun J hm=>?_;rw[(Ch hv).1] at hm;have:AI σ AG []=[]:=by simp[AI,AG]
 rw[this] at hm;cases hm
end Go.Ab


namespace Go.Ab
open Go
variable{cs:lS} {J:Nm} {ty:Nat} {u:lK} {y0:Int}
def NJ (k:lN) (σ:Nm->lV):lS->l5
 | [.ref n o]=>match σ n with
  | some (.cells _ cs)=>match cs[o]? with
   | some (.int k' y)=>if k'=k then some {v:=.int k y} else none
   | _=>none
  | _=>none
 | _=>none
def Ns (k:lN) (σ:Nm->lV):lS->l5
 | [.ref n o,.int k1 y]=>match σ n with
  | some (.cells ty cs)=>match cs[o]? with
   | some (.int k' _)=>if k'=k/\k1=k then some {v:=.mn [],nf:=some (n,.cells ty (cs.set o (.int k y)))} else none
   | _=>none
  | _=>none
 | _=>none
def NI (k:lN) (x y:Int) (σ:Nm->lV):lS->l5
 | [.ref n o]=>match σ n with
  | some (.cells ty cs)=>match cs[o]? with
   | some (.int k' z)=>if k'=k/\z=x then some {v:=.mn [],nf:=some (n,.cells ty (cs.set o (.int k y)))} else none
   | _=>none
  | _=>none
 | _=>none
theorem YJ (k:lN):IH (NJ k):=by intro σ σ' A h;unfold NJ;split;{rename_i n o;rw[h n (DI _ _ n (by simp[Ar,PV.names]))]};{rfl}
theorem Xc (k:lN):IH (Ns k):=by intro σ σ' A h;unfold Ns;split;{rename_i n o k1 y;rw[h n (DI _ _ n (by simp[Ar,PV.names]))]};{rfl}
theorem Ye (k:lN) (x y:Int):IH (NI k x y):=by intro σ σ' A h;unfold NI;split;{rename_i n o;rw[h n (DI _ _ n (by simp[Ar,PV.names]))]};{rfl}
section
variable {cx:Cx} {E:Type} {w0:lJ} {I0 F0:Nat->Prop} {O0:BE} {Hd:Nat->Option Obj} {R:Bs E} {e:E} {ds:List lQ} {I F:Nat->Prop} {lp:Nat->lT} {L:As} {mN ml:List lK} {V:St} {w:lJ} {dst:lT}
theorem RP (hs:SR lp I L V mN ml w) {o:Nat} {k:lN} (nq:Ac V.mi J=some (.cells ty cs)) (hr:Am w I lp (some L) (.ref J o) u) (h0:cs[o]?=some (.int k y0)) :
  ∃ b C,L J=some (some (b,C))/\u=.pointer (some ⟨b,o,none⟩)/\w.cell? ⟨b,o,none⟩=some (.int k y0)/\w.frozen? ⟨b,o,none⟩=false:=by
 obtain⟨b,C,hL,rfl⟩:=FJ hr;obtain⟨q,hq,oI⟩:=hs.ob J _ nq;rw[hL] at hq;cases hq;obtain⟨c,E',hb,hC,nk,oJ⟩:=oI;obtain⟨v,hv,tl⟩:=oJ.get h0;rw[CD tl] at hv;refine⟨b,C,hL,rfl,?_,by simp[World.frozen?,hb]⟩;rw[j3] at hv;simp[World.cell?,hb,hv]
theorem Zo (hs:SR lp I L V mN ml w) (hf:Fr cx w0 I0 F0 O0 Hd R e ds I F L w) {o:Nat} {k:lN} {b C:Nat} (nq:Ac V.mi J=some (.cells ty cs)) (hL:L J=some (some (b,C))) (y:Int) :
  ∃ I' L',SR lp I' L' (apply V dst {v:=.mn [],nf:=some (J,.cells ty (cs.set o (.int k y)))}) (F5 mN dst (.tuple #[])) ml (w.setCell ⟨b,o,none⟩ (.int k y))/\Fr cx w0 I0 F0 O0 Hd R e ds I' F L' (w.setCell ⟨b,o,none⟩ (.int k y)):=by
 obtain⟨q,hq,oI⟩:=hs.ob J _ nq;rw[hL] at hq;cases hq;obtain⟨c,E',hb,hC,nk,oJ⟩:=oI;have pG:=n9 (o:=o) (n:=.int k y) hb;have hI:∀ j,I j->(w.setCell ⟨b,o,none⟩ (.int k y)).heap[j]?=w.heap[j]?:=fun j hj=>Go.RowKit.Below.heap_setCell _ _ _ _ fun (e:j=b)=>(hf.lB J b C hL).2.2.1 (e ▸ hj);refine RT (w':=w.setCell ⟨b,o,none⟩ (.int k y)) hs hf hL rfl rfl rfl (by rw[QE];exact ik _) (fun j _ hj=>Go.RowKit.Below.heap_setCell _ _ _ _ hj) ?_ (.mn [] #[] .nil);refine⟨_,E',pG,by simpa using hC,⟨?_,nk.2⟩,?_⟩;{intro v hv;rw[kR] at hv;rcases kw hv with hv | rfl;{exact nk.1 v hv};{rfl}};{rw[kR];exact Ai.mono (fun _ h=>h) hI (fun _ _ h=>h) (oJ.set o (.int k y))}
end
section at_
variable {cx:Cx} {g:lL} {V:St} {A:lS} {out:Al} {k:lN}
theorem ZR (hg:∀ (a:Addr) (y:Int) (w:lJ),w.cell? a=some (.int k y)->(callFunc g #[.pointer (some a)]).run cx.P w=.ok (.value (.int k y)) w) (h:NJ k (Ac V.mi) A=some out):To cx g V A out:=by
 unfold NJ at h;split at h
 case h_2=>cases h
 split at h
 case h_2=>cases h
 rename_i ty cs nq;split at h
 case h_2=>cases h
 rename_i k' y h0;split at h
 case isFalse=>cases h
 rename_i hk;subst hk;cases h;intro E w0 I0 F0 O0 Hd R e ds I F lp L mN ml us w dst hs hf hu hd;obtain⟨u,rfl,hr⟩:=JP hu;obtain⟨b,C,hL,rfl,U,H⟩:=RP hs nq hr h0;exact⟨_,w,hg _ _ w U,Dw hs hf (na w) (.int _ _)⟩
theorem Yh (hg:∀ (a:Addr) (y0 y:Int) (w:lJ),w.cell? a=some (.int k y0)->w.frozen? a=false->(callFunc g #[.pointer (some a),.int k y]).run cx.P w=.ok (.value (.tuple #[])) (w.setCell a (.int k y))) (h:Ns k (Ac V.mi) A=some out):To cx g V A out:=by
 unfold Ns at h;split at h
 case h_2=>cases h
 split at h
 case h_2=>cases h
 rename_i ty cs nq;split at h
 case h_2=>cases h
 rename_i k' y0 h0;split at h
 case isFalse=>cases h
 rename_i hk;obtain⟨rfl,rfl⟩:=hk;cases h;intro E w0 I0 F0 O0 Hd R e ds I F lp L mN ml us w dst hs hf hu hd;obtain⟨u,v,rfl,hr,hv⟩:=DA hu;obtain⟨b,C,hL,rfl,U,H⟩:=RP hs nq hr h0;rw[CD hv];exact⟨_,_,hg _ _ _ w U H,Zo hs hf nq hL _⟩
theorem aH {x y:Int} (he:Bw cx.P g) (hg:∀ (a:Addr) (w:lJ),w.cell? a=some (.int k x)->w.frozen? a=false->Calls cx.P g #[.pointer (some a)] w fun e w'=>e=.returned (.tuple #[])/\w'=w.setCell a (.int k y)) (h:NI k x y (Ac V.mi) A=some out):FB cx g V A out:=by
 refine⟨he,?_⟩;unfold NI at h;split at h
 case h_2=>cases h
 split at h
 case h_2=>cases h
 rename_i ty cs nq;split at h
 case h_2=>cases h
 rename_i k' z h0;split at h
 case isFalse=>cases h
 rename_i hk;obtain⟨rfl,rfl⟩:=hk;cases h;intro E w0 I0 F0 O0 Hd R e ds I F lp L mN ml us w dst hs hf hu hd;obtain⟨u,rfl,hr⟩:=JP hu;obtain⟨b,C,hL,rfl,U,H⟩:=RP hs nq hr h0;refine callsIn_wide.2 ((hg _ w U H).mono ?_);rintro ev w' ⟨rfl,rfl⟩;exact Zo hs hf nq hL _
end at_
section k_
variable {σ:Nm->me} {Z:lX} {out:Au} {k:lN}
end k_
end Go.Ab


namespace Go.Ab
open Go
def Qd (k:lN) (σ:Nm->lV):lS->l5
 | [.ref n o,.int k1 d]=>match σ n with
  | some (.cells ty cs)=>match cs[o]? with
   | some (.int k' x)=>if k'=k/\k1=k then some {v:=.int k (k.wrap (x+d)),nf:=some (n,.cells ty (cs.set o (.int k (k.wrap (x+d)))))} else none
   | _=>none
  | _=>none
 | _=>none
def Sg:lS->Option (List l4)
 | []=>some []
 | .str s :: r=>match Sg r with
  | some l=>some (s :: l)
  | none=>none
 | _=>none
def PI (σ:Nm->lV):lS->l5
 | [.arr n k o m,.str sep]=>match σ n with
  | some (.arr 1 _ Z)=>match Sg ((Z.drop o).take m) with
   | some l=>if k=1/\0 < m/\l.length=m/\m<=65536/\(Lib.join l sep).length<=65536 then some {v:=.str (Lib.join l sep)} else none
   | none=>none
  | _=>none
 | _=>none
def Ry:lS->l5
 | [.sl k [] _]=>some {v:=.sl k [] true}
 | _=>none
structure As3OK (P:lO) (g:lL) (ge:Nat) (et:lK) (p t:Nat):Prop where
 enters:Bw P g
 none:∀ (v:lK) (w:lJ),Calls P g #[.nilIface,v] w fun e w'=>e=.returned (.bool false)/\w'=w
 hit:∀ (v n1 n2 n3:lK),v.cells=#[n1,n2,n3]->n1.oneCell'=true->n2.oneCell'=true->n3.oneCell'=true->∀ (b:Nat) (o1 o2 o3:lK) (E:lP) (w:lJ),
  w.cell? ⟨ge,0,Option.none⟩=some et->w.heap[b]?=some (.cells #[o1,o2,o3] E (0,0)) ->
  Calls P g #[.iface t v,.iface p (.pointer (some ⟨b,0,Option.none⟩))] w fun e w'=>e=.returned (.bool true) /\
   ∃ q1 q2 q3 q4,w'=((((((w.alloc q1).alloc q2).alloc q3).alloc q4).setCell ⟨b,0,Option.none⟩ n1).setCell ⟨b,1,Option.none⟩ n2).setCell ⟨b,2,Option.none⟩ n3
theorem zbG (k:lN):IH (Qd k):=by intro σ σ' A h;unfold Qd;split;{rename_i n o k1 d;rw[h n (DI _ _ n (by simp[Ar,PV.names]))]};{rfl}
theorem xg:IH PI:=by intro σ σ' A h;unfold PI;split;{rename_i n k o m sep;rw[h n (DI _ _ n (by simp[Ar,PV.names]))]};{rfl}
theorem Xb:∀ {Z:lS} {l:List l4},Sg Z=some l->∀ {j:Nat} {s:l4},l[j]?=some s->Z[j]?=some (.str s)
 | [],_,h,j,s,hj=>by cases h;cases hj
 | x :: r,l,h,j,s,hj=>by
  unfold Sg at h;split at h;{rename_i he;cases he}
  ·rename_i s0 r' he;obtain⟨rfl,rfl⟩:=List.cons.inj he;split at h
   ·rename_i l' hl;cases h;cases j with
    | zero=>cases hj;rfl
    | succ j=>exact Xb hl (j:=j) hj
   {cases h}
  {cases h}
theorem X4:∀ {Z:lS},(∀ x∈Z,x.cells.length=1)->∀ {j:Nat} {s:l4},Z[j]?=some (.str s)->(mr Z)[j]?=some (.str s)
 | x :: r,hk,0,s,h=>by
  cases h;simp[mr,PV.cells]
 | x :: r,hk,j+1,s,h=>by
  have U:=hk x (iw ..);have:=X4 (Z:=r) (fun y hy=>hk y (iA _ hy)) (j:=j) (by simpa using h);rw[mr,js (by omega),U];simpa using this
section at_
variable {cx:Cx} {g:lL} {V:St} {A:lS} {out:Al} {k:lN}
theorem add_ret (hg:∀ (a:Addr) (x d:Int) (w:lJ),w.cell? a=some (.int k x)->w.frozen? a=false->(callFunc g #[.pointer (some a),.int k d]).run cx.P w=.ok (.value (.int k (k.wrap (x+d)))) (w.setCell a (.int k (k.wrap (x+d))))) (h:Qd k (Ac V.mi) A=some out):To cx g V A out:=by
 unfold Qd at h;split at h
 case h_2=>cases h
 rename_i J o k1 d;split at h
 case h_2=>cases h
 rename_i ty cs nq;split at h
 case h_2=>cases h
 rename_i k' x h0;split at h
 case isFalse=>cases h
 rename_i hk;obtain⟨nA,pX⟩:=hk;subst nA;subst pX;cases h;intro E w0 I0 F0 O0 Hd R e ds I F lp L mN ml us w dst hs hf hu hd;obtain⟨u,v,rfl,hr,hv⟩:=DA hu;obtain⟨b,C,hL,rfl,U,H⟩:=RP hs nq hr h0;rw[CD hv];refine⟨_,_,hg _ _ _ w U H,?_⟩;obtain⟨q,hq,oI⟩:=hs.ob _ _ nq;rw[hL] at hq;cases hq;obtain⟨c,E',hb,hC,nk,oJ⟩:=oI;have pG:=n9 (o:=o) (n:=Value.int k1 (k1.wrap (x+d))) hb;have hI:∀ j,I j->(w.setCell ⟨b,o,none⟩ (Value.int k1 (k1.wrap (x+d)))).heap[j]?=w.heap[j]?:=fun j hj=>Go.RowKit.Below.heap_setCell _ _ _ _ fun (e:j=b)=>(hf.lB J b C hL).2.2.1 (e ▸ hj);refine RT (w':=w.setCell ⟨b,o,none⟩ (Value.int k1 (k1.wrap (x+d)))) hs hf hL rfl rfl rfl (by rw[QE];exact ik _) (fun j _ hj=>Go.RowKit.Below.heap_setCell _ _ _ _ hj) ?_ (.int _ _);refine⟨_,E',pG,by simpa using hC,⟨?_,nk.2⟩,?_⟩;{intro v hv;rw[kR] at hv;rcases kw hv with hv | rfl;{exact nk.1 v hv};{rfl}};{rw[kR];exact Ai.mono (fun _ h=>h) hI (fun _ _ h=>h) (oJ.set o (.int k1 _))}
theorem join_at (he:Bw cx.P g) (hc:∀ (bk o c:Nat) (Z:List ByteArray) (sep:ByteArray) (w:lJ),
   (∀ (j:Nat) x,Z[j]?=some x->w.cell? ⟨bk,o+j,none⟩=some (.string x))->bk < w.heap.size->Z.length<=140737488355328->Z.length<=c->(Lib.join (Z.map (·.data.toList)) sep.data.toList).length<=140737488355328 ->
   Calls cx.P g #[.slice (some ⟨bk,o,none⟩) Z.length c,.string sep] w fun e w'=>e=.returned (.string ⟨(Lib.join (Z.map (·.data.toList)) sep.data.toList).toArray⟩)/\Go.RowKit.Below w.heap.size w w')
  (h:PI (Ac V.mi) A=some out):FB cx g V A out:=by
 refine⟨he,?_⟩;unfold PI at h;split at h
 case h_2=>cases h
 rename_i J k o m sep;split at h
 case h_2=>cases h
 rename_i kt Z nq;split at h
 case h_2=>cases h
 rename_i l hl;split at h
 case isFalse=>cases h
 rename_i hh;obtain⟨rfl,hm,tr,hm2,hlen⟩:=hh;cases h;intro E w0 I0 F0 O0 Hd R e ds I F lp L mN ml us w dst hs hf hu hd;obtain⟨u,v,rfl,hr,hv⟩:=DA hu;obtain⟨q,hq,oI⟩:=hs.ob _ _ nq;rcases G5 hr with ⟨b,C,cap,hL,rfl,hC,hn⟩ | ⟨_,_,_,h0⟩
 ·rw[hL] at hq;cases hq;obtain⟨c,E',hb,hCs,hle,qe,nk,mG⟩:=oI;rw[Cu hv];have hll:(l.map fun s=>(⟨s.toArray⟩:ByteArray)).length=m:=by simpa using tr
  have yx:(l.map fun s=>(⟨s.toArray⟩:ByteArray)).map (·.data.toList)=l:=by rw[iK];exact List.map_id'' (fun _=>rfl) l
  have pC:=hc b (o*1) cap (l.map fun s=>⟨s.toArray⟩) ⟨sep.toArray⟩ w (fun j x O=>by
   rw[iC,ij] at O;obtain⟨s,rT,rfl⟩:=O;have U:=Xb hl rT
   have hj:j < m:=by have:=(ix.1 rT).1;omega
   rw[j4 hj,ku] at U;have H:=X4 qe U;obtain⟨v,hv,tl⟩:=mG.get H;rw[Cu tl] at hv;have mL:o+j < Z.length:=(ix.1 U).1;rw[j4 (by omega),j3] at hv
   simp[World.cell?,hb,hv]) (hf.lB _ b C hL).2.1 (by omega) (by omega) (by
    rw[yx];show (Lib.join l sep.toArray.toList).length<=_;simp only[];omega)
  rw[hll,yx] at pC;refine callsIn_wide.2 (pC.mono ?_);rintro ev w' ⟨rfl,hw⟩;exact Dw hs hf (nd hw) (.str _)
 {omega}
theorem Zd (he:Bw cx.P g) (hc:∀ (a:Option Addr) (c:Nat) (w:lJ),∃ a',Calls cx.P g #[.slice a 0 c] w fun e w'=>e=.returned (.slice a' 0 0)/\nR w w')
  (h:Ry A=some out):FB cx g V A out:=by
 refine⟨he,?_⟩;unfold Ry at h;split at h
 case h_2=>cases h
 cases h;intro E w0 I0 F0 O0 Hd R e ds I F lp L mN ml us w dst hs hf hu hd;obtain⟨u,rfl,hr⟩:=JP hu
 obtain⟨a,c,rfl⟩:∃ a c,u=.slice a 0 c:=by
  cases hr with
  | qR=>exact⟨_,_,rfl⟩
  | sl=>exact⟨_,_,rfl⟩
 obtain⟨a',oi⟩:=hc a c w;refine callsIn_wide.2 (oi.mono ?_);rintro ev w' ⟨rfl,hw⟩;exact Dw hs hf hw (.qR _ _ _ _ fun _=>rfl)
end at_
section at3
variable {P:lO} {mx:P.follows .mixedOrders=true} {gs:lU} {T:Nat} {et:List (Nat×lK)} {pP:List (Nat×Array lK)} {ns:lU} {g:lL} {V:St} {A:lS} {out:Al}
end at3
end Go.Ab


namespace Go.Ab
open Go
def V3 (T:Nat) (σ:Nm->me):lX->Option (Bool×Au)
 | [.ref n 0]=>match σ n with
  | some (.cells t [.cv v,x])=>if t=T then some (PA v,{v:=.mn [],nf:=some (n,.cells T [.ref n 0,x])}) else none
  | some (.cells t [.ref n' 0,_])=>if t=T/\n'=n then some (true,{v:=.mn []}) else none
  | _=>none
 | _=>none
def kStr (T zza:Nat) (σ:Nm->me):lX->Option (Bool×Au)
 | [.ref n 0]=>match σ n with
  | some (.cells t [_,.nz])=>if t=T then some (true,{v:=.cv (.str [])}) else none
  | some (.cells t [_,.cv v])=>if t=T then some (bi v,{v:=.cv (.str [])}) else none
  | some (.cells t [_,.arr n' 1 0 k])=>match σ n' with
   | some (.arr 1 u Z)=>if t=T/\u=zza/\n'≠n then some (Mc k Z,{v:=.cv (IG (B9 k Z)),nf:=some (n',Fl),kill:=some n'}) else none
   | _=>none
  | _=>none
 | _=>none
section kb_
variable {σ:Nm->me} {Z:lX} {out:Au} {T zza:Nat}
theorem xi (hσ:∀ J o,σ J=some o->o.ok) (h:V3 T σ Z=some (true,out)):out.Ok/\Kv T (fun J=>(σ J).map Ad.ob) (AE Z)=some out.out/\∀ f,out.out.v.mz f=out.out.v:=by
 unfold V3 at h;split at h
 case h_2=>cases h
 rename_i n;split at h
 ·rename_i t v x hn;split at h
  case isFalse=>cases h
  rename_i ht;subst ht;simp only[il,iP] at h;obtain⟨hv,rfl⟩:=h;obtain rfl:v=.mJ:=by unfold PA at hv;split at hv<;>first | rfl | cases hv
  have oS:=hσ n _ hn;refine⟨⟨trivial,by simp,fun J ob he=>by cases he;exact⟨trivial,oS.2.1,trivial⟩,by simp⟩,?_,fun _=>rfl⟩;simp[AE,KV.pv,Kv,hn,Ad.ob,Au.out]
 ·rename_i t n' _ hn;split at h
  case isFalse=>cases h
  rename_i ht;obtain⟨rfl,rfl⟩:=ht;simp only[il,iP,true_and] at h;subst h;refine⟨Au.plain trivial,?_,fun _=>rfl⟩;simp[AE,KV.pv,Kv,hn,Ad.ob,Au.out]
 {cases h}
theorem gZ (Z:lS):Ax (IG Z)=true:=by unfold IG;split<;>rfl
theorem kStr_ok (h:kStr T zza σ Z=some (true,out)):out.Ok/\JN T zza (fun J=>(σ J).map Ad.ob) (AE Z)=some out.out/\∀ f,out.out.v.mz f=out.out.v:=by
 unfold kStr at h;split at h
 case h_2=>cases h
 rename_i n;split at h
 ·rename_i t _ hn;split at h
  case isFalse=>cases h
  rename_i ht;subst ht;simp only[il,iP,true_and] at h;subst h;refine⟨Au.plain (v:=.cv (.str [])) rfl,?_,fun _=>rfl⟩;simp[AE,KV.pv,JN,hn,Ad.ob,Au.out]
 ·rename_i t _ v hn;split at h
  case isFalse=>cases h
  rename_i ht;subst ht;simp only[il,iP] at h;obtain⟨hv,rfl⟩:=h;obtain rfl:v=.mu:=by unfold bi at hv;split at hv<;>first | rfl | cases hv
  refine⟨Au.plain (v:=.cv (.str [])) rfl,?_,fun _=>rfl⟩;simp[AE,KV.pv,JN,hn,Ad.ob,Au.out]
 ·rename_i t _ n' k hn;split at h
  case h_2=>cases h
  rename_i u yI nO;split at h
  case isFalse=>cases h
  rename_i ht;obtain⟨rfl,rfl,mP⟩:=ht;simp only[il,iP] at h;obtain⟨hv,rfl⟩:=h;unfold Mc at hv;simp only[ie,lw] at hv;obtain⟨U,H,h3,h4⟩:=hv;obtain⟨s,hs⟩:=jR.1 U;refine⟨⟨gZ _,by simp,fun J ob he=>by cases he;exact rfl,by simp⟩,?_,fun f=>?_⟩;{simp[AE,KV.pv,JN,hn,nO,Ad.ob,Au.out,hs,mP,H,h3,h4,IG,Fl,AP,B9]};{simp[Au.out,KV.pv,IG,B9,hs,PV.mz]}
 {cases h}
end kb_
end Go.Ab


namespace Go.Ab
open Go
variable{f:lL} {gone:lU} {nt:Nat}
def SG:EO:=V9 [0,4,5,7,11,12,13,14,15,16] 526
def NZ:Hint:=[(6,3,none,true),(36,3,none,true)]
noncomputable def mkF (io shut nC:Bool) (gone:lU) (mX:Bool) (nt:Nat) (f:lL):Ah:={nt,code:=((Lj Go.Proofs.Tryz.prog SG (Ov NZ Go.Proofs.Tryz.prog f) f).getD default).code,res:=((Lj Go.Proofs.Tryz.prog SG (Ov NZ Go.Proofs.Tryz.prog f) f).getD default).res,io,shut,nC,gone,mX}
theorem Ak {io shut nC:Bool} {mX:Bool} (h:(Lj Go.Proofs.Tryz.prog SG (Ov NZ Go.Proofs.Tryz.prog f) f).map (·.nt)=some nt):Lj Go.Proofs.Tryz.prog SG (Ov NZ Go.Proofs.Tryz.prog f) f=some {mkF io shut nC gone mX nt f with io:=false,shut:=false,nC:=false,gone:=[],mX:=false}:=by
 obtain⟨fn,U,rfl⟩:=ij.1 h;unfold mkF;rw[U];have H:=U;unfold Lj at H;split at H
 ·split at H
  ·split at H;·cases H
   {cases H;rfl}
  {cases H}
 {cases H}
noncomputable def fn3:Ah:=mkF false true false [] false 33 3
noncomputable def fn5:Ah:=mkF false true false [] false 36 5
noncomputable def fn6:Ah:=mkF false true false [] false 32 6
noncomputable def fn7:Ah:=mkF false true false [] false 42 7
noncomputable def fn8:Ah:=mkF false true false [] false 8 8
noncomputable def fn9:Ah:=mkF false true false [] false 55 9
noncomputable def fn11:Ah:=mkF false true false [] false 84 11
noncomputable def fn12:Ah:=mkF false true false [] false 15 12
noncomputable def fn16:Ah:=mkF false true false [] false 29 16
noncomputable def fn19:Ah:=mkF false true false [] false 38 19
noncomputable def fn20:Ah:=mkF false true false [] false 32 20
noncomputable def fn21:Ah:=mkF false true false [] false 24 21
noncomputable def fn22:Ah:=mkF false true false [] false 24 22
noncomputable def fn23:Ah:=mkF false true false [] false 24 23
noncomputable def fn27:Ah:=mkF false true false [] false 41 27
noncomputable def fn28:Ah:=mkF false true false [] false 61 28
noncomputable def fn35:Ah:=mkF false true false [] false 24 35
noncomputable def fn36:Ah:=mkF false true false [] false 34 36
noncomputable def fn37:Ah:=mkF false true false [] false 26 37
noncomputable def fn38:Ah:=mkF false true false [] false 26 38
noncomputable def fn51:Ah:=mkF false true false [] false 17 51
noncomputable def fn59:Ah:=mkF false true false [] false 6 59
noncomputable def fn60:Ah:=mkF false true false [] false 17 60
noncomputable def fn61:Ah:=mkF false true false [] false 9 61
noncomputable def fn62:Ah:=mkF false true false [] false 11 62
noncomputable def fn63:Ah:=mkF false true false [] false 6 63
noncomputable def fn90:Ah:=mkF false true false [] false 19 90
noncomputable def MN:Ah:=mkF true false false [1] false 19 13
noncomputable def MM:Ah:=mkF true false false [1] false 17 17
noncomputable def fn4:Ah:=mkF false true false [] false 74 4
noncomputable def fn10:Ah:=mkF false true false [] false 21 10
noncomputable def fn24:Ah:=mkF true false false [] false 24 24
noncomputable def fn25:Ah:=mkF false true false [] false 61 25
noncomputable def fn26:Ah:=mkF true false false [] false 42 26
noncomputable def fn32:Ah:=mkF false true false [] false 8 32
noncomputable def fn39:Ah:=mkF true false false [] false 23 39
noncomputable def fn40:Ah:=mkF true false false [] false 117 40
noncomputable def fn41:Ah:=mkF true false false [] false 11 41
noncomputable def fn42:Ah:=mkF true false false [] false 9 42
noncomputable def fn43:Ah:=mkF false true false [] false 43 43
noncomputable def ML:Ah:=mkF true false false [] false 74 44
noncomputable def fn45:Ah:=mkF false false false [] false 8 45
noncomputable def fn46:Ah:=mkF true false false [] false 7 46
noncomputable def fn47:Ah:=mkF true false false [] false 4 47
noncomputable def fn48:Ah:=mkF false false false [] false 8 48
noncomputable def fn49:Ah:=mkF false false false [] false 8 49
noncomputable def fn50:Ah:=mkF false true false [] false 8 50
noncomputable def fn65:Ah:=mkF true false false [] false 29 65
noncomputable def fn66:Ah:=mkF false true false [] false 8 66
noncomputable def fn68:Ah:=mkF true false false [] true 83 68
noncomputable def fn69:Ah:=mkF true false false [] false 31 69
noncomputable def fn72:Ah:=mkF false true false [] false 11 72
noncomputable def fn73:Ah:=mkF false true false [] false 65 73
noncomputable def fn74:Ah:=mkF true false false [] false 64 74
noncomputable def fn75:Ah:=mkF true false false [] false 9 75
noncomputable def fn76:Ah:=mkF true false false [] false 39 76
noncomputable def fn77:Ah:=mkF false true false [] false 14 77
noncomputable def fn78:Ah:=mkF true false false [] false 40 78
noncomputable def fn80:Ah:=mkF true false false [] false 29 80
noncomputable def fn93:Ah:=mkF false true false [] false 13 93
noncomputable def fn94:Ah:=mkF true false false [] false 10 94
noncomputable def fn95:Ah:=mkF false true false [] false 66 95
noncomputable def fn101:Ah:=mkF false true false [] false 24 101
noncomputable def fn102:Ah:=mkF false true false [] false 18 102
noncomputable def fn103:Ah:=mkF false true false [] false 28 103
noncomputable def fn104:Ah:=mkF false true false [] false 42 104
noncomputable def fn105:Ah:=mkF false true false [] false 35 105
noncomputable def fn106:Ah:=mkF false true false [] false 9 106
noncomputable def fn107:Ah:=mkF false true false [] false 5 107
noncomputable def fn108:Ah:=mkF false true false [] false 7 108
noncomputable def zbH:Ah:=mkF true false false [] false 22 109
noncomputable def fn110:Ah:=mkF false true false [] false 66 110
noncomputable def zbI:Ah:=mkF true false false [] false 18 111
noncomputable def zbJ:Ah:=mkF true false false [] false 37 112
noncomputable def zbK:Ah:=mkF true false false [] false 27 114
noncomputable def zbL:Ah:=mkF true false false [] false 40 115
noncomputable def zbM:Ah:=mkF true false false [] false 13 117
noncomputable def fn118:Ah:=mkF false true false [] false 7 118
noncomputable def zbN:Ah:=mkF true false false [] false 12 119
noncomputable def Ld:Ah:=mkF true false false [] false 103 120
noncomputable def zbO:Ah:=mkF true false false [] false 4 130
noncomputable def fn134:Ah:=mkF false true false [] false 26 134
noncomputable def fn135:Ah:=mkF false true false [] false 68 135
noncomputable def fn137:Ah:=mkF false true false [] false 25 137
noncomputable def fn138:Ah:=mkF false true false [] false 105 138
noncomputable def fn139:Ah:=mkF false true false [] false 28 139
noncomputable def zbP:Ah:=mkF true false false [] false 32 140
noncomputable def fn141:Ah:=mkF false true false [] false 21 141
noncomputable def fn142:Ah:=mkF false true false [] false 19 142
noncomputable def fn143:Ah:=mkF false true false [] false 9 143
noncomputable def zbQ:Ah:=mkF true false false [] false 38 144
noncomputable def fn146:Ah:=mkF false true false [] false 13 146
noncomputable def fn147:Ah:=mkF false true false [] false 49 147
noncomputable def zbR:Ah:=mkF true false false [] false 9 148
noncomputable def zbS:Ah:=mkF true false false [] false 20 149
noncomputable def zbT:Ah:=mkF true false false [] false 12 154
noncomputable def fn155:Ah:=mkF false true false [] false 22 155
noncomputable def fn156:Ah:=mkF false true false [] false 18 156
noncomputable def Ot:Ah:=mkF true false false [] false 71 157
noncomputable def Ti:Ah:=mkF true false false [] false 118 158
noncomputable def zbU:Ah:=mkF true false false [] false 23 161
noncomputable def fn162:Ah:=mkF false true false [] false 26 162
noncomputable def zbV:Ah:=mkF true false false [] false 73 163
noncomputable def fn165:Ah:=mkF false true false [] false 10 165
noncomputable def fn166:Ah:=mkF false true false [] false 19 166
noncomputable def fn167:Ah:=mkF false true false [] false 34 167
noncomputable def fn169:Ah:=mkF false true false [] false 47 169
noncomputable def fn170:Ah:=mkF false true false [] false 59 170
noncomputable def fn171:Ah:=mkF false true false [] false 47 171
noncomputable def fn172:Ah:=mkF false true false [] false 23 172
noncomputable def zbW:Ah:=mkF true false false [] false 81 173
noncomputable def zbX:Ah:=mkF true false false [] false 51 174
noncomputable def fn175:Ah:=mkF false true false [] false 19 175
noncomputable def zbY:Ah:=mkF true false false [] false 53 176
noncomputable def fn177:Ah:=mkF false true false [] false 52 177
noncomputable def fn182:Ah:=mkF false true false [] false 7 182
noncomputable def fn183:Ah:=mkF false true false [] false 101 183
noncomputable def fn185:Ah:=mkF false true false [] false 7 185
noncomputable def fn187:Ah:=mkF false true false [] false 33 187
noncomputable def zbZ:Ah:=mkF true false false [] false 4 188
noncomputable def fn189:Ah:=mkF false true false [] false 27 189
noncomputable def zb0:Ah:=mkF true false false [] false 41 191
noncomputable def fn192:Ah:=mkF false true false [] false 4 192
noncomputable def zb1:Ah:=mkF true false false [] false 13 193
noncomputable def zb2:Ah:=mkF true false false [] false 67 194
noncomputable def fn197:Ah:=mkF false true false [] false 20 197
noncomputable def fn198:Ah:=mkF false true false [] false 20 198
noncomputable def fn199:Ah:=mkF false true false [] false 14 199
noncomputable def fn200:Ah:=mkF false true false [] false 22 200
noncomputable def fn201:Ah:=mkF false true false [] false 57 201
noncomputable def fn202:Ah:=mkF false true false [] false 86 202
noncomputable def fn203:Ah:=mkF false true false [] false 32 203
noncomputable def fn204:Ah:=mkF false true false [] false 30 204
noncomputable def zb3:Ah:=mkF true false false [] false 4 206
noncomputable def fn207:Ah:=mkF false true false [] false 9 207
noncomputable def fn208:Ah:=mkF false true false [] false 20 208
noncomputable def fn209:Ah:=mkF false true false [] false 22 209
noncomputable def fn210:Ah:=mkF false true false [] false 25 210
noncomputable def fn211:Ah:=mkF false true false [] false 38 211
noncomputable def fn212:Ah:=mkF false true false [] false 72 212
noncomputable def fn213:Ah:=mkF false true false [] false 80 213
noncomputable def fn214:Ah:=mkF false true false [] false 27 214
noncomputable def fn215:Ah:=mkF false true false [] false 20 215
noncomputable def fn216:Ah:=mkF false true false [] false 33 216
noncomputable def fn217:Ah:=mkF false true false [] false 11 217
noncomputable def fn218:Ah:=mkF false true false [] false 55 218
noncomputable def zb4:Ah:=mkF true false false [] false 29 219
noncomputable def zb5:Ah:=mkF true false false [] false 21 220
noncomputable def fn221:Ah:=mkF false true false [] false 11 221
noncomputable def fn223:Ah:=mkF false true false [] false 8 223
noncomputable def fn225:Ah:=mkF false true false [] false 29 225
noncomputable def fn226:Ah:=mkF false true false [] false 17 226
noncomputable def fn227:Ah:=mkF false true false [] false 38 227
noncomputable def fn228:Ah:=mkF false true false [] false 11 228
noncomputable def fn229:Ah:=mkF false true false [] false 6 229
noncomputable def fn230:Ah:=mkF false true false [] false 36 230
noncomputable def fn231:Ah:=mkF false true false [] false 10 231
noncomputable def fn232:Ah:=mkF false true false [] false 6 232
noncomputable def fn233:Ah:=mkF false true false [] false 9 233
noncomputable def fn234:Ah:=mkF false true false [] false 10 234
noncomputable def fn236:Ah:=mkF false true false [] false 18 236
noncomputable def fn238:Ah:=mkF false true false [] false 22 238
noncomputable def fn239:Ah:=mkF false true false [] false 25 239
noncomputable def fn241:Ah:=mkF false true false [] false 5 241
noncomputable def fn242:Ah:=mkF false true false [] false 4 242
noncomputable def fn244:Ah:=mkF false true false [] false 22 244
noncomputable def fn245:Ah:=mkF false true false [] false 26 245
noncomputable def fn246:Ah:=mkF false true false [] false 9 246
noncomputable def fn247:Ah:=mkF false true false [] false 19 247
noncomputable def fn248:Ah:=mkF false true false [] false 8 248
noncomputable def fn249:Ah:=mkF false true false [] false 9 249
noncomputable def fn250:Ah:=mkF false true false [] false 37 250
noncomputable def fn251:Ah:=mkF false true false [] false 9 251
noncomputable def fn252:Ah:=mkF false true false [] false 21 252
noncomputable def zb6:Ah:=mkF true false false [] false 111 253
noncomputable def zb7:Ah:=mkF true false false [] false 24 254
noncomputable def zb8:Ah:=mkF true false false [] false 31 255
noncomputable def fn256:Ah:=mkF false true false [] false 3 256
noncomputable def fn257:Ah:=mkF false true false [] false 24 257
noncomputable def fn258:Ah:=mkF false true false [] false 10 258
noncomputable def fn259:Ah:=mkF false true false [] false 13 259
noncomputable def fn263:Ah:=mkF false true false [] false 31 263
noncomputable def fn264:Ah:=mkF false true false [] false 4 264
noncomputable def fn265:Ah:=mkF false true false [] false 63 265
noncomputable def fn266:Ah:=mkF false true false [] false 84 266
noncomputable def zb9:Ah:=mkF true false false [] false 46 267
noncomputable def fn268:Ah:=mkF false true false [] false 15 268
noncomputable def fn271:Ah:=mkF false true false [] false 18 271
noncomputable def fn273:Ah:=mkF false true false [] false 36 273
noncomputable def fn275:Ah:=mkF false true false [] false 51 275
noncomputable def fn280:Ah:=mkF false true false [] false 10 280
noncomputable def fn281:Ah:=mkF false true false [] false 66 281
noncomputable def fn284:Ah:=mkF false true false [] false 21 284
noncomputable def fn285:Ah:=mkF false true false [] false 16 285
noncomputable def fn286:Ah:=mkF false true false [] false 16 286
noncomputable def fn289:Ah:=mkF false true false [] false 44 289
noncomputable def fn303:Ah:=mkF false true false [] false 9 303
noncomputable def fn304:Ah:=mkF false true false [] false 6 304
noncomputable def fn308:Ah:=mkF false true false [] false 4 308
noncomputable def fn311:Ah:=mkF false true false [] false 21 311
noncomputable def fn313:Ah:=mkF false true false [] false 88 313
noncomputable def fn314:Ah:=mkF false true false [] false 9 314
noncomputable def fn317:Ah:=mkF false true false [] false 13 317
noncomputable def fn318:Ah:=mkF false true false [] false 19 318
noncomputable def zca:Ah:=mkF true false false [] false 41 319
noncomputable def zcb:Ah:=mkF true false false [] false 12 320
noncomputable def fn325:Ah:=mkF false true false [] false 30 325
noncomputable def fn326:Ah:=mkF false true false [] false 20 326
noncomputable def fn332:Ah:=mkF false true false [] false 51 332
noncomputable def fn333:Ah:=mkF false true false [] false 10 333
noncomputable def fn334:Ah:=mkF false true false [] false 5 334
noncomputable def fn336:Ah:=mkF false true false [] false 20 336
noncomputable def fn342:Ah:=mkF false true false [] false 19 342
noncomputable def zcc:Ah:=mkF true false false [] false 4 350
noncomputable def Th:Ah:=mkF true false false [] false 9 351
noncomputable def zcd:Ah:=mkF true false false [] false 20 364
noncomputable def zce:Ah:=mkF true false false [] false 12 365
noncomputable def Gl:Ah:=mkF true false false [] false 73 366
noncomputable def zcf:Ah:=mkF true false false [] false 30 367
noncomputable def fn368:Ah:=mkF false true false [] false 22 368
noncomputable def fn369:Ah:=mkF false true false [] false 29 369
noncomputable def zcg:Ah:=mkF true false false [] false 8 373
noncomputable def zch:Ah:=mkF true false false [] false 21 374
noncomputable def zci:Ah:=mkF true false false [] false 6 378
noncomputable def zcj:Ah:=mkF true false false [] false 6 379
noncomputable def zck:Ah:=mkF true false false [] false 10 380
noncomputable def fn384:Ah:=mkF false true false [] false 4 384
noncomputable def Br:lL->l6
 | 3=>some fn3
 | 5=>some fn5
 | 6=>some fn6
 | 7=>some fn7
 | 8=>some fn8
 | 9=>some fn9
 | 11=>some fn11
 | 12=>some fn12
 | 16=>some fn16
 | 19=>some fn19
 | 20=>some fn20
 | 21=>some fn21
 | 22=>some fn22
 | 23=>some fn23
 | 27=>some fn27
 | 28=>some fn28
 | 35=>some fn35
 | 36=>some fn36
 | 37=>some fn37
 | 38=>some fn38
 | 51=>some fn51
 | 59=>some fn59
 | 60=>some fn60
 | 61=>some fn61
 | 62=>some fn62
 | 63=>some fn63
 | 90=>some fn90
 | 13=>some MN
 | 17=>some MM
 | 4=>some fn4
 | 10=>some fn10
 | 24=>some fn24
 | 25=>some fn25
 | 26=>some fn26
 | 32=>some fn32
 | 39=>some fn39
 | 40=>some fn40
 | 41=>some fn41
 | 42=>some fn42
 | 43=>some fn43
 | 44=>some ML
 | 45=>some fn45
 | 46=>some fn46
 | 47=>some fn47
 | 48=>some fn48
 | 49=>some fn49
 | 50=>some fn50
 | 65=>some fn65
 | 66=>some fn66
 | 68=>some fn68
 | 69=>some fn69
 | 72=>some fn72
 | 73=>some fn73
 | 74=>some fn74
 | 75=>some fn75
 | 76=>some fn76
 | 77=>some fn77
 | 78=>some fn78
 | 80=>some fn80
 | 93=>some fn93
 | 94=>some fn94
 | 95=>some fn95
 | 101=>some fn101
 | 102=>some fn102
 | 103=>some fn103
 | 104=>some fn104
 | 105=>some fn105
 | 106=>some fn106
 | 107=>some fn107
 | 108=>some fn108
 | 109=>some zbH
 | 110=>some fn110
 | 111=>some zbI
 | 112=>some zbJ
 | 114=>some zbK
 | 115=>some zbL
 | 117=>some zbM
 | 118=>some fn118
 | 119=>some zbN
 | 120=>some Ld
 | 130=>some zbO
 | 134=>some fn134
 | 135=>some fn135
 | 137=>some fn137
 | 138=>some fn138
 | 139=>some fn139
 | 140=>some zbP
 | 141=>some fn141
 | 142=>some fn142
 | 143=>some fn143
 | 144=>some zbQ
 | 146=>some fn146
 | 147=>some fn147
 | 148=>some zbR
 | 149=>some zbS
 | 154=>some zbT
 | 155=>some fn155
 | 156=>some fn156
 | 157=>some Ot
 | 158=>some Ti
 | 161=>some zbU
 | 162=>some fn162
 | 163=>some zbV
 | 165=>some fn165
 | 166=>some fn166
 | 167=>some fn167
 | 169=>some fn169
 | 170=>some fn170
 | 171=>some fn171
 | 172=>some fn172
 | 173=>some zbW
 | 174=>some zbX
 | 175=>some fn175
 | 176=>some zbY
 | 177=>some fn177
 | 182=>some fn182
 | 183=>some fn183
 | 185=>some fn185
 | 187=>some fn187
 | 188=>some zbZ
 | 189=>some fn189
 | 191=>some zb0
 | 192=>some fn192
 | 193=>some zb1
 | 194=>some zb2
 | 197=>some fn197
 | 198=>some fn198
 | 199=>some fn199
 | 200=>some fn200
 | 201=>some fn201
 | 202=>some fn202
 | 203=>some fn203
 | 204=>some fn204
 | 206=>some zb3
 | 207=>some fn207
 | 208=>some fn208
 | 209=>some fn209
 | 210=>some fn210
 | 211=>some fn211
 | 212=>some fn212
 | 213=>some fn213
 | 214=>some fn214
 | 215=>some fn215
 | 216=>some fn216
 | 217=>some fn217
 | 218=>some fn218
 | 219=>some zb4
 | 220=>some zb5
 | 221=>some fn221
 | 223=>some fn223
 | 225=>some fn225
 | 226=>some fn226
 | 227=>some fn227
 | 228=>some fn228
 | 229=>some fn229
 | 230=>some fn230
 | 231=>some fn231
 | 232=>some fn232
 | 233=>some fn233
 | 234=>some fn234
 | 236=>some fn236
 | 238=>some fn238
 | 239=>some fn239
 | 241=>some fn241
 | 242=>some fn242
 | 244=>some fn244
 | 245=>some fn245
 | 246=>some fn246
 | 247=>some fn247
 | 248=>some fn248
 | 249=>some fn249
 | 250=>some fn250
 | 251=>some fn251
 | 252=>some fn252
 | 253=>some zb6
 | 254=>some zb7
 | 255=>some zb8
 | 256=>some fn256
 | 257=>some fn257
 | 258=>some fn258
 | 259=>some fn259
 | 263=>some fn263
 | 264=>some fn264
 | 265=>some fn265
 | 266=>some fn266
 | 267=>some zb9
 | 268=>some fn268
 | 271=>some fn271
 | 273=>some fn273
 | 275=>some fn275
 | 280=>some fn280
 | 281=>some fn281
 | 284=>some fn284
 | 285=>some fn285
 | 286=>some fn286
 | 289=>some fn289
 | 303=>some fn303
 | 304=>some fn304
 | 308=>some fn308
 | 311=>some fn311
 | 313=>some fn313
 | 314=>some fn314
 | 317=>some fn317
 | 318=>some fn318
 | 319=>some zca
 | 320=>some zcb
 | 325=>some fn325
 | 326=>some fn326
 | 332=>some fn332
 | 333=>some fn333
 | 334=>some fn334
 | 336=>some fn336
 | 342=>some fn342
 | 350=>some zcc
 | 351=>some Th
 | 364=>some zcd
 | 365=>some zce
 | 366=>some Gl
 | 367=>some zcf
 | 368=>some fn368
 | 369=>some fn369
 | 373=>some zcg
 | 374=>some zch
 | 378=>some zci
 | 379=>some zcj
 | 380=>some zck
 | 384=>some fn384
 | _=>none
end Go.Ab


set_option maxRecDepth 100000
namespace Go.Ab
open Go
variable{E:Type}
def rsh0:lL->Bn×Bool
 | _=>(.cl,true)
def Sl:AA:={args:=[.ref (0,0) 0,.cv (.bool false)],ins:=[.cells 40 [.ref (0,0) 0,.arr (0,1) 1 0 0],.arr 1 5 []],res:=.mn [.cv (.bool false),.cv (.bool false)],outs:=[.cells 40 [.ref (0,0) 0,.arr (0,1) 1 0 0],.arr 1 5 []],news:=[],gone:=[1]}
def Sk:AA:={args:=[.ref (0,0) 0,.cv (.bool false)],ins:=[.cells 40 [.cv (.bool false),.cv (.bool false)]],res:=.mn [.cv (.bool false),.cv (.bool false)],outs:=[.cells 40 [.ref (0,0) 0,.arr (1,0) 1 0 0]],news:=[.arr 1 5 []],gone:=[]}
def K8:lX->lZ->AA
 | _ ,[.cells _ [.ref _ _,_],_]=>Sl
 | _,_=>Sk
def Sj:AA:={args:=[.ref (0,0) 0,.cv (.bool false)],ins:=[.cells 40 [.ref (0,0) 0,.arr (0,1) 1 0 0],.arr 1 5 []],res:=.cv (.bool false),outs:=[.cells 40 [.ref (0,0) 0,.arr (0,1) 1 0 0],.arr 1 5 []],news:=[],gone:=[1]}
def Si:AA:={args:=[.ref (0,0) 0,.cv (.bool false)],ins:=[.cells 40 [.cv (.bool false),.cv (.bool false)]],res:=.cv (.bool false),outs:=[.cells 40 [.ref (0,0) 0,.arr (1,0) 1 0 0]],news:=[.arr 1 5 []],gone:=[]}
def K7:lX->lZ->AA
 | _ ,[.cells _ [.ref _ _,_],_]=>Sj
 | _,_=>Si
def sh24:AA:={args:=[.mF 0],ins:=[],res:=.un,outs:=[],news:=[],gone:=[]}
def shs24:lX->lZ->AA
 | _,_=>sh24
def sh26:AA:={args:=[.mF 0],ins:=[],res:=.un,outs:=[],news:=[],gone:=[]}
def shs26:lX->lZ->AA
 | _,_=>sh26
def sh39:AA:={args:=[.mF 0],ins:=[],res:=.un,outs:=[],news:=[],gone:=[]}
def shs39:lX->lZ->AA
 | _,_=>sh39
def sh40:AA:={args:=[.mF 0],ins:=[],res:=.un,outs:=[],news:=[],gone:=[]}
def shs40:lX->lZ->AA
 | _,_=>sh40
def sh41:AA:={args:=[.mF 0],ins:=[],res:=.un,outs:=[],news:=[],gone:=[]}
def shs41:lX->lZ->AA
 | _,_=>sh41
def sh42:AA:={args:=[.mF 0],ins:=[],res:=.un,outs:=[],news:=[],gone:=[]}
def shs42:lX->lZ->AA
 | _,_=>sh42
def sh44:AA:={args:=[.mF 0],ins:=[],res:=.un,outs:=[],news:=[],gone:=[]}
def shs44:lX->lZ->AA
 | _,_=>sh44
def sh46:AA:={args:=[.mF 0],ins:=[],res:=.un,outs:=[],news:=[],gone:=[]}
def shs46:lX->lZ->AA
 | _,_=>sh46
def sh47:AA:={args:=[.mF 0],ins:=[],res:=.un,outs:=[],news:=[],gone:=[]}
def shs47:lX->lZ->AA
 | _,_=>sh47
def sh65:AA:={args:=[.mF 0],ins:=[],res:=.un,outs:=[],news:=[],gone:=[]}
def shs65:lX->lZ->AA
 | _,_=>sh65
def sh68:AA:={args:=[.mF 0],ins:=[],res:=.un,outs:=[],news:=[],gone:=[]}
def shs68:lX->lZ->AA
 | _,_=>sh68
def sh69:AA:={args:=[.mF 0],ins:=[],res:=.un,outs:=[],news:=[],gone:=[]}
def shs69:lX->lZ->AA
 | _,_=>sh69
def sh74:AA:={args:=[.mF 0],ins:=[],res:=.un,outs:=[],news:=[],gone:=[]}
def shs74:lX->lZ->AA
 | _,_=>sh74
def sh75:AA:={args:=[.mF 0],ins:=[],res:=.un,outs:=[],news:=[],gone:=[]}
def shs75:lX->lZ->AA
 | _,_=>sh75
def sh76:AA:={args:=[.mF 0],ins:=[],res:=.un,outs:=[],news:=[],gone:=[]}
def shs76:lX->lZ->AA
 | _,_=>sh76
def sh78:AA:={args:=[.mF 0],ins:=[],res:=.un,outs:=[],news:=[],gone:=[]}
def shs78:lX->lZ->AA
 | _,_=>sh78
def sh80:AA:={args:=[.mF 0],ins:=[],res:=.un,outs:=[],news:=[],gone:=[]}
def shs80:lX->lZ->AA
 | _,_=>sh80
def sh94:AA:={args:=[.mF 0],ins:=[],res:=.un,outs:=[],news:=[],gone:=[]}
def shs94:lX->lZ->AA
 | _,_=>sh94
def sh109:AA:={args:=[.mF 0],ins:=[],res:=.un,outs:=[],news:=[],gone:=[]}
def shs109:lX->lZ->AA
 | _,_=>sh109
def sh111:AA:={args:=[.mF 0],ins:=[],res:=.un,outs:=[],news:=[],gone:=[]}
def shs111:lX->lZ->AA
 | _,_=>sh111
def sh112:AA:={args:=[.mF 0],ins:=[],res:=.un,outs:=[],news:=[],gone:=[]}
def shs112:lX->lZ->AA
 | _,_=>sh112
def sh114:AA:={args:=[.mF 0],ins:=[],res:=.un,outs:=[],news:=[],gone:=[]}
def shs114:lX->lZ->AA
 | _,_=>sh114
def sh115:AA:={args:=[.mF 0],ins:=[],res:=.un,outs:=[],news:=[],gone:=[]}
def shs115:lX->lZ->AA
 | _,_=>sh115
def sh117:AA:={args:=[.mF 0],ins:=[],res:=.un,outs:=[],news:=[],gone:=[]}
def shs117:lX->lZ->AA
 | _,_=>sh117
def sh119:AA:={args:=[.mF 0],ins:=[],res:=.un,outs:=[],news:=[],gone:=[]}
def shs119:lX->lZ->AA
 | _,_=>sh119
def sh120:AA:={args:=[.mF 0],ins:=[],res:=.un,outs:=[],news:=[],gone:=[]}
def shs120:lX->lZ->AA
 | _,_=>sh120
def sh130:AA:={args:=[.mF 0],ins:=[],res:=.un,outs:=[],news:=[],gone:=[]}
def shs130:lX->lZ->AA
 | _,_=>sh130
def sh140:AA:={args:=[.mF 0],ins:=[],res:=.un,outs:=[],news:=[],gone:=[]}
def shs140:lX->lZ->AA
 | _,_=>sh140
def sh144:AA:={args:=[.mF 0],ins:=[],res:=.un,outs:=[],news:=[],gone:=[]}
def shs144:lX->lZ->AA
 | _,_=>sh144
def sh148:AA:={args:=[.mF 0],ins:=[],res:=.un,outs:=[],news:=[],gone:=[]}
def shs148:lX->lZ->AA
 | _,_=>sh148
def sh149:AA:={args:=[.mF 0],ins:=[],res:=.un,outs:=[],news:=[],gone:=[]}
def shs149:lX->lZ->AA
 | _,_=>sh149
def sh154:AA:={args:=[.mF 0],ins:=[],res:=.un,outs:=[],news:=[],gone:=[]}
def shs154:lX->lZ->AA
 | _,_=>sh154
def sh157:AA:={args:=[.mF 0],ins:=[],res:=.un,outs:=[],news:=[],gone:=[]}
def shs157:lX->lZ->AA
 | _,_=>sh157
def sh158:AA:={args:=[.mF 0],ins:=[],res:=.un,outs:=[],news:=[],gone:=[]}
def shs158:lX->lZ->AA
 | _,_=>sh158
def sh161:AA:={args:=[.mF 0],ins:=[],res:=.un,outs:=[],news:=[],gone:=[]}
def shs161:lX->lZ->AA
 | _,_=>sh161
def sh163:AA:={args:=[.mF 0],ins:=[],res:=.un,outs:=[],news:=[],gone:=[]}
def shs163:lX->lZ->AA
 | _,_=>sh163
def sh173:AA:={args:=[.mF 0],ins:=[],res:=.un,outs:=[],news:=[],gone:=[]}
def shs173:lX->lZ->AA
 | _,_=>sh173
def sh174:AA:={args:=[.mF 0],ins:=[],res:=.un,outs:=[],news:=[],gone:=[]}
def shs174:lX->lZ->AA
 | _,_=>sh174
def sh176:AA:={args:=[.mF 0],ins:=[],res:=.un,outs:=[],news:=[],gone:=[]}
def shs176:lX->lZ->AA
 | _,_=>sh176
def sh188:AA:={args:=[.mF 0],ins:=[],res:=.un,outs:=[],news:=[],gone:=[]}
def shs188:lX->lZ->AA
 | _,_=>sh188
def sh191:AA:={args:=[.mF 0],ins:=[],res:=.un,outs:=[],news:=[],gone:=[]}
def shs191:lX->lZ->AA
 | _,_=>sh191
def sh193:AA:={args:=[.mF 0],ins:=[],res:=.un,outs:=[],news:=[],gone:=[]}
def shs193:lX->lZ->AA
 | _,_=>sh193
def sh194:AA:={args:=[.mF 0],ins:=[],res:=.un,outs:=[],news:=[],gone:=[]}
def shs194:lX->lZ->AA
 | _,_=>sh194
def sh206:AA:={args:=[.mF 0],ins:=[],res:=.un,outs:=[],news:=[],gone:=[]}
def shs206:lX->lZ->AA
 | _,_=>sh206
def sh219:AA:={args:=[.mF 0],ins:=[],res:=.un,outs:=[],news:=[],gone:=[]}
def shs219:lX->lZ->AA
 | _,_=>sh219
def sh220:AA:={args:=[.mF 0],ins:=[],res:=.un,outs:=[],news:=[],gone:=[]}
def shs220:lX->lZ->AA
 | _,_=>sh220
def sh253:AA:={args:=[.mF 0],ins:=[],res:=.un,outs:=[],news:=[],gone:=[]}
def shs253:lX->lZ->AA
 | _,_=>sh253
def sh254:AA:={args:=[.mF 0],ins:=[],res:=.un,outs:=[],news:=[],gone:=[]}
def shs254:lX->lZ->AA
 | _,_=>sh254
def sh255:AA:={args:=[.mF 0],ins:=[],res:=.un,outs:=[],news:=[],gone:=[]}
def shs255:lX->lZ->AA
 | _,_=>sh255
def sh267:AA:={args:=[.mF 0],ins:=[],res:=.un,outs:=[],news:=[],gone:=[]}
def shs267:lX->lZ->AA
 | _,_=>sh267
def sh319:AA:={args:=[.mF 0],ins:=[],res:=.un,outs:=[],news:=[],gone:=[]}
def shs319:lX->lZ->AA
 | _,_=>sh319
def sh320:AA:={args:=[.mF 0],ins:=[],res:=.un,outs:=[],news:=[],gone:=[]}
def shs320:lX->lZ->AA
 | _,_=>sh320
def sh350:AA:={args:=[.mF 0],ins:=[],res:=.un,outs:=[],news:=[],gone:=[]}
def shs350:lX->lZ->AA
 | _,_=>sh350
def sh351:AA:={args:=[.mF 0],ins:=[],res:=.un,outs:=[],news:=[],gone:=[]}
def shs351:lX->lZ->AA
 | _,_=>sh351
def sh364:AA:={args:=[.mF 0],ins:=[],res:=.un,outs:=[],news:=[],gone:=[]}
def shs364:lX->lZ->AA
 | _,_=>sh364
def sh365:AA:={args:=[.mF 0],ins:=[],res:=.un,outs:=[],news:=[],gone:=[]}
def shs365:lX->lZ->AA
 | _,_=>sh365
def sh366:AA:={args:=[.mF 0],ins:=[],res:=.un,outs:=[],news:=[],gone:=[]}
def shs366:lX->lZ->AA
 | _,_=>sh366
def sh367:AA:={args:=[.mF 0],ins:=[],res:=.un,outs:=[],news:=[],gone:=[]}
def shs367:lX->lZ->AA
 | _,_=>sh367
def sh373:AA:={args:=[.mF 0],ins:=[],res:=.un,outs:=[],news:=[],gone:=[]}
def shs373:lX->lZ->AA
 | _,_=>sh373
def sh374:AA:={args:=[.mF 0],ins:=[],res:=.un,outs:=[],news:=[],gone:=[]}
def shs374:lX->lZ->AA
 | _,_=>sh374
def sh378:AA:={args:=[.mF 0],ins:=[],res:=.un,outs:=[],news:=[],gone:=[]}
def shs378:lX->lZ->AA
 | _,_=>sh378
def sh379:AA:={args:=[.mF 0],ins:=[],res:=.un,outs:=[],news:=[],gone:=[]}
def shs379:lX->lZ->AA
 | _,_=>sh379
def sh380:AA:={args:=[.mF 0],ins:=[],res:=.un,outs:=[],news:=[],gone:=[]}
def shs380:lX->lZ->AA
 | _,_=>sh380
def iof0:lL->Option (lX->lZ->AA)
 | 13=>some K8
 | 17=>some K7
 | 24=>some shs24
 | 26=>some shs26
 | 39=>some shs39
 | 40=>some shs40
 | 41=>some shs41
 | 42=>some shs42
 | 44=>some shs44
 | 46=>some shs46
 | 47=>some shs47
 | 65=>some shs65
 | 68=>some shs68
 | 69=>some shs69
 | 74=>some shs74
 | 75=>some shs75
 | 76=>some shs76
 | 78=>some shs78
 | 80=>some shs80
 | 94=>some shs94
 | 109=>some shs109
 | 111=>some shs111
 | 112=>some shs112
 | 114=>some shs114
 | 115=>some shs115
 | 117=>some shs117
 | 119=>some shs119
 | 120=>some shs120
 | 130=>some shs130
 | 140=>some shs140
 | 144=>some shs144
 | 148=>some shs148
 | 149=>some shs149
 | 154=>some shs154
 | 157=>some shs157
 | 158=>some shs158
 | 161=>some shs161
 | 163=>some shs163
 | 173=>some shs173
 | 174=>some shs174
 | 176=>some shs176
 | 188=>some shs188
 | 191=>some shs191
 | 193=>some shs193
 | 194=>some shs194
 | 206=>some shs206
 | 219=>some shs219
 | 220=>some shs220
 | 253=>some shs253
 | 254=>some shs254
 | 255=>some shs255
 | 267=>some shs267
 | 319=>some shs319
 | 320=>some shs320
 | 350=>some shs350
 | 351=>some shs351
 | 364=>some shs364
 | 365=>some shs365
 | 366=>some shs366
 | 367=>some shs367
 | 373=>some shs373
 | 374=>some shs374
 | 378=>some shs378
 | 379=>some shs379
 | 380=>some shs380
 | _=>none
def BJ (b:KB) (dsh:Nat->Bn):Dr:={b,rsh:=rsh0,yH:=fun f=>f==82||f==14||f==91||f==15||f==29||f==18||f==92||f==30||f==56||f==222||f==116||f==377||f==383||f==381||f==382||f==131||f==79||f==71||f==262||f==50||f==45,asT:=fun f p=>none,dsh,uG:=iof0,spK:=fun f=>if f=29 then some (V3 40) else if f=18 then some (kStr 40 5) else none}
theorem run3 (B:KB) (h:AF E) (dep:Nat) (e:E) (x0:PV) (x1:PV) :
  BV (BJ B fun _=>.cl) fn3 (.cl) h dep [.cv x0,.cv x1] e =
  Aa (AJ B .cl (.fn 4 []) []) (fun a=>Aa (AJ B .cl (.fn 5 []) [x0]) (fun b=>Aa (AJ B .cl (.fn 5 []) [x1]) (fun d=>AH a (Aa (AJ B .cl (.fn 6 [])
  [b]) (fun a=>Aa (AJ B .cl (.fn 7 []) [b]) (fun f=>Aa (Ae (.bin .eql .str false (.c a) (.c f))) (fun a=>AH a (Aa (AJ B .cl (.fn 8 []) [b,d])
  (fun a=>Aa (AJ B .cl (.fn 9 []) [b,d]) (fun d=>Aa (Ae (.bin .eql .bool false (.c a) (.c d))) (fun a=>AH a (Aa (AJ B .cl (.fn 8 []) [b,b]) (fun
  z10=>some (z10,e))) (some (.bool false,e)))))) (some (.bool false,e)))))) (some (.bool false,e))))):=by kernel_rfl
noncomputable def S5 (B:KB):lS×E->Option (Sum (lS×E) (PV×E)):=(fun y0=>Aa (Aa (Ae (.len .slice (.c (Af y0.1 0)))) fun y1=>Aa (Ae (.bin .lss .num false (.c (Af y0.1 2)) (.c y1))) fun y2=>AH y2 (Aa (Ae (.bin .lss .num true (.c (Af y0.1 2)) (.c (.int .i64 20)))) fun y3=>some y3) (some (.bool false))) fun y4=>AH y4 (Aa (Ae (.mw 5 (.c (Af y0.1 0)) (.c (Af y0.1 2)))) fun y5=>Aa (Ae (.fieldAddr 0 (.c y5))) fun y6=>Aa (Ae (.load 1 false (.c y6))) fun y7=>Aa (Ae (.mw 5 (.c (Af y0.1 0)) (.c (Af y0.1 2)))) fun y8=>Aa (Ae (.fieldAddr 1 (.c y8))) fun y9=>Aa (Ae (.load 1 false (.c y9))) fun xj=>Aa (Ae (.mw 5 (.c (Af y0.1 0)) (.c (Af y0.1 2)))) fun y11=>Aa (Ae (.fieldAddr 2 (.c y11))) fun yJ=>Aa (Ae (.load 3 true (.c yJ))) fun xk=>Aa (AJ B .cl (.fn 12 []) [xk]) fun y14=>Aa (Ae (.build [.int .i64 0,.bool false,.bool false,.bool false,.mu] [(0,(1,.c y7)),(1,(1,.c xj)),(2,(3,.c y14))])) fun sK=>AC (Ep 5 [sK]) (AC (Dd (BR 0 (AT [sK])) (AT [sK])) (AC (J8 (Dd (Bj (Af y0.1 1)) (AT (Bl (Af y0.1 3)))) (Dd (BR (Bj (Af y0.1 1)) (AT (B9 (AT [sK]) (Et 0 [sK])))) 2147483648)) (Aa (Ae (.bin .add .num true (.c (Af y0.1 2)) (.c (.int .i64 1)))) fun yK=>some (.inl ([Af y0.1 0,nI (BR (Bj (Af y0.1 1)) (AT (B9 (AT [sK]) (Et 0 [sK])))),yK,.sl 5 (J7 (B9 (Bj (Af y0.1 1)) (Bl (Af y0.1 3))) (B9 (AT [sK]) (Et 0 [sK]))) false],y0.2)))))) (Aa (AC (okU (slO 5 5 (Bl (Af y0.1 3)) 0 (Bj (Af y0.1 1)))) (some (slO 5 5 (Bl (Af y0.1 3)) 0 (Bj (Af y0.1 1)),y0.2))) fun y17=>some (.inr y17)))
theorem run5 (B:KB) (h:AF E) (dep:Nat) (e:E) (x0:PV):BV (BJ B fun _=>.cl) fn5 (.cl) h dep [.cv x0] e=AC (BF [x0,nI 0,.int .i64 0]) (Bz (S5 B) ([x0,nI 0,.int .i64 0,.sl 5 [] false],e)):=by kernel_rfl
noncomputable def Og (B:KB):lS×E->Option (Sum (lS×E) (PV×E)):=(fun y0=>Aa (Ae (.bin .lss .num false (.c (Af y0.1 2)) (.c (Af y0.1 1)))) fun y1=>AH y1 (Aa (Ae (.mw 5 (.c (Af y0.1 0)) (.c (Af y0.1 2)))) fun y2=>Aa (Ae (.load 5 true (.c y2))) fun y3=>AC (FH y3 5) (Aa (Ae (.bin .neq .num true (.c (BD y3 0)) (.c (.int .i64 0)))) fun y4=>AH y4 (Aa (AJ B .cl (.fn 15 []) [BD y3 0]) fun y5=>Aa (AJ B .cl (.fn 14 []) [y5,.str [45],.str [194,175],.int .i64 1]) fun y6=>Aa (Ae (.bin .add .str true (.c (.str [101,114,114,111,114,32])) (.c y6))) fun y7=>Aa (Cs B (.mk [.ref (0,0) 0,.cv (.bool false)] [.cells 40 [.ref (0,0) 0,.arr (0,1) 1 0 0],.arr 1 5 []] (.mn [.cv (.bool false),.cv (.bool false)]) [.cells 40 [.ref (0,0) 0,.arr (0,1) 1 0 0],.arr 1 5 []] [] [1]) 13 [y7,nI (Bj (Af y0.1 3)),.sl 1 (Bl (Af y0.1 4)) false]) fun y8=>Aa (Cs B (.mk [.ref (0,0) 0,.cv (.bool false)] [.cells 40 [.ref (0,0) 0,.arr (0,1) 1 0 0],.arr 1 5 []] (.cv (.bool false)) [.cells 40 [.ref (0,0) 0,.arr (0,1) 1 0 0],.arr 1 5 []] [] [1]) 17 [.int .u8 10,nI (Bj (Af y8 2)),.sl 1 (Bl (Af y8 3)) false]) fun y9=>Aa (Ae (.bin .add .num true (.c (Af y0.1 2)) (.c (.int .i64 1)))) fun xj=>some (.inl ([Af y0.1 0,Af y0.1 1,xj,nI (Bj (Af y9 1)),.sl 1 (Bl (Af y9 2)) false],y0.2))) (AH (BD y3 1) (Aa (AJ B .cl (.fn 16 []) [.agg [BD y3 2,BD y3 3,BD y3 4]]) fun y11=>Aa (Cs B (.mk [.ref (0,0) 0,.cv (.bool false)] [.cells 40 [.ref (0,0) 0,.arr (0,1) 1 0 0],.arr 1 5 []] (.mn [.cv (.bool false),.cv (.bool false)]) [.cells 40 [.ref (0,0) 0,.arr (0,1) 1 0 0],.arr 1 5 []] [] [1]) 13 [y11,nI (Bj (Af y0.1 3)),.sl 1 (Bl (Af y0.1 4)) false]) fun yJ=>Aa (Cs B (.mk [.ref (0,0) 0,.cv (.bool false)] [.cells 40 [.ref (0,0) 0,.arr (0,1) 1 0 0],.arr 1 5 []] (.cv (.bool false)) [.cells 40 [.ref (0,0) 0,.arr (0,1) 1 0 0],.arr 1 5 []] [] [1]) 17 [.int .u8 10,nI (Bj (Af yJ 2)),.sl 1 (Bl (Af yJ 3)) false]) fun xk=>Aa (Ae (.bin .add .num true (.c (Af y0.1 2)) (.c (.int .i64 1)))) fun y14=>some (.inl ([Af y0.1 0,Af y0.1 1,y14,nI (Bj (Af xk 1)),.sl 1 (Bl (Af xk 2)) false],y0.2))) (Aa (Cs B (.mk [.ref (0,0) 0,.cv (.bool false)] [.cells 40 [.ref (0,0) 0,.arr (0,1) 1 0 0],.arr 1 5 []] (.cv (.bool false)) [.cells 40 [.ref (0,0) 0,.arr (0,1) 1 0 0],.arr 1 5 []] [] [1]) 17 [.int .u8 10,nI (Bj (Af y0.1 3)),.sl 1 (Bl (Af y0.1 4)) false]) fun sK=>Aa (Ae (.bin .add .num true (.c (Af y0.1 2)) (.c (.int .i64 1)))) fun yK=>some (.inl ([Af y0.1 0,Af y0.1 1,yK,nI (Bj (Af sK 1)),.sl 1 (Bl (Af sK 2)) false],y0.2)))))) (Aa (AC (Mc (Bj (Af y0.1 3)) (Bl (Af y0.1 4))) (some (IG (B9 (Bj (Af y0.1 3)) (Bl (Af y0.1 4))),y0.2))) fun y17=>some (.inr y17)))
theorem run6 (B:KB) (h:AF E) (dep:Nat) (e:E) (x0:PV):BV (BJ B fun _=>.cl) fn6 (.cl) h dep [.cv x0] e=Aa (Ae (.len .slice (.c x0))) (fun a=>Aa (Ae (.bin .lss .num false (.c (.int .i64 0)) (.c a))) fun b=>AH b (Aa (Ae (.mw 5 (.c x0) (.c (.int .i64 0)))) fun b=>Aa (Ae (.load 5 true (.c b))) fun b=>AC (FH b 5) (Aa (Ae (.bin .neq .num true (.c (BD b 0)) (.c (.int .i64 0)))) fun d=>AH d (Aa (AJ B .cl (.fn 15 []) [BD b 0]) fun b=>Aa (AJ B .cl (.fn 14 []) [b,.str [45],.str [194,175],.int .i64 1]) fun b=>Aa (Ae (.bin .add .str true (.c (.str [101,114,114,111,114,32])) (.c b))) fun b=>Aa (Cs B (.mk [.ref (0,0) 0,.cv (.bool false)] [.cells 40 [.cv (.bool false),.cv (.bool false)]] (.mn [.cv (.bool false),.cv (.bool false)]) [.cells 40 [.ref (0,0) 0,.arr (1,0) 1 0 0]] [.arr 1 5 []] []) 13 [b,.mJ,.mu]) fun b=>Aa (Cs B (.mk [.ref (0,0) 0,.cv (.bool false)] [.cells 40 [.ref (0,0) 0,.arr (0,1) 1 0 0],.arr 1 5 []] (.cv (.bool false)) [.cells 40 [.ref (0,0) 0,.arr (0,1) 1 0 0],.arr 1 5 []] [] [1]) 17 [.int .u8 10,nI (Bj (Af b 2)),.sl 1 (Bl (Af b 3)) false]) fun b=>Aa (Ae (.bin .add .num true (.c (.int .i64 0)) (.c (.int .i64 1)))) fun d=>AC (BF [x0,a,d]) (Bz (Og B) ([x0,a,d,nI (Bj (Af b 1)),.sl 1 (Bl (Af b 2)) false],e))) (AH (BD b 1) (Aa (AJ B .cl (.fn 16 []) [.agg [BD b 2,BD b 3,BD b 4]]) fun b=>Aa (Cs B (.mk [.ref (0,0) 0,.cv (.bool false)] [.cells 40 [.cv (.bool false),.cv (.bool false)]] (.mn [.cv (.bool false),.cv (.bool false)]) [.cells 40 [.ref (0,0) 0,.arr (1,0) 1 0 0]] [.arr 1 5 []] []) 13 [b,.mJ,.mu]) fun b=>Aa (Cs B (.mk [.ref (0,0) 0,.cv (.bool false)] [.cells 40 [.ref (0,0) 0,.arr (0,1) 1 0 0],.arr 1 5 []] (.cv (.bool false)) [.cells 40 [.ref (0,0) 0,.arr (0,1) 1 0 0],.arr 1 5 []] [] [1]) 17 [.int .u8 10,nI (Bj (Af b 2)),.sl 1 (Bl (Af b 3)) false]) fun b=>Aa (Ae (.bin .add .num true (.c (.int .i64 0)) (.c (.int .i64 1)))) fun d=>AC (BF [x0,a,d]) (Bz (Og B) ([x0,a,d,nI (Bj (Af b 1)),.sl 1 (Bl (Af b 2)) false],e))) (Aa (Cs B (.mk [.ref (0,0) 0,.cv (.bool false)] [.cells 40 [.cv (.bool false),.cv (.bool false)]] (.cv (.bool false)) [.cells 40 [.ref (0,0) 0,.arr (1,0) 1 0 0]] [.arr 1 5 []] []) 17 [.int .u8 10,.mJ,.mu]) fun b=>Aa (Ae (.bin .add .num true (.c (.int .i64 0)) (.c (.int .i64 1)))) fun d=>AC (BF [x0,a,d]) (Bz (Og B) ([x0,a,d,nI (Bj (Af b 1)),.sl 1 (Bl (Af b 2)) false],e)))))) (some (.str [],e))):=by kernel_rfl
noncomputable def S4 (B:KB):lS×E->Option (Sum (lS×E) (PV×E)):=(fun y0=>Aa (Ae (.len .slice (.c (Af y0.1 0)))) fun y1=>Aa (Ae (.bin .lss .num false (.c (Af y0.1 2)) (.c y1))) fun y2=>AH y2 (Aa (Ae (.mw 5 (.c (Af y0.1 0)) (.c (Af y0.1 2)))) fun y3=>Aa (Ae (.fieldAddr 0 (.c y3))) fun y4=>Aa (Ae (.load 1 false (.c y4))) fun y5=>Aa (Ae (.bin .neq .num true (.c y5) (.c (.int .i64 0)))) fun y6=>AH y6 (Aa (Ae (.bin .add .str true (.c (Af y0.1 1)) (.c (.str [101,114,114,111,114,32])))) fun y7=>Aa (Ae (.mw 5 (.c (Af y0.1 0)) (.c (Af y0.1 2)))) fun y8=>Aa (Ae (.fieldAddr 0 (.c y8))) fun y9=>Aa (Ae (.load 1 false (.c y9))) fun xj=>Aa (AJ B .cl (.fn 19 []) [xj]) fun y11=>Aa (Ae (.bin .add .str false (.c y7) (.c y11))) fun yJ=>Aa (Ae (.bin .add .str true (.c yJ) (.c (.str [10])))) fun xk=>Aa (Ae (.bin .add .num true (.c (Af y0.1 2)) (.c (.int .i64 1)))) fun y14=>some (.inl ([Af y0.1 0,xk,y14],y0.2))) (Aa (Ae (.mw 5 (.c (Af y0.1 0)) (.c (Af y0.1 2)))) fun sK=>Aa (Ae (.fieldAddr 1 (.c sK))) fun yK=>Aa (Ae (.load 1 false (.c yK))) fun y17=>AH y17 (Aa (Ae (.mw 5 (.c (Af y0.1 0)) (.c (Af y0.1 2)))) fun y18=>Aa (Ae (.fieldAddr 2 (.c y18))) fun y19=>Aa (Ae (.load 3 true (.c y19))) fun y20=>Aa (AJ B .cl (.fn 11 []) [y20]) fun y21=>Aa (Ae (.bin .add .str false (.c (Af y0.1 1)) (.c y21))) fun y22=>Aa (Ae (.bin .add .str true (.c y22) (.c (.str [10])))) fun y23=>Aa (Ae (.bin .add .num true (.c (Af y0.1 2)) (.c (.int .i64 1)))) fun y24=>some (.inl ([Af y0.1 0,y23,y24],y0.2))) (Aa (Ae (.bin .add .str true (.c (Af y0.1 1)) (.c (.str [10])))) fun y25=>Aa (Ae (.bin .add .num true (.c (Af y0.1 2)) (.c (.int .i64 1)))) fun y26=>some (.inl ([Af y0.1 0,y25,y26],y0.2))))) (Aa (some (Af y0.1 1,y0.2)) fun y27=>some (.inr y27)))
theorem run7 (B:KB) (h:AF E) (dep:Nat) (e:E) (x0:PV):BV (BJ B fun _=>.cl) fn7 (.cl) h dep [.cv x0] e=AC (BF [x0,.str [],.int .i64 0]) (Bz (S4 B) ([x0,.str [],.int .i64 0],e)):=by kernel_rfl
theorem run8 (B:KB) (h:AF E) (dep:Nat) (e:E) (x0:PV) (x1:PV) :
  BV (BJ B fun _=>.cl) fn8 (.cl) h dep [.cv x0,.cv x1] e =
  Aa (AJ B .cl (.fn 20 []) [x0,x1,.fn 21 []]) (fun a=>some (a,e)):=by kernel_rfl
noncomputable def Qi (B:KB):lS×E->Option (Sum (lS×E) (PV×E)):=(fun y0=>Aa (Ae (.len .slice (.c (Af y0.1 0)))) fun y1=>Aa (Ae (.bin .lss .num false (.c (Af y0.1 2)) (.c y1))) fun y2=>AH y2 (Aa (Ae (.mw 5 (.c (Af y0.1 0)) (.c (Af y0.1 2)))) fun y3=>Aa (Ae (.fieldAddr 0 (.c y3))) fun y4=>Aa (Ae (.load 1 false (.c y4))) fun y5=>Aa (Ae (.mw 5 (.c (Af y0.1 1)) (.c (Af y0.1 2)))) fun y6=>Aa (Ae (.fieldAddr 0 (.c y6))) fun y7=>Aa (Ae (.load 1 false (.c y7))) fun y8=>Aa (Ae (.bin .neq .num false (.c y5) (.c y8))) fun y9=>AH y9 (Aa (some (.bool false,y0.2)) fun xj=>some (.inr xj)) (Aa (Ae (.mw 5 (.c (Af y0.1 0)) (.c (Af y0.1 2)))) fun y11=>Aa (Ae (.fieldAddr 1 (.c y11))) fun yJ=>Aa (Ae (.load 1 false (.c yJ))) fun xk=>Aa (Ae (.mw 5 (.c (Af y0.1 1)) (.c (Af y0.1 2)))) fun y14=>Aa (Ae (.fieldAddr 1 (.c y14))) fun sK=>Aa (Ae (.load 1 false (.c sK))) fun yK=>Aa (Ae (.bin .neq .bool false (.c xk) (.c yK))) fun y17=>AH y17 (Aa (some (.bool false,y0.2)) fun y18=>some (.inr y18)) (Aa (Ae (.mw 5 (.c (Af y0.1 0)) (.c (Af y0.1 2)))) fun y19=>Aa (Ae (.fieldAddr 2 (.c y19))) fun y20=>Aa (Ae (.load 3 true (.c y20))) fun y21=>Aa (Ae (.mw 5 (.c (Af y0.1 1)) (.c (Af y0.1 2)))) fun y22=>Aa (Ae (.fieldAddr 2 (.c y22))) fun y23=>Aa (Ae (.load 3 true (.c y23))) fun y24=>Aa (AJ B .cl (.fn 23 []) [y21,y24]) fun y25=>Aa (Ae (.un .not (.c y25))) fun y26=>AH y26 (Aa (some (.bool false,y0.2)) fun y27=>some (.inr y27)) (Aa (Ae (.bin .add .num true (.c (Af y0.1 2)) (.c (.int .i64 1)))) fun y28=>some (.inl ([Af y0.1 0,Af y0.1 1,y28],y0.2)))))) (Aa (some (.bool true,y0.2)) fun y29=>some (.inr y29)))
theorem run9 (B:KB) (h:AF E) (dep:Nat) (e:E) (x0:PV) (x1:PV):BV (BJ B fun _=>.cl) fn9 (.cl) h dep [.cv x0,.cv x1] e=Aa (Ae (.len .slice (.c x0))) (fun a=>Aa (Ae (.len .slice (.c x1))) fun b=>Aa (Ae (.bin .neq .num false (.c a) (.c b))) fun a=>AH a (some (.bool false,e)) (AC (BF [x0,x1,.int .i64 0]) (Bz (Qi B) ([x0,x1,.int .i64 0],e)))):=by kernel_rfl
noncomputable def Mf (B:KB):lS×E->Option (Sum (lS×E) (PV×E)):=(fun y0=>Aa (AN (Af y0.1 2) 2 1 false) fun y1=>Aa (Ae (.len .slice (.c y1))) fun y2=>Aa (Ae (.bin .lss .num false (.c (Af y0.1 1)) (.c y2))) fun y3=>AH y3 (Aa (Aa (AN (Af y0.1 2) 1 1 false) fun y4=>AH y4 (Aa (AN (Af y0.1 2) 2 1 false) fun y5=>Aa (Ae (.mw 1 (.c y5) (.c (Af y0.1 1)))) fun y6=>Aa (Ae (.load 1 false (.c y6))) fun y7=>Aa (Ae (.bin .eql .num true (.c y7) (.c (.int .i64 39)))) fun y8=>some y8) (some (.bool false))) fun y9=>AH y9 (Aa (Ae (.bin .add .str true (.c (Af y0.1 0)) (.c (.str [39,39])))) fun xj=>Aa (Ae (.bin .add .num true (.c (Af y0.1 1)) (.c (.int .i64 1)))) fun y11=>some (.inl ([xj,y11,Af y0.1 2],y0.2))) (Aa (AN (Af y0.1 2) 1 1 false) fun yJ=>AH yJ (Aa (AN (Af y0.1 2) 2 1 false) fun xk=>Aa (Ae (.mw 1 (.c xk) (.c (Af y0.1 1)))) fun y14=>Aa (Ae (.load 1 false (.c y14))) fun sK=>Aa (AJ B .cl (.fn 28 []) [sK]) fun yK=>Aa (Ae (.bin .add .str false (.c (Af y0.1 0)) (.c yK))) fun y17=>Aa (Ae (.bin .add .num true (.c (Af y0.1 1)) (.c (.int .i64 1)))) fun y18=>some (.inl ([y17,y18,Af y0.1 2],y0.2))) (Aa (Ae (.bin .gtr .num true (.c (Af y0.1 1)) (.c (.int .i64 0)))) fun y19=>AH y19 (Aa (Ae (.bin .add .str true (.c (Af y0.1 0)) (.c (.str [32])))) fun y20=>Aa (AN (Af y0.1 2) 2 1 false) fun y21=>Aa (Ae (.mw 1 (.c y21) (.c (Af y0.1 1)))) fun y22=>Aa (Ae (.load 1 false (.c y22))) fun y23=>Aa (AJ B .cl (.fn 19 []) [y23]) fun y24=>Aa (Ae (.bin .add .str false (.c y20) (.c y24))) fun y25=>Aa (Ae (.bin .add .num true (.c (Af y0.1 1)) (.c (.int .i64 1)))) fun y26=>some (.inl ([y25,y26,Af y0.1 2],y0.2))) (Aa (AN (Af y0.1 2) 2 1 false) fun y27=>Aa (Ae (.mw 1 (.c y27) (.c (Af y0.1 1)))) fun y28=>Aa (Ae (.load 1 false (.c y28))) fun y29=>Aa (AJ B .cl (.fn 19 []) [y29]) fun y30=>Aa (Ae (.bin .add .str false (.c (Af y0.1 0)) (.c y30))) fun y31=>Aa (Ae (.bin .add .num true (.c (Af y0.1 1)) (.c (.int .i64 1)))) fun y32=>some (.inl ([y31,y32,Af y0.1 2],y0.2)))))) (Aa (Aa (AN (Af y0.1 2) 1 1 false) fun y33=>AH y33 (Aa (Ae (.bin .add .str true (.c (.str [39])) (.c (Af y0.1 0)))) fun y34=>Aa (Ae (.bin .add .str true (.c y34) (.c (.str [39])))) fun y35=>Aa (Aa (AN (Af y0.1 2) 0 1 false) fun y36=>AH y36 (Aa (AN (Af y0.1 2) 2 1 false) fun y37=>Aa (Ae (.len .slice (.c y37))) fun y38=>Aa (Ae (.bin .eql .num true (.c y38) (.c (.int .i64 1)))) fun y39=>some y39) (some (.bool false))) fun y40=>AH y40 (Aa (Ae (.bin .add .str true (.c (.str [44])) (.c y35))) fun y41=>some (y41,y0.2)) (Aa (Aa (AN (Af y0.1 2) 1 1 false) fun y42=>Aa (Ae (.un .not (.c y42))) fun y43=>AH y43 (Aa (AN (Af y0.1 2) 2 1 false) fun y44=>Aa (Ae (.len .slice (.c y44))) fun y45=>Aa (Ae (.bin .eql .num true (.c y45) (.c (.int .i64 0)))) fun y46=>some y46) (some (.bool false))) fun y47=>AH y47 (some (.str [226,141,179,48],y0.2)) (some (y35,y0.2)))) (Aa (Aa (AN (Af y0.1 2) 0 1 false) fun y48=>AH y48 (Aa (AN (Af y0.1 2) 2 1 false) fun y49=>Aa (Ae (.len .slice (.c y49))) fun y50=>Aa (Ae (.bin .eql .num true (.c y50) (.c (.int .i64 1)))) fun y51=>some y51) (some (.bool false))) fun y52=>AH y52 (Aa (Ae (.bin .add .str true (.c (.str [44])) (.c (Af y0.1 0)))) fun y53=>some (y53,y0.2)) (Aa (Aa (AN (Af y0.1 2) 1 1 false) fun y54=>Aa (Ae (.un .not (.c y54))) fun y55=>AH y55 (Aa (AN (Af y0.1 2) 2 1 false) fun y56=>Aa (Ae (.len .slice (.c y56))) fun y57=>Aa (Ae (.bin .eql .num true (.c y57) (.c (.int .i64 0)))) fun y58=>some y58) (some (.bool false))) fun y59=>AH y59 (some (.str [226,141,179,48],y0.2)) (some (Af y0.1 0,y0.2))))) fun y60=>some (.inr y60)))
theorem run11 (B:KB) (h:AF E) (dep:Nat) (e:E) (x0:PV):BV (BJ B fun _=>.cl) fn11 (.cl) h dep [.cv x0] e=AC (Fy x0) (Aa (AN x0 0 3 true) fun a=>Aa (AJ B .cl (.fn 27 []) [a]) fun a=>Aa (Ae (.un .not (.c a))) fun a=>AH a (some (.str [],e)) (AC (BF [.str [],.int .i64 0]) (Bz (Mf B) ([.str [],.int .i64 0,x0],e)))):=by kernel_rfl
theorem run12 (B:KB) (h:AF E) (dep:Nat) (e:E) (x0:PV) :
  BV (BJ B fun _=>.cl) fn12 (.cl) h dep [.cv x0] e =
  AC (Fy x0) (Aa (AN x0 0 1 false) (fun a=>Aa (AN x0 1 1 false) (fun b=>Aa (AN x0 2 1 false) (fun d=>Aa (AN x0 2 1 false) (fun f=>Aa (Ae
  (.len .slice (.c f))) (fun f=>Aa (Ae (.nQ false [.c f,.c (.int .i64 202)])) (fun f=>Aa (Ae (.slice 1 (.c d) none (some (.c f)) none)) (fun d=>Aa
  (Ae (.build [.bool false,.bool false,.mu] [(0,(1,.c a)),(1,(1,.c b)),(2,(1,.c d))])) (fun a=>AC (FH a 3) (some (.agg [BD a 0,BD a 1,BD a
  2],e))))))))))):=by kernel_rfl
theorem run16 (B:KB) (h:AF E) (dep:Nat) (e:E) (x0:PV) :
  BV (BJ B fun _=>.cl) fn16 (.cl) h dep [.cv x0] e =
  AC (Fy x0) (Aa (AN x0 0 3 true) (fun a=>Aa (AJ B .cl (.fn 35 []) [a]) (fun a=>Aa (Ae (.un .not (.c a))) (fun a=>AH a (some (.str [],e)) (Aa
  (AN x0 0 3 true) (fun a=>Aa (AJ B .cl (.fn 36 []) [a]) (fun a=>Aa (AN x0 1 1 false) (fun b=>AH b (Aa (Ae (.bin .add .str true (.c (.str [39])) (.c
  a))) (fun a=>Aa (Ae (.bin .add .str true (.c a) (.c (.str [39])))) (fun a=>Aa (Aa (AN x0 0 1 false) (fun a=>AH a (Aa (AN x0 2 1 false) (fun a =>
  Aa (Ae (.len .slice (.c a))) fun a=>Aa (Ae (.bin .eql .num true (.c a) (.c (.int .i64 1)))) fun a=>some a)) (some (.bool false)))) (fun b=>AH
  b (Aa (Ae (.bin .add .str true (.c (.str [44])) (.c a))) fun a=>some (a,e)) (Aa (Ae (.bin .eql .str true (.c a) (.c (.str [])))) (fun b=>AH b (some
  (.str [226,141,179,48],e)) (some (a,e)))))))) (Aa (Aa (AN x0 0 1 false) (fun a=>AH a (Aa (AN x0 2 1 false) (fun a=>Aa (Ae (.len .slice (.c
  a))) fun a=>Aa (Ae (.bin .eql .num true (.c a) (.c (.int .i64 1)))) fun a=>some a)) (some (.bool false)))) (fun b=>AH b (Aa (Ae (.bin .add
  .str true (.c (.str [44])) (.c a))) fun a=>some (a,e)) (Aa (Ae (.bin .eql .str true (.c a) (.c (.str [])))) (fun b=>AH b (some (.str [226,141,179,48],
  e)) (some (a,e)))))))))))))):=by kernel_rfl
theorem run19 (B:KB) (h:AF E) (dep:Nat) (e:E) (x0:PV) :
  BV (BJ B fun _=>.cl) fn19 (.cl) h dep [.cv x0] e =
  Aa (Aa (Ae (.bin .lss .num true (.c x0) (.c (.int .i64 0)))) (fun a=>AH a (Aa (Ae (.bin .quo .num true (.c x0) (.c (.int .i64 10)))) (fun a=>Aa (Ae
  (.bin .eql .num true (.c a) (.c (.int .i64 0)))) fun a=>some a)) (some (.bool false)))) (fun a=>AH a (Aa (Ae (.un .neg (.c x0))) (fun a=>Aa (AJ B .cl
  (.fn 19 []) [a]) fun a=>Aa (Ae (.bin .add .str true (.c (.str [194,175])) (.c a))) fun a=>some (a,e))) (Aa (Ae (.bin .lss .num true (.c x0) (.c (.int
  .i64 0)))) (fun a=>AH a (Aa (Ae (.bin .quo .num true (.c x0) (.c (.int .i64 10)))) (fun a=>Aa (AJ B .cl (.fn 19 []) [a]) (fun a=>Aa (Ae (.bin .rem
  .num true (.c x0) (.c (.int .i64 10)))) (fun b=>Aa (Ae (.un .neg (.c b))) (fun b=>Aa (AJ B .cl (.fn 19 []) [b]) (fun b=>Aa (Ae (.bin .add .str
  false (.c a) (.c b))) fun a=>some (a,e))))))) (Aa (Ae (.bin .lss .num true (.c x0) (.c (.int .i64 10)))) (fun a=>AH a (Aa (Ae (.bin .add .num true
  (.c (.int .i64 48)) (.c x0))) (fun a=>Aa (Ae (.conv .u8 (.c a))) (fun a=>AC (Ep 1 [a]) (AC (Dd (BR 0 (AT [a])) (AT [a])) (Aa (Ae (.ofBytes
  (.c (.sl 1 (B9 (AT [a]) (Et 0 [a])) false)))) fun a=>some (a,e)))))) (Aa (Ae (.bin .quo .num true (.c x0) (.c (.int .i64 10)))) (fun a=>Aa (AJ
  B .cl (.fn 19 []) [a]) (fun a=>Aa (Ae (.bin .rem .num true (.c x0) (.c (.int .i64 10)))) (fun b=>Aa (AJ B .cl (.fn 19 []) [b]) (fun b=>Aa (Ae
  (.bin .add .str false (.c a) (.c b))) fun a=>some (a,e))))))))))):=by kernel_rfl
noncomputable def PQ (B:KB):lS×E->Option (Sum (lS×E) (PV×E)):=(fun y0=>Aa (Ae (.bin .lss .num false (.c (Af y0.1 4)) (.c (Af y0.1 3)))) fun y1=>AH y1 (Aa (Ae (.mw 5 (.c (Af y0.1 2)) (.c (Af y0.1 4)))) fun y2=>Aa (Ae (.load 5 true (.c y2))) fun y3=>AC (FH y3 5) (Aa (Ae (.mw 5 (.c (Af y0.1 0)) (.c (Af y0.1 4)))) fun y4=>Aa (Ae (.load 5 true (.c y4))) fun y5=>AC (FH y5 5) (Aa (AJ B .cl (Af y0.1 1) [.agg [BD y3 0,BD y3 1,BD y3 2,BD y3 3,BD y3 4],.agg [BD y5 0,BD y5 1,BD y5 2,BD y5 3,BD y5 4]]) fun y6=>Aa (Ae (.un .not (.c y6))) fun y7=>AH y7 (Aa (some (.bool false,y0.2)) fun y8=>some (.inr y8)) (Aa (Ae (.bin .add .num true (.c (Af y0.1 4)) (.c (.int .i64 1)))) fun y9=>some (.inl ([Af y0.1 0,Af y0.1 1,Af y0.1 2,Af y0.1 3,y9],y0.2)))))) (Aa (some (.bool true,y0.2)) fun xj=>some (.inr xj)))
theorem run20 (B:KB) (h:AF E) (dep:Nat) (e:E) (x0:PV) (x1:PV) (x2:PV):BV (BJ B fun _=>.cl) fn20 (.cl) h dep [.cv x0,.cv x1,.cv x2] e=Aa (Ae (.len .slice (.c x0))) (fun a=>Aa (Ae (.len .slice (.c x1))) fun b=>Aa (Ae (.bin .neq .num false (.c a) (.c b))) fun a=>AH a (some (.bool false,e)) (Aa (Ae (.len .slice (.c x0))) fun a=>AC (BF [x1,x2,x0,a,.int .i64 0]) (Bz (PQ B) ([x1,x2,x0,a,.int .i64 0],e)))):=by kernel_rfl
theorem run21 (B:KB) (h:AF E) (dep:Nat) (e:E) (x0:PV) (x1:PV) :
  BV (BJ B fun _=>.cl) fn21 (.cl) h dep [.cv x0,.cv x1] e =
  AC (Fy x0) (AC (Fy x1) (Aa (AN x0 0 1 false) (fun a=>Aa (AN x1 0 1 false) (fun b=>Aa (Ae (.bin .eql .num false (.c a) (.c b))) (fun a=>AH a
  (Aa (AN x0 1 1 false) (fun a=>Aa (AN x1 1 1 false) (fun b=>Aa (Ae (.bin .eql .bool false (.c a) (.c b))) (fun a=>AH a (Aa (AN x0 2 3 true) (fun
  z7=>Aa (AN x1 2 3 true) fun a=>Aa (AJ B .cl (.fn 22 []) [z7,a]) fun a=>some (a,e))) (some (.bool false,e)))))) (some (.bool false,e))))))):=by kernel_rfl
theorem run22 (B:KB) (h:AF E) (dep:Nat) (e:E) (x0:PV) (x1:PV) :
  BV (BJ B fun _=>.cl) fn22 (.cl) h dep [.cv x0,.cv x1] e =
  AC (Fy x0) (AC (Fy x1) (Aa (AN x0 0 1 false) (fun a=>Aa (AN x1 0 1 false) (fun b=>Aa (Ae (.bin .eql .bool false (.c a) (.c b))) (fun a=>AH a
  (Aa (AN x0 1 1 false) (fun a=>Aa (AN x1 1 1 false) (fun b=>Aa (Ae (.bin .eql .bool false (.c a) (.c b))) (fun a=>AH a (Aa (AN x0 2 1 false) (fun
  z7=>Aa (AN x1 2 1 false) fun a=>Aa (AJ B .cl (.fn 37 []) [z7,a]) fun a=>some (a,e))) (some (.bool false,e)))))) (some (.bool false,e))))))):=by kernel_rfl
theorem run23 (B:KB) (h:AF E) (dep:Nat) (e:E) (x0:PV) (x1:PV) :
  BV (BJ B fun _=>.cl) fn23 (.cl) h dep [.cv x0,.cv x1] e =
  AC (Fy x0) (AC (Fy x1) (Aa (AN x0 0 1 false) (fun a=>Aa (AN x1 0 1 false) (fun b=>Aa (Ae (.bin .eql .bool false (.c a) (.c b))) (fun a=>AH a
  (Aa (AN x0 1 1 false) (fun a=>Aa (AN x1 1 1 false) (fun b=>Aa (Ae (.bin .eql .bool false (.c a) (.c b))) (fun a=>AH a (Aa (AN x0 2 1 false) (fun
  z7=>Aa (AN x1 2 1 false) fun a=>Aa (AJ B .cl (.fn 38 []) [z7,a]) fun a=>some (a,e))) (some (.bool false,e)))))) (some (.bool false,e))))))):=by kernel_rfl
theorem run27 (B:KB) (h:AF E) (dep:Nat) (e:E) (x0:PV) :
  BV (BJ B fun _=>.cl) fn27 (.cl) h dep [.cv x0] e =
  AC (Fy x0) (AC (BF [.int .i64 0]) (Bz (fun a=>Aa (Aa (AN (Af a.1 1) 2 1 false) (fun b=>Aa (Ae (.len .slice (.c b))) (fun b=>Aa (Ae
  (.bin .lss .num false (.c (Af a.1 0)) (.c b))) fun b=>AH b (Aa (AN (Af a.1 1) 1 1 false) fun a=>some a) (some (.bool false))))) (fun b=>AH b (Aa
  (AN (Af a.1 1) 2 1 false) (fun b=>Aa (Ae (.mw 1 (.c b) (.c (Af a.1 0)))) (fun b=>Aa (Ae (.load 1 false (.c b))) (fun b=>Aa (AJ B .cl (.fn 51
  []) [b]) (fun b=>Aa (Ae (.un .not (.c b))) (fun b=>AH b (Aa (some (.bool false,a.2)) fun a=>some (.inr a)) (Aa (Ae (.bin .add .num true (.c
  (Af a.1 0)) (.c (.int .i64 1)))) fun b=>some (.inl ([b,Af a.1 1],a.2))))))))) (Aa (Aa (Aa (AN (Af a.1 1) 0 1 false) (fun b=>AH b (Aa (AN
  (Af a.1 1) 2 1 false) (fun b=>Aa (Ae (.len .slice (.c b))) (fun b=>Aa (Ae (.bin .leq .num true (.c b) (.c (.int .i64 200)))) (fun b=>AH b (some
  (.bool true)) (Aa (AN (Af a.1 1) 0 1 false) (fun b=>Aa (Ae (.un .not (.c b))) (fun b=>AH b (Aa (AN (Af a.1 1) 2 1 false) (fun a=>Aa (Ae
  (.len .slice (.c a))) fun a=>Aa (Ae (.bin .eql .num true (.c a) (.c (.int .i64 1)))) fun a=>some a)) (some (.bool false))))))))) (Aa (AN (Af a.1 1) 0
  1 false) (fun b=>Aa (Ae (.un .not (.c b))) (fun b=>AH b (Aa (AN (Af a.1 1) 2 1 false) (fun a=>Aa (Ae (.len .slice (.c a))) (fun a=>Aa
  (Ae (.bin .eql .num true (.c a) (.c (.int .i64 1)))) fun a=>some a))) (some (.bool false))))))) fun b=>some (b,a.2)) fun a=>some (.inr a)))) ([.int
  .i64 0,x0],e))):=by kernel_rfl
theorem run28 (B:KB) (h:AF E) (dep:Nat) (e:E) (x0:PV) :
  BV (BJ B fun _=>.cl) fn28 (.cl) h dep [.cv x0] e =
  Aa (Ae (.bin .lss .num true (.c x0) (.c (.int .i64 128)))) (fun a=>AH a (Aa (Ae (.conv .u8 (.c x0))) (fun a=>AC (Ep 1 [a]) (AC (Dd (BR 0 (AT
  [a])) (AT [a])) (Aa (Ae (.ofBytes (.c (.sl 1 (B9 (AT [a]) (Et 0 [a])) false)))) fun a=>some (a,e))))) (Aa (Ae (.bin .lss .num true (.c x0) (.c
  (.int .i64 2048)))) (fun a=>AH a (Aa (Ae (.bin .quo .num true (.c x0) (.c (.int .i64 64)))) (fun a=>Aa (Ae (.bin .add .num true (.c (.int .i64 192)) (.c a)))
  (fun a=>Aa (Ae (.conv .u8 (.c a))) (fun a=>Aa (Ae (.bin .rem .num true (.c x0) (.c (.int .i64 64)))) (fun b=>Aa (Ae (.bin .add .num true (.c (.int .i64
  128)) (.c b))) (fun b=>Aa (Ae (.conv .u8 (.c b))) (fun b=>AC (Ep 1 [a,b]) (AC (Dd (BR 0 (AT [a,b])) (AT [a,b])) (Aa (Ae (.ofBytes (.c
  (.sl 1 (B9 (AT [a,b]) (Et 0 [a,b])) false)))) fun a=>some (a,e)))))))))) (Aa (Ae (.bin .lss .num true (.c x0) (.c (.int .i64 65536)))) (fun a =>
  AH a (Aa (Ae (.bin .quo .num true (.c x0) (.c (.int .i64 4096)))) (fun a=>Aa (Ae (.bin .add .num true (.c (.int .i64 224)) (.c a))) (fun a=>Aa (Ae
  (.conv .u8 (.c a))) (fun a=>Aa (Ae (.bin .quo .num true (.c x0) (.c (.int .i64 64)))) (fun b=>Aa (Ae (.bin .rem .num true (.c b) (.c (.int .i64 64)))) (fun
  z17=>Aa (Ae (.bin .add .num true (.c (.int .i64 128)) (.c z17))) (fun b=>Aa (Ae (.conv .u8 (.c b))) (fun b=>Aa (Ae (.bin .rem .num true (.c x0) (.c
  (.int .i64 64)))) (fun d=>Aa (Ae (.bin .add .num true (.c (.int .i64 128)) (.c d))) (fun d=>Aa (Ae (.conv .u8 (.c d))) (fun d=>AC (Ep 1 [a,b,
  d]) (AC (Dd (BR 0 (AT [a,b,d])) (AT [a,b,d])) (Aa (Ae (.ofBytes (.c (.sl 1 (B9 (AT [a,b,d]) (Et 0 [a,b,d])) false)))) (fun
  z23=>some (z23,e))))))))))))))) (Aa (Ae (.bin .quo .num true (.c x0) (.c (.int .i64 262144)))) (fun a=>Aa (Ae (.bin .add .num true (.c (.int .i64 240)) (.c
  a))) (fun a=>Aa (Ae (.conv .u8 (.c a))) (fun a=>Aa (Ae (.bin .quo .num true (.c x0) (.c (.int .i64 4096)))) (fun b=>Aa (Ae (.bin .rem .num true
  (.c b) (.c (.int .i64 64)))) (fun b=>Aa (Ae (.bin .add .num true (.c (.int .i64 128)) (.c b))) (fun b=>Aa (Ae (.conv .u8 (.c b))) (fun b=>Aa (Ae
  (.bin .quo .num true (.c x0) (.c (.int .i64 64)))) (fun d=>Aa (Ae (.bin .rem .num true (.c d) (.c (.int .i64 64)))) (fun d=>Aa (Ae (.bin .add .num true (.c
  (.int .i64 128)) (.c d))) (fun d=>Aa (Ae (.conv .u8 (.c d))) (fun d=>Aa (Ae (.bin .rem .num true (.c x0) (.c (.int .i64 64)))) (fun f=>Aa (Ae
  (.bin .add .num true (.c (.int .i64 128)) (.c f))) (fun f=>Aa (Ae (.conv .u8 (.c f))) (fun f=>AC (Ep 1 [a,b,d,f]) (AC (Dd (BR 0 (AT [a,
  b,d,f])) (AT [a,b,d,f])) (Aa (Ae (.ofBytes (.c (.sl 1 (B9 (AT [a,b,d,f]) (Et 0 [a,b,d,f])) false)))) (fun a=>some (a,
  e)))))))))))))))))))))))):=by kernel_rfl
theorem run35 (B:KB) (h:AF E) (dep:Nat) (e:E) (x0:PV) :
  BV (BJ B fun _=>.cl) fn35 (.cl) h dep [.cv x0] e =
  AC (Fy x0) (Aa (AN x0 1 1 false) (fun a=>AH a (Aa (AN x0 2 1 false) (fun a=>Aa (AJ B .cl (.fn 61 []) [a,.fn 59 []]) (fun a=>AH a (some (.bool
  false,e)) (Aa (AN x0 0 1 false) (fun a=>AH a (Aa (AN x0 2 1 false) (fun a=>Aa (Ae (.len .slice (.c a))) (fun a=>Aa (Ae (.bin .leq .num true (.c
  a) (.c (.int .i64 200)))) fun a=>some (a,e)))) (Aa (AN x0 2 1 false) (fun a=>Aa (Ae (.len .slice (.c a))) (fun a=>Aa (Ae (.bin .eql .num true (.c
  a) (.c (.int .i64 1)))) fun a=>some (a,e))))))))) (Aa (AN x0 0 1 false) (fun a=>AH a (Aa (AN x0 2 1 false) (fun a=>Aa (Ae (.len .slice (.c
  a))) fun a=>Aa (Ae (.bin .leq .num true (.c a) (.c (.int .i64 200)))) fun a=>some (a,e))) (Aa (AN x0 2 1 false) (fun a=>Aa (Ae (.len .slice
  (.c a))) fun a=>Aa (Ae (.bin .eql .num true (.c a) (.c (.int .i64 1)))) fun a=>some (a,e))))))):=by kernel_rfl
noncomputable def NR (B:KB):lS×E->Option (Sum (lS×E) (PV×E)):=(fun y0=>Aa (Ae (.bin .lss .num false (.c (Af y0.1 2)) (.c (Af y0.1 1)))) fun y1=>AH y1 (Aa (Ae (.mw 1 (.c (Af y0.1 0)) (.c (Af y0.1 2)))) fun y2=>Aa (Ae (.load 1 false (.c y2))) fun y3=>Aa (AN (Af y0.1 3) 1 1 false) fun y4=>AH y4 (Aa (Ae (.conv .i32 (.c y3))) fun y5=>Aa (Ae (.oe (.c y5))) fun y6=>Aa (AJ B .cl (.fn 62 []) [y6,.str [39],.str [39,39]]) fun y7=>Aa (Cs B (.mk [.ref (0,0) 0,.cv (.bool false)] [.cells 40 [.ref (0,0) 0,.arr (0,1) 1 0 0],.arr 1 5 []] (.mn [.cv (.bool false),.cv (.bool false)]) [.cells 40 [.ref (0,0) 0,.arr (0,1) 1 0 0],.arr 1 5 []] [] [1]) 13 [y7,nI (Bj (Af y0.1 4)),.sl 1 (Bl (Af y0.1 5)) false]) fun y8=>Aa (Ae (.bin .add .num true (.c (Af y0.1 2)) (.c (.int .i64 1)))) fun y9=>some (.inl ([Af y0.1 0,Af y0.1 1,y9,Af y0.1 3,nI (Bj (Af y8 2)),.sl 1 (Bl (Af y8 3)) false],y0.2))) (Aa (Ae (.bin .gtr .num true (.c (Af y0.1 2)) (.c (.int .i64 0)))) fun xj=>AH xj (Aa (AJ B .cl (.fn 63 []) [y3]) fun y11=>Aa (Ae (.bin .add .str true (.c (.str [32])) (.c y11))) fun yJ=>Aa (Cs B (.mk [.ref (0,0) 0,.cv (.bool false)] [.cells 40 [.ref (0,0) 0,.arr (0,1) 1 0 0],.arr 1 5 []] (.mn [.cv (.bool false),.cv (.bool false)]) [.cells 40 [.ref (0,0) 0,.arr (0,1) 1 0 0],.arr 1 5 []] [] [1]) 13 [yJ,nI (Bj (Af y0.1 4)),.sl 1 (Bl (Af y0.1 5)) false]) fun xk=>Aa (Ae (.bin .add .num true (.c (Af y0.1 2)) (.c (.int .i64 1)))) fun y14=>some (.inl ([Af y0.1 0,Af y0.1 1,y14,Af y0.1 3,nI (Bj (Af xk 2)),.sl 1 (Bl (Af xk 3)) false],y0.2))) (Aa (AJ B .cl (.fn 63 []) [y3]) fun sK=>Aa (Cs B (.mk [.ref (0,0) 0,.cv (.bool false)] [.cells 40 [.ref (0,0) 0,.arr (0,1) 1 0 0],.arr 1 5 []] (.mn [.cv (.bool false),.cv (.bool false)]) [.cells 40 [.ref (0,0) 0,.arr (0,1) 1 0 0],.arr 1 5 []] [] [1]) 13 [sK,nI (Bj (Af y0.1 4)),.sl 1 (Bl (Af y0.1 5)) false]) fun yK=>Aa (Ae (.bin .add .num true (.c (Af y0.1 2)) (.c (.int .i64 1)))) fun y17=>some (.inl ([Af y0.1 0,Af y0.1 1,y17,Af y0.1 3,nI (Bj (Af yK 2)),.sl 1 (Bl (Af yK 3)) false],y0.2))))) (Aa (AC (Mc (Bj (Af y0.1 4)) (Bl (Af y0.1 5))) (some (IG (B9 (Bj (Af y0.1 4)) (Bl (Af y0.1 5))),y0.2))) fun y18=>some (.inr y18)))
theorem run36 (B:KB) (h:AF E) (dep:Nat) (e:E) (x0:PV):BV (BJ B fun _=>.cl) fn36 (.cl) h dep [.cv x0] e=AC (Fy x0) (Aa (AN x0 2 1 false) fun a=>Aa (Ae (.len .slice (.c a))) fun b=>Aa (Ae (.bin .lss .num false (.c (.int .i64 0)) (.c b))) fun d=>AH d (Aa (Ae (.mw 1 (.c a) (.c (.int .i64 0)))) fun d=>Aa (Ae (.load 1 false (.c d))) fun d=>Aa (AN x0 1 1 false) fun f=>AH f (Aa (Ae (.conv .i32 (.c d))) fun d=>Aa (Ae (.oe (.c d))) fun d=>Aa (AJ B .cl (.fn 62 []) [d,.str [39],.str [39,39]]) fun d=>Aa (Cs B (.mk [.ref (0,0) 0,.cv (.bool false)] [.cells 40 [.cv (.bool false),.cv (.bool false)]] (.mn [.cv (.bool false),.cv (.bool false)]) [.cells 40 [.ref (0,0) 0,.arr (1,0) 1 0 0]] [.arr 1 5 []] []) 13 [d,.mJ,.mu]) fun d=>Aa (Ae (.bin .add .num true (.c (.int .i64 0)) (.c (.int .i64 1)))) fun f=>AC (BF [a,b,f]) (Bz (NR B) ([a,b,f,x0,nI (Bj (Af d 2)),.sl 1 (Bl (Af d 3)) false],e))) (Aa (Ae (.bin .gtr .num true (.c (.int .i64 0)) (.c (.int .i64 0)))) fun f=>AH f (Aa (AJ B .cl (.fn 63 []) [d]) fun d=>Aa (Ae (.bin .add .str true (.c (.str [32])) (.c d))) fun d=>Aa (Cs B (.mk [.ref (0,0) 0,.cv (.bool false)] [.cells 40 [.cv (.bool false),.cv (.bool false)]] (.mn [.cv (.bool false),.cv (.bool false)]) [.cells 40 [.ref (0,0) 0,.arr (1,0) 1 0 0]] [.arr 1 5 []] []) 13 [d,.mJ,.mu]) fun d=>Aa (Ae (.bin .add .num true (.c (.int .i64 0)) (.c (.int .i64 1)))) fun f=>AC (BF [a,b,f]) (Bz (NR B) ([a,b,f,x0,nI (Bj (Af d 2)),.sl 1 (Bl (Af d 3)) false],e))) (Aa (AJ B .cl (.fn 63 []) [d]) fun d=>Aa (Cs B (.mk [.ref (0,0) 0,.cv (.bool false)] [.cells 40 [.cv (.bool false),.cv (.bool false)]] (.mn [.cv (.bool false),.cv (.bool false)]) [.cells 40 [.ref (0,0) 0,.arr (1,0) 1 0 0]] [.arr 1 5 []] []) 13 [d,.mJ,.mu]) fun d=>Aa (Ae (.bin .add .num true (.c (.int .i64 0)) (.c (.int .i64 1)))) fun f=>AC (BF [a,b,f]) (Bz (NR B) ([a,b,f,x0,nI (Bj (Af d 2)),.sl 1 (Bl (Af d 3)) false],e))))) (some (.str [],e))):=by kernel_rfl
theorem run37 (B:KB) (h:AF E) (dep:Nat) (e:E) (x0:PV) (x1:PV) :
  BV (BJ B fun _=>.cl) fn37 (.cl) h dep [.cv x0,.cv x1] e =
  Aa (Ae (.len .slice (.c x0))) (fun a=>Aa (Ae (.len .slice (.c x1))) (fun b=>Aa (Ae (.bin .neq .num false (.c a) (.c b))) (fun a=>AH a (some (.bool
  false,e)) (Aa (Ae (.len .slice (.c x0))) (fun a=>AC (BF [x0,x1,a,.int .i64 0]) (Bz (fun a=>Aa (Ae (.bin .lss .num false (.c (Af a.1 3)) (.c (Af
  a.1 2)))) (fun b=>AH b (Aa (Ae (.mw 1 (.c (Af a.1 0)) (.c (Af a.1 3)))) (fun b=>Aa (Ae (.load 1 false (.c b))) (fun b=>Aa (Ae (.mw 1
  (.c (Af a.1 1)) (.c (Af a.1 3)))) (fun d=>Aa (Ae (.load 1 false (.c d))) (fun d=>Aa (Ae (.bin .neq .num false (.c b) (.c d))) (fun b=>AH b (Aa
  (some (.bool false,a.2)) fun a=>some (.inr a)) (Aa (Ae (.bin .add .num true (.c (Af a.1 3)) (.c (.int .i64 1)))) (fun b=>some (.inl ([Af a.1 0,Af a.1 1,
  Af a.1 2,b],a.2)))))))))) (Aa (some (.bool true,a.2)) fun a=>some (.inr a)))) ([x0,x1,a,.int .i64 0],e))))))):=by kernel_rfl
theorem run38 (B:KB) (h:AF E) (dep:Nat) (e:E) (x0:PV) (x1:PV) :
  BV (BJ B fun _=>.cl) fn38 (.cl) h dep [.cv x0,.cv x1] e =
  Aa (Ae (.len .slice (.c x0))) (fun a=>Aa (Ae (.len .slice (.c x1))) (fun b=>Aa (Ae (.bin .neq .num false (.c a) (.c b))) (fun a=>AH a (some (.bool
  false,e)) (AC (BF [x0,x1,.int .i64 0]) (Bz (fun a=>Aa (Ae (.len .slice (.c (Af a.1 0)))) (fun b=>Aa (Ae (.bin .lss .num false (.c (Af a.1 2)) (.c
  b))) (fun b=>AH b (Aa (Ae (.mw 1 (.c (Af a.1 0)) (.c (Af a.1 2)))) (fun b=>Aa (Ae (.load 1 false (.c b))) (fun b=>Aa (Ae (.mw 1 (.c
  (Af a.1 1)) (.c (Af a.1 2)))) (fun d=>Aa (Ae (.load 1 false (.c d))) (fun d=>Aa (Ae (.bin .neq .num false (.c b) (.c d))) (fun b=>AH b (Aa
  (some (.bool false,a.2)) fun a=>some (.inr a)) (Aa (Ae (.bin .add .num true (.c (Af a.1 2)) (.c (.int .i64 1)))) (fun b=>some (.inl ([Af a.1 0,Af a.1 1,
  b],a.2)))))))))) (Aa (some (.bool true,a.2)) fun a=>some (.inr a))))) ([x0,x1,.int .i64 0],e)))))):=by kernel_rfl
theorem run51 (B:KB) (h:AF E) (dep:Nat) (e:E) (x0:PV) :
  BV (BJ B fun _=>.cl) fn51 (.cl) h dep [.cv x0] e =
  Aa (Aa (Ae (.bin .geq .num true (.c x0) (.c (.int .i64 0)))) (fun a=>AH a (Aa (Ae (.bin .leq .num true (.c x0) (.c (.int .i64 1114111)))) (fun a=>AH a
  (Aa (Ae (.bin .lss .num true (.c x0) (.c (.int .i64 55296)))) (fun a=>AH a (some (.bool true)) (Aa (Ae (.bin .gtr .num true (.c x0) (.c (.int .i64 57343)))) (fun
  z4=>some z4)))) (some (.bool false)))) (some (.bool false)))) (fun a=>some (a,e)):=by kernel_rfl
theorem run59 (B:KB) (h:AF E) (dep:Nat) (e:E) (x0:PV) :
  BV (BJ B fun _=>.cl) fn59 (.cl) h dep [.cv x0] e =
  Aa (AJ B .cl (.fn 60 []) [x0]) (fun a=>Aa (Ae (.un .not (.c a))) fun a=>some (a,e)):=by kernel_rfl
theorem run60 (B:KB) (h:AF E) (dep:Nat) (e:E) (x0:PV) :
  BV (BJ B fun _=>.cl) fn60 (.cl) h dep [.cv x0] e =
  Aa (Aa (Ae (.bin .geq .num true (.c x0) (.c (.int .i64 0)))) (fun a=>AH a (Aa (Ae (.bin .leq .num true (.c x0) (.c (.int .i64 1114111)))) (fun a=>AH a
  (Aa (Ae (.bin .lss .num true (.c x0) (.c (.int .i64 55296)))) (fun a=>AH a (some (.bool true)) (Aa (Ae (.bin .gtr .num true (.c x0) (.c (.int .i64 57343)))) (fun
  z4=>some z4)))) (some (.bool false)))) (some (.bool false)))) (fun a=>some (a,e)):=by kernel_rfl
theorem run61 (B:KB) (h:AF E) (dep:Nat) (e:E) (x0:PV) (x1:PV) :
  BV (BJ B fun _=>.cl) fn61 (.cl) h dep [.cv x0,.cv x1] e =
  Aa (AJ B .cl (.fn 90 []) [x0,x1]) (fun a=>Aa (Ae (.bin .geq .num true (.c a) (.c (.int .i64 0)))) fun a=>some (a,e)):=by kernel_rfl
theorem run62 (B:KB) (h:AF E) (dep:Nat) (e:E) (x0:PV) (x1:PV) (x2:PV) :
  BV (BJ B fun _=>.cl) fn62 (.cl) h dep [.cv x0,.cv x1,.cv x2] e =
  Aa (AJ B .cl (.fn 14 []) [x0,x1,x2,.int .i64 (-1)]) (fun a=>some (a,e)):=by kernel_rfl
theorem run63 (B:KB) (h:AF E) (dep:Nat) (e:E) (x0:PV) :
  BV (BJ B fun _=>.cl) fn63 (.cl) h dep [.cv x0] e =
  Aa (AJ B .cl (.fn 91 []) [x0,.int .i64 10]) (fun a=>Aa (AJ B .cl (.fn 14 []) [a,.str [45],.str [194,175],.int .i64 1]) fun a=>some (a,e)):=by kernel_rfl
theorem run90 (B:KB) (h:AF E) (dep:Nat) (e:E) (x0:PV) (x1:PV) :
  BV (BJ B fun _=>.cl) fn90 (.cl) h dep [.cv x0,.cv x1] e =
  Aa (Ae (.len .slice (.c x0))) (fun a=>AC (BF [x0,x1,a,.int .i64 0]) (Bz (fun a=>Aa (Ae (.bin .lss .num false (.c (Af a.1 3)) (.c (Af a.1 2))))
  (fun b=>AH b (Aa (Ae (.mw 1 (.c (Af a.1 0)) (.c (Af a.1 3)))) (fun b=>Aa (Ae (.load 1 false (.c b))) (fun b=>Aa (AJ B .cl (Af a.1 1) [b])
  (fun b=>AH b (Aa (some (Af a.1 3,a.2)) fun a=>some (.inr a)) (Aa (Ae (.bin .add .num true (.c (Af a.1 3)) (.c (.int .i64 1)))) (fun b=>some (.inl
  ([Af a.1 0,Af a.1 1,Af a.1 2,b],a.2)))))))) (Aa (some (.int .i64 (-1),a.2)) fun a=>some (.inr a)))) ([x0,x1,a,.int .i64 0],e))):=by kernel_rfl
theorem run13_0 (B:KB) (x0:PV) (x1:PV) (x2:PV) :
  NK (BJ B fun _=>.cl) MN Sl [x0,x1,x2] =
  Aa (N3 1 x0) (fun a=>AC (J8 (Dd (Bj x1) (AT (Bl x2))) (Dd (BR (Bj x1) (AT a)) 2147483648)) (Aa (Ae (.len .str (.c x0))) (fun b=>some [b,
  .mB,nI (BR (Bj x1) (AT a)),.sl 1 (J7 (B9 (Bj x1) (Bl x2)) a) false]))):=by kernel_rfl
theorem run13_1 (B:KB) (x0:PV) (x1:PV) (x2:PV) :
  NK (BJ B fun _=>.cl) MN Sk [x0,x1,x2] =
  AC (PA x1) (Aa (N3 1 x0) fun a=>Aa (wo 1 x2 a) fun a=>Aa (Ae (.len .str (.c x0))) fun b=>some [b,.mB,nI (AT a),.sl 1 a false]):=by kernel_rfl
theorem run17_0 (B:KB) (x0:PV) (x1:PV) (x2:PV) :
  NK (BJ B fun _=>.cl) MM Sj [x0,x1,x2] =
  AC (Ep 1 [x0]) (AC (Dd (BR 0 (AT [x0])) (AT [x0])) (AC (J8 (Dd (Bj x1) (AT (Bl x2))) (Dd (BR (Bj x1) (AT (B9 (AT [x0]) (Et 0 [x0]))))
  2147483648)) (some [.mB,nI (BR (Bj x1) (AT (B9 (AT [x0]) (Et 0 [x0])))),.sl 1 (J7 (B9 (Bj x1) (Bl x2)) (B9 (AT [x0]) (Et 0 [x0]))) false]))):=by kernel_rfl
theorem run17_1 (B:KB) (x0:PV) (x1:PV) (x2:PV) :
  NK (BJ B fun _=>.cl) MM Si [x0,x1,x2] =
  AC (PA x1) (AC (Ep 1 [x0]) (AC (Dd (BR 0 (AT [x0])) (AT [x0])) (Aa (wo 1 x2 (B9 (AT [x0]) (Et 0 [x0]))) (fun a=>some [.mB,nI (AT a),.sl
  1 a false])))):=by kernel_rfl
end Go.Ab


namespace Go.Ab
open Go
variable{α:Type} {L:l7} {gm:Nat} {lp:Nat->lT} {ps:List (Nat×Nat)} {w:lJ} {ws:lU} {a:Array α}
def xn (sub:l4):l4->Nat->Int
 | [],i=>if sub.isEmpty then (i:Int) else -1
 | b :: l,i=>if sub.isPrefixOf (b :: l) then (i:Int) else xn sub l (i+1)
theorem bp (sub:l4):∀ (l:l4) (i:Nat),xn sub l i=if Lib.index l sub = -1 then -1 else Lib.index l sub+i
 | [],i=>by
  unfold xn Lib.index;by_cases h:sub.isEmpty=true<;>simp[h]
 | b :: l,i=>by
  have ih:=bp sub l (i+1);have qx:=Lib.index_ge l sub;unfold xn Lib.index;by_cases h:sub.isPrefixOf (b :: l)=true;{simp[h]}
  ·rw[lr h,lr h,ih];by_cases U:Lib.index l sub = -1;{simp[U]}
   ·have H:(Lib.index l sub == -1)=false:=by simpa using U
    simp only[H,iq,lm,lr U];rw[lr (by omega)];omega
def Vi:lS->l5
 | [.str s,.str sub]=>if s.length<=65536 then some {v:=.int .i64 (xn sub s 0)} else none
 | _=>none
def UL:lS->l5
 | [.str s,.str [c]]=>some {v:=.int .i64 (countB c s:Nat)}
 | [.str s,.str (a :: b :: r)]=>if s.length<=65536 then some {v:=.int .i64 (Lib.count s (a :: b :: r):Nat)} else none
 | _=>none
def Qc (ps:List (Nat×Nat)) (σ:Nm->lV):lS->l5
 | [.mB,_]=>some {v:=.bool false}
 | [.iface t x,.iface p (.ref J o)]=>match σ J with
  | some (.cells ty cs)=>if ps.lookup p=some t/\o=0/\cs.length=2/\FH x 2=true then some {v:=.bool true,nf:=some (J,.cells ty x.cells)} else none
  | _=>none
 | _=>none
def zcl (gs:lU) (T:Nat) (ws:lU):lS->l5
 | [.iface s (.agg [x,.mY g t]),.mY g' t']=>if s∈ws/\g∈gs/\g'∈gs/\t=T/\t'=T then some {v:=.bool (g==g')} else none
 | [.iface s (.agg [x,.mB]),.mY g t]=>if s∈ws/\g∈gs/\t=T then some {v:=.bool false} else none
 | A=>zbz gs T [] A
theorem zcm (ps:List (Nat×Nat)):IH (Qc ps):=by intro σ σ' A h;unfold Qc;split;{rfl};{rename_i t x p J o;rw[h J (DI _ _ J (by simp[Ar,PV.names]))]};{rfl}
structure As2OK (P:lO) (g:lL) (ge:Nat) (et:lK) (ps:List (Nat×Nat)):Prop where
 enters:Bw P g
 none:∀ (v:lK) (w:lJ),Calls P g #[.nilIface,v] w fun e w'=>e=.returned (.bool false)/\w'=w
 hit:∀ p t,ps.lookup p=some t->∀ (v n1 n2:lK),v.cells=#[n1,n2]->n1.oneCell'=true->n2.oneCell'=true->∀ (b:Nat) (o1 o2:lK) (E:lP) (w:lJ),
  w.cell? ⟨ge,0,Option.none⟩=some et->w.heap[b]?=some (.cells #[o1,o2] E (0,0)) ->
  Calls P g #[.iface t v,.iface p (.pointer (some ⟨b,0,Option.none⟩))] w fun e w'=>e=.returned (.bool true) /\
   ∃ q1 q2 q3 q4,w'=(((((w.alloc q1).alloc q2).alloc q3).alloc q4).setCell ⟨b,0,Option.none⟩ n1).setCell ⟨b,1,Option.none⟩ n2
structure IsWOK (P:lO) (g:lL) (T:Nat) (ws:lU):Prop where
 plain:IsOK P g T []
 same:∀ s∈ws,∀ (n:lK) (a:Addr) (w:lJ),Calls P g #[.iface s (.agg #[n,.iface T (.pointer (some a))]),.iface T (.pointer (some a))] w fun e w'=>e=.returned (.bool true)/\nR w w'
 other:∀ s∈ws,∀ (n:lK) (a b:Addr) (ca cb:Array lK) (ta tb:lP) (w:lJ),a≠b->w.heap[a.block]?=some (.cells ca ta (0,0))->w.heap[b.block]?=some (.cells cb tb (0,0)) ->
  Calls P g #[.iface s (.agg #[n,.iface T (.pointer (some a))]),.iface T (.pointer (some b))] w fun e w'=>e=.returned (.bool false)/\nR w w'
 none:∀ s∈ws,∀ (n:lK) (b:Addr) (w:lJ),Calls P g #[.iface s (.agg #[n,.nilIface]),.iface T (.pointer (some b))] w fun e w'=>e=.returned (.bool false)/\nR w w'
theorem ax (h:a.size=2):∃ x y,a=#[x,y]:=by
 obtain⟨l⟩:=a
 match l,h with
 | [x,y],_=>exact⟨x,y,rfl⟩
theorem zcn {I:Nat->Prop} {x y z:PV} {A:List lK} (h:Ai w I lp L [x,y,z] A):∃ a b c,A=[a,b,c]/\Am w I lp L x a/\Am w I lp L y b/\Am w I lp L z c:=by
 cases h with
 | cons _ a _ _ U h =>
  cases h with
  | cons _ b _ _ H h =>
   cases h with
   | cons _ c _ _ h3 h =>
    cases h;exact⟨a,b,c,rfl,U,H,h3⟩
section at_
variable {cx:Cx} {g:lL} {V:St} {A:lS} {out:Al}
end at_
section at2
variable {P:lO} {mx:P.follows .mixedOrders=true} {gs:lU} {T:Nat} {et:List (Nat×lK)} {pP:List (Nat×Array lK)} {ns:lU} {g:lL} {V:St} {A:lS} {out:Al}
theorem xp (hg:gm∈ns) (he:Bw P g)
  (hc:∀ (s sub:ByteArray) (m:Int) (w:lJ),s.size < 4294967281->w.cell? ⟨gm,0,none⟩=some (.int .i64 m)->Calls P g #[.string s,.string sub] w fun e w'=>e=.returned (.int .i64 (Lib.index s.data.toList sub.data.toList))/\w'=w)
  (h:Vi A=some out):FB (Jg P mx gs T et pP ns) g V A out:=by
 refine⟨he,?_⟩;unfold Vi at h;split at h;{rename_i s sub;split at h;{rename_i hl;cases h;intro E w0 I0 F0 O0 Hd R e ds I F lp L mN ml us w dst hs hf hu hd;obtain⟨u,v,rfl,U,H⟩:=DA hu;rw[Cu U,Cu H];rw[show xn sub s 0=Lib.index s sub by rw[bp];split<;>simp_all];obtain⟨_,m,hm⟩:=hf.wd.num _ hg;refine callsIn_wide.2 ((hc ⟨s.toArray⟩ ⟨sub.toArray⟩ m w (by show s.toArray.size < _;simp;omega) hm).mono ?_);rintro ev w' ⟨rfl,rfl⟩;exact Dw hs hf (na _) (.int _ _)};{cases h}};{cases h}
theorem xq (hg:gm∈ns) (he:Bw P g) (h1c:∀ (s:ByteArray) (c:UInt8) (w:lJ),Calls P g #[.string s,.string ⟨#[c]⟩] w fun e w'=>e=.returned (.int .i64 (Lib.countByte s.data.toList c))/\w'=w)
  (hc:∀ (s sub:ByteArray) (m:Int) (w:lJ),s.size < 4294967281->w.cell? ⟨gm,0,none⟩=some (.int .i64 m)->2<=sub.size->Calls P g #[.string s,.string sub] w fun e w'=>e=.returned (.int .i64 (Lib.countB s sub))/\w'=w)
  (h:UL A=some out):FB (Jg P mx gs T et pP ns) g V A out:=by
 unfold UL at h;split at h;{exact zbA he h1c h};{rename_i s a b r;refine⟨he,?_⟩;split at h;{rename_i hl;cases h;intro E w0 I0 F0 O0 Hd R e ds I F lp L mN ml us w dst hs hf hu hd;obtain⟨u,v,rfl,U,H⟩:=DA hu;rw[Cu U,Cu H];obtain⟨_,m,hm⟩:=hf.wd.num _ hg;refine callsIn_wide.2 ((hc ⟨s.toArray⟩ ⟨(a :: b :: r).toArray⟩ m w (by show s.toArray.size < _;simp;omega) hm (by show 2<=(a :: b :: r).toArray.size;simp)).mono ?_);rintro ev w' ⟨rfl,rfl⟩;exact Dw hs hf (na _) (.int _ _)};{cases h}};{cases h}
theorem as2_at {ge:Nat} {ev:lK} (qx:(ge,ev)∈et) (hA:As2OK P g ge ev ps) (h:Qc ps (Ac V.mi) A=some out):FB (Jg P mx gs T et pP ns) g V A out:=by
 refine⟨hA.enters,?_⟩;unfold Qc at h;split at h;{cases h;intro E w0 I0 F0 O0 Hd R e ds I F lp L mN ml us w dst hs hf hu hd;obtain⟨u,v,rfl,U,H⟩:=DA hu;rw[Is U];refine callsIn_wide.2 ((hA.none v w).mono ?_);rintro ev w' ⟨rfl,hw⟩;rw[hw];exact Dw hs hf (na _) (.bool false)}
 ·split at h
  ·rename_i t x p J o _ ty cs nq;split at h
   ·rename_i hp;obtain⟨hpt,rfl,uo,sd⟩:=hp;cases h;intro E w0 I0 F0 O0 Hd R e ds I F lp L mN ml us w dst hs hf hu hd;obtain⟨u,v,rfl,U,H⟩:=DA hu;obtain⟨u',rfl,O⟩:=Kj U;obtain⟨v',rfl,hr⟩:=Kj H;obtain⟨b,C,hL,rfl⟩:=FJ hr;obtain⟨q,hq,oI⟩:=hs.ob J _ nq;rw[hL] at hq;cases hq;obtain⟨c,E',hb,hC,nk,oJ⟩:=oI;unfold FH at sd;simp only[ie,ly] at sd;obtain⟨sD,oU⟩:=O.cells sd.1;have len1:u'.cells.size=2:=by have:=oU.length;simpa[sd.2] using this.symm
    have lenc:c.size=2:=by have:=oJ.length;simpa[uo] using this.symm
    obtain⟨n1,n2,hn⟩:=ax len1;obtain⟨o1,o2,rfl⟩:=ax lenc;have m1:n1.oneCell'=true:=sD n1 (by simp[hn]);have m2:n2.oneCell'=true:=sD n2 (by simp[hn]);have qX:b < w.heap.size:=(hf.lB J b C hL).2.1;refine callsIn_wide.2 ((hA.hit p t hpt u' n1 n2 hn m1 m2 b o1 o2 E' w (hf.wd.et0 _ qx).2 hb).mono ?_);rintro ev w' ⟨rfl,q1,q2,q3,q4,hw'⟩;have qB:∀ k,k < w.heap.size->k≠b->w'.heap[k]?=w.heap[k]?:=fun k hk yy=>by subst hw';rw[Go.RowKit.Below.heap_setCell _ _ _ _ yy,Go.RowKit.Below.heap_setCell _ _ _ _ yy,mv _ _ (by simp;omega),mv _ _ (by simp;omega),mv _ _ (by simp;omega),mv _ _ hk]
    have pG:w'.heap[b]?=some (.cells #[n1,n2] E' (0,0)):=by
     subst hw';have key:((((w.alloc q1).alloc q2).alloc q3).alloc q4).heap[b]?=some (.cells #[o1,o2] E' (0,0)):=by rw[mv _ _ (by simp;omega),mv _ _ (by simp;omega),mv _ _ (by simp;omega),mv _ _ qX];exact hb
     have k1:=n9 (o:=0) (n:=n1) key;have k2:=n9 (o:=1) (n:=n2) k1;simpa using k2
    have hI:∀ k,I k->w'.heap[k]?=w.heap[k]?:=fun k hk=>qB k (hf.sep.iB k hk) fun e=>(hf.lB J b C hL).2.2.1 (e ▸ hk);refine RT hs hf hL (by subst hw';rfl) (by subst hw';rfl) (by subst hw';rfl) (by subst hw';simp only[QE];simp;omega) qB ?_ (.bool true);exact⟨#[n1,n2],E',pG,hC,⟨fun v hv=>by simp at hv;rcases hv with rfl | rfl<;>assumption,nk.2⟩,Ai.mono (fun _ h=>h) hI (fun _ _ h=>h) (by rw[hn] at oU;exact oU)⟩
   {cases h}
  {cases h}
 {cases h}
theorem isw_at (hA:IsWOK P g T ws) (h:zcl gs T ws A=some out):FB (Jg P mx gs T et pP ns) g V A out:=by unfold zcl at h;split at h;{rename_i s x g1 t g2 t';refine⟨hA.plain.enters,?_⟩;split at h;{rename_i hp;obtain⟨pI,hg1,hg2,rfl,rfl⟩:=hp;cases h;intro E w0 I0 F0 O0 Hd R e ds I F lp L mN ml us w dst hs hf hu hd;obtain⟨u,v,rfl,U,H⟩:=DA hu;obtain⟨u',rfl,O⟩:=Kj U;obtain⟨qb,rfl,_,tw⟩:=Ny O;obtain⟨n,v2,hl,_,hgv⟩:=DA tw;obtain rfl:qb=#[n,v2]:=NF hl;obtain⟨ad,e1,e2⟩:=hf.wd.err;obtain⟨y1,c,E',fr,rfl,q1,q2⟩:=LT hgv;obtain⟨y2,c',E'',fr',rfl,q1',q2'⟩:=LT H;obtain⟨_,_,⟨_,_,a3⟩,ca,ta,a4⟩:=e1 _ hg1;obtain⟨_,_,⟨_,_,b3⟩,cb,tb,b4⟩:=e1 _ hg2;rw[a3] at q1;cases q1;cases q2;rw[b3] at q1';cases q1';cases q2';by_cases xf:g1=g2;{subst xf;refine callsIn_wide.2 ((hA.same s pI n _ w).mono ?_);rintro ev w' ⟨rfl,hw⟩;rw[lF];exact Dw hs hf hw (.bool true)};{refine callsIn_wide.2 ((hA.other s pI n _ _ ca cb ta tb w (e2 _ hg1 _ hg2 xf) a4 b4).mono ?_);rintro ev w' ⟨rfl,hw⟩;rw[beq_eq_false_iff_ne.2 xf];exact Dw hs hf hw (.bool false)}};{cases h}};{rename_i s x g1 t;refine⟨hA.plain.enters,?_⟩;split at h;{rename_i hp;obtain⟨pI,hg1,rfl⟩:=hp;cases h;intro E w0 I0 F0 O0 Hd R e ds I F lp L mN ml us w dst hs hf hu hd;obtain⟨u,v,rfl,U,H⟩:=DA hu;obtain⟨u',rfl,O⟩:=Kj U;obtain⟨qb,rfl,_,tw⟩:=Ny O;obtain⟨n,v2,hl,_,hgv⟩:=DA tw;obtain rfl:qb=#[n,v2]:=NF hl;rw[Is hgv];obtain⟨ad,e1,e2⟩:=hf.wd.err;obtain⟨y1,c,E',fr,rfl,q1,q2⟩:=LT H;obtain⟨_,_,⟨_,_,a3⟩,ca,ta,a4⟩:=e1 _ hg1;rw[a3] at q1;cases q1;cases q2;refine callsIn_wide.2 ((hA.none s pI n _ w).mono ?_);rintro ev w' ⟨rfl,hw⟩;exact Dw hs hf hw (.bool false)};{cases h}};{exact is_at hA.plain h}
end at2
end Go.Ab


namespace Go.Ab
open Go
def zco (T:Nat):lS->l5
 | [.str [],.int .i64 10,.int .i64 64]=>some {v:=.mn [.int .i64 0,.iface T .undef]}
 | [.str s,.int .i64 10,.int .i64 64]=>if s.length<=65536 then match Lib.parseIntB 64 s with
  | .ok v=>some {v:=.mn [.int .i64 v,.mB]}
  | _=>none else none
 | _=>none
variable {P:lO} {mx:P.follows .mixedOrders=true} {gs:lU} {T:Nat} {et:List (Nat×lK)} {pP:List (Nat×Array lK)} {ns:lU} {g:lL} {V:St} {A:lS} {out:Al}
theorem int_at {ge N:Nat} (qx:ge∈gs) (he:Bw P g)
  (h0:∀ (te:lP) (pe:lK) (w:lJ),w.cell? ⟨ge,0,none⟩=some (.iface te pe)->Calls P g #[.string ⟨#[]⟩,.int .i64 10,.int .i64 64] w fun e w'=>(∃ v,e=.returned (.tuple #[.int .i64 0,.iface N v]))/\nR w w')
  (hc:∀ (s:ByteArray) (v:Int) (w:lJ),s.size<=65536->Lib.parseIntB 64 s.data.toList=.ok v->Calls P g #[.string s,.int .i64 10,.int .i64 64] w fun e w'=>e=.returned (.tuple #[.int .i64 v,.nilIface])/\nR w w')
  (h:zco N A=some out):FB (Jg P mx gs T et pP ns) g V A out:=by
 refine⟨he,?_⟩;unfold zco at h;split at h;{cases h;intro E w0 I0 F0 O0 Hd R e ds I F lp L mN ml us w dst hs hf hu hd;obtain⟨u1,u2,u3,rfl,U,H,h3⟩:=zcn hu;rw[Cu U,CD H,CD h3];obtain⟨ad,e1,e2⟩:=hf.wd.err;obtain⟨_,_,⟨E',f,a3⟩,_⟩:=e1 _ qx;refine callsIn_wide.2 ((h0 T (.pointer (some (ad ge))) w (by simp[World.cell?,a3])).mono ?_);rintro ev w' ⟨⟨v,rfl⟩,hw⟩;exact Dw hs hf hw (.mn _ _ (.cons _ _ _ _ (.int _ _) (.cons _ _ _ _ (.iface _ _ _ (.undef _)) .nil)))};{rename_i s _;split at h;{rename_i hl;split at h;{rename_i v hv;cases h;intro E w0 I0 F0 O0 Hd R e ds I F lp L mN ml us w dst hs hf hu hd;obtain⟨u1,u2,u3,rfl,U,H,h3⟩:=zcn hu;rw[Cu U,CD H,CD h3];refine callsIn_wide.2 ((hc ⟨s.toArray⟩ v w (by show s.toArray.size<=_;simpa using hl) (by simpa using hv)).mono ?_);rintro ev w' ⟨rfl,hw⟩;exact Dw hs hf hw (.mn _ _ (.cons _ _ _ _ (.int _ _) (.cons _ _ _ _ .mB .nil)))};{cases h}};{cases h}};{cases h}
end Go.Ab


namespace Go.Ab.mm
open Go Go.Ab
def ps0:List (Nat×Nat):=[(205,203)]
def BB (g:lL) (σ:Nm->lV) (A:lS):l5 :=
 if g=82 then zbB A
 else if g=14 then PH A
 else if g=91 then Qb A
 else if g=15 then PJ A
 else if g=29 then Kv 40 σ A
 else if g=18 then JN 40 5 σ A
 else if g=92 then zcl [0,4,5,7,11,12,13,14,15,16] 526 [203] A
 else if g=30 then UL A
 else if g=56 then Vi A
 else if g=222 then zco 485 A
 else if g=116 then Qc ps0 σ A
 else if g=377 then NJ .u32 σ A
 else if g=383 then Ns .u32 σ A
 else if g=381 then NI .i32 0 1 σ A
 else if g=382 then NI .i32 1 0 σ A
 else if g=131 then Qd .i64 σ A
 else if g=79 then NJ .i64 σ A
 else if g=71 then Ns .i64 σ A
 else if g=262 then PI σ A
 else if g=50 then Ry A
 else if g=45 then Ry A
 else none
noncomputable def B0:KB:={sp:=BB,L:=bf BB Br,I:=S7 BB Br,ow:=E0 Br,nC:=Nj Br}
end Go.Ab.mm


namespace Go.Ab.mm
open Go Go.Ab
variable{args:lS} {d:Nat->Bn} {fn:Ah} {g:lL} {n:Nat} {sh:Bn} {u:PV}
def Qw (g:lL):Prop:=g≠82/\g≠14/\g≠91/\g≠15/\g≠29/\g≠18/\g≠92/\g≠30/\g≠56/\g≠222/\g≠116/\g≠377/\g≠383/\g≠381/\g≠382/\g≠131/\g≠79/\g≠71/\g≠262/\g≠50/\g≠45
instance (g:lL):Decidable (Qw g):=by unfold Qw;infer_instance
theorem Vh (h:Qw g) (σ:Nm->lV) (A:lS):BB g σ A=none:=by unfold BB;rw[lr h.1,lr h.2.1,lr h.2.2.1,lr h.2.2.2.1,lr h.2.2.2.2.1,lr h.2.2.2.2.2.1,lr h.2.2.2.2.2.2.1,lr h.2.2.2.2.2.2.2.1,lr h.2.2.2.2.2.2.2.2.1,lr h.2.2.2.2.2.2.2.2.2.1,lr h.2.2.2.2.2.2.2.2.2.2.1,lr h.2.2.2.2.2.2.2.2.2.2.2.1,lr h.2.2.2.2.2.2.2.2.2.2.2.2.1,lr h.2.2.2.2.2.2.2.2.2.2.2.2.2.1,lr h.2.2.2.2.2.2.2.2.2.2.2.2.2.2.1,lr h.2.2.2.2.2.2.2.2.2.2.2.2.2.2.2.1,lr h.2.2.2.2.2.2.2.2.2.2.2.2.2.2.2.2.1,lr h.2.2.2.2.2.2.2.2.2.2.2.2.2.2.2.2.2.1,lr h.2.2.2.2.2.2.2.2.2.2.2.2.2.2.2.2.2.2.1,lr h.2.2.2.2.2.2.2.2.2.2.2.2.2.2.2.2.2.2.2.1,lr h.2.2.2.2.2.2.2.2.2.2.2.2.2.2.2.2.2.2.2.2]
theorem aK (g:lL):IH (BB g):=by intro σ σ' A h;unfold BB;by_cases hg:g=82;{rw[lu hg,lu hg]};rw[lr hg,lr hg];clear hg;by_cases hg:g=14;{rw[lu hg,lu hg]};rw[lr hg,lr hg];clear hg;by_cases hg:g=91;{rw[lu hg,lu hg]};rw[lr hg,lr hg];clear hg;by_cases hg:g=15;{rw[lu hg,lu hg]};rw[lr hg,lr hg];clear hg;by_cases hg:g=29;{rw[lu hg,lu hg];exact gY 40 σ σ' A h};rw[lr hg,lr hg];clear hg;by_cases hg:g=18;{rw[lu hg,lu hg];exact zbC 40 5 σ σ' A h};rw[lr hg,lr hg];clear hg;by_cases hg:g=92;{rw[lu hg,lu hg]};rw[lr hg,lr hg];clear hg;by_cases hg:g=30;{rw[lu hg,lu hg]};rw[lr hg,lr hg];clear hg;by_cases hg:g=56;{rw[lu hg,lu hg]};rw[lr hg,lr hg];clear hg;by_cases hg:g=222;{rw[lu hg,lu hg]};rw[lr hg,lr hg];clear hg;by_cases hg:g=116;{rw[lu hg,lu hg];exact zcm ps0 σ σ' A h};rw[lr hg,lr hg];clear hg;by_cases hg:g=377;{rw[lu hg,lu hg];exact YJ .u32 σ σ' A h};rw[lr hg,lr hg];clear hg;by_cases hg:g=383;{rw[lu hg,lu hg];exact Xc .u32 σ σ' A h};rw[lr hg,lr hg];clear hg;by_cases hg:g=381;{rw[lu hg,lu hg];exact Ye .i32 0 1 σ σ' A h};rw[lr hg,lr hg];clear hg;by_cases hg:g=382;{rw[lu hg,lu hg];exact Ye .i32 1 0 σ σ' A h};rw[lr hg,lr hg];clear hg;by_cases hg:g=131;{rw[lu hg,lu hg];exact zbG .i64 σ σ' A h};rw[lr hg,lr hg];clear hg;by_cases hg:g=79;{rw[lu hg,lu hg];exact YJ .i64 σ σ' A h};rw[lr hg,lr hg];clear hg;by_cases hg:g=71;{rw[lu hg,lu hg];exact Xc .i64 σ σ' A h};rw[lr hg,lr hg];clear hg;by_cases hg:g=262;{rw[lu hg,lu hg];exact xg σ σ' A h};rw[lr hg,lr hg]
theorem io_low:(List.range 420).all (fun g=>(iof0 g).isSome==E0 Br g)=true:=by kernel_rfl
theorem io_high (k:Nat):((iof0 (k+420)).isSome==E0 Br (k+420))=true:=by kernel_rfl
theorem Vs:∀ g,(iof0 g).isSome=E0 Br g:=fun g=>by by_cases h:g < 420;{exact eq_of_beq (iy.1 io_low g (jS.2 h))};{obtain⟨k,rfl⟩:∃ k,g=k+420:=⟨Nat.sub g 420,(Nat.sub_add_cancel (Nat.le_of_not_lt h)).symm⟩;exact eq_of_beq (io_high k)}
theorem JG (d:Nat->Bn):Eu (BJ B0 d) Br where
 L:=rfl
 I:=rfl
 ow:=rfl
 nC:=rfl
 flat g h:=by cases h
 uG g:=Vs g
 ioP g P h:=by
  simp only[BJ,iof0] at h;split at h;·cases h;exact⟨MN,rfl,⟨by decide,.inl ⟨rfl,rfl⟩⟩,fun Z os=>by show (K8 Z os).args.length<=_/\(K8 Z os).ins.length<=_;unfold K8;split<;>exact⟨ig rfl,ig rfl⟩⟩
  {cases h;exact⟨MM,rfl,⟨by decide,.inl ⟨rfl,rfl⟩⟩,fun Z os=>by show (K7 Z os).args.length<=_/\(K7 Z os).ins.length<=_;unfold K7;split<;>exact⟨ig rfl,ig rfl⟩⟩};{cases h;exact⟨fn24,rfl,⟨by decide,.inl ⟨rfl,rfl⟩⟩,fun Z os=>⟨ig rfl,ig rfl⟩⟩};{cases h;exact⟨fn26,rfl,⟨by decide,.inl ⟨rfl,rfl⟩⟩,fun Z os=>⟨ig rfl,ig rfl⟩⟩};{cases h;exact⟨fn39,rfl,⟨by decide,.inl ⟨rfl,rfl⟩⟩,fun Z os=>⟨ig rfl,ig rfl⟩⟩};{cases h;exact⟨fn40,rfl,⟨by decide,.inl ⟨rfl,rfl⟩⟩,fun Z os=>⟨ig rfl,ig rfl⟩⟩};{cases h;exact⟨fn41,rfl,⟨by decide,.inl ⟨rfl,rfl⟩⟩,fun Z os=>⟨ig rfl,ig rfl⟩⟩};{cases h;exact⟨fn42,rfl,⟨by decide,.inl ⟨rfl,rfl⟩⟩,fun Z os=>⟨ig rfl,ig rfl⟩⟩};{cases h;exact⟨ML,rfl,⟨by decide,.inl ⟨rfl,rfl⟩⟩,fun Z os=>⟨ig rfl,ig rfl⟩⟩};{cases h;exact⟨fn46,rfl,⟨by decide,.inl ⟨rfl,rfl⟩⟩,fun Z os=>⟨ig rfl,ig rfl⟩⟩};{cases h;exact⟨fn47,rfl,⟨by decide,.inl ⟨rfl,rfl⟩⟩,fun Z os=>⟨ig rfl,ig rfl⟩⟩};{cases h;exact⟨fn65,rfl,⟨by decide,.inl ⟨rfl,rfl⟩⟩,fun Z os=>⟨ig rfl,ig rfl⟩⟩};{cases h;exact⟨fn68,rfl,⟨by decide,.inr fun _ _=>rfl⟩,fun Z os=>⟨ig rfl,ig rfl⟩⟩};{cases h;exact⟨fn69,rfl,⟨by decide,.inl ⟨rfl,rfl⟩⟩,fun Z os=>⟨ig rfl,ig rfl⟩⟩};{cases h;exact⟨fn74,rfl,⟨by decide,.inl ⟨rfl,rfl⟩⟩,fun Z os=>⟨ig rfl,ig rfl⟩⟩};{cases h;exact⟨fn75,rfl,⟨by decide,.inl ⟨rfl,rfl⟩⟩,fun Z os=>⟨ig rfl,ig rfl⟩⟩};{cases h;exact⟨fn76,rfl,⟨by decide,.inl ⟨rfl,rfl⟩⟩,fun Z os=>⟨ig rfl,ig rfl⟩⟩};{cases h;exact⟨fn78,rfl,⟨by decide,.inl ⟨rfl,rfl⟩⟩,fun Z os=>⟨ig rfl,ig rfl⟩⟩};{cases h;exact⟨fn80,rfl,⟨by decide,.inl ⟨rfl,rfl⟩⟩,fun Z os=>⟨ig rfl,ig rfl⟩⟩};{cases h;exact⟨fn94,rfl,⟨by decide,.inl ⟨rfl,rfl⟩⟩,fun Z os=>⟨ig rfl,ig rfl⟩⟩};{cases h;exact⟨zbH,rfl,⟨by decide,.inl ⟨rfl,rfl⟩⟩,fun Z os=>⟨ig rfl,ig rfl⟩⟩};{cases h;exact⟨zbI,rfl,⟨by decide,.inl ⟨rfl,rfl⟩⟩,fun Z os=>⟨ig rfl,ig rfl⟩⟩};{cases h;exact⟨zbJ,rfl,⟨by decide,.inl ⟨rfl,rfl⟩⟩,fun Z os=>⟨ig rfl,ig rfl⟩⟩};{cases h;exact⟨zbK,rfl,⟨by decide,.inl ⟨rfl,rfl⟩⟩,fun Z os=>⟨ig rfl,ig rfl⟩⟩};{cases h;exact⟨zbL,rfl,⟨by decide,.inl ⟨rfl,rfl⟩⟩,fun Z os=>⟨ig rfl,ig rfl⟩⟩};{cases h;exact⟨zbM,rfl,⟨by decide,.inl ⟨rfl,rfl⟩⟩,fun Z os=>⟨ig rfl,ig rfl⟩⟩};{cases h;exact⟨zbN,rfl,⟨by decide,.inl ⟨rfl,rfl⟩⟩,fun Z os=>⟨ig rfl,ig rfl⟩⟩};{cases h;exact⟨Ld,rfl,⟨by decide,.inl ⟨rfl,rfl⟩⟩,fun Z os=>⟨ig rfl,ig rfl⟩⟩};{cases h;exact⟨zbO,rfl,⟨by decide,.inl ⟨rfl,rfl⟩⟩,fun Z os=>⟨ig rfl,ig rfl⟩⟩};{cases h;exact⟨zbP,rfl,⟨by decide,.inl ⟨rfl,rfl⟩⟩,fun Z os=>⟨ig rfl,ig rfl⟩⟩};{cases h;exact⟨zbQ,rfl,⟨by decide,.inl ⟨rfl,rfl⟩⟩,fun Z os=>⟨ig rfl,ig rfl⟩⟩};{cases h;exact⟨zbR,rfl,⟨by decide,.inl ⟨rfl,rfl⟩⟩,fun Z os=>⟨ig rfl,ig rfl⟩⟩};{cases h;exact⟨zbS,rfl,⟨by decide,.inl ⟨rfl,rfl⟩⟩,fun Z os=>⟨ig rfl,ig rfl⟩⟩};{cases h;exact⟨zbT,rfl,⟨by decide,.inl ⟨rfl,rfl⟩⟩,fun Z os=>⟨ig rfl,ig rfl⟩⟩};{cases h;exact⟨Ot,rfl,⟨by decide,.inl ⟨rfl,rfl⟩⟩,fun Z os=>⟨ig rfl,ig rfl⟩⟩};{cases h;exact⟨Ti,rfl,⟨by decide,.inl ⟨rfl,rfl⟩⟩,fun Z os=>⟨ig rfl,ig rfl⟩⟩};{cases h;exact⟨zbU,rfl,⟨by decide,.inl ⟨rfl,rfl⟩⟩,fun Z os=>⟨ig rfl,ig rfl⟩⟩};{cases h;exact⟨zbV,rfl,⟨by decide,.inl ⟨rfl,rfl⟩⟩,fun Z os=>⟨ig rfl,ig rfl⟩⟩};{cases h;exact⟨zbW,rfl,⟨by decide,.inl ⟨rfl,rfl⟩⟩,fun Z os=>⟨ig rfl,ig rfl⟩⟩};{cases h;exact⟨zbX,rfl,⟨by decide,.inl ⟨rfl,rfl⟩⟩,fun Z os=>⟨ig rfl,ig rfl⟩⟩};{cases h;exact⟨zbY,rfl,⟨by decide,.inl ⟨rfl,rfl⟩⟩,fun Z os=>⟨ig rfl,ig rfl⟩⟩};{cases h;exact⟨zbZ,rfl,⟨by decide,.inl ⟨rfl,rfl⟩⟩,fun Z os=>⟨ig rfl,ig rfl⟩⟩};{cases h;exact⟨zb0,rfl,⟨by decide,.inl ⟨rfl,rfl⟩⟩,fun Z os=>⟨ig rfl,ig rfl⟩⟩};{cases h;exact⟨zb1,rfl,⟨by decide,.inl ⟨rfl,rfl⟩⟩,fun Z os=>⟨ig rfl,ig rfl⟩⟩};{cases h;exact⟨zb2,rfl,⟨by decide,.inl ⟨rfl,rfl⟩⟩,fun Z os=>⟨ig rfl,ig rfl⟩⟩};{cases h;exact⟨zb3,rfl,⟨by decide,.inl ⟨rfl,rfl⟩⟩,fun Z os=>⟨ig rfl,ig rfl⟩⟩};{cases h;exact⟨zb4,rfl,⟨by decide,.inl ⟨rfl,rfl⟩⟩,fun Z os=>⟨ig rfl,ig rfl⟩⟩};{cases h;exact⟨zb5,rfl,⟨by decide,.inl ⟨rfl,rfl⟩⟩,fun Z os=>⟨ig rfl,ig rfl⟩⟩};{cases h;exact⟨zb6,rfl,⟨by decide,.inl ⟨rfl,rfl⟩⟩,fun Z os=>⟨ig rfl,ig rfl⟩⟩};{cases h;exact⟨zb7,rfl,⟨by decide,.inl ⟨rfl,rfl⟩⟩,fun Z os=>⟨ig rfl,ig rfl⟩⟩};{cases h;exact⟨zb8,rfl,⟨by decide,.inl ⟨rfl,rfl⟩⟩,fun Z os=>⟨ig rfl,ig rfl⟩⟩};{cases h;exact⟨zb9,rfl,⟨by decide,.inl ⟨rfl,rfl⟩⟩,fun Z os=>⟨ig rfl,ig rfl⟩⟩};{cases h;exact⟨zca,rfl,⟨by decide,.inl ⟨rfl,rfl⟩⟩,fun Z os=>⟨ig rfl,ig rfl⟩⟩};{cases h;exact⟨zcb,rfl,⟨by decide,.inl ⟨rfl,rfl⟩⟩,fun Z os=>⟨ig rfl,ig rfl⟩⟩};{cases h;exact⟨zcc,rfl,⟨by decide,.inl ⟨rfl,rfl⟩⟩,fun Z os=>⟨ig rfl,ig rfl⟩⟩};{cases h;exact⟨Th,rfl,⟨by decide,.inl ⟨rfl,rfl⟩⟩,fun Z os=>⟨ig rfl,ig rfl⟩⟩};{cases h;exact⟨zcd,rfl,⟨by decide,.inl ⟨rfl,rfl⟩⟩,fun Z os=>⟨ig rfl,ig rfl⟩⟩};{cases h;exact⟨zce,rfl,⟨by decide,.inl ⟨rfl,rfl⟩⟩,fun Z os=>⟨ig rfl,ig rfl⟩⟩};{cases h;exact⟨Gl,rfl,⟨by decide,.inl ⟨rfl,rfl⟩⟩,fun Z os=>⟨ig rfl,ig rfl⟩⟩};{cases h;exact⟨zcf,rfl,⟨by decide,.inl ⟨rfl,rfl⟩⟩,fun Z os=>⟨ig rfl,ig rfl⟩⟩};{cases h;exact⟨zcg,rfl,⟨by decide,.inl ⟨rfl,rfl⟩⟩,fun Z os=>⟨ig rfl,ig rfl⟩⟩};{cases h;exact⟨zch,rfl,⟨by decide,.inl ⟨rfl,rfl⟩⟩,fun Z os=>⟨ig rfl,ig rfl⟩⟩};{cases h;exact⟨zci,rfl,⟨by decide,.inl ⟨rfl,rfl⟩⟩,fun Z os=>⟨ig rfl,ig rfl⟩⟩};{cases h;exact⟨zcj,rfl,⟨by decide,.inl ⟨rfl,rfl⟩⟩,fun Z os=>⟨ig rfl,ig rfl⟩⟩};{cases h;exact⟨zck,rfl,⟨by decide,.inl ⟨rfl,rfl⟩⟩,fun Z os=>⟨ig rfl,ig rfl⟩⟩};{cases h}
 yH g h σ A:=by simp only[BJ,jX,beq_eq_false_iff_ne] at h;obtain⟨⟨⟨⟨⟨⟨⟨⟨⟨⟨⟨⟨⟨⟨⟨⟨⟨⟨⟨⟨h0,U⟩,H⟩,h3⟩,h4⟩,h5⟩,h6⟩,h7⟩,h8⟩,h9⟩,h10⟩,h11⟩,h12⟩,h13⟩,h14⟩,h15⟩,h16⟩,h17⟩,h18⟩,h19⟩,h20⟩:=h;exact Vh ⟨h0,U,H,h3,h4,h5,h6,h7,h8,h9,h10,h11,h12,h13,h14,h15,h16,h17,h18,h19,h20⟩ σ A
 loc g σ A hv:=cfg_loc aK g σ A hv
 spK g s h σ Z out O hσ hs:=by simp only[BJ] at h;split at h;{rename_i hg;subst hg;cases h;exact xi hσ hs};split at h;{rename_i hg;subst hg;cases h;exact kStr_ok hs};cases h
 asOk:=nofun
theorem call (ht:Br g=some fn) (hg:Qw g) (ha:AB args=true) (hl:Nat.ble args.length fn.nt=true)
  (hr:BV (BJ B0 d) fn sh AL 0 (args.map KV.cv) ()=some (u,())) (oV:fn.io=false:=by rfl) (hb:Nat.blt g Dj=true:=by rfl):AJ B0 sh (.fn g []) args=some u:=by
 refine eK (JG d) ht (cap:=[]) (by simpa using ha) (by simpa using ig hl) (Vh hg (fun _=>none) _) ?_ oV hb;simpa using hr
theorem xr (hg:Qw g) (h:Ei BB Br n Unit AL 0 g args ()=some (u,[],())) (hu:Ax u=true) (oV:E0 Br g=false) (hb:Nat.blt g Dj=true:=by rfl):AJ B0 .cl (.fn g []) args=some u:=by
 have hid:AO g=g:=by simp[AO,hb]
 have hfa:Bc g args []=args:=by simp[Bc,hb]
 obtain⟨e2,_,H⟩:=T6 n Unit Unit (fun _ _=>True) AL (fun _=>AL) (fun _ _ _ _ _ _ _ h=>by cases h) 0 g args () () trivial _ _ _ h;have hL:B0.L Unit AL 0 g args ()=some (u,[],()):=Sv H;have hI:B0.ow g=false:=oV;have hs:B0.sp g (fun _=>none) args=none:=Vh hg _ _;unfold AJ;simp[hid,hfa,spO,hs,hI,hL,D6,Cv,hu,AC]
end Go.Ab.mm


namespace Go.Proofs.tW
open Go.RowKit Go.Extern.Stop Go.Stop Go.Extern Go.Proofs
theorem Ph (v:lK) (w:lJ):(Extern.ReflectliteType.typeOf #[.iface 526 v]).run Tryz.prog w=.ok (.iface 271 (.agg #[.pointer (some ⟨17,526,none⟩)])) w:=by kernel_rfl
theorem OD (w:lJ):((Extern.ReflectliteType.method fun t=>do Extern.Rtype.noPackHeld "Comparable" t;(fun a=>Value.bool a.comparable) <$> typeInfo t) #[.agg #[.pointer (some ⟨17,526,none⟩)]]).run Tryz.prog w=.ok (.bool true) w:=by kernel_rfl
theorem OB (v:lK) (w:lJ):(Go.method 674 271 v "Comparable").run Tryz.prog w=.ok (428,v) w:=by kernel_rfl
theorem PW:(Tryz.prog.info? 526).map (·.comparable)=some true:=by kernel_rfl
theorem PU:(Tryz.prog.info? 528).map (·.size)=some 1:=by kernel_rfl
theorem aZ (v:lK) (xT:lP) (w:lJ):(Instr.typeAssert (.iface 526 v) xT 273 true).run Tryz.prog w=.ok (.tuple #[.nilIface,.bool false]) w:=run_typeAssert_lacksB Tryz.underlying273 (by kernel_rfl) (by kernel_rfl) v xT w
theorem aY (v:lK) (xT:lP) (w:lJ):(Instr.typeAssert (.iface 526 v) xT 276 true).run Tryz.prog w=.ok (.tuple #[.nilIface,.bool false]) w:=run_typeAssert_lacksB Tryz.underlying276 (by kernel_rfl) (by kernel_rfl) v xT w
theorem aX (v:lK) (xT:lP) (w:lJ):(Instr.typeAssert (.iface 526 v) xT 278 true).run Tryz.prog w=.ok (.tuple #[.nilIface,.bool false]) w:=run_typeAssert_lacksB Tryz.underlying278 (by kernel_rfl) (by kernel_rfl) v xT w
set_option maxHeartbeats 1000000 in
set_option maxRecDepth 100000 in
theorem is_same (a:Addr) (w:lJ) :
  Calls Tryz.prog 92 #[.iface 526 (.pointer (some a)),.iface 526 (.pointer (some a))] w fun e w'=>e=.returned (.bool true)/\w'=w:=by
 obtain⟨i,hi,tX⟩:=ij.1 PW;obtain⟨j,hj,hjs⟩:=ij.1 PU;have h8:=@run_callFunc_extern Tryz.prog 128 _ Extern.ReflectliteType.typeOf Tryz.func128 (by kernel_rfl) (by kernel_rfl) (by kernel_rfl) (by kernel_rfl);have h32:=@run_callFunc_extern Tryz.prog 428 _ (Extern.ReflectliteType.method fun t=>do Extern.Rtype.noPackHeld "Comparable" t;pure (.bool (<-typeInfo t).comparable)) Tryz.func428 (by kernel_rfl) (by kernel_rfl) (by kernel_rfl) (by kernel_rfl);have tT:=Ph;have cT:=OD;have mR:=OB;have heq:=run_eql_iface_ptr_same (P:=Tryz.prog) w a Tryz.underlying42 Tryz.underlying526 hi tX hj
 go_enter Tryz.func92,Tryz.ntmps92
 go_wp2
 refine wp_loop_rounds 1 ?_;rw[rounds_succ]
 go_wp2
 go_ret
 exact⟨rfl,rfl⟩
set_option maxHeartbeats 1000000 in
set_option maxRecDepth 100000 in
theorem is_nil (b:Addr) (w:lJ) :
  Calls Tryz.prog 92 #[.nilIface,.iface 526 (.pointer (some b))] w fun e w'=>e=.returned (.bool false)/\w'=w:=by
 have hn:=run_eql_iface_nil_left (P:=Tryz.prog) w 526 (.pointer (some b)) Tryz.underlying42
 go_enter Tryz.func92,Tryz.ntmps92
 go_wp2
 go_ret
 exact⟨rfl,rfl⟩
set_option maxHeartbeats 1000000 in
set_option maxRecDepth 100000 in
theorem zcp (a b:Addr) (ca cb:Array lK) (ta tb:lP) (w:lJ) (mP:a≠b) (ha:w.heap[a.block]?=some (.cells ca ta (0,0))) (hb:w.heap[b.block]?=some (.cells cb tb (0,0))) :
  Calls Tryz.prog 92 #[.iface 526 (.pointer (some a)),.iface 526 (.pointer (some b))] w fun e w'=>e=.returned (.bool false)/\w'=w:=by
 obtain⟨i,hi,tX⟩:=ij.1 PW;obtain⟨j,hj,hjs⟩:=ij.1 PU;have h8:=@run_callFunc_extern Tryz.prog 128 _ Extern.ReflectliteType.typeOf Tryz.func128 (by kernel_rfl) (by kernel_rfl) (by kernel_rfl) (by kernel_rfl);have h32:=@run_callFunc_extern Tryz.prog 428 _ (Extern.ReflectliteType.method fun t=>do Extern.Rtype.noPackHeld "Comparable" t;pure (.bool (<-typeInfo t).comparable)) Tryz.func428 (by kernel_rfl) (by kernel_rfl) (by kernel_rfl) (by kernel_rfl);have tT:=Ph;have cT:=OD;have mR:=OB;have nE:=aZ;have uE:=aY;have vE:=aX;have heq:=run_eql_iface_ptr_other (P:=Tryz.prog) w Tryz.underlying42 Tryz.underlying526 hi tX hj (by rw[hjs];decide) mP ha hb
 go_enter Tryz.func92,Tryz.ntmps92
 go_wp2
 refine wp_loop_rounds 1 ?_;rw[rounds_succ]
 go_wp2
 go_ret
 exact⟨rfl,rfl⟩
end Go.Proofs.tW


namespace Go.Proofs.vf
open Go.RowKit Go.Extern.Stop Go.Stop Go.Extern Go.Proofs Go.Proofs.tW
theorem VH (v:lK) (xT:lP) (w:lJ):(Instr.typeAssert (.iface 203 v) xT 273 true).run Tryz.prog w=.ok (.tuple #[.nilIface,.bool false]) w:=run_typeAssert_lacksB Tryz.underlying273 (by kernel_rfl) (by kernel_rfl) v xT w
theorem VG (v:lK) (xT:lP) (w:lJ):(Instr.typeAssert (.iface 203 v) xT 276 true).run Tryz.prog w=.ok (.tuple #[.iface 203 v,.bool true]) w:=run_typeAssert_hasB Tryz.underlying276 (by kernel_rfl) v xT w
theorem UH (v:lK) (w:lJ):(Go.method 674 203 v "Unwrap").run Tryz.prog w=.ok (421,v) w:=by kernel_rfl
set_option maxRecDepth 100000 in
theorem TQ (n e:lK) (w:lJ):Calls Tryz.prog 421 #[.agg #[n,e]] w fun ev w'=>ev=.returned e/\w'=w.alloc (.cells #[n,e] 203):=by
 go_enter Tryz.func421,Tryz.ntmps421
 go_wp2
 go_ret
 exact⟨rfl,rfl⟩
set_option maxHeartbeats 1000000 in
set_option maxRecDepth 100000 in
theorem tf (n:lK) (a:Addr) (w:lJ) :
  Calls Tryz.prog 92 #[.iface 203 (.agg #[n,.iface 526 (.pointer (some a))]),.iface 526 (.pointer (some a))] w fun e w'=>e=.returned (.bool true)/\Go.Ab.nR w w':=by
 obtain⟨i,hi,tX⟩:=ij.1 PW;obtain⟨j,hj,hjs⟩:=ij.1 PU;have h8:=@run_callFunc_extern Tryz.prog 128 _ Extern.ReflectliteType.typeOf Tryz.func128 (by kernel_rfl) (by kernel_rfl) (by kernel_rfl) (by kernel_rfl);have h32:=@run_callFunc_extern Tryz.prog 428 _ (Extern.ReflectliteType.method fun t=>do Extern.Rtype.noPackHeld "Comparable" t;pure (.bool (<-typeInfo t).comparable)) Tryz.func428 (by kernel_rfl) (by kernel_rfl) (by kernel_rfl) (by kernel_rfl);have tT:=Ph;have cT:=OD;have mR:=OB;have nE:=VH;have uE:=VG;have mU:=UH;have heq:=fun w=>run_eql_iface_ptr_same (P:=Tryz.prog) w a Tryz.underlying42 Tryz.underlying526 hi tX hj;have hty:=run_eql_iface_types (P:=Tryz.prog) 203 526 (.agg #[n,.iface 526 (.pointer (some a))]) (.pointer (some a)) Tryz.underlying42 (by decide)
 go_enter Tryz.func92,Tryz.ntmps92
 go_wp2
 refine wp_loop_rounds 2 ?_;rw[rounds_succ]
 go_wp2_with (go_at_call 421;refine (TQ _ _ _).mono ?_;rintro e w' ⟨rfl,rfl⟩)
 rw[rounds_succ]
 go_wp2
 go_ret
 exact⟨rfl,Go.Ab.nd ((Below.refl _ _).alloc (ik _) _)⟩
set_option maxHeartbeats 1000000 in
set_option maxRecDepth 100000 in
theorem sx (n:lK) (a b:Addr) (ca cb:Array lK) (ta tb:lP) (w:lJ) (mP:a≠b) (ha:w.heap[a.block]?=some (.cells ca ta (0,0))) (hb:w.heap[b.block]?=some (.cells cb tb (0,0))) :
  Calls Tryz.prog 92 #[.iface 203 (.agg #[n,.iface 526 (.pointer (some a))]),.iface 526 (.pointer (some b))] w fun e w'=>e=.returned (.bool false)/\Go.Ab.nR w w':=by
 obtain⟨i,hi,tX⟩:=ij.1 PW;obtain⟨j,hj,hjs⟩:=ij.1 PU;have h8:=@run_callFunc_extern Tryz.prog 128 _ Extern.ReflectliteType.typeOf Tryz.func128 (by kernel_rfl) (by kernel_rfl) (by kernel_rfl) (by kernel_rfl);have h32:=@run_callFunc_extern Tryz.prog 428 _ (Extern.ReflectliteType.method fun t=>do Extern.Rtype.noPackHeld "Comparable" t;pure (.bool (<-typeInfo t).comparable)) Tryz.func428 (by kernel_rfl) (by kernel_rfl) (by kernel_rfl) (by kernel_rfl);have tT:=Ph;have cT:=OD;have mR:=OB;have nE:=VH;have uE:=VG;have mU:=UH;have nE2:=aZ;have uE2:=aY;have vE2:=aX;have la:a.block < w.heap.size:=by rcases ka a.block w.heap.size with h | h;{exact h};{simp[kC h] at ha}
 have lb:b.block < w.heap.size:=by rcases ka b.block w.heap.size with h | h;{exact h};{simp[kC h] at hb}
 have heq:=run_eql_iface_ptr_other (P:=Tryz.prog) (w.alloc (.cells #[n,.iface 526 (.pointer (some a))] 203)) Tryz.underlying42 Tryz.underlying526 hi tX hj (by rw[hjs];decide) mP (by rw[Go.Ab.mv _ _ la];exact ha) (by rw[Go.Ab.mv _ _ lb];exact hb);have hty:=run_eql_iface_types (P:=Tryz.prog) 203 526 (.agg #[n,.iface 526 (.pointer (some a))]) (.pointer (some b)) Tryz.underlying42 (by decide)
 go_enter Tryz.func92,Tryz.ntmps92
 go_wp2
 refine wp_loop_rounds 2 ?_;rw[rounds_succ]
 go_wp2_with (go_at_call 421;refine (TQ _ _ _).mono ?_;rintro e w' ⟨rfl,rfl⟩)
 rw[rounds_succ]
 go_wp2
 go_ret
 exact⟨rfl,Go.Ab.nd ((Below.refl _ _).alloc (ik _) _)⟩
set_option maxHeartbeats 1000000 in
set_option maxRecDepth 100000 in
theorem tg (n:lK) (b:Addr) (w:lJ) :
  Calls Tryz.prog 92 #[.iface 203 (.agg #[n,.nilIface]),.iface 526 (.pointer (some b))] w fun e w'=>e=.returned (.bool false)/\Go.Ab.nR w w':=by
 obtain⟨i,hi,tX⟩:=ij.1 PW;obtain⟨j,hj,hjs⟩:=ij.1 PU;have h8:=@run_callFunc_extern Tryz.prog 128 _ Extern.ReflectliteType.typeOf Tryz.func128 (by kernel_rfl) (by kernel_rfl) (by kernel_rfl) (by kernel_rfl);have h32:=@run_callFunc_extern Tryz.prog 428 _ (Extern.ReflectliteType.method fun t=>do Extern.Rtype.noPackHeld "Comparable" t;pure (.bool (<-typeInfo t).comparable)) Tryz.func428 (by kernel_rfl) (by kernel_rfl) (by kernel_rfl) (by kernel_rfl);have tT:=Ph;have cT:=OD;have mR:=OB;have nE:=VH;have uE:=VG;have mU:=UH;have hty:=run_eql_iface_types (P:=Tryz.prog) 203 526 (.agg #[n,.nilIface]) (.pointer (some b)) Tryz.underlying42 (by decide)
 go_enter Tryz.func92,Tryz.ntmps92
 go_wp2
 refine wp_loop_rounds 1 ?_;rw[rounds_succ]
 go_wp2_with (go_at_call 421;refine (TQ _ _ _).mono ?_;rintro e w' ⟨rfl,rfl⟩)
 go_ret
 exact⟨rfl,Go.Ab.nd ((Below.refl _ _).alloc (ik _) _)⟩
end Go.Proofs.vf


namespace Go.Proofs.xt
open Go.RowKit Go.Proofs
theorem lies_b:liesAt Tryz.prog Tryz.prog.depth 40 (2 / Tryz.prog.cellsOf 40) 0 40 1=true:=by kernel_rfl
theorem info_b':(Tryz.prog.info? 40).map (·.size)=some 2:=by kernel_rfl
theorem zcq:∃ j,Tryz.prog.info? 40=some j/\j.size=2:=ij.1 info_b'
theorem cells5:Tryz.prog.cellsOf 5=1:=by kernel_rfl
set_option maxHeartbeats 1000000 in
set_option maxRecDepth 100000 in
theorem uH (b:Nat) (w:lJ) (h0:w.cell? ⟨b,0,none⟩=some (.pointer (some ⟨b,0,none⟩))) :
  Calls Tryz.prog 29 #[.pointer (some ⟨b,0,none⟩)] w fun e w'=>e=.returned (.tuple #[])/\w'=w:=by
 obtain⟨j,hj,_⟩:=zcq
 go_enter Tryz.func29,Tryz.ntmps29
 go_wp2
 rw[Lib.run_neq_ptr_same w _ Tryz.underlying37 hj]
 go_wp2
 go_end0
 exact⟨rfl,rfl⟩
set_option maxHeartbeats 1000000 in
set_option maxRecDepth 100000 in
theorem tY (b:Nat) (w:lJ) (h0:w.cell? ⟨b,0,none⟩=some (.pointer none)) (oD:w.shape? b=some (40,2)) (tq:w.frozen? ⟨b,0,none⟩=false) :
  Calls Tryz.prog 29 #[.pointer (some ⟨b,0,none⟩)] w fun e w'=>e=.returned (.tuple #[])/\w'=w.setCell ⟨b,0,none⟩ (.pointer (some ⟨b,0,none⟩)):=by
 obtain⟨j,hj,hjs⟩:=zcq
 go_enter Tryz.func29,Tryz.ntmps29
 go_wp2
 rw[Lib.run_to_unsafe w ⟨b,0,none⟩ Tryz.underlying37 Tryz.underlying110 hj (by rw[hjs];decide) oD (Nat.zero_lt_succ 1)];simp only[Result.andThen];rw[Oper.upon_value]
 go_wp2
 rw[run_callFunc_extern Tryz.func52 (by kernel_rfl) (by kernel_rfl) (by kernel_rfl) (e:=Extern.AbiNoEscape.same) (by kernel_rfl)];rw[Lib.run_noEscape];simp only[Result.andThen];rw[Oper.upon_value]
 go_wp2
 rw[Lib.run_from_unsafe w ⟨b,0,none⟩ Tryz.underlying110 Tryz.underlying37 hj oD lies_b];simp only[Result.andThen];rw[Oper.upon_value]
 go_wp2
 go_end0
 exact⟨rfl,rfl⟩
set_option maxHeartbeats 1000000 in
set_option maxRecDepth 100000 in
theorem count_one (s:ByteArray) (c:UInt8) (w:lJ) :
  Calls Tryz.prog 30 #[.string s,.string ⟨#[c]⟩] w fun e w'=>e=.returned (.int .i64 (Lib.countByte s.data.toList c))/\w'=w:=by
 go_enter Tryz.func30,Tryz.ntmps30
 go_wp2
 rw[run_callFunc_extern Tryz.func54 (by kernel_rfl) (by kernel_rfl) (by kernel_rfl) (e:=Extern.BytealgCount.count) (by kernel_rfl),Lib.run_countString];simp only[Result.andThen];rw[Oper.upon_value]
 go_wp2
 go_ret
 exact⟨rfl,rfl⟩
set_option maxHeartbeats 1000000 in
set_option maxRecDepth 100000 in
theorem tZ (b g cap:Nat) (p:lK) (cur:Array lK) (l:l4) (w:lJ) (hbk:w.heap[b]?=some (.cells #[p,.slice (some ⟨g,0,none⟩) l.length cap] 40 (0,0)))
  (hg:w.heap[g]?=some (.cells cur 5 (0,0))) (h0:l≠[]) (qJ:l.length<=cap) (oJ:l.length<=cur.size) (h63:l.length<=9223372036854775807) (hl:∀ (j:Nat) (x:UInt8),l[j]?=some x->cur[j]?=some (Value.int .u8 (x.toNat:Int))) :
  Calls Tryz.prog 18 #[.pointer (some ⟨b,0,none⟩)] w fun e w'=>e=.returned (.string ⟨l.toArray⟩)/\w'=w.drew.freeze ⟨g,0,none⟩ l.length:=by
 have rG:l.length≠0:=by simpa using h0
 have c1:w.drew.cell? ⟨b,1,none⟩=some (.slice (some ⟨g,0,none⟩) l.length cap):=by have:w.drew.heap[b]?=some (.cells #[p,.slice (some ⟨g,0,none⟩) l.length cap] 40 (0,0)):=hbk;rw[Lib.cell_of_heap this];rfl
 have hSD:(Builtin.unsafeSliceData_ #[38] 64 #[.slice (some ⟨g,0,none⟩) l.length cap]).run Tryz.prog w.drew=.ok (.pointer (some ⟨g,0,none⟩)) w.drew :=
  Lib.run_unsafeSliceData_row _ _ _ _ _ _ (by omega)
 have hUS:(Builtin.unsafeString_ #[64,3] 9 #[.pointer (some ⟨g,0,none⟩),.int .i64 l.length]).run Tryz.prog w.drew=.ok (.string ⟨l.toArray⟩) (w.drew.freeze ⟨g,0,none⟩ l.length):=by
  refine Lib.run_unsafeString_row w.drew 64 3 9 5 Tryz.underlying64 cells5 g cur.size (by have yE:w.drew.heap[g]?=some (.cells cur 5 (0,0)):=hg;simp[World.shape?,yE]) l h0 oJ h63 ?_;intro j x O;have yE:w.drew.heap[g]?=some (.cells cur 5 (0,0)):=hg;have e:((⟨g,0,none⟩:Addr).add j)=⟨g,j,none⟩:=by cases j<;>simp[Addr.add]
  rw[e,Lib.cell_of_heap yE];exact hl j x O
 have mixed:Tryz.prog.follows .mixedOrders=true:=by kernel_rfl
 go_enter Tryz.func18,Tryz.ntmps18
 go_wp2
 go_region_o
 all_goals (go_wp2;go_ret;exact⟨rfl,rfl⟩)
set_option maxHeartbeats 1000000 in
set_option maxRecDepth 100000 in
theorem uI (b:Nat) (p:lK) (w:lJ) (hbk:w.heap[b]?=some (.cells #[p,.slice none 0 0] 40 (0,0))) :
  Calls Tryz.prog 18 #[.pointer (some ⟨b,0,none⟩)] w fun e w'=>e=.returned (.string ⟨#[]⟩)/\w'=w.drew:=by
 have hUS:∀ W q,(Builtin.unsafeString_ #[64,3] 9 #[.pointer q,.int .i64 0]).run Tryz.prog W=.ok (.string .empty) W:=fun W q=>Lib.run_unsafeString_none W _ _ _ q;have c1:w.drew.cell? ⟨b,1,none⟩=some (.slice none 0 0):=by have:w.drew.heap[b]?=some (.cells #[p,.slice none 0 0] 40 (0,0)):=hbk;rw[Lib.cell_of_heap this];rfl
 have hSD:(Builtin.unsafeSliceData_ #[38] 64 #[.slice none 0 0]).run Tryz.prog w.drew=.ok (.pointer none) w.drew:=rfl;have mixed:Tryz.prog.follows .mixedOrders=true:=by kernel_rfl
 go_enter Tryz.func18,Tryz.ntmps18
 go_wp2
 go_region_o
 all_goals (go_wp2;go_ret;exact⟨rfl,rfl⟩)
end Go.Proofs.xt


namespace Go.Proofs
open Go.Shelf Go.RowKit Go.Sort Go.Lib
def Tryz.ua:Go.Shelf.Ren:=⟨fun | 171=>15 | 243=>34 | 246=>58 | 283=>86 | 284=>87 | 285=>88 | 286=>89 | 129=>124 | 317=>123 | 318=>125 | 319=>126 | 320=>127 | 337=>159 | 338=>160 | n=>n,fun | 3=>3 | 9=>9 | 2=>2 | 4=>4 | 171=>164 | 0=>0 | 53=>165 | 37=>38 | 5=>5 | 173=>168 | 212=>212 | 51=>208 | 20=>20 | 213=>213 | 46=>159 | 232=>321 | 233=>322 | n=>n,fun | 17=>6 | 18=>9 | 19=>10 | n=>n⟩
theorem Tryz.lays171:Go.Proofs.LaysM.n171 Tryz.prog Tryz.ua:={
 mixed:=by kernel_rfl
 f129:=Tryz.func124.trans (lD some (by kernel_rfl))
 f171:=Tryz.func15.trans (lD some (by kernel_rfl))
 f243:=Tryz.func34.trans (lD some (by kernel_rfl))
 f246:=Tryz.func58.trans (lD some (by kernel_rfl))
 f283:=Tryz.func86.trans (lD some (by kernel_rfl))
 f284:=Tryz.func87.trans (lD some (by kernel_rfl))
 f285:=Tryz.func88.trans (lD some (by kernel_rfl))
 f286:=Tryz.func89.trans (lD some (by kernel_rfl))
 f317:=Tryz.func123.trans (lD some (by kernel_rfl))
 f318:=Tryz.func125.trans (lD some (by kernel_rfl))
 f319:=Tryz.func126.trans (lD some (by kernel_rfl))
 f320:=Tryz.func127.trans (lD some (by kernel_rfl))
 f337:=Tryz.func159.trans (lD some (by kernel_rfl))
 f338:=Tryz.func160.trans (lD some (by kernel_rfl))
 t0:=Tryz.underlying0
 a0:=Tryz.isAgg0
 z0:=Tryz.sizeOf0
 v0:=Tryz.zeroValue0
 t2:=Tryz.underlying2
 a2:=Tryz.isAgg2
 z2:=Tryz.sizeOf2
 v2:=Tryz.zeroValue2
 t3:=Tryz.underlying3
 a3:=Tryz.isAgg3
 z3:=Tryz.sizeOf3
 v3:=Tryz.zeroValue3
 t4:=Tryz.underlying4
 a4:=Tryz.isAgg4
 z4:=Tryz.sizeOf4
 v4:=Tryz.zeroValue4
 t5:=Tryz.underlying5
 a5:=Tryz.isAgg5
 z5:=Tryz.sizeOf5
 v5:=Tryz.zeroValue5
 t9:=Tryz.underlying9
 a9:=Tryz.isAgg9
 z9:=Tryz.sizeOf9
 v9:=Tryz.zeroValue9
 t20:=Tryz.underlying20
 a20:=Tryz.isAgg20
 z20:=Tryz.sizeOf20
 v20:=Tryz.zeroValue20
 t37:=Tryz.underlying38
 a37:=Tryz.isAgg38
 z37:=Tryz.sizeOf38
 v37:=Tryz.zeroValue38
 t46:=Tryz.underlying159
 a46:=Tryz.isAgg159
 z46:=Tryz.sizeOf159
 v46:=Tryz.zeroValue159
 t51:=Tryz.underlying208
 a51:=Tryz.isAgg208
 z51:=Tryz.sizeOf208
 v51:=Tryz.zeroValue208
 t53:=Tryz.underlying165
 a53:=Tryz.isAgg165
 z53:=Tryz.sizeOf165
 v53:=Tryz.zeroValue165
 t171:=Tryz.underlying164
 a171:=Tryz.isAgg164
 z171:=Tryz.sizeOf164
 v171:=Tryz.zeroValue164
 t173:=Tryz.underlying168
 a173:=Tryz.isAgg168
 z173:=Tryz.sizeOf168
 v173:=Tryz.zeroValue168
 t212:=Tryz.underlying212
 a212:=Tryz.isAgg212
 z212:=Tryz.sizeOf212
 v212:=Tryz.zeroValue212
 t213:=Tryz.underlying213
 a213:=Tryz.isAgg213
 z213:=Tryz.sizeOf213
 t232:=Tryz.underlying321
 a232:=Tryz.isAgg321
 z232:=Tryz.sizeOf321
 v232:=Tryz.zeroValue321
 t233:=Tryz.underlying322
 a233:=Tryz.isAgg322
 z233:=Tryz.sizeOf322
 v233:=Tryz.zeroValue322
 g17:=by kernel_rfl
 g18:=by kernel_rfl
 g19:=by kernel_rfl
 i0:=by kernel_rfl
 i2:=by kernel_rfl
 i3:=by kernel_rfl
 i4:=by kernel_rfl
 i5:=by kernel_rfl
 i9:=by kernel_rfl
 i20:=by kernel_rfl
 i37:=by kernel_rfl
 i46:=by kernel_rfl
 i51:=by kernel_rfl
 i53:=by kernel_rfl
 i171:=by kernel_rfl
 i173:=by kernel_rfl
 i212:=by kernel_rfl
 i232:=by kernel_rfl
 i233:=by kernel_rfl
 m17:=by kernel_rfl
 m18:=by kernel_rfl
 m19:=by kernel_rfl}
def Tryz.ub:Go.Shelf.Ren:=⟨fun | 173=>91 | 246=>58 | 283=>86 | 284=>87 | 285=>88 | 286=>89 | 129=>124 | 317=>123 | 318=>125 | 319=>126 | 320=>127 | 337=>159 | 338=>160 | n=>n,fun | 2=>2 | 3=>3 | 9=>9 | 4=>4 | 171=>164 | 0=>0 | 53=>165 | 37=>38 | 5=>5 | 173=>168 | 212=>212 | 51=>208 | 20=>20 | 213=>213 | 46=>159 | 232=>321 | 233=>322 | n=>n,fun | 17=>6 | 18=>9 | 19=>10 | n=>n⟩
theorem Tryz.lays173:Go.Proofs.LaysM.n173 Tryz.prog Tryz.ub:={
 mixed:=by kernel_rfl
 f129:=Tryz.func124.trans (lD some (by kernel_rfl))
 f173:=Tryz.func91.trans (lD some (by kernel_rfl))
 f246:=Tryz.func58.trans (lD some (by kernel_rfl))
 f283:=Tryz.func86.trans (lD some (by kernel_rfl))
 f284:=Tryz.func87.trans (lD some (by kernel_rfl))
 f285:=Tryz.func88.trans (lD some (by kernel_rfl))
 f286:=Tryz.func89.trans (lD some (by kernel_rfl))
 f317:=Tryz.func123.trans (lD some (by kernel_rfl))
 f318:=Tryz.func125.trans (lD some (by kernel_rfl))
 f319:=Tryz.func126.trans (lD some (by kernel_rfl))
 f320:=Tryz.func127.trans (lD some (by kernel_rfl))
 f337:=Tryz.func159.trans (lD some (by kernel_rfl))
 f338:=Tryz.func160.trans (lD some (by kernel_rfl))
 t0:=Tryz.underlying0
 a0:=Tryz.isAgg0
 z0:=Tryz.sizeOf0
 v0:=Tryz.zeroValue0
 t2:=Tryz.underlying2
 a2:=Tryz.isAgg2
 z2:=Tryz.sizeOf2
 v2:=Tryz.zeroValue2
 t3:=Tryz.underlying3
 a3:=Tryz.isAgg3
 z3:=Tryz.sizeOf3
 v3:=Tryz.zeroValue3
 t4:=Tryz.underlying4
 a4:=Tryz.isAgg4
 z4:=Tryz.sizeOf4
 v4:=Tryz.zeroValue4
 t5:=Tryz.underlying5
 a5:=Tryz.isAgg5
 z5:=Tryz.sizeOf5
 v5:=Tryz.zeroValue5
 t9:=Tryz.underlying9
 a9:=Tryz.isAgg9
 z9:=Tryz.sizeOf9
 v9:=Tryz.zeroValue9
 t20:=Tryz.underlying20
 a20:=Tryz.isAgg20
 z20:=Tryz.sizeOf20
 v20:=Tryz.zeroValue20
 t37:=Tryz.underlying38
 a37:=Tryz.isAgg38
 z37:=Tryz.sizeOf38
 v37:=Tryz.zeroValue38
 t46:=Tryz.underlying159
 a46:=Tryz.isAgg159
 z46:=Tryz.sizeOf159
 v46:=Tryz.zeroValue159
 t51:=Tryz.underlying208
 a51:=Tryz.isAgg208
 z51:=Tryz.sizeOf208
 v51:=Tryz.zeroValue208
 t53:=Tryz.underlying165
 a53:=Tryz.isAgg165
 z53:=Tryz.sizeOf165
 v53:=Tryz.zeroValue165
 t171:=Tryz.underlying164
 a171:=Tryz.isAgg164
 z171:=Tryz.sizeOf164
 v171:=Tryz.zeroValue164
 t173:=Tryz.underlying168
 a173:=Tryz.isAgg168
 z173:=Tryz.sizeOf168
 v173:=Tryz.zeroValue168
 t212:=Tryz.underlying212
 a212:=Tryz.isAgg212
 z212:=Tryz.sizeOf212
 v212:=Tryz.zeroValue212
 t213:=Tryz.underlying213
 a213:=Tryz.isAgg213
 z213:=Tryz.sizeOf213
 t232:=Tryz.underlying321
 a232:=Tryz.isAgg321
 z232:=Tryz.sizeOf321
 v232:=Tryz.zeroValue321
 t233:=Tryz.underlying322
 a233:=Tryz.isAgg322
 z233:=Tryz.sizeOf322
 v233:=Tryz.zeroValue322
 g17:=by kernel_rfl
 g18:=by kernel_rfl
 g19:=by kernel_rfl
 i0:=by kernel_rfl
 i2:=by kernel_rfl
 i3:=by kernel_rfl
 i4:=by kernel_rfl
 i5:=by kernel_rfl
 i9:=by kernel_rfl
 i20:=by kernel_rfl
 i37:=by kernel_rfl
 i46:=by kernel_rfl
 i51:=by kernel_rfl
 i53:=by kernel_rfl
 i171:=by kernel_rfl
 i173:=by kernel_rfl
 i212:=by kernel_rfl
 i232:=by kernel_rfl
 i233:=by kernel_rfl
 m17:=by kernel_rfl
 m18:=by kernel_rfl
 m19:=by kernel_rfl}
def Tryz.rB:Go.Shelf.Ren:=⟨fun | 154=>14 | 138=>30 | 165=>31 | 143=>32 | 166=>13 | 197=>33 | 169=>18 | 195=>53 | 218=>54 | 240=>29 | 241=>55 | 219=>56 | 260=>57 | 276=>52 | 277=>81 | 217=>82 | 225=>83 | 224=>84 | 267=>85 | 266=>121 | 314=>122 | n=>n,fun | 9=>9 | 3=>3 | 4=>4 | 72=>40 | 0=>0 | 76=>43 | 105=>62 | 21=>21 | 5=>5 | 70=>37 | 20=>20 | 37=>38 | 75=>42 | 127=>64 | 164=>110 | 46=>159 | 119=>160 | 139=>163 | 138=>162 | 146=>209 | 51=>208 | 80=>48 | n=>n,fun | 1=>1 | 3=>2 | 4=>3 | n=>n⟩
theorem Tryz.lays154:Go.Proofs.Lays.n154 Tryz.prog Tryz.rB:={
 mixed:=by kernel_rfl
 f138:=Tryz.func30.trans (lD some (by kernel_rfl))
 f143:=Tryz.func32.trans (lD some (by kernel_rfl))
 f154:=Tryz.func14.trans (lD some (by kernel_rfl))
 f165:=Tryz.func31.trans (lD some (by kernel_rfl))
 f166:=Tryz.func13.trans (lD some (by kernel_rfl))
 f169:=Tryz.func18.trans (lD some (by kernel_rfl))
 f195:=Tryz.func53.trans (lD some (by kernel_rfl))
 f197:=Tryz.func33.trans (lD some (by kernel_rfl))
 f217:=Tryz.func82.trans (lD some (by kernel_rfl))
 f218:=Tryz.func54.trans (lD some (by kernel_rfl))
 f219:=Tryz.func56.trans (lD some (by kernel_rfl))
 f224:=Tryz.func84.trans (lD some (by kernel_rfl))
 f225:=Tryz.func83.trans (lD some (by kernel_rfl))
 f240:=Tryz.func29.trans (lD some (by kernel_rfl))
 f241:=Tryz.func55.trans (lD some (by kernel_rfl))
 f260:=Tryz.func57.trans (lD some (by kernel_rfl))
 f266:=Tryz.func121.trans (lD some (by kernel_rfl))
 f267:=Tryz.func85.trans (lD some (by kernel_rfl))
 f276:=Tryz.func52.trans (lD some (by kernel_rfl))
 f277:=Tryz.func81.trans (lD some (by kernel_rfl))
 f314:=Tryz.func122.trans (lD some (by kernel_rfl))
 t0:=Tryz.underlying0
 a0:=Tryz.isAgg0
 z0:=Tryz.sizeOf0
 v0:=Tryz.zeroValue0
 t3:=Tryz.underlying3
 a3:=Tryz.isAgg3
 z3:=Tryz.sizeOf3
 v3:=Tryz.zeroValue3
 t4:=Tryz.underlying4
 a4:=Tryz.isAgg4
 z4:=Tryz.sizeOf4
 v4:=Tryz.zeroValue4
 t5:=Tryz.underlying5
 a5:=Tryz.isAgg5
 z5:=Tryz.sizeOf5
 v5:=Tryz.zeroValue5
 t9:=Tryz.underlying9
 a9:=Tryz.isAgg9
 z9:=Tryz.sizeOf9
 v9:=Tryz.zeroValue9
 t20:=Tryz.underlying20
 a20:=Tryz.isAgg20
 z20:=Tryz.sizeOf20
 v20:=Tryz.zeroValue20
 t21:=Tryz.underlying21
 a21:=Tryz.isAgg21
 z21:=Tryz.sizeOf21
 v21:=Tryz.zeroValue21
 t37:=Tryz.underlying38
 a37:=Tryz.isAgg38
 z37:=Tryz.sizeOf38
 v37:=Tryz.zeroValue38
 t46:=Tryz.underlying159
 a46:=Tryz.isAgg159
 z46:=Tryz.sizeOf159
 v46:=Tryz.zeroValue159
 t51:=Tryz.underlying208
 a51:=Tryz.isAgg208
 z51:=Tryz.sizeOf208
 v51:=Tryz.zeroValue208
 t70:=Tryz.underlying37
 a70:=Tryz.isAgg37
 z70:=Tryz.sizeOf37
 v70:=Tryz.zeroValue37
 t72:=Tryz.underlying40
 a72:=Tryz.isAgg40
 z72:=Tryz.sizeOf40
 v72:=Tryz.zeroValue40
 t75:=Tryz.underlying42
 a75:=Tryz.isAgg42
 z75:=Tryz.sizeOf42
 v75:=Tryz.zeroValue42
 t76:=Tryz.underlying43
 a76:=Tryz.isAgg43
 z76:=Tryz.sizeOf43
 v76:=Tryz.zeroValue43
 t105:=Tryz.underlying62
 a105:=Tryz.isAgg62
 z105:=Tryz.sizeOf62
 v105:=Tryz.zeroValue62
 t119:=Tryz.underlying160
 a119:=Tryz.isAgg160
 z119:=Tryz.sizeOf160
 t127:=Tryz.underlying64
 a127:=Tryz.isAgg64
 z127:=Tryz.sizeOf64
 v127:=Tryz.zeroValue64
 t138:=Tryz.underlying162
 a138:=Tryz.isAgg162
 z138:=Tryz.sizeOf162
 v138:=Tryz.zeroValue162
 t139:=Tryz.underlying163
 a139:=Tryz.isAgg163
 z139:=Tryz.sizeOf163
 v139:=Tryz.zeroValue163
 t146:=Tryz.underlying209
 a146:=Tryz.isAgg209
 z146:=Tryz.sizeOf209
 v146:=Tryz.zeroValue209
 t164:=Tryz.underlying110
 a164:=Tryz.isAgg110
 z164:=Tryz.sizeOf110
 v164:=Tryz.zeroValue110
 g1:=by kernel_rfl
 g3:=by kernel_rfl
 g4:=by kernel_rfl}
def Tryz.rC:Go.Shelf.Ren:=⟨fun | 156=>262 | 165=>31 | 166=>13 | 169=>18 | 240=>29 | 241=>55 | 276=>52 | 277=>81 | n=>n,fun | 31=>124 | 9=>9 | 3=>3 | 4=>4 | 0=>0 | 20=>20 | 72=>40 | 76=>43 | 70=>37 | 37=>38 | 75=>42 | 127=>64 | 164=>110 | 5=>5 | 80=>48 | n=>n,fun | n=>n⟩
theorem Tryz.lays156:Go.Proofs.Lays.n156 Tryz.prog Tryz.rC:={
 mixed:=by kernel_rfl
 f156:=Tryz.func262.trans (lD some (by kernel_rfl))
 f165:=Tryz.func31.trans (lD some (by kernel_rfl))
 f166:=Tryz.func13.trans (lD some (by kernel_rfl))
 f169:=Tryz.func18.trans (lD some (by kernel_rfl))
 f240:=Tryz.func29.trans (lD some (by kernel_rfl))
 f241:=Tryz.func55.trans (lD some (by kernel_rfl))
 f276:=Tryz.func52.trans (lD some (by kernel_rfl))
 f277:=Tryz.func81.trans (lD some (by kernel_rfl))
 t0:=Tryz.underlying0
 a0:=Tryz.isAgg0
 z0:=Tryz.sizeOf0
 v0:=Tryz.zeroValue0
 t3:=Tryz.underlying3
 a3:=Tryz.isAgg3
 z3:=Tryz.sizeOf3
 v3:=Tryz.zeroValue3
 t4:=Tryz.underlying4
 a4:=Tryz.isAgg4
 z4:=Tryz.sizeOf4
 v4:=Tryz.zeroValue4
 t9:=Tryz.underlying9
 a9:=Tryz.isAgg9
 z9:=Tryz.sizeOf9
 v9:=Tryz.zeroValue9
 t20:=Tryz.underlying20
 a20:=Tryz.isAgg20
 z20:=Tryz.sizeOf20
 v20:=Tryz.zeroValue20
 t31:=Tryz.underlying124
 a31:=Tryz.isAgg124
 z31:=Tryz.sizeOf124
 v31:=Tryz.zeroValue124
 t37:=Tryz.underlying38
 a37:=Tryz.isAgg38
 z37:=Tryz.sizeOf38
 v37:=Tryz.zeroValue38
 t70:=Tryz.underlying37
 a70:=Tryz.isAgg37
 z70:=Tryz.sizeOf37
 v70:=Tryz.zeroValue37
 t72:=Tryz.underlying40
 a72:=Tryz.isAgg40
 z72:=Tryz.sizeOf40
 v72:=Tryz.zeroValue40
 t75:=Tryz.underlying42
 a75:=Tryz.isAgg42
 z75:=Tryz.sizeOf42
 v75:=Tryz.zeroValue42
 t76:=Tryz.underlying43
 a76:=Tryz.isAgg43
 z76:=Tryz.sizeOf43
 v76:=Tryz.zeroValue43
 t127:=Tryz.underlying64
 a127:=Tryz.isAgg64
 z127:=Tryz.sizeOf64
 v127:=Tryz.zeroValue64
 t164:=Tryz.underlying110
 a164:=Tryz.isAgg110
 z164:=Tryz.sizeOf110
 v164:=Tryz.zeroValue110}
def Tryz.uc:Go.Shelf.Ren:=⟨fun | 138=>30 | 195=>53 | 218=>54 | 143=>32 | 219=>56 | 217=>82 | 225=>83 | 224=>84 | 267=>85 | 266=>121 | 314=>122 | n=>n,fun | 9=>9 | 3=>3 | 4=>4 | 5=>5 | 0=>0 | 46=>159 | 146=>209 | 51=>208 | n=>n,fun | 1=>1 | n=>n⟩
theorem Tryz.lays138:Go.Proofs.Lays.n138 Tryz.prog Tryz.uc:={
 mixed:=by kernel_rfl
 f138:=Tryz.func30.trans (lD some (by kernel_rfl))
 f143:=Tryz.func32.trans (lD some (by kernel_rfl))
 f195:=Tryz.func53.trans (lD some (by kernel_rfl))
 f217:=Tryz.func82.trans (lD some (by kernel_rfl))
 f218:=Tryz.func54.trans (lD some (by kernel_rfl))
 f219:=Tryz.func56.trans (lD some (by kernel_rfl))
 f224:=Tryz.func84.trans (lD some (by kernel_rfl))
 f225:=Tryz.func83.trans (lD some (by kernel_rfl))
 f266:=Tryz.func121.trans (lD some (by kernel_rfl))
 f267:=Tryz.func85.trans (lD some (by kernel_rfl))
 f314:=Tryz.func122.trans (lD some (by kernel_rfl))
 t0:=Tryz.underlying0
 a0:=Tryz.isAgg0
 z0:=Tryz.sizeOf0
 v0:=Tryz.zeroValue0
 t3:=Tryz.underlying3
 a3:=Tryz.isAgg3
 z3:=Tryz.sizeOf3
 v3:=Tryz.zeroValue3
 t4:=Tryz.underlying4
 a4:=Tryz.isAgg4
 z4:=Tryz.sizeOf4
 v4:=Tryz.zeroValue4
 t5:=Tryz.underlying5
 a5:=Tryz.isAgg5
 z5:=Tryz.sizeOf5
 v5:=Tryz.zeroValue5
 t9:=Tryz.underlying9
 a9:=Tryz.isAgg9
 z9:=Tryz.sizeOf9
 v9:=Tryz.zeroValue9
 t46:=Tryz.underlying159
 a46:=Tryz.isAgg159
 z46:=Tryz.sizeOf159
 v46:=Tryz.zeroValue159
 t51:=Tryz.underlying208
 a51:=Tryz.isAgg208
 z51:=Tryz.sizeOf208
 v51:=Tryz.zeroValue208
 t146:=Tryz.underlying209
 a146:=Tryz.isAgg209
 z146:=Tryz.sizeOf209
 v146:=Tryz.zeroValue209
 g1:=by kernel_rfl}
def Tryz.ud:Go.Shelf.Ren:=⟨fun | 219=>56 | 217=>82 | 225=>83 | 224=>84 | 267=>85 | 266=>121 | 314=>122 | n=>n,fun | 9=>9 | 3=>3 | 4=>4 | 5=>5 | 46=>159 | 146=>209 | 51=>208 | n=>n,fun | 1=>1 | n=>n⟩
theorem Tryz.lays219:Go.Proofs.Lays.n219 Tryz.prog Tryz.ud:={
 mixed:=by kernel_rfl
 f217:=Tryz.func82.trans (lD some (by kernel_rfl))
 f219:=Tryz.func56.trans (lD some (by kernel_rfl))
 f224:=Tryz.func84.trans (lD some (by kernel_rfl))
 f225:=Tryz.func83.trans (lD some (by kernel_rfl))
 f266:=Tryz.func121.trans (lD some (by kernel_rfl))
 f267:=Tryz.func85.trans (lD some (by kernel_rfl))
 f314:=Tryz.func122.trans (lD some (by kernel_rfl))
 t3:=Tryz.underlying3
 a3:=Tryz.isAgg3
 z3:=Tryz.sizeOf3
 v3:=Tryz.zeroValue3
 t4:=Tryz.underlying4
 a4:=Tryz.isAgg4
 z4:=Tryz.sizeOf4
 v4:=Tryz.zeroValue4
 t5:=Tryz.underlying5
 a5:=Tryz.isAgg5
 z5:=Tryz.sizeOf5
 v5:=Tryz.zeroValue5
 t9:=Tryz.underlying9
 a9:=Tryz.isAgg9
 z9:=Tryz.sizeOf9
 v9:=Tryz.zeroValue9
 t46:=Tryz.underlying159
 a46:=Tryz.isAgg159
 z46:=Tryz.sizeOf159
 v46:=Tryz.zeroValue159
 t51:=Tryz.underlying208
 a51:=Tryz.isAgg208
 z51:=Tryz.sizeOf208
 v51:=Tryz.zeroValue208
 t146:=Tryz.underlying209
 a146:=Tryz.isAgg209
 z146:=Tryz.sizeOf209
 v146:=Tryz.zeroValue209
 g1:=by kernel_rfl}
def Tryz.ue:Go.Shelf.Ren:=⟨fun | 174=>222 | 247=>269 | 245=>270 | 287=>327 | 279=>328 | 280=>329 | 281=>330 | 282=>331 | 321=>354 | 322=>355 | 316=>356 | 171=>15 | 205=>357 | 243=>34 | 246=>58 | 283=>86 | 284=>87 | 285=>88 | 286=>89 | 129=>124 | 317=>123 | 318=>125 | 319=>126 | 320=>127 | 337=>159 | 338=>160 | n=>n,fun | 9=>9 | 3=>3 | 2=>2 | 75=>42 | 85=>350 | 4=>4 | 167=>482 | 5=>5 | 53=>165 | 175=>483 | 46=>159 | 168=>485 | 37=>38 | 0=>0 | 210=>516 | 21=>21 | 127=>64 | 145=>528 | 143=>526 | 171=>164 | 173=>168 | 212=>212 | 51=>208 | 20=>20 | 213=>213 | 232=>321 | 233=>322 | 80=>48 | n=>n,fun | 15=>15 | 16=>16 | 17=>6 | 18=>9 | 19=>10 | n=>n⟩
theorem Tryz.vg:Go.Proofs.LaysC.n174 Tryz.prog Tryz.ue:={
 mixed:=by kernel_rfl
 f129:=Tryz.func124.trans (lD some (by kernel_rfl))
 f171:=Tryz.func15.trans (lD some (by kernel_rfl))
 f174:=Tryz.func222.trans (lD some (by kernel_rfl))
 f205:=Tryz.func357.trans (lD some (by kernel_rfl))
 f243:=Tryz.func34.trans (lD some (by kernel_rfl))
 f245:=Tryz.func270.trans (lD some (by kernel_rfl))
 f246:=Tryz.func58.trans (lD some (by kernel_rfl))
 f247:=Tryz.func269.trans (lD some (by kernel_rfl))
 f279:=Tryz.func328.trans (lD some (by kernel_rfl))
 f280:=Tryz.func329.trans (lD some (by kernel_rfl))
 f281:=Tryz.func330.trans (lD some (by kernel_rfl))
 f282:=Tryz.func331.trans (lD some (by kernel_rfl))
 f283:=Tryz.func86.trans (lD some (by kernel_rfl))
 f284:=Tryz.func87.trans (lD some (by kernel_rfl))
 f285:=Tryz.func88.trans (lD some (by kernel_rfl))
 f286:=Tryz.func89.trans (lD some (by kernel_rfl))
 f287:=Tryz.func327.trans (lD some (by kernel_rfl))
 f316:=Tryz.func356.trans (lD some (by kernel_rfl))
 f317:=Tryz.func123.trans (lD some (by kernel_rfl))
 f318:=Tryz.func125.trans (lD some (by kernel_rfl))
 f319:=Tryz.func126.trans (lD some (by kernel_rfl))
 f320:=Tryz.func127.trans (lD some (by kernel_rfl))
 f321:=Tryz.func354.trans (lD some (by kernel_rfl))
 f322:=Tryz.func355.trans (lD some (by kernel_rfl))
 f337:=Tryz.func159.trans (lD some (by kernel_rfl))
 f338:=Tryz.func160.trans (lD some (by kernel_rfl))
 t0:=Tryz.underlying0
 a0:=Tryz.isAgg0
 z0:=Tryz.sizeOf0
 v0:=Tryz.zeroValue0
 t2:=Tryz.underlying2
 a2:=Tryz.isAgg2
 z2:=Tryz.sizeOf2
 v2:=Tryz.zeroValue2
 t3:=Tryz.underlying3
 a3:=Tryz.isAgg3
 z3:=Tryz.sizeOf3
 v3:=Tryz.zeroValue3
 t4:=Tryz.underlying4
 a4:=Tryz.isAgg4
 z4:=Tryz.sizeOf4
 v4:=Tryz.zeroValue4
 t5:=Tryz.underlying5
 a5:=Tryz.isAgg5
 z5:=Tryz.sizeOf5
 v5:=Tryz.zeroValue5
 t9:=Tryz.underlying9
 a9:=Tryz.isAgg9
 z9:=Tryz.sizeOf9
 v9:=Tryz.zeroValue9
 t20:=Tryz.underlying20
 a20:=Tryz.isAgg20
 z20:=Tryz.sizeOf20
 v20:=Tryz.zeroValue20
 t21:=Tryz.underlying21
 a21:=Tryz.isAgg21
 z21:=Tryz.sizeOf21
 v21:=Tryz.zeroValue21
 t37:=Tryz.underlying38
 a37:=Tryz.isAgg38
 z37:=Tryz.sizeOf38
 v37:=Tryz.zeroValue38
 t46:=Tryz.underlying159
 a46:=Tryz.isAgg159
 z46:=Tryz.sizeOf159
 v46:=Tryz.zeroValue159
 t51:=Tryz.underlying208
 a51:=Tryz.isAgg208
 z51:=Tryz.sizeOf208
 v51:=Tryz.zeroValue208
 t53:=Tryz.underlying165
 a53:=Tryz.isAgg165
 z53:=Tryz.sizeOf165
 v53:=Tryz.zeroValue165
 t75:=Tryz.underlying42
 a75:=Tryz.isAgg42
 z75:=Tryz.sizeOf42
 v75:=Tryz.zeroValue42
 t85:=Tryz.underlying350
 a85:=Tryz.isAgg350
 z85:=Tryz.sizeOf350
 v85:=Tryz.zeroValue350
 t127:=Tryz.underlying64
 a127:=Tryz.isAgg64
 z127:=Tryz.sizeOf64
 v127:=Tryz.zeroValue64
 t143:=Tryz.underlying526
 a143:=Tryz.isAgg526
 z143:=Tryz.sizeOf526
 v143:=Tryz.zeroValue526
 t145:=Tryz.underlying528
 a145:=Tryz.isAgg528
 z145:=Tryz.sizeOf528
 v145:=Tryz.zeroValue528
 t167:=Tryz.underlying482
 a167:=Tryz.isAgg482
 z167:=Tryz.sizeOf482
 v167:=Tryz.zeroValue482
 t168:=Tryz.underlying485
 a168:=Tryz.isAgg485
 z168:=Tryz.sizeOf485
 v168:=Tryz.zeroValue485
 t171:=Tryz.underlying164
 a171:=Tryz.isAgg164
 z171:=Tryz.sizeOf164
 v171:=Tryz.zeroValue164
 t173:=Tryz.underlying168
 a173:=Tryz.isAgg168
 z173:=Tryz.sizeOf168
 v173:=Tryz.zeroValue168
 t175:=Tryz.underlying483
 a175:=Tryz.isAgg483
 z175:=Tryz.sizeOf483
 v175:=Tryz.zeroValue483
 t210:=Tryz.underlying516
 a210:=Tryz.isAgg516
 z210:=Tryz.sizeOf516
 v210:=Tryz.zeroValue516
 t212:=Tryz.underlying212
 a212:=Tryz.isAgg212
 z212:=Tryz.sizeOf212
 v212:=Tryz.zeroValue212
 t213:=Tryz.underlying213
 a213:=Tryz.isAgg213
 z213:=Tryz.sizeOf213
 t232:=Tryz.underlying321
 a232:=Tryz.isAgg321
 z232:=Tryz.sizeOf321
 v232:=Tryz.zeroValue321
 t233:=Tryz.underlying322
 a233:=Tryz.isAgg322
 z233:=Tryz.sizeOf322
 v233:=Tryz.zeroValue322
 g15:=by kernel_rfl
 g16:=by kernel_rfl
 g17:=by kernel_rfl
 g18:=by kernel_rfl
 g19:=by kernel_rfl
 t80:=Tryz.underlying48
 a80:=Tryz.isAgg48
 z80:=Tryz.sizeOf48
 v80:=Tryz.zeroValue48
 i0:=by kernel_rfl
 i2:=by kernel_rfl
 i3:=by kernel_rfl
 i4:=by kernel_rfl
 i5:=by kernel_rfl
 i9:=by kernel_rfl
 i20:=by kernel_rfl
 i21:=by kernel_rfl
 i37:=by kernel_rfl
 i46:=by kernel_rfl
 i51:=by kernel_rfl
 i53:=by kernel_rfl
 i75:=by kernel_rfl
 i80:=by kernel_rfl
 i85:=by kernel_rfl
 i127:=by kernel_rfl
 i143:=by kernel_rfl
 i145:=by kernel_rfl
 i167:=by kernel_rfl
 i168:=by kernel_rfl
 i171:=by kernel_rfl
 i173:=by kernel_rfl
 i175:=by kernel_rfl
 i210:=by kernel_rfl
 i212:=by kernel_rfl
 i232:=by kernel_rfl
 i233:=by kernel_rfl
 m15:=by kernel_rfl
 m16:=by kernel_rfl
 m17:=by kernel_rfl
 m18:=by kernel_rfl
 m19:=by kernel_rfl
 c0:=by kernel_rfl
 c2:=by kernel_rfl
 c3:=by kernel_rfl
 c4:=by kernel_rfl
 c5:=by kernel_rfl
 c9:=by kernel_rfl
 c20:=by kernel_rfl
 c21:=by kernel_rfl
 c37:=by kernel_rfl
 c46:=by kernel_rfl
 c51:=by kernel_rfl
 c53:=by kernel_rfl
 c75:=by kernel_rfl
 c80:=by kernel_rfl
 c85:=by kernel_rfl
 c127:=by kernel_rfl
 c143:=by kernel_rfl
 c145:=by kernel_rfl
 c167:=by kernel_rfl
 c168:=by kernel_rfl
 c171:=by kernel_rfl
 c173:=by kernel_rfl
 c175:=by kernel_rfl
 c210:=by kernel_rfl
 c212:=by kernel_rfl
 c213:=by kernel_rfl
 c232:=by kernel_rfl
 c233:=by kernel_rfl}
theorem Tryz.extraR:Builder.Extra Tryz.prog Tryz.rB where
 sizeBuilder:=by kernel_rfl
 liesBuilder:=by kernel_rfl
 t5:=Tryz.underlying5
 a5:=Tryz.isAgg5
 z5:=Tryz.sizeOf5
 v5:=Tryz.zeroValue5
 infoByte:=by kernel_rfl
 cellsByte:=by kernel_rfl
 sizeByte:=by kernel_rfl
 neB5:=by decide
theorem Tryz.extra:Builder.Extra Tryz.prog Tryz.rC where
 sizeBuilder:=by kernel_rfl
 liesBuilder:=by kernel_rfl
 t5:=Tryz.underlying5
 a5:=Tryz.isAgg5
 z5:=Tryz.sizeOf5
 v5:=Tryz.zeroValue5
 infoByte:=by kernel_rfl
 cellsByte:=by kernel_rfl
 sizeByte:=by kernel_rfl
 neB5:=by decide
namespace qu
theorem zcr (s qh new:ByteArray) (n m:Int) (w:lJ) (hs:s.size < 4294967281) (hm:w.cell? ⟨1,0,none⟩=some (.int .i64 m)) (U:1<=qh.size) (hlen:s.size+Lib.countB s qh*new.size<=140737488355328) :
  Calls Tryz.prog 14 #[.string s,.string qh,.string new,.int .i64 n] w fun e w'=>e=.returned (.string ⟨(Lib.replace s.data.toList qh.data.toList new.data.toList n).toArray⟩)/\Below w.heap.size w w' :=
 Any.strings_Replace Tryz.lays154 Tryz.extraR s qh new n m w hs hm U hlen
theorem fmt_run (n:Int) (h0 : -9223372036854775808<=n) (U:n<=9223372036854775807) (w:lJ) (ht:Lib.TabIs Tryz.prog w "internal/strconv.uint64pow10" .u64 Lib.pow10Tab) :
  Calls Tryz.prog 91 #[.int .i64 n,.int .i64 10] w fun e w'=>e=.returned (.string ⟨(Lib.itoa n).toArray⟩)/\∃ k os,w'=grow (w.drewN k) os :=
 Any.strconv_FormatInt_10 Tryz.lays173 n h0 U w ht
theorem zcs (n:Int) (h0 : -9223372036854775808<=n) (U:n<=9223372036854775807) (w:lJ) (ht:Lib.TabIs Tryz.prog w "internal/strconv.uint64pow10" .u64 Lib.pow10Tab) :
  Calls Tryz.prog 15 #[.int .i64 n] w fun e w'=>e=.returned (.string ⟨(Lib.itoa n).toArray⟩)/\∃ k os,w'=grow (w.drewN k) os :=
 Any.strconv_Itoa Tryz.lays171 n h0 U w ht
set_option maxHeartbeats 1000000 in
set_option maxRecDepth 100000 in
theorem ri (s:ByteArray) (c:Int) (w:lJ) :
  Calls Tryz.prog 82 #[.string s,.int .u8 c] w fun e w'=>e=.returned (.int .i64 (Lib.indexByte s.data.toList c.toNat.toUInt8))/\w'=w:=by
 go_enter Tryz.func82,Tryz.ntmps82
 go_wp2
 rw[run_callFunc_extern Tryz.func121 (by kernel_rfl) (by kernel_rfl) (by kernel_rfl) (e:=Extern.BytealgIndexByte.indexByte) (by kernel_rfl),Lib.run_indexByteString];simp only[Result.andThen];rw[Oper.upon_value]
 go_wp2
 go_ret
 exact⟨rfl,rfl⟩
theorem zct (bk o c:Nat) (Z:List ByteArray) (sep:ByteArray) (w:lJ)
  (rL:∀ (j:Nat) x,Z[j]?=some x->w.cell? ⟨bk,o+j,none⟩=some (.string x)) (hbk:bk < w.heap.size) (hN:Z.length<=140737488355328) (qJ:Z.length<=c)
  (hlen:(Lib.join (Z.map (·.data.toList)) sep.data.toList).length<=140737488355328) :
  Calls Tryz.prog 262 #[.slice (some ⟨bk,o,none⟩) Z.length c,.string sep] w fun e w'=>e=.returned (.string ⟨(Lib.join (Z.map (·.data.toList)) sep.data.toList).toArray⟩)/\Below w.heap.size w w' :=
 Any.strings_Join Tryz.lays156 Tryz.extra bk o c Z sep w rL hbk hN qJ hlen
theorem xu (s sub:ByteArray) (m:Int) (w:lJ) (hs:s.size < 4294967281) (hm:w.cell? ⟨1,0,none⟩=some (.int .i64 m)) (H:2<=sub.size) :
  Calls Tryz.prog 30 #[.string s,.string sub] w fun e w'=>e=.returned (.int .i64 (Lib.countB s sub))/\w'=w :=
 Any.strings_Count Tryz.lays138 s sub m w hs hm H
theorem idx_run (s sub:ByteArray) (m:Int) (w:lJ) (hs:s.size < 4294967281) (hm:w.cell? ⟨1,0,none⟩=some (.int .i64 m)) :
  Calls Tryz.prog 56 #[.string s,.string sub] w fun e w'=>e=.returned (.int .i64 (Lib.index s.data.toList sub.data.toList))/\w'=w :=
 Any.stringslite_Index Tryz.lays219 s sub m w hs hm
theorem zcu (te:lP) (pe:lK) (w:lJ) (hv:w.cell? ⟨15,0,none⟩=some (.iface te pe)) :
  Calls Tryz.prog 222 #[.string ⟨#[]⟩,.int .i64 10,.int .i64 64] w fun e w'=>(∃ v,e=.returned (.tuple #[.int .i64 0,.iface 485 v]))/\Go.Ab.nR w w':=by
 refine (Any.strconv_ParseInt_10_at64_syntax Tryz.vg ⟨#[]⟩ (by decide) rfl (.iface te pe) w hv (.inr ⟨te,pe,rfl⟩)).mono ?_;rintro e w' ⟨N,rfl,_,_,hb⟩;exact⟨⟨_,rfl⟩,Go.Ab.nd hb⟩
theorem int_ok (s:ByteArray) (v:Int) (w:lJ) (hs:s.size<=65536) (h:Lib.parseIntB 64 s.data.toList=.ok v) :
  Calls Tryz.prog 222 #[.string s,.int .i64 10,.int .i64 64] w fun e w'=>e=.returned (.tuple #[.int .i64 v,.nilIface])/\Go.Ab.nR w w':=by
 refine (Any.strconv_ParseInt_10_at64_ok Tryz.vg s (by omega) v h w).mono ?_;rintro e w' ⟨rfl,hw⟩;refine⟨rfl,?_⟩;rcases hw with rfl | ⟨t,rfl⟩;{exact Go.Ab.na _};{exact Go.Ab.nd (Lib.bytesWorld_below _ _ _)}
end qu
end Go.Proofs


namespace Go.Proofs.rD
open Go
abbrev link:Go.Conc.Locks.MuLink:={lock:=378,unlock:=379,ilock:=381,iunlock:=382,lockSlow:=389,unlockSlow:=392,disable:=385,enable:=387,acquire:=388,relMerge:=390,cas32:=386,add32:=391,tIMutex:=457,tMutex:=459,tPMutex:=537,tPIMutex:=540,tPI32:=542,tUP:=110,tNoCopy:=453,tU32:=208}
theorem lib:Go.Conc.Locks.MuLib Tryz.prog link :=
 ⟨Tryz.func378,Tryz.func379,Tryz.func381,Tryz.func382,Tryz.func385,Tryz.func387,Tryz.func388,Tryz.func390,Tryz.func386,Tryz.func391,Tryz.underlying457,Tryz.runUnderlying457,Tryz.sizeOf457,Tryz.isAgg457,Tryz.zeroValue457,Tryz.underlying459,Tryz.runUnderlying459,Tryz.sizeOf459,Tryz.isAgg459,Tryz.zeroValue459,Tryz.underlying537,Tryz.runUnderlying537,Tryz.sizeOf537,Tryz.isAgg537,Tryz.zeroValue537,Tryz.underlying540,Tryz.runUnderlying540,Tryz.sizeOf540,Tryz.isAgg540,Tryz.zeroValue540,Tryz.underlying542,Tryz.runUnderlying542,Tryz.sizeOf542,Tryz.isAgg542,Tryz.zeroValue542,Tryz.underlying110,Tryz.runUnderlying110,Tryz.sizeOf110,Tryz.isAgg110,Tryz.zeroValue110,Tryz.underlying453,Tryz.runUnderlying453,Tryz.sizeOf453,Tryz.isAgg453,Tryz.zeroValue453,Tryz.underlying21,Tryz.runUnderlying21,Tryz.sizeOf21,Tryz.isAgg21,Tryz.zeroValue21,(by kernel_rfl)⟩
theorem load (a:Addr) (y:Int) (w:lJ) (h:w.cell? a=some (.int .u32 y)):(callFunc 377 #[.pointer (some a)]).run Tryz.prog w=.ok (.value (.int .u32 y)) w :=
 run_call_load (P:=Tryz.prog) Tryz.func377 (by kernel_rfl) (by kernel_rfl) (by kernel_rfl) .u32 (by kernel_rfl) h
theorem store (a:Addr) (y0 y:Int) (w:lJ) (h:w.cell? a=some (.int .u32 y0)) (hz:w.frozen? a=false):(callFunc 383 #[.pointer (some a),.int .u32 y]).run Tryz.prog w=.ok (.value (.tuple #[])) (w.setCell a (.int .u32 y)) :=
 run_call_store (P:=Tryz.prog) Tryz.func383 (by kernel_rfl) (by kernel_rfl) (by kernel_rfl) (by kernel_rfl) h hz
theorem lock (a:Addr) (w:lJ) (h:w.cell? a=some (.int .i32 0)) (hz:w.frozen? a=false):Calls Tryz.prog 381 #[.pointer (some a)] w fun e w'=>e=.returned (.tuple #[])/\w'=w.setCell a (.int .i32 1):=Go.MuLone.ilock_free lib a w h hz
theorem unlock (a:Addr) (w:lJ) (h:w.cell? a=some (.int .i32 1)) (hz:w.frozen? a=false):Calls Tryz.prog 382 #[.pointer (some a)] w fun e w'=>e=.returned (.tuple #[])/\w'=w.setCell a (.int .i32 0):=Go.MuLone.iunlock_held lib a w h hz
theorem load64 (a:Addr) (y:Int) (w:lJ) (h:w.cell? a=some (.int .i64 y)):(callFunc 79 #[.pointer (some a)]).run Tryz.prog w=.ok (.value (.int .i64 y)) w :=
 run_call_load (P:=Tryz.prog) Tryz.func79 (by kernel_rfl) (by kernel_rfl) (by kernel_rfl) .i64 (by kernel_rfl) h
theorem store64 (a:Addr) (y0 y:Int) (w:lJ) (h:w.cell? a=some (.int .i64 y0)) (hz:w.frozen? a=false):(callFunc 71 #[.pointer (some a),.int .i64 y]).run Tryz.prog w=.ok (.value (.tuple #[])) (w.setCell a (.int .i64 y)) :=
 run_call_store (P:=Tryz.prog) Tryz.func71 (by kernel_rfl) (by kernel_rfl) (by kernel_rfl) (by kernel_rfl) h hz
theorem sum64 (x y:Int) (w:lJ):(Op.intArith .add .i64 x y).run Tryz.prog w=.ok (.int .i64 (IntKind.i64.wrap (x+y))) w:=by kernel_rfl
theorem add (a:Addr) (x d:Int) (w:lJ) (h:w.cell? a=some (.int .i64 x)) (hz:w.frozen? a=false):(callFunc 131 #[.pointer (some a),.int .i64 d]).run Tryz.prog w=.ok (.value (.int .i64 (IntKind.i64.wrap (x+d)))) (w.setCell a (.int .i64 (IntKind.i64.wrap (x+d)))) :=
 run_call_add (P:=Tryz.prog) Tryz.func131 (by kernel_rfl) (by kernel_rfl) (by kernel_rfl) .i64 (by kernel_rfl) h hz (sum64 x d w)
end Go.Proofs.rD

