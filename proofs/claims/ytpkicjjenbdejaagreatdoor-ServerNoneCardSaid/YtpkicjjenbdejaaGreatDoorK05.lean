/- Part 5 of a proof: laws of a machine. -/
import Derived.Test.YtpkicjjenbdejaaGreatDoorK04
import Derived.Test.YtpkicjjenbdejaaGreatDoorK03
import Derived.RowKit
import Derived.Lib.AppendIntMem
import Derived.Lib.CountLaws
import Derived.Lib.Replace
import Derived.Lib.ItoaNum
import Derived.Conc.MuLone
import Derived.Lib.Join
import Derived.Test.YtpkicjjenbdejaaGreatDoorProg
import Derived.Test.YtpkicjjenbdejaaGreatDoorK01
import Derived.KernelRfl
import Derived.Lib.IndexMore
import Derived.Lib.ParseIntB
import Derived.Lib.ConvBytes
import Derived.IntWalk
import Derived.WalkKit
import Derived.LaidEql
import Derived.Stop.Asserts
import Derived.RowKitTokens
import Derived.Lib.Builder
import Derived.Lib.UnsafeStr
import Derived.Lib.Bytealg
import Derived.Lib.AppendZerosOnto
import Derived.Lib.Walk
import Derived.Lib.SliceRun
import Derived.Laws.Externs
import Derived.Shelf.RegionOpenPlain
import Derived.Shelf.Strconv.Itoa3
import Derived.Shelf.Strconv.Itoa4
import Derived.Shelf.Strings.OnBuilder
import Derived.Shelf.Strings.Replace
import Derived.Shelf.Strings.Count
import Derived.Shelf.Strings.Search2
import Derived.Shelf.Strconv.ParseIntPublic10
import Derived.Lib.Strings
import Derived.Laws.LoneSync
set_option linter.all false

namespace Go.Ab
variable{E R:Type} {M:AC} {T:fa} {d dep nt:Nat} {l:fc} {op:Ak} {ops:fq} {σ:Nm->fe} {K:Nat->Option R} {h:AB E} {r:R}
variable {cfg:CR} {fK:eU->fk}
theorem rG (hp:Lm op=true) {out:Ai} (h:exec d σ T op=some out):out={v:=out.v}:=by
 have hm:∀ {x:ft},(x.map fun v=>({v:=v}:Ai))=some out->out={v:=out.v}:=by intro x H;obtain⟨v,_,rfl⟩:=bB.1 H;rfl
 have hcm:∀ {b:Bool} {x:ft},Ap b (x.map fun v=>({v:=v}:Ai))=some out->out={v:=out.v}:=by intro b x H;exact hm (CH H).2
 have hc:∀ {b:Bool} {v:PV},Ap b (some ({v:=v}:Ai))=some out->out={v:=out.v}:=by intro b v H;obtain⟨_,H⟩:=CH H;cases H;rfl
 cases op with
 | box | alloc | kr | store | mkF | mkMap | insert | po | append | copy | call | iter | next | bad=>simp[Lm] at hp
 | mov x=>cases h;rfl
 | mkI t x=>cases h;rfl
 | bin op c kc x y=>exact hm h
 | slice k x lo hi mx=>exact hm h
 | len c x =>
  simp only[exec] at h;obtain⟨n,_,rfl⟩:=bB.1 h;rfl
 | pick c a b | conv k x | iU x | jG x | un op x | nilck x=>simp only[exec] at h;split at h<;>first | (cases h;rfl) | cases h
 | build z ps=>simp only[exec] at h;split at h<;>first | (cases h;rfl) | cases h
 | il x=>simp only[exec] at h;split at h<;>first | exact hc h | cases h
 | field off n ag x=>simp only[exec] at h;split at h<;>first | exact hm h | cases h
 | fieldAddr off x=>simp only[exec] at h;split at h<;>first | exact hc h | (cases h;rfl) | cases h
 | hJ k l x i=>simp only[exec] at h;split at h<;>first | exact hc h | cases h
 | ofBytes x | iV x i | extract j x | ij mx Z | ic k x i | gM x lo hi =>
  simp only[exec] at h;split at h
  all_goals first
   |(cases h;done)
   | exact hc h
   |(obtain⟨n,_,rfl⟩:=bB.1 h;rfl)
   |(split at h<;>first | (cases h;done) | exact hc h | (cases h;rfl) | (split at h<;>first | (cases h;done) | (cases h;rfl)))
 | gZ t z ok x =>
  simp only[exec] at h;split at h
  ·split at h;·cases h;rfl
   {exact hc h}
  {exact hc h};·cases h
 | lookup c z ok x k =>
  simp only[exec] at h;split at h;·cases h
  ·split at h;·cases h
   {exact hc h}
 | load n ag x =>
  simp only[exec] at h;split at h;{split at h;{exact hm h};·cases h};{exact hm h};{split at h;{split at h;{exact hcm h};·cases h};{cases h}};{cases h}
theorem U0 (V:St) (dst:fb) (v:PV):apply V dst {v}=JC dst v [] V:=by rw[Tg];simp[Kn,Ku,Mg,Km,qZ,Nw]
theorem rH:∀ (l:fq),(∀ o∈l,Lm o.op=true)->∀ {V st':St} {e e':E},CX M h dep ops l V e=some (st',e') ->
  e'=e/\st'.fA=V.fA/\st'.fD=V.fD/\st'.tmps.length=V.tmps.length/\∀ i,i ∉ l.filterMap (·.dst)->st'.tmps[i]?=V.tmps[i]?:=by
 intro l;induction l with
 | nil=>intro _ V st' e e' h;cases h;exact⟨rfl,rfl,rfl,rfl,fun _ _=>rfl⟩
 | cons o rest ih =>
  intro hp V st' e e' h;simp only[CX] at h;split at h
  case h_2=>cases h
  rename_i s1 e1 hs;have gL:e1=e/\∃ v,s1=JC o.dst v [] V:=by unfold stepG at hs;split at hs;{unfold Hv at hs;split at hs;{rename_i out e2 ho;cases hs;unfold Br at ho;obtain⟨_,ho⟩:=CH ho;have hpo:=hp o (by simp);split at ho;{rename_i f args kA;rw[kA] at hpo;simp[Lm] at hpo};{split at ho;{rename_i lY H;cases ho;have:=rG hpo H;refine⟨rfl,out.v,?_⟩;rw[this,U0]};{cases ho}}};{cases hs}};{cases hs;exact⟨rfl,_,U0 _ _ _⟩};{cases hs}
  obtain⟨rfl,v,rfl⟩:=gL;obtain⟨a,b,c,d,f⟩:=ih (fun o' mJ=>hp o' (by simp[mJ])) h;refine⟨a,?_,?_,?_,?_⟩;{rw[b];cases o.dst<;>rfl};{rw[c];cases o.dst<;>rfl};{rw[d];cases o.dst<;>simp[JC]}
  ·intro i hi
   have tG:i ∉ rest.filterMap (·.dst):=fun hm=>hi (by
    simp only[dJ] at hm |-;obtain⟨o',mJ,hd⟩:=hm;exact⟨o',by simp[mJ],hd⟩)
   rw[f i tG];cases hd:o.dst with
   | none=>rfl
   | some t =>
    have gj:t≠i:=fun e=>hi (by
     simp only[dJ];exact⟨o,by simp,by rw[hd,e]⟩)
    simp only[JC];rw[bR gj]
theorem Z5 {V st':St} (U:st'.fA=V.fA) (O:st'.fD=V.fD) (hl:st'.tmps.length=V.tmps.length) (h3:∀ i,i∈l->st'.tmps[i]?=V.tmps[i]?):EC (some l) st'=EC (some l) V:=by
 have:Fz l st'=Fz l V:=by
  unfold Fz;obtain⟨t',o',k'⟩:=st';obtain⟨t,o,k⟩:=V;simp only at U O hl h3;subst U;subst O;have hl:t'.length=t.length:=hl;congr 1;show (t'.zipIdx.map fun (x:PV×Nat)=>if l.contains x.2 then x.1 else .undef)=t.zipIdx.map fun (x:PV×Nat)=>if l.contains x.2 then x.1 else .undef
  apply cj;intro i;rw[bK,bK,cM,cM];by_cases hi:i∈l;{rw[h3 i hi]}
  ·by_cases gI:i < t.length
   {rw[bQ gI,bQ (by omega)];simp[hi]};{rw[cg (by omega),cg (by omega)]}
 unfold EC;simp only[this]
theorem wc {k0 ks:Ao} (h:ks.Ok):(Jn k0 ks).Ok/\(Jn k0 ks).nt=ks.nt:=by unfold Jn;obtain⟨U,O⟩:=S9 h (Fg k0.tmps);obtain⟨h3,h4,h5⟩:=KL O (HP {ks with tmps:=EN (Fg k0.tmps) ks.tmps});exact⟨h4,h5⟩
theorem rI:∀ (ps:fc) (args:fa) (i:Nat) {tm:Sp},Bo nt tm->(∀ p∈ps,p < nt)->Az args=true->Bo nt (H3 ps args i tm):=by
 intro ps;induction ps with
 | nil=>intro args i tm h _ _;exact h
 | cons p ps ih =>
  intro args i tm h hp ha;simp only[H3];refine ih args (i+1) (h.put (hp p (by simp)) ?_ rfl) (fun q hq=>hp q (by simp[hq])) ha;show As (AL args i)=true;unfold AL;rw[bF];cases hg:args[i]? with
  | none=>rfl
  | some v=>exact Hm ha hg
theorem rJ:∀ (ps:fc) (args:fa) (i:Nat) {tm:Sp},i+ps.length=args.length->Bc nt (H3 ps args i tm)=FG ps (args.drop i) (Bc nt tm):=by
 intro ps;induction ps with
 | nil=>intro args i tm _;simp[H3,FG]
 | cons p ps ih =>
  intro args i tm hl;simp only[ct] at hl;have hd:args.drop i=args[i]'(by omega) :: args.drop (i+1):=dN (by omega);rw[hd];simp only[H3,FG];rw[ih args (i+1) (by omega),OZ];have:AL args i=args[i]'(by omega):=by unfold AL;rw[bF,bQ (by omega)];rfl
  rw[<-this];rfl
theorem aO:∀ {l:fc} {p:Option Ex},Rc l p K=some r->∃ id,p=some (.exit id)/\K id=some r:=by
 intro l;induction l with
 | nil=>intro p h;cases h
 | cons id l ih =>
  intro p h;simp only[Rc] at h;rcases JO h with ⟨U,O⟩ | ⟨_,O⟩
  {refine⟨id,?_,O⟩;unfold Yq at U;split at U;{rename_i jH;rw[ch U]};·cases U};{exact ih O}
def we (sp:Sp) (k3:Ao):fa:=Bc k3.nt sp
theorem Tf (hc:DK cfg fK):∀ (c:AU) {E R:Type} {h:AB E} {hn:Nat->AB E} (_:HOk h hn) (dep:Nat) {ks:Ao} {e:E} {K:Ex->Ao->E->Option R} {r:R},ks.Ok->Cp cfg c h dep ks e K=some r ->
  ∃ x k' e',K x k' e'=some r/\k'.Ok/\AS fun n=>At (Co cfg.b.sp fK n) n c (hn n) dep ks.V e=some (x,k'.V,e'):=by
 intro c;induction c with
 | skip=>intro E R h hn hh dep ks e K r hk hr;exact⟨_,_,_,hr,hk,.of fun n=>rfl⟩
 | region ops dr lv =>
  intro E R h hn hh dep ks e K r hk hr;obtain⟨c1,c2,_⟩:=KL hk (Bx ops);cases dr with
  | none =>
   simp only[Cp] at hr;rw[CD] at hr;split at hr
   ·rename_i t iJ;obtain⟨z,hz,hr⟩:=Cj hr;rw[CD] at hr;obtain⟨k1,e1,hz2,gS,U⟩:=S7 (dep:=dep) hc hh ops c2 hz;unfold XQ at iJ;split at iJ
    case isFalse=>cases iJ
    rename_i kH;simp only[bz] at kH;cases lv with
    | none=>cases iJ
    | some l =>
    simp only at iJ;split at iJ
    case h_2=>cases iJ
    rename_i t' hfil;cases iJ;have hpure:∀ o∈ops,Lm o.op=true:=bI.1 kH.2;have hzok:As z=true:=KV.jf (gS.tm.hZ t) hz2;have htlt:t < k1.nt:=by apply dw;intro gI;rw[gS.tm.kR (by omega)] at hz2;cases hz2
    obtain⟨m,hm⟩:=U;have tJ:=hm m (bD _);obtain⟨rfl,p2,p3,p4,p5⟩:=rH ops hpure tJ;have lD:k1.nt=(Dc (Bx ops) ks).nt:=by have:k1.V.tmps.length=(Dc (Bx ops) ks).V.tmps.length:=p4;have a1:k1.V.tmps.length=k1.nt:=Dk _ _;have a2:(Dc (Bx ops) ks).V.tmps.length=(Dc (Bx ops) ks).nt:=Dk _ _;omega
    have lJ:({Dc (Bx ops) ks with tmps:=Cn t (.cv z) (Dc (Bx ops) ks).tmps}:Ao).Ok:=⟨c2.tm.put (by omega) hzok rfl,c2.ob,c2.kp⟩;obtain⟨t1,t2⟩:=Pc lJ (some l);refine⟨_,_,_,hr,t2,⟨m,fun n ik=>?_⟩⟩;have hb:=hm n ik;rw[c1] at hb;simp only[At,hb,t1];have:EC (some l) k1.V=EC (some l) ({Dc (Bx ops) ks with tmps:=Cn t (.cv z) (Dc (Bx ops) ks).tmps}:Ao).V:=by refine Z5 (st':=k1.V) (V:=({Dc (Bx ops) ks with tmps:=Cn t (.cv z) (Dc (Bx ops) ks).tmps}:Ao).V) p2 p3 ?_ fun i hi=>?_;{rw[p4];show (Bc _ _).length=(Bc _ _).length;rw[Dk,Dk]};{show k1.V.tmps[i]?=(Bc _ (Cn t (.cv z) _))[i]?;rw[OZ];by_cases hit:i=t;{subst hit;rw[cB (by rw[Dk];show i < (Dc (Bx ops) ks).nt;omega)];show (Bc k1.nt k1.tmps)[i]?=_;rw[gx,eH htlt,KV.iE hz2];rfl};{rw[bR (bW hit)];refine p5 i fun jq=>hit ?_;have:i∈l.filter fun t=>(ops.filterMap (·.dst)).contains t:=cE.2 ⟨hi,by simpa using jq⟩;rw[hfil] at this;simpa using this}}
    rw[this]
   {obtain⟨k1,e1,hr,gS,U⟩:=S7 (dep:=dep) hc hh ops c2 hr;rw[CD] at hr;obtain⟨t1,t2⟩:=Pc gS lv;rw[c1] at U;exact⟨_,_,_,hr,t2,U.mono fun n ik=>by simp only[At,ik,t1]⟩}
  | some jF =>
   simp only[Cp] at hr;rw[CD] at hr;obtain⟨k1,e1,hr,gS,U⟩:=rC (dep:=dep) hc hh jF [] c2 hr;rw[CD] at hr;obtain⟨t1,t2⟩:=Pc gS lv;rw[c1] at U;exact⟨_,_,_,hr,t2,U.mono fun n ik=>by simp only[At,ik,t1]⟩
 | seq a b lE lF =>
  intro E R h hn hh dep ks e K r hk hr;simp only[Cp] at hr;obtain⟨x,k1,e1,hr,gS,U⟩:=lE hh dep hk hr;cases x with
  | normal =>
   obtain⟨x2,k2,e2,hr,ka,O⟩:=lF hh dep gS hr;exact⟨_,_,_,hr,ka,U.je O fun n a b=>by simp only[At,a,b]⟩
  | exit id=>exact⟨_,_,_,hr,gS,U.mono fun n a=>by simp only[At,a]⟩
  | ret=>exact⟨_,_,_,hr,gS,U.mono fun n a=>by simp only[At,a]⟩
 | cond c a b lE lF =>
  intro E R h hn hh dep ks e K r hk hr;simp only[Cp] at hr;have fG:=FF hk c;split at hr;{rename_i hv;obtain⟨x,k1,e1,hr,gS,U⟩:=lE hh dep hk hr;exact⟨_,_,_,hr,gS,U.mono fun n a=>by simp only[At,fG,hv,KV.pv,a]⟩};{rename_i hv;obtain⟨x,k1,e1,hr,gS,U⟩:=lF hh dep hk hr;exact⟨_,_,_,hr,gS,U.mono fun n a=>by simp only[At,fG,hv,KV.pv,a]⟩}
  ·rename_i v hv;rcases OQ hr with ⟨rfl,hr⟩ | ⟨rfl,hr⟩
   {obtain⟨x,k1,e1,hr,gS,U⟩:=lE hh dep hk hr;exact⟨_,_,_,hr,gS,U.mono fun n a=>by simp only[At,fG,hv,KV.pv,a]⟩};{obtain⟨x,k1,e1,hr,gS,U⟩:=lF hh dep hk hr;exact⟨_,_,_,hr,gS,U.mono fun n a=>by simp only[At,fG,hv,KV.pv,a]⟩}
  {cases hr}
 | block id b ih =>
  intro E R h hn hh dep ks e K r hk hr;simp only[Cp] at hr;obtain⟨x,k1,e1,hr,gS,U⟩:=ih hh dep hk hr;cases x with
  | normal=>exact⟨_,_,_,hr,gS,U.mono fun n a=>by simp only[At,a]⟩
  | ret=>exact⟨_,_,_,hr,gS,U.mono fun n a=>by simp only[At,a]⟩
  | exit jH =>
   simp only at hr;split at hr;{rename_i hid;exact⟨_,_,_,hr,gS,U.mono fun n a=>by simp only[At,a,hid,eF]⟩};{rename_i hid;exact⟨_,_,_,hr,gS,U.mono fun n a=>by simp only[At,a,hid,eE]⟩}
 | loop gp grow b ih =>
  intro E R h hn hh dep ks e K r hk hr;simp only[Cp] at hr;obtain⟨k0,hr,hk0,qC,kN⟩:=S8 hk hr;rw[CD] at hr;obtain⟨hU,hr⟩:=A8 hr;split at hr;·cases hr
  rename_i jR;have jR:Md k0 k0=true:=US (by simpa using jR);obtain⟨m,hm⟩:=aJ hr
  have key:∀ (m:Nat) (A:fa) (e:E),(BV k0 A).Ok->vr (fun s:fa×E=>BX (BV k0 s.1) fun ks=>Cp cfg b h dep ks s.2 (PP gp grow k0 K)) m (A,e)=some r ->
    ∃ x k' e',K x k' e'=some r/\k'.Ok/\AS fun n=>∀ j,m<=j->CW (Fa (Co cfg.b.sp fK n) n gp grow b (hn n) dep (gi k0.V)) j ((BV k0 A).V,e)=some (x,k'.V,e'):=by
   intro m;induction m with
   | zero=>intro A e _ h0;cases h0
   | succ m ihm =>
    intro A e mM hm;unfold vr at hm;simp only at hm;rw[CD] at hm;cases hs:Cp cfg b h dep (BV k0 A) e (PP gp grow k0 K) with
    | none =>
     rw[hs] at hm;cases hm
    | some q =>
     rw[hs] at hm;obtain⟨x,k1,e1,hq,gS,U⟩:=ih hh dep mM hs
     have kO:∀ y,y≠Ex.normal->x=y->(AF (K y k1 e1) fun r=>some (Sum.inr r))=some q->∃ x k' e',K x k' e'=some r/\k'.Ok/\AS fun n=>∀ j,m+1<=j->CW (Fa (Co cfg.b.sp fK n) n gp grow b (hn n) dep (gi k0.V)) j ((BV k0 A).V,e)=some (x,k'.V,e'):=by
      intro y hy hxy hq;obtain⟨r',qD,hq⟩:=Cj hq;cases hq;cases hm;refine⟨y,k1,e1,qD,gS,U.mono fun n ik j hj=>?_⟩;obtain⟨j,rfl⟩:∃ i,j=i+1:=⟨j - 1,by omega⟩;rw[Ow];subst hxy;cases x with
      | normal=>exact eQ rfl hy
      | exit id=>simp only[Fa,ik,J2]
      | ret=>simp only[Fa,ik,J2]
     cases x with
     | exit id=>exact kO (.exit id) (by simp) rfl hq
     | ret=>exact kO .ret (by simp) rfl hq
     | normal =>
      unfold PP at hq;simp only at hq;obtain⟨d1,d2⟩:=wc (k0:=k0) gS;obtain⟨k2,hq,ka,hnt2,hst2⟩:=S8 d1 hq;rw[CD] at hq;split at hq;{rename_i wg;obtain⟨wh,hq⟩:=SQ hq;have lg:=SI wg wh;cases hq;obtain⟨f1,f2,f3,f4⟩:=OV lg hk0 ka;obtain⟨g1,_,_⟩:=v7 hk0 hU gS (by omega);obtain⟨x3,k3,e3,oN,hk3,h3⟩:=ihm _ _ f2 hm;refine⟨x3,k3,e3,oN,hk3,U.je h3 fun n hn1 hn3 j hj=>?_⟩;obtain⟨j,rfl⟩:∃ i,j=i+1:=⟨j - 1,by omega⟩;rw[Ow];have:=hn3 j (by omega);rw[f1,hst2,g1] at this;simp only[Fa,hn1,J2];exact this};{cases hq}
  obtain⟨s1,s2,_,_⟩:=OV (p:=k0) (x:=k0) jR hk0 hk0;obtain⟨x,k',e',qD,lf,fG⟩:=key m _ e s2 hm;refine⟨x,k',e',qD,lf,fG.diag.mono fun n ik=>?_⟩;rw[s1,kN] at ik;rw[VN,ik]
 | rangeFunc f ps gp b lE lF =>
  intro E R h hn hh dep ks e K r hk hr;simp only[Cp] at hr;split at hr
  case h_2=>cases hr
  rename_i fv n6;split at hr
  case isFalse=>cases hr
  rename_i sK;simp only[bz] at sK;obtain⟨⟨sK,hself0⟩,hxf⟩:=sK;have jR:=US hself0;have hpslt:∀ p∈ps,p < ks.nt:=fun p hp=>by have:=bI.1 sK p hp;simpa[cr] using this
  obtain⟨⟨A,p,e2⟩,kj,l6⟩:=Cj hr;clear hr;rw[CD] at l6;simp only at l6;unfold vy at kj;split at kj
  case h_2=>cases kj
  rename_i g cap;split at kj
  case h_2=>cases kj
  rename_i rv obs rr hL;cases kj;rw[hc.L] at hL;obtain⟨m,hm⟩:=MU hL;have hm:=hm m (bD _);obtain⟨s1,s2,_,_⟩:=OV (p:=ks) (x:=ks) jR hk hk
  obtain⟨⟨fZ,p2,gW⟩,na,fG⟩:=Si (sp:=cfg.b.sp) (fK:=fK) m (vF E) (Dj E)
   (fun a b=>a.2.1=b.2.1/\a.2.2=b.2.2/\(BV ks a.1).Ok/\(BV ks a.1).V=b.1) _ (fun n=>GT (Co cfg.b.sp fK n) n gp b (hn n) dep ps) (by
    rintro l args ⟨A,p,e⟩ ⟨s,p',e'⟩ ⟨U,O,h3,h4⟩ bb ⟨sW,q,e1⟩ hq;simp only at U O h3 h4;subst U;subst O;subst h4;unfold Yg at hq;unfold GT;by_cases hl:l=dep
    ·simp only[hl,eF] at hq |-;cases p with
     | some x=>cases hq
     | none =>
      simp only at hq |-;obtain⟨gV,hq⟩:=A8 hq;unfold vo at gV;simp only[bz,eJ] at gV;rw[CD,CD] at hq;have lD:(BV ks A).nt=ks.nt:=rfl
      have gS:({BV ks A with tmps:=H3 ps args 0 (BV ks A).tmps,fD:=(BV ks A).tmps :: (BV ks A).fD}:Ao).Ok :=
       ⟨rI ps args 0 h3.tm hpslt gV.2,h3.ob,fun sp gR=>(bE.1 gR).elim (fun e=>e ▸ h3.tm) (h3.kp sp)⟩
      have hk1st:({BV ks A with tmps:=H3 ps args 0 (BV ks A).tmps,fD:=(BV ks A).tmps :: (BV ks A).fD}:Ao).V={(BV ks A).V with tmps:=FG ps args (BV ks A).V.tmps,fD:=(BV ks A).V.tmps++(BV ks A).V.fD}:=by
       unfold Ao.V;simp only
       rw[rJ ps args 0 (by omega)];simp
      obtain⟨x1,k2,e3,hq,ka,ha⟩:=lE hh (dep+1) gS hq;cases x1 with
      | exit id=>cases hq
      | ret=>cases hq
      | normal =>
       simp only at hq;obtain⟨x2,k3,e4,hq,hk3,hb⟩:=lF hh (dep+1) ka hq;split at hq
       case h_1=>cases hq
       rename_i sp kp gX;rw[CD] at hq;split at hq
       case isFalse=>cases hq
       rename_i wg;obtain⟨wh,hq⟩:=SQ hq;have lg:=SI wg wh;cases hq;have hk4:({k3 with tmps:=sp,fD:=kp}:Ao).Ok:=⟨hk3.kp sp (by rw[gX];simp),hk3.ob,fun q hq=>hk3.kp q (by rw[gX];simp[hq])⟩;obtain⟨f1,f2,f3,f4⟩:=OV lg hk hk4;have f5:ks.nt=k3.nt:=f4;refine⟨({tmps:=we sp k3,fA:=k3.V.fA,fD:=kp.flatMap (Bc k3.nt)},vD x2,e1),⟨rfl,rfl,f2,?_⟩,ha.je hb fun n hn1 hn2=>?_⟩;·rw[f1];rfl
       ·simp only[gV.1,eF];rw[<-hk1st,hn1];simp only
        rw[hn2];simp only
        have oe:k3.V.fD=Bc k3.nt sp++kp.flatMap (Bc k3.nt):=by show k3.fD.flatMap (Bc k3.nt)=_;rw[gX];rfl
        have hlen:(BV ks A).V.tmps.length=(Bc k3.nt sp).length:=by show (Bc ks.nt _).length=_;rw[Dk,Dk];exact f5
        rw[oe,hlen,List.take_left,List.drop_left];cases x2<;>rfl
    ·simp only[hl,eE] at hq |-;split at hq
     ·rename_i b2 e3 h6;cases hq;exact⟨_,⟨rfl,rfl,h3,rfl⟩,(hh _ _ _ _ h6).mono fun n ik=>by rw[ik]⟩
     ·cases hq) (dep+1) (AG g) (A7 g [.fT dep] cap) (D9 ks ks,none,e) (ks.V,none,e) ⟨rfl,rfl,s2,s1⟩ rv obs _ hm
  simp only at na;obtain⟨U,O,h3,h4⟩:=na;subst U;subst O;subst h4;have mm:f.ev ks.V.tmps=.fn g cap:=by rw[FF hk,KV.iE n6]
  have kY:(PV.fn g cap).names=[]:=by exact (DS (KV.jf (LM hk hxf) n6)).1
  have wi:AS fun n=>At (Co cfg.b.sp fK n) n (.rangeFunc f ps gp b) (hn n) dep ks.V e=some (p.getD .normal,(BV ks A).V,e2):=fG.mono fun n ik=>by
   rw[UA,mm];have hz:Ih (Co cfg.b.sp fK n) (.fn g cap)=false:=by show (_&&!(Al cap).isEmpty)=false;rw[show Al cap=[] from kY];simp
   rw[eG (by rw[hz];simp)];unfold IY;rw[kY];simp only[dg,eF];simp only[Co,AI] at ik |-;rw[ik]
  rcases JO l6 with ⟨hp,l6⟩ | ⟨_,l6⟩
  ·cases p with
   | some x=>cases hp
   | none=>exact⟨_,_,_,l6,h3,wi⟩
  ·rcases JO l6 with ⟨hp,l6⟩ | ⟨_,l6⟩
   {unfold vq at hp;split at hp;{exact⟨_,_,_,l6,h3,wi⟩};·cases hp};{obtain⟨id,ug,oN⟩:=aO l6;subst ug;exact⟨_,_,_,oN,h3,wi⟩}
 | exit id=>intro E R h hn hh dep ks e K r hk hr;exact⟨_,_,_,hr,hk,.of fun n=>rfl⟩
 | scope b ih =>
  intro E R h hn hh dep ks e K r hk hr;simp only[Cp] at hr;obtain⟨x,k1,e1,hr,gS,U⟩:=ih hh dep hk hr;cases x with
  | normal=>exact⟨_,_,_,hr,gS,U.mono fun n a=>by simp only[At,a]⟩
  | ret=>exact⟨_,_,_,hr,gS,U.mono fun n a=>by simp only[At,a]⟩
  | exit jH =>
   simp only at hr;split at hr;{rename_i hid;exact⟨_,_,_,hr,gS,U.mono fun n a=>by simp only[At,a,hid,eF]⟩};·cases hr
 | ret=>intro E R h hn hh dep ks e K r hk hr;exact⟨_,_,_,hr,hk,.of fun n=>rfl⟩
 | norm g =>
  intro E R h hn hh dep ks e K r hk hr;simp only[Cp] at hr;obtain⟨t1,t2,_⟩:=vZ hk;obtain⟨k',hr,lf,_,hH⟩:=S8 t2 hr;rw[CD] at hr;exact⟨_,_,_,hr,lf,.of fun n=>by simp only[At,hH,t1]⟩
 | bad=>intro E R h hn hh dep ks e K r hk hr;cases hr
 | kd ops f args lv=>intro E R h hn hh dep ks e K r hk hr;cases hr
end Go.Ab


namespace Go.Ab
variable{E R:Type} {args A:ff} {cs:fa} {dep nt:Nat} {fn:Ad} {g:eU} {sh:Bh} {u:PV} {v:KV} {x:E5} {K:KV->Option R} {h:AB E} {hn:Nat->AB E} {r:R}
variable {cfg:CR} {fK:eU->fk} {ks:Ao}
theorem wj (h:ks.Ok) (hr:vG ks x K=some r):∃ v,K v=some r/\v.ok/\G7 ks.V x=some v.pv:=by
 have hT:∀ t,ks.V.tmps.getD t .undef=(AN ks.tmps t).pv:=fun t=>JK h.tm t;have lk:=Ge h;cases x with
 | tmp t=>exact⟨_,hr,h.tm.hZ t,by simp only[G7,hT]⟩
 | cell t n ag =>
  simp only[vG] at hr;split at hr;{rename_i J o hv;split at hr;{rename_i cs hl;have iZ:AP cs:=CU h.ob hl;split at hr;{rename_i oU;split at hr;{rename_i hle;refine⟨_,hr,MG (MH iZ _) _,?_⟩;simp only[G7,hT,hv,KV.pv,lk,hl,bG,Ac.ob,B1,oU,eF,Ap,F7,hle,eK,KP,KQ]};{cases hr}};{rename_i oU;split at hr;{rename_i c hc;refine⟨_,hr,CC.1 iZ c (bJ hc),?_⟩;simp only[G7,hT,hv,KV.pv,lk,hl,bG,Ac.ob,B1,oU,jO,hc];rfl};{cases hr}}};{rename_i w hl;obtain⟨z,hz,hr⟩:=Cj hr;have hw:As w=true:=CU h.ob hl;unfold vg at hz;refine⟨_,hr,M9 (CG hw) hz,?_⟩;simp only[G7,hT,hv,KV.pv,lk,hl,bG,Ac.ob,EQ,hz]};{cases hr}};{cases hr}
theorem Wz (h:ks.Ok):∀ (l:List E5) {K:ff->Option R},I6 ks l K=some r->∃ A,K A=some r/\AP A/\CK ks.V l=some (Aw A):=by
 intro l;induction l with
 | nil=>intro K hr;exact⟨[],hr,trivial,rfl⟩
 | cons x l ih =>
  intro K hr;simp only[I6] at hr;obtain⟨v,hr,hv,U⟩:=wj h hr;obtain⟨A,hr,kM,O⟩:=ih hr;exact⟨v :: A,hr,⟨hv,kM⟩,by simp only[CK,U,O,Aw]⟩
theorem WB (h:AP A):(I7 A).ok/\(I7 A).pv=DW (Aw A):=by
 match A,h with
 | [],h=>exact⟨trivial,rfl⟩
 | [v],h=>exact⟨h.1,rfl⟩
 | v :: w :: A,h=>exact⟨h,rfl⟩
theorem VA {o:Nat}:Hw o=true↔o=0:=by cases o<;>simp[Hw]
def wk:PV->fh
 | .arr J _ 0 _=>[J]
 | _=>[]
def top2:PV->fh
 | .arr J _ 0 _=>[J]
 | .agg cs=>cs.flatMap wk
 | _=>[]
def wm:KV->fh
 | .arr J _ o _=>if Hw o then [J] else []
 | .iF J=>[J]
 | _=>[]
def NZ:KV->fh
 | .arr J _ o _=>if Hw o then [J] else []
 | .iF J=>[J]
 | .agg cs=>cs.flatMap wm
 | _=>[]
variable{x:KV}
theorem wo (h:x.ok):wm x=wk x.pv:=by
 cases x with
 | arr J k o n=>cases o<;>rfl
 | cv v =>
  have hv:As v=true:=h;cases v<;>first | rfl | simp[As] at hv
 | _=>rfl
theorem V3 (h:Az cs=true):cs.flatMap wk=[]:=by rw[List.flatMap_eq_nil_iff];intro x H;have:=DR.1 h x H;cases x<;>first | rfl | simp[As] at this
theorem Zh {cs:ff} (h:AP cs):cs.flatMap wm=(Aw cs).flatMap wk:=by
 rw[Ea,eB];induction cs with
 | nil=>rfl
 | cons x Z ih=>simp only[cQ];rw[wo h.1,ih h.2]
theorem S6 (h:x.ok):NZ x=top2 x.pv:=by
 cases x with
 | arr J k o n=>cases o<;>rfl
 | agg cs=>exact Zh h
 | cv v =>
  have hv:As v=true:=h;cases v with
  | agg cs=>simp only[As] at hv;exact (V3 hv).symm
  | _=>first | rfl | simp[As] at hv
 | _=>rfl
theorem tops_eq (v:PV):s7 v=match v with | .fM Z=>Z.flatMap top2 | v=>top2 v:=by
 have e1:(fun (x:PV)=>match x with | .arr J _ 0 _=>[J] | _=>[])=wk:=by funext x;cases x<;>first | rfl | (rename_i J k o n;cases o<;>rfl)
 cases v with
 | arr J k o n=>cases o<;>rfl
 | agg cs=>simp only[s7,top2];rfl
 | fM Z =>
  simp only[s7];congr 1
 | _=>rfl
theorem wq (v:KV):Ra v=match v with | .fM Z=>Z.flatMap NZ | v=>NZ v:=by cases v<;>first | rfl | (simp only[Ra];congr 1)
theorem wu (h:v.ok):Ra v=s7 v.pv:=by
 rw[wq,tops_eq];cases v with
 | fM Z =>
  have H:AP Z:=h;simp only[KV.pv];rw[Ea,eB];clear h;induction Z with
  | nil=>rfl
  | cons x Z ih=>simp only[cQ];rw[S6 H.1,ih H.2]
 | cv u =>
  have hu:As u=true:=h;simp only[KV.pv,NZ];cases u with
  | fM Z =>
   simp only[As] at hu;symm;rw[List.flatMap_eq_nil_iff];intro x H;have kb:=DR.1 hu x H;have:=S6 (x:=.cv x) kb;simpa[NZ,KV.pv] using this.symm
  | agg cs=>simp only[As] at hu;exact (V3 hu).symm
  | _=>first | rfl | simp[As] at hu
 | _=>exact S6 h
theorem Vn:∀ {l:fh},Cy l=true↔l.Nodup
 | []=>by simp[Cy]
 | x :: Z=>by simp[Cy,Vn (l:=Z)]
theorem rK {σ:Nm->fe}:∀ {S:fh},(∀ J∈S,∃ ob,σ J=some ob/\Ii ob=true)->∃ obs,S.mapM σ=some obs/\obs.all Ii=true/\obs.length=S.length/\∀ (i:Nat) J,S[i]?=some J->obs[i]?=σ J:=by
 intro S;induction S with
 | nil=>intro _;exact⟨[],rfl,rfl,rfl,by simp⟩
 | cons J S ih =>
  intro h;obtain⟨ob,U,O⟩:=h J (by simp);obtain⟨obs,h3,h4,h5,h6⟩:=ih fun m hm=>h m (by simp[hm]);refine⟨ob :: obs,by simp[cH,U,h3],by simp[O,h4],by simp[h5],?_⟩;intro i m hi;cases i with
  | zero=>simp at hi;subst hi;simp[U]
  | succ i=>simp at hi |-;exact h6 i m hi
theorem WJ {pre mid post:fh} {J:Nm} (jB:(pre++J :: mid++post).Nodup):(pre++J :: mid++post).idxOf J=pre.length:=by
 have hn:J ∉ pre:=fun hm=>by rw[cw,List.nodup_append] at jB;exact jB.2.2 J hm J (by simp) rfl
 rw[cw,List.idxOf_append,eG hn];simp
section hand
variable {σ:Nm->fw} (hσ:∀ J o,σ J=some o->o.ok) {S:fh} (jB:S.Nodup) {obs:fg} (nC:∀ (i:Nat) J,S[i]?=some J->obs[i]?=(σ J).map fun o=>o.ob.bare)
include hσ jB nC
def Gr (σ:Nm->fw) (S:fh):Nm->Option fe:=fun J=>if S.contains J=true then none else A3 (fun J=>(σ J).map Ac.ob) J
omit jB nC in
theorem bl (H:x.ok) (hn:(x.names.all fun J=>!S.contains J)=true):x.pv.sub (Gr σ S)=x.close (Cv σ Ax):=by rw[KV.jg _ H];refine PV.sub_congr _ fun J hm=>?_;rw[KV.iy H] at hm;have:=bI.1 hn J hm;unfold Gr DH A3;simp only[cK] at this;rw[this,Sa hσ,dH];rfl
omit hσ jB nC in
theorem sub_cl (H:x.ok) (h:x.cl=some u) (f:Nm->Option fe) (g:Nm->Nm):(x.pv.sub f).fQ g=u:=by have hu:=KV.jf H h;rw[KV.iE h,IM (DS hu).1,JS (DS hu).1]
mutual
theorem Xv {R:Type} {r:R}:∀ (sh:Bh) (x:KV),x.ok->∀ {K:PV->Option R},EU σ S sh x K=some r->∀ (pre post:fh),S=pre++B8 sh x++post ->
  ∃ u,K u=some r/\B6 obs sh pre.length ((x.pv.sub (Gr σ S)).fQ (H9 S))=some (u,pre.length+(B8 sh x).length)
 | .cl,x,H,K,hr,pre,post,_=>by
  have wx:(if x.names.all fun J=>!S.contains J then AJ (okU (x.close (Cv σ Ax))) (K (x.close (Cv σ Ax))) else none)=some r ->
    ∃ u,K u=some r/\B6 obs .cl pre.length ((x.pv.sub (Gr σ S)).fQ (H9 S))=some (u,pre.length+(B8 .cl x).length):=by
   intro hr;split at hr;{rename_i hn;obtain⟨U,hr⟩:=A8 hr;unfold okU at U;refine⟨_,hr,?_⟩;rw[bl hσ H hn,JS (DS U).1];simp[B6,U,AJ,B8]};{cases hr}
  simp only[EU] at hr;cases hu:x.cl with
  | some u =>
   rw[hu] at hr;refine⟨u,hr,?_⟩;rw[sub_cl H hu];simp[B6,KV.jf H hu,AJ,B8]
  | none =>
   rw[hu] at hr;cases x with
   | fM Z =>
    simp only at hr;cases hus:CT Z with
    | some us =>
     rw[hus] at hr;have jx:=H7 (Z:=Z) H hus;have htup:As (.fM us)=true:=by simpa[As] using jx
     refine⟨.fM us,hr,?_⟩;have:(KV.fM Z).pv=.fM us:=by simp[KV.pv,Ji hus]
     rw[this,IM (DS htup).1,JS (DS htup).1];simp[B6,htup,AJ,B8]
    | none=>rw[hus] at hr;exact wx hr
   | _=>exact wx hr
 | .own k,x,H,K,hr,pre,post,hS=>by
  simp only[EU] at hr;split at hr
  ·rename_i J k' o n;split at hr
   ·rename_i ku kt Z hl;split at hr
    ·rename_i hc;obtain⟨rfl,rfl,ho⟩:=hc;rw[VA] at ho;subst ho;obtain⟨U,hr⟩:=A8 hr;rw[Nk] at U;unfold Bd at U;simp only[B8] at hS;refine⟨_,hr,?_⟩;have jq:S.contains J=true:=by rw[cy,hS];simp
     have hi:S[pre.length]?=some J:=by rw[hS];simp
     have oZ:S.idxOf J=pre.length:=by
      have e:S=pre++J :: []++post:=by rw[hS]
      rw[e];exact WJ (e ▸ jB)
     have iT:obs[pre.length]?=some (.arr k 0 Z):=by rw[nC _ _ hi,hl];rfl
     have hxok:Az Z=true:=hσ _ _ hl;have jM:(PV.arr J k 0 n).sub (Gr σ S)=.arr J k 0 n:=by simp only[PV.sub,Gr,jq,eF]
     simp only[KV.pv];rw[jM];simp[PV.fQ,H9,oZ,B6,iT,AJ,U,hxok,B8]
    {cases hr}
   {cases hr}
  {cases hr}
 | .opt k,x,H,K,hr,pre,post,hS=>by
  simp only[EU] at hr;split at hr
  ·rename_i J k' o n;split at hr
   ·rename_i ku kt Z hl;split at hr
    ·rename_i hc;obtain⟨rfl,rfl,ho⟩:=hc;rw[VA] at ho;subst ho;obtain⟨U,hr⟩:=A8 hr;rw[Nk] at U;unfold Bd at U;simp only[B8] at hS;refine⟨_,hr,?_⟩;have jq:S.contains J=true:=by rw[cy,hS];simp
     have hi:S[pre.length]?=some J:=by rw[hS];simp
     have oZ:S.idxOf J=pre.length:=by
      have e:S=pre++J :: []++post:=by rw[hS]
      rw[e];exact WJ (e ▸ jB)
     have iT:obs[pre.length]?=some (.arr k 0 Z):=by rw[nC _ _ hi,hl];rfl
     have hxok:Az Z=true:=hσ _ _ hl;have jM:(PV.arr J k 0 n).sub (Gr σ S)=.arr J k 0 n:=by simp only[PV.sub,Gr,jq,eF]
     simp only[KV.pv];rw[jM];simp[PV.fQ,H9,oZ,B6,iT,AJ,U,hxok,B8]
    {cases hr}
   {cases hr}
  {refine⟨.fF,hr,?_⟩;simp[KV.pv,PV.sub,PV.fQ,B6,B8]};{unfold vk at hr;split at hr;{refine⟨.fF,hr,?_⟩;simp[KV.pv,PV.sub,PV.fQ,B6,B8]};{cases hr}};{cases hr}
 | .fM l,x,H,K,hr,pre,post,hS=>by
  simp only[EU] at hr;split at hr;{rename_i Z;simp only[B8] at hS;obtain⟨us,U,O⟩:=SC l Z H hr pre post hS;refine⟨_,U,?_⟩;simp only[KV.pv,PV.sub,PV.fQ,B6,O,B8];rfl};{cases hr}
 | .agg l,x,H,K,hr,pre,post,hS=>by
  simp only[EU] at hr;split at hr;{rename_i Z;simp only[B8] at hS;obtain⟨us,U,O⟩:=SC l Z H hr pre post hS;refine⟨_,U,?_⟩;simp only[KV.pv,PV.sub,PV.fQ,B6,O,B8];rfl};{cases hr}
theorem SC {R:Type} {r:R}:∀ (l:List Bh) (Z:ff),AP Z->∀ {K:fa->Option R},GV σ S l Z K=some r->∀ (pre post:fh),S=pre++Gn l Z++post ->
  ∃ us,K us=some r/\EO obs l pre.length (AR (H9 S) (AE (Gr σ S) (Aw Z)))=some (us,pre.length+(Gn l Z).length)
 | [],[],_,K,hr,pre,post,_=>⟨[],hr,by simp[Aw,AE,AR,EO,Gn]⟩
 | [],_ :: _,_,K,hr,_,_,_=>by simp[GV] at hr
 | _ :: _,[],_,K,hr,_,_,_=>by simp[GV] at hr
 | s :: l,x :: Z,H,K,hr,pre,post,hS=>by
  simp only[GV] at hr;simp only[Gn] at hS;obtain⟨u,hr,U⟩:=Xv s x H.1 hr pre (Gn l Z++post) (by rw[hS];simp[cw]);obtain⟨us,hr,O⟩:=SC l Z H.2 hr (pre++B8 s x) post (by rw[hS];simp[cw]);refine⟨u :: us,hr,?_⟩;simp only[Aw,AE,AR,EO,U];rw[ce] at O;rw[O];simp[Gn,dz]
end
end hand
theorem own_arr {σ:Nm->fw} {S:fh}:∀ (sh:Bh) (x:KV) {K:PV->Option R},EU σ S sh x K=some r->(∀ J∈B8 sh x,∃ k kt Z,σ J=some (.arr k kt Z))/\∃ u,K u=some r:=by
 intro sh
 refine Bh.rec (motive_1:=fun sh=>∀ (x:KV) {K:PV->Option R},EU σ S sh x K=some r->(∀ J∈B8 sh x,∃ k kt Z,σ J=some (.arr k kt Z))/\∃ u,K u=some r)
  (motive_2:=fun l=>∀ (Z:ff) {K:fa->Option R},GV σ S l Z K=some r->(∀ J∈Gn l Z,∃ k kt ys,σ J=some (.arr k kt ys))/\∃ us,K us=some r) ?_ ?_ ?_ ?_ ?_ ?_ ?_ sh
 {intro x K hr;refine⟨by simp[B8],?_⟩;simp only[EU] at hr;split at hr;{exact⟨_,hr⟩};{split at hr;{split at hr;{exact⟨_,hr⟩};{split at hr;{exact⟨_,(A8 hr).2⟩};·cases hr}};{split at hr;{exact⟨_,(A8 hr).2⟩};·cases hr}}};{intro k x K hr;simp only[EU] at hr;split at hr;{rename_i J k' o n;split at hr;{rename_i ku kt Z hl;split at hr;{exact⟨by simp[B8,hl],_,(A8 hr).2⟩};·cases hr};{cases hr}};{cases hr}};{intro k x K hr;simp only[EU] at hr;split at hr;{rename_i J k' o n;split at hr;{rename_i ku kt Z hl;split at hr;{exact⟨by simp[B8,hl],_,(A8 hr).2⟩};·cases hr};{cases hr}};{exact⟨by simp[B8],_,hr⟩};{unfold vk at hr;split at hr;{exact⟨by simp[B8],_,hr⟩};·cases hr};{cases hr}};{intro l ih x K hr;simp only[EU] at hr;split at hr;{rename_i Z;obtain⟨U,us,O⟩:=ih Z hr;exact⟨by simpa[B8] using U,_,O⟩};{cases hr}};{intro l ih x K hr;simp only[EU] at hr;split at hr;{rename_i Z;obtain⟨U,us,O⟩:=ih Z hr;exact⟨by simpa[B8] using U,_,O⟩};{cases hr}}
 ·intro Z K hr;cases Z with
  | nil=>exact⟨by simp[Gn],_,hr⟩
  | cons x Z=>simp[GV] at hr
 ·intro s l ihs ihl Z K hr;cases Z with
  | nil=>simp[GV] at hr
  | cons x Z =>
   simp only[GV] at hr;obtain⟨U,u,hr⟩:=ihs x hr;obtain⟨O,us,hr⟩:=ihl Z hr;refine⟨?_,_,hr⟩;intro J hm;simp only[Gn,bS] at hm;exact hm.elim (U J) (O J)
theorem OC (shut:Bool) (h:v.ok):K5 shut v=GR shut v.pv:=by
 cases shut with
 | true=>rfl
 | false=>exact wu h
theorem Za (h:ks.Ok) {shut:Bool} (hv:v.ok) {K:PV->Option R} (hr:OO ks shut sh v K=some r):∃ u rv obs,K u=some r/\HQ shut ks.V v.pv=some (rv,obs)/\Du sh rv obs=some u:=by
 unfold OO at hr;simp only at hr;split at hr
 case isFalse=>cases hr
 rename_i hc;obtain⟨hS,jB,uW,iR⟩:=hc;have hσ:=CB h;obtain⟨iC,_⟩:=own_arr sh v hr;rw[<-hS] at iC;have gK:=Dz h;obtain⟨obs,hm,ix,hlen,hT⟩:=rK (σ:=Aa ks.V.fA) (S:=K5 shut v) fun J hm=>by obtain⟨k,kt,Z,he⟩:=iC J hm;exact⟨.arr k kt Z,by rw[Ge h,he];rfl,rfl⟩
 have hnd':=Vn.1 jB;obtain⟨u,hu,hconv⟩:=Xv hσ hnd' (obs:=obs.map Ob.bare) (fun i J hi=>by rw[bK,hT i J hi,Ge h,dH];rfl) sh v hv hr [] [] (by rw[<-hS];simp);refine⟨u,(v.pv.sub (Gr (AZ ks.fA) (K5 shut v))).fQ (H9 (K5 shut v)),obs.map Ob.bare,hu,?_,?_⟩
 ·have e:(fun J=>if (GR shut v.pv).contains J=true then none else A3 (Aa ks.V.fA) J)=Gr (AZ ks.fA) (K5 shut v):=by funext J;unfold Gr;rw[OC shut hv,gK]
  rw[GI hσ,<-gK] at uW iR;rw[KU hσ,<-gK] at iR;rw[OC shut hv,<-KV.iy hv] at uW iR;rw[OC shut hv] at jB hm;unfold HQ;simp only[jB,uW,ci,eF,hm,iR,ix,Ap,e,OC shut hv]
 {unfold Du;simp only[ec,bX] at hconv;rw[hconv];simp[AJ,hlen,hS]}
theorem Tw (ha:AP args) (hu:∀ x∈args,EW x=false) (hl:args.length<=nt):({nt,tmps:=args.zipIdx.map fun p=>(p.2,p.1),fA:=[],fD:=[]}:Ao).Ok /\
  ({nt,tmps:=args.zipIdx.map fun p=>(p.2,p.1),fA:=[],fD:=[]}:Ao).V={tmps:=Aw args++List.replicate (nt - (Aw args).length) .undef,fA:=List.replicate nt [],fD:=[]}:=by
 have jq:∀ p∈args.zipIdx.map (fun p=>(p.2,p.1)),args[p.1]?=some p.2:=by intro p hp;obtain⟨⟨x,i⟩,hq,rfl⟩:=bA.1 hp;rw[cd] at hq;exact hq
 have hw:Bo nt (args.zipIdx.map fun p=>(p.2,p.1)):=by refine⟨?_,?_,?_,?_⟩;{rw[bV];have:((fun p:Nat×KV=>p.1)∘fun p:KV×Nat=>(p.2,p.1))=Prod.snd:=rfl;rw[this,List.zipIdx_map_snd];exact List.pairwise_lt_range'};{intro p hp;have:=(bH.1 (jq p hp)).1;omega};{intro p hp;exact CC.1 ha _ (bJ (jq p hp))};{intro p hp;exact hu _ (bJ (jq p hp))}
 refine⟨⟨hw,.nil nt,by simp⟩,?_⟩;unfold Ao.V;simp only[List.flatMap_nil];congr 1
 ·refine JR (by simp[F7];omega) fun i hi=>?_;by_cases hia:i < args.length
  ·rw[ck (by rw[F7];exact hia),jO,bQ hia];have hp:(i,args[i])∈args.zipIdx.map (fun p=>(p.2,p.1)):=by refine bA.2 ⟨(args[i],i),?_,rfl⟩;rw[cd];simp[hia]
   rw[show AN (args.zipIdx.map fun p=>(p.2,p.1)) i=args[i] from hw.get_mem hp];rfl
  {rw[cD (by rw[F7];omega),dZ,eH (by rw[F7];omega)];rw[show AN (args.zipIdx.map fun p=>(p.2,p.1)) i=.un from Sv fun p hp=>by have:=(bH.1 (jq p hp)).1;omega];rfl}
 {refine JM (by simp) fun i hi=>?_;rw[dZ,eH hi];rfl}
theorem Yb (hc:DK cfg fK) (ht:fK g=some fn) (hh:HOk h hn) {e e':E} 
  (ha:AP args) (hu:∀ x∈args,EW x=false) (hl:args.length<=fn.nt) (hr:G6 cfg fn sh h dep args e=some (u,e')) :
  ∃ r obs,Du sh r obs=some u/\AS fun n=>AI cfg.b.sp fK n E (hn n) dep g (Aw args) e=some (r,obs,e'):=by
 unfold G6 at hr;rw[CD] at hr;obtain⟨i1,i2⟩:=Tw ha hu hl;have hh':HOk h fun n=>hn (n+1):=fun l args e r hq=>by obtain⟨a,hb⟩:=hh l args e r hq;exact⟨a,fun n ik=>hb (n+1) (by omega)⟩
 obtain⟨x,k1,e1,hr,gS,fG⟩:=Tf hc fn.code hh' dep i1 hr;rw[i2] at fG
 have fin:(I6 k1 fn.res fun A=>OO k1 fn.shut sh (I7 A) fun v=>some (v,e1))=some (u,e')->(∀ id,x≠.exit id)->∃ r obs,Du sh r obs=some u/\AS fun n=>AI cfg.b.sp fK n E (hn n) dep g (Aw args) e=some (r,obs,e'):=by
  intro hr H;obtain⟨A,hr,kM,U⟩:=Wz gS fn.res hr;obtain⟨o1,o2⟩:=WB kM;obtain⟨u',rv,obs,hr,O,h3⟩:=Za gS o1 hr;cases hr;refine⟨rv,obs,h3,fG.shift.mono ?_⟩;rintro k ⟨j,rfl,hj⟩;show GZ (Be cfg.b.sp fK j) j fK E (hn (j+1)) dep g (Aw args) e=_;simp only[GZ,ht];simp only[Co] at hj;rw[hj];cases x with
  | exit id=>exact eQ rfl (H id)
  | normal=>simp only[U];rw[<-o2,O]
  | ret=>simp only[U];rw[<-o2,O]
 cases x with
 | exit id=>cases hr
 | normal=>exact fin hr (by simp)
 | ret=>exact fin hr (by simp)
end Go.Ab


namespace Go.Ab
variable{α β:Type} {ag b:Bool} {args cap A:fa} {fn:Ad} {g:eU} {h j n:Nat} {k':IntKind} {obs:fg} {s:fp} {sh:Bh} {u:PV}
section
variable {cfg:CR} {fK:eU->fk}
theorem Ub:∀ (A:fa),Aw (A.map KV.cv)=A
 | []=>rfl
 | v :: A=>by simp[Aw,KV.pv,Ub A]
theorem wy (h:Az A=true):AP (A.map KV.cv):=CC.2 fun x H=>by obtain⟨v,hv,rfl⟩:=bA.1 H;exact DR.1 h v hv
theorem wA:∀ x∈A.map KV.cv,EW x=false:=fun x H=>by obtain⟨v,_,rfl⟩:=bA.1 H;rfl
theorem noH:HOk Ar (fun _=>Ar):=fun _ _ _ _ h=>by cases h
theorem ZX (hc:DK cfg fK) (ht:fK g=some fn) (ha:Az (args++cap)=true) (hl:(args++cap).length<=fn.nt)
  (gR:cfg.b.sp g (fun _=>none) (args++cap)=none) (hr:G6 cfg fn sh Ar 0 ((args++cap).map KV.cv) ()=some (u,())) (jj:fn.io=false:=by rfl) (hb:Nat.blt g CJ=true:=by rfl):BG cfg.b sh (.fn g cap) args=some u:=by
 have hid:AG g=g:=by simp[AG,hb]
 have vT:A7 g args cap=args++cap:=by simp[A7,hb]
 obtain⟨r,obs,U,O⟩:=Yb hc ht (hn:=fun _=>Ar) noH (wy ha) wA (by simpa using hl) hr;rw[Ub] at O;have hL:cfg.b.L Unit Ar 0 g (args++cap) ()=some (r,obs,()):=by rw[hc.L];exact TS O
 have pr:cfg.b.iN g=false:=by rw[hc.iN];unfold Ef;rw[ht];exact jj
 unfold BG;simp only[hid,vT,spO,gR,hL,pr,bL,eE];exact U
theorem bp (hc:DK cfg fK) (gR:cfg.b.sp g (fun _=>none) (args++cap)=some {v:=u}) (hu:As u=true) (hb:Nat.blt g CJ=true:=by rfl):BG cfg.b .cl (.fn g cap) args=some u:=by
 have hid:AG g=g:=by simp[AG,hb]
 have vT:A7 g args cap=args++cap:=by simp[A7,hb]
 unfold BG;simp[hid,vT,spO,gR,hu,AJ,Du,B6]
theorem conv_cl {r:PV} (h:Du .cl r obs=some u):r=u/\obs=[]/\As u=true:=by unfold Du at h;simp only[B6] at h;split at h;{rename_i r' j hr;obtain⟨U,O⟩:=A8 hr;cases O;obtain⟨h3,h4⟩:=A8 h;cases h4;simp only[eJ] at h3;exact⟨rfl,ej.1 h3.symm,U⟩};{cases h}
theorem aL (hc:DK cfg fK) (ht:fK g=some fn) (ha:Az args=true) (hl:args.length<=fn.nt)
  (hr:G6 cfg fn .cl Ar 0 (args.map KV.cv) ()=some (.bool b,())):∃ n,AI cfg.b.sp fK n Unit Ar 0 g args ()=some (.bool b,[],()):=by
 obtain⟨r,obs,U,m,hm⟩:=Yb hc ht (hn:=fun _=>Ar) noH (wy ha) wA (by simpa using hl) hr;rw[Ub] at hm;obtain⟨e1,e2,_⟩:=conv_cl U;subst e1;subst e2;exact⟨m,hm m (bD _)⟩
end
@[simp] theorem D8 (a:α) (f:α->Option β):AF (some a) f=f a:=rfl
@[simp] theorem bindO_none' (f:α->Option β):AF none f=none:=rfl
@[simp] theorem WY (a:Option β):AJ true a=a:=rfl
@[simp] theorem chkO_false (a:Option β):AJ false a=none:=rfl
@[simp] theorem rL (b:Bool) (x y:Option β):Dx (.bool b) x y=if b=true then x else y:=by cases b<;>rfl
@[simp] theorem rM (b:Bool) (x y:Option β):HH b x y=if b=true then x else y:=by cases b<;>rfl
section pure
variable {c:TC} {kc:Bool} {k:eW}
@[simp] theorem wB (a b:Int):AD (.bin .add c kc (.c (.int k a)) (.c (.int k b)))=some (.int k (k.wrap (a+b))):=by simp[AD,exec,RX.ev,Dw,Ap,Ff]
@[simp] theorem pure_sub (a b:Int):AD (.bin .sub c kc (.c (.int k a)) (.c (.int k b)))=some (.int k (k.wrap (a - b))):=by simp[AD,exec,RX.ev,Dw,Ap,Ff]
@[simp] theorem pure_mul (a b:Int):AD (.bin .mul c kc (.c (.int k a)) (.c (.int k b)))=some (.int k (k.wrap (a*b))):=by simp[AD,exec,RX.ev,Dw,Ap,Ff]
@[simp] theorem pure_eql (a b:Int):AD (.bin .eql c kc (.c (.int k a)) (.c (.int k b)))=some (.bool (a==b)):=by simp[AD,exec,RX.ev,Dw,Ap,Ff,Jh]
@[simp] theorem pure_neq (a b:Int):AD (.bin .neq c kc (.c (.int k a)) (.c (.int k b)))=some (.bool (a != b)):=by simp[AD,exec,RX.ev,Dw,Ap,Ff,Jh]
@[simp] theorem pure_lss (a b:Int):AD (.bin .lss c kc (.c (.int k a)) (.c (.int k b)))=some (.bool (decide (a < b))):=by simp[AD,exec,RX.ev,Dw,Ap,Ff,Jh]
@[simp] theorem pure_leq (a b:Int):AD (.bin .leq c kc (.c (.int k a)) (.c (.int k b)))=some (.bool (decide (a<=b))):=by simp[AD,exec,RX.ev,Dw,Ap,Ff,Jh]
@[simp] theorem wC (a b:Int):AD (.bin .gtr c kc (.c (.int k a)) (.c (.int k b)))=some (.bool (decide (b < a))):=by simp[AD,exec,RX.ev,Dw,Ap,Ff,Jh]
@[simp] theorem pure_geq (a b:Int):AD (.bin .geq c kc (.c (.int k a)) (.c (.int k b)))=some (.bool (decide (b<=a))):=by simp[AD,exec,RX.ev,Dw,Ap,Ff,Jh]
@[simp] theorem pure_eqs (a b:fp):AD (.bin .eql c kc (.c (.str a)) (.c (.str b)))=some (.bool (a==b)):=by simp[AD,exec,RX.ev,Dw,Jj]
@[simp] theorem pure_nes (a b:fp):AD (.bin .neq c kc (.c (.str a)) (.c (.str b)))=some (.bool (!(a==b))):=by simp[AD,exec,RX.ev,Dw,Jj]
@[simp] theorem pure_eqb (a b:Bool):AD (.bin .eql .bool kc (.c (.bool a)) (.c (.bool b)))=some (.bool (a==b)):=by simp[AD,exec,RX.ev,Dw,Jr]
@[simp] theorem pure_neb (a b:Bool):AD (.bin .neq .bool kc (.c (.bool a)) (.c (.bool b)))=some (.bool (!(a==b))):=by simp[AD,exec,RX.ev,Dw,Jr]
theorem SY (a b:fp) (h:a.length+b.length<=J4):AD (.bin .add c kc (.c (.str a)) (.c (.str b)))=some (.str (a++b)):=by simp[AD,exec,RX.ev,Dw,Jj,Ap,h]
@[simp] theorem pure_not (b:Bool):AD (.un .not (.c (.bool b)))=some (.bool (!b)):=rfl
@[simp] theorem pure_neg (n:Int):AD (.un .neg (.c (.int k n)))=some (.int k (k.wrap (0 - n))):=rfl
@[simp] theorem pure_conv (n:Int):AD (.conv k (.c (.int k' n)))=some (.int k (k.wrap n)):=rfl
@[simp] theorem Wl (s:fp):AD (.len .str (.c (.str s)))=some (.int .i64 (s.length:Int)):=rfl
@[simp] theorem pure_lenl (Z:fa) (f:Bool):AD (.len .slice (.c (.sl j Z f)))=some (.int .i64 (Z.length:Int)):=rfl
@[simp] theorem pure_lenn:AD (.len .slice (.c .fF))=some (.int .i64 0):=rfl
@[simp] theorem pure_tup (j:Nat) (Z:fa):AD (.extract j (.c (.fM Z)))=Z[j]?:=by simp only[AD,exec,RX.ev];cases Z[j]?<;>rfl
@[simp] theorem pure_load {o:Nat} (cs:fa):AD (.load n ag (.c (.ptr cs o)))=B1 cs o n ag:=by simp only[AD,exec,RX.ev];cases B1 cs o n ag<;>rfl
@[simp] theorem pure_field {o:Nat} (cs:fa):AD (.field o n ag (.c (.agg cs)))=B1 cs o n ag:=by simp only[AD,exec,RX.ev];cases B1 cs o n ag<;>rfl
@[simp] theorem pure_nilck (cs:fa) (o:Nat):AD (.nilck (.c (.ptr cs o)))=some (.ptr cs o):=rfl
@[simp] theorem pure_nilckf (f:Nat) (cs:fa):AD (.nilck (.c (.fn f cs)))=some (.fn f cs):=rfl
@[simp] theorem pure_faddr {off o:Nat} (cs:fa):AD (.fieldAddr off (.c (.ptr cs o)))=if o+off < cs.length then some (.ptr cs (o+off)) else none:=by by_cases hq:o+off < cs.length<;>simp[AD,exec,RX.ev,Ap,hq]
theorem rN (hh:h<=s.length):AD (.gM (.c (.str s)) none (some (.c (.int k (h:Int)))))=some (.str (s.take h)):=by simp[AD,exec,RX.ev,Ci,Df,EA,Ap,hh]
end pure
@[simp] theorem sel_one (v:PV):B1 [v] 0 1 false=some v:=rfl
@[simp] theorem cells_int (k:IntKind) (n:Int):(PV.int k n).cells=[.int k n]:=rfl
@[simp] theorem cells_str (s:fp):(PV.str s).cells=[.str s]:=rfl
@[simp] theorem cells_bool (b:Bool):(PV.bool b).cells=[.bool b]:=rfl
@[simp] theorem cells_agg' (cs:fa):(PV.agg cs).cells=cs:=rfl
@[simp] theorem addN_eq (a b:Nat):By a b=a+b:=rfl
@[simp] theorem subN_eq (a b:Nat):Is a b=a - b:=rfl
@[simp] theorem minN_eq (a b:Nat):minN a b=min a b:=rfl
@[simp] theorem lenL_eq (l:fa):Bd l=l.length:=rfl
@[simp] theorem wD (n:Nat) (l:fa):BE n l=l.take n:=rfl
@[simp] theorem wE (n:Nat) (l:fa):EB n l=l.drop n:=rfl
@[simp] theorem catL_eq (l m:fa):Dh l m=l++m:=rfl
@[simp] theorem wF (n:Nat) (v:PV):ER n v=List.replicate n v:=rfl
@[simp] theorem itemsP_sl (k:Nat) (Z:fa) (f:Bool):Ee (.sl k Z f)=Z:=rfl
@[simp] theorem natP_int (k:IntKind) (n:Int):Ej (.int k n)=n.toNat:=rfl
@[simp] theorem nI_eq (n:Nat):nI n=.int .i64 (n:Int):=rfl
@[simp] theorem andB_eq (a b:Bool):JD a b=(a&&b):=rfl
@[simp] theorem leN_eq (a b:Nat):Fs a b=decide (a<=b):=by rw[cW,Nf,eN]
@[simp] theorem ltN_eq (a b:Nat):ltN a b=decide (a < b):=by rw[cW,K4,eN]
@[simp] theorem eqN_eq (a b:Nat):sN a b=decide (a=b):=by rw[cW,Nk,eN]
@[simp] theorem nth_0 (x:PV) (l:fa):AL (x :: l) 0=x:=rfl
@[simp] theorem nth_1 (a x:PV) (l:fa):AL (a :: x :: l) 1=x:=rfl
@[simp] theorem nth_2 (a b x:PV) (l:fa):AL (a :: b :: x :: l) 2=x:=rfl
@[simp] theorem nth_3 (a b c x:PV) (l:fa):AL (a :: b :: c :: x :: l) 3=x:=rfl
@[simp] theorem nth_4 (a b c d x:PV) (l:fa):AL (a :: b :: c :: d :: x :: l) 4=x:=rfl
@[simp] theorem nth_5 (a b c d e x:PV) (l:fa):AL (a :: b :: c :: d :: e :: x :: l) 5=x:=rfl
@[simp] theorem nth_6 (a b c d e f x:PV) (l:fa):AL (a :: b :: c :: d :: e :: f :: x :: l) 6=x:=rfl
@[simp] theorem nth_7 (a b c d e f g x:PV) (l:fa):AL (a :: b :: c :: d :: e :: f :: g :: x :: l) 7=x:=rfl
@[simp] theorem nth_8 (a b c d e f g h x:PV) (l:fa):AL (a :: b :: c :: d :: e :: f :: g :: h :: x :: l) 8=x:=rfl
@[simp] theorem selO_eq (v:PV) (o n:Nat) (ag:Bool):vg v o n ag=B1 v.cells o n ag:=rfl
@[simp] theorem natO_int (k:IntKind) (n:Nat):natO (.int k (n:Int))=some n:=by simp[natO,EA]
end Go.Ab


namespace Go.Ab
variable{R:Type} {nt:Nat} {x:KV}
section
variable {cfg:CR} {fK:eU->fk}
theorem wG (h:kisUn x=false):EW x=false:=by cases x<;>first | rfl | cases h
theorem rO (hc:DK cfg fK):∀ (c:AU) {R:Type} {ks:Ao} {K:Ex->Ao->fc->Option R} {r:R},ks.Ok->Ey cfg nt c ks K=some r ->
  ∃ x k' l,K x k' l=some r/\k'.Ok/\AS fun n=>AQ (Co cfg.b.sp fK n) n nt c ks.V=some (x,k'.V,l):=by
 intro c;induction c with
 | kd ops f args lv =>
  intro R ks K r hk hr;simp only[Ey] at hr;rw[CD] at hr;obtain⟨c1,c2,_⟩:=KL hk (Bx ops);obtain⟨k1,e1,hr,gS,U⟩:=S7 (hn:=fun _=>Ar) (dep:=0) hc noH ops c2 hr;split at hr
  case isFalse=>cases hr
  rename_i hcd;obtain⟨a1,a2,a3,a4⟩:=hcd;rw[CD] at hr;simp only[bz] at a2;have hle:args.length+1<=nt:=bx a2.1;have lD:k1.nt=nt:=ch a2.2;have hxf:DN f=true:=bI.1 a3 f (by simp);have hxa:args.all DN=true:=bI.2 fun x hm=>bI.1 a3 x (by simp[hm]);have oL:=LM gS hxf;have hao:=J5 gS hxa;have mm:=FF gS f;have hae:args.map (RX.ev k1.V.tmps)=Aw (args.map (RX.kv k1.tmps)):=GU gS args;generalize iA:f.kv k1.tmps :: args.map (RX.kv k1.tmps)=Z at hr a4;have hlen:Z.length=args.length+1:=by rw[<-iA];simp
  have jx:AP Z:=by rw[<-iA];exact⟨oL,hao⟩
  have oO:Aw Z=f.ev k1.V.tmps :: args.map (RX.ev k1.V.tmps):=by rw[<-iA,mm,hae];rfl
  obtain⟨i1,i2⟩:=Tw (nt:=nt) jx (fun x H=>wG (by
   rw[List.any_eq_false] at a4;simpa using a4 x H)) (by omega)
  have e1:Bc nt (Z.zipIdx.map fun p=>(p.2,p.1))=Aw Z++List.replicate (nt - (Aw Z).length) .undef:=eM St.tmps i2
  have ka:({k1 with fD:=(Z.zipIdx.map fun p=>(p.2,p.1)) :: k1.fD}:Ao).Ok:=⟨gS.tm,gS.ob,fun sp gR=>by
   rcases bE.1 gR with rfl | gR;·rw[lD];exact i1.tm
   ·exact gS.kp sp gR⟩
  have hst2:({k1 with fD:=(Z.zipIdx.map fun p=>(p.2,p.1)) :: k1.fD}:Ao).V=LK nt (f.ev k1.V.tmps :: args.map (RX.ev k1.V.tmps)) k1.V:=by rw[<-oO];unfold LK Ao.V;simp only[cQ];rw[lD,e1]
  obtain⟨t1,t2⟩:=Pc ka lv
  have kV:isFn (f.ev k1.V.tmps)=true:=by
   rw[mm];cases hq:f.kv k1.tmps with
   | fn g cap=>rfl
   | _=>rw[hq] at a1;cases a1
  refine⟨_,_,_,hr,t2,U.mono fun n ik=>?_⟩;rw[c1] at ik;simp only[AQ,ik,t1,hst2,Ap,kV,Bool.and_true,eI,eH hle]
 | seq a b lE lF =>
  intro R ks K r hk hr;simp only[Ey] at hr;obtain⟨x,k1,l,hr,gS,U⟩:=lE hk hr;cases x with
  | normal =>
   obtain⟨x2,k2,l2,hr,ka,O⟩:=lF gS hr;exact⟨_,_,_,hr,ka,U.je O fun n a b=>by simp only[AQ,a,b]⟩
  | exit id=>exact⟨_,_,_,hr,gS,U.mono fun n a=>by simp only[AQ,a]⟩
  | ret=>exact⟨_,_,_,hr,gS,U.mono fun n a=>by simp only[AQ,a]⟩
 | cond c a b lE lF =>
  intro R ks K r hk hr;simp only[Ey] at hr;have fG:=FF hk c;split at hr;{rename_i hv;obtain⟨x,k1,e1,hr,gS,U⟩:=lE hk hr;exact⟨_,_,_,hr,gS,U.mono fun n a=>by simp only[AQ,fG,hv,KV.pv,a]⟩};{rename_i hv;obtain⟨x,k1,e1,hr,gS,U⟩:=lF hk hr;exact⟨_,_,_,hr,gS,U.mono fun n a=>by simp only[AQ,fG,hv,KV.pv,a]⟩}
  ·rename_i v hv;rcases OQ hr with ⟨rfl,hr⟩ | ⟨rfl,hr⟩
   {obtain⟨x,k1,e1,hr,gS,U⟩:=lE hk hr;exact⟨_,_,_,hr,gS,U.mono fun n a=>by simp only[AQ,fG,hv,KV.pv,a]⟩};{obtain⟨x,k1,e1,hr,gS,U⟩:=lF hk hr;exact⟨_,_,_,hr,gS,U.mono fun n a=>by simp only[AQ,fG,hv,KV.pv,a]⟩}
  {cases hr}
 | block id b ih =>
  intro R ks K r hk hr;simp only[Ey] at hr;obtain⟨x,k1,l,hr,gS,U⟩:=ih hk hr;cases x with
  | normal=>exact⟨_,_,_,hr,gS,U.mono fun n a=>by simp only[AQ,a]⟩
  | ret=>exact⟨_,_,_,hr,gS,U.mono fun n a=>by simp only[AQ,a]⟩
  | exit jH =>
   simp only at hr;split at hr;{rename_i hid;exact⟨_,_,_,hr,gS,U.mono fun n a=>by simp only[AQ,a,hid,eF]⟩};{rename_i hid;exact⟨_,_,_,hr,gS,U.mono fun n a=>by simp only[AQ,a,hid,eE]⟩}
 | scope b ih =>
  intro R ks K r hk hr;simp only[Ey] at hr;split at hr;·cases hr
  rename_i hlb;obtain⟨x,k1,l,hr,gS,U⟩:=ih hk hr;cases x with
  | normal=>exact⟨_,_,_,hr,gS,U.mono fun n a=>by simp only[AQ,a,hlb,eE,bL]⟩
  | ret=>exact⟨_,_,_,hr,gS,U.mono fun n a=>by simp only[AQ,a,hlb,eE,bL]⟩
  | exit jH =>
   simp only at hr;split at hr;{rename_i hid;exact⟨_,_,_,hr,gS,U.mono fun n a=>by simp only[AQ,a,hlb,hid,eF,eE,bL]⟩};·cases hr
 | _ =>
  intro R ks K r hk hr;simp only[Ey] at hr;obtain⟨x,k1,e1,hr,gS,U⟩:=Tf hc _ (h:=Ar) (hn:=fun _=>Ar) noH 0 hk hr;exact⟨_,_,_,hr,gS,U.mono fun n a=>by simp only[AQ,a,ET]⟩
theorem wH (hc:DK cfg fK):∀ (l:fc) {ks:Ao} {K:Ao->Option R} {r:R},ks.Ok->Rk cfg nt l ks K=some r ->
  ∃ k',K k'=some r/\k'.Ok/\AS fun n=>Fp (Co cfg.b.sp fK n) nt l ks.V=some k'.V:=by
 intro l;induction l with
 | nil=>intro ks K r hk hr;exact⟨ks,hr,hk,.of fun n=>rfl⟩
 | cons n l ih =>
  intro ks K r hk hr;simp only[Rk] at hr;split at hr;·cases hr
  rename_i sp kp gX;split at hr
  case h_2=>cases hr
  rename_i f gg hT;split at hr
  case h_2=>cases hr
  rename_i P hP;split at hr
  case isFalse=>cases hr
  rename_i hcd;obtain⟨b1,b2,b3⟩:=hcd;simp only[bz] at b2;have hle:n+1<=nt:=bx b2.1;have lD:ks.nt=nt:=ch b2.2;have gR:Bo nt sp:=by rw[<-lD];exact hk.kp sp (by rw[gX];exact bN)
  have mr:AP gg:=by have:=gR.hZ 0;rw[hT] at this;exact this
  have gV:AP ((List.range n).map fun j=>AN sp (j+1)):=CC.2 fun x H=>by obtain⟨j,_,rfl⟩:=bA.1 H;exact gR.hZ _
  obtain⟨out,hr,ho,hspf,fG⟩:=Vz hc hk b3 (Vw (f:=f) gV mr) hP hr;split at hr
  case isFalse=>cases hr
  rename_i iu;rw[CD] at hr;have ka:({ks with fD:=kp}:Ao).Ok:=⟨hk.tm,hk.ob,fun sp' h=>hk.kp sp' (by rw[gX];exact bM _ h)⟩;obtain⟨s1,s2⟩:=RW (ks:={ks with fD:=kp}) ka (by show (_||Ec ks.fA)=true;rw[b3];simp) none ho;obtain⟨k',hr,lf,O⟩:=ih s2 hr;have oe:ks.V.fD=Bc nt sp++kp.flatMap (Bc nt):=by show ks.fD.flatMap (Bc ks.nt)=_;rw[gX,lD];rfl
  have hget0:ks.V.fD.getD 0 .undef=.fn f (Aw gg):=by
   have:(Bc nt sp)[0]?=some (KV.fn f gg).pv:=by rw[gx,eH (by omega),hT]
   rw[oe,bF,ck (by rw[Dk];omega),this];rfl
  have u5:(ks.V.fD.drop 1).take n=Aw ((List.range n).map fun j=>AN sp (j+1)):=by rw[oe,Ea,bV];apply cj;intro j;rw[List.getElem?_take,dF,bK];by_cases hj:j < n;{rw[eH hj,ck (by rw[Dk];omega),gx,eH (by omega),cN hj];simp[Nat.add_comm]};{rw[eG hj,cg (by simp;omega)];rfl}
  have hdrop:({ks with fD:=kp}:Ao).V={ks.V with fD:=ks.V.fD.drop nt}:=by rw[oe,List.drop_left' (Dk nt sp)];unfold Ao.V;simp only[lD]
  have kM:A7 f ((ks.V.fD.drop 1).take n) (Aw gg)=Aw (Hq f ((List.range n).map fun j=>AN sp (j+1)) gg):=by rw[u5,Vv]
  have pJ:Ef fK (AG f)=true:=by rw[<-hc.pa,hP];rfl
  have pF:IR fK (AG f)=true:=hc.flat _ b1
  have hnew':(out.out.new.isEmpty||out.out.slot.isSome)=true:=by
   simp only[Aq.out];have:(out.new.map Ac.ob).isEmpty=out.new.isEmpty:=by cases out.new<;>rfl
   rw[this];exact iu
  rw[s1,hdrop] at O;refine⟨k',hr,lf,fG.je O fun m a b=>?_⟩;simp only[Fp,hget0,kM,IN,OB,aI,hc.sO _ hspf,pJ,pF,Bool.and_true,eF,a,Ap,hnew',b]
end
end Go.Ab


namespace Go.Ab
variable{P:An} {rs A:fa} {v x:KV}
mutual
theorem RY:∀ (p x:KV),A4 p x=true->x.ok->BI p x.pv=some (BD p x)
 | .un,x,h,_=>by cases x<;>simp[A4] at h;rfl
 | .sk,x,h,_=>by cases x<;>simp[A4] at h;rfl
 | .fT d,x,h,_=>by cases x<;>simp[A4] at h;rfl
 | .ref J o,x,h,_=>by cases x<;>simp[A4] at h;obtain⟨rfl,rfl⟩:=h;simp[BI,KV.pv,BD,AJ]
 | .fO _ _ _ _,x,h,_=>by simp[A4] at h
 | .mp J,x,h,_=>by cases x<;>simp[A4] at h;subst h;simp[BI,KV.pv,BD,AJ]
 | .it J,x,h,_=>by cases x<;>simp[A4] at h;subst h;simp[BI,KV.pv,BD,AJ]
 | .iF J,x,h,_=>by cases x<;>simp[A4] at h;subst h;simp[BI,KV.pv,BD,AJ]
 | .arr J k o n,x,h,_=>by
  cases x with
  | arr gP k' o' n' =>
   simp only[A4] at h;simp only[KV.pv,BI,BD];rw[h];rfl
  | _=>simp[A4] at h
 | .lit b,x,h,H=>MV H (by simpa[A4] using h)
 | .gU,x,h,H=>MV H (by simpa[A4] using h)
 | .cv v,x,h,H=>MV H (by simpa[A4] using h)
 | .fn f cap,x,h,H=>by
  cases x with
  | fn f' kP =>
   simp only[A4,bz,eJ] at h;obtain⟨rfl,h⟩:=h;simp only[KV.pv,BI,eF,BD];exact Mn cap kP h H
  | _=>simp[A4] at h
 | .fM Z,x,h,H=>by
  cases x with
  | fM ys =>
   simp only[A4] at h;simp only[KV.pv,BI,BD];exact Mn Z ys h H
  | _=>simp[A4] at h
 | .agg cs,x,h,H=>by
  simp only[A4] at h;simp only[BI,BD];by_cases hc:(CT cs).isSome=true;{rw[eH hc] at h;rw[eH hc,eH hc];exact MV H h}
  ·rw[eG hc] at h;rw[eG hc,eG hc];cases x with
   | agg jn=>exact Mn cs jn h H
   | _=>simp at h
 | .iface t y,x,h,H=>by
  simp only[A4] at h;simp only[BI,BD];by_cases hc:y.cl.isSome=true;{rw[eH hc] at h;rw[eH hc,eH hc];exact MV H h}
  ·rw[eG hc] at h;rw[eG hc,eG hc];cases x with
   | iface t' y' =>
    simp only[bz,eJ] at h;obtain⟨rfl,h⟩:=h;simp only[KV.pv,eF];exact RY y y' h H
   | _=>simp at h
theorem Mn:∀ (ps Z:ff),CQ ps Z=true->AP Z->G3 ps (Aw Z)=some (Fc ps Z)
 | [],Z,h,_=>by cases Z<;>simp[CQ] at h;rfl
 | p :: ps,Z,h,H=>by
  cases Z with
  | nil=>simp[CQ] at h
  | cons x Z =>
   simp only[CQ,bz] at h;simp only[Aw,G3,Fc];rw[RY p x h.1 H.1,Mn ps Z h.2 H.2]
theorem MV {x:KV} (H:x.ok) (h:x.cl.isSome=true):AJ (As x.pv) (some [x.pv])=some [x.cl.getD .undef]:=by obtain⟨v,hv⟩:=df.1 h;have U:=KV.jf H hv;rw[KV.iE hv,hv];simp[AJ,U]
end
theorem Y3 (p x:Ac) (h:CA p x=true) (H:x.ok):Eg p x.ob=some (MJ p x):=by
 cases p with
 | cells ty cs =>
  cases x with
  | cells o9 jn =>
   simp only[CA,bz,eJ] at h;obtain⟨rfl,h⟩:=h;simp only[Eg,Ac.ob,eF];exact Mn cs jn h H
  | _=>simp[CA] at h
 | whole ty w =>
  cases x with
  | whole o9 v =>
   simp only[CA,eJ] at h;subst h;have kb:As v=true:=H;have O:Az (EQ v)=true:=CG kb;simp[Eg,Ac.ob,MJ,AJ,O]
  | _=>simp[CA] at h
 | arr k kt ws =>
  cases x with
  | arr k' kt Z =>
   simp only[CA,bz,eJ] at h;obtain⟨rfl,rfl⟩:=h;have kb:Az Z=true:=H;simp[Eg,Ac.ob,MJ,F9,AJ,kb]
  | _=>simp[CA] at h
 | map ws =>
  cases x with
  | map es =>
   have kb:Az es=true:=H;simp[Eg,Ac.ob,MJ,F9,AJ,kb]
  | _=>simp[CA] at h
 | fW s0 p0 =>
  cases x with
  | fW s pos=>rfl
  | _=>simp[CA] at h
theorem RH:∀ (ps Z:fi),DC ps Z=true->(∀ o∈Z,o.ok)->HZ ps (Z.map Ac.ob)=some (MA ps Z)
 | [],[],_,_=>rfl
 | [],_ :: _,h,_=>by simp[DC] at h
 | _ :: _,[],h,_=>by simp[DC] at h
 | p :: ps,x :: Z,h,H=>by
  simp only[DC,bz] at h;simp only[bP,HZ,MA];rw[Y3 p x h.1 (H x bN),RH ps Z h.2 fun o ho=>H o (bM _ ho)]
theorem kwit_pv (h:x.ok):Cm x.pv=Lr x:=by
 cases x with
 | arr J k o n =>
  simp only[KV.pv,Lr,Cm];by_cases hc:k=1/\o=0/\n=0;{obtain⟨rfl,rfl,rfl⟩:=hc;rfl};{rw[eG hc];split;{rename_i heq;cases heq;exact eQ ⟨rfl,rfl,rfl⟩ hc};{rfl}}
 | cv v =>
  have hv:As v=true:=h;simp only[KV.pv,Lr];unfold Cm;split;{simp[As] at hv};{rfl}
 | _=>rfl
section
variable {ks:Ao}
theorem rP (hk:ks.Ok) (hv:v.ok) (h:Nz P ks v=some rs):∃ out,Fi none 1 0 (DG P.ins.length) ks.V v.pv=some out/\Rf P out=some rs:=by
 unfold Nz at h;split at h
 case h_2=>cases h
 rename_i sp gX;simp only at h;have gR:Bo ks.nt sp:=hk.kp sp (by rw[gX];exact cc.2 rfl);have hH:ks.V.fD=Bc ks.nt sp:=by show ks.fD.flatMap (Bc ks.nt)=_;rw[gX];simp
 have hw:∀ j,Cm (ks.V.fD.getD j .undef)=Lr (AN sp j):=fun j=>by rw[hH,JK gR,kwit_pv (gR.hZ j)]
 have hA:EJ (DG P.ins.length) ks.V.fD=IQ P.ins.length sp:=by unfold EJ IQ;exact b9 fun p _=>by rw[hw]
 have hG:Hx (DG P.ins.length) ks.V.fD=Pu P.ins.length sp:=by unfold Hx Pu;congr 1;exact List.filter_congr fun p _=>by rw[hw]
 have gK:=Dz hk
 have np:∀ m:Nm,((Aa ks.V.fA m).map Ob.names).getD []=((AZ ks.fA m).map Ac.names).getD []:=by
  intro m;rw[Ge hk];cases hl:AZ ks.fA m with
  | none=>rfl
  | some o =>
   simp only[bG,b7];exact Ac.jv (CU hk.ob hl)
 have hN:J6 (Aa ks.V.fA) (IQ P.ins.length sp) v.pv=Pt (AZ ks.fA) (IQ P.ins.length sp) v:=by
  unfold J6 Pt;rw[KV.iy hv];have e1:((IQ P.ins.length sp).flatMap fun p=>((Aa ks.V.fA p.1).map Ob.names).getD [])=(IQ P.ins.length sp).flatMap fun p=>((AZ ks.fA p.1).map Ac.names).getD []:=by congr 1;funext p;exact np p.1
  rw[e1,gK,<-GI (CB hk)]
 generalize IQ P.ins.length sp=zzb at h hA hN;generalize hNd:Pt (AZ ks.fA) zzb v=N at h hN;generalize hB:(zzb++N.zipIdx.map fun p=>(p.1,(1,0+p.2)))=B at h;split at h
 case isFalse=>cases h
 rename_i hcd;obtain⟨jB,nc,lg⟩:=hcd;cases h;simp only[bz] at lg;obtain⟨jb,kB,uq⟩:=lg
 have jL:(fun m=>if (B.map (·.1)).contains m then none else some none:Nm->Option fe)=Hu fun m=>!(B.map (·.1)).contains m:=by
  funext m;show (if (B.map (·.1)).contains m=true then none else some none)=if (!(B.map (·.1)).contains m)=true then some none else none
  cases (B.map (·.1)).contains m<;>rfl
 have iT:∀ J,FZ (Aa ks.V.fA) B J=(Kj (AZ ks.fA) B J).ob/\(Kj (AZ ks.fA) B J).ok:=by
  intro J;unfold FZ Kj
  have jx:((AZ ks.fA J).getD Fh).ok:=by
   cases hl:AZ ks.fA J with
   | none=>exact rfl
   | some o=>exact CU hk.ob hl
  have nC:((Aa ks.V.fA J).getD AH)=((AZ ks.fA J).getD Fh).ob:=by rw[Ge hk];cases AZ ks.fA J<;>rfl
  rw[jL,nC,<-Ac.vH _ jx,<-Ac.ko _ (Ac.jE _ jx)];exact⟨rfl,Ac.iz _ (Ac.jE _ jx)⟩
 refine⟨{v:=(v.pv.sub fun m=>if (B.map (·.1)).contains m then none else some none).fQ fun m=>(B.lookup m).getD m,new:=N.map (FZ (Aa ks.V.fA) B),gC:=zzb.map fun p=>(p.2,FZ (Aa ks.V.fA) B p.1),gone:=Pu P.ins.length sp,io:=true},?_,?_⟩
 ·unfold Fi;simp only
  rw[hA,hN,hB,hG];simp[Ap,jB]
 ·unfold Rf;simp only
  rw[eH nc];have e1:(v.pv.sub fun m=>if (B.map (·.1)).contains m then none else some none).fQ (fun m=>(B.lookup m).getD m)=((v.off fun m=>!(B.map (·.1)).contains m).fQ fun m=>(B.lookup m).getD m).pv:=by rw[jL,<-KV.mv _ hv,<-KV.mw _ (KV.jE _ hv)]
  have e2:(zzb.map fun p=>(p.2,FZ (Aa ks.V.fA) B p.1)).map (·.2)=(zzb.map fun p=>Kj (AZ ks.fA) B p.1).map Ac.ob:=by rw[bV,bV];exact b9 fun p _=>(iT p.1).1
  have e3:N.map (FZ (Aa ks.V.fA) B)=(N.map (Kj (AZ ks.fA) B)).map Ac.ob:=by rw[bV];exact b9 fun m _=>(iT m).1
  rw[e1,e2,e3,RY _ _ jb (KV.iz _ (KV.jE _ hv)),RH _ _ kB (fun o ho=>by
   obtain⟨p,_,rfl⟩:=bA.1 ho;exact (iT p.1).2),RH _ _ uq (fun o ho=>by
   obtain⟨m,_,rfl⟩:=bA.1 ho;exact (iT m).2)]
end
mutual
theorem XI {A:fa} (hv:Az A=true):∀ (p:KV) (i:Nat),(fill p A i).1.ok
 | .un,i | .sk,i | .fT _,i | .ref _ _,i | .fO _ _ _ _,i | .mp _,i | .it _,i | .iF _,i | .arr _ _ _ _,i=>trivial
 | .lit _,i | .gU,i | .cv _,i=>Lp hv i
 | .fn f cap,i=>KM hv cap i
 | .fM Z,i=>KM hv Z i
 | .agg cs,i=>by
  simp only[fill];split;{exact Lp hv i};{exact KM hv cs i}
 | .iface t y,i=>by
  simp only[fill];split;{exact Lp hv i};{exact XI hv y i}
theorem KM {A:fa} (hv:Az A=true):∀ (ps:ff) (i:Nat),AP (Ce ps A i).1
 | [],i=>trivial
 | p :: ps,i=>⟨XI hv p i,KM hv ps _⟩
theorem Lp {A:fa} (hv:Az A=true) (i:Nat):As (AL A i)=true:=by
 unfold AL;rw[bF];cases h:A[i]? with
 | none=>rfl
 | some x=>exact Hm hv h
end
theorem bg (hv:Az A=true) (p:Ac) (i:Nat):(BP p A i).1.ok:=by
 cases p with
 | cells ty cs=>exact KM hv cs i
 | whole ty w=>exact Lp hv i
 | arr k kt Z =>
  have:=Lp hv i;show Az (Ee (AL A i))=true;unfold Ee;split;{rename_i heq;rw[heq] at this;simpa[As] using this};{rfl}
 | map es =>
  have:=Lp hv i;show Az (Kk (AL A i))=true;unfold Kk;split;{rename_i heq;rw[heq] at this;simpa[As] using this};{rfl}
 | fW s p=>trivial
theorem UU {A:fa} (hv:Az A=true):∀ (ps:fi) (i:Nat),(∀ o∈(Cc ps A i).1,o.ok)/\(Cc ps A i).1.length=ps.length
 | [],i=>⟨fun o ho=>(by cases ho),rfl⟩
 | p :: ps,i=>by
  obtain⟨U,O⟩:=UU hv ps (BP p A i).2;refine⟨fun o ho=>?_,by simp[Cc,O]⟩;simp only[Cc,bE] at ho;rcases ho with rfl | ho;{exact bg hv p i};{exact U o ho}
theorem XJ {A:fa}:∀ (ps:ff) (i:Nat),(∀ p∈ps,EW p=false)->(∀ x∈(Ce ps A i).1,EW x=false)/\(Ce ps A i).1.length=ps.length
 | [],i,_=>⟨fun o ho=>(by cases ho),rfl⟩
 | p :: ps,i,hp=>by
  obtain⟨U,O⟩:=XJ (A:=A) ps (fill p A i).2 fun q hq=>hp q (bM _ hq);refine⟨fun x H=>?_,by simp[Ce,O]⟩;simp only[Ce,bE] at H;rcases H with rfl | H;{exact X3 (hp p bN)};{exact U x H}
theorem WG {cfg:CR} {fK:eU->fk} (hc:DK cfg fK) {g:eU} {fn:Ad} (ht:fK g=some fn) {P:An} {Pf:ff->fi->An} (hPf:cfg.pa g=some Pf) {Z:ff} {obs:fi} (hP:Pf Z obs=P) (hun:P.args.all (fun p=>!EW p)=true) {A rs:fa} (hv:Az A=true)
  (hr:PL cfg fn P A=some rs):ioO cfg.b P g A=some rs:=by
 obtain⟨fn',pB,⟨lD,_⟩,hll⟩:=hc.ioP g Pf hPf;have hla:=(hll Z obs).1;have hli:=(hll Z obs).2;rw[hP] at hla hli;rw[ht] at pB;cases pB;unfold PL at hr;simp only at hr;rw[CD] at hr;obtain⟨u1,u2⟩:=XJ (A:=A) P.args 0 fun p hp=>by simpa using bI.1 hun p hp
 have a1:=KM hv P.args 0;obtain⟨b1,b2⟩:=UU hv P.ins (Ce P.args A 0).2;generalize has:(Ce P.args A 0).1=aas at hr u1 u2 a1;generalize hos:(Cc P.ins A (Ce P.args A 0).2).1=os at hr b1 b2;obtain⟨i1,i2⟩:=Tw (nt:=fn.nt) a1 u1 (by omega);have hwsp:Bo fn.nt (((List.range P.ins.length).filter fun j=>!fn.gone.contains j).map fun j=>(j,KV.iF (0,j))):=by refine⟨?_,?_,?_,?_⟩;{rw[bV];have:((fun p:Nat×KV=>p.1)∘fun j=>(j,KV.iF (0,j)))=id:=rfl;rw[this,List.map_id];exact List.pairwise_lt_range.filter _};{intro p hp;obtain⟨j,hj,rfl⟩:=bA.1 hp;have:=cV.1 (cE.1 hj).1;simp only;omega};{intro p hp;obtain⟨j,hj,rfl⟩:=bA.1 hp;trivial};{intro p hp;obtain⟨j,hj,rfl⟩:=bA.1 hp;rfl}
 have hso:Bg fn.nt [(0,os)]:=⟨by simp,by simp[lD],fun p hp o ho=>by simp only[cc] at hp;subst hp;exact b1 o ho⟩
 have hks:({nt:=fn.nt,tmps:=aas.zipIdx.map fun p=>(p.2,p.1),fA:=[(0,os)],fD:=[((List.range P.ins.length).filter fun j=>!fn.gone.contains j).map fun j=>(j,KV.iF (0,j))]}:Ao).Ok :=
  ⟨i1.tm,hso,fun sp gR=>by simp only[cc] at gR;subst gR;exact hwsp⟩
 have hH:({nt:=fn.nt,tmps:=aas.zipIdx.map fun p=>(p.2,p.1),fA:=[(0,os)],fD:=[((List.range P.ins.length).filter fun j=>!fn.gone.contains j).map fun j=>(j,KV.iF (0,j))]}:Ao).V=D4 fn.gone fn.nt (os.map Ac.ob) (Aw aas):=by
  have e1:Bc fn.nt (aas.zipIdx.map fun p=>(p.2,p.1))=Aw aas++List.replicate (fn.nt - (Aw aas).length) .undef:=eM St.tmps i2;unfold Ao.V D4;simp only
  rw[e1];congr 1
  ·refine JM (by simp) fun i hi=>?_;by_cases h0:i=0;{subst h0;rw[cB (by simpa using lD)];rfl}
   ·rw[bR (bW h0),dZ,eH hi]
    have:AV [(0,os)] i=[]:=by
     simp only[AV];cases hb:Nat.beq i 0 with
     | true=>exact eQ (Cb hb) h0
     | false=>rfl
    rw[this];rfl
  ·simp only[cQ,List.flatMap_nil,dv];refine JR (by simp[E0]) fun i hi=>?_;unfold E0;rw[bK,cN hi];simp only[bG,cf];by_cases pW:i < os.length/\fn.gone.contains i=false;{rw[eH pW];have hm:(i,KV.iF (0,i))∈((List.range P.ins.length).filter fun j=>!fn.gone.contains j).map fun j=>(j,KV.iF (0,j)):=bA.2 ⟨i,cE.2 ⟨cV.2 (by have:=pW.1;omega),by simp only[pW.2,Bool.not_false]⟩,rfl⟩;rw[show AN (((List.range P.ins.length).filter fun j=>!fn.gone.contains j).map fun j=>(j,KV.iF (0,j))) i=KV.iF (0,i) from hwsp.get_mem hm];rfl}
   ·rw[eG pW]
    rw[show AN (((List.range P.ins.length).filter fun j=>!fn.gone.contains j).map fun j=>(j,KV.iF (0,j))) i=.un from Sv fun p hp=>by
     obtain⟨j,hj,rfl⟩:=bA.1 hp;obtain⟨U,O⟩:=cE.1 hj;have:=cV.1 U;simp only
     intro e;subst e;exact pW ⟨by omega,by simpa using O⟩]
    rfl
 have fin:∀ {k1:Ao},k1.Ok->(I6 k1 fn.res fun A=>Nz P k1 (I7 A))=some rs->(∀ v,CK k1.V fn.res=some v->AS fun n=>Bq (Co cfg.b.sp fK n) n fn (os.map Ac.ob) (Aw aas)=some (k1.V,DW v))->ioO cfg.b P g A=some rs:=by
  intro k1 gS hr H;obtain⟨ws,hr,hws,U⟩:=Wz gS fn.res hr;obtain⟨o1,o2⟩:=WB hws;obtain⟨out,g1,g2⟩:=rP gS o1 hr;have hI:cfg.b.I g (os.map Ac.ob) (Aw aas)=some (k1.V,(I7 ws).pv):=by rw[hc.I];unfold Q9;rw[ht,o2];exact TS (H _ U)
  unfold ioO;rw[hos,has,hI];simp only[g1,g2]
 split at hr
 ·rename_i hD;obtain⟨x,k1,e1,hr,gS,fG⟩:=Tf hc fn.code (h:=Ar) (hn:=fun _=>Ar) noH 0 hks hr;rw[hH] at fG;cases x with
  | exit id=>cases hr
  | _ =>
   refine fin gS hr fun v U=>fG.mono fun n ik=>?_;unfold Bq;rw[eH hD,ik];simp only[U]
 ·rename_i hD;obtain⟨x,k1,l,hr,gS,fG⟩:=rO hc fn.code hks hr;rw[hH] at fG;cases x with
  | exit id=>cases hr
  | _ =>
   obtain⟨k2,hr,ka,hdf⟩:=wH hc l gS hr;refine fin ka hr fun v U=>fG.je hdf fun n ik kF=>?_;unfold Bq;rw[eG hD,ik];simp only[kF,U]
end Go.Ab


namespace Go.Ab
variable{E':eY} {W:eS} {a u:PV} {b k:Nat} {c:Array eT} {fr:Nat×Nat} {n v:eT} {J:Nm} {p:Option (Nat×Nat)} {us:List eT}
section sp
variable {cx:Cx} {E:Type} {w0:eS} {I0 F0:Nat->Prop} {O0:Bu} {Hd:Nat->Option Obj} {R:Bl E} {e:E} {ds:List eZ} {I F:Nat->Prop} {lp:Nat->fb} {L:Am} {gf fE:List eT} {V:St} {w w':eS} {dst:fb}
theorem CV (hs:SR lp I L V gf fE w) (hf:Fr cx w0 I0 F0 O0 Hd R e ds I F L w) (h:ie w w') (hv:Aj w' I lp (some L) u v) :
  ∃ I' L',SR lp I' L' (apply V dst {v:=u}) (EE gf dst v) fE w'/\Fr cx w0 I0 F0 O0 Hd R e ds I' F L' w':=by
 have H:BA I F w I F w':=⟨h.os,h.tape,h.output,h.size,fun b hb _=>h.same b hb,fun _ h=>h,fun _ h=>.inl h,fun _ h=>.inl h⟩;have hi:IF I F w':=⟨fun b hb=>cG (hf.sep.iB b hb) h.size,fun b hb=>⟨cG (hf.sep.fB b hb).1 h.size,(hf.sep.fB b hb).2⟩⟩;have hw:cx.Wd I w':=cx.jK I I w w' hf.wd (fun _ h=>h) (fun b hb=>h.same b (hf.sep.iB b hb)) h.size;have hr:R.rel e I F w':=R.jK e I I F w w' hf.re (fun _ h=>h) (fun b hb=>h.same b (hb.elim (hf.sep.iB b) fun h=>(hf.sep.fB b h).1)) h.size;refine⟨I,L,?_,hf.called H hi hw hr⟩;have O:=hs.called hf H;cases dst with
 | none=>exact O
 | some d=>exact O.put d hv
theorem gy (w:eS):ie w w:=⟨rfl,rfl,rfl,bD _,fun _ _=>rfl⟩
theorem Pp (hs:SR lp I L V gf fE w) (hf:Fr cx w0 I0 F0 O0 Hd R e ds I F L w) {b C:Nat} (hL:L J=some (some (b,C)))
  (U:w'.os=w.os) (O:w'.tape=w.tape) (h3:w'.output=w.output) (h4:w.heap.size<=w'.heap.size) (hk:∀ k,k < w.heap.size->k≠b->w'.heap[k]?=w.heap[k]?)
  {ob:Ob} (iT:RD w' I lp L b C ob) (hv:Aj w' I lp (some L) u v) :
  ∃ I' L',SR lp I' L' (apply V dst {v:=u,gA:=some (J,ob)}) (EE gf dst v) fE w'/\Fr cx w0 I0 F0 O0 Hd R e ds I' F L' w':=by
 have hI:∀ k,I k->w'.heap[k]?=w.heap[k]?:=fun k hi=>hk k (hf.sep.iB k hi) fun e=>(hf.lB J b C hL).2.2.1 (e ▸ hi)
 have kC:Fr cx w0 I0 F0 O0 Hd R e ds I F L w':=hf.own U O h3 h4
  (fun k hb nz=>hk k hb fun e=>nz J C (e ▸ hL)) (fun _ h=>h) (fun _ h=>.inl h)
  (fun gP b' C' h=>⟨cG (hf.lB gP b' C' h).2.1 h4,(hf.lB gP b' C' h).2.2.1,.inr ⟨gP,C',h⟩⟩) hf.inj
 have hsr:SR lp I L {V with fA:=AM V.fA J ob} gf fE w':=hs.gA hL hI
  (fun m b' C' hm h=>hk b' (hf.lB m b' C' h).2.1 fun e=>hm (hf.inj m J b' C' C h (e ▸ hL))) iT
 refine⟨I,L,?_,kC⟩;cases dst with
 | none=>exact hsr
 | some d=>exact hsr.put d hv
theorem sp_gone (hs:SR lp I L V gf fE w) (hf:Fr cx w0 I0 F0 O0 Hd R e ds I F L w) (hL:L J=some p)
  (U:w'.os=w.os) (O:w'.tape=w.tape) (h3:w'.output=w.output) (h4:w.heap.size<=w'.heap.size) (hk:∀ b',b' < w.heap.size->(∀ C,p≠some (b',C))->w'.heap[b']?=w.heap[b']?)
  (hv:∀ L':Am,Aj w' I lp (some L') u v) :
  ∃ I' L',SR lp I' L' (apply V dst {v:=u,gA:=some (J,AH),kill:=some J}) (EE gf dst v) fE w'/\Fr cx w0 I0 F0 O0 Hd R e ds I' F L' w':=by
 have hI:∀ b',I b'->w'.heap[b']?=w.heap[b']?:=fun b' jh=>hk b' (hf.sep.iB b' jh) fun C e=>(hf.lB J b' C (by rw[hL,e])).2.2.1 jh
 have hu:=hs.th (w':=w') (k:=0) (kt:=0) (Z:=[]) (p':=none) hL hI
  (fun m b' C' hm hn=>hk b' (hf.lB m b' C' hn).2.1 fun C e=>hm (hf.inj m J b' C' C hn (by rw[hL,e]))) ⟨0,0,rfl⟩
 refine⟨I,(fun m=>if m=J then some none else L m),?_,?_⟩
 ·cases dst with
  | none=>exact hu
  | some d=>exact hu.put d (hv _)
 ·refine hf.own U O h3 h4 (fun b' jh hn=>hk b' jh fun C e=>hn J C (by rw[hL,e])) (fun _ h=>h) (fun _ h=>.inl h) ?_ ?_;{intro m b' C' hn;by_cases hm:m=J;{simp[hm] at hn};{simp only[hm,eE] at hn;exact⟨by have:=(hf.lB m b' C' hn).2.1;omega,(hf.lB m b' C' hn).2.2.1,.inr ⟨m,C',hn⟩⟩}}
  ·intro m m' b' C1 C2 hn ik;by_cases hm:m=J;{simp[hm] at hn}
   ·by_cases ly:m'=J
    {simp[ly] at ik};{simp only[hm,ly,eE] at hn ik;exact hf.inj m m' b' C1 C2 hn ik}
theorem wI (hs:SR lp I L V gf fE w) (hf:Fr cx w0 I0 F0 O0 Hd R e ds I F L w) (hd:∀ d,dst=some d->V.fA[d]?=some []) (h:ie w w') 
  (hp:∀ b C,p=some (b,C)->w.heap.size<=b/\b < w'.heap.size) (iT:∀ L',A5 w' I lp L' (.arr k 0 []) p) (hv:∀ (L':Am) (J:Nm),L' J=some p->Aj w' I lp (some L') (.arr J k 0 0) v) :
  ∃ I' L',SR lp I' L' (apply V dst {v:=.arr (dst.getD 0,0) k 0 0,new:=[.arr k 0 []]}) (EE gf dst v) fE w'/\Fr cx w0 I0 F0 O0 Hd R e ds I' F L' w':=by
 have l9:SR lp I L V gf fE w':=hs.keeps (fun _ h=>h) (fun b hb=>h.same b (hf.sep.iB b hb)) fun J b C hn=>h.same b (hf.lB J b C hn).2.1;cases dst with
 | none =>
  refine⟨I,L,l9,?_⟩;have H:BA I F w I F w':=⟨h.os,h.tape,h.output,h.size,fun b hb _=>h.same b hb,fun _ h=>h,fun _ h=>.inl h,fun _ h=>.inl h⟩;have hi:IF I F w':=⟨fun b hb=>cG (hf.sep.iB b hb) h.size,fun b hb=>⟨cG (hf.sep.fB b hb).1 h.size,(hf.sep.fB b hb).2⟩⟩;have hw:cx.Wd I w':=cx.jK I I w w' hf.wd (fun _ h=>h) (fun b hb=>h.same b (hf.sep.iB b hb)) h.size;have hr:R.rel e I F w':=R.jK e I I F w w' hf.re (fun _ h=>h) (fun b hb=>h.same b (hb.elim (hf.sep.iB b) fun h=>(hf.sep.fB b h).1)) h.size;exact hf.called H hi hw hr
 | some d =>
  have hd:=hd d rfl
  have hn:=l9.news hd [.arr k 0 []] [p] rfl (by
   intro j ky q U O;cases j with
   | zero=>simp at U O;subst U;subst O;exact iT _
   | succ j=>simp at U)
  refine⟨I,BO L d [p],hn.put d (hv _ (d,0) (by simp[BO])),Fr.news hf hd h.os h.tape h.output h.size (fun b hb=>h.same b hb) ?_ ?_⟩
  ·intro j b C hj;cases j with
   | zero=>simp at hj;exact hp b C hj
   | succ j=>simp at hj
  ·intro j j' b C C' U O;cases j with
   | zero =>
    cases j' with
    | zero=>rfl
    | succ j'=>simp at O
   | succ j=>simp at U
end sp
theorem Ic {w:eS} {I:Nat->Prop} {lp:Nat->fb} {L:fm} (h:Ae w I lp L [a] us):∃ u,us=[u]/\Aj w I lp L a u:=by
 obtain⟨u,r,U,rfl,O⟩:∃ u r,Aj w I lp L a u/\us=u :: r/\Ae w I lp L [] r:=by cases h;exact⟨_,_,by assumption,rfl,by assumption⟩
 cases O;exact⟨u,rfl,U⟩
theorem CL {w:eS} {I:Nat->Prop} {lp:Nat->fb} {L:fm} {b:PV} (h:Ae w I lp L [a,b] us):∃ u v,us=[u,v]/\Aj w I lp L a u/\Aj w I lp L b v:=by
 obtain⟨u,r,U,rfl,O⟩:∃ u r,Aj w I lp L a u/\us=u :: r/\Ae w I lp L [b] r:=by cases h;exact⟨_,_,by assumption,rfl,by assumption⟩
 obtain⟨v,rfl,h3⟩:=Ic O;exact⟨u,v,rfl,U,h3⟩
theorem ig {o:Nat} (h:W.heap[b]?=some (.cells c E' fr)):(W.setCell ⟨b,o,none⟩ n).heap[b]?=some (.cells (c.setIfInBounds o n) E' fr):=by simp[World.setCell,Array.getElem?_modify,h]
theorem Og (W:eS) (a:Addr) (n:eT):(W.setCell a n).heap.size=W.heap.size:=by simp[World.setCell]
theorem cell_of_heap {w w':eS} (h:w'.heap[b]?=w.heap[b]?) (o:Nat):w'.cell? ⟨b,o,none⟩=w.cell? ⟨b,o,none⟩:=by simp only[World.cell?,h]
end Go.Ab


namespace Go.Ab
open Go
variable{I:Nat->Prop} {L:fm} {S:fc} {zza gm gt:Nat} {W w:eS} {c:Array eT} {gc:eU} {lp:Nat->fb} {sp:eU->(Nm->fe)->fa->fj} {us:List eT} {v:eT}
def ErrVars (gs:fc) (T:Nat) (I:Nat->Prop) (w:eS):Prop :=
 ∃ ad:Nat->Addr,(∀ g∈gs,I g/\I (ad g).block/\(∃ E f,w.heap[g]?=some (.cells #[.iface T (.pointer (some (ad g)))] E f))/\∃ c t,w.heap[(ad g).block]?=some (.cells c t (0,0)))/\∀ g∈gs,∀ g'∈gs,g≠g'->ad g≠ad g'
structure WVars (gs:fc) (T:Nat) (et:List (Nat×eT)) (j0:List (Nat×Array eT)) (ns:fc) (I:Nat->Prop) (w:eS):Prop where
 err:ErrVars gs T I w
 et0:∀ p∈et,I p.1/\w.cell? ⟨p.1,0,none⟩=some p.2
 fK:∀ p∈j0,I p.1/\∃ E f,w.heap[p.1]?=some (.cells p.2 E f)
 num:∀ g∈ns,I g/\∃ m,w.cell? ⟨g,0,none⟩=some (.int .i64 m)
def T5 (gs:fc) (T:Nat):DZ:=fun g=>if gs.contains g then some [.gw g T] else none
noncomputable def HI (P:eX) (mixed:P.follows .mixedOrders=true) (gs:fc) (T:Nat) (et:List (Nat×eT)) (j0:List (Nat×Array eT)) (ns:fc):Cx where
 P:=P
 mixed:=mixed
 G:=T5 gs T
 Wd I w:=WVars gs T et j0 ns I w
 jK I I' w w' h U O _:=by obtain⟨⟨ad,e1,e2⟩,e0,ht,hn⟩:=h;refine⟨⟨ad,fun g hg=>?_,e2⟩,fun p hp=>⟨U _ (e0 p hp).1,by rw[cell_of_heap (O _ (e0 p hp).1)];exact (e0 p hp).2⟩,fun p hp=>?_,fun g hg=>?_⟩;{obtain⟨a1,a2,a3,a4⟩:=e1 g hg;exact⟨U _ a1,U _ a2,by rw[O _ a1];exact a3,by rw[O _ a2];exact a4⟩};{obtain⟨a1,a2⟩:=ht p hp;exact⟨U _ a1,by rw[O _ a1];exact a2⟩};{obtain⟨a1,m,a2⟩:=hn g hg;exact⟨U _ a1,m,by rw[cell_of_heap (O _ a1)];exact a2⟩}
 gl I w g cs h hg lp L:=by unfold T5 at hg;split at hg;{rename_i rQ;cases hg;obtain⟨ad,e1,_⟩:=h.err;obtain⟨a1,a2,⟨E,f,a3⟩,a4⟩:=e1 g (by simpa using rQ);exact Aj.ptr (off:=0) (o:=0) [.gw g T] g _ _ _ a1 a3 (by simp) (by simp) (by simp[A1];rfl) (by simp;exact .cons _ _ _ _ (.gw g T _ _ _ _ a1 a3 rfl) .nil)};{cases hg}
def El (cx:Cx) (g:eU) (V:St) (A:fa) (out:Ai):Prop:=Bn cx.P g /\
  ∀ (E:Type) (w0:eS) (I0 F0:Nat->Prop) (O0:Bu) (Hd:Nat->Option Obj) (R:Bl E) (e:E) (ds:List eZ) (I F:Nat->Prop) (lp:Nat->fb) (L:Am) (gf fE us:List eT) (w:eS) (dst:fb),
   SR lp I L V gf fE w->Fr cx w0 I0 F0 O0 Hd R e ds I F L w->Ae w I lp (some L) A us->(∀ d,dst=some d->V.fA[d]?=some []) ->
   CallsIn Fence.wide 0 cx.P g us.toArray w fun
    | .returned v,w'=>∃ I' L',SR lp I' L' (apply V dst {out with v:=out.v.fQ (DT (dst.getD 0))}) (EE gf dst v) fE w'/\Fr cx w0 I0 F0 O0 Hd R e ds I' F L' w'
    | _,_=>False
def HA (f:(Nm->fe)->fa->fj):Prop:=∀ σ σ' A,(∀ J∈AA σ Ax (Al A),σ J=σ' J)->f σ A=f σ' A
theorem JP {g:Nat} {t:eY} (h:Aj w I lp L (.gw g t) v):∃ x c E fr,v=.iface t x/\w.heap[g]?=some (.cells c E fr)/\c[0]?=some (.iface t x):=by
 cases h with
 | gw g t x c E fr hI hb hv=>exact⟨x,c,E,fr,rfl,hb,hv⟩
theorem gG {w':eS} (h:Go.RowKit.Below w.heap.size w w'):ie w w':=⟨h.os,h.tape,h.output,h.size,h.block⟩
structure AsOK (P:eX) (g:eU) (ge:Nat) (et:eT) (ps:List (Nat×Nat)):Prop where
 enters:Bn P g
 none:∀ (v:eT) (w:eS),Calls P g #[.nilIface,v] w fun e w'=>e=.returned (.bool false)/\w'=w
 hit:∀ p t,ps.lookup p=some t->∀ (v n:eT),v.cells=#[n]->n.oneCell'=true->∀ (a:Addr) (lu:eT) (w:eS),w.cell? ⟨ge,0,Option.none⟩=some et->w.cell? a=some lu->w.frozen? a=false ->
  Calls P g #[.iface t v,.iface p (.pointer (some a))] w fun e w'=>e=.returned (.bool true)/\∃ o1 o2 o3 o4,w'=((((w.alloc o1).alloc o2).alloc o3).alloc o4).setCell a n
section at_
variable {P:eX} {mx:P.follows .mixedOrders=true} {gs:fc} {T:Nat} {et:List (Nat×eT)} {j0:List (Nat×Array eT)} {ns:fc}
def wJ (gs:fc) (T:Nat) (S:fc):fa->fj
 | [.fR,.gw g t]=>if g∈gs/\t=T then some {v:=.bool false} else none
 | [.gw g t,.gw g' t']=>if g∈gs/\g'∈gs/\t=T/\t'=T then some {v:=.bool (g==g')} else none
 | [.iface s x,.gw g t]=>if g∈gs/\t=T/\s∈S/\As x=true then some {v:=.bool false} else none
 | _=>none
structure IsOK (P:eX) (g:eU) (T:Nat) (S:fc):Prop where
 enters:Bn P g
 none:∀ (a:Addr) (w:eS),Calls P g #[.nilIface,.iface T (.pointer (some a))] w fun e w'=>e=.returned (.bool false)/\w'=w
 same:∀ (a:Addr) (w:eS),Calls P g #[.iface T (.pointer (some a)),.iface T (.pointer (some a))] w fun e w'=>e=.returned (.bool true)/\w'=w
 other:∀ (a b:Addr) (ca cb:Array eT) (ta tb:eY) (w:eS),a≠b->w.heap[a.block]?=some (.cells ca ta (0,0))->w.heap[b.block]?=some (.cells cb tb (0,0)) ->
  Calls P g #[.iface T (.pointer (some a)),.iface T (.pointer (some b))] w fun e w'=>e=.returned (.bool false)/\w'=w
 type:∀ s∈S,∀ (v:eT) (b:Addr) (w:eS),Calls P g #[.iface s v,.iface T (.pointer (some b))] w fun e w'=>e=.returned (.bool false)/\w'=w
theorem is_at {g:eU} (hA:IsOK P g T S) {V:St} {A:fa} {out:Ai} (h:wJ gs T S A=some out):El (HI P mx gs T et j0 ns) g V A out:=by refine⟨hA.enters,?_⟩;unfold wJ at h;split at h;{split at h;{rename_i hp;obtain⟨rQ,rfl⟩:=hp;cases h;intro E w0 I0 F0 O0 Hd R e ds I F lp L gf fE us w dst hs hf hu hd;obtain⟨u,v,rfl,U,O⟩:=CL hu;rw[Hn U];obtain⟨ad,e1,e2⟩:=hf.wd.err;obtain⟨x,c,E',fr,rfl,q1,q2⟩:=JP O;obtain⟨_,_,⟨_,_,a3⟩,_⟩:=e1 _ rQ;rw[a3] at q1;cases q1;cases q2;refine callsIn_wide.2 ((hA.none _ w).mono ?_);rintro ev w' ⟨rfl,rfl⟩;exact CV hs hf (gy _) (.bool false)};{cases h}};{rename_i g1 t1 g2 t2;split at h;{rename_i hp;obtain⟨hg1,hg2,rfl,rfl⟩:=hp;cases h;intro E w0 I0 F0 O0 Hd R e ds I F lp L gf fE us w dst hs hf hu hd;obtain⟨u,v,rfl,U,O⟩:=CL hu;obtain⟨ad,e1,e2⟩:=hf.wd.err;obtain⟨x,c,E',fr,rfl,q1,q2⟩:=JP U;obtain⟨y,c',E'',fr',rfl,q1',q2'⟩:=JP O;obtain⟨_,_,⟨_,_,a3⟩,ca,ta,a4⟩:=e1 _ hg1;obtain⟨_,_,⟨_,_,b3⟩,cb,tb,b4⟩:=e1 _ hg2;rw[a3] at q1;cases q1;cases q2;rw[b3] at q1';cases q1';cases q2';by_cases rQ:g1=g2;{subst rQ;refine callsIn_wide.2 ((hA.same _ w).mono ?_);rintro ev w' ⟨rfl,rfl⟩;rw[eO];exact CV hs hf (gy _) (.bool true)};{refine callsIn_wide.2 ((hA.other _ _ ca cb ta tb w (e2 _ hg1 _ hg2 rQ) a4 b4).mono ?_);rintro ev w' ⟨rfl,rfl⟩;rw[beq_eq_false_iff_ne.2 rQ];exact CV hs hf (gy _) (.bool false)}};{cases h}};{rename_i ss x g1 t1;split at h;{rename_i hp;obtain⟨rQ,rfl,hS,H⟩:=hp;cases h;intro E w0 I0 F0 O0 Hd R e ds I F lp L gf fE us w dst hs hf hu hd;obtain⟨u,v,rfl,U,O⟩:=CL hu;obtain⟨u',rfl,kb⟩:=IH U;obtain⟨ad,e1,e2⟩:=hf.wd.err;obtain⟨x,c,E',fr,rfl,q1,q2⟩:=JP O;obtain⟨_,_,⟨_,_,a3⟩,_⟩:=e1 _ rQ;rw[a3] at q1;cases q1;cases q2;refine callsIn_wide.2 ((hA.type _ hS u' _ w).mono ?_);rintro ev w' ⟨rfl,rfl⟩;exact CV hs hf (gy _) (.bool false)};{cases h}};{cases h}
end at_
section any
variable {cx:Cx} {g:eU} {V:St} {A:fa} {out:Ai}
def countB (c:UInt8):fp->Nat
 | []=>0
 | x :: Z=>(if x=c then 1 else 0)+countB c Z
def X8:fa->fj
 | [.str s,.str [c]]=>some {v:=.int .i64 (countB c s:Nat)}
 | _=>none
theorem XP (c:UInt8):∀ s:fp,countB c s=Lib.countByte s c
 | []=>rfl
 | x :: Z=>by
  unfold countB;rw[XP c Z];unfold Lib.countByte;rw[List.count_cons];by_cases h:x=c;{simp[h,Nat.add_comm]};{simp[h]}
theorem wK (he:Bn cx.P g) (hc:∀ (s:ByteArray) (c:UInt8) (w:eS),Calls cx.P g #[.string s,.string ⟨#[c]⟩] w fun e w'=>e=.returned (.int .i64 (Lib.countByte s.data.toList c))/\w'=w)
  (h:X8 A=some out):El cx g V A out:=by
 refine⟨he,?_⟩;unfold X8 at h;split at h;{cases h;intro E w0 I0 F0 O0 Hd R e ds I F lp L gf fE us w dst hs hf hu hd;obtain⟨u,v,rfl,U,O⟩:=CL hu;rw[B4 U,B4 O];refine callsIn_wide.2 ((hc _ _ w).mono ?_);rintro ev w' ⟨rfl,rfl⟩;refine CV hs hf (gy _) ?_;rw[XP];exact .int _ _};{cases h}
def wL:fa->fj
 | [.str s,.int .u8 c]=>if 0<=c/\c < 256 then some {v:=.int .i64 (Lib.indexByte s (UInt8.ofNat c.toNat))} else none
 | _=>none
theorem idx_at (he:Bn cx.P g) (hc:∀ (s:ByteArray) (c:Int) (w:eS),Calls cx.P g #[.string s,.int .u8 c] w fun e w'=>e=.returned (.int .i64 (Lib.indexByte s.data.toList c.toNat.toUInt8))/\w'=w)
  (h:wL A=some out):El cx g V A out:=by
 refine⟨he,?_⟩;unfold wL at h;split at h;{split at h;{cases h;intro E w0 I0 F0 O0 Hd R e ds I F lp L gf fE us w dst hs hf hu hd;obtain⟨u,v,rfl,U,O⟩:=CL hu;rw[B4 U,B5 O];refine callsIn_wide.2 ((hc _ _ w).mono ?_);rintro ev w' ⟨rfl,rfl⟩;exact CV hs hf (gy _) (.int _ _)};{cases h}};{cases h}
def M7 (T:Nat) (σ:Nm->fe):fa->fj
 | [.ref n 0]=>match σ n with
  | some (.cells t [.gh,x])=>if t=T then some {v:=.fM [],gA:=some (n,.cells T [.ref n 0,x])} else none
  | some (.cells t [.ref n' 0,_])=>if t=T/\n'=n then some {v:=.fM []} else none
  | _=>none
 | _=>none
def NO (T zza:Nat) (σ:Nm->fe):fa->fj
 | [.ref n 0]=>match σ n with
  | some (.cells t [_,.fF])=>if t=T then some {v:=.str []} else none
  | some (.cells t [_,.arr n' 1 0 k])=>match σ n' with
   | some (.arr 1 u Z)=>match EM (Z.take k) with
    | some s=>if t=T/\u=zza/\n'≠n/\0 < k/\k<=Z.length/\k<=Et then some {v:=.str s,gA:=some (n',AH),kill:=some n'} else none
    | none=>none
   | _=>none
  | _=>none
 | _=>none
theorem bo (T:Nat):HA (M7 T):=by intro σ σ' A h;unfold M7;split;{rename_i n;rw[h n (C9 _ _ n (by simp[Al,PV.names]))]};{rfl}
theorem wM (T zza:Nat):HA (NO T zza):=by
 intro σ σ' A h;unfold NO;split
 ·rename_i n;rw[<-h n (C9 _ _ n (by simp[Al,PV.names]))];have O:∀ t a n' k,σ n=some (.cells t [a,.arr n' 1 0 k])->σ n'=σ' n':=by intro t a n' k he;refine h n' ?_;show n'∈AA σ 3 [n];unfold AA;refine bT _ (C9 _ _ n' ?_);simp[he,Ob.names,Al,PV.names]
  generalize H:σ n=o at *;split;{rfl};{rename_i t a n' k;rw[O t a n' k rfl]};{rfl}
 {rfl}
theorem Vg {w:eS} {I:Nat->Prop} {lp:Nat->fb} {L:fm}:∀ (Z:fa) (A:List eT) (s:fp),Ae w I lp L Z A->EM Z=some s->∀ (j:Nat) (x:UInt8),s[j]?=some x->A[j]?=some (.int .u8 (x.toNat:Int))
 | [],_,s,_,h,j,x,hj=>by cases h;simp at hj
 | p :: Z,_,s,h,hb,j,x,hj=>by
  cases h with
  | cons _ v _ A hv hs =>
   simp only[EM] at hb;split at hb
   ·rename_i b bs U O;cases hb;have hp:v=.int .u8 (b.toNat:Int):=by unfold Ke at U;split at U;{rename_i n;split at U;{rename_i hn;cases U;rw[B5 hv];congr 1;simp;omega};{cases U}};{cases U}
    cases j with
    | zero=>simp at hj;subst hj;simp[hp]
    | succ j=>simp at hj |-;exact Vg Z A bs hs O j x hj
   {cases hb}
theorem UX:∀ (Z:fa) (s:fp),EM Z=some s->s.length=Z.length
 | [],s,h=>by cases h;rfl
 | p :: Z,s,h=>by
  simp only[EM] at h;split at h;{rename_i b bs U O;cases h;simp[UX Z bs O]};{cases h}
theorem VU:∀ (Z:fa) (s:fp),EM Z=some s->fL Z=Z
 | [],_,_=>rfl
 | p :: Z,s,h=>by
  simp only[EM] at h;split at h
  ·rename_i b bs U O;have hp:p.cells=[p]:=by unfold Ke at U;split at U;{rfl};·cases U
   simp[fL,hp,VU Z bs O]
  {cases h}
theorem Lg {a b:eT} (h:c.toList=[a,b]):c=#[a,b]:=by apply Array.toList_inj.1;simpa using h
theorem Ze {a:Addr} {n k:Nat} (h:k≠a.block):(W.freeze a n).heap[k]?=W.heap[k]?:=by unfold World.freeze;split;{rfl};{simp[Array.getElem?_modify,bW h]}
theorem repL4 {a b c d:PV} (h:Ae w I lp L [a,b,c,d] us):∃ u v x y,us=[u,v,x,y]/\Aj w I lp L a u/\Aj w I lp L b v/\Aj w I lp L c x/\Aj w I lp L d y:=by
 obtain⟨u,r,U,rfl,O⟩:∃ u r,Aj w I lp L a u/\us=u :: r/\Ae w I lp L [b,c,d] r:=by cases h;exact⟨_,_,by assumption,rfl,by assumption⟩
 obtain⟨v,r,h3,rfl,h4⟩:∃ u q,Aj w I lp L b u/\r=u :: q/\Ae w I lp L [c,d] q:=by cases O;exact⟨_,_,by assumption,rfl,by assumption⟩
 obtain⟨x,y,rfl,h5,h6⟩:=CL h4;exact⟨u,v,x,y,rfl,U,h3,h5,h6⟩
structure wN (P:eX) (gc gs:eU) (T zza:Nat):Prop where
 pK:Bn P gc
 pL:Bn P gs
 nzT:T≠0
 nzU:zza≠0
 used:∀ (b:Nat) (w:eS),w.cell? ⟨b,0,none⟩=some (.pointer (some ⟨b,0,none⟩))->Calls P gc #[.pointer (some ⟨b,0,none⟩)] w fun e w'=>e=.returned (.tuple #[])/\w'=w
 fresh:∀ (b:Nat) (w:eS),w.cell? ⟨b,0,none⟩=some (.pointer none)->w.shape? b=some (T,2)->w.frozen? ⟨b,0,none⟩=false ->
  Calls P gc #[.pointer (some ⟨b,0,none⟩)] w fun e w'=>e=.returned (.tuple #[])/\w'=w.setCell ⟨b,0,none⟩ (.pointer (some ⟨b,0,none⟩))
 wO:∀ (b:Nat) (p:eT) (w:eS),w.heap[b]?=some (.cells #[p,.slice none 0 0] T (0,0))->Calls P gs #[.pointer (some ⟨b,0,none⟩)] w fun e w'=>e=.returned (.string ⟨#[]⟩)/\w'=w.drew
 pM:∀ (b g cap:Nat) (p:eT) (cur:Array eT) (l:fp) (w:eS),w.heap[b]?=some (.cells #[p,.slice (some ⟨g,0,none⟩) l.length cap] T (0,0))->w.heap[g]?=some (.cells cur zza (0,0))->l≠[]->l.length<=cap->l.length<=cur.size ->
  l.length<=9223372036854775807->(∀ (j:Nat) (x:UInt8),l[j]?=some x->cur[j]?=some (Value.int .u8 (x.toNat:Int))) ->
  Calls P gs #[.pointer (some ⟨b,0,none⟩)] w fun e w'=>e=.returned (.string ⟨l.toArray⟩)/\w'=w.drew.freeze ⟨g,0,none⟩ l.length
theorem wP {gs:eU} {T:Nat} (hB:wN cx.P g gs T zza) (h:M7 T (Aa V.fA) A=some out):El cx g V A out:=by
 refine⟨hB.pK,?_⟩;unfold M7 at h;split at h
 ·rename_i n;split at h
  ·rename_i t x gK;split at h
   case isFalse=>cases h
   rename_i ht;subst ht;cases h;intro E w0 I0 F0 O0 Hd R e ds I F lp L gf fE us w dst hs hf hu hd;obtain⟨u,rfl,hr⟩:=Ic hu;obtain⟨b,C,hL,rfl⟩:=EK hr;obtain⟨q,hq,iT⟩:=hs.ob n _ gK;rw[hL] at hq;cases hq;obtain⟨c,E',hb,hC,gL,iZ⟩:=iT;obtain⟨v0,v1,hc,r0,r1⟩:=CL iZ;have hc:=Lg hc;subst hc;obtain rfl:E'=t:=gL.2.resolve_left hB.nzT;rw[JV r0] at hb;refine callsIn_wide.2 ((hB.fresh b w (by simp[World.cell?,hb]) (by simp[World.shape?,hb]) (by simp[World.frozen?,hb])).mono ?_);rintro ev w' ⟨rfl,rfl⟩;have jR:=ig (o:=0) (n:=.pointer (some ⟨b,0,none⟩)) hb;have hI:∀ k,I k->(w.setCell ⟨b,0,none⟩ (.pointer (some ⟨b,0,none⟩))).heap[k]?=w.heap[k]?:=fun k hk=>Go.RowKit.Below.heap_setCell _ _ _ _ fun (e:k=b)=>(hf.lB n b C hL).2.2.1 (e ▸ hk);refine Pp (w':=w.setCell ⟨b,0,none⟩ (.pointer (some ⟨b,0,none⟩))) hs hf hL rfl rfl rfl (by rw[Og];exact bD _) (fun k _ hk=>Go.RowKit.Below.heap_setCell _ _ _ _ hk) ?_ (.fM [] #[] .nil);refine⟨_,E',jR,by simpa using hC,⟨?_,.inr rfl⟩,?_⟩;{intro v hv;simp at hv;rcases hv with rfl | rfl;{rfl};{exact gL.1 _ (by simp)}};{simp;exact .cons _ _ _ _ (.ref n 0 b C hL) (.cons _ _ _ _ (Aj.mono (fun _ h=>h) hI (fun _ _ h=>h) r1) .nil)}
  {rename_i t n' x gK;split at h;{rename_i hn;obtain⟨rfl,rfl⟩:=hn;cases h;intro E w0 I0 F0 O0 Hd R e ds I F lp L gf fE us w dst hs hf hu hd;obtain⟨u,rfl,hr⟩:=Ic hu;obtain⟨b,C,hL,rfl⟩:=EK hr;obtain⟨q,hq,iT⟩:=hs.ob _ _ gK;rw[hL] at hq;cases hq;obtain⟨c,E',hb,hC,gL,iZ⟩:=iT;obtain⟨v0,v1,hc,r0,r1⟩:=CL iZ;have hc:=Lg hc;subst hc;obtain⟨b',C',nX,rfl⟩:=EK r0;rw[hL] at nX;cases nX;refine callsIn_wide.2 ((hB.used b w (by simp[World.cell?,hb])).mono ?_);rintro ev w' ⟨rfl,rfl⟩;exact CV hs hf (gy _) (.fM [] #[] .nil)};{cases h}};{cases h}
 {cases h}
theorem str_at {T:Nat} (hB:wN cx.P gc g T zza) (h:NO T zza (Aa V.fA) A=some out):El cx g V A out:=by
 refine⟨hB.pL,?_⟩;unfold NO at h;split at h
 ·rename_i n;split at h
  ·rename_i t x gK;split at h
   case isFalse=>cases h
   rename_i ht;subst ht;cases h;intro E w0 I0 F0 O0 Hd R e ds I F lp L gf fE us w dst hs hf hu hd;obtain⟨u,rfl,hr⟩:=Ic hu;obtain⟨b,C,hL,rfl⟩:=EK hr;obtain⟨q,hq,iT⟩:=hs.ob _ _ gK;rw[hL] at hq;cases hq;obtain⟨c,E',hb,hC,gL,iZ⟩:=iT;obtain⟨v0,v1,hc,r0,r1⟩:=CL iZ;have hc:=Lg hc;subst hc;obtain rfl:E'=t:=gL.2.resolve_left hB.nzT;rw[Fb r1] at hb;refine callsIn_wide.2 ((hB.wO b v0 w hb).mono ?_);rintro ev w' ⟨rfl,rfl⟩;exact CV (w':=w.drew) hs hf ⟨rfl,rfl,rfl,bD _,fun _ _=>rfl⟩ (.str [])
  ·rename_i t x n' k gK;split at h
   ·rename_i u' Z hlk';split at h
    ·rename_i s im;split at h
     ·rename_i hc0;obtain⟨rfl,rfl,hnn,hk0,hkl,hkm⟩:=hc0;cases h;intro E w0 I0 F0 O0 Hd R e ds I F lp L gf fE us w dst hs hf hu hd;obtain⟨u,rfl,hr⟩:=Ic hu;obtain⟨b,C,hL,rfl⟩:=EK hr;obtain⟨q,hq,iT⟩:=hs.ob _ _ gK;rw[hL] at hq;cases hq;obtain⟨c,E',hb,hC,gL,iZ⟩:=iT;obtain⟨v0,v1,hc,r0,r1⟩:=CL iZ;have hc:=Lg hc;subst hc;obtain rfl:E'=t:=gL.2.resolve_left hB.nzT;obtain⟨q',hq',hob'⟩:=hs.ob _ _ hlk';rcases Gi r1 with ⟨g,C',cap,nX,rfl,hC',hn⟩ | ⟨_,_,_,h0⟩
      ·rw[nX] at hq';cases hq';obtain⟨cur,E2,hg,hCg,hle,kq,mX,fX⟩:=hob';obtain rfl:E2=u':=hle.2.resolve_left hB.nzU;have hlen:=UX _ _ im;rw[dn,cu hkl] at hlen;have hrk:Ae w I lp none (Z.take k) (cur.toList.take k):=by have U:=fX.take k;rw[show k=k*1 by omega,<-IB kq,VU _ _ im,cn,cu (by omega)] at U;simpa using U
       have hbytes:=Vg _ _ _ hrk im;have hcur:k<=cur.size:=by have:=hle.1;omega
       subst hlen;refine callsIn_wide.2 ((hB.pM b g cap v0 cur s w (by simpa using hb) hg (by intro e;subst e;simp at hk0) hn hcur ?_ ?_).mono ?_);{unfold Et at hkm;omega};{intro j x H;have hj:j < s.length:=(bH.1 H).1;have U:=hbytes j x H;rw[dm hj] at U;simpa using U}
       ·rintro ev w' ⟨rfl,rfl⟩;have nS:∀ (W:eS) (a:Addr) (n:Nat),(W.freeze a n).os=W.os/\(W.freeze a n).tape=W.tape/\(W.freeze a n).output=W.output/\(W.freeze a n).heap.size=W.heap.size:=fun W a n=>by unfold World.freeze;split<;>simp
        obtain⟨f1,f2,f3,f4⟩:=nS w.drew ⟨g,0,none⟩ s.length;refine sp_gone (w':=w.drew.freeze ⟨g,0,none⟩ s.length) hs hf nX f1 f2 f3 (Nat.le_of_eq f4.symm) (fun k' lf gj=>?_) (fun L'=>.str s);rw[Ze fun e=>gj C' (by rw[e])];rfl
      {omega}
     {cases h}
    {cases h}
   {cases h}
  {cases h}
 {cases h}
end any
def wQ:Nat->Nat->fp
 | 0,_=>[]
 | k+1,u=>if u < 10 then [UInt8.ofNat (48+u)] else wQ k (u / 10)++[UInt8.ofNat (48+u%10)]
def Ig (n:Int):fp:=if n < 0 then 45 :: wQ 20 n.natAbs else wQ 20 n.toNat
theorem TD:∀ (k u:Nat),u < 10 ^ k->0 < k->wQ k u=Lib.decDigits u
 | 0,_,_,h=>eQ h (Nat.lt_irrefl _)
 | k+1,u,h,_=>by
  unfold wQ;rw[Lib.decDigits];by_cases hu:u < 10;{rw[eH hu,dif_pos hu]}
  ·rw[eG hu,dif_neg hu];have U:0 < k:=by rcases Nat.eq_zero_or_pos k with rfl | hk;{exact eQ (by simpa using h) hu};{exact hk}
   have O:u / 10 < 10 ^ k:=by refine Nat.div_lt_of_lt_mul ?_;rw[Nat.pow_succ,Nat.mul_comm] at h;exact h
   rw[TD k (u / 10) O U]
theorem Yp (n:Int) (h0 : -9223372036854775808<=n) (U:n<=9223372036854775807):Ig n=Lib.itoa n:=by
 unfold Ig Lib.itoa;have hp:(18446744073709551616:Nat)<=10 ^ 20:=by decide
 rw[TD 20 n.natAbs (by omega) (by decide),TD 20 n.toNat (by omega) (by decide)]
def wR:fa->fj
 | [.int .i64 n,.int .i64 10]=>if -9223372036854775808<=n/\n<=9223372036854775807 then some {v:=.str (Ig n)} else none
 | _=>none
def Nr:fa->fj
 | [.int .i64 n]=>if -9223372036854775808<=n/\n<=9223372036854775807 then some {v:=.str (Ig n)} else none
 | _=>none
def TI:fa->fj
 | [.str s,.str lu,.str new,.int .i64 n]=>if s.length<=65536/\new.length<=65536/\1<=lu.length then some {v:=.str (Lib.replace s lu new n)} else none
 | _=>none
section at2
variable {P:eX} {mx:P.follows .mixedOrders=true} {gs:fc} {T:Nat} {et:List (Nat×eT)} {j0:List (Nat×Array eT)} {ns:fc} {g:eU} {V:St} {A:fa} {out:Ai}
theorem fmt_at (he:Bn P g) (ht:(gt,(Lib.pow10Tab.map fun z=>Value.int .u64 z).toArray)∈j0) (hn:P.globalNamed "internal/strconv.uint64pow10"=some gt)
  (hc:∀ (n:Int), -9223372036854775808<=n->n<=9223372036854775807->∀ w:eS,Lib.TabIs P w "internal/strconv.uint64pow10" .u64 Lib.pow10Tab->Calls P g #[.int .i64 n,.int .i64 10] w fun e w'=>e=.returned (.string ⟨(Lib.itoa n).toArray⟩)/\∃ k os,w'=Sort.grow (w.drewN k) os)
  (h:wR A=some out):El (HI P mx gs T et j0 ns) g V A out:=by
 refine⟨he,?_⟩;unfold wR at h;split at h
 ·rename_i n;split at h
  ·rename_i hr;cases h;intro E w0 I0 F0 O0 Hd R e ds I F lp L gf fE us w dst hs hf hu hd;obtain⟨u,v,rfl,U,O⟩:=CL hu;rw[B5 U,B5 O];obtain⟨_,E',fr,hp⟩:=hf.wd.fK _ ht;have ht:Lib.TabIs P w "internal/strconv.uint64pow10" .u64 Lib.pow10Tab:=by unfold Lib.TabIs World.var?;rw[hn];simp only[dc,hp]
   refine callsIn_wide.2 ((hc n hr.1 hr.2 w ht).mono ?_);rintro ev w' ⟨rfl,k,os,rfl⟩;rw[Yp n hr.1 hr.2];exact CV hs hf (gG (Lib.below_grow _ w (bD _) k os)) (.str _)
  {cases h}
 {cases h}
theorem itoa_at (he:Bn P g) (ht:(gt,(Lib.pow10Tab.map fun z=>Value.int .u64 z).toArray)∈j0) (hn:P.globalNamed "internal/strconv.uint64pow10"=some gt)
  (hc:∀ (n:Int), -9223372036854775808<=n->n<=9223372036854775807->∀ w:eS,Lib.TabIs P w "internal/strconv.uint64pow10" .u64 Lib.pow10Tab->Calls P g #[.int .i64 n] w fun e w'=>e=.returned (.string ⟨(Lib.itoa n).toArray⟩)/\∃ k os,w'=Sort.grow (w.drewN k) os)
  (h:Nr A=some out):El (HI P mx gs T et j0 ns) g V A out:=by
 refine⟨he,?_⟩;unfold Nr at h;split at h
 ·rename_i n;split at h
  ·rename_i hr;cases h;intro E w0 I0 F0 O0 Hd R e ds I F lp L gf fE us w dst hs hf hu hd;obtain⟨u,rfl,U⟩:=Ic hu;rw[B5 U];obtain⟨_,E',fr,hp⟩:=hf.wd.fK _ ht;have ht:Lib.TabIs P w "internal/strconv.uint64pow10" .u64 Lib.pow10Tab:=by unfold Lib.TabIs World.var?;rw[hn];simp only[dc,hp]
   refine callsIn_wide.2 ((hc n hr.1 hr.2 w ht).mono ?_);rintro ev w' ⟨rfl,k,os,rfl⟩;rw[Yp n hr.1 hr.2];exact CV hs hf (gG (Lib.below_grow _ w (bD _) k os)) (.str _)
  {cases h}
 {cases h}
theorem repl_at (he:Bn P g) (hg:gm∈ns)
  (hc:∀ (s lu new:ByteArray) (n m:Int) (w:eS),s.size < 4294967281->w.cell? ⟨gm,0,none⟩=some (.int .i64 m)->1<=lu.size->s.size+Lib.countB s lu*new.size<=140737488355328 ->
   Calls P g #[.string s,.string lu,.string new,.int .i64 n] w fun e w'=>e=.returned (.string ⟨(Lib.replace s.data.toList lu.data.toList new.data.toList n).toArray⟩)/\Go.RowKit.Below w.heap.size w w')
  (h:TI A=some out):El (HI P mx gs T et j0 ns) g V A out:=by
 refine⟨he,?_⟩;unfold TI at h;split at h
 ·rename_i s lu new n;split at h
  ·rename_i hr;obtain⟨l1,l2,l3⟩:=hr;cases h;intro E w0 I0 F0 O0 Hd R e ds I F lp L gf fE us w dst hs hf hu hd;obtain⟨u1,u2,u3,u4,rfl,U,O,h3,h4⟩:=repL4 hu;rw[B4 U,B4 O,B4 h3,B5 h4];obtain⟨_,m,hm⟩:=hf.wd.num _ hg;have iG:=Lib.count_le s lu
   refine callsIn_wide.2 ((hc ⟨s.toArray⟩ ⟨lu.toArray⟩ ⟨new.toArray⟩ n m w (by show s.toArray.size < _;simp;omega) hm (by show 1<=lu.toArray.size;simp;omega) (by
    show s.toArray.size+Lib.count s.toArray.toList lu.toArray.toList*new.toArray.size<=_;simp only[dS];have:Lib.count s lu*new.length<=65537*65536:=Nat.mul_le_mul (by omega) l2;omega)).mono ?_)
   rintro ev w' ⟨rfl,hw⟩;exact CV hs hf (gG hw) (.str _)
  {cases h}
 {cases h}
end at2
theorem cfg_loc (h:∀ g,HA (sp g)) (g:eU) (σ:Nm->fe) (A:fa) (hv:Az A=true):sp g σ A=sp g (fun _=>none) A:=by
 refine h g σ _ A fun J hm=>?_;rw[(BT hv).1] at hm;have:AA σ Ax []=[]:=by simp[AA,Ax]
 rw[this] at hm;cases hm
end Go.Ab


namespace Go.Ab
open Go
variable{cs:fa} {J:Nm} {ty:Nat} {u:eT} {y0:Int}
def Lk (k:eW) (σ:Nm->fe):fa->fj
 | [.ref n o]=>match σ n with
  | some (.cells _ cs)=>match cs[o]? with
   | some (.int k' y)=>if k'=k then some {v:=.int k y} else none
   | _=>none
  | _=>none
 | _=>none
def K0 (k:eW) (σ:Nm->fe):fa->fj
 | [.ref n o,.int k1 y]=>match σ n with
  | some (.cells ty cs)=>match cs[o]? with
   | some (.int k' _)=>if k'=k/\k1=k then some {v:=.fM [],gA:=some (n,.cells ty (cs.set o (.int k y)))} else none
   | _=>none
  | _=>none
 | _=>none
def Lj (k:eW) (x y:Int) (σ:Nm->fe):fa->fj
 | [.ref n o]=>match σ n with
  | some (.cells ty cs)=>match cs[o]? with
   | some (.int k' z)=>if k'=k/\z=x then some {v:=.fM [],gA:=some (n,.cells ty (cs.set o (.int k y)))} else none
   | _=>none
  | _=>none
 | _=>none
theorem Wu (k:eW):HA (Lk k):=by intro σ σ' A h;unfold Lk;split;{rename_i n o;rw[h n (C9 _ _ n (by simp[Al,PV.names]))]};{rfl}
theorem U6 (k:eW):HA (K0 k):=by intro σ σ' A h;unfold K0;split;{rename_i n o k1 y;rw[h n (C9 _ _ n (by simp[Al,PV.names]))]};{rfl}
theorem V5 (k:eW) (x y:Int):HA (Lj k x y):=by intro σ σ' A h;unfold Lj;split;{rename_i n o;rw[h n (C9 _ _ n (by simp[Al,PV.names]))]};{rfl}
section
variable {cx:Cx} {E:Type} {w0:eS} {I0 F0:Nat->Prop} {O0:Bu} {Hd:Nat->Option Obj} {R:Bl E} {e:E} {ds:List eZ} {I F:Nat->Prop} {lp:Nat->fb} {L:Am} {gf fE:List eT} {V:St} {w:eS} {dst:fb}
theorem Pl (hs:SR lp I L V gf fE w) {o:Nat} {k:eW} (gK:Aa V.fA J=some (.cells ty cs)) (hr:Aj w I lp (some L) (.ref J o) u) (h0:cs[o]?=some (.int k y0)) :
  ∃ b C,L J=some (some (b,C))/\u=.pointer (some ⟨b,o,none⟩)/\w.cell? ⟨b,o,none⟩=some (.int k y0)/\w.frozen? ⟨b,o,none⟩=false:=by
 obtain⟨b,C,hL,rfl⟩:=EK hr;obtain⟨q,hq,iT⟩:=hs.ob J _ gK;rw[hL] at hq;cases hq;obtain⟨c,E',hb,hC,gL,iZ⟩:=iT;obtain⟨v,hv,nQ⟩:=iZ.get h0;rw[B5 nQ] at hv;refine⟨b,C,hL,rfl,?_,by simp[World.frozen?,hb]⟩;rw[dl] at hv;simp[World.cell?,hb,hv]
theorem W6 (hs:SR lp I L V gf fE w) (hf:Fr cx w0 I0 F0 O0 Hd R e ds I F L w) {o:Nat} {k:eW} {b C:Nat} (gK:Aa V.fA J=some (.cells ty cs)) (hL:L J=some (some (b,C))) (y:Int) :
  ∃ I' L',SR lp I' L' (apply V dst {v:=.fM [],gA:=some (J,.cells ty (cs.set o (.int k y)))}) (EE gf dst (.tuple #[])) fE (w.setCell ⟨b,o,none⟩ (.int k y))/\Fr cx w0 I0 F0 O0 Hd R e ds I' F L' (w.setCell ⟨b,o,none⟩ (.int k y)):=by
 obtain⟨q,hq,iT⟩:=hs.ob J _ gK;rw[hL] at hq;cases hq;obtain⟨c,E',hb,hC,gL,iZ⟩:=iT;have jR:=ig (o:=o) (n:=.int k y) hb;have hI:∀ j,I j->(w.setCell ⟨b,o,none⟩ (.int k y)).heap[j]?=w.heap[j]?:=fun j hj=>Go.RowKit.Below.heap_setCell _ _ _ _ fun (e:j=b)=>(hf.lB J b C hL).2.2.1 (e ▸ hj);refine Pp (w':=w.setCell ⟨b,o,none⟩ (.int k y)) hs hf hL rfl rfl rfl (by rw[Og];exact bD _) (fun j _ hj=>Go.RowKit.Below.heap_setCell _ _ _ _ hj) ?_ (.fM [] #[] .nil);refine⟨_,E',jR,by simpa using hC,⟨?_,gL.2⟩,?_⟩;{intro v hv;rw[ef] at hv;rcases dG hv with hv | rfl;{exact gL.1 v hv};{rfl}};{rw[ef];exact Ae.mono (fun _ h=>h) hI (fun _ _ h=>h) (iZ.set o (.int k y))}
end
section at_
variable {cx:Cx} {g:eU} {V:St} {A:fa} {out:Ai} {k:eW}
theorem Xt (hg:∀ (a:Addr) (y:Int) (w:eS),w.cell? a=some (.int k y)->(callFunc g #[.pointer (some a)]).run cx.P w=.ok (.value (.int k y)) w) (h:Lk k (Aa V.fA) A=some out):RB cx g V A out:=by
 unfold Lk at h;split at h
 case h_2=>cases h
 split at h
 case h_2=>cases h
 rename_i ty cs gK;split at h
 case h_2=>cases h
 rename_i k' y h0;split at h
 case isFalse=>cases h
 rename_i hk;subst hk;cases h;intro E w0 I0 F0 O0 Hd R e ds I F lp L gf fE us w dst hs hf hu hd;obtain⟨u,rfl,hr⟩:=Ic hu;obtain⟨b,C,hL,rfl,U,O⟩:=Pl hs gK hr h0;exact⟨_,w,hg _ _ w U,CV hs hf (gy w) (.int _ _)⟩
theorem V8 (hg:∀ (a:Addr) (y0 y:Int) (w:eS),w.cell? a=some (.int k y0)->w.frozen? a=false->(callFunc g #[.pointer (some a),.int k y]).run cx.P w=.ok (.value (.tuple #[])) (w.setCell a (.int k y))) (h:K0 k (Aa V.fA) A=some out):RB cx g V A out:=by
 unfold K0 at h;split at h
 case h_2=>cases h
 split at h
 case h_2=>cases h
 rename_i ty cs gK;split at h
 case h_2=>cases h
 rename_i k' y0 h0;split at h
 case isFalse=>cases h
 rename_i hk;obtain⟨rfl,rfl⟩:=hk;cases h;intro E w0 I0 F0 O0 Hd R e ds I F lp L gf fE us w dst hs hf hu hd;obtain⟨u,v,rfl,hr,hv⟩:=CL hu;obtain⟨b,C,hL,rfl,U,O⟩:=Pl hs gK hr h0;rw[B5 hv];exact⟨_,_,hg _ _ _ w U O,W6 hs hf gK hL _⟩
theorem X5 {x y:Int} (he:Bn cx.P g) (hg:∀ (a:Addr) (w:eS),w.cell? a=some (.int k x)->w.frozen? a=false->Calls cx.P g #[.pointer (some a)] w fun e w'=>e=.returned (.tuple #[])/\w'=w.setCell a (.int k y)) (h:Lj k x y (Aa V.fA) A=some out):El cx g V A out:=by
 refine⟨he,?_⟩;unfold Lj at h;split at h
 case h_2=>cases h
 split at h
 case h_2=>cases h
 rename_i ty cs gK;split at h
 case h_2=>cases h
 rename_i k' z h0;split at h
 case isFalse=>cases h
 rename_i hk;obtain⟨rfl,rfl⟩:=hk;cases h;intro E w0 I0 F0 O0 Hd R e ds I F lp L gf fE us w dst hs hf hu hd;obtain⟨u,rfl,hr⟩:=Ic hu;obtain⟨b,C,hL,rfl,U,O⟩:=Pl hs gK hr h0;refine callsIn_wide.2 ((hg _ w U O).mono ?_);rintro ev w' ⟨rfl,rfl⟩;exact W6 hs hf gK hL _
end at_
section k_
variable {σ:Nm->fw} {Z:ff} {out:Aq} {k:eW}
end k_
end Go.Ab


namespace Go.Ab
open Go
def NQ (k:eW) (σ:Nm->fe):fa->fj
 | [.ref n o,.int k1 d]=>match σ n with
  | some (.cells ty cs)=>match cs[o]? with
   | some (.int k' x)=>if k'=k/\k1=k then some {v:=.int k (k.wrap (x+d)),gA:=some (n,.cells ty (cs.set o (.int k (k.wrap (x+d)))))} else none
   | _=>none
  | _=>none
 | _=>none
def PI:fa->Option (List fp)
 | []=>some []
 | .str s :: r=>match PI r with
  | some l=>some (s :: l)
  | none=>none
 | _=>none
def Nq (σ:Nm->fe):fa->fj
 | [.arr n k o m,.str sep]=>match σ n with
  | some (.arr 1 _ Z)=>match PI ((Z.drop o).take m) with
   | some l=>if k=1/\0 < m/\l.length=m/\m<=65536/\(Lib.join l sep).length<=65536 then some {v:=.str (Lib.join l sep)} else none
   | none=>none
  | _=>none
 | _=>none
def SW:fa->fj
 | [.sl k [] _]=>some {v:=.sl k [] true}
 | _=>none
structure As3OK (P:eX) (g:eU) (ge:Nat) (et:eT) (p t:Nat):Prop where
 enters:Bn P g
 none:∀ (v:eT) (w:eS),Calls P g #[.nilIface,v] w fun e w'=>e=.returned (.bool false)/\w'=w
 hit:∀ (v n1 n2 n3:eT),v.cells=#[n1,n2,n3]->n1.oneCell'=true->n2.oneCell'=true->n3.oneCell'=true->∀ (b:Nat) (o1 o2 o3:eT) (E:eY) (w:eS),
  w.cell? ⟨ge,0,Option.none⟩=some et->w.heap[b]?=some (.cells #[o1,o2,o3] E (0,0)) ->
  Calls P g #[.iface t v,.iface p (.pointer (some ⟨b,0,Option.none⟩))] w fun e w'=>e=.returned (.bool true) /\
   ∃ q1 q2 q3 q4,w'=((((((w.alloc q1).alloc q2).alloc q3).alloc q4).setCell ⟨b,0,Option.none⟩ n1).setCell ⟨b,1,Option.none⟩ n2).setCell ⟨b,2,Option.none⟩ n3
theorem wS (k:eW):HA (NQ k):=by intro σ σ' A h;unfold NQ;split;{rename_i n o k1 d;rw[h n (C9 _ _ n (by simp[Al,PV.names]))]};{rfl}
theorem rR:HA Nq:=by intro σ σ' A h;unfold Nq;split;{rename_i n k o m sep;rw[h n (C9 _ _ n (by simp[Al,PV.names]))]};{rfl}
theorem U5:∀ {Z:fa} {l:List fp},PI Z=some l->∀ {j:Nat} {s:fp},l[j]?=some s->Z[j]?=some (.str s)
 | [],_,h,j,s,hj=>by cases h;cases hj
 | x :: r,l,h,j,s,hj=>by
  unfold PI at h;split at h;{rename_i he;cases he}
  ·rename_i s0 r' he;obtain⟨rfl,rfl⟩:=List.cons.inj he;split at h
   ·rename_i l' hl;cases h;cases j with
    | zero=>cases hj;rfl
    | succ j=>exact U5 hl (j:=j) hj
   {cases h}
  {cases h}
theorem VV:∀ {Z:fa},(∀ x∈Z,x.cells.length=1)->∀ {j:Nat} {s:fp},Z[j]?=some (.str s)->(fL Z)[j]?=some (.str s)
 | x :: r,hk,0,s,h=>by
  cases h;simp[fL,PV.cells]
 | x :: r,hk,j+1,s,h=>by
  have U:=hk x (bN ..);have:=VV (Z:=r) (fun y hy=>hk y (bM _ hy)) (j:=j) (by simpa using h);rw[fL,cD (by omega),U];simpa using this
section at_
variable {cx:Cx} {g:eU} {V:St} {A:fa} {out:Ai} {k:eW}
theorem add_ret (hg:∀ (a:Addr) (x d:Int) (w:eS),w.cell? a=some (.int k x)->w.frozen? a=false->(callFunc g #[.pointer (some a),.int k d]).run cx.P w=.ok (.value (.int k (k.wrap (x+d)))) (w.setCell a (.int k (k.wrap (x+d))))) (h:NQ k (Aa V.fA) A=some out):RB cx g V A out:=by
 unfold NQ at h;split at h
 case h_2=>cases h
 rename_i J o k1 d;split at h
 case h_2=>cases h
 rename_i ty cs gK;split at h
 case h_2=>cases h
 rename_i k' x h0;split at h
 case isFalse=>cases h
 rename_i hk;obtain⟨gS,ka⟩:=hk;subst gS;subst ka;cases h;intro E w0 I0 F0 O0 Hd R e ds I F lp L gf fE us w dst hs hf hu hd;obtain⟨u,v,rfl,hr,hv⟩:=CL hu;obtain⟨b,C,hL,rfl,U,O⟩:=Pl hs gK hr h0;rw[B5 hv];refine⟨_,_,hg _ _ _ w U O,?_⟩;obtain⟨q,hq,iT⟩:=hs.ob _ _ gK;rw[hL] at hq;cases hq;obtain⟨c,E',hb,hC,gL,iZ⟩:=iT;have jR:=ig (o:=o) (n:=Value.int k1 (k1.wrap (x+d))) hb;have hI:∀ j,I j->(w.setCell ⟨b,o,none⟩ (Value.int k1 (k1.wrap (x+d)))).heap[j]?=w.heap[j]?:=fun j hj=>Go.RowKit.Below.heap_setCell _ _ _ _ fun (e:j=b)=>(hf.lB J b C hL).2.2.1 (e ▸ hj);refine Pp (w':=w.setCell ⟨b,o,none⟩ (Value.int k1 (k1.wrap (x+d)))) hs hf hL rfl rfl rfl (by rw[Og];exact bD _) (fun j _ hj=>Go.RowKit.Below.heap_setCell _ _ _ _ hj) ?_ (.int _ _);refine⟨_,E',jR,by simpa using hC,⟨?_,gL.2⟩,?_⟩;{intro v hv;rw[ef] at hv;rcases dG hv with hv | rfl;{exact gL.1 v hv};{rfl}};{rw[ef];exact Ae.mono (fun _ h=>h) hI (fun _ _ h=>h) (iZ.set o (.int k1 _))}
theorem join_at (he:Bn cx.P g) (hc:∀ (bk o c:Nat) (Z:List ByteArray) (sep:ByteArray) (w:eS),
   (∀ (j:Nat) x,Z[j]?=some x->w.cell? ⟨bk,o+j,none⟩=some (.string x))->bk < w.heap.size->Z.length<=140737488355328->Z.length<=c->(Lib.join (Z.map (·.data.toList)) sep.data.toList).length<=140737488355328 ->
   Calls cx.P g #[.slice (some ⟨bk,o,none⟩) Z.length c,.string sep] w fun e w'=>e=.returned (.string ⟨(Lib.join (Z.map (·.data.toList)) sep.data.toList).toArray⟩)/\Go.RowKit.Below w.heap.size w w')
  (h:Nq (Aa V.fA) A=some out):El cx g V A out:=by
 refine⟨he,?_⟩;unfold Nq at h;split at h
 case h_2=>cases h
 rename_i J k o m sep;split at h
 case h_2=>cases h
 rename_i kt Z gK;split at h
 case h_2=>cases h
 rename_i l hl;split at h
 case isFalse=>cases h
 rename_i hh;obtain⟨rfl,hm,hlm,hm2,hlen⟩:=hh;cases h;intro E w0 I0 F0 O0 Hd R e ds I F lp L gf fE us w dst hs hf hu hd;obtain⟨u,v,rfl,hr,hv⟩:=CL hu;obtain⟨q,hq,iT⟩:=hs.ob _ _ gK;rcases Gi hr with ⟨b,C,cap,hL,rfl,hC,hn⟩ | ⟨_,_,_,h0⟩
 ·rw[hL] at hq;cases hq;obtain⟨c,E',hb,hCs,hle,kq,gL,fX⟩:=iT;rw[B4 hv];have hll:(l.map fun s=>(⟨s.toArray⟩:ByteArray)).length=m:=by simpa using hlm
  have sF:(l.map fun s=>(⟨s.toArray⟩:ByteArray)).map (·.data.toList)=l:=by rw[bV];exact List.map_id'' (fun _=>rfl) l
  have jN:=hc b (o*1) cap (l.map fun s=>⟨s.toArray⟩) ⟨sep.toArray⟩ w (fun j x H=>by
   rw[bK,bB] at H;obtain⟨s,lZ,rfl⟩:=H;have U:=U5 hl lZ
   have hj:j < m:=by have:=(bH.1 lZ).1;omega
   rw[dm hj,dF] at U;have O:=VV kq U;obtain⟨v,hv,nQ⟩:=fX.get O;rw[B4 nQ] at hv;have gI:o+j < Z.length:=(bH.1 U).1;rw[dm (by omega),dl] at hv
   simp[World.cell?,hb,hv]) (hf.lB _ b C hL).2.1 (by omega) (by omega) (by
    rw[sF];show (Lib.join l sep.toArray.toList).length<=_;simp only[];omega)
  rw[hll,sF] at jN;refine callsIn_wide.2 (jN.mono ?_);rintro ev w' ⟨rfl,hw⟩;exact CV hs hf (gG hw) (.str _)
 {omega}
theorem rS (he:Bn cx.P g) (hc:∀ (a:Option Addr) (c:Nat) (w:eS),∃ a',Calls cx.P g #[.slice a 0 c] w fun e w'=>e=.returned (.slice a' 0 0)/\ie w w')
  (h:SW A=some out):El cx g V A out:=by
 refine⟨he,?_⟩;unfold SW at h;split at h
 case h_2=>cases h
 cases h;intro E w0 I0 F0 O0 Hd R e ds I F lp L gf fE us w dst hs hf hu hd;obtain⟨u,rfl,hr⟩:=Ic hu
 obtain⟨a,c,rfl⟩:∃ a c,u=.slice a 0 c:=by
  cases hr with
  | lx=>exact⟨_,_,rfl⟩
  | sl=>exact⟨_,_,rfl⟩
 obtain⟨a',iG⟩:=hc a c w;refine callsIn_wide.2 (iG.mono ?_);rintro ev w' ⟨rfl,hw⟩;exact CV hs hf hw (.lx _ _ _ _ fun _=>rfl)
end at_
section at3
variable {P:eX} {mx:P.follows .mixedOrders=true} {gs:fc} {T:Nat} {et:List (Nat×eT)} {j0:List (Nat×Array eT)} {ns:fc} {g:eU} {V:St} {A:fa} {out:Ai}
end at3
end Go.Ab


namespace Go.Ab
open Go
section kb_
variable {σ:Nm->fw} {Z:ff} {out:Aq} {T zza:Nat}
end kb_
end Go.Ab


namespace Go.Ab
open Go
variable{f:eU} {gone:fc} {nt:Nat}
def PZ:DZ:=T5 [0,1,2,5,10,13,15,18,19,20,21,22] 489
def LE:Hint:=[]
noncomputable def mkF (io shut gT:Bool) (gone:fc) (gv:Bool) (nt:Nat) (f:eU):Ad:={nt,code:=((Js Go.Proofs.Tryz.prog PZ (Me LE Go.Proofs.Tryz.prog f) f).getD default).code,res:=((Js Go.Proofs.Tryz.prog PZ (Me LE Go.Proofs.Tryz.prog f) f).getD default).res,io,shut,gT,gone,gv}
theorem Ah {io shut gT:Bool} {gv:Bool} (h:(Js Go.Proofs.Tryz.prog PZ (Me LE Go.Proofs.Tryz.prog f) f).map (·.nt)=some nt):Js Go.Proofs.Tryz.prog PZ (Me LE Go.Proofs.Tryz.prog f) f=some {mkF io shut gT gone gv nt f with io:=false,shut:=false,gT:=false,gone:=[],gv:=false}:=by
 obtain⟨fn,U,rfl⟩:=bB.1 h;unfold mkF;rw[U];have O:=U;unfold Js at O;split at O
 ·split at O
  ·split at O;·cases O
   {cases O;rfl}
  {cases O}
 {cases O}
noncomputable def fn5:Ad:=mkF true false false [] false 11 5
noncomputable def fn6:Ad:=mkF true false false [] false 25 6
noncomputable def fn8:Ad:=mkF false true false [] false 34 8
noncomputable def fn7:Ad:=mkF false true false [] false 32 7
noncomputable def fn3:Ad:=mkF false true false [] false 68 3
noncomputable def fn4:Ad:=mkF false true false [] false 52 4
noncomputable def fn9:Ad:=mkF true false false [] false 5 9
noncomputable def fn10:Ad:=mkF true false false [] false 41 10
noncomputable def fn11:Ad:=mkF true false false [] false 6 11
noncomputable def fn12:Ad:=mkF false true false [] false 6 12
noncomputable def fn14:Ad:=mkF false true false [] false 8 14
noncomputable def fn15:Ad:=mkF true false false [] false 3 15
noncomputable def fn16:Ad:=mkF false true false [] false 40 16
noncomputable def fn17:Ad:=mkF false true false [] false 37 17
noncomputable def fn18:Ad:=mkF false true false [] false 7 18
noncomputable def fn19:Ad:=mkF false true false [] false 31 19
noncomputable def fn20:Ad:=mkF true false false [] false 106 20
noncomputable def fn21:Ad:=mkF true false false [] false 49 21
noncomputable def fn22:Ad:=mkF true false false [] false 20 22
noncomputable def fn25:Ad:=mkF false true false [] false 14 25
noncomputable def fn26:Ad:=mkF true false false [] false 10 26
noncomputable def fn27:Ad:=mkF true true false [] false 36 27
noncomputable def fn28:Ad:=mkF true false false [] false 16 28
noncomputable def fn29:Ad:=mkF false true false [] false 13 29
noncomputable def fn30:Ad:=mkF false true false [] false 5 30
noncomputable def fn31:Ad:=mkF false true false [] false 14 31
noncomputable def fn32:Ad:=mkF false true false [] false 11 32
noncomputable def fn33:Ad:=mkF false true false [] false 7 33
noncomputable def fn34:Ad:=mkF false true false [] false 19 34
noncomputable def fn35:Ad:=mkF false true false [] false 47 35
noncomputable def fn36:Ad:=mkF true false false [] false 40 36
noncomputable def fn37:Ad:=mkF false true false [] false 11 37
noncomputable def fn38:Ad:=mkF true false false [] false 44 38
noncomputable def fn42:Ad:=mkF false true false [] false 34 42
noncomputable def fn43:Ad:=mkF false true false [] false 37 43
noncomputable def fn45:Ad:=mkF true true false [] false 5 45
noncomputable def fn46:Ad:=mkF true true false [] false 16 46
noncomputable def fn47:Ad:=mkF false true false [] false 13 47
noncomputable def fn48:Ad:=mkF true true false [] false 27 48
noncomputable def fn49:Ad:=mkF true true false [] false 74 49
noncomputable def fn51:Ad:=mkF false true false [] false 5 51
noncomputable def fn52:Ad:=mkF false true false [] false 25 52
noncomputable def fn53:Ad:=mkF false true false [] false 20 53
noncomputable def fn54:Ad:=mkF true false false [] false 85 54
noncomputable def fn55:Ad:=mkF false false false [] false 36 55
noncomputable def fn56:Ad:=mkF false true false [] false 20 56
noncomputable def fn59:Ad:=mkF false true false [] false 4 59
noncomputable def fn66:Ad:=mkF true false false [] false 25 66
noncomputable def fn67:Ad:=mkF false true false [] false 19 67
noncomputable def fn68:Ad:=mkF false true false [] false 11 68
noncomputable def fn69:Ad:=mkF true false false [] false 13 69
noncomputable def fn74:Ad:=mkF true false false [] false 19 74
noncomputable def fn77:Ad:=mkF false true false [] false 21 77
noncomputable def fn78:Ad:=mkF false true false [] false 16 78
noncomputable def Kt:Ad:=mkF true true false [] false 100 80
noncomputable def D5:Ad:=mkF true false false [] false 11 81
noncomputable def fn82:Ad:=mkF true false false [] false 21 82
noncomputable def fn83:Ad:=mkF false true false [] false 8 83
noncomputable def fn89:Ad:=mkF false true false [] false 125 89
noncomputable def fn92:Ad:=mkF false true false [] false 40 92
noncomputable def fn93:Ad:=mkF false true false [] false 46 93
noncomputable def fn94:Ad:=mkF true false false [] false 12 94
noncomputable def fn95:Ad:=mkF true false false [] false 23 95
noncomputable def fn97:Ad:=mkF true false false [] false 12 97
noncomputable def fn100:Ad:=mkF false true false [] false 5 100
noncomputable def wT:Ad:=mkF true false false [] false 24 112
noncomputable def wU:Ad:=mkF true false false [] false 42 114
noncomputable def fn115:Ad:=mkF false true false [] false 21 115
noncomputable def fn116:Ad:=mkF false true false [] false 32 116
noncomputable def wV:Ad:=mkF true false false [] false 4 117
noncomputable def fn124:Ad:=mkF false true false [] false 10 124
noncomputable def fn125:Ad:=mkF false true false [] false 19 125
noncomputable def wW:Ad:=mkF true false false [] false 8 127
noncomputable def wX:Ad:=mkF true false false [] false 47 128
noncomputable def wY:Ad:=mkF true false false [] false 4 129
noncomputable def wZ:Ad:=mkF true false false [] false 19 130
noncomputable def fn131:Ad:=mkF false true false [] false 11 131
noncomputable def fn132:Ad:=mkF false true false [] false 13 132
noncomputable def fn137:Ad:=mkF false true false [] false 169 137
noncomputable def fn138:Ad:=mkF false true false [] false 23 138
noncomputable def fn139:Ad:=mkF false true false [] false 9 139
noncomputable def fn140:Ad:=mkF false true false [] false 9 140
noncomputable def w5:Ad:=mkF true false false [] false 17 142
noncomputable def w6:Ad:=mkF true false false [] false 30 143
noncomputable def w7:Ad:=mkF true false false [] false 35 146
noncomputable def fn151:Ad:=mkF false true false [] false 8 151
noncomputable def fn161:Ad:=mkF false true false [] false 25 161
noncomputable def fn163:Ad:=mkF false true false [] false 10 163
noncomputable def w8:Ad:=mkF true false false [] false 23 169
noncomputable def w9:Ad:=mkF true false false [] false 117 170
noncomputable def xa:Ad:=mkF true false false [] false 11 171
noncomputable def xc:Ad:=mkF true false false [] false 4 172
noncomputable def fn173:Ad:=mkF false false false [] false 8 173
noncomputable def fn174:Ad:=mkF false false false [] false 8 174
noncomputable def fn175:Ad:=mkF false true false [] false 8 175
noncomputable def fn176:Ad:=mkF false true false [] false 61 176
noncomputable def fn178:Ad:=mkF false true false [] false 29 178
noncomputable def xd:Ad:=mkF true false false [] false 18 179
noncomputable def xe:Ad:=mkF true false false [] false 76 180
noncomputable def fn186:Ad:=mkF false true false [] false 9 186
noncomputable def xf:Ad:=mkF true false false [] false 67 187
noncomputable def fn189:Ad:=mkF false true false [] false 15 189
noncomputable def fn190:Ad:=mkF false true false [] false 18 190
noncomputable def fn197:Ad:=mkF false true false [] false 19 197
noncomputable def xg:Ad:=mkF true false false [] false 16 198
noncomputable def fn202:Ad:=mkF false true false [] false 66 202
noncomputable def fn207:Ad:=mkF false true false [] false 13 207
noncomputable def fn216:Ad:=mkF false true false [] false 43 216
noncomputable def xi:Ad:=mkF true false false [] false 73 218
noncomputable def fn221:Ad:=mkF false true false [] false 9 221
noncomputable def xj:Ad:=mkF true false false [] false 29 228
noncomputable def xk:Ad:=mkF true false false [] true 83 230
noncomputable def xn:Ad:=mkF true false false [] false 31 231
noncomputable def xp:Ad:=mkF true false false [] false 29 233
noncomputable def xq:Ad:=mkF true false false [] false 9 234
noncomputable def xr:Ad:=mkF true false false [] false 74 235
noncomputable def fn236:Ad:=mkF false false false [] false 8 236
noncomputable def xt:Ad:=mkF true false false [] false 7 237
noncomputable def fn240:Ad:=mkF false true false [] false 24 240
noncomputable def fn241:Ad:=mkF false true false [] false 34 241
noncomputable def fn242:Ad:=mkF false true false [] false 13 242
noncomputable def fn243:Ad:=mkF false true false [] false 8 243
noncomputable def fn244:Ad:=mkF false true false [] false 81 244
noncomputable def xu:Ad:=mkF true false false [] false 4 259
noncomputable def fn263:Ad:=mkF false true false [] false 11 263
noncomputable def fn264:Ad:=mkF false true false [] false 65 264
noncomputable def xw:Ad:=mkF true false false [] false 64 265
noncomputable def xx:Ad:=mkF true false false [] false 4 267
noncomputable def fn268:Ad:=mkF false true false [] false 26 268
noncomputable def xz:Ad:=mkF true false false [] false 10 269
noncomputable def fn274:Ad:=mkF false true false [] false 24 274
noncomputable def fn275:Ad:=mkF false true false [] false 18 275
noncomputable def fn276:Ad:=mkF false true false [] false 28 276
noncomputable def xA:Ad:=mkF true false false [] false 9 278
noncomputable def xB:Ad:=mkF true false false [] false 39 279
noncomputable def fn280:Ad:=mkF false true false [] false 14 280
noncomputable def fn290:Ad:=mkF false true false [] false 6 290
noncomputable def fn291:Ad:=mkF false true false [] false 23 291
noncomputable def fn292:Ad:=mkF false true false [] false 30 292
noncomputable def fn293:Ad:=mkF false true false [] false 20 293
noncomputable def fn294:Ad:=mkF false true false [] false 18 294
noncomputable def xC:Ad:=mkF true false false [] false 23 299
noncomputable def xD:Ad:=mkF true false false [] false 12 300
noncomputable def fn301:Ad:=mkF false true false [] false 42 301
noncomputable def fn302:Ad:=mkF false true false [] false 35 302
noncomputable def fn303:Ad:=mkF false true false [] false 9 303
noncomputable def fn304:Ad:=mkF false true false [] false 5 304
noncomputable def fn305:Ad:=mkF false true false [] false 7 305
noncomputable def fn307:Ad:=mkF false true false [] false 66 307
noncomputable def xE:Ad:=mkF true false false [] false 111 309
noncomputable def fn310:Ad:=mkF false true false [] false 20 310
noncomputable def fn312:Ad:=mkF false true false [] false 19 312
noncomputable def fn314:Ad:=mkF false true false [] false 20 314
noncomputable def fn315:Ad:=mkF false true false [] false 20 315
noncomputable def fn316:Ad:=mkF false true false [] false 14 316
noncomputable def fn317:Ad:=mkF false true false [] false 22 317
noncomputable def fn318:Ad:=mkF false true false [] false 57 318
noncomputable def fn319:Ad:=mkF false true false [] false 86 319
noncomputable def fn320:Ad:=mkF false true false [] false 32 320
noncomputable def fn321:Ad:=mkF false true false [] false 30 321
noncomputable def fn324:Ad:=mkF false true false [] false 26 324
noncomputable def fn325:Ad:=mkF false true false [] false 68 325
noncomputable def fn327:Ad:=mkF false true false [] false 25 327
noncomputable def fn328:Ad:=mkF false true false [] false 105 328
noncomputable def xF:Ad:=mkF true false false [] false 18 330
noncomputable def xG:Ad:=mkF true false false [] false 40 334
noncomputable def xH:Ad:=mkF true false false [] false 13 335
noncomputable def xI:Ad:=mkF true false false [] false 103 338
noncomputable def fn341:Ad:=mkF false true false [] false 77 341
noncomputable def Rh:Ad:=mkF true false false [] false 9 344
noncomputable def xJ:Ad:=mkF true false false [] false 32 345
noncomputable def fn346:Ad:=mkF false true false [] false 21 346
noncomputable def fn347:Ad:=mkF false true false [] false 19 347
noncomputable def fn348:Ad:=mkF false true false [] false 9 348
noncomputable def xK:Ad:=mkF true false false [] false 38 349
noncomputable def fn351:Ad:=mkF false true false [] false 3 351
noncomputable def fn352:Ad:=mkF false true false [] false 22 352
noncomputable def fn353:Ad:=mkF false true false [] false 26 353
noncomputable def fn354:Ad:=mkF false true false [] false 9 354
noncomputable def fn355:Ad:=mkF false true false [] false 19 355
noncomputable def fn356:Ad:=mkF false true false [] false 8 356
noncomputable def fn357:Ad:=mkF false true false [] false 9 357
noncomputable def fn358:Ad:=mkF false true false [] false 9 358
noncomputable def fn359:Ad:=mkF false true false [] false 21 359
noncomputable def fn360:Ad:=mkF false true false [] false 34 360
noncomputable def fn362:Ad:=mkF false true false [] false 47 362
noncomputable def fn363:Ad:=mkF false true false [] false 59 363
noncomputable def fn364:Ad:=mkF false true false [] false 47 364
noncomputable def fn365:Ad:=mkF false true false [] false 23 365
noncomputable def fn366:Ad:=mkF false true false [] false 13 366
noncomputable def fn367:Ad:=mkF false true false [] false 49 367
noncomputable def xL:Ad:=mkF true false false [] false 12 370
noncomputable def fn371:Ad:=mkF false true false [] false 22 371
noncomputable def xM:Ad:=mkF true false false [] false 12 377
noncomputable def Fk:Ad:=mkF true false false [] false 73 378
noncomputable def xN:Ad:=mkF true false false [] false 30 379
noncomputable def fn380:Ad:=mkF false true false [] false 22 380
noncomputable def fn381:Ad:=mkF false true false [] false 29 381
noncomputable def xO:Ad:=mkF true false false [] false 81 382
noncomputable def fn384:Ad:=mkF false true false [] false 19 384
noncomputable def xP:Ad:=mkF true false false [] false 53 385
noncomputable def xQ:Ad:=mkF true false false [] false 41 386
noncomputable def fn387:Ad:=mkF false true false [] false 22 387
noncomputable def fn388:Ad:=mkF false true false [] false 38 388
noncomputable def fn389:Ad:=mkF false true false [] false 72 389
noncomputable def fn390:Ad:=mkF false true false [] false 80 390
noncomputable def fn391:Ad:=mkF false true false [] false 27 391
noncomputable def fn393:Ad:=mkF false true false [] false 33 393
noncomputable def fn395:Ad:=mkF false true false [] false 55 395
noncomputable def fn396:Ad:=mkF false true false [] false 52 396
noncomputable def fn399:Ad:=mkF false true false [] false 7 399
noncomputable def fn400:Ad:=mkF false true false [] false 101 400
noncomputable def xR:Ad:=mkF true false false [] false 8 414
noncomputable def xS:Ad:=mkF true false false [] false 21 415
noncomputable def xU:Ad:=mkF true false false [] false 4 418
noncomputable def fn419:Ad:=mkF false true false [] false 24 419
noncomputable def fn424:Ad:=mkF false true false [] false 31 424
noncomputable def fn429:Ad:=mkF false true false [] false 29 429
noncomputable def fn430:Ad:=mkF false true false [] false 17 430
noncomputable def fn431:Ad:=mkF false true false [] false 38 431
noncomputable def fn432:Ad:=mkF false true false [] false 11 432
noncomputable def fn433:Ad:=mkF false true false [] false 6 433
noncomputable def fn434:Ad:=mkF false true false [] false 36 434
noncomputable def xV:Ad:=mkF true false false [] false 6 449
noncomputable def xW:Ad:=mkF true false false [] false 6 450
noncomputable def xX:Ad:=mkF true false false [] false 10 451
noncomputable def xY:Ad:=mkF true false false [] false 20 453
noncomputable def fn454:Ad:=mkF false true false [] false 30 454
noncomputable def fn457:Ad:=mkF false true false [] false 36 457
noncomputable def fn468:Ad:=mkF false true false [] false 21 468
noncomputable def fn469:Ad:=mkF false true false [] false 16 469
noncomputable def fn470:Ad:=mkF false true false [] false 16 470
noncomputable def fn495:Ad:=mkF false true false [] false 21 495
noncomputable def fn506:Ad:=mkF false true false [] false 4 506
noncomputable def Au:eU->fk
 | 5=>some fn5
 | 6=>some fn6
 | 8=>some fn8
 | 7=>some fn7
 | 3=>some fn3
 | 4=>some fn4
 | 9=>some fn9
 | 10=>some fn10
 | 11=>some fn11
 | 12=>some fn12
 | 14=>some fn14
 | 15=>some fn15
 | 16=>some fn16
 | 17=>some fn17
 | 18=>some fn18
 | 19=>some fn19
 | 20=>some fn20
 | 21=>some fn21
 | 22=>some fn22
 | 25=>some fn25
 | 26=>some fn26
 | 27=>some fn27
 | 28=>some fn28
 | 29=>some fn29
 | 30=>some fn30
 | 31=>some fn31
 | 32=>some fn32
 | 33=>some fn33
 | 34=>some fn34
 | 35=>some fn35
 | 36=>some fn36
 | 37=>some fn37
 | 38=>some fn38
 | 42=>some fn42
 | 43=>some fn43
 | 45=>some fn45
 | 46=>some fn46
 | 47=>some fn47
 | 48=>some fn48
 | 49=>some fn49
 | 51=>some fn51
 | 52=>some fn52
 | 53=>some fn53
 | 54=>some fn54
 | 55=>some fn55
 | 56=>some fn56
 | 59=>some fn59
 | 66=>some fn66
 | 67=>some fn67
 | 68=>some fn68
 | 69=>some fn69
 | 74=>some fn74
 | 77=>some fn77
 | 78=>some fn78
 | 80=>some Kt
 | 81=>some D5
 | 82=>some fn82
 | 83=>some fn83
 | 89=>some fn89
 | 92=>some fn92
 | 93=>some fn93
 | 94=>some fn94
 | 95=>some fn95
 | 97=>some fn97
 | 100=>some fn100
 | 112=>some wT
 | 114=>some wU
 | 115=>some fn115
 | 116=>some fn116
 | 117=>some wV
 | 124=>some fn124
 | 125=>some fn125
 | 127=>some wW
 | 128=>some wX
 | 129=>some wY
 | 130=>some wZ
 | 131=>some fn131
 | 132=>some fn132
 | 137=>some fn137
 | 138=>some fn138
 | 139=>some fn139
 | 140=>some fn140
 | 142=>some w5
 | 143=>some w6
 | 146=>some w7
 | 151=>some fn151
 | 161=>some fn161
 | 163=>some fn163
 | 169=>some w8
 | 170=>some w9
 | 171=>some xa
 | 172=>some xc
 | 173=>some fn173
 | 174=>some fn174
 | 175=>some fn175
 | 176=>some fn176
 | 178=>some fn178
 | 179=>some xd
 | 180=>some xe
 | 186=>some fn186
 | 187=>some xf
 | 189=>some fn189
 | 190=>some fn190
 | 197=>some fn197
 | 198=>some xg
 | 202=>some fn202
 | 207=>some fn207
 | 216=>some fn216
 | 218=>some xi
 | 221=>some fn221
 | 228=>some xj
 | 230=>some xk
 | 231=>some xn
 | 233=>some xp
 | 234=>some xq
 | 235=>some xr
 | 236=>some fn236
 | 237=>some xt
 | 240=>some fn240
 | 241=>some fn241
 | 242=>some fn242
 | 243=>some fn243
 | 244=>some fn244
 | 259=>some xu
 | 263=>some fn263
 | 264=>some fn264
 | 265=>some xw
 | 267=>some xx
 | 268=>some fn268
 | 269=>some xz
 | 274=>some fn274
 | 275=>some fn275
 | 276=>some fn276
 | 278=>some xA
 | 279=>some xB
 | 280=>some fn280
 | 290=>some fn290
 | 291=>some fn291
 | 292=>some fn292
 | 293=>some fn293
 | 294=>some fn294
 | 299=>some xC
 | 300=>some xD
 | 301=>some fn301
 | 302=>some fn302
 | 303=>some fn303
 | 304=>some fn304
 | 305=>some fn305
 | 307=>some fn307
 | 309=>some xE
 | 310=>some fn310
 | 312=>some fn312
 | 314=>some fn314
 | 315=>some fn315
 | 316=>some fn316
 | 317=>some fn317
 | 318=>some fn318
 | 319=>some fn319
 | 320=>some fn320
 | 321=>some fn321
 | 324=>some fn324
 | 325=>some fn325
 | 327=>some fn327
 | 328=>some fn328
 | 330=>some xF
 | 334=>some xG
 | 335=>some xH
 | 338=>some xI
 | 341=>some fn341
 | 344=>some Rh
 | 345=>some xJ
 | 346=>some fn346
 | 347=>some fn347
 | 348=>some fn348
 | 349=>some xK
 | 351=>some fn351
 | 352=>some fn352
 | 353=>some fn353
 | 354=>some fn354
 | 355=>some fn355
 | 356=>some fn356
 | 357=>some fn357
 | 358=>some fn358
 | 359=>some fn359
 | 360=>some fn360
 | 362=>some fn362
 | 363=>some fn363
 | 364=>some fn364
 | 365=>some fn365
 | 366=>some fn366
 | 367=>some fn367
 | 370=>some xL
 | 371=>some fn371
 | 377=>some xM
 | 378=>some Fk
 | 379=>some xN
 | 380=>some fn380
 | 381=>some fn381
 | 382=>some xO
 | 384=>some fn384
 | 385=>some xP
 | 386=>some xQ
 | 387=>some fn387
 | 388=>some fn388
 | 389=>some fn389
 | 390=>some fn390
 | 391=>some fn391
 | 393=>some fn393
 | 395=>some fn395
 | 396=>some fn396
 | 399=>some fn399
 | 400=>some fn400
 | 414=>some xR
 | 415=>some xS
 | 418=>some xU
 | 419=>some fn419
 | 424=>some fn424
 | 429=>some fn429
 | 430=>some fn430
 | 431=>some fn431
 | 432=>some fn432
 | 433=>some fn433
 | 434=>some fn434
 | 449=>some xV
 | 450=>some xW
 | 451=>some xX
 | 453=>some xY
 | 454=>some fn454
 | 457=>some fn457
 | 468=>some fn468
 | 469=>some fn469
 | 470=>some fn470
 | 495=>some fn495
 | 506=>some fn506
 | _=>none
end Go.Ab


set_option maxRecDepth 100000
namespace Go.Ab
open Go
variable{E:Type}
def rsh0:eU->Bh×Bool
 | _=>(.cl,true)
def sh5:An:={args:=[.cv (.bool false),.cv (.bool false)],ins:=[],res:=.fM [.cv (.bool false),.cv (.bool false)],outs:=[],news:=[],gone:=[]}
def shs5:ff->fi->An
 | _,_=>sh5
def sh6:An:={args:=[.cv (.bool false),.cv (.bool false)],ins:=[],res:=.fM [.cv (.bool false),.cv (.bool false)],outs:=[],news:=[],gone:=[]}
def shs6:ff->fi->An
 | _,_=>sh6
def sh9:An:={args:=[.fT 0],ins:=[],res:=.un,outs:=[],news:=[],gone:=[]}
def shs9:ff->fi->An
 | _,_=>sh9
def sh10:An:={args:=[.fT 0],ins:=[],res:=.un,outs:=[],news:=[],gone:=[]}
def shs10:ff->fi->An
 | _,_=>sh10
def sh11:An:={args:=[.fT 0],ins:=[],res:=.un,outs:=[],news:=[],gone:=[]}
def shs11:ff->fi->An
 | _,_=>sh11
def sh15:An:={args:=[.fT 0],ins:=[],res:=.un,outs:=[],news:=[],gone:=[]}
def shs15:ff->fi->An
 | _,_=>sh15
def sh20:An:={args:=[.fT 0],ins:=[],res:=.un,outs:=[],news:=[],gone:=[]}
def shs20:ff->fi->An
 | _,_=>sh20
def sh21:An:={args:=[.fT 0],ins:=[],res:=.un,outs:=[],news:=[],gone:=[]}
def shs21:ff->fi->An
 | _,_=>sh21
def sh22:An:={args:=[.fT 0],ins:=[],res:=.un,outs:=[],news:=[],gone:=[]}
def shs22:ff->fi->An
 | _,_=>sh22
def sh26:An:={args:=[.fT 0],ins:=[],res:=.un,outs:=[],news:=[],gone:=[]}
def shs26:ff->fi->An
 | _,_=>sh26
def sh27:An:={args:=[.fT 0],ins:=[],res:=.un,outs:=[],news:=[],gone:=[]}
def shs27:ff->fi->An
 | _,_=>sh27
def sh28:An:={args:=[.fT 0],ins:=[],res:=.un,outs:=[],news:=[],gone:=[]}
def shs28:ff->fi->An
 | _,_=>sh28
def sh36:An:={args:=[.fT 0],ins:=[],res:=.un,outs:=[],news:=[],gone:=[]}
def shs36:ff->fi->An
 | _,_=>sh36
def sh38:An:={args:=[.fT 0],ins:=[],res:=.un,outs:=[],news:=[],gone:=[]}
def shs38:ff->fi->An
 | _,_=>sh38
def sh45:An:={args:=[.fT 0],ins:=[],res:=.un,outs:=[],news:=[],gone:=[]}
def shs45:ff->fi->An
 | _,_=>sh45
def sh46:An:={args:=[.fT 0],ins:=[],res:=.un,outs:=[],news:=[],gone:=[]}
def shs46:ff->fi->An
 | _,_=>sh46
def sh48:An:={args:=[.fT 0],ins:=[],res:=.un,outs:=[],news:=[],gone:=[]}
def shs48:ff->fi->An
 | _,_=>sh48
def sh49:An:={args:=[.fT 0],ins:=[],res:=.un,outs:=[],news:=[],gone:=[]}
def shs49:ff->fi->An
 | _,_=>sh49
def sh54:An:={args:=[.fT 0],ins:=[],res:=.un,outs:=[],news:=[],gone:=[]}
def shs54:ff->fi->An
 | _,_=>sh54
def sh66:An:={args:=[.fT 0],ins:=[],res:=.un,outs:=[],news:=[],gone:=[]}
def shs66:ff->fi->An
 | _,_=>sh66
def sh69:An:={args:=[.fT 0],ins:=[],res:=.un,outs:=[],news:=[],gone:=[]}
def shs69:ff->fi->An
 | _,_=>sh69
def sh74:An:={args:=[.fT 0],ins:=[],res:=.un,outs:=[],news:=[],gone:=[]}
def shs74:ff->fi->An
 | _,_=>sh74
def sh80:An:={args:=[.fT 0],ins:=[],res:=.un,outs:=[],news:=[],gone:=[]}
def shs80:ff->fi->An
 | _,_=>sh80
def sh81:An:={args:=[.fT 0],ins:=[],res:=.un,outs:=[],news:=[],gone:=[]}
def shs81:ff->fi->An
 | _,_=>sh81
def sh82:An:={args:=[.fT 0],ins:=[],res:=.un,outs:=[],news:=[],gone:=[]}
def shs82:ff->fi->An
 | _,_=>sh82
def sh94:An:={args:=[.fT 0],ins:=[],res:=.un,outs:=[],news:=[],gone:=[]}
def shs94:ff->fi->An
 | _,_=>sh94
def sh95:An:={args:=[.fT 0],ins:=[],res:=.un,outs:=[],news:=[],gone:=[]}
def shs95:ff->fi->An
 | _,_=>sh95
def sh97:An:={args:=[.fT 0],ins:=[],res:=.un,outs:=[],news:=[],gone:=[]}
def shs97:ff->fi->An
 | _,_=>sh97
def sh112:An:={args:=[.fT 0],ins:=[],res:=.un,outs:=[],news:=[],gone:=[]}
def shs112:ff->fi->An
 | _,_=>sh112
def sh114:An:={args:=[.fT 0],ins:=[],res:=.un,outs:=[],news:=[],gone:=[]}
def shs114:ff->fi->An
 | _,_=>sh114
def sh117:An:={args:=[.fT 0],ins:=[],res:=.un,outs:=[],news:=[],gone:=[]}
def shs117:ff->fi->An
 | _,_=>sh117
def sh127:An:={args:=[.fT 0],ins:=[],res:=.un,outs:=[],news:=[],gone:=[]}
def shs127:ff->fi->An
 | _,_=>sh127
def sh128:An:={args:=[.fT 0],ins:=[],res:=.un,outs:=[],news:=[],gone:=[]}
def shs128:ff->fi->An
 | _,_=>sh128
def sh129:An:={args:=[.fT 0],ins:=[],res:=.un,outs:=[],news:=[],gone:=[]}
def shs129:ff->fi->An
 | _,_=>sh129
def sh130:An:={args:=[.fT 0],ins:=[],res:=.un,outs:=[],news:=[],gone:=[]}
def shs130:ff->fi->An
 | _,_=>sh130
def sh142:An:={args:=[.fT 0],ins:=[],res:=.un,outs:=[],news:=[],gone:=[]}
def shs142:ff->fi->An
 | _,_=>sh142
def sh143:An:={args:=[.fT 0],ins:=[],res:=.un,outs:=[],news:=[],gone:=[]}
def shs143:ff->fi->An
 | _,_=>sh143
def sh146:An:={args:=[.fT 0],ins:=[],res:=.un,outs:=[],news:=[],gone:=[]}
def shs146:ff->fi->An
 | _,_=>sh146
def sh169:An:={args:=[.fT 0],ins:=[],res:=.un,outs:=[],news:=[],gone:=[]}
def shs169:ff->fi->An
 | _,_=>sh169
def sh170:An:={args:=[.fT 0],ins:=[],res:=.un,outs:=[],news:=[],gone:=[]}
def shs170:ff->fi->An
 | _,_=>sh170
def sh171:An:={args:=[.fT 0],ins:=[],res:=.un,outs:=[],news:=[],gone:=[]}
def shs171:ff->fi->An
 | _,_=>sh171
def sh172:An:={args:=[.fT 0],ins:=[],res:=.un,outs:=[],news:=[],gone:=[]}
def shs172:ff->fi->An
 | _,_=>sh172
def sh179:An:={args:=[.fT 0],ins:=[],res:=.un,outs:=[],news:=[],gone:=[]}
def shs179:ff->fi->An
 | _,_=>sh179
def sh180:An:={args:=[.fT 0],ins:=[],res:=.un,outs:=[],news:=[],gone:=[]}
def shs180:ff->fi->An
 | _,_=>sh180
def sh187:An:={args:=[.fT 0],ins:=[],res:=.un,outs:=[],news:=[],gone:=[]}
def shs187:ff->fi->An
 | _,_=>sh187
def sh198:An:={args:=[.fT 0],ins:=[],res:=.un,outs:=[],news:=[],gone:=[]}
def shs198:ff->fi->An
 | _,_=>sh198
def sh218:An:={args:=[.fT 0],ins:=[],res:=.un,outs:=[],news:=[],gone:=[]}
def shs218:ff->fi->An
 | _,_=>sh218
def sh228:An:={args:=[.fT 0],ins:=[],res:=.un,outs:=[],news:=[],gone:=[]}
def shs228:ff->fi->An
 | _,_=>sh228
def sh230:An:={args:=[.fT 0],ins:=[],res:=.un,outs:=[],news:=[],gone:=[]}
def shs230:ff->fi->An
 | _,_=>sh230
def sh231:An:={args:=[.fT 0],ins:=[],res:=.un,outs:=[],news:=[],gone:=[]}
def shs231:ff->fi->An
 | _,_=>sh231
def sh233:An:={args:=[.fT 0],ins:=[],res:=.un,outs:=[],news:=[],gone:=[]}
def shs233:ff->fi->An
 | _,_=>sh233
def sh234:An:={args:=[.fT 0],ins:=[],res:=.un,outs:=[],news:=[],gone:=[]}
def shs234:ff->fi->An
 | _,_=>sh234
def sh235:An:={args:=[.fT 0],ins:=[],res:=.un,outs:=[],news:=[],gone:=[]}
def shs235:ff->fi->An
 | _,_=>sh235
def sh237:An:={args:=[.fT 0],ins:=[],res:=.un,outs:=[],news:=[],gone:=[]}
def shs237:ff->fi->An
 | _,_=>sh237
def sh259:An:={args:=[.fT 0],ins:=[],res:=.un,outs:=[],news:=[],gone:=[]}
def shs259:ff->fi->An
 | _,_=>sh259
def sh265:An:={args:=[.fT 0],ins:=[],res:=.un,outs:=[],news:=[],gone:=[]}
def shs265:ff->fi->An
 | _,_=>sh265
def sh267:An:={args:=[.fT 0],ins:=[],res:=.un,outs:=[],news:=[],gone:=[]}
def shs267:ff->fi->An
 | _,_=>sh267
def sh269:An:={args:=[.fT 0],ins:=[],res:=.un,outs:=[],news:=[],gone:=[]}
def shs269:ff->fi->An
 | _,_=>sh269
def sh278:An:={args:=[.fT 0],ins:=[],res:=.un,outs:=[],news:=[],gone:=[]}
def shs278:ff->fi->An
 | _,_=>sh278
def sh279:An:={args:=[.fT 0],ins:=[],res:=.un,outs:=[],news:=[],gone:=[]}
def shs279:ff->fi->An
 | _,_=>sh279
def sh299:An:={args:=[.fT 0],ins:=[],res:=.un,outs:=[],news:=[],gone:=[]}
def shs299:ff->fi->An
 | _,_=>sh299
def sh300:An:={args:=[.fT 0],ins:=[],res:=.un,outs:=[],news:=[],gone:=[]}
def shs300:ff->fi->An
 | _,_=>sh300
def sh309:An:={args:=[.fT 0],ins:=[],res:=.un,outs:=[],news:=[],gone:=[]}
def shs309:ff->fi->An
 | _,_=>sh309
def sh330:An:={args:=[.fT 0],ins:=[],res:=.un,outs:=[],news:=[],gone:=[]}
def shs330:ff->fi->An
 | _,_=>sh330
def sh334:An:={args:=[.fT 0],ins:=[],res:=.un,outs:=[],news:=[],gone:=[]}
def shs334:ff->fi->An
 | _,_=>sh334
def sh335:An:={args:=[.fT 0],ins:=[],res:=.un,outs:=[],news:=[],gone:=[]}
def shs335:ff->fi->An
 | _,_=>sh335
def sh338:An:={args:=[.fT 0],ins:=[],res:=.un,outs:=[],news:=[],gone:=[]}
def shs338:ff->fi->An
 | _,_=>sh338
def sh344:An:={args:=[.fT 0],ins:=[],res:=.un,outs:=[],news:=[],gone:=[]}
def shs344:ff->fi->An
 | _,_=>sh344
def sh345:An:={args:=[.fT 0],ins:=[],res:=.un,outs:=[],news:=[],gone:=[]}
def shs345:ff->fi->An
 | _,_=>sh345
def sh349:An:={args:=[.fT 0],ins:=[],res:=.un,outs:=[],news:=[],gone:=[]}
def shs349:ff->fi->An
 | _,_=>sh349
def sh370:An:={args:=[.fT 0],ins:=[],res:=.un,outs:=[],news:=[],gone:=[]}
def shs370:ff->fi->An
 | _,_=>sh370
def sh377:An:={args:=[.fT 0],ins:=[],res:=.un,outs:=[],news:=[],gone:=[]}
def shs377:ff->fi->An
 | _,_=>sh377
def sh378:An:={args:=[.fT 0],ins:=[],res:=.un,outs:=[],news:=[],gone:=[]}
def shs378:ff->fi->An
 | _,_=>sh378
def sh379:An:={args:=[.fT 0],ins:=[],res:=.un,outs:=[],news:=[],gone:=[]}
def shs379:ff->fi->An
 | _,_=>sh379
def sh382:An:={args:=[.fT 0],ins:=[],res:=.un,outs:=[],news:=[],gone:=[]}
def shs382:ff->fi->An
 | _,_=>sh382
def sh385:An:={args:=[.fT 0],ins:=[],res:=.un,outs:=[],news:=[],gone:=[]}
def shs385:ff->fi->An
 | _,_=>sh385
def sh386:An:={args:=[.fT 0],ins:=[],res:=.un,outs:=[],news:=[],gone:=[]}
def shs386:ff->fi->An
 | _,_=>sh386
def sh414:An:={args:=[.fT 0],ins:=[],res:=.un,outs:=[],news:=[],gone:=[]}
def shs414:ff->fi->An
 | _,_=>sh414
def sh415:An:={args:=[.fT 0],ins:=[],res:=.un,outs:=[],news:=[],gone:=[]}
def shs415:ff->fi->An
 | _,_=>sh415
def sh418:An:={args:=[.fT 0],ins:=[],res:=.un,outs:=[],news:=[],gone:=[]}
def shs418:ff->fi->An
 | _,_=>sh418
def sh449:An:={args:=[.fT 0],ins:=[],res:=.un,outs:=[],news:=[],gone:=[]}
def shs449:ff->fi->An
 | _,_=>sh449
def sh450:An:={args:=[.fT 0],ins:=[],res:=.un,outs:=[],news:=[],gone:=[]}
def shs450:ff->fi->An
 | _,_=>sh450
def sh451:An:={args:=[.fT 0],ins:=[],res:=.un,outs:=[],news:=[],gone:=[]}
def shs451:ff->fi->An
 | _,_=>sh451
def sh453:An:={args:=[.fT 0],ins:=[],res:=.un,outs:=[],news:=[],gone:=[]}
def shs453:ff->fi->An
 | _,_=>sh453
def xZ:eU->Option (ff->fi->An)
 | 5=>some shs5
 | 6=>some shs6
 | 9=>some shs9
 | 10=>some shs10
 | 11=>some shs11
 | 15=>some shs15
 | 20=>some shs20
 | 21=>some shs21
 | 22=>some shs22
 | 26=>some shs26
 | 27=>some shs27
 | 28=>some shs28
 | 36=>some shs36
 | 38=>some shs38
 | 45=>some shs45
 | 46=>some shs46
 | 48=>some shs48
 | 49=>some shs49
 | 54=>some shs54
 | 66=>some shs66
 | 69=>some shs69
 | 74=>some shs74
 | 80=>some shs80
 | 81=>some shs81
 | 82=>some shs82
 | 94=>some shs94
 | 95=>some shs95
 | 97=>some shs97
 | 112=>some shs112
 | 114=>some shs114
 | 117=>some shs117
 | 127=>some shs127
 | 128=>some shs128
 | 129=>some shs129
 | 130=>some shs130
 | 142=>some shs142
 | 143=>some shs143
 | 146=>some shs146
 | 169=>some shs169
 | 170=>some shs170
 | 171=>some shs171
 | 172=>some shs172
 | 179=>some shs179
 | 180=>some shs180
 | 187=>some shs187
 | 198=>some shs198
 | 218=>some shs218
 | 228=>some shs228
 | 230=>some shs230
 | 231=>some shs231
 | 233=>some shs233
 | 234=>some shs234
 | 235=>some shs235
 | 237=>some shs237
 | 259=>some shs259
 | 265=>some shs265
 | 267=>some shs267
 | 269=>some shs269
 | 278=>some shs278
 | 279=>some shs279
 | 299=>some shs299
 | 300=>some shs300
 | 309=>some shs309
 | 330=>some shs330
 | 334=>some shs334
 | 335=>some shs335
 | 338=>some shs338
 | 344=>some shs344
 | 345=>some shs345
 | 349=>some shs349
 | 370=>some shs370
 | 377=>some shs377
 | 378=>some shs378
 | 379=>some shs379
 | 382=>some shs382
 | 385=>some shs385
 | 386=>some shs386
 | 414=>some shs414
 | 415=>some shs415
 | 418=>some shs418
 | 449=>some shs449
 | 450=>some shs450
 | 451=>some shs451
 | 453=>some shs453
 | _=>none
def GE (b:KB) (dsh:Nat->Bh):CR:={b,rsh:=rsh0,sO:=fun f=>f==295||f==177||f==91||f==13||f==123||f==75||f==23||f==238||f==285||f==84||f==96||f==50||f==448||f==505||f==503||f==504||f==323||f==282||f==277||f==144||f==175,asT:=fun f p=>none,dsh,pa:=xZ,spK:=fun f=>none}
theorem run5 (B:KB) (x1:PV) :
  PL (GE B fun _=>.cl) fn5 sh5 [.gh,x1] =
  AF (AD (.bin .eql .ptr true (.c (AL [.gh,x1] 0)) (.c .gh))) (fun a=>Dx a (some [.str [],.int .i64 1]) none):=by kernel_rfl
theorem run6 (B:KB) (x1:PV) :
  PL (GE B fun _=>.cl) fn6 sh6 [.gh,x1] =
  AF (AD (.bin .eql .ptr true (.c (AL [.gh,x1] 0)) (.c .gh))) (fun a=>Dx a (some [.str [],.int .i64 1]) (AJ (HX (.str []) 1) none)):=by kernel_rfl
theorem run8 (B:KB) (h:AB E) (dep:Nat) (e:E) (x0:PV) :
  G6 (GE B fun _=>.cl) fn8 (.cl) h dep [.cv x0] e =
  AF (AD (.bin .eql .ptr true (.c x0) (.c .gh))) (fun a=>Dx a (some (.fF,e)) (AF (AD (.nilck (.c x0))) (fun a=>AF (AD (.fieldAddr 2 (.c a))) (fun a
  => AF (AD (.load 1 false (.c a))) (fun a=>AF (AD (.len .slice (.c a))) (fun b=>AJ (K3 [nI 0,a,b,.int .i64 0]) (vt (fun a=>AF (AD (.bin
  .lss .num false (.c (AL a.1 3)) (.c (AL a.1 2)))) (fun b=>Dx b (AF (AD (.ic 1 (.c (AL a.1 1)) (.c (AL a.1 3)))) (fun b=>AF (AD (.load 1 false (.c
  b))) (fun b=>AF (AD (.nilck (.c b))) (fun d=>AF (AD (.fieldAddr 0 (.c d))) (fun d=>AF (AD (.load 3 true (.c d))) (fun d=>AJ (HX d 3)
  (AF (BG B .cl (.fn 14 []) [b]) (fun b=>AJ (HX b 1) (AF (AD (.bin .neq (.plain [1,0,1]) false (.c (.agg [BF d 0,BF d 1,BF b 0])) (.c
  (.agg [.str [],.int .i64 0,.str []])))) (fun f=>Dx f (AJ (NS 3 [.agg [BF d 0,BF d 1,BF b 0]]) (AJ (Fs (By 0 (Bd [.agg [BF d 0,BF d
  1,BF b 0]])) (Bd [.agg [BF d 0,BF d 1,BF b 0]])) (AJ (JD (Fs (Ej (AL a.1 0)) (Bd (Ee (AL a.1 4)))) (Fs (By (Ej (AL a.1 0)) (Bd
  (BE (Bd [.agg [BF d 0,BF d 1,BF b 0]]) (EB 0 [.agg [BF d 0,BF d 1,BF b 0]])))) 2147483648)) (AF (AD (.bin .add .num true (.c (AL
  a.1 3)) (.c (.int .i64 1)))) (fun f=>some (.inl ([nI (By (Ej (AL a.1 0)) (Bd (BE (Bd [.agg [BF d 0,BF d 1,BF b 0]]) (EB 0 [.agg [BF d 0,
  BF d 1,BF b 0]])))),AL a.1 1,AL a.1 2,f,.sl 3 (Dh (BE (Ej (AL a.1 0)) (Ee (AL a.1 4))) (BE (Bd [.agg [BF d 0,BF d 1,BF b
  0]]) (EB 0 [.agg [BF d 0,BF d 1,BF b 0]]))) false],a.2))))))) (AF (AD (.bin .add .num true (.c (AL a.1 3)) (.c (.int .i64 1)))) (fun b=>some (.inl
  ([nI (Ej (AL a.1 0)),AL a.1 1,AL a.1 2,b,.sl 3 (Ee (AL a.1 4)) false],a.2)))))))))))))) (AF (AJ (okU (slO 3 3 (Ee (AL a.1 4)) 0 (Ej (AL a.1
  0)))) (some (slO 3 3 (Ee (AL a.1 4)) 0 (Ej (AL a.1 0)),a.2))) fun a=>some (.inr a)))) ([nI 0,a,b,.int .i64 0,.sl 3 [] false],e)))))))):=by kernel_rfl
theorem run7 (B:KB) (h:AB E) (dep:Nat) (e:E) (x0:PV) :
  G6 (GE B fun _=>.cl) fn7 (.cl) h dep [.cv x0] e =
  AF (AD (.len .str (.c x0))) (fun a=>AF (AD (.bin .gtr .num true (.c a) (.c (.int .i64 9000)))) (fun a=>Dx a (AF (AD (.load 1 false (.c (.ptr [.gw 0
  489] 0)))) fun a=>AF (BG B .cl (.fn 12 []) [a]) fun a=>some (.fM [.str [],a],e)) (AF (AD (.len .str (.c x0))) (fun a=>AF (BG B .cl (.fn 13 [])
  [a]) (fun a=>AF (AD (.bin .add .str true (.c (.str [67,111,110,116,101,110,116,45,76,101,110,103,116,104,58,32])) (.c a))) (fun a=>AF (AD (.bin
  .add .str true (.c a) (.c (.str [13,10])))) (fun a=>AF (AD (.bin .add .str true (.c a) (.c (.str [13,10])))) (fun a=>AF (AD (.len .str (.c a))) (fun b =>
  AF (AD (.len .str (.c x0))) (fun d=>AF (AD (.bin .add .num false (.c b) (.c d))) (fun b=>AF (vh b b) (fun b=>AF (Kd 1 a) (fun a =>
  AJ (Fs (By 0 b) (Bd (ER b (.int .u8 0)))) (AF (Gk none b b) (fun d=>AF (Gk none b d) (fun d=>AF (Gk (some (nI (minN (Bd a)
  b))) 0 d) (fun f=>HH (JD (sN d f) (ltN 0 f)) (AF (Kd 1 x0) fun a=>none) (AF (Kd 1 x0) (fun g=>AJ (Fs (By (By 0 f) (Is d
  f)) (Bd (Dh (Dh (BE 0 (ER b (.int .u8 0))) (BE b a)) (EB (By 0 (Bd (BE b a))) (ER b (.int .u8 0)))))) (AJ (Fs (By 0 b) (Bd (Dh
  (Dh (BE (By 0 f) (Dh (Dh (BE 0 (ER b (.int .u8 0))) (BE b a)) (EB (By 0 (Bd (BE b a))) (ER b (.int .u8 0))))) (BE (Is d f)
  g)) (EB (By (By 0 f) (Bd (BE (Is d f) g))) (Dh (Dh (BE 0 (ER b (.int .u8 0))) (BE b a)) (EB (By 0 (Bd (BE b a))) (ER b
  (.int .u8 0)))))))) (AF (AD (.ofBytes (.c (.sl 1 (BE b (EB 0 (Dh (Dh (BE (By 0 f) (Dh (Dh (BE 0 (ER b (.int .u8 0))) (BE b a)) (EB
  (By 0 (Bd (BE b a))) (ER b (.int .u8 0))))) (BE (Is d f) g)) (EB (By (By 0 f) (Bd (BE (Is d f) g))) (Dh (Dh (BE 0 (ER b
  (.int .u8 0))) (BE b a)) (EB (By 0 (Bd (BE b a))) (ER b (.int .u8 0)))))))) false)))) fun a=>some (.fM [a,.int .i64 0],e)))))))))))))))))))))):=by kernel_rfl
theorem run3 (B:KB) (h:AB E) (dep:Nat) (e:E) (x0:PV) :
  G6 (GE B fun _=>.cl) fn3 (.cl) h dep [.cv x0] e =
  AF (BG B .cl (.fn 4 []) []) (fun a=>AF (AD (.len .str (.c x0))) (fun b=>AF (AD (.ij false [.c b,.c (.int .i64 600)])) (fun b=>AF (AD
  (.gM (.c x0) none (some (.c b)))) (fun b=>AF (ioO B (.mk [.cv (.bool false),.cv (.bool false)] [] (.fM [.cv (.bool false),.cv (.bool false)]) [] [] []) 5 [.gh,
  b]) (fun d=>AF (ioO B (.mk [.cv (.bool false),.cv (.bool false)] [] (.fM [.cv (.bool false),.cv (.bool false)]) [] [] []) 6 [.gh,b]) (fun f=>AF (BG B .cl
  (.fn 7 []) [b]) (fun g=>AF (AD (.extract 0 (.c g))) (fun i=>AF (AD (.extract 1 (.c g))) (fun g=>Dx a (AF (AD (.bin .eql .str true (.c (AL d 0))
  (.c (.str [])))) (fun a=>Dx a (AF (AD (.bin .eql .num true (.c (AL d 1)) (.c (.int .i64 1)))) (fun a=>Dx a (AF (AD (.bin .eql .str true (.c (AL f
  0)) (.c (.str [])))) (fun a=>Dx a (AF (AD (.bin .eql .num true (.c (AL f 1)) (.c (.int .i64 1)))) (fun a=>Dx a (AF (BG B .cl (.fn 8 []) [.gh]) (fun
  z14=>AF (AD (.len .slice (.c z14))) (fun a=>AF (AD (.bin .eql .num true (.c a) (.c (.int .i64 0)))) (fun a=>Dx a (AF (AD (.bin .eql .num true (.c
  g) (.c (.int .i64 0)))) (fun a=>Dx a (AF (AD (.len .str (.c i))) (fun a=>AF (AD (.len .str (.c b))) (fun b=>AF (AD (.bin .gtr .num false (.c
  a) (.c b))) fun a=>some (a,e)))) (some (.bool false,e)))) (some (.bool false,e)))))) (some (.bool false,e)))) (some (.bool false,e)))) (some (.bool false,e))))
  (some (.bool false,e)))) (some (.bool false,e))))))))))):=by kernel_rfl
end Go.Ab


namespace Go.Ab
open Go
variable{α:Type} {I:Nat->Prop} {L:fm} {gm k:Nat} {lp:Nat->fb} {ps:List (Nat×Nat)} {w:eS} {ws:fc} {a:Array α}
def rT (sub:fp):fp->Nat->Int
 | [],i=>if sub.isEmpty then (i:Int) else -1
 | b :: l,i=>if sub.isPrefixOf (b :: l) then (i:Int) else rT sub l (i+1)
theorem Yu (sub:fp):∀ (l:fp) (i:Nat),rT sub l i=if Lib.index l sub = -1 then -1 else Lib.index l sub+i
 | [],i=>by
  unfold rT Lib.index;by_cases h:sub.isEmpty=true<;>simp[h]
 | b :: l,i=>by
  have ih:=Yu sub l (i+1);have kK:=Lib.index_ge l sub;unfold rT Lib.index;by_cases h:sub.isPrefixOf (b :: l)=true;{simp[h]}
  ·rw[eG h,eG h,ih];by_cases U:Lib.index l sub = -1;{simp[U]}
   ·have O:(Lib.index l sub == -1)=false:=by simpa using U
    simp only[O,bL,eE,eG U];rw[eG (by omega)];omega
def Tm:fa->fj
 | [.str s,.str sub]=>if s.length<=65536 then some {v:=.int .i64 (rT sub s 0)} else none
 | _=>none
def SV:fa->fj
 | [.str s,.str [c]]=>some {v:=.int .i64 (countB c s:Nat)}
 | [.str s,.str (a :: b :: r)]=>if s.length<=65536 then some {v:=.int .i64 (Lib.count s (a :: b :: r):Nat)} else none
 | _=>none
def Tn (k:Nat):fa->fj
 | [.fF,.int .i64 n]=>if 0<=n/\n<=1000000 then some {v:=.arr (0,0) k 0 0,new:=[.arr k 0 []]} else none
 | _=>none
def NP (ps:List (Nat×Nat)) (σ:Nm->fe):fa->fj
 | [.fR,_]=>some {v:=.bool false}
 | [.iface t x,.iface p (.ref J o)]=>match σ J with
  | some (.cells ty cs)=>if ps.lookup p=some t/\o=0/\cs.length=2/\HX x 2=true then some {v:=.bool true,gA:=some (J,.cells ty x.cells)} else none
  | _=>none
 | _=>none
def ya (gs:fc) (T:Nat) (ws:fc):fa->fj
 | [.iface s (.agg [x,.gw g t]),.gw g' t']=>if s∈ws/\g∈gs/\g'∈gs/\t=T/\t'=T then some {v:=.bool (g==g')} else none
 | [.iface s (.agg [x,.fR]),.gw g t]=>if s∈ws/\g∈gs/\t=T then some {v:=.bool false} else none
 | A=>wJ gs T [] A
theorem yb (ps:List (Nat×Nat)):HA (NP ps):=by intro σ σ' A h;unfold NP;split;{rfl};{rename_i t x p J o;rw[h J (C9 _ _ J (by simp[Al,PV.names]))]};{rfl}
structure As2OK (P:eX) (g:eU) (ge:Nat) (et:eT) (ps:List (Nat×Nat)):Prop where
 enters:Bn P g
 none:∀ (v:eT) (w:eS),Calls P g #[.nilIface,v] w fun e w'=>e=.returned (.bool false)/\w'=w
 hit:∀ p t,ps.lookup p=some t->∀ (v n1 n2:eT),v.cells=#[n1,n2]->n1.oneCell'=true->n2.oneCell'=true->∀ (b:Nat) (o1 o2:eT) (E:eY) (w:eS),
  w.cell? ⟨ge,0,Option.none⟩=some et->w.heap[b]?=some (.cells #[o1,o2] E (0,0)) ->
  Calls P g #[.iface t v,.iface p (.pointer (some ⟨b,0,Option.none⟩))] w fun e w'=>e=.returned (.bool true) /\
   ∃ q1 q2 q3 q4,w'=(((((w.alloc q1).alloc q2).alloc q3).alloc q4).setCell ⟨b,0,Option.none⟩ n1).setCell ⟨b,1,Option.none⟩ n2
structure IsWOK (P:eX) (g:eU) (T:Nat) (ws:fc):Prop where
 plain:IsOK P g T []
 same:∀ s∈ws,∀ (n:eT) (a:Addr) (w:eS),Calls P g #[.iface s (.agg #[n,.iface T (.pointer (some a))]),.iface T (.pointer (some a))] w fun e w'=>e=.returned (.bool true)/\ie w w'
 other:∀ s∈ws,∀ (n:eT) (a b:Addr) (ca cb:Array eT) (ta tb:eY) (w:eS),a≠b->w.heap[a.block]?=some (.cells ca ta (0,0))->w.heap[b.block]?=some (.cells cb tb (0,0)) ->
  Calls P g #[.iface s (.agg #[n,.iface T (.pointer (some a))]),.iface T (.pointer (some b))] w fun e w'=>e=.returned (.bool false)/\ie w w'
 none:∀ s∈ws,∀ (n:eT) (b:Addr) (w:eS),Calls P g #[.iface s (.agg #[n,.nilIface]),.iface T (.pointer (some b))] w fun e w'=>e=.returned (.bool false)/\ie w w'
theorem XX (h:a.size=2):∃ x y,a=#[x,y]:=by
 obtain⟨l⟩:=a
 match l,h with
 | [x,y],_=>exact⟨x,y,rfl⟩
theorem yc {x y z:PV} {A:List eT} (h:Ae w I lp L [x,y,z] A):∃ a b c,A=[a,b,c]/\Aj w I lp L x a/\Aj w I lp L y b/\Aj w I lp L z c:=by
 cases h with
 | cons _ a _ _ U h =>
  cases h with
  | cons _ b _ _ O h =>
   cases h with
   | cons _ c _ _ h3 h =>
    cases h;exact⟨a,b,c,rfl,U,O,h3⟩
section at_
variable {cx:Cx} {g:eU} {V:St} {A:fa} {out:Ai}
theorem yd (he:Bn cx.P g) (hz:∀ w:eS,Calls cx.P g #[.slice none 0 0,.int .i64 0] w fun e w'=>e=.returned (.slice none 0 0)/\w'=w)
  {T:eY} (hc:∀ (m:Nat) (w:eS),0 < m->m<=1000000->Calls cx.P g #[.slice none 0 0,.int .i64 m] w fun e w'=>∃ (G:Nat) (row:Array eT),e=.returned (.slice (some ⟨w.heap.size,0,none⟩) 0 G)/\G*k<=row.size/\w'=w.drew.alloc (.cells row T))
  (h:Tn k A=some out):El cx g V A out:=by
 refine⟨he,?_⟩;unfold Tn at h;split at h
 ·rename_i n;split at h
  ·rename_i hn;cases h;intro E w0 I0 F0 O0 Hd R e ds I F lp L gf fE us w dst hs hf hu hd;obtain⟨u,v,rfl,U,O⟩:=CL hu;rw[Fb U,B5 O];obtain⟨m,rfl⟩:∃ m:Nat,n=(m:Int):=⟨n.toNat,by omega⟩;have hv:(PV.arr (0,0) k 0 0).fQ (DT (dst.getD 0))=.arr (dst.getD 0,0) k 0 0:=rfl;by_cases hm:m=0;{subst hm;refine callsIn_wide.2 ((hz w).mono ?_);rintro ev w' ⟨rfl,rfl⟩;simp only[hv];exact wI hs hf hd (gy _) (p:=none) (fun b C h=>by cases h) (fun L'=>⟨k,0,rfl⟩) (fun L' J h=>.iL J k h)}
   ·refine callsIn_wide.2 ((hc m w (by omega) (by omega)).mono ?_);rintro ev w' ⟨G,row,rfl,hG,rfl⟩;simp only[hv];have hle:ie w (w.drew.alloc (.cells row T)):=⟨rfl,rfl,rfl,by simp,fun b hb=>fJ w.drew _ hb⟩
    refine wI hs hf hd hle (p:=some (w.heap.size,row.size)) (fun b C h=>by cases h;exact⟨bD _,by simp⟩)
     (fun L'=>⟨row,T,Iv w.drew _,rfl,⟨by simp,.inl rfl⟩,by simp,by simp[A1],by simp;exact .nil⟩) (fun L' J h=>?_)
    have:=Aj.arr (w:=w.drew.alloc (.cells row T)) (I:=I) (lp:=lp) (L:=L') J k 0 0 G w.heap.size row.size h (by simpa using hG) (cX _);simpa using this
  {cases h}
 {cases h}
end at_
section at2
variable {P:eX} {mx:P.follows .mixedOrders=true} {gs:fc} {T:Nat} {et:List (Nat×eT)} {j0:List (Nat×Array eT)} {ns:fc} {g:eU} {V:St} {A:fa} {out:Ai}
theorem rU (hg:gm∈ns) (he:Bn P g)
  (hc:∀ (s sub:ByteArray) (m:Int) (w:eS),s.size < 4294967281->w.cell? ⟨gm,0,none⟩=some (.int .i64 m)->Calls P g #[.string s,.string sub] w fun e w'=>e=.returned (.int .i64 (Lib.index s.data.toList sub.data.toList))/\w'=w)
  (h:Tm A=some out):El (HI P mx gs T et j0 ns) g V A out:=by
 refine⟨he,?_⟩;unfold Tm at h;split at h;{rename_i s sub;split at h;{rename_i hl;cases h;intro E w0 I0 F0 O0 Hd R e ds I F lp L gf fE us w dst hs hf hu hd;obtain⟨u,v,rfl,U,O⟩:=CL hu;rw[B4 U,B4 O];rw[show rT sub s 0=Lib.index s sub by rw[Yu];split<;>simp_all];obtain⟨_,m,hm⟩:=hf.wd.num _ hg;refine callsIn_wide.2 ((hc ⟨s.toArray⟩ ⟨sub.toArray⟩ m w (by show s.toArray.size < _;simp;omega) hm).mono ?_);rintro ev w' ⟨rfl,rfl⟩;exact CV hs hf (gy _) (.int _ _)};{cases h}};{cases h}
theorem rV (hg:gm∈ns) (he:Bn P g) (h1c:∀ (s:ByteArray) (c:UInt8) (w:eS),Calls P g #[.string s,.string ⟨#[c]⟩] w fun e w'=>e=.returned (.int .i64 (Lib.countByte s.data.toList c))/\w'=w)
  (hc:∀ (s sub:ByteArray) (m:Int) (w:eS),s.size < 4294967281->w.cell? ⟨gm,0,none⟩=some (.int .i64 m)->2<=sub.size->Calls P g #[.string s,.string sub] w fun e w'=>e=.returned (.int .i64 (Lib.countB s sub))/\w'=w)
  (h:SV A=some out):El (HI P mx gs T et j0 ns) g V A out:=by
 unfold SV at h;split at h;{exact wK he h1c h};{rename_i s a b r;refine⟨he,?_⟩;split at h;{rename_i hl;cases h;intro E w0 I0 F0 O0 Hd R e ds I F lp L gf fE us w dst hs hf hu hd;obtain⟨u,v,rfl,U,O⟩:=CL hu;rw[B4 U,B4 O];obtain⟨_,m,hm⟩:=hf.wd.num _ hg;refine callsIn_wide.2 ((hc ⟨s.toArray⟩ ⟨(a :: b :: r).toArray⟩ m w (by show s.toArray.size < _;simp;omega) hm (by show 2<=(a :: b :: r).toArray.size;simp)).mono ?_);rintro ev w' ⟨rfl,rfl⟩;exact CV hs hf (gy _) (.int _ _)};{cases h}};{cases h}
theorem as2_at {ge:Nat} {ev:eT} (kK:(ge,ev)∈et) (hA:As2OK P g ge ev ps) (h:NP ps (Aa V.fA) A=some out):El (HI P mx gs T et j0 ns) g V A out:=by
 refine⟨hA.enters,?_⟩;unfold NP at h;split at h;{cases h;intro E w0 I0 F0 O0 Hd R e ds I F lp L gf fE us w dst hs hf hu hd;obtain⟨u,v,rfl,U,O⟩:=CL hu;rw[Hn U];refine callsIn_wide.2 ((hA.none v w).mono ?_);rintro ev w' ⟨rfl,hw⟩;rw[hw];exact CV hs hf (gy _) (.bool false)}
 ·split at h
  ·rename_i t x p J o _ ty cs gK;split at h
   ·rename_i hp;obtain⟨hpt,rfl,oQ,mG⟩:=hp;cases h;intro E w0 I0 F0 O0 Hd R e ds I F lp L gf fE us w dst hs hf hu hd;obtain⟨u,v,rfl,U,O⟩:=CL hu;obtain⟨u',rfl,H⟩:=IH U;obtain⟨v',rfl,hr⟩:=IH O;obtain⟨b,C,hL,rfl⟩:=EK hr;obtain⟨q,hq,iT⟩:=hs.ob J _ gK;rw[hL] at hq;cases hq;obtain⟨c,E',hb,hC,gL,iZ⟩:=iT;unfold HX at mG;simp only[bz,eJ] at mG;obtain⟨mY,ji⟩:=H.cells mG.1;have len1:u'.cells.size=2:=by have:=ji.length;simpa[mG.2] using this.symm
    have lenc:c.size=2:=by have:=iZ.length;simpa[oQ] using this.symm
    obtain⟨n1,n2,hn⟩:=XX len1;obtain⟨o1,o2,rfl⟩:=XX lenc;have m1:n1.oneCell'=true:=mY n1 (by simp[hn]);have m2:n2.oneCell'=true:=mY n2 (by simp[hn]);have lG:b < w.heap.size:=(hf.lB J b C hL).2.1;refine callsIn_wide.2 ((hA.hit p t hpt u' n1 n2 hn m1 m2 b o1 o2 E' w (hf.wd.et0 _ kK).2 hb).mono ?_);rintro ev w' ⟨rfl,q1,q2,q3,q4,hw'⟩;have kO:∀ k,k < w.heap.size->k≠b->w'.heap[k]?=w.heap[k]?:=fun k hk sG=>by subst hw';rw[Go.RowKit.Below.heap_setCell _ _ _ _ sG,Go.RowKit.Below.heap_setCell _ _ _ _ sG,fJ _ _ (by simp;omega),fJ _ _ (by simp;omega),fJ _ _ (by simp;omega),fJ _ _ hk]
    have jR:w'.heap[b]?=some (.cells #[n1,n2] E' (0,0)):=by
     subst hw';have key:((((w.alloc q1).alloc q2).alloc q3).alloc q4).heap[b]?=some (.cells #[o1,o2] E' (0,0)):=by rw[fJ _ _ (by simp;omega),fJ _ _ (by simp;omega),fJ _ _ (by simp;omega),fJ _ _ lG];exact hb
     have k1:=ig (o:=0) (n:=n1) key;have k2:=ig (o:=1) (n:=n2) k1;simpa using k2
    have hI:∀ k,I k->w'.heap[k]?=w.heap[k]?:=fun k hk=>kO k (hf.sep.iB k hk) fun e=>(hf.lB J b C hL).2.2.1 (e ▸ hk);refine Pp hs hf hL (by subst hw';rfl) (by subst hw';rfl) (by subst hw';rfl) (by subst hw';simp only[Og];simp;omega) kO ?_ (.bool true);exact⟨#[n1,n2],E',jR,hC,⟨fun v hv=>by simp at hv;rcases hv with rfl | rfl<;>assumption,gL.2⟩,Ae.mono (fun _ h=>h) hI (fun _ _ h=>h) (by rw[hn] at ji;exact ji)⟩
   {cases h}
  {cases h}
 {cases h}
theorem isw_at (hA:IsWOK P g T ws) (h:ya gs T ws A=some out):El (HI P mx gs T et j0 ns) g V A out:=by unfold ya at h;split at h;{rename_i s x g1 t g2 t';refine⟨hA.plain.enters,?_⟩;split at h;{rename_i hp;obtain⟨jU,hg1,hg2,rfl,rfl⟩:=hp;cases h;intro E w0 I0 F0 O0 Hd R e ds I F lp L gf fE us w dst hs hf hu hd;obtain⟨u,v,rfl,U,O⟩:=CL hu;obtain⟨u',rfl,H⟩:=IH U;obtain⟨kW,rfl,_,hus⟩:=K7 H;obtain⟨n,v2,hl,_,hgv⟩:=CL hus;obtain rfl:kW=#[n,v2]:=Lg hl;obtain⟨ad,e1,e2⟩:=hf.wd.err;obtain⟨y1,c,E',fr,rfl,q1,q2⟩:=JP hgv;obtain⟨y2,c',E'',fr',rfl,q1',q2'⟩:=JP O;obtain⟨_,_,⟨_,_,a3⟩,ca,ta,a4⟩:=e1 _ hg1;obtain⟨_,_,⟨_,_,b3⟩,cb,tb,b4⟩:=e1 _ hg2;rw[a3] at q1;cases q1;cases q2;rw[b3] at q1';cases q1';cases q2';by_cases rQ:g1=g2;{subst rQ;refine callsIn_wide.2 ((hA.same s jU n _ w).mono ?_);rintro ev w' ⟨rfl,hw⟩;rw[eO];exact CV hs hf hw (.bool true)};{refine callsIn_wide.2 ((hA.other s jU n _ _ ca cb ta tb w (e2 _ hg1 _ hg2 rQ) a4 b4).mono ?_);rintro ev w' ⟨rfl,hw⟩;rw[beq_eq_false_iff_ne.2 rQ];exact CV hs hf hw (.bool false)}};{cases h}};{rename_i s x g1 t;refine⟨hA.plain.enters,?_⟩;split at h;{rename_i hp;obtain⟨jU,hg1,rfl⟩:=hp;cases h;intro E w0 I0 F0 O0 Hd R e ds I F lp L gf fE us w dst hs hf hu hd;obtain⟨u,v,rfl,U,O⟩:=CL hu;obtain⟨u',rfl,H⟩:=IH U;obtain⟨kW,rfl,_,hus⟩:=K7 H;obtain⟨n,v2,hl,_,hgv⟩:=CL hus;obtain rfl:kW=#[n,v2]:=Lg hl;rw[Hn hgv];obtain⟨ad,e1,e2⟩:=hf.wd.err;obtain⟨y1,c,E',fr,rfl,q1,q2⟩:=JP O;obtain⟨_,_,⟨_,_,a3⟩,ca,ta,a4⟩:=e1 _ hg1;rw[a3] at q1;cases q1;cases q2;refine callsIn_wide.2 ((hA.none s jU n _ w).mono ?_);rintro ev w' ⟨rfl,hw⟩;exact CV hs hf hw (.bool false)};{cases h}};{exact is_at hA.plain h}
end at2
end Go.Ab


namespace Go.Ab
open Go
def ye (T:Nat):fa->fj
 | [.str [],.int .i64 10,.int .i64 64]=>some {v:=.fM [.int .i64 0,.iface T .undef]}
 | [.str s,.int .i64 10,.int .i64 64]=>if s.length<=65536 then match Lib.parseIntB 64 s with
  | .ok v=>some {v:=.fM [.int .i64 v,.fR]}
  | _=>none else none
 | _=>none
variable {P:eX} {mx:P.follows .mixedOrders=true} {gs:fc} {T:Nat} {et:List (Nat×eT)} {j0:List (Nat×Array eT)} {ns:fc} {g:eU} {V:St} {A:fa} {out:Ai}
theorem int_at {ge N:Nat} (kK:ge∈gs) (he:Bn P g)
  (h0:∀ (te:eY) (pe:eT) (w:eS),w.cell? ⟨ge,0,none⟩=some (.iface te pe)->Calls P g #[.string ⟨#[]⟩,.int .i64 10,.int .i64 64] w fun e w'=>(∃ v,e=.returned (.tuple #[.int .i64 0,.iface N v]))/\ie w w')
  (hc:∀ (s:ByteArray) (v:Int) (w:eS),s.size<=65536->Lib.parseIntB 64 s.data.toList=.ok v->Calls P g #[.string s,.int .i64 10,.int .i64 64] w fun e w'=>e=.returned (.tuple #[.int .i64 v,.nilIface])/\ie w w')
  (h:ye N A=some out):El (HI P mx gs T et j0 ns) g V A out:=by
 refine⟨he,?_⟩;unfold ye at h;split at h;{cases h;intro E w0 I0 F0 O0 Hd R e ds I F lp L gf fE us w dst hs hf hu hd;obtain⟨u1,u2,u3,rfl,U,O,h3⟩:=yc hu;rw[B4 U,B5 O,B5 h3];obtain⟨ad,e1,e2⟩:=hf.wd.err;obtain⟨_,_,⟨E',f,a3⟩,_⟩:=e1 _ kK;refine callsIn_wide.2 ((h0 T (.pointer (some (ad ge))) w (by simp[World.cell?,a3])).mono ?_);rintro ev w' ⟨⟨v,rfl⟩,hw⟩;exact CV hs hf hw (.fM _ _ (.cons _ _ _ _ (.int _ _) (.cons _ _ _ _ (.iface _ _ _ (.undef _)) .nil)))};{rename_i s _;split at h;{rename_i hl;split at h;{rename_i v hv;cases h;intro E w0 I0 F0 O0 Hd R e ds I F lp L gf fE us w dst hs hf hu hd;obtain⟨u1,u2,u3,rfl,U,O,h3⟩:=yc hu;rw[B4 U,B5 O,B5 h3];refine callsIn_wide.2 ((hc ⟨s.toArray⟩ v w (by show s.toArray.size<=_;simpa using hl) (by simpa using hv)).mono ?_);rintro ev w' ⟨rfl,hw⟩;exact CV hs hf hw (.fM _ _ (.cons _ _ _ _ (.int _ _) (.cons _ _ _ _ .fR .nil)))};{cases h}};{cases h}};{cases h}
end Go.Ab


namespace Go.Ab.fC
open Go Go.Ab
def ps0:List (Nat×Nat):=[(124,122),(125,85)]
def Ay (g:eU) (σ:Nm->fe) (A:fa):fj :=
 if g=295 then wL A
 else if g=177 then TI A
 else if g=91 then wR A
 else if g=13 then Nr A
 else if g=123 then M7 158 σ A
 else if g=75 then NO 158 5 σ A
 else if g=23 then ya [0,1,2,5,10,13,15,18,19,20,21,22] 489 [85] A
 else if g=238 then SV A
 else if g=285 then Tm A
 else if g=84 then ye 336 A
 else if g=96 then Tn 3 A
 else if g=50 then NP ps0 σ A
 else if g=448 then Lk .u32 σ A
 else if g=505 then K0 .u32 σ A
 else if g=503 then Lj .i32 0 1 σ A
 else if g=504 then Lj .i32 1 0 σ A
 else if g=323 then NQ .i64 σ A
 else if g=282 then Lk .i64 σ A
 else if g=277 then K0 .i64 σ A
 else if g=144 then Nq σ A
 else if g=175 then SW A
 else none
noncomputable def B0:KB:={sp:=Ay,L:=Yn Ay Au,I:=Q9 Ay Au,iN:=Ef Au,gT:=KT Au}
end Go.Ab.fC


namespace Go.Ab.fC
open Go Go.Ab
variable{args:fa} {d:Nat->Bh} {fn:Ad} {g:eU} {n:Nat} {sh:Bh} {u:PV}
def N9 (g:eU):Prop:=g≠295/\g≠177/\g≠91/\g≠13/\g≠123/\g≠75/\g≠23/\g≠238/\g≠285/\g≠84/\g≠96/\g≠50/\g≠448/\g≠505/\g≠503/\g≠504/\g≠323/\g≠282/\g≠277/\g≠144/\g≠175
instance (g:eU):Decidable (N9 g):=by unfold N9;infer_instance
theorem Tl (h:N9 g) (σ:Nm->fe) (A:fa):Ay g σ A=none:=by unfold Ay;rw[eG h.1,eG h.2.1,eG h.2.2.1,eG h.2.2.2.1,eG h.2.2.2.2.1,eG h.2.2.2.2.2.1,eG h.2.2.2.2.2.2.1,eG h.2.2.2.2.2.2.2.1,eG h.2.2.2.2.2.2.2.2.1,eG h.2.2.2.2.2.2.2.2.2.1,eG h.2.2.2.2.2.2.2.2.2.2.1,eG h.2.2.2.2.2.2.2.2.2.2.2.1,eG h.2.2.2.2.2.2.2.2.2.2.2.2.1,eG h.2.2.2.2.2.2.2.2.2.2.2.2.2.1,eG h.2.2.2.2.2.2.2.2.2.2.2.2.2.2.1,eG h.2.2.2.2.2.2.2.2.2.2.2.2.2.2.2.1,eG h.2.2.2.2.2.2.2.2.2.2.2.2.2.2.2.2.1,eG h.2.2.2.2.2.2.2.2.2.2.2.2.2.2.2.2.2.1,eG h.2.2.2.2.2.2.2.2.2.2.2.2.2.2.2.2.2.2.1,eG h.2.2.2.2.2.2.2.2.2.2.2.2.2.2.2.2.2.2.2.1,eG h.2.2.2.2.2.2.2.2.2.2.2.2.2.2.2.2.2.2.2.2]
theorem X7 (g:eU):HA (Ay g):=by intro σ σ' A h;unfold Ay;by_cases hg:g=295;{rw[eH hg,eH hg]};rw[eG hg,eG hg];clear hg;by_cases hg:g=177;{rw[eH hg,eH hg]};rw[eG hg,eG hg];clear hg;by_cases hg:g=91;{rw[eH hg,eH hg]};rw[eG hg,eG hg];clear hg;by_cases hg:g=13;{rw[eH hg,eH hg]};rw[eG hg,eG hg];clear hg;by_cases hg:g=123;{rw[eH hg,eH hg];exact bo 158 σ σ' A h};rw[eG hg,eG hg];clear hg;by_cases hg:g=75;{rw[eH hg,eH hg];exact wM 158 5 σ σ' A h};rw[eG hg,eG hg];clear hg;by_cases hg:g=23;{rw[eH hg,eH hg]};rw[eG hg,eG hg];clear hg;by_cases hg:g=238;{rw[eH hg,eH hg]};rw[eG hg,eG hg];clear hg;by_cases hg:g=285;{rw[eH hg,eH hg]};rw[eG hg,eG hg];clear hg;by_cases hg:g=84;{rw[eH hg,eH hg]};rw[eG hg,eG hg];clear hg;by_cases hg:g=96;{rw[eH hg,eH hg]};rw[eG hg,eG hg];clear hg;by_cases hg:g=50;{rw[eH hg,eH hg];exact yb ps0 σ σ' A h};rw[eG hg,eG hg];clear hg;by_cases hg:g=448;{rw[eH hg,eH hg];exact Wu .u32 σ σ' A h};rw[eG hg,eG hg];clear hg;by_cases hg:g=505;{rw[eH hg,eH hg];exact U6 .u32 σ σ' A h};rw[eG hg,eG hg];clear hg;by_cases hg:g=503;{rw[eH hg,eH hg];exact V5 .i32 0 1 σ σ' A h};rw[eG hg,eG hg];clear hg;by_cases hg:g=504;{rw[eH hg,eH hg];exact V5 .i32 1 0 σ σ' A h};rw[eG hg,eG hg];clear hg;by_cases hg:g=323;{rw[eH hg,eH hg];exact wS .i64 σ σ' A h};rw[eG hg,eG hg];clear hg;by_cases hg:g=282;{rw[eH hg,eH hg];exact Wu .i64 σ σ' A h};rw[eG hg,eG hg];clear hg;by_cases hg:g=277;{rw[eH hg,eH hg];exact U6 .i64 σ σ' A h};rw[eG hg,eG hg];clear hg;by_cases hg:g=144;{rw[eH hg,eH hg];exact rR σ σ' A h};rw[eG hg,eG hg]
theorem io_low:(List.range 560).all (fun g=>(xZ g).isSome==Ef Au g)=true:=by kernel_rfl
theorem io_high (k:Nat):((xZ (k+560)).isSome==Ef Au (k+560))=true:=by kernel_rfl
theorem Tu:∀ g,(xZ g).isSome=Ef Au g:=fun g=>by by_cases h:g < 560;{exact eq_of_beq (bI.1 io_low g (cV.2 h))};{obtain⟨k,rfl⟩:∃ k,g=k+560:=⟨Nat.sub g 560,(Nat.sub_add_cancel (Nat.le_of_not_lt h)).symm⟩;exact eq_of_beq (io_high k)}
theorem NH (d:Nat->Bh):DK (GE B0 d) Au where
 L:=rfl
 I:=rfl
 iN:=rfl
 gT:=rfl
 flat g h:=by cases h
 pa g:=Tu g
 ioP g P h:=by
  simp only[GE,xZ] at h;split at h;·cases h;exact⟨fn5,rfl,⟨by decide,.inl ⟨rfl,rfl⟩⟩,fun Z os=>⟨bx rfl,bx rfl⟩⟩
  {cases h;exact⟨fn6,rfl,⟨by decide,.inl ⟨rfl,rfl⟩⟩,fun Z os=>⟨bx rfl,bx rfl⟩⟩};{cases h;exact⟨fn9,rfl,⟨by decide,.inl ⟨rfl,rfl⟩⟩,fun Z os=>⟨bx rfl,bx rfl⟩⟩};{cases h;exact⟨fn10,rfl,⟨by decide,.inl ⟨rfl,rfl⟩⟩,fun Z os=>⟨bx rfl,bx rfl⟩⟩};{cases h;exact⟨fn11,rfl,⟨by decide,.inl ⟨rfl,rfl⟩⟩,fun Z os=>⟨bx rfl,bx rfl⟩⟩};{cases h;exact⟨fn15,rfl,⟨by decide,.inl ⟨rfl,rfl⟩⟩,fun Z os=>⟨bx rfl,bx rfl⟩⟩};{cases h;exact⟨fn20,rfl,⟨by decide,.inl ⟨rfl,rfl⟩⟩,fun Z os=>⟨bx rfl,bx rfl⟩⟩};{cases h;exact⟨fn21,rfl,⟨by decide,.inl ⟨rfl,rfl⟩⟩,fun Z os=>⟨bx rfl,bx rfl⟩⟩};{cases h;exact⟨fn22,rfl,⟨by decide,.inl ⟨rfl,rfl⟩⟩,fun Z os=>⟨bx rfl,bx rfl⟩⟩};{cases h;exact⟨fn26,rfl,⟨by decide,.inl ⟨rfl,rfl⟩⟩,fun Z os=>⟨bx rfl,bx rfl⟩⟩};{cases h;exact⟨fn27,rfl,⟨by decide,.inr fun _ _=>rfl⟩,fun Z os=>⟨bx rfl,bx rfl⟩⟩};{cases h;exact⟨fn28,rfl,⟨by decide,.inl ⟨rfl,rfl⟩⟩,fun Z os=>⟨bx rfl,bx rfl⟩⟩};{cases h;exact⟨fn36,rfl,⟨by decide,.inl ⟨rfl,rfl⟩⟩,fun Z os=>⟨bx rfl,bx rfl⟩⟩};{cases h;exact⟨fn38,rfl,⟨by decide,.inl ⟨rfl,rfl⟩⟩,fun Z os=>⟨bx rfl,bx rfl⟩⟩};{cases h;exact⟨fn45,rfl,⟨by decide,.inr fun _ _=>rfl⟩,fun Z os=>⟨bx rfl,bx rfl⟩⟩};{cases h;exact⟨fn46,rfl,⟨by decide,.inr fun _ _=>rfl⟩,fun Z os=>⟨bx rfl,bx rfl⟩⟩};{cases h;exact⟨fn48,rfl,⟨by decide,.inr fun _ _=>rfl⟩,fun Z os=>⟨bx rfl,bx rfl⟩⟩};{cases h;exact⟨fn49,rfl,⟨by decide,.inr fun _ _=>rfl⟩,fun Z os=>⟨bx rfl,bx rfl⟩⟩};{cases h;exact⟨fn54,rfl,⟨by decide,.inl ⟨rfl,rfl⟩⟩,fun Z os=>⟨bx rfl,bx rfl⟩⟩};{cases h;exact⟨fn66,rfl,⟨by decide,.inl ⟨rfl,rfl⟩⟩,fun Z os=>⟨bx rfl,bx rfl⟩⟩};{cases h;exact⟨fn69,rfl,⟨by decide,.inl ⟨rfl,rfl⟩⟩,fun Z os=>⟨bx rfl,bx rfl⟩⟩};{cases h;exact⟨fn74,rfl,⟨by decide,.inl ⟨rfl,rfl⟩⟩,fun Z os=>⟨bx rfl,bx rfl⟩⟩};{cases h;exact⟨Kt,rfl,⟨by decide,.inr fun _ _=>rfl⟩,fun Z os=>⟨bx rfl,bx rfl⟩⟩};{cases h;exact⟨D5,rfl,⟨by decide,.inl ⟨rfl,rfl⟩⟩,fun Z os=>⟨bx rfl,bx rfl⟩⟩};{cases h;exact⟨fn82,rfl,⟨by decide,.inl ⟨rfl,rfl⟩⟩,fun Z os=>⟨bx rfl,bx rfl⟩⟩};{cases h;exact⟨fn94,rfl,⟨by decide,.inl ⟨rfl,rfl⟩⟩,fun Z os=>⟨bx rfl,bx rfl⟩⟩};{cases h;exact⟨fn95,rfl,⟨by decide,.inl ⟨rfl,rfl⟩⟩,fun Z os=>⟨bx rfl,bx rfl⟩⟩};{cases h;exact⟨fn97,rfl,⟨by decide,.inl ⟨rfl,rfl⟩⟩,fun Z os=>⟨bx rfl,bx rfl⟩⟩};{cases h;exact⟨wT,rfl,⟨by decide,.inl ⟨rfl,rfl⟩⟩,fun Z os=>⟨bx rfl,bx rfl⟩⟩};{cases h;exact⟨wU,rfl,⟨by decide,.inl ⟨rfl,rfl⟩⟩,fun Z os=>⟨bx rfl,bx rfl⟩⟩};{cases h;exact⟨wV,rfl,⟨by decide,.inl ⟨rfl,rfl⟩⟩,fun Z os=>⟨bx rfl,bx rfl⟩⟩};{cases h;exact⟨wW,rfl,⟨by decide,.inl ⟨rfl,rfl⟩⟩,fun Z os=>⟨bx rfl,bx rfl⟩⟩};{cases h;exact⟨wX,rfl,⟨by decide,.inl ⟨rfl,rfl⟩⟩,fun Z os=>⟨bx rfl,bx rfl⟩⟩};{cases h;exact⟨wY,rfl,⟨by decide,.inl ⟨rfl,rfl⟩⟩,fun Z os=>⟨bx rfl,bx rfl⟩⟩};{cases h;exact⟨wZ,rfl,⟨by decide,.inl ⟨rfl,rfl⟩⟩,fun Z os=>⟨bx rfl,bx rfl⟩⟩};{cases h;exact⟨w5,rfl,⟨by decide,.inl ⟨rfl,rfl⟩⟩,fun Z os=>⟨bx rfl,bx rfl⟩⟩};{cases h;exact⟨w6,rfl,⟨by decide,.inl ⟨rfl,rfl⟩⟩,fun Z os=>⟨bx rfl,bx rfl⟩⟩};{cases h;exact⟨w7,rfl,⟨by decide,.inl ⟨rfl,rfl⟩⟩,fun Z os=>⟨bx rfl,bx rfl⟩⟩};{cases h;exact⟨w8,rfl,⟨by decide,.inl ⟨rfl,rfl⟩⟩,fun Z os=>⟨bx rfl,bx rfl⟩⟩};{cases h;exact⟨w9,rfl,⟨by decide,.inl ⟨rfl,rfl⟩⟩,fun Z os=>⟨bx rfl,bx rfl⟩⟩};{cases h;exact⟨xa,rfl,⟨by decide,.inl ⟨rfl,rfl⟩⟩,fun Z os=>⟨bx rfl,bx rfl⟩⟩};{cases h;exact⟨xc,rfl,⟨by decide,.inl ⟨rfl,rfl⟩⟩,fun Z os=>⟨bx rfl,bx rfl⟩⟩};{cases h;exact⟨xd,rfl,⟨by decide,.inl ⟨rfl,rfl⟩⟩,fun Z os=>⟨bx rfl,bx rfl⟩⟩};{cases h;exact⟨xe,rfl,⟨by decide,.inl ⟨rfl,rfl⟩⟩,fun Z os=>⟨bx rfl,bx rfl⟩⟩};{cases h;exact⟨xf,rfl,⟨by decide,.inl ⟨rfl,rfl⟩⟩,fun Z os=>⟨bx rfl,bx rfl⟩⟩};{cases h;exact⟨xg,rfl,⟨by decide,.inl ⟨rfl,rfl⟩⟩,fun Z os=>⟨bx rfl,bx rfl⟩⟩};{cases h;exact⟨xi,rfl,⟨by decide,.inl ⟨rfl,rfl⟩⟩,fun Z os=>⟨bx rfl,bx rfl⟩⟩};{cases h;exact⟨xj,rfl,⟨by decide,.inl ⟨rfl,rfl⟩⟩,fun Z os=>⟨bx rfl,bx rfl⟩⟩};{cases h;exact⟨xk,rfl,⟨by decide,.inr fun _ _=>rfl⟩,fun Z os=>⟨bx rfl,bx rfl⟩⟩};{cases h;exact⟨xn,rfl,⟨by decide,.inl ⟨rfl,rfl⟩⟩,fun Z os=>⟨bx rfl,bx rfl⟩⟩};{cases h;exact⟨xp,rfl,⟨by decide,.inl ⟨rfl,rfl⟩⟩,fun Z os=>⟨bx rfl,bx rfl⟩⟩};{cases h;exact⟨xq,rfl,⟨by decide,.inl ⟨rfl,rfl⟩⟩,fun Z os=>⟨bx rfl,bx rfl⟩⟩};{cases h;exact⟨xr,rfl,⟨by decide,.inl ⟨rfl,rfl⟩⟩,fun Z os=>⟨bx rfl,bx rfl⟩⟩};{cases h;exact⟨xt,rfl,⟨by decide,.inl ⟨rfl,rfl⟩⟩,fun Z os=>⟨bx rfl,bx rfl⟩⟩};{cases h;exact⟨xu,rfl,⟨by decide,.inl ⟨rfl,rfl⟩⟩,fun Z os=>⟨bx rfl,bx rfl⟩⟩};{cases h;exact⟨xw,rfl,⟨by decide,.inl ⟨rfl,rfl⟩⟩,fun Z os=>⟨bx rfl,bx rfl⟩⟩};{cases h;exact⟨xx,rfl,⟨by decide,.inl ⟨rfl,rfl⟩⟩,fun Z os=>⟨bx rfl,bx rfl⟩⟩};{cases h;exact⟨xz,rfl,⟨by decide,.inl ⟨rfl,rfl⟩⟩,fun Z os=>⟨bx rfl,bx rfl⟩⟩};{cases h;exact⟨xA,rfl,⟨by decide,.inl ⟨rfl,rfl⟩⟩,fun Z os=>⟨bx rfl,bx rfl⟩⟩};{cases h;exact⟨xB,rfl,⟨by decide,.inl ⟨rfl,rfl⟩⟩,fun Z os=>⟨bx rfl,bx rfl⟩⟩};{cases h;exact⟨xC,rfl,⟨by decide,.inl ⟨rfl,rfl⟩⟩,fun Z os=>⟨bx rfl,bx rfl⟩⟩};{cases h;exact⟨xD,rfl,⟨by decide,.inl ⟨rfl,rfl⟩⟩,fun Z os=>⟨bx rfl,bx rfl⟩⟩};{cases h;exact⟨xE,rfl,⟨by decide,.inl ⟨rfl,rfl⟩⟩,fun Z os=>⟨bx rfl,bx rfl⟩⟩};{cases h;exact⟨xF,rfl,⟨by decide,.inl ⟨rfl,rfl⟩⟩,fun Z os=>⟨bx rfl,bx rfl⟩⟩};{cases h;exact⟨xG,rfl,⟨by decide,.inl ⟨rfl,rfl⟩⟩,fun Z os=>⟨bx rfl,bx rfl⟩⟩};{cases h;exact⟨xH,rfl,⟨by decide,.inl ⟨rfl,rfl⟩⟩,fun Z os=>⟨bx rfl,bx rfl⟩⟩};{cases h;exact⟨xI,rfl,⟨by decide,.inl ⟨rfl,rfl⟩⟩,fun Z os=>⟨bx rfl,bx rfl⟩⟩};{cases h;exact⟨Rh,rfl,⟨by decide,.inl ⟨rfl,rfl⟩⟩,fun Z os=>⟨bx rfl,bx rfl⟩⟩};{cases h;exact⟨xJ,rfl,⟨by decide,.inl ⟨rfl,rfl⟩⟩,fun Z os=>⟨bx rfl,bx rfl⟩⟩};{cases h;exact⟨xK,rfl,⟨by decide,.inl ⟨rfl,rfl⟩⟩,fun Z os=>⟨bx rfl,bx rfl⟩⟩};{cases h;exact⟨xL,rfl,⟨by decide,.inl ⟨rfl,rfl⟩⟩,fun Z os=>⟨bx rfl,bx rfl⟩⟩};{cases h;exact⟨xM,rfl,⟨by decide,.inl ⟨rfl,rfl⟩⟩,fun Z os=>⟨bx rfl,bx rfl⟩⟩};{cases h;exact⟨Fk,rfl,⟨by decide,.inl ⟨rfl,rfl⟩⟩,fun Z os=>⟨bx rfl,bx rfl⟩⟩};{cases h;exact⟨xN,rfl,⟨by decide,.inl ⟨rfl,rfl⟩⟩,fun Z os=>⟨bx rfl,bx rfl⟩⟩};{cases h;exact⟨xO,rfl,⟨by decide,.inl ⟨rfl,rfl⟩⟩,fun Z os=>⟨bx rfl,bx rfl⟩⟩};{cases h;exact⟨xP,rfl,⟨by decide,.inl ⟨rfl,rfl⟩⟩,fun Z os=>⟨bx rfl,bx rfl⟩⟩};{cases h;exact⟨xQ,rfl,⟨by decide,.inl ⟨rfl,rfl⟩⟩,fun Z os=>⟨bx rfl,bx rfl⟩⟩};{cases h;exact⟨xR,rfl,⟨by decide,.inl ⟨rfl,rfl⟩⟩,fun Z os=>⟨bx rfl,bx rfl⟩⟩};{cases h;exact⟨xS,rfl,⟨by decide,.inl ⟨rfl,rfl⟩⟩,fun Z os=>⟨bx rfl,bx rfl⟩⟩};{cases h;exact⟨xU,rfl,⟨by decide,.inl ⟨rfl,rfl⟩⟩,fun Z os=>⟨bx rfl,bx rfl⟩⟩};{cases h;exact⟨xV,rfl,⟨by decide,.inl ⟨rfl,rfl⟩⟩,fun Z os=>⟨bx rfl,bx rfl⟩⟩};{cases h;exact⟨xW,rfl,⟨by decide,.inl ⟨rfl,rfl⟩⟩,fun Z os=>⟨bx rfl,bx rfl⟩⟩};{cases h;exact⟨xX,rfl,⟨by decide,.inl ⟨rfl,rfl⟩⟩,fun Z os=>⟨bx rfl,bx rfl⟩⟩};{cases h;exact⟨xY,rfl,⟨by decide,.inl ⟨rfl,rfl⟩⟩,fun Z os=>⟨bx rfl,bx rfl⟩⟩};{cases h}
 sO g h σ A:=by simp only[GE,di,beq_eq_false_iff_ne] at h;obtain⟨⟨⟨⟨⟨⟨⟨⟨⟨⟨⟨⟨⟨⟨⟨⟨⟨⟨⟨⟨h0,U⟩,O⟩,h3⟩,h4⟩,h5⟩,h6⟩,h7⟩,h8⟩,h9⟩,h10⟩,h11⟩,h12⟩,h13⟩,h14⟩,h15⟩,h16⟩,h17⟩,h18⟩,h19⟩,h20⟩:=h;exact Tl ⟨h0,U,O,h3,h4,h5,h6,h7,h8,h9,h10,h11,h12,h13,h14,h15,h16,h17,h18,h19,h20⟩ σ A
 loc g σ A hv:=cfg_loc X7 g σ A hv
 spK:=nofun
 asOk:=nofun
theorem call (ht:Au g=some fn) (hg:N9 g) (ha:Az args=true) (hl:Nat.ble args.length fn.nt=true)
  (hr:G6 (GE B0 d) fn sh Ar 0 (args.map KV.cv) ()=some (u,())) (jj:fn.io=false:=by rfl) (hb:Nat.blt g CJ=true:=by rfl):BG B0 sh (.fn g []) args=some u:=by
 refine ZX (NH d) ht (cap:=[]) (by simpa using ha) (by simpa using bx hl) (Tl hg (fun _=>none) _) ?_ jj hb;simpa using hr
theorem W0 (hg:N9 g) (h:AI Ay Au n Unit Ar 0 g args ()=some (u,[],())) (hu:As u=true) (jj:Ef Au g=false) (hb:Nat.blt g CJ=true:=by rfl):BG B0 .cl (.fn g []) args=some u:=by
 have hid:AG g=g:=by simp[AG,hb]
 have vT:A7 g args []=args:=by simp[A7,hb]
 obtain⟨e2,_,O⟩:=Si n Unit Unit (fun _ _=>True) Ar (fun _=>Ar) (fun _ _ _ _ _ _ _ h=>by cases h) 0 g args () () trivial _ _ _ h;have hL:B0.L Unit Ar 0 g args ()=some (u,[],()):=TS O;have hI:B0.iN g=false:=jj;have hs:B0.sp g (fun _=>none) args=none:=Tl hg _ _;unfold BG;simp[hid,vT,spO,hs,hI,hL,Du,B6,hu,AJ]
end Go.Ab.fC


namespace Go.Proofs.ow
open Go.RowKit Go.Extern.Stop Go.Stop Go.Extern Go.Proofs
theorem MW (v:eT) (w:eS):(Extern.ReflectliteType.typeOf #[.iface 489 v]).run Tryz.prog w=.ok (.iface 139 (.agg #[.pointer (some ⟨23,489,none⟩)])) w:=by kernel_rfl
theorem Mm (w:eS):((Extern.ReflectliteType.method fun t=>do Extern.Rtype.noPackHeld "Comparable" t;(fun a=>Value.bool a.comparable) <$> typeInfo t) #[.agg #[.pointer (some ⟨23,489,none⟩)]]).run Tryz.prog w=.ok (.bool true) w:=by kernel_rfl
theorem Mk (v:eT) (w:eS):(Go.method 874 139 v "Comparable").run Tryz.prog w=.ok (574,v) w:=by kernel_rfl
theorem NC:(Tryz.prog.info? 489).map (·.comparable)=some true:=by kernel_rfl
theorem NB:(Tryz.prog.info? 491).map (·.size)=some 1:=by kernel_rfl
theorem Yk (v:eT) (xT:eY) (w:eS):(Instr.typeAssert (.iface 489 v) xT 141 true).run Tryz.prog w=.ok (.tuple #[.nilIface,.bool false]) w:=run_typeAssert_lacksB Tryz.underlying141 (by kernel_rfl) (by kernel_rfl) v xT w
theorem Yj (v:eT) (xT:eY) (w:eS):(Instr.typeAssert (.iface 489 v) xT 144 true).run Tryz.prog w=.ok (.tuple #[.nilIface,.bool false]) w:=run_typeAssert_lacksB Tryz.underlying144 (by kernel_rfl) (by kernel_rfl) v xT w
theorem Yi (v:eT) (xT:eY) (w:eS):(Instr.typeAssert (.iface 489 v) xT 146 true).run Tryz.prog w=.ok (.tuple #[.nilIface,.bool false]) w:=run_typeAssert_lacksB Tryz.underlying146 (by kernel_rfl) (by kernel_rfl) v xT w
set_option maxHeartbeats 1000000 in
set_option maxRecDepth 100000 in
theorem is_same (a:Addr) (w:eS) :
  Calls Tryz.prog 23 #[.iface 489 (.pointer (some a)),.iface 489 (.pointer (some a))] w fun e w'=>e=.returned (.bool true)/\w'=w:=by
 obtain⟨i,hi,oz⟩:=bB.1 NC;obtain⟨j,hj,hjs⟩:=bB.1 NB;have h8:=@run_callFunc_extern Tryz.prog 39 _ Extern.ReflectliteType.typeOf Tryz.func39 (by kernel_rfl) (by kernel_rfl) (by kernel_rfl) (by kernel_rfl);have h32:=@run_callFunc_extern Tryz.prog 574 _ (Extern.ReflectliteType.method fun t=>do Extern.Rtype.noPackHeld "Comparable" t;pure (.bool (<-typeInfo t).comparable)) Tryz.func574 (by kernel_rfl) (by kernel_rfl) (by kernel_rfl) (by kernel_rfl);have tT:=MW;have cT:=Mm;have mR:=Mk;have heq:=run_eql_iface_ptr_same (P:=Tryz.prog) w a Tryz.underlying37 Tryz.underlying489 hi oz hj
 go_enter Tryz.func23,Tryz.ntmps23
 go_wp2
 refine wp_loop_rounds 1 ?_;rw[rounds_succ]
 go_wp2
 go_ret
 exact⟨rfl,rfl⟩
set_option maxHeartbeats 1000000 in
set_option maxRecDepth 100000 in
theorem is_nil (b:Addr) (w:eS) :
  Calls Tryz.prog 23 #[.nilIface,.iface 489 (.pointer (some b))] w fun e w'=>e=.returned (.bool false)/\w'=w:=by
 have hn:=run_eql_iface_nil_left (P:=Tryz.prog) w 489 (.pointer (some b)) Tryz.underlying37
 go_enter Tryz.func23,Tryz.ntmps23
 go_wp2
 go_ret
 exact⟨rfl,rfl⟩
set_option maxHeartbeats 1000000 in
set_option maxRecDepth 100000 in
theorem yf (a b:Addr) (ca cb:Array eT) (ta tb:eY) (w:eS) (gj:a≠b) (ha:w.heap[a.block]?=some (.cells ca ta (0,0))) (hb:w.heap[b.block]?=some (.cells cb tb (0,0))) :
  Calls Tryz.prog 23 #[.iface 489 (.pointer (some a)),.iface 489 (.pointer (some b))] w fun e w'=>e=.returned (.bool false)/\w'=w:=by
 obtain⟨i,hi,oz⟩:=bB.1 NC;obtain⟨j,hj,hjs⟩:=bB.1 NB;have h8:=@run_callFunc_extern Tryz.prog 39 _ Extern.ReflectliteType.typeOf Tryz.func39 (by kernel_rfl) (by kernel_rfl) (by kernel_rfl) (by kernel_rfl);have h32:=@run_callFunc_extern Tryz.prog 574 _ (Extern.ReflectliteType.method fun t=>do Extern.Rtype.noPackHeld "Comparable" t;pure (.bool (<-typeInfo t).comparable)) Tryz.func574 (by kernel_rfl) (by kernel_rfl) (by kernel_rfl) (by kernel_rfl);have tT:=MW;have cT:=Mm;have mR:=Mk;have nE:=Yk;have uE:=Yj;have vE:=Yi;have heq:=run_eql_iface_ptr_other (P:=Tryz.prog) w Tryz.underlying37 Tryz.underlying489 hi oz hj (by rw[hjs];decide) gj ha hb
 go_enter Tryz.func23,Tryz.ntmps23
 go_wp2
 refine wp_loop_rounds 1 ?_;rw[rounds_succ]
 go_wp2
 go_ret
 exact⟨rfl,rfl⟩
end Go.Proofs.ow


namespace Go.Proofs.pN
open Go.RowKit Go.Extern.Stop Go.Stop Go.Extern Go.Proofs Go.Proofs.ow
theorem yg (v:eT) (xT:eY) (w:eS):(Instr.typeAssert (.iface 85 v) xT 141 true).run Tryz.prog w=.ok (.tuple #[.nilIface,.bool false]) w:=run_typeAssert_lacksB Tryz.underlying141 (by kernel_rfl) (by kernel_rfl) v xT w
theorem yh (v:eT) (xT:eY) (w:eS):(Instr.typeAssert (.iface 85 v) xT 144 true).run Tryz.prog w=.ok (.tuple #[.iface 85 v,.bool true]) w:=run_typeAssert_hasB Tryz.underlying144 (by kernel_rfl) v xT w
theorem Ti (v:eT) (w:eS):(Go.method 874 85 v "Unwrap").run Tryz.prog w=.ok (569,v) w:=by kernel_rfl
set_option maxRecDepth 100000 in
theorem Sm (n e:eT) (w:eS):Calls Tryz.prog 569 #[.agg #[n,e]] w fun ev w'=>ev=.returned e/\w'=w.alloc (.cells #[n,e] 85):=by
 go_enter Tryz.func569,Tryz.ntmps569
 go_wp2
 go_ret
 exact⟨rfl,rfl⟩
set_option maxHeartbeats 1000000 in
set_option maxRecDepth 100000 in
theorem nK (n:eT) (a:Addr) (w:eS) :
  Calls Tryz.prog 23 #[.iface 85 (.agg #[n,.iface 489 (.pointer (some a))]),.iface 489 (.pointer (some a))] w fun e w'=>e=.returned (.bool true)/\Go.Ab.ie w w':=by
 obtain⟨i,hi,oz⟩:=bB.1 NC;obtain⟨j,hj,hjs⟩:=bB.1 NB;have h8:=@run_callFunc_extern Tryz.prog 39 _ Extern.ReflectliteType.typeOf Tryz.func39 (by kernel_rfl) (by kernel_rfl) (by kernel_rfl) (by kernel_rfl);have h32:=@run_callFunc_extern Tryz.prog 574 _ (Extern.ReflectliteType.method fun t=>do Extern.Rtype.noPackHeld "Comparable" t;pure (.bool (<-typeInfo t).comparable)) Tryz.func574 (by kernel_rfl) (by kernel_rfl) (by kernel_rfl) (by kernel_rfl);have tT:=MW;have cT:=Mm;have mR:=Mk;have nE:=yg;have uE:=yh;have mU:=Ti;have heq:=fun w=>run_eql_iface_ptr_same (P:=Tryz.prog) w a Tryz.underlying37 Tryz.underlying489 hi oz hj;have hty:=run_eql_iface_types (P:=Tryz.prog) 85 489 (.agg #[n,.iface 489 (.pointer (some a))]) (.pointer (some a)) Tryz.underlying37 (by decide)
 go_enter Tryz.func23,Tryz.ntmps23
 go_wp2
 refine wp_loop_rounds 2 ?_;rw[rounds_succ]
 go_wp2_with (go_at_call 569;refine (Sm _ _ _).mono ?_;rintro e w' ⟨rfl,rfl⟩)
 rw[rounds_succ]
 go_wp2
 go_ret
 exact⟨rfl,Go.Ab.gG ((Below.refl _ _).alloc (bD _) _)⟩
set_option maxHeartbeats 1000000 in
set_option maxRecDepth 100000 in
theorem mW (n:eT) (a b:Addr) (ca cb:Array eT) (ta tb:eY) (w:eS) (gj:a≠b) (ha:w.heap[a.block]?=some (.cells ca ta (0,0))) (hb:w.heap[b.block]?=some (.cells cb tb (0,0))) :
  Calls Tryz.prog 23 #[.iface 85 (.agg #[n,.iface 489 (.pointer (some a))]),.iface 489 (.pointer (some b))] w fun e w'=>e=.returned (.bool false)/\Go.Ab.ie w w':=by
 obtain⟨i,hi,oz⟩:=bB.1 NC;obtain⟨j,hj,hjs⟩:=bB.1 NB;have h8:=@run_callFunc_extern Tryz.prog 39 _ Extern.ReflectliteType.typeOf Tryz.func39 (by kernel_rfl) (by kernel_rfl) (by kernel_rfl) (by kernel_rfl);have h32:=@run_callFunc_extern Tryz.prog 574 _ (Extern.ReflectliteType.method fun t=>do Extern.Rtype.noPackHeld "Comparable" t;pure (.bool (<-typeInfo t).comparable)) Tryz.func574 (by kernel_rfl) (by kernel_rfl) (by kernel_rfl) (by kernel_rfl);have tT:=MW;have cT:=Mm;have mR:=Mk;have nE:=yg;have uE:=yh;have mU:=Ti;have nE2:=Yk;have uE2:=Yj;have vE2:=Yi;have la:a.block < w.heap.size:=by rcases cZ a.block w.heap.size with h | h;{exact h};{simp[dx h] at ha}
 have lb:b.block < w.heap.size:=by rcases cZ b.block w.heap.size with h | h;{exact h};{simp[dx h] at hb}
 have heq:=run_eql_iface_ptr_other (P:=Tryz.prog) (w.alloc (.cells #[n,.iface 489 (.pointer (some a))] 85)) Tryz.underlying37 Tryz.underlying489 hi oz hj (by rw[hjs];decide) gj (by rw[Go.Ab.fJ _ _ la];exact ha) (by rw[Go.Ab.fJ _ _ lb];exact hb);have hty:=run_eql_iface_types (P:=Tryz.prog) 85 489 (.agg #[n,.iface 489 (.pointer (some a))]) (.pointer (some b)) Tryz.underlying37 (by decide)
 go_enter Tryz.func23,Tryz.ntmps23
 go_wp2
 refine wp_loop_rounds 2 ?_;rw[rounds_succ]
 go_wp2_with (go_at_call 569;refine (Sm _ _ _).mono ?_;rintro e w' ⟨rfl,rfl⟩)
 rw[rounds_succ]
 go_wp2
 go_ret
 exact⟨rfl,Go.Ab.gG ((Below.refl _ _).alloc (bD _) _)⟩
set_option maxHeartbeats 1000000 in
set_option maxRecDepth 100000 in
theorem nL (n:eT) (b:Addr) (w:eS) :
  Calls Tryz.prog 23 #[.iface 85 (.agg #[n,.nilIface]),.iface 489 (.pointer (some b))] w fun e w'=>e=.returned (.bool false)/\Go.Ab.ie w w':=by
 obtain⟨i,hi,oz⟩:=bB.1 NC;obtain⟨j,hj,hjs⟩:=bB.1 NB;have h8:=@run_callFunc_extern Tryz.prog 39 _ Extern.ReflectliteType.typeOf Tryz.func39 (by kernel_rfl) (by kernel_rfl) (by kernel_rfl) (by kernel_rfl);have h32:=@run_callFunc_extern Tryz.prog 574 _ (Extern.ReflectliteType.method fun t=>do Extern.Rtype.noPackHeld "Comparable" t;pure (.bool (<-typeInfo t).comparable)) Tryz.func574 (by kernel_rfl) (by kernel_rfl) (by kernel_rfl) (by kernel_rfl);have tT:=MW;have cT:=Mm;have mR:=Mk;have nE:=yg;have uE:=yh;have mU:=Ti;have hty:=run_eql_iface_types (P:=Tryz.prog) 85 489 (.agg #[n,.nilIface]) (.pointer (some b)) Tryz.underlying37 (by decide)
 go_enter Tryz.func23,Tryz.ntmps23
 go_wp2
 refine wp_loop_rounds 1 ?_;rw[rounds_succ]
 go_wp2_with (go_at_call 569;refine (Sm _ _ _).mono ?_;rintro e w' ⟨rfl,rfl⟩)
 go_ret
 exact⟨rfl,Go.Ab.gG ((Below.refl _ _).alloc (bD _) _)⟩
end Go.Proofs.pN


namespace Go.Proofs.rW
open Go.RowKit Go.Proofs
theorem lies_b:liesAt Tryz.prog Tryz.prog.depth 158 (2 / Tryz.prog.cellsOf 158) 0 158 1=true:=by kernel_rfl
theorem info_b':(Tryz.prog.info? 158).map (·.size)=some 2:=by kernel_rfl
theorem yi:∃ j,Tryz.prog.info? 158=some j/\j.size=2:=bB.1 info_b'
theorem cells5:Tryz.prog.cellsOf 5=1:=by kernel_rfl
set_option maxHeartbeats 1000000 in
set_option maxRecDepth 100000 in
theorem pb (b:Nat) (w:eS) (h0:w.cell? ⟨b,0,none⟩=some (.pointer (some ⟨b,0,none⟩))) :
  Calls Tryz.prog 123 #[.pointer (some ⟨b,0,none⟩)] w fun e w'=>e=.returned (.tuple #[])/\w'=w:=by
 obtain⟨j,hj,_⟩:=yi
 go_enter Tryz.func123,Tryz.ntmps123
 go_wp2
 rw[Lib.run_neq_ptr_same w _ Tryz.underlying156 hj]
 go_wp2
 go_end0
 exact⟨rfl,rfl⟩
set_option maxHeartbeats 1000000 in
set_option maxRecDepth 100000 in
theorem oA (b:Nat) (w:eS) (h0:w.cell? ⟨b,0,none⟩=some (.pointer none)) (iR:w.shape? b=some (158,2)) (nS:w.frozen? ⟨b,0,none⟩=false) :
  Calls Tryz.prog 123 #[.pointer (some ⟨b,0,none⟩)] w fun e w'=>e=.returned (.tuple #[])/\w'=w.setCell ⟨b,0,none⟩ (.pointer (some ⟨b,0,none⟩)):=by
 obtain⟨j,hj,hjs⟩:=yi
 go_enter Tryz.func123,Tryz.ntmps123
 go_wp2
 rw[Lib.run_to_unsafe w ⟨b,0,none⟩ Tryz.underlying156 Tryz.underlying174 hj (by rw[hjs];decide) iR (Nat.zero_lt_succ 1)];simp only[Result.andThen];rw[Oper.upon_value]
 go_wp2
 rw[run_callFunc_extern Tryz.func183 (by kernel_rfl) (by kernel_rfl) (by kernel_rfl) (e:=Extern.AbiNoEscape.same) (by kernel_rfl)];rw[Lib.run_noEscape];simp only[Result.andThen];rw[Oper.upon_value]
 go_wp2
 rw[Lib.run_from_unsafe w ⟨b,0,none⟩ Tryz.underlying174 Tryz.underlying156 hj iR lies_b];simp only[Result.andThen];rw[Oper.upon_value]
 go_wp2
 go_end0
 exact⟨rfl,rfl⟩
set_option maxHeartbeats 1000000 in
set_option maxRecDepth 100000 in
theorem count_one (s:ByteArray) (c:UInt8) (w:eS) :
  Calls Tryz.prog 238 #[.string s,.string ⟨#[c]⟩] w fun e w'=>e=.returned (.int .i64 (Lib.countByte s.data.toList c))/\w'=w:=by
 go_enter Tryz.func238,Tryz.ntmps238
 go_wp2
 rw[run_callFunc_extern Tryz.func284 (by kernel_rfl) (by kernel_rfl) (by kernel_rfl) (e:=Extern.BytealgCount.count) (by kernel_rfl),Lib.run_countString];simp only[Result.andThen];rw[Oper.upon_value]
 go_wp2
 go_ret
 exact⟨rfl,rfl⟩
set_option maxHeartbeats 1000000 in
set_option maxRecDepth 100000 in
theorem oB (b g cap:Nat) (p:eT) (cur:Array eT) (l:fp) (w:eS) (hbk:w.heap[b]?=some (.cells #[p,.slice (some ⟨g,0,none⟩) l.length cap] 158 (0,0)))
  (hg:w.heap[g]?=some (.cells cur 5 (0,0))) (h0:l≠[]) (kY:l.length<=cap) (iZ:l.length<=cur.size) (h63:l.length<=9223372036854775807) (hl:∀ (j:Nat) (x:UInt8),l[j]?=some x->cur[j]?=some (Value.int .u8 (x.toNat:Int))) :
  Calls Tryz.prog 75 #[.pointer (some ⟨b,0,none⟩)] w fun e w'=>e=.returned (.string ⟨l.toArray⟩)/\w'=w.drew.freeze ⟨g,0,none⟩ l.length:=by
 have lQ:l.length≠0:=by simpa using h0
 have c1:w.drew.cell? ⟨b,1,none⟩=some (.slice (some ⟨g,0,none⟩) l.length cap):=by have:w.drew.heap[b]?=some (.cells #[p,.slice (some ⟨g,0,none⟩) l.length cap] 158 (0,0)):=hbk;rw[Lib.cell_of_heap this];rfl
 have hSD:(Builtin.unsafeSliceData_ #[39] 239 #[.slice (some ⟨g,0,none⟩) l.length cap]).run Tryz.prog w.drew=.ok (.pointer (some ⟨g,0,none⟩)) w.drew :=
  Lib.run_unsafeSliceData_row _ _ _ _ _ _ (by omega)
 have hUS:(Builtin.unsafeString_ #[239,3] 9 #[.pointer (some ⟨g,0,none⟩),.int .i64 l.length]).run Tryz.prog w.drew=.ok (.string ⟨l.toArray⟩) (w.drew.freeze ⟨g,0,none⟩ l.length):=by
  refine Lib.run_unsafeString_row w.drew 239 3 9 5 Tryz.underlying239 cells5 g cur.size (by have sL:w.drew.heap[g]?=some (.cells cur 5 (0,0)):=hg;simp[World.shape?,sL]) l h0 iZ h63 ?_;intro j x H;have sL:w.drew.heap[g]?=some (.cells cur 5 (0,0)):=hg;have e:((⟨g,0,none⟩:Addr).add j)=⟨g,j,none⟩:=by cases j<;>simp[Addr.add]
  rw[e,Lib.cell_of_heap sL];exact hl j x H
 have mixed:Tryz.prog.follows .mixedOrders=true:=by kernel_rfl
 go_enter Tryz.func75,Tryz.ntmps75
 go_wp2
 go_region_o
 all_goals (go_wp2;go_ret;exact⟨rfl,rfl⟩)
set_option maxHeartbeats 1000000 in
set_option maxRecDepth 100000 in
theorem pc (b:Nat) (p:eT) (w:eS) (hbk:w.heap[b]?=some (.cells #[p,.slice none 0 0] 158 (0,0))) :
  Calls Tryz.prog 75 #[.pointer (some ⟨b,0,none⟩)] w fun e w'=>e=.returned (.string ⟨#[]⟩)/\w'=w.drew:=by
 have hUS:∀ W q,(Builtin.unsafeString_ #[239,3] 9 #[.pointer q,.int .i64 0]).run Tryz.prog W=.ok (.string .empty) W:=fun W q=>Lib.run_unsafeString_none W _ _ _ q;have c1:w.drew.cell? ⟨b,1,none⟩=some (.slice none 0 0):=by have:w.drew.heap[b]?=some (.cells #[p,.slice none 0 0] 158 (0,0)):=hbk;rw[Lib.cell_of_heap this];rfl
 have hSD:(Builtin.unsafeSliceData_ #[39] 239 #[.slice none 0 0]).run Tryz.prog w.drew=.ok (.pointer none) w.drew:=rfl;have mixed:Tryz.prog.follows .mixedOrders=true:=by kernel_rfl
 go_enter Tryz.func75,Tryz.ntmps75
 go_wp2
 go_region_o
 all_goals (go_wp2;go_ret;exact⟨rfl,rfl⟩)
end Go.Proofs.rW


namespace Go.Proofs
open Go.Shelf Go.RowKit Go.Sort Go.Lib
def Tryz.oC:Go.Shelf.Ren:=⟨fun | 171=>13 | 243=>24 | 246=>41 | 283=>70 | 284=>71 | 285=>72 | 286=>73 | 129=>119 | 317=>118 | 318=>120 | 319=>121 | 320=>122 | 337=>181 | 338=>182 | n=>n,fun | 3=>3 | 9=>9 | 2=>2 | 4=>4 | 171=>149 | 0=>0 | 53=>150 | 37=>39 | 5=>5 | 173=>153 | 212=>233 | 51=>234 | 20=>20 | 213=>235 | 46=>237 | 232=>414 | 233=>415 | n=>n,fun | 17=>4 | 18=>11 | 19=>12 | n=>n⟩
theorem Tryz.lays171:Go.Proofs.LaysM.n171 Tryz.prog Tryz.oC:={
 mixed:=by kernel_rfl
 f129:=Tryz.func119.trans (eM some (by kernel_rfl))
 f171:=Tryz.func13.trans (eM some (by kernel_rfl))
 f243:=Tryz.func24.trans (eM some (by kernel_rfl))
 f246:=Tryz.func41.trans (eM some (by kernel_rfl))
 f283:=Tryz.func70.trans (eM some (by kernel_rfl))
 f284:=Tryz.func71.trans (eM some (by kernel_rfl))
 f285:=Tryz.func72.trans (eM some (by kernel_rfl))
 f286:=Tryz.func73.trans (eM some (by kernel_rfl))
 f317:=Tryz.func118.trans (eM some (by kernel_rfl))
 f318:=Tryz.func120.trans (eM some (by kernel_rfl))
 f319:=Tryz.func121.trans (eM some (by kernel_rfl))
 f320:=Tryz.func122.trans (eM some (by kernel_rfl))
 f337:=Tryz.func181.trans (eM some (by kernel_rfl))
 f338:=Tryz.func182.trans (eM some (by kernel_rfl))
 t0:=Tryz.underlying0
 a0:=Tryz.isAgg0
 z0:=Tryz.sizeOf0
 v0:=Tryz.zeroValue0
 t2:=Tryz.underlying2
 a2:=Tryz.isAgg2
 z2:=Tryz.sizeOf2
 v2:=Tryz.zeroValue2
 t3:=Tryz.underlying3
 a3:=Tryz.isAgg3
 z3:=Tryz.sizeOf3
 v3:=Tryz.zeroValue3
 t4:=Tryz.underlying4
 a4:=Tryz.isAgg4
 z4:=Tryz.sizeOf4
 v4:=Tryz.zeroValue4
 t5:=Tryz.underlying5
 a5:=Tryz.isAgg5
 z5:=Tryz.sizeOf5
 v5:=Tryz.zeroValue5
 t9:=Tryz.underlying9
 a9:=Tryz.isAgg9
 z9:=Tryz.sizeOf9
 v9:=Tryz.zeroValue9
 t20:=Tryz.underlying20
 a20:=Tryz.isAgg20
 z20:=Tryz.sizeOf20
 v20:=Tryz.zeroValue20
 t37:=Tryz.underlying39
 a37:=Tryz.isAgg39
 z37:=Tryz.sizeOf39
 v37:=Tryz.zeroValue39
 t46:=Tryz.underlying237
 a46:=Tryz.isAgg237
 z46:=Tryz.sizeOf237
 v46:=Tryz.zeroValue237
 t51:=Tryz.underlying234
 a51:=Tryz.isAgg234
 z51:=Tryz.sizeOf234
 v51:=Tryz.zeroValue234
 t53:=Tryz.underlying150
 a53:=Tryz.isAgg150
 z53:=Tryz.sizeOf150
 v53:=Tryz.zeroValue150
 t171:=Tryz.underlying149
 a171:=Tryz.isAgg149
 z171:=Tryz.sizeOf149
 v171:=Tryz.zeroValue149
 t173:=Tryz.underlying153
 a173:=Tryz.isAgg153
 z173:=Tryz.sizeOf153
 v173:=Tryz.zeroValue153
 t212:=Tryz.underlying233
 a212:=Tryz.isAgg233
 z212:=Tryz.sizeOf233
 v212:=Tryz.zeroValue233
 t213:=Tryz.underlying235
 a213:=Tryz.isAgg235
 z213:=Tryz.sizeOf235
 t232:=Tryz.underlying414
 a232:=Tryz.isAgg414
 z232:=Tryz.sizeOf414
 v232:=Tryz.zeroValue414
 t233:=Tryz.underlying415
 a233:=Tryz.isAgg415
 z233:=Tryz.sizeOf415
 v233:=Tryz.zeroValue415
 g17:=by kernel_rfl
 g18:=by kernel_rfl
 g19:=by kernel_rfl
 i0:=by kernel_rfl
 i2:=by kernel_rfl
 i3:=by kernel_rfl
 i4:=by kernel_rfl
 i5:=by kernel_rfl
 i9:=by kernel_rfl
 i20:=by kernel_rfl
 i37:=by kernel_rfl
 i46:=by kernel_rfl
 i51:=by kernel_rfl
 i53:=by kernel_rfl
 i171:=by kernel_rfl
 i173:=by kernel_rfl
 i212:=by kernel_rfl
 i232:=by kernel_rfl
 i233:=by kernel_rfl
 m17:=by kernel_rfl
 m18:=by kernel_rfl
 m19:=by kernel_rfl}
def Tryz.oD:Go.Shelf.Ren:=⟨fun | 173=>91 | 246=>41 | 283=>70 | 284=>71 | 285=>72 | 286=>73 | 129=>119 | 317=>118 | 318=>120 | 319=>121 | 320=>122 | 337=>181 | 338=>182 | n=>n,fun | 2=>2 | 3=>3 | 9=>9 | 4=>4 | 171=>149 | 0=>0 | 53=>150 | 37=>39 | 5=>5 | 173=>153 | 212=>233 | 51=>234 | 20=>20 | 213=>235 | 46=>237 | 232=>414 | 233=>415 | n=>n,fun | 17=>4 | 18=>11 | 19=>12 | n=>n⟩
theorem Tryz.lays173:Go.Proofs.LaysM.n173 Tryz.prog Tryz.oD:={
 mixed:=by kernel_rfl
 f129:=Tryz.func119.trans (eM some (by kernel_rfl))
 f173:=Tryz.func91.trans (eM some (by kernel_rfl))
 f246:=Tryz.func41.trans (eM some (by kernel_rfl))
 f283:=Tryz.func70.trans (eM some (by kernel_rfl))
 f284:=Tryz.func71.trans (eM some (by kernel_rfl))
 f285:=Tryz.func72.trans (eM some (by kernel_rfl))
 f286:=Tryz.func73.trans (eM some (by kernel_rfl))
 f317:=Tryz.func118.trans (eM some (by kernel_rfl))
 f318:=Tryz.func120.trans (eM some (by kernel_rfl))
 f319:=Tryz.func121.trans (eM some (by kernel_rfl))
 f320:=Tryz.func122.trans (eM some (by kernel_rfl))
 f337:=Tryz.func181.trans (eM some (by kernel_rfl))
 f338:=Tryz.func182.trans (eM some (by kernel_rfl))
 t0:=Tryz.underlying0
 a0:=Tryz.isAgg0
 z0:=Tryz.sizeOf0
 v0:=Tryz.zeroValue0
 t2:=Tryz.underlying2
 a2:=Tryz.isAgg2
 z2:=Tryz.sizeOf2
 v2:=Tryz.zeroValue2
 t3:=Tryz.underlying3
 a3:=Tryz.isAgg3
 z3:=Tryz.sizeOf3
 v3:=Tryz.zeroValue3
 t4:=Tryz.underlying4
 a4:=Tryz.isAgg4
 z4:=Tryz.sizeOf4
 v4:=Tryz.zeroValue4
 t5:=Tryz.underlying5
 a5:=Tryz.isAgg5
 z5:=Tryz.sizeOf5
 v5:=Tryz.zeroValue5
 t9:=Tryz.underlying9
 a9:=Tryz.isAgg9
 z9:=Tryz.sizeOf9
 v9:=Tryz.zeroValue9
 t20:=Tryz.underlying20
 a20:=Tryz.isAgg20
 z20:=Tryz.sizeOf20
 v20:=Tryz.zeroValue20
 t37:=Tryz.underlying39
 a37:=Tryz.isAgg39
 z37:=Tryz.sizeOf39
 v37:=Tryz.zeroValue39
 t46:=Tryz.underlying237
 a46:=Tryz.isAgg237
 z46:=Tryz.sizeOf237
 v46:=Tryz.zeroValue237
 t51:=Tryz.underlying234
 a51:=Tryz.isAgg234
 z51:=Tryz.sizeOf234
 v51:=Tryz.zeroValue234
 t53:=Tryz.underlying150
 a53:=Tryz.isAgg150
 z53:=Tryz.sizeOf150
 v53:=Tryz.zeroValue150
 t171:=Tryz.underlying149
 a171:=Tryz.isAgg149
 z171:=Tryz.sizeOf149
 v171:=Tryz.zeroValue149
 t173:=Tryz.underlying153
 a173:=Tryz.isAgg153
 z173:=Tryz.sizeOf153
 v173:=Tryz.zeroValue153
 t212:=Tryz.underlying233
 a212:=Tryz.isAgg233
 z212:=Tryz.sizeOf233
 v212:=Tryz.zeroValue233
 t213:=Tryz.underlying235
 a213:=Tryz.isAgg235
 z213:=Tryz.sizeOf235
 t232:=Tryz.underlying414
 a232:=Tryz.isAgg414
 z232:=Tryz.sizeOf414
 v232:=Tryz.zeroValue414
 t233:=Tryz.underlying415
 a233:=Tryz.isAgg415
 z233:=Tryz.sizeOf415
 v233:=Tryz.zeroValue415
 g17:=by kernel_rfl
 g18:=by kernel_rfl
 g19:=by kernel_rfl
 i0:=by kernel_rfl
 i2:=by kernel_rfl
 i3:=by kernel_rfl
 i4:=by kernel_rfl
 i5:=by kernel_rfl
 i9:=by kernel_rfl
 i20:=by kernel_rfl
 i37:=by kernel_rfl
 i46:=by kernel_rfl
 i51:=by kernel_rfl
 i53:=by kernel_rfl
 i171:=by kernel_rfl
 i173:=by kernel_rfl
 i212:=by kernel_rfl
 i232:=by kernel_rfl
 i233:=by kernel_rfl
 m17:=by kernel_rfl
 m18:=by kernel_rfl
 m19:=by kernel_rfl}
def Tryz.lU:Go.Shelf.Ren:=⟨fun | 154=>177 | 138=>238 | 165=>199 | 143=>239 | 166=>130 | 197=>125 | 169=>75 | 195=>283 | 218=>284 | 240=>123 | 241=>256 | 219=>285 | 260=>184 | 276=>183 | 277=>298 | 217=>295 | 225=>248 | 224=>247 | 267=>339 | 266=>342 | 314=>375 | n=>n,fun | 9=>9 | 3=>3 | 4=>4 | 72=>158 | 0=>0 | 76=>161 | 105=>241 | 21=>21 | 5=>5 | 70=>156 | 20=>20 | 37=>39 | 75=>37 | 127=>239 | 164=>174 | 46=>237 | 119=>340 | 139=>343 | 138=>342 | 146=>585 | 51=>234 | 80=>52 | n=>n,fun | 1=>17 | 3=>6 | 4=>7 | n=>n⟩
theorem Tryz.lays154:Go.Proofs.Lays.n154 Tryz.prog Tryz.lU:={
 mixed:=by kernel_rfl
 f138:=Tryz.func238.trans (eM some (by kernel_rfl))
 f143:=Tryz.func239.trans (eM some (by kernel_rfl))
 f154:=Tryz.func177.trans (eM some (by kernel_rfl))
 f165:=Tryz.func199.trans (eM some (by kernel_rfl))
 f166:=Tryz.func130.trans (eM some (by kernel_rfl))
 f169:=Tryz.func75.trans (eM some (by kernel_rfl))
 f195:=Tryz.func283.trans (eM some (by kernel_rfl))
 f197:=Tryz.func125.trans (eM some (by kernel_rfl))
 f217:=Tryz.func295.trans (eM some (by kernel_rfl))
 f218:=Tryz.func284.trans (eM some (by kernel_rfl))
 f219:=Tryz.func285.trans (eM some (by kernel_rfl))
 f224:=Tryz.func247.trans (eM some (by kernel_rfl))
 f225:=Tryz.func248.trans (eM some (by kernel_rfl))
 f240:=Tryz.func123.trans (eM some (by kernel_rfl))
 f241:=Tryz.func256.trans (eM some (by kernel_rfl))
 f260:=Tryz.func184.trans (eM some (by kernel_rfl))
 f266:=Tryz.func342.trans (eM some (by kernel_rfl))
 f267:=Tryz.func339.trans (eM some (by kernel_rfl))
 f276:=Tryz.func183.trans (eM some (by kernel_rfl))
 f277:=Tryz.func298.trans (eM some (by kernel_rfl))
 f314:=Tryz.func375.trans (eM some (by kernel_rfl))
 t0:=Tryz.underlying0
 a0:=Tryz.isAgg0
 z0:=Tryz.sizeOf0
 v0:=Tryz.zeroValue0
 t3:=Tryz.underlying3
 a3:=Tryz.isAgg3
 z3:=Tryz.sizeOf3
 v3:=Tryz.zeroValue3
 t4:=Tryz.underlying4
 a4:=Tryz.isAgg4
 z4:=Tryz.sizeOf4
 v4:=Tryz.zeroValue4
 t5:=Tryz.underlying5
 a5:=Tryz.isAgg5
 z5:=Tryz.sizeOf5
 v5:=Tryz.zeroValue5
 t9:=Tryz.underlying9
 a9:=Tryz.isAgg9
 z9:=Tryz.sizeOf9
 v9:=Tryz.zeroValue9
 t20:=Tryz.underlying20
 a20:=Tryz.isAgg20
 z20:=Tryz.sizeOf20
 v20:=Tryz.zeroValue20
 t21:=Tryz.underlying21
 a21:=Tryz.isAgg21
 z21:=Tryz.sizeOf21
 v21:=Tryz.zeroValue21
 t37:=Tryz.underlying39
 a37:=Tryz.isAgg39
 z37:=Tryz.sizeOf39
 v37:=Tryz.zeroValue39
 t46:=Tryz.underlying237
 a46:=Tryz.isAgg237
 z46:=Tryz.sizeOf237
 v46:=Tryz.zeroValue237
 t51:=Tryz.underlying234
 a51:=Tryz.isAgg234
 z51:=Tryz.sizeOf234
 v51:=Tryz.zeroValue234
 t70:=Tryz.underlying156
 a70:=Tryz.isAgg156
 z70:=Tryz.sizeOf156
 v70:=Tryz.zeroValue156
 t72:=Tryz.underlying158
 a72:=Tryz.isAgg158
 z72:=Tryz.sizeOf158
 v72:=Tryz.zeroValue158
 t75:=Tryz.underlying37
 a75:=Tryz.isAgg37
 z75:=Tryz.sizeOf37
 v75:=Tryz.zeroValue37
 t76:=Tryz.underlying161
 a76:=Tryz.isAgg161
 z76:=Tryz.sizeOf161
 v76:=Tryz.zeroValue161
 t105:=Tryz.underlying241
 a105:=Tryz.isAgg241
 z105:=Tryz.sizeOf241
 v105:=Tryz.zeroValue241
 t119:=Tryz.underlying340
 a119:=Tryz.isAgg340
 z119:=Tryz.sizeOf340
 t127:=Tryz.underlying239
 a127:=Tryz.isAgg239
 z127:=Tryz.sizeOf239
 v127:=Tryz.zeroValue239
 t138:=Tryz.underlying342
 a138:=Tryz.isAgg342
 z138:=Tryz.sizeOf342
 v138:=Tryz.zeroValue342
 t139:=Tryz.underlying343
 a139:=Tryz.isAgg343
 z139:=Tryz.sizeOf343
 v139:=Tryz.zeroValue343
 t146:=Tryz.underlying585
 a146:=Tryz.isAgg585
 z146:=Tryz.sizeOf585
 v146:=Tryz.zeroValue585
 t164:=Tryz.underlying174
 a164:=Tryz.isAgg174
 z164:=Tryz.sizeOf174
 v164:=Tryz.zeroValue174
 g1:=by kernel_rfl
 g3:=by kernel_rfl
 g4:=by kernel_rfl}
def Tryz.lV:Go.Shelf.Ren:=⟨fun | 156=>144 | 165=>199 | 166=>130 | 169=>75 | 240=>123 | 241=>256 | 276=>183 | 277=>298 | n=>n,fun | 31=>54 | 9=>9 | 3=>3 | 4=>4 | 0=>0 | 20=>20 | 72=>158 | 76=>161 | 70=>156 | 37=>39 | 75=>37 | 127=>239 | 164=>174 | 5=>5 | 80=>52 | n=>n,fun | n=>n⟩
theorem Tryz.lays156:Go.Proofs.Lays.n156 Tryz.prog Tryz.lV:={
 mixed:=by kernel_rfl
 f156:=Tryz.func144.trans (eM some (by kernel_rfl))
 f165:=Tryz.func199.trans (eM some (by kernel_rfl))
 f166:=Tryz.func130.trans (eM some (by kernel_rfl))
 f169:=Tryz.func75.trans (eM some (by kernel_rfl))
 f240:=Tryz.func123.trans (eM some (by kernel_rfl))
 f241:=Tryz.func256.trans (eM some (by kernel_rfl))
 f276:=Tryz.func183.trans (eM some (by kernel_rfl))
 f277:=Tryz.func298.trans (eM some (by kernel_rfl))
 t0:=Tryz.underlying0
 a0:=Tryz.isAgg0
 z0:=Tryz.sizeOf0
 v0:=Tryz.zeroValue0
 t3:=Tryz.underlying3
 a3:=Tryz.isAgg3
 z3:=Tryz.sizeOf3
 v3:=Tryz.zeroValue3
 t4:=Tryz.underlying4
 a4:=Tryz.isAgg4
 z4:=Tryz.sizeOf4
 v4:=Tryz.zeroValue4
 t9:=Tryz.underlying9
 a9:=Tryz.isAgg9
 z9:=Tryz.sizeOf9
 v9:=Tryz.zeroValue9
 t20:=Tryz.underlying20
 a20:=Tryz.isAgg20
 z20:=Tryz.sizeOf20
 v20:=Tryz.zeroValue20
 t31:=Tryz.underlying54
 a31:=Tryz.isAgg54
 z31:=Tryz.sizeOf54
 v31:=Tryz.zeroValue54
 t37:=Tryz.underlying39
 a37:=Tryz.isAgg39
 z37:=Tryz.sizeOf39
 v37:=Tryz.zeroValue39
 t70:=Tryz.underlying156
 a70:=Tryz.isAgg156
 z70:=Tryz.sizeOf156
 v70:=Tryz.zeroValue156
 t72:=Tryz.underlying158
 a72:=Tryz.isAgg158
 z72:=Tryz.sizeOf158
 v72:=Tryz.zeroValue158
 t75:=Tryz.underlying37
 a75:=Tryz.isAgg37
 z75:=Tryz.sizeOf37
 v75:=Tryz.zeroValue37
 t76:=Tryz.underlying161
 a76:=Tryz.isAgg161
 z76:=Tryz.sizeOf161
 v76:=Tryz.zeroValue161
 t127:=Tryz.underlying239
 a127:=Tryz.isAgg239
 z127:=Tryz.sizeOf239
 v127:=Tryz.zeroValue239
 t164:=Tryz.underlying174
 a164:=Tryz.isAgg174
 z164:=Tryz.sizeOf174
 v164:=Tryz.zeroValue174}
def Tryz.oE:Go.Shelf.Ren:=⟨fun | 138=>238 | 195=>283 | 218=>284 | 143=>239 | 219=>285 | 217=>295 | 225=>248 | 224=>247 | 267=>339 | 266=>342 | 314=>375 | n=>n,fun | 9=>9 | 3=>3 | 4=>4 | 5=>5 | 0=>0 | 46=>237 | 146=>585 | 51=>234 | n=>n,fun | 1=>17 | n=>n⟩
theorem Tryz.lays138:Go.Proofs.Lays.n138 Tryz.prog Tryz.oE:={
 mixed:=by kernel_rfl
 f138:=Tryz.func238.trans (eM some (by kernel_rfl))
 f143:=Tryz.func239.trans (eM some (by kernel_rfl))
 f195:=Tryz.func283.trans (eM some (by kernel_rfl))
 f217:=Tryz.func295.trans (eM some (by kernel_rfl))
 f218:=Tryz.func284.trans (eM some (by kernel_rfl))
 f219:=Tryz.func285.trans (eM some (by kernel_rfl))
 f224:=Tryz.func247.trans (eM some (by kernel_rfl))
 f225:=Tryz.func248.trans (eM some (by kernel_rfl))
 f266:=Tryz.func342.trans (eM some (by kernel_rfl))
 f267:=Tryz.func339.trans (eM some (by kernel_rfl))
 f314:=Tryz.func375.trans (eM some (by kernel_rfl))
 t0:=Tryz.underlying0
 a0:=Tryz.isAgg0
 z0:=Tryz.sizeOf0
 v0:=Tryz.zeroValue0
 t3:=Tryz.underlying3
 a3:=Tryz.isAgg3
 z3:=Tryz.sizeOf3
 v3:=Tryz.zeroValue3
 t4:=Tryz.underlying4
 a4:=Tryz.isAgg4
 z4:=Tryz.sizeOf4
 v4:=Tryz.zeroValue4
 t5:=Tryz.underlying5
 a5:=Tryz.isAgg5
 z5:=Tryz.sizeOf5
 v5:=Tryz.zeroValue5
 t9:=Tryz.underlying9
 a9:=Tryz.isAgg9
 z9:=Tryz.sizeOf9
 v9:=Tryz.zeroValue9
 t46:=Tryz.underlying237
 a46:=Tryz.isAgg237
 z46:=Tryz.sizeOf237
 v46:=Tryz.zeroValue237
 t51:=Tryz.underlying234
 a51:=Tryz.isAgg234
 z51:=Tryz.sizeOf234
 v51:=Tryz.zeroValue234
 t146:=Tryz.underlying585
 a146:=Tryz.isAgg585
 z146:=Tryz.sizeOf585
 v146:=Tryz.zeroValue585
 g1:=by kernel_rfl}
def Tryz.oG:Go.Shelf.Ren:=⟨fun | 219=>285 | 217=>295 | 225=>248 | 224=>247 | 267=>339 | 266=>342 | 314=>375 | n=>n,fun | 9=>9 | 3=>3 | 4=>4 | 5=>5 | 46=>237 | 146=>585 | 51=>234 | n=>n,fun | 1=>17 | n=>n⟩
theorem Tryz.lays219:Go.Proofs.Lays.n219 Tryz.prog Tryz.oG:={
 mixed:=by kernel_rfl
 f217:=Tryz.func295.trans (eM some (by kernel_rfl))
 f219:=Tryz.func285.trans (eM some (by kernel_rfl))
 f224:=Tryz.func247.trans (eM some (by kernel_rfl))
 f225:=Tryz.func248.trans (eM some (by kernel_rfl))
 f266:=Tryz.func342.trans (eM some (by kernel_rfl))
 f267:=Tryz.func339.trans (eM some (by kernel_rfl))
 f314:=Tryz.func375.trans (eM some (by kernel_rfl))
 t3:=Tryz.underlying3
 a3:=Tryz.isAgg3
 z3:=Tryz.sizeOf3
 v3:=Tryz.zeroValue3
 t4:=Tryz.underlying4
 a4:=Tryz.isAgg4
 z4:=Tryz.sizeOf4
 v4:=Tryz.zeroValue4
 t5:=Tryz.underlying5
 a5:=Tryz.isAgg5
 z5:=Tryz.sizeOf5
 v5:=Tryz.zeroValue5
 t9:=Tryz.underlying9
 a9:=Tryz.isAgg9
 z9:=Tryz.sizeOf9
 v9:=Tryz.zeroValue9
 t46:=Tryz.underlying237
 a46:=Tryz.isAgg237
 z46:=Tryz.sizeOf237
 v46:=Tryz.zeroValue237
 t51:=Tryz.underlying234
 a51:=Tryz.isAgg234
 z51:=Tryz.sizeOf234
 v51:=Tryz.zeroValue234
 t146:=Tryz.underlying585
 a146:=Tryz.isAgg585
 z146:=Tryz.sizeOf585
 v146:=Tryz.zeroValue585
 g1:=by kernel_rfl}
def Tryz.oH:Go.Shelf.Ren:=⟨fun | 174=>84 | 247=>133 | 245=>134 | 287=>191 | 279=>192 | 280=>193 | 281=>194 | 282=>195 | 321=>251 | 322=>252 | 316=>253 | 171=>13 | 205=>254 | 243=>24 | 246=>41 | 283=>70 | 284=>71 | 285=>72 | 286=>73 | 129=>119 | 317=>118 | 318=>120 | 319=>121 | 320=>122 | 337=>181 | 338=>182 | n=>n,fun | 9=>9 | 3=>3 | 2=>2 | 75=>37 | 85=>172 | 4=>4 | 167=>333 | 5=>5 | 53=>150 | 175=>334 | 46=>237 | 168=>336 | 37=>39 | 0=>0 | 210=>424 | 21=>21 | 127=>239 | 145=>491 | 143=>489 | 171=>149 | 173=>153 | 212=>233 | 51=>234 | 20=>20 | 213=>235 | 232=>414 | 233=>415 | 80=>52 | n=>n,fun | 15=>13 | 16=>14 | 17=>4 | 18=>11 | 19=>12 | n=>n⟩
theorem Tryz.pO:Go.Proofs.LaysC.n174 Tryz.prog Tryz.oH:={
 mixed:=by kernel_rfl
 f129:=Tryz.func119.trans (eM some (by kernel_rfl))
 f171:=Tryz.func13.trans (eM some (by kernel_rfl))
 f174:=Tryz.func84.trans (eM some (by kernel_rfl))
 f205:=Tryz.func254.trans (eM some (by kernel_rfl))
 f243:=Tryz.func24.trans (eM some (by kernel_rfl))
 f245:=Tryz.func134.trans (eM some (by kernel_rfl))
 f246:=Tryz.func41.trans (eM some (by kernel_rfl))
 f247:=Tryz.func133.trans (eM some (by kernel_rfl))
 f279:=Tryz.func192.trans (eM some (by kernel_rfl))
 f280:=Tryz.func193.trans (eM some (by kernel_rfl))
 f281:=Tryz.func194.trans (eM some (by kernel_rfl))
 f282:=Tryz.func195.trans (eM some (by kernel_rfl))
 f283:=Tryz.func70.trans (eM some (by kernel_rfl))
 f284:=Tryz.func71.trans (eM some (by kernel_rfl))
 f285:=Tryz.func72.trans (eM some (by kernel_rfl))
 f286:=Tryz.func73.trans (eM some (by kernel_rfl))
 f287:=Tryz.func191.trans (eM some (by kernel_rfl))
 f316:=Tryz.func253.trans (eM some (by kernel_rfl))
 f317:=Tryz.func118.trans (eM some (by kernel_rfl))
 f318:=Tryz.func120.trans (eM some (by kernel_rfl))
 f319:=Tryz.func121.trans (eM some (by kernel_rfl))
 f320:=Tryz.func122.trans (eM some (by kernel_rfl))
 f321:=Tryz.func251.trans (eM some (by kernel_rfl))
 f322:=Tryz.func252.trans (eM some (by kernel_rfl))
 f337:=Tryz.func181.trans (eM some (by kernel_rfl))
 f338:=Tryz.func182.trans (eM some (by kernel_rfl))
 t0:=Tryz.underlying0
 a0:=Tryz.isAgg0
 z0:=Tryz.sizeOf0
 v0:=Tryz.zeroValue0
 t2:=Tryz.underlying2
 a2:=Tryz.isAgg2
 z2:=Tryz.sizeOf2
 v2:=Tryz.zeroValue2
 t3:=Tryz.underlying3
 a3:=Tryz.isAgg3
 z3:=Tryz.sizeOf3
 v3:=Tryz.zeroValue3
 t4:=Tryz.underlying4
 a4:=Tryz.isAgg4
 z4:=Tryz.sizeOf4
 v4:=Tryz.zeroValue4
 t5:=Tryz.underlying5
 a5:=Tryz.isAgg5
 z5:=Tryz.sizeOf5
 v5:=Tryz.zeroValue5
 t9:=Tryz.underlying9
 a9:=Tryz.isAgg9
 z9:=Tryz.sizeOf9
 v9:=Tryz.zeroValue9
 t20:=Tryz.underlying20
 a20:=Tryz.isAgg20
 z20:=Tryz.sizeOf20
 v20:=Tryz.zeroValue20
 t21:=Tryz.underlying21
 a21:=Tryz.isAgg21
 z21:=Tryz.sizeOf21
 v21:=Tryz.zeroValue21
 t37:=Tryz.underlying39
 a37:=Tryz.isAgg39
 z37:=Tryz.sizeOf39
 v37:=Tryz.zeroValue39
 t46:=Tryz.underlying237
 a46:=Tryz.isAgg237
 z46:=Tryz.sizeOf237
 v46:=Tryz.zeroValue237
 t51:=Tryz.underlying234
 a51:=Tryz.isAgg234
 z51:=Tryz.sizeOf234
 v51:=Tryz.zeroValue234
 t53:=Tryz.underlying150
 a53:=Tryz.isAgg150
 z53:=Tryz.sizeOf150
 v53:=Tryz.zeroValue150
 t75:=Tryz.underlying37
 a75:=Tryz.isAgg37
 z75:=Tryz.sizeOf37
 v75:=Tryz.zeroValue37
 t85:=Tryz.underlying172
 a85:=Tryz.isAgg172
 z85:=Tryz.sizeOf172
 v85:=Tryz.zeroValue172
 t127:=Tryz.underlying239
 a127:=Tryz.isAgg239
 z127:=Tryz.sizeOf239
 v127:=Tryz.zeroValue239
 t143:=Tryz.underlying489
 a143:=Tryz.isAgg489
 z143:=Tryz.sizeOf489
 v143:=Tryz.zeroValue489
 t145:=Tryz.underlying491
 a145:=Tryz.isAgg491
 z145:=Tryz.sizeOf491
 v145:=Tryz.zeroValue491
 t167:=Tryz.underlying333
 a167:=Tryz.isAgg333
 z167:=Tryz.sizeOf333
 v167:=Tryz.zeroValue333
 t168:=Tryz.underlying336
 a168:=Tryz.isAgg336
 z168:=Tryz.sizeOf336
 v168:=Tryz.zeroValue336
 t171:=Tryz.underlying149
 a171:=Tryz.isAgg149
 z171:=Tryz.sizeOf149
 v171:=Tryz.zeroValue149
 t173:=Tryz.underlying153
 a173:=Tryz.isAgg153
 z173:=Tryz.sizeOf153
 v173:=Tryz.zeroValue153
 t175:=Tryz.underlying334
 a175:=Tryz.isAgg334
 z175:=Tryz.sizeOf334
 v175:=Tryz.zeroValue334
 t210:=Tryz.underlying424
 a210:=Tryz.isAgg424
 z210:=Tryz.sizeOf424
 v210:=Tryz.zeroValue424
 t212:=Tryz.underlying233
 a212:=Tryz.isAgg233
 z212:=Tryz.sizeOf233
 v212:=Tryz.zeroValue233
 t213:=Tryz.underlying235
 a213:=Tryz.isAgg235
 z213:=Tryz.sizeOf235
 t232:=Tryz.underlying414
 a232:=Tryz.isAgg414
 z232:=Tryz.sizeOf414
 v232:=Tryz.zeroValue414
 t233:=Tryz.underlying415
 a233:=Tryz.isAgg415
 z233:=Tryz.sizeOf415
 v233:=Tryz.zeroValue415
 g15:=by kernel_rfl
 g16:=by kernel_rfl
 g17:=by kernel_rfl
 g18:=by kernel_rfl
 g19:=by kernel_rfl
 t80:=Tryz.underlying52
 a80:=Tryz.isAgg52
 z80:=Tryz.sizeOf52
 v80:=Tryz.zeroValue52
 i0:=by kernel_rfl
 i2:=by kernel_rfl
 i3:=by kernel_rfl
 i4:=by kernel_rfl
 i5:=by kernel_rfl
 i9:=by kernel_rfl
 i20:=by kernel_rfl
 i21:=by kernel_rfl
 i37:=by kernel_rfl
 i46:=by kernel_rfl
 i51:=by kernel_rfl
 i53:=by kernel_rfl
 i75:=by kernel_rfl
 i80:=by kernel_rfl
 i85:=by kernel_rfl
 i127:=by kernel_rfl
 i143:=by kernel_rfl
 i145:=by kernel_rfl
 i167:=by kernel_rfl
 i168:=by kernel_rfl
 i171:=by kernel_rfl
 i173:=by kernel_rfl
 i175:=by kernel_rfl
 i210:=by kernel_rfl
 i212:=by kernel_rfl
 i232:=by kernel_rfl
 i233:=by kernel_rfl
 m15:=by kernel_rfl
 m16:=by kernel_rfl
 m17:=by kernel_rfl
 m18:=by kernel_rfl
 m19:=by kernel_rfl
 c0:=by kernel_rfl
 c2:=by kernel_rfl
 c3:=by kernel_rfl
 c4:=by kernel_rfl
 c5:=by kernel_rfl
 c9:=by kernel_rfl
 c20:=by kernel_rfl
 c21:=by kernel_rfl
 c37:=by kernel_rfl
 c46:=by kernel_rfl
 c51:=by kernel_rfl
 c53:=by kernel_rfl
 c75:=by kernel_rfl
 c80:=by kernel_rfl
 c85:=by kernel_rfl
 c127:=by kernel_rfl
 c143:=by kernel_rfl
 c145:=by kernel_rfl
 c167:=by kernel_rfl
 c168:=by kernel_rfl
 c171:=by kernel_rfl
 c173:=by kernel_rfl
 c175:=by kernel_rfl
 c210:=by kernel_rfl
 c212:=by kernel_rfl
 c213:=by kernel_rfl
 c232:=by kernel_rfl
 c233:=by kernel_rfl}
theorem Tryz.extraR:Builder.Extra Tryz.prog Tryz.lU where
 sizeBuilder:=by kernel_rfl
 liesBuilder:=by kernel_rfl
 t5:=Tryz.underlying5
 a5:=Tryz.isAgg5
 z5:=Tryz.sizeOf5
 v5:=Tryz.zeroValue5
 infoByte:=by kernel_rfl
 cellsByte:=by kernel_rfl
 sizeByte:=by kernel_rfl
 neB5:=by decide
theorem Tryz.extra:Builder.Extra Tryz.prog Tryz.lV where
 sizeBuilder:=by kernel_rfl
 liesBuilder:=by kernel_rfl
 t5:=Tryz.underlying5
 a5:=Tryz.isAgg5
 z5:=Tryz.sizeOf5
 v5:=Tryz.zeroValue5
 infoByte:=by kernel_rfl
 cellsByte:=by kernel_rfl
 sizeByte:=by kernel_rfl
 neB5:=by decide
namespace kI
theorem yj (s lu new:ByteArray) (n m:Int) (w:eS) (hs:s.size < 4294967281) (hm:w.cell? ⟨17,0,none⟩=some (.int .i64 m)) (U:1<=lu.size) (hlen:s.size+Lib.countB s lu*new.size<=140737488355328) :
  Calls Tryz.prog 177 #[.string s,.string lu,.string new,.int .i64 n] w fun e w'=>e=.returned (.string ⟨(Lib.replace s.data.toList lu.data.toList new.data.toList n).toArray⟩)/\Below w.heap.size w w' :=
 Any.strings_Replace Tryz.lays154 Tryz.extraR s lu new n m w hs hm U hlen
theorem fmt_run (n:Int) (h0 : -9223372036854775808<=n) (U:n<=9223372036854775807) (w:eS) (ht:Lib.TabIs Tryz.prog w "internal/strconv.uint64pow10" .u64 Lib.pow10Tab) :
  Calls Tryz.prog 91 #[.int .i64 n,.int .i64 10] w fun e w'=>e=.returned (.string ⟨(Lib.itoa n).toArray⟩)/\∃ k os,w'=grow (w.drewN k) os :=
 Any.strconv_FormatInt_10 Tryz.lays173 n h0 U w ht
theorem yk (n:Int) (h0 : -9223372036854775808<=n) (U:n<=9223372036854775807) (w:eS) (ht:Lib.TabIs Tryz.prog w "internal/strconv.uint64pow10" .u64 Lib.pow10Tab) :
  Calls Tryz.prog 13 #[.int .i64 n] w fun e w'=>e=.returned (.string ⟨(Lib.itoa n).toArray⟩)/\∃ k os,w'=grow (w.drewN k) os :=
 Any.strconv_Itoa Tryz.lays171 n h0 U w ht
set_option maxHeartbeats 1000000 in
set_option maxRecDepth 100000 in
theorem rX (s:ByteArray) (c:Int) (w:eS) :
  Calls Tryz.prog 295 #[.string s,.int .u8 c] w fun e w'=>e=.returned (.int .i64 (Lib.indexByte s.data.toList c.toNat.toUInt8))/\w'=w:=by
 go_enter Tryz.func295,Tryz.ntmps295
 go_wp2
 rw[run_callFunc_extern Tryz.func342 (by kernel_rfl) (by kernel_rfl) (by kernel_rfl) (e:=Extern.BytealgIndexByte.indexByte) (by kernel_rfl),Lib.run_indexByteString];simp only[Result.andThen];rw[Oper.upon_value]
 go_wp2
 go_ret
 exact⟨rfl,rfl⟩
theorem ym (bk o c:Nat) (Z:List ByteArray) (sep:ByteArray) (w:eS)
  (mc:∀ (j:Nat) x,Z[j]?=some x->w.cell? ⟨bk,o+j,none⟩=some (.string x)) (hbk:bk < w.heap.size) (hN:Z.length<=140737488355328) (kY:Z.length<=c)
  (hlen:(Lib.join (Z.map (·.data.toList)) sep.data.toList).length<=140737488355328) :
  Calls Tryz.prog 144 #[.slice (some ⟨bk,o,none⟩) Z.length c,.string sep] w fun e w'=>e=.returned (.string ⟨(Lib.join (Z.map (·.data.toList)) sep.data.toList).toArray⟩)/\Below w.heap.size w w' :=
 Any.strings_Join Tryz.lays156 Tryz.extra bk o c Z sep w mc hbk hN kY hlen
theorem rY (s sub:ByteArray) (m:Int) (w:eS) (hs:s.size < 4294967281) (hm:w.cell? ⟨17,0,none⟩=some (.int .i64 m)) (O:2<=sub.size) :
  Calls Tryz.prog 238 #[.string s,.string sub] w fun e w'=>e=.returned (.int .i64 (Lib.countB s sub))/\w'=w :=
 Any.strings_Count Tryz.lays138 s sub m w hs hm O
theorem idx_run (s sub:ByteArray) (m:Int) (w:eS) (hs:s.size < 4294967281) (hm:w.cell? ⟨17,0,none⟩=some (.int .i64 m)) :
  Calls Tryz.prog 285 #[.string s,.string sub] w fun e w'=>e=.returned (.int .i64 (Lib.index s.data.toList sub.data.toList))/\w'=w :=
 Any.stringslite_Index Tryz.lays219 s sub m w hs hm
theorem yn (te:eY) (pe:eT) (w:eS) (hv:w.cell? ⟨13,0,none⟩=some (.iface te pe)) :
  Calls Tryz.prog 84 #[.string ⟨#[]⟩,.int .i64 10,.int .i64 64] w fun e w'=>(∃ v,e=.returned (.tuple #[.int .i64 0,.iface 336 v]))/\Go.Ab.ie w w':=by
 refine (Any.strconv_ParseInt_10_at64_syntax Tryz.pO ⟨#[]⟩ (by decide) rfl (.iface te pe) w hv (.inr ⟨te,pe,rfl⟩)).mono ?_;rintro e w' ⟨N,rfl,_,_,hb⟩;exact⟨⟨_,rfl⟩,Go.Ab.gG hb⟩
theorem int_ok (s:ByteArray) (v:Int) (w:eS) (hs:s.size<=65536) (h:Lib.parseIntB 64 s.data.toList=.ok v) :
  Calls Tryz.prog 84 #[.string s,.int .i64 10,.int .i64 64] w fun e w'=>e=.returned (.tuple #[.int .i64 v,.nilIface])/\Go.Ab.ie w w':=by
 refine (Any.strconv_ParseInt_10_at64_ok Tryz.pO s (by omega) v h w).mono ?_;rintro e w' ⟨rfl,hw⟩;refine⟨rfl,?_⟩;rcases hw with rfl | ⟨t,rfl⟩;{exact Go.Ab.gy _};{exact Go.Ab.gG (Lib.bytesWorld_below _ _ _)}
end kI
end Go.Proofs


namespace Go.Proofs.lW
open Go
abbrev link:Go.Conc.Locks.MuLink:={lock:=449,unlock:=450,ilock:=503,iunlock:=504,lockSlow:=530,unlockSlow:=533,disable:=526,enable:=528,acquire:=529,relMerge:=531,cas32:=527,add32:=532,tIMutex:=500,tMutex:=502,tPMutex:=711,tPIMutex:=734,tPI32:=736,tUP:=174,tNoCopy:=496,tU32:=234}
theorem lib:Go.Conc.Locks.MuLib Tryz.prog link :=
 ⟨Tryz.func449,Tryz.func450,Tryz.func503,Tryz.func504,Tryz.func526,Tryz.func528,Tryz.func529,Tryz.func531,Tryz.func527,Tryz.func532,Tryz.underlying500,Tryz.runUnderlying500,Tryz.sizeOf500,Tryz.isAgg500,Tryz.zeroValue500,Tryz.underlying502,Tryz.runUnderlying502,Tryz.sizeOf502,Tryz.isAgg502,Tryz.zeroValue502,Tryz.underlying711,Tryz.runUnderlying711,Tryz.sizeOf711,Tryz.isAgg711,Tryz.zeroValue711,Tryz.underlying734,Tryz.runUnderlying734,Tryz.sizeOf734,Tryz.isAgg734,Tryz.zeroValue734,Tryz.underlying736,Tryz.runUnderlying736,Tryz.sizeOf736,Tryz.isAgg736,Tryz.zeroValue736,Tryz.underlying174,Tryz.runUnderlying174,Tryz.sizeOf174,Tryz.isAgg174,Tryz.zeroValue174,Tryz.underlying496,Tryz.runUnderlying496,Tryz.sizeOf496,Tryz.isAgg496,Tryz.zeroValue496,Tryz.underlying21,Tryz.runUnderlying21,Tryz.sizeOf21,Tryz.isAgg21,Tryz.zeroValue21,(by kernel_rfl)⟩
theorem load (a:Addr) (y:Int) (w:eS) (h:w.cell? a=some (.int .u32 y)):(callFunc 448 #[.pointer (some a)]).run Tryz.prog w=.ok (.value (.int .u32 y)) w :=
 run_call_load (P:=Tryz.prog) Tryz.func448 (by kernel_rfl) (by kernel_rfl) (by kernel_rfl) .u32 (by kernel_rfl) h
theorem store (a:Addr) (y0 y:Int) (w:eS) (h:w.cell? a=some (.int .u32 y0)) (hz:w.frozen? a=false):(callFunc 505 #[.pointer (some a),.int .u32 y]).run Tryz.prog w=.ok (.value (.tuple #[])) (w.setCell a (.int .u32 y)) :=
 run_call_store (P:=Tryz.prog) Tryz.func505 (by kernel_rfl) (by kernel_rfl) (by kernel_rfl) (by kernel_rfl) h hz
theorem lock (a:Addr) (w:eS) (h:w.cell? a=some (.int .i32 0)) (hz:w.frozen? a=false):Calls Tryz.prog 503 #[.pointer (some a)] w fun e w'=>e=.returned (.tuple #[])/\w'=w.setCell a (.int .i32 1):=Go.MuLone.ilock_free lib a w h hz
theorem unlock (a:Addr) (w:eS) (h:w.cell? a=some (.int .i32 1)) (hz:w.frozen? a=false):Calls Tryz.prog 504 #[.pointer (some a)] w fun e w'=>e=.returned (.tuple #[])/\w'=w.setCell a (.int .i32 0):=Go.MuLone.iunlock_held lib a w h hz
theorem load64 (a:Addr) (y:Int) (w:eS) (h:w.cell? a=some (.int .i64 y)):(callFunc 282 #[.pointer (some a)]).run Tryz.prog w=.ok (.value (.int .i64 y)) w :=
 run_call_load (P:=Tryz.prog) Tryz.func282 (by kernel_rfl) (by kernel_rfl) (by kernel_rfl) .i64 (by kernel_rfl) h
theorem store64 (a:Addr) (y0 y:Int) (w:eS) (h:w.cell? a=some (.int .i64 y0)) (hz:w.frozen? a=false):(callFunc 277 #[.pointer (some a),.int .i64 y]).run Tryz.prog w=.ok (.value (.tuple #[])) (w.setCell a (.int .i64 y)) :=
 run_call_store (P:=Tryz.prog) Tryz.func277 (by kernel_rfl) (by kernel_rfl) (by kernel_rfl) (by kernel_rfl) h hz
theorem sum64 (x y:Int) (w:eS):(Op.intArith .add .i64 x y).run Tryz.prog w=.ok (.int .i64 (IntKind.i64.wrap (x+y))) w:=by kernel_rfl
theorem add (a:Addr) (x d:Int) (w:eS) (h:w.cell? a=some (.int .i64 x)) (hz:w.frozen? a=false):(callFunc 323 #[.pointer (some a),.int .i64 d]).run Tryz.prog w=.ok (.value (.int .i64 (IntKind.i64.wrap (x+d)))) (w.setCell a (.int .i64 (IntKind.i64.wrap (x+d)))) :=
 run_call_add (P:=Tryz.prog) Tryz.func323 (by kernel_rfl) (by kernel_rfl) (by kernel_rfl) .i64 (by kernel_rfl) h hz (sum64 x d w)
end Go.Proofs.lW


namespace Go.Proofs.pd
open Go.RowKit Go.Extern.Stop Go.Stop Go.Extern
variable{E:eY} {P:eX} {W:eS} {c n:Array eT} {v:eT}
theorem as_nil (t:eT) (w:eS) :
  Calls Tryz.prog 50 #[.nilIface,t] w fun e w'=>e=.returned (.bool false)/\w'=w:=by
 go_enter Tryz.func50,Tryz.ntmps50
 go_wp2
 go_ret
 exact⟨rfl,rfl⟩
theorem Tryz.lM (t:Addr) (w:eS):(ReflectliteValue.unpack (.iface 124 (.pointer (some t)))).run Tryz.prog w
  = .ok (.agg #[.pointer (some ⟨23,124,none⟩),.pointer (some ⟨w.heap.size,0,none⟩),.int .u64 150]) (w.alloc (.cells #[.pointer (some t)] 124)):=by kernel_rfl
theorem Tryz.type27 (a:Addr) (w:eS):(ReflectliteValue.methodAny (ReflectliteValue.valueError "reflectlite.Value.Type" 0) (fun t _ _ _=>ReflectliteType.toType t) #[.agg #[.pointer (some ⟨23,124,none⟩),.pointer (some a),.int .u64 150]]).run Tryz.prog w
  = .ok (.iface 139 (.agg #[.pointer (some ⟨23,124,none⟩)])) w:=by kernel_rfl
theorem Tryz.kS (h:eT) (w:eS):(Go.method 874 139 (.agg #[h]) "Kind").run Tryz.prog w=.ok (564,h) w:=by kernel_rfl
theorem Tryz.pf (w:eS):((ReflectliteType.abiMethod fun t=>Functor.map (fun a:Nat=>Value.int IntKind.u8 (a:Int)) (Rtype.kind t)) #[.pointer (some ⟨23,124,none⟩)]).run Tryz.prog w=.ok (.int .u8 22) w:=by kernel_rfl
theorem Tryz.pg (w:eS):((ReflectliteType.abiMethod fun t=>Functor.map (fun a:Nat=>Value.int IntKind.u8 (a:Int)) (Rtype.kind t)) #[.pointer (some ⟨23,122,none⟩)]).run Tryz.prog w=.ok (.int .u8 25) w:=by kernel_rfl
theorem rlm (z:Sem eT) (f:eY->Addr->Nat->Nat->Sem eT) (v:eT) :
  ReflectliteValue.method z f #[v]=(do match <-ReflectliteValue.parts v with | none=>z | some (t,a,fl)=>f t a fl (fl%32)):=rfl
theorem Tryz.lq (a:Addr) (w:eS):(ReflectliteValue.parts (.agg #[.pointer (some ⟨23,124,none⟩),.pointer (some a),.int .u64 150])).run Tryz.prog w=.ok (some (124,a,150)) w:=by kernel_rfl
theorem Tryz.nM (a p:Addr) (W:eS) (ha:W.cell? a=some (.pointer (some p))) :
  (ReflectliteValue.method (ReflectliteValue.valueError "reflectlite.Value.IsNil" 0) ReflectliteValue.isNil #[.agg #[.pointer (some ⟨23,124,none⟩),.pointer (some a),.int .u64 150]]).run Tryz.prog W=.ok (.bool false) W:=by
 rw[rlm];simp only[Sem.run_bind,Tryz.lq,Result.andThen];simp[ReflectliteValue.isNil,loadVar,isAgg,underlying,Tryz.underlying124,ha,Result.andThen]
theorem Tryz.kT (h:eT) (w:eS):(Go.method 874 139 (.agg #[h]) "Elem").run Tryz.prog w=.ok (575,.agg #[h]) w:=by kernel_rfl
theorem Tryz.iY (h:eT) (w:eS):(Go.method 874 139 (.agg #[h]) "Implements").run Tryz.prog w=.ok (576,.agg #[h]) w:=by kernel_rfl
theorem Tryz.iH (h:eT) (w:eS):(Go.method 874 139 (.agg #[h]) "AssignableTo").run Tryz.prog w=.ok (573,.agg #[h]) w:=by kernel_rfl
theorem Tryz.ph (w:eS):(ReflectliteType.method ReflectliteType.elem #[.agg #[.pointer (some ⟨23,124,none⟩)]]).run Tryz.prog w=.ok (.iface 139 (.agg #[.pointer (some ⟨23,122,none⟩)])) w:=by kernel_rfl
theorem Tryz.j3 (w:eS):(ReflectliteType.relation "Implements" ReflectliteType.implements_ #[.agg #[.pointer (some ⟨23,122,none⟩)],.iface 139 (.agg #[.pointer (some ⟨23,37,none⟩)])]).run Tryz.prog w=.ok (.bool true) w:=by kernel_rfl
theorem Tryz.my (v:eT) (w:eS):(ReflectliteType.typeOf #[.iface 122 v]).run Tryz.prog w=.ok (.iface 139 (.agg #[.pointer (some ⟨23,122,none⟩)])) w:=by kernel_rfl
theorem Tryz.j4 (w:eS):(ReflectliteType.relation "AssignableTo" ReflectliteType.assignableTo #[.agg #[.pointer (some ⟨23,122,none⟩)],.iface 139 (.agg #[.pointer (some ⟨23,122,none⟩)])]).run Tryz.prog w=.ok (.bool true) w:=by kernel_rfl
theorem Tryz.mz (w:eS):(Rtype.elem? 124).run Tryz.prog w=.ok (some 122) w:=by kernel_rfl
theorem Tryz.mk25 (p:Addr) (w:eS):(ReflectliteValue.mk 122 p ReflectliteValue.flagAddr).run Tryz.prog w=.ok (.agg #[.pointer (some ⟨23,122,none⟩),.pointer (some p),.int .u64 409]) w:=by kernel_rfl
theorem Tryz.nN (a p:Addr) (W:eS) (ha:W.cell? a=some (.pointer (some p))) :
  (ReflectliteValue.method (ReflectliteValue.valueError "reflectlite.Value.Elem" 0) ReflectliteValue.elem #[.agg #[.pointer (some ⟨23,124,none⟩),.pointer (some a),.int .u64 150]]).run Tryz.prog W
   = .ok (.agg #[.pointer (some ⟨23,122,none⟩),.pointer (some p),.int .u64 409]) W:=by
 rw[rlm];simp only[Sem.run_bind,Tryz.lq,Result.andThen];simp[ReflectliteValue.elem,loadVar,isAgg,underlying,Tryz.underlying124,ha,Result.andThen,Tryz.mz,Tryz.mk25]
theorem rls (v x:eT):ReflectliteValue.set #[v,x]=(do
  let (some (dst,a,fl),some (src,b,_)):=(<-ReflectliteValue.parts v,<-ReflectliteValue.parts x)
   | unsupported (.noEntry "extern/(internal/reflectlite.Value).Set.zeroValue")
  if fl / ReflectliteValue.flagAddr%2==0 then unsupported (.noEntry "extern/(internal/reflectlite.Value).Set.unaddressable")
  let val <-loadVar src b
  if <-Rtype.directlyAssignable dst src then storeVar dst a val
  else if <-Rtype.implements dst src then
   if (<-Rtype.kind src)==20 then
    match val with
    | .nilIface=>unsupported (.noEntry "extern/reflectlite: a nil value of one interface type handed on as a value of another")
    | _=>storeVar dst a val
   else storeVar dst a (.iface src val)
  else panicString ("reflectlite.Set: value of type "++(<-Rtype.spelt src) ++ " is not assignable to type "++(<-Rtype.spelt dst))
  pure (.tuple #[])):=rfl
theorem Tryz.mB (a:Addr) (w:eS):(ReflectliteValue.parts (.agg #[.pointer (some ⟨23,122,none⟩),.pointer (some a),.int .u64 409])).run Tryz.prog w=.ok (some (122,a,409)) w:=by kernel_rfl
theorem Tryz.nO (a:Addr) (w:eS):(ReflectliteValue.parts (.agg #[.pointer (some ⟨23,122,none⟩),.pointer (some a),.int .u64 153])).run Tryz.prog w=.ok (some (122,a,153)) w:=by kernel_rfl
theorem Tryz.mC (w:eS):(Rtype.directlyAssignable 122 122).run Tryz.prog w=.ok true w:=by kernel_rfl
theorem Tryz.pj (w:eS):(sizeOf 122).run Tryz.prog w=.ok 2 w:=by kernel_rfl
theorem storeAt {b i:Nat} (hb:W.heap[b]?=some (.cells c E (0,0))) (hi:i < c.size) (hv:v.oneCell'=true) :
  (store ⟨b,i,none⟩ v).run P W=.ok () (W.setCell ⟨b,i,none⟩ v):=by
 rw[run_store P W _ _ _ hv];have U:W.cell? ⟨b,i,none⟩=some c[i]:=by simp[World.cell?,hb,hi]
 have O:W.frozen? ⟨b,i,none⟩=false:=by simp[World.frozen?,hb]
 simp[U,O]
theorem Tryz.yo (ta b:Nat) (e1 e2 o1 o2:eT) (U:e1.oneCell'=true) (O:e2.oneCell'=true) (W:eS) {E1 E2:eY} (hb:W.heap[b]?=some (.cells #[e1,e2] E1 (0,0))) (ht:W.heap[ta]?=some (.cells #[o1,o2] E2 (0,0))) :
  (ReflectliteValue.set #[.agg #[.pointer (some ⟨23,122,none⟩),.pointer (some ⟨ta,0,none⟩),.int .u64 409],.agg #[.pointer (some ⟨23,122,none⟩),.pointer (some ⟨b,0,none⟩),.int .u64 153]]).run Tryz.prog W
   = .ok (.tuple #[]) ((W.setCell ⟨ta,0,none⟩ e1).setCell ⟨ta,1,none⟩ e2):=by
 rw[rls];simp only[Sem.run_bind,Tryz.mB,Tryz.nO,Result.andThen];have c0:W.cell? ⟨b,0,none⟩=some e1:=by simp[World.cell?,hb]
 have c1:W.cell? ⟨b,1,none⟩=some e2:=by simp[World.cell?,hb]
 have k1:=Go.Ab.ig (o:=0) (n:=e1) ht;have s1:=storeAt (P:=Tryz.prog) (i:=0) ht (by simp) U;have s2:=storeAt (P:=Tryz.prog) (i:=1) k1 (by simp) O;simp[ReflectliteValue.flagAddr,loadVar,Tryz.isAgg122,Tryz.pj,loadCells,loadCellsFrom,c0,c1,Result.andThen,Tryz.mC,storeVar,Value.cells,storeCells,Addr.add,s1,s2]
theorem R2 (v:eT) (w:eS):(ReflectliteValue.unpack (.iface 122 v)).run Tryz.prog w
  = .ok (.agg #[.pointer (some ⟨23,122,none⟩),.pointer (some ⟨w.heap.size,0,none⟩),.int .u64 153]) (w.alloc (.cells v.cells 122)):=by kernel_rfl
theorem Sn (v:eT) (hv:v.cells=n) (w:eS):(ReflectliteValue.unpack (.iface 122 v)).run Tryz.prog w
  = .ok (.agg #[.pointer (some ⟨23,122,none⟩),.pointer (some ⟨w.heap.size,0,none⟩),.int .u64 153]) (w.alloc (.cells n 122)):=by rw[R2,hv]
set_option maxHeartbeats 8000000 in
set_option maxRecDepth 100000 in
theorem pk (v n1 n2:eT) (hv:v.cells=#[n1,n2]) (m1:n1.oneCell'=true) (m2:n2.oneCell'=true) (b:Nat) (o1 o2:eT) (E:eY) (w:eS)
  (hg:w.cell? ⟨3,0,none⟩=some (.iface 139 (.agg #[.pointer (some ⟨23,37,none⟩)]))) (hb:w.heap[b]?=some (.cells #[o1,o2] E (0,0))) :
  Calls Tryz.prog 50 #[.iface 122 v,.iface 124 (.pointer (some ⟨b,0,none⟩))] w fun ev w'=>ev=.returned (.bool true) /\
   ∃ q1 q2 q3 q4,w'=(((((w.alloc q1).alloc q2).alloc q3).alloc q4).setCell ⟨b,0,none⟩ n1).setCell ⟨b,1,none⟩ n2:=by
 have h6:=@run_callFunc_extern Tryz.prog 85 _ (fun args=>ReflectliteValue.unpack (args.getD 0 (.tuple #[]))) Tryz.func85 (by kernel_rfl) (by kernel_rfl) (by kernel_rfl) (by kernel_rfl);have h7:=@run_callFunc_extern Tryz.prog 86 _ (ReflectliteValue.methodAny (ReflectliteValue.valueError "reflectlite.Value.Type" 0) fun t _ _ _=>ReflectliteType.toType t) Tryz.func86 (by kernel_rfl) (by kernel_rfl) (by kernel_rfl) (by kernel_rfl);have h8:=@run_callFunc_extern Tryz.prog 87 _ (ReflectliteValue.method (ReflectliteValue.valueError "reflectlite.Value.IsNil" 0) ReflectliteValue.isNil) Tryz.func87 (by kernel_rfl) (by kernel_rfl) (by kernel_rfl) (by kernel_rfl);have h27:=@run_callFunc_extern Tryz.prog 564 _ (ReflectliteType.abiMethod fun t=>do pure (.int .u8 (<-Rtype.kind t))) Tryz.func564 (by kernel_rfl) (by kernel_rfl) (by kernel_rfl) (by kernel_rfl);have h37:=@run_callFunc_extern Tryz.prog 575 _ (ReflectliteType.method ReflectliteType.elem) Tryz.func575 (by kernel_rfl) (by kernel_rfl) (by kernel_rfl) (by kernel_rfl);have h38:=@run_callFunc_extern Tryz.prog 576 _ (ReflectliteType.relation "Implements" ReflectliteType.implements_) Tryz.func576 (by kernel_rfl) (by kernel_rfl) (by kernel_rfl) (by kernel_rfl);have h10:=@run_callFunc_extern Tryz.prog 39 _ ReflectliteType.typeOf Tryz.func39 (by kernel_rfl) (by kernel_rfl) (by kernel_rfl) (by kernel_rfl);have h35:=@run_callFunc_extern Tryz.prog 573 _ (ReflectliteType.relation "AssignableTo" ReflectliteType.assignableTo) Tryz.func573 (by kernel_rfl) (by kernel_rfl) (by kernel_rfl) (by kernel_rfl);have h11:=@run_callFunc_extern Tryz.prog 135 _ (ReflectliteValue.method (ReflectliteValue.valueError "reflectlite.Value.Elem" 0) ReflectliteValue.elem) Tryz.func135 (by kernel_rfl) (by kernel_rfl) (by kernel_rfl) (by kernel_rfl);have h12:=@run_callFunc_extern Tryz.prog 136 _ ReflectliteValue.set Tryz.func136 (by kernel_rfl) (by kernel_rfl) (by kernel_rfl) (by kernel_rfl);have tO:=Tryz.my;have mA:=Tryz.iH;have a25:=Tryz.j4;have v25:=Sn v hv;have f6:=Tryz.lM;have f7:=Tryz.type27;have mK:=Tryz.kS;have mE:=Tryz.kT;have mI:=Tryz.iY;have k27:=Tryz.pf;have k25:=Tryz.pg;have e27:=Tryz.ph;have i25:=Tryz.j3;have n8:=Tryz.nM ⟨w.heap.size,0,none⟩ ⟨b,0,none⟩ ((w.alloc (.cells #[.pointer (some ⟨b,0,none⟩)] 124)).alloc (.cells #[.pointer (some ⟨23,124,none⟩),.pointer (some ⟨w.heap.size,0,none⟩),.int .u64 150] 177)) (by simp);have gI:3 < w.heap.size:=by rcases cZ 3 w.heap.size with h | h;{exact h};{simp[World.cell?,dx h] at hg}
 have hg2:((w.alloc (.cells #[.pointer (some ⟨b,0,none⟩)] 124)).alloc (.cells #[.pointer (some ⟨23,124,none⟩),.pointer (some ⟨w.heap.size,0,none⟩),.int .u64 150] 177)).cell? ⟨3,0,none⟩=some (.iface 139 (.agg #[.pointer (some ⟨23,37,none⟩)])):=by rw[World.cell?_alloc_lt _ _ ⟨3,0,none⟩ (by simp;omega),World.cell?_alloc_lt _ _ ⟨3,0,none⟩ gI];exact hg
 have htl:b < w.heap.size:=by rcases cZ b w.heap.size with h | h;{exact h};{simp[dx h] at hb}
 have el:=Tryz.nN ⟨w.heap.size,0,none⟩ ⟨b,0,none⟩ (((w.alloc (.cells #[.pointer (some ⟨b,0,none⟩)] 124)).alloc (.cells #[.pointer (some ⟨23,124,none⟩),.pointer (some ⟨w.heap.size,0,none⟩),.int .u64 150] 177)).alloc (.cells #[.pointer (some ⟨23,124,none⟩),.pointer (some ⟨w.heap.size,0,none⟩),.int .u64 150] 177)) (by rw[World.cell?_alloc_lt _ _ ⟨w.heap.size,0,none⟩ (by simp;omega)];simp)
 have V:=Tryz.yo b (w.heap.size+1+1+1) n1 n2 o1 o2 m1 m2 ((((w.alloc (.cells #[.pointer (some ⟨b,0,none⟩)] 124)).alloc (.cells #[.pointer (some ⟨23,124,none⟩),.pointer (some ⟨w.heap.size,0,none⟩),.int .u64 150] 177)).alloc (.cells #[.pointer (some ⟨23,124,none⟩),.pointer (some ⟨w.heap.size,0,none⟩),.int .u64 150] 177)).alloc (.cells #[n1,n2] 122)) (E1:=122) (E2:=E)
  (by have h:=World.alloc_heap_new (((w.alloc (.cells #[.pointer (some ⟨b,0,none⟩)] 124)).alloc (.cells #[.pointer (some ⟨23,124,none⟩),.pointer (some ⟨w.heap.size,0,none⟩),.int .u64 150] 177)).alloc (.cells #[.pointer (some ⟨23,124,none⟩),.pointer (some ⟨w.heap.size,0,none⟩),.int .u64 150] 177)) (.cells #[n1,n2] 122);rw[World.size_alloc,World.size_alloc,World.size_alloc] at h;exact h)
  (by rw[Go.Ab.fJ _ _ (by simp;omega),Go.Ab.fJ _ _ (by simp;omega),Go.Ab.fJ _ _ (by simp;omega),Go.Ab.fJ _ _ htl];exact hb)
 go_enter Tryz.func50,Tryz.ntmps50
 go_wp2
 refine wp_loop_rounds 1 ?_;rw[rounds_succ]
 go_wp2
 go_ret
 exact⟨rfl,_,_,_,_,rfl⟩
end Go.Proofs.pd


namespace Go.Proofs.yp
open Go.RowKit Go.Extern.Stop Go.Stop Go.Extern
variable{E:eY} {P:eX} {W:eS} {c n:Array eT} {v:eT}
theorem Tryz.lM (t:Addr) (w:eS):(ReflectliteValue.unpack (.iface 125 (.pointer (some t)))).run Tryz.prog w
  = .ok (.agg #[.pointer (some ⟨23,125,none⟩),.pointer (some ⟨w.heap.size,0,none⟩),.int .u64 150]) (w.alloc (.cells #[.pointer (some t)] 125)):=by kernel_rfl
theorem Tryz.type27 (a:Addr) (w:eS):(ReflectliteValue.methodAny (ReflectliteValue.valueError "reflectlite.Value.Type" 0) (fun t _ _ _=>ReflectliteType.toType t) #[.agg #[.pointer (some ⟨23,125,none⟩),.pointer (some a),.int .u64 150]]).run Tryz.prog w
  = .ok (.iface 139 (.agg #[.pointer (some ⟨23,125,none⟩)])) w:=by kernel_rfl
theorem Tryz.kS (h:eT) (w:eS):(Go.method 874 139 (.agg #[h]) "Kind").run Tryz.prog w=.ok (564,h) w:=by kernel_rfl
theorem Tryz.pf (w:eS):((ReflectliteType.abiMethod fun t=>Functor.map (fun a:Nat=>Value.int IntKind.u8 (a:Int)) (Rtype.kind t)) #[.pointer (some ⟨23,125,none⟩)]).run Tryz.prog w=.ok (.int .u8 22) w:=by kernel_rfl
theorem Tryz.pg (w:eS):((ReflectliteType.abiMethod fun t=>Functor.map (fun a:Nat=>Value.int IntKind.u8 (a:Int)) (Rtype.kind t)) #[.pointer (some ⟨23,85,none⟩)]).run Tryz.prog w=.ok (.int .u8 25) w:=by kernel_rfl
theorem rlm (z:Sem eT) (f:eY->Addr->Nat->Nat->Sem eT) (v:eT) :
  ReflectliteValue.method z f #[v]=(do match <-ReflectliteValue.parts v with | none=>z | some (t,a,fl)=>f t a fl (fl%32)):=rfl
theorem Tryz.lq (a:Addr) (w:eS):(ReflectliteValue.parts (.agg #[.pointer (some ⟨23,125,none⟩),.pointer (some a),.int .u64 150])).run Tryz.prog w=.ok (some (125,a,150)) w:=by kernel_rfl
theorem Tryz.nM (a p:Addr) (W:eS) (ha:W.cell? a=some (.pointer (some p))) :
  (ReflectliteValue.method (ReflectliteValue.valueError "reflectlite.Value.IsNil" 0) ReflectliteValue.isNil #[.agg #[.pointer (some ⟨23,125,none⟩),.pointer (some a),.int .u64 150]]).run Tryz.prog W=.ok (.bool false) W:=by
 rw[rlm];simp only[Sem.run_bind,Tryz.lq,Result.andThen];simp[ReflectliteValue.isNil,loadVar,isAgg,underlying,Tryz.underlying125,ha,Result.andThen]
theorem Tryz.kT (h:eT) (w:eS):(Go.method 874 139 (.agg #[h]) "Elem").run Tryz.prog w=.ok (575,.agg #[h]) w:=by kernel_rfl
theorem Tryz.iY (h:eT) (w:eS):(Go.method 874 139 (.agg #[h]) "Implements").run Tryz.prog w=.ok (576,.agg #[h]) w:=by kernel_rfl
theorem Tryz.iH (h:eT) (w:eS):(Go.method 874 139 (.agg #[h]) "AssignableTo").run Tryz.prog w=.ok (573,.agg #[h]) w:=by kernel_rfl
theorem Tryz.ph (w:eS):(ReflectliteType.method ReflectliteType.elem #[.agg #[.pointer (some ⟨23,125,none⟩)]]).run Tryz.prog w=.ok (.iface 139 (.agg #[.pointer (some ⟨23,85,none⟩)])) w:=by kernel_rfl
theorem Tryz.j3 (w:eS):(ReflectliteType.relation "Implements" ReflectliteType.implements_ #[.agg #[.pointer (some ⟨23,85,none⟩)],.iface 139 (.agg #[.pointer (some ⟨23,37,none⟩)])]).run Tryz.prog w=.ok (.bool true) w:=by kernel_rfl
theorem Tryz.my (v:eT) (w:eS):(ReflectliteType.typeOf #[.iface 85 v]).run Tryz.prog w=.ok (.iface 139 (.agg #[.pointer (some ⟨23,85,none⟩)])) w:=by kernel_rfl
theorem Tryz.j4 (w:eS):(ReflectliteType.relation "AssignableTo" ReflectliteType.assignableTo #[.agg #[.pointer (some ⟨23,85,none⟩)],.iface 139 (.agg #[.pointer (some ⟨23,85,none⟩)])]).run Tryz.prog w=.ok (.bool true) w:=by kernel_rfl
theorem Tryz.mz (w:eS):(Rtype.elem? 125).run Tryz.prog w=.ok (some 85) w:=by kernel_rfl
theorem Tryz.mk25 (p:Addr) (w:eS):(ReflectliteValue.mk 85 p ReflectliteValue.flagAddr).run Tryz.prog w=.ok (.agg #[.pointer (some ⟨23,85,none⟩),.pointer (some p),.int .u64 409]) w:=by kernel_rfl
theorem Tryz.nN (a p:Addr) (W:eS) (ha:W.cell? a=some (.pointer (some p))) :
  (ReflectliteValue.method (ReflectliteValue.valueError "reflectlite.Value.Elem" 0) ReflectliteValue.elem #[.agg #[.pointer (some ⟨23,125,none⟩),.pointer (some a),.int .u64 150]]).run Tryz.prog W
   = .ok (.agg #[.pointer (some ⟨23,85,none⟩),.pointer (some p),.int .u64 409]) W:=by
 rw[rlm];simp only[Sem.run_bind,Tryz.lq,Result.andThen];simp[ReflectliteValue.elem,loadVar,isAgg,underlying,Tryz.underlying125,ha,Result.andThen,Tryz.mz,Tryz.mk25]
theorem rls (v x:eT):ReflectliteValue.set #[v,x]=(do
  let (some (dst,a,fl),some (src,b,_)):=(<-ReflectliteValue.parts v,<-ReflectliteValue.parts x)
   | unsupported (.noEntry "extern/(internal/reflectlite.Value).Set.zeroValue")
  if fl / ReflectliteValue.flagAddr%2==0 then unsupported (.noEntry "extern/(internal/reflectlite.Value).Set.unaddressable")
  let val <-loadVar src b
  if <-Rtype.directlyAssignable dst src then storeVar dst a val
  else if <-Rtype.implements dst src then
   if (<-Rtype.kind src)==20 then
    match val with
    | .nilIface=>unsupported (.noEntry "extern/reflectlite: a nil value of one interface type handed on as a value of another")
    | _=>storeVar dst a val
   else storeVar dst a (.iface src val)
  else panicString ("reflectlite.Set: value of type "++(<-Rtype.spelt src) ++ " is not assignable to type "++(<-Rtype.spelt dst))
  pure (.tuple #[])):=rfl
theorem Tryz.mB (a:Addr) (w:eS):(ReflectliteValue.parts (.agg #[.pointer (some ⟨23,85,none⟩),.pointer (some a),.int .u64 409])).run Tryz.prog w=.ok (some (85,a,409)) w:=by kernel_rfl
theorem Tryz.nO (a:Addr) (w:eS):(ReflectliteValue.parts (.agg #[.pointer (some ⟨23,85,none⟩),.pointer (some a),.int .u64 153])).run Tryz.prog w=.ok (some (85,a,153)) w:=by kernel_rfl
theorem Tryz.mC (w:eS):(Rtype.directlyAssignable 85 85).run Tryz.prog w=.ok true w:=by kernel_rfl
theorem Tryz.pj (w:eS):(sizeOf 85).run Tryz.prog w=.ok 2 w:=by kernel_rfl
theorem storeAt {b i:Nat} (hb:W.heap[b]?=some (.cells c E (0,0))) (hi:i < c.size) (hv:v.oneCell'=true) :
  (store ⟨b,i,none⟩ v).run P W=.ok () (W.setCell ⟨b,i,none⟩ v):=by
 rw[run_store P W _ _ _ hv];have U:W.cell? ⟨b,i,none⟩=some c[i]:=by simp[World.cell?,hb,hi]
 have O:W.frozen? ⟨b,i,none⟩=false:=by simp[World.frozen?,hb]
 simp[U,O]
theorem Tryz.yo (ta b:Nat) (e1 e2 o1 o2:eT) (U:e1.oneCell'=true) (O:e2.oneCell'=true) (W:eS) {E1 E2:eY} (hb:W.heap[b]?=some (.cells #[e1,e2] E1 (0,0))) (ht:W.heap[ta]?=some (.cells #[o1,o2] E2 (0,0))) :
  (ReflectliteValue.set #[.agg #[.pointer (some ⟨23,85,none⟩),.pointer (some ⟨ta,0,none⟩),.int .u64 409],.agg #[.pointer (some ⟨23,85,none⟩),.pointer (some ⟨b,0,none⟩),.int .u64 153]]).run Tryz.prog W
   = .ok (.tuple #[]) ((W.setCell ⟨ta,0,none⟩ e1).setCell ⟨ta,1,none⟩ e2):=by
 rw[rls];simp only[Sem.run_bind,Tryz.mB,Tryz.nO,Result.andThen];have c0:W.cell? ⟨b,0,none⟩=some e1:=by simp[World.cell?,hb]
 have c1:W.cell? ⟨b,1,none⟩=some e2:=by simp[World.cell?,hb]
 have k1:=Go.Ab.ig (o:=0) (n:=e1) ht;have s1:=storeAt (P:=Tryz.prog) (i:=0) ht (by simp) U;have s2:=storeAt (P:=Tryz.prog) (i:=1) k1 (by simp) O;simp[ReflectliteValue.flagAddr,loadVar,Tryz.isAgg85,Tryz.pj,loadCells,loadCellsFrom,c0,c1,Result.andThen,Tryz.mC,storeVar,Value.cells,storeCells,Addr.add,s1,s2]
theorem R2 (v:eT) (w:eS):(ReflectliteValue.unpack (.iface 85 v)).run Tryz.prog w
  = .ok (.agg #[.pointer (some ⟨23,85,none⟩),.pointer (some ⟨w.heap.size,0,none⟩),.int .u64 153]) (w.alloc (.cells v.cells 85)):=by kernel_rfl
theorem Sn (v:eT) (hv:v.cells=n) (w:eS):(ReflectliteValue.unpack (.iface 85 v)).run Tryz.prog w
  = .ok (.agg #[.pointer (some ⟨23,85,none⟩),.pointer (some ⟨w.heap.size,0,none⟩),.int .u64 153]) (w.alloc (.cells n 85)):=by rw[R2,hv]
set_option maxHeartbeats 8000000 in
set_option maxRecDepth 100000 in
theorem pk (v n1 n2:eT) (hv:v.cells=#[n1,n2]) (m1:n1.oneCell'=true) (m2:n2.oneCell'=true) (b:Nat) (o1 o2:eT) (E:eY) (w:eS)
  (hg:w.cell? ⟨3,0,none⟩=some (.iface 139 (.agg #[.pointer (some ⟨23,37,none⟩)]))) (hb:w.heap[b]?=some (.cells #[o1,o2] E (0,0))) :
  Calls Tryz.prog 50 #[.iface 85 v,.iface 125 (.pointer (some ⟨b,0,none⟩))] w fun ev w'=>ev=.returned (.bool true) /\
   ∃ q1 q2 q3 q4,w'=(((((w.alloc q1).alloc q2).alloc q3).alloc q4).setCell ⟨b,0,none⟩ n1).setCell ⟨b,1,none⟩ n2:=by
 have h6:=@run_callFunc_extern Tryz.prog 85 _ (fun args=>ReflectliteValue.unpack (args.getD 0 (.tuple #[]))) Tryz.func85 (by kernel_rfl) (by kernel_rfl) (by kernel_rfl) (by kernel_rfl);have h7:=@run_callFunc_extern Tryz.prog 86 _ (ReflectliteValue.methodAny (ReflectliteValue.valueError "reflectlite.Value.Type" 0) fun t _ _ _=>ReflectliteType.toType t) Tryz.func86 (by kernel_rfl) (by kernel_rfl) (by kernel_rfl) (by kernel_rfl);have h8:=@run_callFunc_extern Tryz.prog 87 _ (ReflectliteValue.method (ReflectliteValue.valueError "reflectlite.Value.IsNil" 0) ReflectliteValue.isNil) Tryz.func87 (by kernel_rfl) (by kernel_rfl) (by kernel_rfl) (by kernel_rfl);have h27:=@run_callFunc_extern Tryz.prog 564 _ (ReflectliteType.abiMethod fun t=>do pure (.int .u8 (<-Rtype.kind t))) Tryz.func564 (by kernel_rfl) (by kernel_rfl) (by kernel_rfl) (by kernel_rfl);have h37:=@run_callFunc_extern Tryz.prog 575 _ (ReflectliteType.method ReflectliteType.elem) Tryz.func575 (by kernel_rfl) (by kernel_rfl) (by kernel_rfl) (by kernel_rfl);have h38:=@run_callFunc_extern Tryz.prog 576 _ (ReflectliteType.relation "Implements" ReflectliteType.implements_) Tryz.func576 (by kernel_rfl) (by kernel_rfl) (by kernel_rfl) (by kernel_rfl);have h10:=@run_callFunc_extern Tryz.prog 39 _ ReflectliteType.typeOf Tryz.func39 (by kernel_rfl) (by kernel_rfl) (by kernel_rfl) (by kernel_rfl);have h35:=@run_callFunc_extern Tryz.prog 573 _ (ReflectliteType.relation "AssignableTo" ReflectliteType.assignableTo) Tryz.func573 (by kernel_rfl) (by kernel_rfl) (by kernel_rfl) (by kernel_rfl);have h11:=@run_callFunc_extern Tryz.prog 135 _ (ReflectliteValue.method (ReflectliteValue.valueError "reflectlite.Value.Elem" 0) ReflectliteValue.elem) Tryz.func135 (by kernel_rfl) (by kernel_rfl) (by kernel_rfl) (by kernel_rfl);have h12:=@run_callFunc_extern Tryz.prog 136 _ ReflectliteValue.set Tryz.func136 (by kernel_rfl) (by kernel_rfl) (by kernel_rfl) (by kernel_rfl);have tO:=Tryz.my;have mA:=Tryz.iH;have a25:=Tryz.j4;have v25:=Sn v hv;have f6:=Tryz.lM;have f7:=Tryz.type27;have mK:=Tryz.kS;have mE:=Tryz.kT;have mI:=Tryz.iY;have k27:=Tryz.pf;have k25:=Tryz.pg;have e27:=Tryz.ph;have i25:=Tryz.j3;have n8:=Tryz.nM ⟨w.heap.size,0,none⟩ ⟨b,0,none⟩ ((w.alloc (.cells #[.pointer (some ⟨b,0,none⟩)] 125)).alloc (.cells #[.pointer (some ⟨23,125,none⟩),.pointer (some ⟨w.heap.size,0,none⟩),.int .u64 150] 177)) (by simp);have gI:3 < w.heap.size:=by rcases cZ 3 w.heap.size with h | h;{exact h};{simp[World.cell?,dx h] at hg}
 have hg2:((w.alloc (.cells #[.pointer (some ⟨b,0,none⟩)] 125)).alloc (.cells #[.pointer (some ⟨23,125,none⟩),.pointer (some ⟨w.heap.size,0,none⟩),.int .u64 150] 177)).cell? ⟨3,0,none⟩=some (.iface 139 (.agg #[.pointer (some ⟨23,37,none⟩)])):=by rw[World.cell?_alloc_lt _ _ ⟨3,0,none⟩ (by simp;omega),World.cell?_alloc_lt _ _ ⟨3,0,none⟩ gI];exact hg
 have htl:b < w.heap.size:=by rcases cZ b w.heap.size with h | h;{exact h};{simp[dx h] at hb}
 have el:=Tryz.nN ⟨w.heap.size,0,none⟩ ⟨b,0,none⟩ (((w.alloc (.cells #[.pointer (some ⟨b,0,none⟩)] 125)).alloc (.cells #[.pointer (some ⟨23,125,none⟩),.pointer (some ⟨w.heap.size,0,none⟩),.int .u64 150] 177)).alloc (.cells #[.pointer (some ⟨23,125,none⟩),.pointer (some ⟨w.heap.size,0,none⟩),.int .u64 150] 177)) (by rw[World.cell?_alloc_lt _ _ ⟨w.heap.size,0,none⟩ (by simp;omega)];simp)
 have V:=Tryz.yo b (w.heap.size+1+1+1) n1 n2 o1 o2 m1 m2 ((((w.alloc (.cells #[.pointer (some ⟨b,0,none⟩)] 125)).alloc (.cells #[.pointer (some ⟨23,125,none⟩),.pointer (some ⟨w.heap.size,0,none⟩),.int .u64 150] 177)).alloc (.cells #[.pointer (some ⟨23,125,none⟩),.pointer (some ⟨w.heap.size,0,none⟩),.int .u64 150] 177)).alloc (.cells #[n1,n2] 85)) (E1:=85) (E2:=E)
  (by have h:=World.alloc_heap_new (((w.alloc (.cells #[.pointer (some ⟨b,0,none⟩)] 125)).alloc (.cells #[.pointer (some ⟨23,125,none⟩),.pointer (some ⟨w.heap.size,0,none⟩),.int .u64 150] 177)).alloc (.cells #[.pointer (some ⟨23,125,none⟩),.pointer (some ⟨w.heap.size,0,none⟩),.int .u64 150] 177)) (.cells #[n1,n2] 85);rw[World.size_alloc,World.size_alloc,World.size_alloc] at h;exact h)
  (by rw[Go.Ab.fJ _ _ (by simp;omega),Go.Ab.fJ _ _ (by simp;omega),Go.Ab.fJ _ _ (by simp;omega),Go.Ab.fJ _ _ htl];exact hb)
 go_enter Tryz.func50,Tryz.ntmps50
 go_wp2
 refine wp_loop_rounds 1 ?_;rw[rounds_succ]
 go_wp2
 go_ret
 exact⟨rfl,_,_,_,_,rfl⟩
end Go.Proofs.yp


namespace Go.Proofs.AbUC
open Go.RowKit Go.Proofs
theorem sN (c:Nat) (w:eS):Sem.run Tryz.prog (binOp BinOp.eql 280 (.slice none 0 c) (.slice none 0 0)) w=.ok (.bool true) w:=by kernel_rfl
theorem eqS (a:Addr) (c:Nat) (w:eS):Sem.run Tryz.prog (binOp BinOp.eql 280 (.slice (some a) 0 c) (.slice none 0 0)) w=.ok (.bool false) w:=by kernel_rfl
set_option maxRecDepth 100000 in
theorem bn (c:Nat) (w:eS):Calls Tryz.prog 175 #[.slice none 0 c] w fun e w'=>e=.returned (.slice none 0 0)/\w'=w:=by
 go_enter Tryz.func175,Tryz.ntmps175
 go_wp2
 rw[sN];simp only[Result.andThen];rw[Oper.upon_value]
 go_wp2
 go_ret
 exact⟨rfl,rfl⟩
set_option maxRecDepth 100000 in
theorem bm (a:Addr) (c:Nat) (w:eS):Calls Tryz.prog 175 #[.slice (some a) 0 c] w fun e w'=>e=.returned (.slice (some ⟨w.heap.size,0,none⟩) 0 0)/\w'=w.alloc (.cells #[] 3):=by
 go_enter Tryz.func175,Tryz.ntmps175
 go_wp2
 rw[eqS];simp only[Result.andThen];rw[Oper.upon_value]
 go_wp2
 go_ret
 exact⟨rfl,rfl⟩
theorem rZ (a:Option Addr) (c:Nat) (w:eS):∃ a',Calls Tryz.prog 175 #[.slice a 0 c] w fun e w'=>e=.returned (.slice a' 0 0)/\Go.Ab.ie w w':=by
 cases a with
 | none=>exact⟨none,(bn c w).mono fun e w' h=>⟨h.1,h.2 ▸ Go.Ab.gy w⟩⟩
 | some a=>exact⟨_,(bm a c w).mono fun e w' h=>⟨h.1,Go.Ab.gG (h.2 ▸ (Below.refl _ _).alloc (bD _) _)⟩⟩
end Go.Proofs.AbUC


namespace Go.Proofs.AbUG
open Go.RowKit Go.Proofs
theorem info2':(Tryz.prog.info? 133).map (fun i=>(i.zero.map (·.cells.size),i.size,i.bytes))=some (some 3,3,32):=by kernel_rfl
theorem info2:∃ i z,Tryz.prog.info? 133=some i/\i.zero=some z/\i.size=3/\i.bytes=32/\z.cells.size=3:=by obtain⟨i,U,O⟩:=bB.1 info2';simp only[b8] at O;obtain⟨z,hz,h3⟩:=bB.1 O.1;exact⟨i,z,U,hz,O.2.1,O.2.2,h3⟩
set_option maxHeartbeats 1000000 in
set_option maxRecDepth 100000 in
theorem r5 (w:eS):Calls Tryz.prog 96 #[.slice none 0 0,.int .i64 0] w fun e w'=>e=.returned (.slice none 0 0)/\w'=w:=by
 go_enter Tryz.func96,Tryz.ntmps96
 go_wp2
 go_ret
 exact⟨rfl,rfl⟩
set_option maxHeartbeats 4000000 in
set_option maxRecDepth 100000 in
theorem r6 (n:Nat) (w:eS) (h0:0 < n) (hn:n<=1000000):Calls Tryz.prog 96 #[.slice none 0 0,.int .i64 n] w fun e w' =>
  ∃ (G:Nat) (row:Array eT),e=.returned (.slice (some ⟨w.heap.size,0,none⟩) 0 G)/\G*3<=row.size/\w'=w.drew.alloc (.cells row 133):=by
 obtain⟨i0,z,hi0,hz0,lZ,hb0,hc0⟩:=info2;have U:¬ ((n:Int) < 0):=by omega
 have h3:wrap64 ((n:Int) - 0)=(n:Int):=by unfold wrap64;omega
 have h4:(n:Int)>0:=by omega
 have hrz:∀ ty,(Builtin.append_ #[87,3] ty #[.slice none 0 0,.int .i64 (n:Int)]).run Tryz.prog w =
   .ok (.slice (some ⟨w.heap.size,0,none⟩) n (grownCap w n 0 133)) (w.drew.alloc (.cells ((#[]:Array eT)++Builtin.zeroCells z.cells n++Builtin.zeroCells z.cells (grownCap w n 0 133 - n)) 133)):=fun ty=>by
  have h:=Lib.run_append_grow_zeros (P:=Tryz.prog) w 87 3 ty 133 i0 z .i64 .i64 Tryz.underlying87 Tryz.underlying3 hi0 hz0 none 0 0 [] (by rw[lZ];exact run_firstCells_none w.drew 3 0 0 0) n h0 (by omega) (by omega) (by omega) (by rw[hb0];omega)
   (growslice_fits (by omega) (by rw[hb0];omega))
  rw[bX] at h;exact h
 have hGn:n<=grownCap w n 0 133:=grownCap_ge w _ _ _;have hG63:grownCap w n 0 133<=9223372036854775807:=by have:=grownCap_le_maxLen w n 0 133 (by unfold maxLen;omega);unfold maxLen at this;omega
 obtain⟨row,nk⟩:∃ row,row=((#[]:Array eT)++Builtin.zeroCells z.cells n++Builtin.zeroCells z.cells (grownCap w n 0 133 - n)):=⟨_,rfl⟩;have iQ:grownCap w n 0 133*3<=row.size:=by rw[nk];simp[size_zeroCells,hc0];omega
 rw[<-nk] at hrz;obtain⟨G,hG⟩:∃ G,G=grownCap w n 0 133:=⟨_,rfl⟩;rw[<-hG] at hrz hGn hG63 iQ;clear nk hG
 go_enter Tryz.func96,Tryz.ntmps96
 go_wp2_with (at_builtin;refine Lib.wpList_append_run _ rfl _ _ _ _ rfl _ _ rfl rfl _ _ (hrz _) ?_)
 all_goals (go_ret;first | exact⟨G,row,rfl,iQ,rfl⟩ | exact⟨G,rfl,row,iQ,rfl⟩)
end Go.Proofs.AbUG

