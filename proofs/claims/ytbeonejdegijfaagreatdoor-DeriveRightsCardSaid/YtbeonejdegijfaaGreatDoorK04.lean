/-
  Part 4 of a proof: a machine of our own for the given program, its laws, and what it says of the program. Nothing here is a claim by itself.
-/
import Derived.Test.YtbeonejdegijfaaGreatDoorK03
import Derived.RowKit
import Derived.Lib.AppendIntMem
import Derived.Lib.CountLaws
import Derived.Lib.Replace
import Derived.Lib.ItoaNum
import Derived.Conc.MuLone
set_option linter.all false

namespace Go.Ab
theorem fill_map (T:List PV):∀ (ps:List (Nat×Nat×RX)) (z:List PV),DS [] z (ps.map fun p=>(p.1,p.2.1,.c (p.2.2.ev T)))=DS T z ps:=by
 intro ps;induction ps with
 | nil=>intro z;rfl
 | cons p ps ih =>
  obtain⟨off,n,x⟩:=p;intro z;simp only[bz,DS];rw[ih];rfl
theorem N4 (T:List PV) (x:Option RX):B6 [] (x.map fun y=>.c (y.ev T))=B6 T x:=by cases x<;>rfl
theorem exec_inst (d:Nat) (σ:Nm->Option Ob) (T:List PV) (op:Ax) (hg:isG op=true):exec d σ [] (op.mapX fun x=>.c (x.ev T))=exec d σ T op:=by
 cases op with
 | build z ps=>simp only[Ax.mapX,exec];rw[fill_map T]
 | slice k x lo hi mx=>simp only[Ax.mapX,exec];rw[N4,N4,N4];rfl
 | strSlice x lo hi=>simp only[Ax.mapX,exec];rw[N4,N4];rfl
 | minmax mx xs=>simp only[Ax.mapX,exec,cc];rfl
 | mov | pick | box | alloc | mkSl | store | mkI | mkF | mkMap | insert | mkS | append | copy | call | iter | next | bad=>simp[isG] at hg
 | _=>rfl
theorem MY {f g:RX->RX} {o:Option RX} (h:∀ a∈o.toList,f a=g a):o.map f=o.map g:=by
 cases o with
 | none=>rfl
 | some a=>simp[h a (by simp)]
theorem ac {f g:RX->RX} (op:Ax) (hg:isG op=true) (h:∀ x∈op.xs,f x=g x):op.mapX f=op.mapX g:=by
 cases op with
 | build z ps =>
  simp only[Ax.mapX];congr 1;apply ci;intro p hp;rw[h p.2.2 (bE.2 ⟨p,hp,rfl⟩)]
 | slice k x lo hi mx =>
  simp only[Ax.mapX,Ax.xs] at h |-;rw[h x (by simp),MY (o:=lo) fun a ha=>h a (by simp[ha]),MY (o:=hi) fun a ha=>h a (by simp[ha]),MY (o:=mx) fun a ha=>h a (by simp[ha])]
 | strSlice x lo hi =>
  simp only[Ax.mapX,Ax.xs] at h |-;rw[h x (by simp),MY (o:=lo) fun a ha=>h a (by simp[ha]),MY (o:=hi) fun a ha=>h a (by simp[ha])]
 | minmax mx xs=>simp only[Ax.mapX];congr 1;exact ci h
 | mov | pick | box | alloc | mkSl | store | mkI | mkF | mkMap | insert | mkS | append | copy | call | iter | next | bad=>simp[isG] at hg
 | bin op c cst x y=>simp only[Ax.mapX,Ax.xs] at h |-;rw[h x (by simp),h y (by simp)]
 | lookup c z ok x k=>simp only[Ax.mapX,Ax.xs] at h |-;rw[h x (by simp),h k (by simp)]
 | idxAddr k x i=>simp only[Ax.mapX,Ax.xs] at h |-;rw[h x (by simp),h i (by simp)]
 | idxAddrA k l x i=>simp only[Ax.mapX,Ax.xs] at h |-;rw[h x (by simp),h i (by simp)]
 | strIdx x i=>simp only[Ax.mapX,Ax.xs] at h |-;rw[h x (by simp),h i (by simp)]
 | load n ag x | nilck x | un op x | conv k x | toBytes x | ofBytes x | ofRune x | strId x | fieldAddr off x | field off n ag x | extract j x | len c x | tassert t z ok x=>simp only[Ax.mapX,Ax.xs] at h |-;rw[h x (by simp)]
theorem Z0 (σ:Nm->Option Ob):∀ d,A8 σ d []=[]:=by
 intro d;induction d with
 | zero=>rfl
 | succ d ih=>simp[A8,ih]
theorem YL {d:Nat} {σ:Nm->Option Ob} {T:List PV} {op:Ax} (hg:isG op=true) (hx:∀ x∈op.xs,okV (x.ev T)=true):exec d σ T op=exec 0 (fun _=>none) T op:=by
 have h1:exec d σ T op=exec 0 σ T op:=by cases op<;>simp[isG] at hg<;>rfl
 rw[h1];refine Vt op (fun _ _=>rfl) ?_
 have:AQ (op.xs.map (RX.ev T))=[]:=(CL (Ey.2 fun v hv=>by
  obtain⟨x,hx',rfl⟩:=bE.1 hv;exact hx x hx')).1
 rw[this];intro nm hnm;rw[Z0] at hnm;cases hnm
theorem okV_fill {T:List PV}:∀ (ps:List (Nat×Nat×RX)) (z cs:List PV),Ao z=true->(∀ x∈ps.map (·.2.2),okV (x.ev T)=true)->DS T z ps=some cs->Ao cs=true:=by
 intro ps;induction ps with
 | nil=>intro z cs hz _ h;simp[DS] at h;subst h;exact hz
 | cons p ps ih =>
  obtain⟨off,n,y⟩:=p;intro z cs hz hp h;simp only[DS] at h;obtain⟨_,h⟩:=Dq h;refine ih _ cs ?_ (fun x hx=>hp x (by simp only[bz,bH];exact .inr hx)) h;exact HQ (HQ (Hm hz _) (Dm (hp y (by simp)))) (Im hz _)
theorem NR {cs:List PV} (h:Ao cs=true) {o n:Nat} {ag:Bool} {v:PV} (hs:BE cs o n ag=some v):okV v=true:=by
 unfold BE at hs;split at hs
 ·obtain⟨_,hs⟩:=Dq hs;cases hs;simpa[okV] using Hm (Im h o) n
 ·exact HU h hs
theorem S1 {k:PV}:∀ {es:List PV} {v:PV},Dc k es=some (some v)->Ao es=true->okV v=true
 | [],v,h,_=>by simp[Dc] at h
 | [_],v,h,_=>by simp[Dc] at h
 | a :: u :: es,v,h,he=>by
  simp only[Ao,bB] at he;simp only[Dc] at h;split at h;·cases h;exact he.2.1
  ·exact S1 h he.2.2
  ·cases h
theorem Y9 {k:Nat} {x v:PV} {lo hi mx:Option PV} (hx:okV x=true) (h:EP k x lo hi mx=some v):okV v=true:=by
 cases x with
 | sl k' xs full =>
  simp only[EP] at h;split at h;·cases h
  split at h;·cases h
  split at h;·cases h
  obtain⟨_,h⟩:=Dq h;cases h;simp only[okV] at hx |-;exact Im (Hm hx _) _
 | nilS =>
  simp only[EP] at h;split at h;·cases h
  split at h;·cases h
  split at h;·cases h
  obtain⟨_,h⟩:=Dq h;cases h;rfl
 | arr nm k' o n=>simp[okV] at hx
 | _=>simp[EP] at h
theorem V1 (s:List UInt8):Ao (Di s)=true:=Ey.2 fun x hx=>by
 obtain⟨b,_,rfl⟩:=bE.1 hx;rfl
theorem okV_binPV {op:BinOp} {c:TC} {cst:Bool} {x y v:PV} (h:DX op c cst x y=some v):okV v=true:=by
 have hI:∀ {op k a b v},Fq op k a b=some v->okV v=true:=by
  intro op k a b v h;unfold Fq at h;split at h
  all_goals first
   |(cases h;rfl)
   |(obtain⟨_,h⟩:=Dq h;cases h;rfl)
   |(obtain⟨b,_,rfl⟩:=bD.1 h;rfl)
 have hS:∀ {op a b v},K6 op a b=some v->okV v=true:=by
  intro op a b v h;unfold K6 at h;split at h
  all_goals first
   |(cases h;rfl)
   |(obtain⟨_,h⟩:=Dq h;cases h;rfl)
   | cases h
 unfold DX at h;split at h
 ·split at h;·obtain⟨_,h⟩:=Dq h;cases h;rfl
  ·obtain⟨_,h⟩:=Dq h;cases h;rfl
  ·obtain⟨_,h⟩:=Dq h;exact hI h
 ·exact hS h
 ·split at h;·obtain⟨b,_,rfl⟩:=bD.1 h;rfl
  ·obtain⟨b,_,rfl⟩:=bD.1 h;rfl
  ·cases h
structure Rv (o:AK):Prop where
 eq:o={v:=o.v}
 ok:okV o.v=true
theorem Rv.mk' {v:PV} (h:okV v=true):Rv {v:=v}:=⟨rfl,h⟩
theorem Pk {x:Option PV} {out:AK} (h:(x.map fun v=>({v:=v}:AK))=some out) (hv:∀ v,x=some v->okV v=true):Rv out:=by
 obtain⟨v,hx,rfl⟩:=bD.1 h;exact .mk' (hv v hx)
theorem aF {T:List PV} {op:Ax} (hg:isG op=true) (hx:∀ x∈op.xs,okV (x.ev T)=true) (hz:∀ z ps,op=.build z ps->Ao z=true) (hl:∀ c z ok x k,op=.lookup c z ok x k->okV z=true)
  (ht:∀ t z ok x,op=.tassert t z ok x->okV z=true) {out:AK} (h:exec 0 (fun _=>none) T op=some out):Rv out:=by
 cases op with
 | mov | pick | box | alloc | mkSl | store | mkI | mkF | mkMap | insert | mkS | append | copy | call | iter | next | bad=>simp[isG] at hg
 | build z ps =>
  simp only[exec] at h;split at h
  ·rename_i cs hc;cases h;exact .mk' (by simpa[okV] using okV_fill ps z cs (hz z ps rfl) hx hc)
  ·cases h
 | load n ag x =>
  have hv:=hx x (by simp[Ax.xs]);simp only[exec] at h;split at h;·rename_i e;rw[e] at hv;simp[okV] at hv
  ·rename_i e;rw[e] at hv;exact Pk h fun v hs=>NR (by simpa[okV] using hv) hs
  ·rename_i e;rw[e] at hv;simp[okV] at hv
  ·cases h
 | nilck x =>
  have hv:=hx x (by simp[Ax.xs]);simp only[exec] at h;split at h
  all_goals first
   |(rename_i e;rw[e] at hv;cases h;exact .mk' hv)
   | cases h
 | bin op c cst x y=>simp only[exec] at h;exact Pk h fun v=>okV_binPV
 | un op x =>
  simp only[exec] at h;split at h;·cases h;exact .mk' rfl
  ·cases h;exact .mk' rfl
  ·cases h
 | conv k x=>simp only[exec] at h;split at h;(cases h;exact .mk' rfl);cases h
 | toBytes x =>
  simp only[exec] at h;split at h;·obtain⟨_,h⟩:=Dq h;cases h;exact .mk' (by simpa[okV] using V1 _)
  ·cases h
 | ofBytes x =>
  simp only[exec] at h;split at h
  ·split at h;·cases h;exact .mk' rfl
   ·cases h
  ·cases h
 | ofRune x=>simp only[exec] at h;split at h;(cases h;exact .mk' rfl);cases h
 | strId x=>simp only[exec] at h;split at h;(cases h;exact .mk' rfl);cases h
 | lookup c z ok x k =>
  have hv:=hx x (by simp[Ax.xs]);have hz:=hl c z ok x k rfl;simp only[exec] at h
  have hes:∀ es,(match x.ev T with | .mp nm=>(none:Option (List PV)) | .imap es=>some es | .nilM=>some [] | _=>none)=some es->Ao es=true:=by
   intro es he;cases hq:x.ev T<;>rw[hq] at he hv<;>simp only[reduceCtorEq,bG] at he;·subst he;rfl
   ·subst he;simpa[okV] using hv
  split at h;·cases h
  ·rename_i es he;split at h;·cases h
   ·rename_i r hr;obtain⟨_,h⟩:=Dq h;cases h;have hes':Ao es=true:=hes es (by revert he;cases x.ev T<;>exact id)
    have hrz:okV (r.getD z)=true:=by
     cases r with
     | none=>exact hz
     | some v=>exact S1 hr hes'
    refine .mk' ?_;split;·simp[okV,Ao,hrz]
    ·exact hrz
 | slice k x lo hi mx=>simp only[exec] at h;exact Pk h fun v hs=>Y9 (hx x (by simp[Ax.xs])) hs
 | strSlice x lo hi =>
  simp only[exec] at h;split at h
  ·split at h;·cases h
   ·split at h;·cases h
    ·cases h;exact .mk' rfl
  ·cases h
 | fieldAddr off x =>
  have hv:=hx x (by simp[Ax.xs]);simp only[exec] at h;split at h;·rename_i e;rw[e] at hv;simp[okV] at hv
  ·rename_i e;rw[e] at hv;obtain⟨_,h⟩:=Dq h;cases h;exact .mk' (by simpa[okV] using hv)
  ·rename_i e;rw[e] at hv;simp[okV] at hv
  ·cases h
 | field off n ag x =>
  have hv:=hx x (by simp[Ax.xs]);simp only[exec] at h;split at h;·rename_i e;rw[e] at hv;exact Pk h fun v hs=>NR (by simpa[okV] using hv) hs
  ·cases h
 | idxAddr k x i =>
  have hv:=hx x (by simp[Ax.xs]);simp only[exec] at h;split at h
  ·rename_i e;rw[e] at hv;split at h
   ·rename_i y hy;obtain⟨_,h⟩:=Dq h;cases h;exact .mk' (by simpa[okV] using Dm (HU (by simpa[okV] using hv) hy))
   ·cases h
  ·rename_i e;rw[e] at hv;simp[okV] at hv
  ·cases h
 | idxAddrA k l x i =>
  have hv:=hx x (by simp[Ax.xs]);simp only[exec] at h;split at h;·rename_i e;rw[e] at hv;obtain⟨_,h⟩:=Dq h;cases h;exact .mk' (by simpa[okV] using hv)
  ·rename_i e;rw[e] at hv;simp[okV] at hv
  ·cases h
 | strIdx x i =>
  simp only[exec] at h;split at h
  ·split at h;·cases h;exact .mk' rfl
   ·cases h
  ·cases h
 | extract j x =>
  have hv:=hx x (by simp[Ax.xs]);simp only[exec] at h;split at h
  ·rename_i e;rw[e] at hv;split at h
   ·rename_i v hg';cases h;exact .mk' (HU (by simpa[okV] using hv) hg')
   ·cases h
  ·cases h
 | len c x=>simp only[exec] at h;obtain⟨n,_,rfl⟩:=bD.1 h;exact .mk' rfl
 | minmax mx xs =>
  simp only[exec] at h;split at h;·obtain⟨n,_,rfl⟩:=bD.1 h;exact .mk' rfl
  ·cases h
 | tassert t z ok x =>
  have hv:=hx x (by simp[Ax.xs]);have hz:=ht t z ok x rfl;simp only[exec] at h;split at h
  ·rename_i e;rw[e] at hv;split at h
   ·cases h;refine .mk' ?_;simp only[okV] at hv;split;·simp[okV,Ao,hv]
    ·exact hv
   ·obtain⟨_,h⟩:=Dq h;cases h;exact .mk' (by simp[okV,Ao,hz])
  ·obtain⟨_,h⟩:=Dq h;cases h;exact .mk' (by simp[okV,Ao,hz])
  ·cases h
end Go.Ab


namespace Go.Ab
theorem CN {α β:Type} {x:Option α} {f:α->Option β} {r:β} (h:Ac x f=some r):∃ a,x=some a/\f a=some r:=by
 cases x with
 | none=>cases h
 | some a=>exact⟨a,rfl,h⟩
theorem Br {β:Type} {b:Bool} {a:Option β} {r:β} (h:Ae b a=some r):b=true/\a=some r:=by
 cases b with
 | false=>cases h
 | true=>exact⟨rfl,h⟩
theorem Kn {β:Type} {b:Bool} {x y:Option β} {r:β} (h:B9 b x y=some r):(b=true/\x=some r)\/(b=false/\y=some r):=by
 cases b with
 | false=>exact .inr ⟨rfl,h⟩
 | true=>exact .inl ⟨rfl,h⟩
theorem Pp {β:Type} {v:PV} {x y:Option β} {r:β} (h:Ar v x y=some r):(v=.bool true/\x=some r)\/(v=.bool false/\y=some r):=by
 unfold Ar at h;split at h;·exact .inl ⟨rfl,h⟩
 ·exact .inr ⟨rfl,h⟩
 ·cases h
theorem NY {a b:Nat}:AO a b=true↔a<=b:=by unfold AO;rw[Nat.ble_eq]
theorem L7 {a b:Nat}:DL a b=true↔a < b:=by unfold DL;rw[cG]
theorem N6 {a b:Nat}:Fz a b=true↔a=b:=by unfold Fz;rw[Nat.beq_eq]
def Tells {R:Type} (K:Aw->Option R) (r:R) (x:Option AK):Prop:=∃ out:Aw,K out=some r/\out.Ok/\x=some out.out
theorem Aw.plain {v:KV} (h:v.ok):Aw.Ok {v}:=⟨h,by simp,by simp,by simp⟩
theorem Aw.one {v:KV} {o:Aj} (h:v.ok) (ho:o.ok):Aw.Ok {v,new:=[o]}:=⟨h,by simpa using ho,by simp,by simp⟩
theorem Aw.turn {v:KV} {nm:Nm} {o:Aj} (h:v.ok) (ho:o.ok):Aw.Ok {v,upd:=some (nm,o)}:=⟨h,by simp,fun _ _ e=>(by cases e;exact ho),by simp⟩
variable {ks:Az} {d:Nat} {R:Type} {K:Aw->Option R} {r:R}
theorem T2 (h:ks.Ok) {xs:List RX} (hx:xs.all Ew=true) {x:RX} (hm:x∈xs):(x.kv ks.tmps).ok:=MK h (bP.1 hx x hm)
theorem cl_ev (h:ks.Ok) {x:RX} {v:PV} (hv:(x.kv ks.tmps).cl=some v):x.ev ks.st.tmps=v:=by rw[GI h,KV.cl_pv hv]
theorem Dv (h:ks.Ok) {op:Ax} (hx:op.xs.all Ew=true) (hk:gO ks.tmps op K=some r):Tells K r (exec d (Ak ks.st.objs) ks.st.tmps op):=by
 unfold gO at hk;split at hk
 ·rename_i hc;simp only[bB] at hc;obtain⟨⟨hg,hop⟩,hcl⟩:=hc;obtain⟨z,hz,hk⟩:=CN hk;have hall:∀ x∈op.xs,∃ v,(x.kv ks.tmps).cl=some v:=fun x hm=>dH.1 (bP.1 hcl x hm)
  have hev:∀ x∈op.xs,okV (x.ev ks.st.tmps)=true:=fun x hm=>by
   obtain⟨v,hv⟩:=hall x hm;rw[cl_ev h hv];exact KV.cl_ok (T2 h hx hm) hv
  have hmap:op.mapX (instX ks.tmps)=op.mapX (fun x=>.c (x.ev ks.st.tmps)):=ac op hg fun x hm=>by
   obtain⟨v,hv⟩:=hall x hm;unfold instX;rw[hv,cl_ev h hv];rfl
  unfold Ad at hz;rw[hmap,exec_inst _ _ _ _ hg] at hz;split at hz
  ·rename_i out ho;cases hz;have hp:=aF hg hev (fun z ps e=>by subst e;exact hop) (fun c z ok x k e=>by subst e;exact hop) (fun t z ok x e=>by subst e;exact hop) ho;refine⟨{v:=.cv out.v},hk,Aw.plain hp.ok,?_⟩;rw[YL hg hev,ho,hp.eq];rfl
  ·cases hz
 ·cases hk
theorem Ww {n:Nat} {x:KV} (hx:x.ok) {K:List KV->Option R} (hk:Qu n x K=some r):∃ cs,K cs=some r/\A4 cs/\AJ cs=x.pv.cells/\cs.length=n/\x.pv.isVal=true:=by
 unfold Qu at hk;split at hk
 ·split at hk;·rename_i hn;exact⟨_,hk,hx,rfl,hn,rfl⟩
  ·cases hk
 ·rename_i v;obtain⟨h1,h2⟩:=Br hk;unfold AF at h1;simp only[bB,beq_iff_eq] at h1;refine⟨_,h2,?_,?_,by simp,h1.1⟩
  ·refine CO.2 fun y hy=>?_;obtain⟨i,hi,rfl⟩:=bE.1 hy;have hv:okV v=true:=hx;show okV (Ah v i)=true;unfold Ah;rw[bI];cases hg:v.cells[i]? with
   | none=>rfl
   | some c=>exact HU (Dm hv) hg
  ·rw[D7,cc];show _=v.cells;apply ct;intro i;rw[bK];by_cases hi:i < n
   ·rw[cX hi];show some (Ah v i)=_;unfold Ah;rw[bI];have:i < v.cells.length:=by omega
    simp[bN this]
   ·rw[cf (by simpa using hi),cf (by omega)];rfl
 ·cases hk
 ·cases hk
 ·cases hk
 ·rename_i h1 h2 h3 h4 h5;split at hk
  ·rename_i hn;refine⟨_,hk,⟨hx,trivial⟩,?_,by simp[hn],?_⟩
   ·simp only[AJ];cases x<;>simp_all [KV.pv,PV.cells]
   ·cases x<;>simp_all [KV.pv,PV.isVal]
  ·cases hk
theorem Nn {l:List KV} (h:A4 l) (n:Nat):A4 (l.take n):=CO.2 fun x hx=>CO.1 h x (cw hx)
theorem Np {l:List KV} (h:A4 l) (n:Nat):A4 (l.drop n):=CO.2 fun x hx=>CO.1 h x (cL hx)
theorem Ki {l m:List KV} (h:A4 l) (h':A4 m):A4 (l++m):=CO.2 fun x hx=>(bW.1 hx).elim (CO.1 h x) (CO.1 h' x)
theorem LP (l:List KV) (n:Nat):AJ (l.take n)=(AJ l).take n:=by rw[D7,D7,List.map_take]
theorem LQ (l:List KV) (n:Nat):AJ (l.drop n)=(AJ l).drop n:=by rw[D7,D7,List.map_drop]
theorem O8 (l m:List KV):AJ (l++m)=AJ l++AJ m:=by rw[D7,D7,D7,di]
theorem GV (l:List KV):(AJ l).length=l.length:=by rw[D7,bS]
theorem pvL_get? (l:List KV) (i:Nat):(AJ l)[i]?=(l[i]?).map KV.pv:=by rw[D7,bK]
theorem kfill_ok (h:ks.Ok):∀ (ps:List (Nat×Nat×RX)) {z:List KV} {K:List KV->Option R},(∀ x∈ps.map (·.2.2),Ew x=true)->A4 z->QM ks.tmps z ps K=some r->∃ cs,K cs=some r/\A4 cs/\DS ks.st.tmps (AJ z) ps=some (AJ cs):=by
 intro ps;induction ps with
 | nil=>intro z K _ hz hk;exact⟨z,hk,hz,rfl⟩
 | cons p ps ih =>
  obtain⟨off,n,x⟩:=p;intro z K hx hz hk;simp only[QM] at hk;obtain⟨cs,hk,hcs,hpv,hlen,hval⟩:=Ww (MK h (hx x (by simp))) hk;split at hk
  ·rename_i hle;obtain⟨cs',h1,h2,h3⟩:=ih (fun y hy=>hx y (by simp only[bz,bH];exact .inr hy)) (Ki (Ki (Nn hz _) hcs) (Np hz _)) hk;refine⟨cs',h1,h2,?_⟩;have hl2:(AJ cs).length=n:=by rw[GV,hlen]
   have hval':(x.ev ks.st.tmps).isVal=true:=by rw[GI h];exact hval
   have hcl':(x.ev ks.st.tmps).cells=AJ cs:=by rw[GI h];exact hpv.symm
   simp only[DS];rw[hcl'];unfold AC splice;simp only[hval',hl2,GV,decide_true,cu,cN,hle,if_true];rw[O8,O8,LP,LQ] at h3;exact h3
  ·cases hk
theorem SN (h:ks.Ok) {k:Nat} {x:KV} (hx:x.ok) {K:List PV->Option R} (hk:Ov (Bk ks.objs) k x K=some r):∃ ys,K ys=some r/\Ao ys=true/\elems (Ak ks.st.objs) k x.pv=some ys:=by
 unfold Ov at hk;split at hk
 ·rename_i nm k' o n;split at hk
  ·rename_i k'' kt xs hl;split at hk
   ·rename_i hkk;obtain⟨h1,h2⟩:=Br hk;rw[NY] at h1;have hok:Ao xs=true:=DA h.ob hl;refine⟨_,h2,Hm (Im hok _) _,?_⟩;have hl':Ak ks.st.objs nm=some (.arr k'' kt xs):=by rw[GY h,hl];rfl
    unfold AG Ai at h1;simp[KV.pv,elems,hl',AC,hkk.1,hkk.2,h1,AE,AS]
   ·cases hk
  ·cases hk
 ·split at hk
  ·rename_i v hv;obtain⟨ys,h1,h2⟩:=CN hk;have hok:=KV.cl_ok hx hv;have hpv:=KV.cl_pv hv;unfold Ia at h1
   have h3:elems (Ak ks.st.objs) k v=some ys:=by
    rw[<-h1];exact OZ (by rw[(Ez hok).1];simp)
   refine⟨ys,h2,?_,by rw[hpv];exact h3⟩;cases v with
   | sl k' xs f=>simp only[elems] at h1;obtain⟨_,h1⟩:=Dq h1;cases h1;simpa[okV] using hok
   | nilS=>cases h1;rfl
   | str s=>simp only[elems] at h1;obtain⟨_,h1⟩:=Dq h1;cases h1;exact V1 _
   | arr nm k' o n=>simp[okV] at hok
   | _=>simp[elems] at h1
  ·cases hk
theorem SP {xs:List KV} (hx:A4 xs):(AQ (AJ xs)).isEmpty=(C4 xs).isEmpty:=by rw[FA hx]
theorem Hn {σ:Nm->Option Aj} (hσ:∀ nm o,σ nm=some o->o.ok):∀ (d:Nat) (l:List Nm),GD σ d l=A8 (fun nm=>(σ nm).map Aj.ob) d l:=by
 intro d;induction d with
 | zero=>intro l;rfl
 | succ d ih =>
  intro l;simp only[GD,A8]
  have e:(l.flatMap fun nm=>((σ nm).map Aj.names).getD [])=l.flatMap fun nm=>(((σ nm).map Aj.ob).map Ob.names).getD []:=by
   congr 1;funext nm;cases ho:σ nm with
   | none=>rfl
   | some o=>simp[Aj.ob_names (hσ _ _ ho)]
  rw[ih,e]
theorem names_eq {σ:Nm->Option Aj} (hσ:∀ nm o,σ nm=some o->o.ok) (nm:Nm):((σ nm).map Aj.names).getD []=(((σ nm).map Aj.ob).map Ob.names).getD []:=by
 cases ho:σ nm with
 | none=>rfl
 | some o=>simp[Aj.ob_names (hσ _ _ ho)]
theorem LU {σ:Nm->Option Aj} (hσ:∀ nm o,σ nm=some o->o.ok) (R:List Nm):JQ σ R=C8 (fun nm=>(σ nm).map Aj.ob) R:=by
 unfold JQ C8;congr 1;funext nm;simp only
 rw[names_eq hσ]
theorem Nx (h:ks.Ok) {xs:List KV} (hx:A4 xs):FG (C5 (Bk ks.objs) AU) xs=AX (BJ (Ak ks.st.objs)) (AJ xs):=by
 rw[LM _ hx];congr 1;funext nm;exact ap h nm
theorem Hs (h:ks.Ok) (ps:List RX):ps.map (RX.ev ks.st.tmps)=AJ (ps.map (RX.kv ks.tmps)):=by
 rw[D7,cc];exact ci fun x _=>GI h x
theorem KT (h:ks.Ok) {ps:List RX} (hx:ps.all Ew=true):A4 (ps.map (RX.kv ks.tmps)):=CO.2 fun v hv=>by
 obtain⟨x,hm,rfl⟩:=bE.1 hv;exact T2 h hx hm
theorem Yl {z:PV} (hz:okV z=true) (n:Nat):Ao (List.replicate n z)=true:=Ey.2 fun x hx=>by rw[(List.mem_replicate.1 hx).2];exact hz
theorem WS {z:List PV} (hz:Ao z=true):A4 (z.map HK):=CO.2 fun v hv=>by
 obtain⟨x,hm,rfl⟩:=bE.1 hv;exact X5 (Ey.1 hz x hm)
theorem XC (z:List PV):AJ (z.map HK)=z:=by
 rw[D7,cc];have:KV.pv∘HK=id:=funext fun v=>X4 v;rw[this,List.map_id]
theorem Sz {k v:PV}:∀ {es es':List PV},GO k v es=some es'->Ao es=true->okV k=true->okV v=true->Ao es'=true
 | [],es',h,_,hk,hv=>by simp[GO] at h;subst h;simp[Ao,hk,hv]
 | [_],es',h,_,_,_=>by simp[GO] at h
 | a :: u :: es,es',h,he,hk,hv=>by
  simp only[Ao,bB] at he;simp only[GO] at h;split at h;·cases h;simp[Ao,hk,hv,he.2.2]
  ·obtain⟨l,hl,rfl⟩:=bD.1 h;simp[Ao,he.1,he.2.1,Sz hl he.2.2 hk hv]
  ·cases h
end Go.Ab


namespace Go.Ab
variable {ks:Az} {d:Nat} {R:Type} {K:Aw->Option R} {r:R}
theorem cells_agg (cs:List PV):(PV.agg cs).cells=cs:=rfl
theorem execK_ok {cfg:Dx} (h:ks.Ok) {op:Ax} (hq:(ES ks.objs||MU cfg op ks.tmps)=true) (hx:op.xs.all Ew=true) (hk:Cs d (Bk ks.objs) ks.tmps op K=some r):Tells K r (exec d (Ak ks.st.objs) ks.st.tmps op):=by
 have ev:=GI h;have lk:=GY h;have hkv:∀ {x:RX},x∈op.xs->(x.kv ks.tmps).ok:=fun hm=>T2 h hx hm;cases op with
 | mov x =>
  refine⟨_,hk,Aw.plain (hkv (by simp[Ax.xs])),?_⟩;simp[exec,Aw.out,ev]
 | pick c a b =>
  have ha:=hkv (x:=a) (by simp[Ax.xs]);have hb:=hkv (x:=b) (by simp[Ax.xs]);simp only[Cs] at hk;split at hk
  ·rename_i hc;exact⟨_,hk,Aw.plain ha,by simp[exec,Aw.out,ev,hc,KV.pv]⟩
  ·rename_i hc;exact⟨_,hk,Aw.plain hb,by simp[exec,Aw.out,ev,hc,KV.pv]⟩
  ·rename_i v hc;rcases Pp hk with ⟨rfl,hk⟩ | ⟨rfl,hk⟩;·exact⟨_,hk,Aw.plain ha,by simp[exec,Aw.out,ev,hc,KV.pv]⟩
   ·exact⟨_,hk,Aw.plain hb,by simp[exec,Aw.out,ev,hc,KV.pv]⟩
  ·cases hk
 | box x =>
  have ha:=hkv (x:=x) (by simp[Ax.xs]);simp only[Cs] at hk;split at hk
  ·rename_i v hv;obtain⟨h1,hk⟩:=Br hk;rw[hv] at ha;unfold A3 at h1;exact⟨_,hk,Aw.one (o:=.whole 0 v) trivial ha,by simp[exec,Aw.out,ev,hv,KV.pv,AC,h1,Aj.ob,CH]⟩
  ·rename_i cs hv;rw[hv] at ha;exact⟨_,hk,Aw.one (o:=.cells 0 cs) trivial ha,by simp[exec,Aw.out,ev,hv,KV.pv,AC,PV.isVal,Aj.ob,PV.cells]⟩
  ·cases hk
  ·cases hk
  ·cases hk
  ·refine⟨_,hk,Aw.one (v:=.ref (d,0) 0) (o:=.cells 0 [x.kv ks.tmps]) trivial ⟨ha,trivial⟩,?_⟩;simp only[exec,Aw.out,ev];cases hy:x.kv ks.tmps<;>simp_all [KV.pv,AC,PV.isVal,Aj.ob,PV.cells,AJ]
 | alloc ty z =>
  simp only[Cs] at hk;split at hk
  ·rename_i hz;exact⟨_,hk,Aw.one (o:=.cells _ (z.map HK)) trivial (WS hz),by simp[exec,Aw.out,KV.pv,Aj.ob,XC]⟩
  ·cases hk
 | build z ps =>
  simp only[Cs] at hk;split at hk;·exact Dv h hx hk
  ·split at hk
   ·rename_i hz;obtain⟨cs,h1,h2,h3⟩:=kfill_ok h ps (fun x hm=>bP.1 hx x hm) (WS hz) hk;rw[XC] at h3;exact⟨_,h1,Aw.plain (v:=.agg cs) h2,by simp[exec,Aw.out,h3,KV.pv]⟩
   ·cases hk
 | mkSl k ps =>
  have hok:=KT h (ps:=ps) hx;simp only[Cs] at hk;split at hk
  ·rename_i vs hv;obtain⟨h1,hk⟩:=Br hk;have hpv:=JI hv;refine⟨_,hk,Aw.one (o:=.arr k 0 vs) trivial (IE hok hv),?_⟩;have hn:(AQ vs).isEmpty=true:=by rw[(CL (IE hok hv)).1];rfl
   unfold AY at h1;simp only[exec,Hs h,hpv,hn,if_true,Aw.out,KV.pv,Aj.ob,AC,h1,Ai,bz,bC,dE]
  ·split at hk;·cases hk
   ·rename_i hne;split at hk
    ·rename_i hc;obtain⟨h1,hk⟩:=Br hk;refine⟨_,hk,⟨trivial,?_,by simp,by simp⟩,?_⟩
     ·intro o ho;simp only[cj] at ho;subst ho;exact Je (Lw (Dg h) (M9 (by simpa[MU] using hq)) AU) hok hc.2
     ·have hne':(AQ (AJ (ps.map (RX.kv ks.tmps)))).isEmpty=false:=by rw[SP hok];simpa using hne
      unfold AY at h1;rw[Nx h hok] at h1;have hsh:=hc.1;rw[Hn (Dg h),LU (Dg h),<-Eh h,<-FA hok] at hsh;simp only[exec,Hs h,hne',bA,if_false,Aw.out,KV.pv,Aj.ob,Ai,bz,bC,dE];rw[Nx h hok,Hn (Dg h),<-Eh h,<-FA hok];unfold AC;rw[h1,hsh];rfl
    ·cases hk
 | load n ag x =>
  have ha:=hkv (x:=x) (by simp[Ax.xs]);simp only[Cs] at hk;split at hk
  ·rename_i nm o hv;split at hk
   ·rename_i cs hl;have hcs:A4 cs:=DA h.ob hl;split at hk
    ·rename_i hag;split at hk
     ·rename_i hle;refine⟨_,hk,Aw.plain (v:=.agg ((cs.drop o).take n)) (Nn (Np hcs _) _),?_⟩;simp[exec,ev,hv,KV.pv,lk,hl,Aj.ob,BE,hag,AC,GV,hle,Aw.out,LP,LQ]
     ·cases hk
    ·rename_i hag;split at hk
     ·rename_i c hc;refine⟨_,hk,Aw.plain (CO.1 hcs c (bQ hc)),?_⟩;simp[exec,ev,hv,KV.pv,lk,hl,Aj.ob,BE,hag,pvL_get?,hc,Aw.out]
     ·cases hk
   ·rename_i v hl;obtain⟨z,hz,hk⟩:=CN hk;have hv':okV v=true:=DA h.ob hl;unfold Am at hz;refine⟨_,hk,Aw.plain (v:=.cv z) (NR (Dm hv') hz),?_⟩;simp[exec,ev,hv,KV.pv,lk,hl,Aj.ob,CH,hz,Aw.out]
   ·cases hk
  ·rename_i nm k i o hv;split at hk
   ·rename_i k' kt xs hl;split at hk
    ·rename_i hkk;obtain⟨z,hz,hk⟩:=CN hk;have hxs:Ao xs=true:=DA h.ob hl;unfold MT at hz;split at hz
     ·rename_i e he;refine⟨_,hk,Aw.plain (v:=.cv z) (NR (Dm (HU hxs he)) hz),?_⟩;simp[exec,ev,hv,KV.pv,lk,hl,Aj.ob,he,hz,AC,hkk,Aw.out]
     ·cases hz
    ·cases hk
   ·cases hk
  ·exact Dv h hx hk
 | store n x v =>
  have ha:=hkv (x:=x) (by simp[Ax.xs]);have hb:=hkv (x:=v) (by simp[Ax.xs]);simp only[Cs] at hk;split at hk
  ·rename_i nm o hv;split at hk
   ·rename_i cs hl;have hcs:A4 cs:=DA h.ob hl;obtain⟨vs,hk,hvs,hpv,hlen,hval⟩:=Ww hb hk;split at hk
    ·rename_i hle;refine⟨_,hk,Aw.turn (o:=.cells _ (cs.take o++vs++cs.drop (o+n))) trivial (Ki (Ki (Nn hcs _) hvs) (Np hcs _)),?_⟩;have hl2:(AJ vs).length=n:=by rw[GV,hlen]
     simp[exec,ev,hv,KV.pv,lk,hl,Aj.ob,<-hpv,hval,hl2,AC,GV,hle,Aw.out,splice,O8,LP,LQ]
    ·cases hk
   ·rename_i w hl;split at hk
    ·rename_i u hu;obtain⟨h1,hk⟩:=Br hk;have hw:okV w=true:=DA h.ob hl;have huo:=KV.cl_ok hb hu;unfold QB at h1;simp only[bB,decide_eq_true_eq] at h1;refine⟨_,hk,Aw.turn (o:=.whole _ (Gm u w o)) trivial ?_,?_⟩
     ·show okV (Gm u w o)=true;simpa[Gm,okV,splice] using HQ (Hm (Dm hw) o) (HQ (Dm huo) (Im (Dm hw) _))
     ·have hpv:=KV.cl_pv hu;simp[exec,ev,hv,KV.pv,lk,hl,Aj.ob,CH,hpv,h1.1.1,h1.1.2,h1.2,AC,Aw.out,Gm,cells_agg]
    ·cases hk
   ·cases hk
  ·rename_i nm k i o hv;split at hk
   ·rename_i k' kt xs hl;split at hk
    ·rename_i u hu;split at hk
     ·rename_i hkk;obtain⟨ys,hys,hk⟩:=CN hk;have hxs:Ao xs=true:=DA h.ob hl;have huo:=KV.cl_ok hb hu;have hpv:=KV.cl_pv hu;unfold He at hys;split at hys
      ·rename_i es he;obtain⟨h1,h2⟩:=Br hys;cases h2;simp only[bB,decide_eq_true_eq] at h1;have heo:Ao es=true:=by simpa[okV] using HU hxs he
       refine⟨_,hk,Aw.turn (o:=.arr k kt _) trivial ?_,?_⟩
       ·refine WQ hxs i ?_;simpa[okV,splice] using HQ (Hm heo o) (HQ (Dm huo) (Im heo _))
       ·have hn:(AQ u.cells).isEmpty=true:=by rw[(CL (Dm huo)).1];rfl
        simp[exec,ev,hv,KV.pv,lk,hl,Aj.ob,he,hpv,h1.1.1,h1.1.2,h1.2,AC,hkk,Aw.out];rw[(CL (Dm huo)).1]
      ·rename_i e hne he;obtain⟨h1,h2⟩:=Br hys;cases h2;simp only[bB,beq_iff_eq] at h1;refine⟨_,hk,Aw.turn (o:=.arr k kt _) trivial (WQ hxs i huo),?_⟩;have hn:u.names=[]:=(Ez huo).1;simp only[exec,ev,hv,KV.pv,lk,hl,bU,Aj.ob,he,hpv];subst hkk;simp[AC,h1.1.1.1,h1.1.1.2,h1.1.2,h1.2,hn,Aw.out,Aj.ob,KV.pv]
      ·cases hys
     ·cases hk
    ·cases hk
   ·cases hk
  ·cases hk
 | nilck x =>
  have ha:=hkv (x:=x) (by simp[Ax.xs]);simp only[Cs] at hk;split at hk;·rename_i hv;exact⟨_,hk,Aw.plain (by trivial),by simp[exec,ev,hv,KV.pv,Aw.out]⟩
  ·rename_i hv;exact⟨_,hk,Aw.plain (by trivial),by simp[exec,ev,hv,KV.pv,Aw.out]⟩
  ·rename_i hv;rw[hv] at ha;exact⟨_,hk,Aw.plain ha,by simp[exec,ev,hv,KV.pv,Aw.out]⟩
  ·rename_i hv;exact⟨_,hk,Aw.plain (by trivial),by simp[exec,ev,hv,KV.pv,Aw.out]⟩
  ·exact Dv h hx hk
 | bin o c cst x y =>
  simp only[Cs] at hk;split at hk
  ·rename_i nm o' v h1 h2;split at hk
   ·rcases Kn hk with ⟨hc,hk⟩ | ⟨_,hk⟩
    ·split at hc
     ·refine⟨_,hk,Aw.plain (v:=.lit false) trivial,?_⟩;simp[exec,ev,h1,h2,KV.pv,DX,JX,Aw.out]
     ·cases hc
    ·cases hk
   ·rcases Kn hk with ⟨hc,hk⟩ | ⟨_,hk⟩
    ·split at hc
     ·refine⟨_,hk,Aw.plain (v:=.lit true) trivial,?_⟩;simp[exec,ev,h1,h2,KV.pv,DX,JX,Aw.out]
     ·cases hc
    ·cases hk
   ·cases hk
  ·exact Dv h hx hk
 | un o x =>
  cases o with
  | not =>
   simp only[Cs] at hk;split at hk
   ·rename_i b hv;exact⟨_,hk,Aw.plain (v:=.lit (!b)) trivial,by simp[exec,ev,hv,KV.pv,Aw.out]⟩
   ·exact Dv h hx hk
  | _=>exact Dv h hx hk
 | mkI t x =>
  have ha:=hkv (x:=x) (by simp[Ax.xs]);simp only[Cs] at hk;split at hk
  ·rename_i v hv;refine⟨_,hk,Aw.plain (v:=.cv (.iface t v)) ?_,?_⟩
   ·show okV (.iface t v)=true;simpa[okV] using KV.cl_ok ha hv
   ·simp[exec,ev,KV.cl_pv hv,KV.pv,Aw.out]
  ·split at hk;·cases hk
   ·cases hk
   ·cases hk
   ·cases hk
   ·exact⟨_,hk,Aw.plain (v:=.iface t (x.kv ks.tmps)) ha,by simp[exec,ev,KV.pv,Aw.out]⟩
 | mkF f cap =>
  simp only[Cs] at hk;split at hk
  ·refine⟨_,hk,Aw.plain (v:=.fn f (cap.map (RX.kv ks.tmps))) (KT h hx),?_⟩;simp[exec,Aw.out,KV.pv,Hs h]
  ·cases hk
 | mkMap=>exact⟨_,hk,Aw.one (o:=.map []) trivial rfl,by simp[exec,Aw.out,KV.pv,Aj.ob]⟩
 | insert c x k v =>
  have hb:=hkv (x:=k) (by simp[Ax.xs]);have hc:=hkv (x:=v) (by simp[Ax.xs]);simp only[Cs] at hk;split at hk
  ·rename_i nm hv;split at hk
   ·rename_i es kk vv hl h1 h2;obtain⟨es',he,hk⟩:=CN hk;have hes:Ao es=true:=DA h.ob hl;have hko:=KV.cl_ok hb h1;have hvo:=KV.cl_ok hc h2;unfold Hh at he;split at he
    ·rename_i es2 hs;obtain⟨h3,h4⟩:=Br he;cases h4;simp only[bB] at h3;refine⟨_,hk,Aw.turn (o:=.map es') trivial (Sz hs hes hko hvo),?_⟩;have hn:vv.names=[]:=(Ez hvo).1;simp[exec,ev,hv,KV.pv,lk,hl,Aj.ob,KV.cl_pv h1,KV.cl_pv h2,hs,AC,h3.1,h3.2,hn,Aw.out]
    ·cases he
   ·rename_i es kk hl h1 h2;split at hk;·cases hk
    ·rename_i hne;split at hk
     ·rename_i hcond;obtain⟨hsh,hy,hcn⟩:=hcond;obtain⟨es',he,hk⟩:=CN hk;have hes:Ao es=true:=DA h.ob hl;have hko:=KV.cl_ok hb h1;have hok1:A4 [v.kv ks.tmps]:=⟨hc,trivial⟩;have hcl:=Nx h hok1;have hclo:=Je (Lw (Dg h) (M9 (by simpa[MU] using hq)) AU) hok1 hy
      have e1:Aa (FG (C5 (Bk ks.objs) AU) [v.kv ks.tmps]) 0=((v.kv ks.tmps).pv).sub (BJ (Ak ks.st.objs)):=by
       rw[hcl];simp[AJ,AX,Aa]
      have hvo:okV (((v.kv ks.tmps).pv).sub (BJ (Ak ks.st.objs)))=true:=by
       rw[<-e1];rw[hcl] at hclo |-;exact (dQ.1 hclo).1
      rw[e1] at he
      have hn2:((v.kv ks.tmps).pv).names.isEmpty=false:=by
       rw[KV.pv_names hc];simpa[C4] using hne
      have hrch:GD (Bk ks.objs) AU (C4 [v.kv ks.tmps])=A8 (Ak ks.st.objs) AU ((v.kv ks.tmps).pv).names:=by
       rw[Hn (Dg h),<-Eh h,KV.pv_names hc];simp[C4]
      rw[hrch,LU (Dg h),<-Eh h] at hsh;rw[hrch] at hcn hk;have hcn':¬ nm∈A8 (Ak ks.st.objs) AU ((v.kv ks.tmps).pv).names:=fun hm=>by rw[cV.2 hm] at hcn;cases hcn
      unfold Hh at he;split at he
      ·rename_i es2 hs;obtain⟨h3,h4⟩:=Br he;cases h4;simp only[bB] at h3;refine⟨_,hk,⟨trivial,by simp,fun m o' e=>by cases e;exact Sz hs hes hko hvo,by simp⟩,?_⟩;simp[exec,ev,hv,KV.pv,lk,hl,Aj.ob,KV.cl_pv h1,hn2,hs,AC,h3.1,h3.2,hsh,hcn',Aw.out]
      ·cases he
     ·cases hk
   ·cases hk
  ·cases hk
 | lookup c z ok x k =>
  have hb:=hkv (x:=k) (by simp[Ax.xs]);simp only[Cs] at hk;split at hk
  ·rename_i nm hv;split at hk
   ·rename_i es kk hl h1;split at hk
    case isFalse=>cases hk
    rename_i hz;obtain⟨u,hu,hk⟩:=CN hk;have hes:Ao es=true:=DA h.ob hl;unfold QG at hu;split at hu;·cases hu
    ·rename_i r' hr;obtain⟨h3,h4⟩:=Br hu;cases h4
     have hrz:okV (r'.getD z)=true:=by
      cases r' with
      | none=>exact hz
      | some v=>exact S1 hr hes
     refine⟨_,hk,Aw.plain (v:=.cv _) ?_,?_⟩
     ·show okV _=true;split;·simp[okV,Ao,hrz]
      ·exact hrz
     ·simp[exec,ev,hv,KV.pv,lk,hl,Aj.ob,KV.cl_pv h1,hr,AC,h3,Aw.out]
   ·cases hk
  ·exact Dv h hx hk
 | mkS k z l c =>
  simp only[Cs] at hk;split at hk
  ·rename_i lv cv hl hc;split at hk
   ·rename_i hz;obtain⟨n,hn,hk⟩:=CN hk;unfold J3 at hn;split at hn
    ·rename_i a b h1 h2;obtain⟨h3,h4⟩:=Br hn;cases h4;refine⟨_,hk,Aw.one (o:=.arr k 0 (GJ _ z)) trivial (Yl hz.2 _),?_⟩;simp only[bB,decide_eq_true_eq] at h3;simp[exec,ev,KV.cl_pv hl,KV.cl_pv hc,h1,h2,AC,h3.1,h3.2,hz.1,Aw.out,KV.pv,Aj.ob,GJ]
    ·cases hn
   ·cases hk
  ·cases hk
 | slice k x lo hi mx =>
  simp only[Cs] at hk;split at hk
  ·rename_i nm k' o n hv;split at hk
   ·rename_i hc;obtain⟨hkk,hmx,hall⟩:=hc;obtain⟨m,hm,hk⟩:=CN hk;obtain⟨hh,hhi,hk⟩:=CN hk
    have hev:∀ (y:Option RX),(∀ z∈y.toList,z∈lo.toList++hi.toList++mx.toList)->(y.map fun z=>((z.kv ks.tmps).cl).getD .undef)=B6 ks.st.tmps y:=by
     intro y hy;cases y with
     | none=>rfl
     | some z =>
      have:=bP.1 hall z (hy z (by simp));obtain⟨v,hv⟩:=dH.1 this;simp[B6,hv,ev,KV.cl_pv hv]
    rw[hev mx (fun z hz=>by simp only[bW];exact .inr hz)] at hm;rw[hev hi (fun z hz=>by simp only[bW];exact .inl (.inr hz))] at hhi;unfold EX at hm hhi;subst hkk
    have hmx':((mx.map (RX.ev ks.st.tmps)).isNone||(hi.map (RX.ev ks.st.tmps)).isSome)=true:=by
     rcases hmx with e | e
     ·cases mx with
      | none=>rfl
      | some _=>cases e
     ·cases hi with
      | none=>cases e
      | some _=>simp
    have hevO:∀ y:Option RX,B6 ks.st.tmps y=y.map (RX.ev ks.st.tmps):=fun y=>by cases y<;>rfl
    rw[hevO] at hm hhi;cases lo with
    | none =>
     refine⟨_,hk,Aw.plain (v:=.arr nm k o hh) trivial,?_⟩;have hb0:Cn (none:Option PV) 0 hh=some 0:=rfl;simp only[exec,ev,hv,KV.pv,EP,hevO,hm,hhi,dE,hb0,AC,beq_self_eq_true,cN,hmx',if_true,Aw.out];simp
    | some lo' =>
     obtain⟨l,hl,hk⟩:=CN hk;have hlo:=hev (some lo') (by simp);simp only[bU] at hlo;rw[hlo] at hl;unfold EX at hl;rw[hevO] at hl;rcases Kn hk with ⟨h1,hk⟩ | ⟨h1,hk⟩
     ·unfold BG at h1;simp only[bB,N6,L7] at h1;refine⟨_,hk,Aw.plain (v:=.cv (.sl k [] false)) rfl,?_⟩;have h2:hh=l/\0 < l:=h1;simp only[exec,ev,hv,KV.pv,EP,hevO,hm,hhi,hl,AC,beq_self_eq_true,cN,hmx',if_true,Aw.out,if_pos h2];rfl
     ·unfold BG at h1;simp only[Bool.and_eq_false_iff] at h1
      have h2:¬ (hh=l/\0 < l):=by
       rintro ⟨a,b⟩;rcases h1 with h1 | h1;·rw[show Fz hh l=true from N6.2 a] at h1;cases h1
       ·rw[show DL 0 l=true from L7.2 b] at h1;cases h1
      refine⟨_,hk,Aw.plain (v:=.arr nm k (AG o l) (subN hh l)) trivial,?_⟩;simp only[exec,ev,hv,KV.pv,EP,hevO,hm,hhi,hl,AC,beq_self_eq_true,cN,hmx',if_true,Aw.out,if_neg h2,AG,subN];rfl
   ·cases hk
  ·exact Dv h hx hk
 | fieldAddr off x =>
  simp only[Cs] at hk;split at hk;·rename_i hv;exact⟨_,hk,Aw.plain (by trivial),by simp[exec,ev,hv,KV.pv,Aw.out]⟩
  ·rename_i hv;exact⟨_,hk,Aw.plain (by trivial),by simp[exec,ev,hv,KV.pv,Aw.out]⟩
  ·exact Dv h hx hk
 | field off n ag x =>
  have ha:=hkv (x:=x) (by simp[Ax.xs]);simp only[Cs] at hk;split at hk
  ·rename_i cs hv;rw[hv] at ha;have hcs:A4 cs:=ha;split at hk
   ·rename_i hag;split at hk
    ·rename_i hle;refine⟨_,hk,Aw.plain (v:=.agg ((cs.drop off).take n)) (Nn (Np hcs _) _),?_⟩;simp[exec,ev,hv,KV.pv,BE,hag,AC,GV,hle,Aw.out,LP,LQ]
    ·cases hk
   ·rename_i hag;split at hk
    ·rename_i c hc;refine⟨_,hk,Aw.plain (CO.1 hcs c (bQ hc)),?_⟩;simp[exec,ev,hv,KV.pv,BE,hag,pvL_get?,hc,Aw.out]
    ·cases hk
  ·exact Dv h hx hk
 | idxAddr k x i =>
  simp only[Cs] at hk;split at hk
  ·rename_i nm k' o n hv;split at hk
   ·rename_i iv hi;split at hk
    ·rename_i hkk;obtain⟨j,hj,hk⟩:=CN hk;obtain⟨h1,hk⟩:=Br hk;rw[L7] at h1;unfold FO at hj;refine⟨_,hk,Aw.plain (v:=.aref nm k (AG o j) 0) trivial,?_⟩;simp[exec,ev,hv,KV.pv,KV.cl_pv hi,hj,AC,hkk,h1,Aw.out,AG]
    ·cases hk
   ·cases hk
  ·exact Dv h hx hk
 | extract j x =>
  have ha:=hkv (x:=x) (by simp[Ax.xs]);simp only[Cs] at hk;split at hk
  ·rename_i xs hv;rw[hv] at ha;have hxs:A4 xs:=ha;split at hk
   ·rename_i v hj;refine⟨_,hk,Aw.plain (CO.1 hxs v (bQ hj)),?_⟩;simp[exec,ev,hv,KV.pv,pvL_get?,hj,Aw.out]
   ·cases hk
  ·exact Dv h hx hk
 | len c x =>
  simp only[Cs] at hk;split at hk
  ·rename_i nm k o n hv;split at hk;·exact⟨_,hk,Aw.plain (v:=.cv (nI n)) rfl,by simp[exec,ev,hv,KV.pv,IJ,Aw.out,nI]⟩
   ·cases hk
  ·rename_i nm hv;split at hk
   ·rename_i es hl;exact⟨_,hk,Aw.plain (v:=.cv (nI (halfN (Ai es)))) rfl,by simp[exec,ev,hv,KV.pv,IJ,lk,hl,Aj.ob,Aw.out,nI,halfN,Ai]⟩
   ·cases hk
  ·exact Dv h hx hk
 | append k ty s x =>
  have ha:=hkv (x:=s) (by simp[Ax.xs]);have hb:=hkv (x:=x) (by simp[Ax.xs]);simp only[Cs] at hk;obtain⟨ys,hk,hyo,hys⟩:=SN h hb hk;split at hk
  ·rename_i nm k' o n hv;split at hk
   ·rename_i k'' kt xs hl;split at hk
    ·rename_i hkk;obtain⟨rfl,rfl,rfl⟩:=hkk;obtain⟨h1,hk⟩:=Br hk;unfold BG at h1;simp only[bB,NY,Ai,AG] at h1;have hxs:Ao xs=true:=DA h.ob hl;refine⟨_,hk,⟨trivial,by simp,?_,by simp⟩,?_⟩;·intro m o' e;cases e;exact HQ (Hm hxs n) hyo
     ·simp[exec,ev,hys,hv,KV.pv,lk,hl,Aj.ob,AC,h1.1,h1.2,Aw.out,AG,Ai,BC,AE]
    ·cases hk
   ·cases hk
  ·rename_i hv;obtain⟨h1,hk⟩:=Br hk;simp only[NY,Ai] at h1;exact⟨_,hk,Aw.one (o:=.arr k ty ys) trivial hyo,by simp[exec,ev,hys,hv,KV.pv,AC,h1,Aw.out,Aj.ob,Ai]⟩
  ·rename_i v hv;obtain⟨zs,hz,hk2⟩:=CN hk;rw[hv] at ha;have hvo:okV v=true:=ha;unfold appO at hz;split at hz
   ·obtain⟨h1,h2⟩:=Br hz;cases h2;exact⟨_,hk2,Aw.one (o:=.arr k ty ys) trivial hyo,by simp at h1;simp[exec,ev,hys,hv,KV.pv,AC,h1,Aw.out,Aj.ob,Ai]⟩
   ·rename_i k' xs;split at hz;·cases hz
    ·rename_i y ys';obtain⟨h1,h2⟩:=Br hz;cases h2;simp only[bB,beq_iff_eq,decide_eq_true_eq] at h1;obtain⟨rfl,h1⟩:=h1;refine⟨_,hk2,Aw.one (o:=.arr k ty (xs++y :: ys')) trivial (HQ (by simpa[okV] using hvo) hyo),?_⟩;simp[exec,ev,hys,hv,KV.pv,AC,h1,Aw.out,Aj.ob,Ai]
   ·cases hz
  ·cases hk
 | copy k x s =>
  have ha:=hkv (x:=x) (by simp[Ax.xs]);have hb:=hkv (x:=s) (by simp[Ax.xs]);simp only[Cs] at hk;obtain⟨ys,hk,hyo,hys⟩:=SN h hb hk;split at hk
  ·rename_i nm k' o n hv;split at hk
   ·rename_i k'' kt xs hl;split at hk
    ·rename_i hkk;obtain⟨rfl,rfl⟩:=hkk;obtain⟨h1,hk⟩:=Br hk;simp only[NY,Ai,AG] at h1;have hxs:Ao xs=true:=DA h.ob hl;refine⟨_,hk,Aw.turn (o:=.arr k kt _) rfl (HQ (HQ (Hm hxs o) (Hm hyo n)) (Im hxs _)),?_⟩;simp[exec,ev,hys,hv,KV.pv,lk,hl,Aj.ob,AC,h1,Aw.out,AG,Ai,BC,AE,AS,nI,minN];omega
    ·cases hk
   ·cases hk
  ·rename_i hv;exact⟨_,hk,Aw.plain (v:=.cv (nI 0)) rfl,by simp[exec,ev,hys,hv,KV.pv,Aw.out,nI]⟩
  ·cases hk
 | iter x =>
  simp only[Cs] at hk;split at hk
  ·rename_i v hv;obtain⟨s,hs,hk⟩:=CN hk;unfold strO at hs;split at hs
   ·cases hs;exact⟨_,hk,Aw.one (o:=.siter s 0) trivial trivial,by simp[exec,ev,KV.cl_pv hv,Aw.out,KV.pv,Aj.ob]⟩
   ·cases hs
  ·cases hk
 | next x =>
  simp only[Cs] at hk;split at hk
  ·rename_i nm hv;split at hk
   ·rename_i s pos hl;rcases Kn hk with ⟨h1,hk⟩ | ⟨h1,hk⟩
    ·rw[L7] at h1;unfold lenS at h1;refine⟨_,hk,Aw.turn (o:=.siter s (AG pos (runeN s pos))) (v:=.tup [.lit true,.cv (nI pos),.cv (runeP s pos)]) ⟨trivial,rfl,rfl,trivial⟩ trivial,?_⟩;simp[exec,ev,hv,KV.pv,lk,hl,Aj.ob,h1,Aw.out,AJ,nI,runeP,runeN,AG]
    ·have h2:¬ pos < s.length:=by
      intro h3;rw[show DL pos (lenS s)=true from L7.2 h3] at h1;cases h1
     refine⟨_,hk,Aw.plain (v:=.tup [.lit false]) ⟨trivial,trivial⟩,?_⟩;simp[exec,ev,hv,KV.pv,lk,hl,Aj.ob,h2,Aw.out,AJ]
   ·cases hk
  ·cases hk
 | tassert t z ok x =>
  have ha:=hkv (x:=x) (by simp[Ax.xs]);simp only[Cs] at hk;split at hk
  ·rename_i u y hv;rw[hv] at ha;have hy:y.ok:=ha;split at hk
   ·rename_i hut;refine⟨_,hk,Aw.plain ?_,?_⟩
    ·split;·exact⟨hy,trivial,trivial⟩
     ·exact hy
    ·simp only[exec,ev,hv,KV.pv,hut,if_true,Aw.out];cases ok<;>simp[KV.pv,AJ]
   ·rename_i hut;split at hk
    ·rename_i hz;refine⟨_,hk,Aw.plain (v:=.tup [.cv z,.lit false]) ⟨hz.2,trivial,trivial⟩,?_⟩;simp[exec,ev,hv,KV.pv,hut,AC,hz.1,Aw.out,AJ]
    ·cases hk
  ·exact Dv h hx hk
 | call f args=>cases hk
 | bad=>cases hk
 | conv k x=>exact Dv h hx hk
 | toBytes x=>exact Dv h hx hk
 | ofBytes x =>
  have ha:=hkv (x:=x) (by simp[Ax.xs]);simp only[Cs] at hk;split at hk
  ·rename_i nm k o n hv;rw[hv] at ha;obtain⟨ys,hk,hyo,hys⟩:=SN h ha hk;obtain⟨z,hz,hk⟩:=CN hk;simp only[Ad,exec,RX.ev,QO,ck,AC,if_true,elems,beq_self_eq_true] at hz;cases hb:GA ys with
   | none=>rw[hb] at hz;cases hz
   | some s =>
    rw[hb] at hz;cases hz;refine⟨_,hk,Aw.plain (v:=.cv (.str s)) rfl,?_⟩;have hys':elems (Ak ks.st.objs) 1 (.arr nm k o n)=some ys:=hys;simp[exec,ev,hv,KV.pv,QO,AC,hys',hb,Aw.out]
  ·exact Dv h hx hk
 | ofRune x=>exact Dv h hx hk
 | strId x=>exact Dv h hx hk
 | strSlice x lo hi=>exact Dv h hx hk
 | idxAddrA k l x i=>exact Dv h hx hk
 | strIdx x i=>exact Dv h hx hk
 | minmax mx xs=>exact Dv h hx hk
end Go.Ab


namespace Go.Ab
theorem Aj.ren_ob (f:Nm->Nm) {o:Aj} (h:o.ok):(o.ren f).ob=o.ob.ren f:=by
 cases o with
 | cells ty cs=>simp[Aj.ren,Aj.ob,Ob.ren,L4 f h]
 | whole ty v =>
  have:=(CL (Dm h)).1;simp only[Aj.ren,Aj.ob,Ob.ren,CH];rw[Nj this]
 | _=>rfl
theorem Aj.ren_ok (f:Nm->Nm) {o:Aj} (h:o.ok):(o.ren f).ok:=by
 cases o with
 | cells ty cs=>exact LV f h
 | _=>exact h
theorem UK (f:Nm->Nm) (xs ys:List PV):Bt f (xs++ys)=Bt f xs++Bt f ys:=by
 induction xs with
 | nil=>rfl
 | cons x xs ih=>simp[Bt,ih]
def CY (vs:List PV) (i:Nat) (l:List PV):Prop:=∀ m v,l[m]?=some v->Aa vs (i+m)=v
theorem CY.left {vs:List PV} {i:Nat} {a b:List PV} (h:CY vs i (a++b)):CY vs i a:=fun m v hm=>h m v (by
 rw[dm (bL.1 hm).1];exact hm)
theorem CY.right {vs:List PV} {i:Nat} {a b:List PV} (h:CY vs i (a++b)):CY vs (i+a.length) b:=fun m v hm=>by
 have:=h (a.length+m) v (by rw[dO (by omega)];simpa using hm);rw[<-this,dY]
theorem CY.head {vs:List PV} {i:Nat} {x:PV} {l:List PV} (h:CY vs i (x :: l)):Aa vs i=x:=h 0 x rfl
theorem CY.all (vs:List PV):CY vs 0 vs:=fun m v hm=>by
 unfold Aa;rw[bI,cd,hm];rfl
theorem NX {x:KV} (hx:x.ok) (hf:x.cl.isSome=true) {vs:List PV} {i:Nat} (h:CY vs i [x.cl.getD .undef]):(KV.cv (Aa vs i)).pv=x.pv/\(KV.cv (Aa vs i)).ok:=by
 obtain⟨v,hv⟩:=dH.1 hf;have:=h.head;rw[hv] at this;simp only[cr] at this;rw[this];exact⟨(KV.cl_pv hv).symm,KV.cl_ok hx hv⟩
theorem Xu {p:KV} {vs:List PV} {i:Nat} (h:EF p=false):EF (fill p vs i).1=false:=by
 cases p<;>simp[EF] at h<;>simp only[fill]<;>first | rfl | (split<;>rfl)
mutual
theorem TB:∀ (p x:KV),Bo p x=true->x.ok->∀ (vs:List PV) (i:Nat),CY vs i (B5 p x)->(fill p vs i).1.pv=x.pv/\(fill p vs i).1.ok/\(fill p vs i).2=i+(B5 p x).length
 | .un,x,h,_,vs,i,_=>by cases x<;>simp[Bo] at h;exact⟨rfl,trivial,rfl⟩
 | .sk,x,h,_,vs,i,_=>by cases x<;>simp[Bo] at h;exact⟨rfl,trivial,rfl⟩
 | .yld d,x,h,_,vs,i,hs=>by
  cases x with
  | yld d' =>
   have h1:Aa vs i=nI d':=hs.head;simp[fill,KV.pv,h1,nI,An,KV.ok,B5]
  | _=>simp[Bo] at h
 | .ref nm o,x,h,_,vs,i,_=>by cases x<;>simp[Bo] at h;obtain⟨rfl,rfl⟩:=h;exact⟨rfl,trivial,rfl⟩
 | .aref _ _ _ _,x,h,_,vs,i,_=>by simp[Bo] at h
 | .mp nm,x,h,_,vs,i,_=>by cases x<;>simp[Bo] at h;subst h;exact⟨rfl,trivial,rfl⟩
 | .it nm,x,h,_,vs,i,_=>by cases x<;>simp[Bo] at h;subst h;exact⟨rfl,trivial,rfl⟩
 | .wit nm,x,h,_,vs,i,_=>by cases x<;>simp[Bo] at h;subst h;exact⟨rfl,trivial,rfl⟩
 | .arr nm k o n,x,h,_,vs,i,hs=>by
  cases x with
  | arr nm' k' o' n' =>
   simp only[Bo,bB,beq_iff_eq] at h;obtain⟨⟨rfl,rfl⟩,ho⟩:=h;have:=dv ho;subst this;have h1:Aa vs i=nI n':=hs.head;simp[fill,KV.pv,h1,nI,An,KV.ok,B5]
  | _=>simp[Bo] at h
 | .lit b,x,h,hx,vs,i,hs=>by
  have:=NX hx (by simpa[Bo] using h) (by simpa[B5] using hs);exact⟨this.1,this.2,by simp[fill,B5]⟩
 | .nils,x,h,hx,vs,i,hs=>by
  have:=NX hx (by simpa[Bo] using h) (by simpa[B5] using hs);exact⟨this.1,this.2,by simp[fill,B5]⟩
 | .cv v,x,h,hx,vs,i,hs=>by
  have:=NX hx (by simpa[Bo] using h) (by simpa[B5] using hs);exact⟨this.1,this.2,by simp[fill,B5]⟩
 | .fn f cap,x,h,hx,vs,i,hs=>by
  cases x with
  | fn f' cap' =>
   simp only[Bo,bB,beq_iff_eq] at h;obtain⟨rfl,h⟩:=h;obtain⟨a,b,c⟩:=LW cap cap' h hx vs i (by simpa[B5] using hs);exact⟨by simp[fill,KV.pv,a],b,by simp[fill,B5,c]⟩
  | _=>simp[Bo] at h
 | .tup xs,x,h,hx,vs,i,hs=>by
  cases x with
  | tup ys =>
   simp only[Bo] at h;obtain⟨a,b,c⟩:=LW xs ys h hx vs i (by simpa[B5] using hs);exact⟨by simp[fill,KV.pv,a],b,by simp[fill,B5,c]⟩
  | _=>simp[Bo] at h
 | .agg cs,x,h,hx,vs,i,hs=>by
  simp only[Bo] at h;simp only[B5] at hs;by_cases hc:(Dz cs).isSome=true
  ·rw[if_pos hc] at h hs;have:=NX hx h hs;simp only[fill,hc,if_true];exact⟨this.1,this.2,by simp[B5,hc]⟩
  ·rw[if_neg hc] at h hs;cases x with
   | agg cs' =>
    obtain⟨a,b,c⟩:=LW cs cs' h hx vs i hs;simp only[fill,if_neg hc];exact⟨by simp[KV.pv,a],b,by simp[B5,hc,c]⟩
   | _=>simp at h
 | .iface t y,x,h,hx,vs,i,hs=>by
  simp only[Bo] at h;simp only[B5] at hs;by_cases hc:y.cl.isSome=true
  ·rw[if_pos hc] at h hs;have:=NX hx h hs;simp only[fill,hc,if_true];exact⟨this.1,this.2,by simp[B5,hc]⟩
  ·rw[if_neg hc] at h hs;cases x with
   | iface t' y' =>
    simp only[bB,beq_iff_eq] at h;obtain⟨rfl,h⟩:=h;obtain⟨a,b,c⟩:=TB y y' h hx vs i hs;simp only[fill,if_neg hc];exact⟨by simp[KV.pv,a],b,by simp[B5,hc,c]⟩
   | _=>simp at h
theorem LW:∀ (ps xs:List KV),DZ ps xs=true->A4 xs->∀ (vs:List PV) (i:Nat),CY vs i (F7 ps xs)->AJ (CI ps vs i).1=AJ xs/\A4 (CI ps vs i).1/\(CI ps vs i).2=i+(F7 ps xs).length
 | [],xs,h,_,vs,i,_=>by cases xs<;>simp[DZ] at h;exact⟨rfl,trivial,rfl⟩
 | p :: ps,xs,h,hx,vs,i,hs=>by
  cases xs with
  | nil=>simp[DZ] at h
  | cons x xs =>
   simp only[DZ,bB] at h;simp only[F7] at hs;obtain⟨a,b,c⟩:=TB p x h.1 hx.1 vs i hs.left;obtain⟨a',b',c'⟩:=LW ps xs h.2 hx.2 vs (fill p vs i).2 (by rw[c];exact hs.right);refine⟨by simp[CI,AJ,a,a'],⟨b,b'⟩,?_⟩;simp only[CI,F7,cm];rw[c',c];omega
end
theorem fillOb_ok (p x:Aj) (h:Db p x=true) (hx:x.ok) (vs:List PV) (i:Nat) (hs:CY vs i (GX p x)):(Ch p vs i).1.ob=x.ob/\(Ch p vs i).1.ok/\(Ch p vs i).2=i+(GX p x).length:=by
 cases p with
 | cells ty cs =>
  cases x with
  | cells ty' cs' =>
   simp only[Db,bB,beq_iff_eq] at h;obtain⟨rfl,h⟩:=h;obtain⟨a,b,c⟩:=LW cs cs' h hx vs i (by simpa[GX] using hs);exact⟨by simp[Ch,Aj.ob,a],b,by simp[Ch,GX,c]⟩
  | _=>simp[Db] at h
 | whole ty w =>
  cases x with
  | whole ty' v =>
   simp only[Db,beq_iff_eq] at h;subst h;have:Aa vs i=v:=hs.head;exact⟨by simp[Ch,Aj.ob,this],by simp only[Ch,this];exact hx,by simp[Ch,GX]⟩
  | _=>simp[Db] at h
 | arr k kt ws =>
  cases x with
  | arr k' kt' xs =>
   simp only[Db,bB,beq_iff_eq] at h;obtain⟨rfl,rfl⟩:=h;have:Aa vs i=.sl k xs false:=hs.head;exact⟨by simp[Ch,Aj.ob,this,Av],by simp only[Ch,this,Av];exact hx,by simp[Ch,GX]⟩
  | _=>simp[Db] at h
 | map ws =>
  cases x with
  | map es =>
   have:Aa vs i=.imap es:=hs.head;exact⟨by simp[Ch,Aj.ob,this,Lg],by simp only[Ch,this,Lg];exact hx,by simp[Ch,GX]⟩
  | _=>simp[Db] at h
 | siter s0 p0 =>
  cases x with
  | siter s pos =>
   have h1:Aa vs i=.str s:=hs.head;have h2:Aa vs (i+1)=nI pos:=hs 1 _ rfl;exact⟨by simp[Ch,Aj.ob,h1,h2,strP,An,nI],trivial,by simp[Ch,GX]⟩
  | _=>simp[Db] at h
theorem Sj:∀ (ps xs:List Aj),El ps xs=true->(∀ o∈xs,o.ok)->∀ (vs:List PV) (i:Nat),CY vs i (Io ps xs)->(CF ps vs i).1.map Aj.ob=xs.map Aj.ob/\(∀ o∈(CF ps vs i).1,o.ok)/\(CF ps vs i).2=i+(Io ps xs).length
 | [],[],_,_,vs,i,_=>⟨rfl,by simp[CF],rfl⟩
 | [],_ :: _,h,_,_,_,_=>by simp[El] at h
 | _ :: _,[],h,_,_,_,_=>by simp[El] at h
 | p :: ps,x :: xs,h,hx,vs,i,hs=>by
  simp only[El,bB] at h;simp only[Io] at hs;obtain⟨a,b,c⟩:=fillOb_ok p x h.1 (hx x (by simp)) vs i hs.left;obtain⟨a',b',c'⟩:=Sj ps xs h.2 (fun o ho=>hx o (by simp[ho])) vs (Ch p vs i).2 (by rw[c];exact hs.right);refine⟨by simp[CF,a,a'],?_,?_⟩
  ·intro o ho;simp only[CF,bH] at ho;rcases ho with rfl | ho;·exact b
   ·exact b' o ho
  ·simp only[CF,Io,cm];rw[c',c];omega
mutual
theorem SG:∀ (p:KV) (x:PV) {l:List PV},Cb p x=some l->∀ (vs:List PV) (i:Nat),CY vs i l->(fill p vs i).1.pv=x/\(fill p vs i).1.ok/\(fill p vs i).2=i+l.length
 | .un,x,l,h,vs,i,_=>by cases x<;>simp[Cb] at h;subst h;exact⟨rfl,trivial,rfl⟩
 | .sk,x,l,h,vs,i,_=>by
  simp only[Cb] at h;split at h;·cases h;exact⟨rfl,trivial,rfl⟩
  ·cases h
 | .yld d,x,l,h,vs,i,hs=>by
  cases x with
  | yld d' =>
   simp only[Cb] at h;cases h;have h1:Aa vs i=nI d':=hs.head;simp[fill,KV.pv,h1,nI,An,KV.ok]
  | _=>simp[Cb] at h
 | .aref _ _ _ _,x,l,h,vs,i,_=>by simp[Cb] at h
 | .wit nm,x,l,h,vs,i,_=>by
  simp only[Cb] at h;split at h
  ·obtain⟨h1,h2⟩:=Br h;simp at h1 h2;subst h1;subst h2;exact⟨rfl,trivial,rfl⟩
  ·cases h
 | .ref nm o,x,l,h,vs,i,_=>by
  cases x<;>simp[Cb] at h;obtain⟨h1,h2⟩:=Br h;simp at h1 h2;obtain⟨rfl,rfl⟩:=h1;subst h2;exact⟨rfl,trivial,rfl⟩
 | .mp nm,x,l,h,vs,i,_=>by
  cases x<;>simp[Cb] at h;obtain⟨h1,h2⟩:=Br h;simp at h1 h2;subst h1;subst h2;exact⟨rfl,trivial,rfl⟩
 | .it nm,x,l,h,vs,i,_=>by
  cases x<;>simp[Cb] at h;obtain⟨h1,h2⟩:=Br h;simp at h1 h2;subst h1;subst h2;exact⟨rfl,trivial,rfl⟩
 | .arr nm k o n,x,l,h,vs,i,hs=>by
  cases x with
  | arr nm' k' o' n' =>
   simp only[Cb] at h;obtain⟨h1,h2⟩:=Br h;cases h2;simp only[bB,beq_iff_eq] at h1;obtain⟨⟨rfl,rfl⟩,ho⟩:=h1;have:=dv ho;subst this;have h1:Aa vs i=nI n':=hs.head;simp[fill,KV.pv,h1,nI,An,KV.ok]
  | _=>simp[Cb] at h
 | .lit b,x,l,h,vs,i,hs=>by
  simp only[Cb] at h;obtain⟨h1,h2⟩:=Br h;cases h2;have:=hs.head;exact⟨this,by simp only[fill,KV.ok,this];exact h1,rfl⟩
 | .nils,x,l,h,vs,i,hs=>by
  simp only[Cb] at h;obtain⟨h1,h2⟩:=Br h;cases h2;have:=hs.head;exact⟨this,by simp only[fill,KV.ok,this];exact h1,rfl⟩
 | .cv v,x,l,h,vs,i,hs=>by
  simp only[Cb] at h;obtain⟨h1,h2⟩:=Br h;cases h2;have:=hs.head;exact⟨this,by simp only[fill,KV.ok,this];exact h1,rfl⟩
 | .fn f cap,x,l,h,vs,i,hs=>by
  cases x with
  | fn f' cap' =>
   simp only[Cb] at h;split at h
   ·rename_i hf;subst hf;obtain⟨a,b,c⟩:=Nd cap cap' h vs i hs;exact⟨by simp[fill,KV.pv,a],b,c⟩
   ·cases h
  | _=>simp[Cb] at h
 | .tup xs,x,l,h,vs,i,hs=>by
  cases x with
  | tup ys =>
   simp only[Cb] at h;obtain⟨a,b,c⟩:=Nd xs ys h vs i hs;exact⟨by simp[fill,KV.pv,a],b,c⟩
  | _=>simp[Cb] at h
 | .agg cs,x,l,h,vs,i,hs=>by
  simp only[Cb] at h;by_cases hc:(Dz cs).isSome=true
  ·rw[if_pos hc] at h;obtain⟨h1,h2⟩:=Br h;cases h2;have:=hs.head;simp only[fill,hc,if_true];exact⟨this,by simp only[KV.ok,this];exact h1,rfl⟩
  ·rw[if_neg hc] at h;cases x with
   | agg cs' =>
    obtain⟨a,b,c⟩:=Nd cs cs' h vs i hs;simp only[fill,if_neg hc];exact⟨by simp[KV.pv,a],b,c⟩
   | _=>simp at h
 | .iface t y,x,l,h,vs,i,hs=>by
  simp only[Cb] at h;by_cases hc:y.cl.isSome=true
  ·rw[if_pos hc] at h;obtain⟨h1,h2⟩:=Br h;cases h2;have:=hs.head;simp only[fill,hc,if_true];exact⟨this,by simp only[KV.ok,this];exact h1,rfl⟩
  ·rw[if_neg hc] at h;cases x with
   | iface t' y' =>
    simp only at h;split at h
    ·rename_i ht;subst ht;obtain⟨a,b,c⟩:=SG y y' h vs i hs;simp only[fill,if_neg hc];exact⟨by simp[KV.pv,a],b,c⟩
    ·cases h
   | _=>simp at h
theorem Nd:∀ (ps:List KV) (xs:List PV) {l:List PV},HA ps xs=some l->∀ (vs:List PV) (i:Nat),CY vs i l->AJ (CI ps vs i).1=xs/\A4 (CI ps vs i).1/\(CI ps vs i).2=i+l.length
 | [],xs,l,h,vs,i,_=>by cases xs<;>simp[HA] at h;subst h;exact⟨rfl,trivial,rfl⟩
 | p :: ps,xs,l,h,vs,i,hs=>by
  cases xs with
  | nil=>simp[HA] at h
  | cons y ys =>
   simp only[HA] at h;split at h
   ·rename_i a b ha hb;cases h;obtain⟨a1,a2,a3⟩:=SG p y ha vs i hs.left;obtain⟨b1,b2,b3⟩:=Nd ps ys hb vs (fill p vs i).2 (by rw[a3];exact hs.right);refine⟨by simp[CI,AJ,a1,b1],⟨a2,b2⟩,?_⟩;simp only[CI,cm];rw[b3,a3];omega
   ·cases h
end
theorem Zp (p:Aj) (x:Ob) {l:List PV} (h:EV p x=some l) (vs:List PV) (i:Nat) (hs:CY vs i l):(Ch p vs i).1.ob=x/\(Ch p vs i).1.ok/\(Ch p vs i).2=i+l.length:=by
 cases p with
 | cells ty cs =>
  cases x with
  | cells ty' cs' =>
   simp only[EV] at h;split at h
   case isFalse=>cases h
   rename_i hty;subst hty;obtain⟨a,b,c⟩:=Nd cs cs' h vs i hs;exact⟨by simp[Ch,Aj.ob,a],b,c⟩
  | _=>simp[EV] at h
 | whole ty w =>
  cases x with
  | cells ty' cs' =>
   simp only[EV] at h;obtain⟨h1,h2⟩:=Br h;cases h2;simp only[bB,beq_iff_eq] at h1;obtain⟨rfl,h1⟩:=h1;have:Aa vs i=.agg cs':=hs.head;exact⟨by simp[Ch,Aj.ob,this,CH,PV.cells],by simp only[Ch,this];simpa[Aj.ok,okV] using h1,rfl⟩
  | _=>simp[EV] at h
 | arr k kt ws =>
  cases x with
  | arr k' kt' xs =>
   simp only[EV] at h;obtain⟨h1,h2⟩:=Br h;cases h2;simp only[bB,beq_iff_eq] at h1;obtain⟨⟨rfl,rfl⟩,h1⟩:=h1;have:Aa vs i=.sl k xs false:=hs.head;exact⟨by simp[Ch,Aj.ob,this,Av],by simp only[Ch,this,Av];exact h1,rfl⟩
  | _=>simp[EV] at h
 | map ws =>
  cases x with
  | map es =>
   simp only[EV] at h;obtain⟨h1,h2⟩:=Br h;cases h2;have:Aa vs i=.imap es:=hs.head;exact⟨by simp[Ch,Aj.ob,this,Lg],by simp only[Ch,this,Lg];exact h1,rfl⟩
  | _=>simp[EV] at h
 | siter s0 p0 =>
  cases x with
  | siter s pos =>
   simp only[EV] at h;cases h;have h1:Aa vs i=.str s:=hs.head;have h2:Aa vs (i+1)=nI pos:=hs 1 _ rfl;exact⟨by simp[Ch,Aj.ob,h1,h2,strP,An,nI],trivial,rfl⟩
  | _=>simp[EV] at h
theorem RJ:∀ (ps:List Aj) (xs:List Ob) {l:List PV},Iv ps xs=some l->∀ (vs:List PV) (i:Nat),CY vs i l->(CF ps vs i).1.map Aj.ob=xs/\(∀ o∈(CF ps vs i).1,o.ok)/\(CF ps vs i).2=i+l.length
 | [],xs,l,h,vs,i,_=>by cases xs<;>simp[Iv] at h;subst h;exact⟨rfl,by simp[CF],rfl⟩
 | p :: ps,xs,l,h,vs,i,hs=>by
  cases xs with
  | nil=>simp[Iv] at h
  | cons y ys =>
   simp only[Iv] at h;split at h
   ·rename_i a b ha hb;cases h;obtain⟨a1,a2,a3⟩:=Zp p y ha vs i hs.left;obtain⟨b1,b2,b3⟩:=RJ ps ys hb vs (Ch p vs i).2 (by rw[a3];exact hs.right);refine⟨by simp[CF,a1,b1],?_,?_⟩
    ·intro o ho;simp only[CF,bH] at ho;rcases ho with rfl | ho;·exact a2
     ·exact b2 o ho
    ·simp only[CF,cm];rw[b3,a3];omega
   ·cases h
mutual
theorem ren_ren (f g:Nm->Nm):∀ (x:PV),(x.ren f).ren g=x.ren fun m=>g (f m)
 | .agg cs=>by simp[PV.ren,Ni f g cs]
 | .iface t x=>by simp[PV.ren,ren_ren f g x]
 | .fn h cap=>by simp[PV.ren,Ni f g cap]
 | .tup xs=>by simp[PV.ren,Ni f g xs]
 | .undef | .bool _ | .int _ _ | .str _ | .nilS | .nilP | .nilF | .nilI | .nilM | .sl _ _ _ | .ptr _ _ | .yld _ | .imap _ | .glob _ _ | .ref _ _ | .aref _ _ _ _ | .arr _ _ _ _ | .mp _ | .it _=>by simp[PV.ren]
theorem Ni (f g:Nm->Nm):∀ (xs:List PV),Bt g (Bt f xs)=Bt (fun m=>g (f m)) xs
 | []=>rfl
 | x :: xs=>by simp[Bt,ren_ren f g x,Ni f g xs]
end
mutual
theorem ren_congr {f g:Nm->Nm}:∀ {x:PV},(∀ m∈x.names,f m=g m)->x.ren f=x.ren g
 | .agg cs,h=>by simp only[PV.ren];rw[M8 (xs:=cs) h]
 | .iface t x,h=>by simp only[PV.ren];rw[ren_congr (x:=x) h]
 | .fn _ cap,h=>by simp only[PV.ren];rw[M8 (xs:=cap) h]
 | .tup xs,h=>by simp only[PV.ren];rw[M8 (xs:=xs) h]
 | .ref nm _,h | .aref nm _ _ _,h | .arr nm _ _ _,h | .mp nm,h | .it nm,h=>by simp only[PV.ren];rw[h nm (by simp[PV.names])]
 | .undef,_ | .bool _,_ | .int _ _,_ | .str _,_ | .nilS,_ | .nilP,_ | .nilF,_ | .nilI,_ | .nilM,_ | .sl _ _ _,_ | .ptr _ _,_ | .yld _,_ | .imap _,_ | .glob _ _,_=>by simp[PV.ren]
theorem M8 {f g:Nm->Nm}:∀ {xs:List PV},(∀ m∈AQ xs,f m=g m)->Bt f xs=Bt g xs
 | [],_=>rfl
 | x :: xs,h=>by
  simp only[Bt];rw[ren_congr (x:=x) fun m hm=>h m (bR _ hm),M8 (xs:=xs) fun m hm=>h m (b7 _ hm)]
end
mutual
theorem cut_names {p:Nm->Bool}:∀ {x:PV} {m:Nm},m∈(x.sub fun m=>if p m then none else some none).names->p m=true
 | .agg cs,m,h=>Nf (xs:=cs) (by simpa[PV.sub,PV.names] using h)
 | .iface t x,m,h=>cut_names (x:=x) (by simpa[PV.sub,PV.names] using h)
 | .fn _ cap,m,h=>Nf (xs:=cap) (by simpa[PV.sub,PV.names] using h)
 | .tup xs,m,h=>Nf (xs:=xs) (by simpa[PV.sub,PV.names] using h)
 | .ref nm _,m,h | .aref nm _ _ _,m,h | .arr nm _ _ _,m,h | .mp nm,m,h | .it nm,m,h=>by
  simp only[PV.sub] at h;cases hp:p nm with
  | true=>simp[hp,PV.names] at h;rw[h];exact hp
  | false=>simp[hp,PV.names] at h
 | .undef,m,h | .bool _,m,h | .int _ _,m,h | .str _,m,h | .nilS,m,h | .nilP,m,h | .nilF,m,h | .nilI,m,h | .nilM,m,h | .sl _ _ _,m,h | .ptr _ _,m,h | .yld _,m,h | .imap _,m,h | .glob _ _,m,h=>by simp[PV.sub,PV.names] at h
theorem Nf {p:Nm->Bool}:∀ {xs:List PV} {m:Nm},m∈AQ (AX (fun m=>if p m then none else some none) xs)->p m=true
 | [],m,h=>by simp[AX,AQ] at h
 | x :: xs,m,h=>by
  simp only[AX,AQ] at h;rcases bW.1 h with h | h;·exact cut_names h
  ·exact Nf h
end
theorem Ob.ren_ren (f g:Nm->Nm) (o:Ob):(o.ren f).ren g=o.ren fun m=>g (f m):=by
 cases o<;>simp[Ob.ren,Ni]
theorem Ob.ren_congr {f g:Nm->Nm} {o:Ob} (h:∀ m∈o.names,f m=g m):o.ren f=o.ren g:=by
 cases o with
 | cells ty cs=>simp only[Ob.ren];rw[M8 h]
 | _=>rfl
theorem Ob.cut_names {p:Nm->Bool} {o:Ob} {m:Nm} (h:m∈(o.sub fun m=>if p m then none else some none).names):p m=true:=by
 cases o with
 | cells ty cs=>exact Nf h
 | _=>simp[Ob.sub,Ob.names] at h
theorem Zf (g:Nm->Nm):∀ (B:List (Nm×Nm)) (m:Nm),(B.map fun p=>(p.1,g p.2)).lookup m=(B.lookup m).map g:=by
 intro B;induction B with
 | nil=>intro m;rfl
 | cons p B ih =>
  obtain⟨a,b⟩:=p;intro m;simp only[bz,eB];split<;>simp_all
theorem Ze {B:List (Nm×Nm)}:∀ {m:Nm},(B.map (·.1)).contains m=true->∃ t,B.lookup m=some t:=by
 induction B with
 | nil=>intro m h;simp at h
 | cons p B ih =>
  obtain⟨a,b⟩:=p;intro m h;rw[eB];split;·exact⟨_,rfl⟩
  ·rename_i hne;refine ih ?_;simp only[bz,List.contains_cons,hne,cU] at h;exact h
theorem ioEnd_ren {R:List Nm} {sl:Option Nat} {d i0:Nat} {st:St} {v:PV} {out:AK} (h:GM none 1 0 (Em R.length) st v=some out) :
  GM sl d i0 R st v=some {v:=out.v.ren (Ca R d i0),new:=out.new.map (Ob.ren (Ca R d i0)),gone:=out.gone.map (Ca R d i0),ups:=R.zip (out.ups.map fun p=>p.2.ren (Ca R d i0)),io:=true,slot:=sl}:=by
 have hcl:(Em R.length).length=R.length:=by simp[Em]
 have hA:FB R st.keep=(FB (Em R.length) st.keep).map fun p=>(p.1,Ca R d i0 p.2):=by
  apply ct;intro i;simp only[FB,bK,dg,cd,Em];by_cases hi:i < R.length
  ·rw[bN hi,cX hi];simp[Ca,bI,bN hi]
  ·rw[co.2 (by omega),co.2 (by simp;omega)];rfl
 have hF:(FB R st.keep).map (·.1)=(FB (Em R.length) st.keep).map (·.1):=by
  rw[hA,cc];rfl
 have hN:KW (Ak st.objs) (FB R st.keep) v=KW (Ak st.objs) (FB (Em R.length) st.keep) v:=by
  unfold KW;rw[hF]
  have:∀ A A':List (Nm×Nm),A.map (·.1)=A'.map (·.1)->(A.flatMap fun p=>((Ak st.objs p.1).map Ob.names).getD [])=A'.flatMap fun p=>((Ak st.objs p.1).map Ob.names).getD []:=by
   intro A A' h
   have e:∀ A:List (Nm×Nm),(A.flatMap fun p=>((Ak st.objs p.1).map Ob.names).getD [])=(A.map (·.1)).flatMap fun m=>((Ak st.objs m).map Ob.names).getD []:=by
    intro A;rw[eV]
   rw[e,e,h]
  rw[this _ _ hF]
 unfold GM at h |-;simp only at h |-;rw[hN];generalize KW (Ak st.objs) (FB (Em R.length) st.keep) v=N at h |-;generalize hA0:FB (Em R.length) st.keep=A0 at h hA;generalize hB0:(A0++N.zipIdx.map fun p=>(p.1,(1,0+p.2)))=B0 at h
 have hB:FB R st.keep++N.zipIdx.map (fun p=>(p.1,(d,i0+p.2)))=B0.map fun p=>(p.1,Ca R d i0 p.2):=by
  rw[<-hB0,di,hA,cc];congr 1;exact ci fun p _=>by simp[Ca]
 rw[hB];have hBf:(B0.map fun p=>(p.1,Ca R d i0 p.2)).map (·.1)=B0.map (·.1):=by rw[cc];rfl
 rw[hBf];obtain⟨h1,h2⟩:=Dq h;cases h2
 have hnm:∀ m,(B0.map (·.1)).contains m=true->((B0.map fun p=>(p.1,Ca R d i0 p.2)).lookup m).getD m=Ca R d i0 ((B0.lookup m).getD m):=by
  intro m hm;obtain⟨t,ht⟩:=Ze hm;rw[Zf,ht];rfl
 have hob:∀ nm,GR (Ak st.objs) (B0.map fun p=>(p.1,Ca R d i0 p.2)) nm=(GR (Ak st.objs) B0 nm).ren (Ca R d i0):=by
  intro nm;unfold GR;rw[hBf,Ob.ren_ren];exact Ob.ren_congr fun m hm=>hnm m (Ob.cut_names hm)
 simp only[AC,h1,if_true,bG,AK.mk.injEq,true_and,and_true];refine⟨?_,?_,?_,?_⟩
 ·rw[ren_ren];exact ren_congr fun m hm=>hnm m (cut_names hm)
 ·rw[cc];exact ci fun m _=>hob m
 ·simp only[JD];apply ct;intro i
  have e:(R.zipIdx.filter fun p=>(FH (st.keep.getD p.2 .undef)).isNone).map (·.1)=(((Em R.length).zipIdx.filter fun p=>(FH (st.keep.getD p.2 .undef)).isNone).map (·.1)).map (Ca R d i0):=by
   have hz:R.zipIdx=(Em R.length).zipIdx.map fun p=>(Ca R d i0 p.1,p.2):=by
    apply ct;intro i;simp only[bK,dg,cd,Em];by_cases hi:i < R.length
    ·rw[bN hi,cX hi];simp[Ca,bI,bN hi]
    ·rw[co.2 (by omega),co.2 (by simp;omega)];rfl
   rw[hz,List.filter_map,cc,cc];rfl
  rw[e]
 ·have hR2:A0.map (fun p=>Ca R d i0 p.2)=R:=by
   rw[<-hA0];apply ct;intro i;simp only[FB,bK,dg,cd,Em];by_cases hi:i < R.length
   ·rw[bN hi,cX hi];simp[Ca,bI,bN hi]
   ·rw[co.2 (by omega:R.length<=i),co.2 (by simp;omega)];rfl
  have hz:∀ (l:List (Nm×Nm)) (f:Nm×Nm->Nm) (g:Nm×Nm->Ob),l.map (fun p=>(f p,g p))=(l.map f).zip (l.map g):=by
   intro l f g;induction l with
   | nil=>rfl
   | cons p l ih=>simp[ih]
  have e1:(A0.map fun p=>(p.1,Ca R d i0 p.2)).map (fun p=>(p.2,GR (Ak st.objs) (B0.map fun p=>(p.1,Ca R d i0 p.2)) p.1))=A0.map fun p=>(Ca R d i0 p.2,(GR (Ak st.objs) B0 p.1).ren (Ca R d i0)):=by
   rw[cc];exact ci fun p _=>by simp only[Function.comp,hob]
  rw[hA,e1,hz,hR2,cc];rfl
end Go.Ab


namespace Go.Ab
noncomputable def XL (sp:FuncId->(Nm->Option Ob)->List PV->Option AK) (tab:FuncId->Option At):Ha:=fun E h dep g args e=>lim fun n=>Bc sp tab n E h dep g args e
def C9 (sp:FuncId->(Nm->Option Ob)->List PV->Option AK) (tab:FuncId->Option At) (n:Nat):Ba:=Ec sp tab n
theorem Jh (sp:FuncId->(Nm->Option Ob)->List PV->Option AK) (tab:FuncId->Option At) (n:Nat):(C9 sp tab n).sp=sp:=Tg sp tab n
theorem Pa (sp:FuncId->(Nm->Option Ob)->List PV->Option AK) (tab:FuncId->Option At) (n:Nat):(C9 sp tab n).isIo=EU tab:=Sk sp tab n
theorem Zd (sp:FuncId->(Nm->Option Ob)->List PV->Option AK) (tab:FuncId->Option At) (n:Nat):(C9 sp tab n).leans=F4 tab:=R0 sp tab n
theorem ah (sp:FuncId->(Nm->Option Ob)->List PV->Option AK) (tab:FuncId->Option At) (n:Nat):(C9 sp tab n).flat=Jm tab:=Sl sp tab n
theorem Vh (sp:FuncId->(Nm->Option Ob)->List PV->Option AK) (tab:FuncId->Option At) (n:Nat):(C9 sp tab n).call=Bc sp tab n:=rfl
noncomputable def QH (sp:FuncId->(Nm->Option Ob)->List PV->Option AK) (tab:FuncId->Option At) (g:FuncId) (ins:List Ob) (vs:List PV):Option (St×PV) :=
 match tab g with
 | some fn=>lim fun n=>Hz (C9 sp tab n) n fn ins vs
 | none=>none
structure DJ (cfg:Dx) (tab:FuncId->Option At):Prop where
 L:cfg.b.L=XL cfg.b.sp tab
 I:cfg.b.I=QH cfg.b.sp tab
 isIo:cfg.b.isIo=EU tab
 leans:cfg.b.leans=F4 tab
 flat:∀ g,cfg.flatF g=true->Jm tab g=true
 ioF:∀ g,(cfg.ioF g).isSome=EU tab g
 ioP:∀ g P,cfg.ioF g=some P->∃ fn,tab g=some fn/\0 < fn.nt/\∀ xs os,(P xs os).args.length<=fn.nt/\(P xs os).ins.length<=fn.nt
 spF:∀ g,cfg.spF g=false->∀ σ vs,cfg.b.sp g σ vs=none
 loc:∀ g σ vs,Ao vs=true->cfg.b.sp g σ vs=cfg.b.sp g (fun _=>none) vs
 spK:∀ g s,cfg.spK g=some s->∀ σ xs out,A4 xs->(∀ nm o,σ nm=some o->o.ok)->s σ xs=some (true,out)->out.Ok/\cfg.b.sp g (fun nm=>(σ nm).map Aj.ob) (AJ xs)=some out.out/\∀ f,out.out.v.ren f=out.out.v
 asOk:∀ g p t n,cfg.asT g p=some (t,n)->∀ σ nm ty cs,σ nm=some (.cells ty cs)->cs.length=n->cfg.b.sp g σ [.nilI,.iface p (.ref nm 0)]=some {v:=.bool false} /\
  ∀ x,AF x n=true->cfg.b.sp g σ [.iface t x,.iface p (.ref nm 0)]=some {v:=.bool true,upd:=some (nm,.cells ty x.cells)}
def HOk {E:Type} (h:Ay E) (hn:Nat->Ay E):Prop:=∀ l args e r,h l args e=some r->Bg fun n=>hn n l args e=some r
mutual
theorem Wu (d:Nat) {obs:List Ob}:∀ (sh:Bq) (j:Nat) (v:PV) {u:PV} {j':Nat},sh.fix=true->Ct obs sh j v=some (u,j') ->
  (Dw d sh j u).1.pv=v.ren (EC d)/\(Dw d sh j u).2.1.map Aj.ob=(obs.drop j).take (j' - j)/\(Dw d sh j u).2.2=j'/\(Dw d sh j u).1.ok/\(∀ o∈(Dw d sh j u).2.1,o.ok)/\j<=j'
 | .opt k,j,v,u,j',hf,h=>by cases hf
 | .cl,j,v,u,j',_,h=>by
  simp only[Ct] at h;obtain⟨h1,h2⟩:=Br h;cases h2;refine⟨?_,by simp[Dw],rfl,h1,by simp[Dw],bF _⟩;simp only[Dw,KV.pv];rw[Kq (Ez h1).1]
 | .own k,j,v,u,j',_,h=>by
  simp only[Ct] at h;split at h
  ·rename_i nm k' o n k'' kt xs hj;obtain⟨h1,h2⟩:=Br h;cases h2;simp only[bB,beq_iff_eq] at h1;obtain⟨⟨⟨⟨⟨⟨rfl,rfl⟩,rfl⟩,rfl⟩,rfl⟩,rfl⟩,hok⟩:=h1;refine⟨by simp[Dw,KV.pv,PV.ren,EC,Ai,Av],?_,rfl,trivial,?_,by omega⟩
   ·have hlt:=(bL.1 hj).1
    have hd:obs.drop j=.arr k 0 xs :: obs.drop (j+1):=by
     obtain⟨hi,he⟩:=bL.1 hj;rw[<-he];exact cZ hi
    rw[hd,show j+1 - j=1 by omega];simp[Dw,Aj.ob,Av]
   ·intro o ho;simp only[Dw,cj] at ho;subst ho;exact hok
  ·cases h
 | .tup l,j,v,u,j',hf,h=>by
  simp only[Ct] at h;split at h
  ·rename_i vs;obtain⟨p,hp,he⟩:=bD.1 h;cases he;obtain⟨h1,h2,h3,h4,h5,h6⟩:=Sn d l j vs (us:=p.1) (j':=p.2) hf hp (.tup p.1) 0 (by intro i _;simp[HG]);simp only[Dw];exact⟨by simp[KV.pv,PV.ren,h1],h2,h3,h4,h5,h6⟩
  ·cases h
 | .agg l,j,v,u,j',hf,h=>by
  simp only[Ct] at h;split at h
  ·rename_i vs;obtain⟨p,hp,he⟩:=bD.1 h;cases he;obtain⟨h1,h2,h3,h4,h5,h6⟩:=Sn d l j vs (us:=p.1) (j':=p.2) hf hp (.agg p.1) 0 (by intro i _;simp[HG]);simp only[Dw];exact⟨by simp[KV.pv,PV.ren,h1],h2,h3,h4,h5,h6⟩
  ·cases h
theorem Sn (d:Nat) {obs:List Ob}:∀ (l:List Bq) (j:Nat) (vs:List PV) {us:List PV} {j':Nat},fixL l=true->FF obs l j vs=some (us,j')->∀ (r:PV) (i:Nat),(∀ m,m < us.length->HG r (i+m)=us.getD m .undef) ->
  AJ (Ic d l j r i).1=Bt (EC d) vs/\(Ic d l j r i).2.1.map Aj.ob=(obs.drop j).take (j' - j)/\(Ic d l j r i).2.2=j'/\A4 (Ic d l j r i).1/\(∀ o∈(Ic d l j r i).2.1,o.ok)/\j<=j'
 | [],j,vs,us,j',_,h,r,i,_=>by
  cases vs with
  | nil=>simp only[FF] at h;cases h;simp[Ic,AJ,Bt,A4]
  | cons v vs=>simp[FF] at h
 | s :: l,j,vs,us,j',hf,h,r,i,hr=>by
  simp only[fixL,bB] at hf;cases vs with
  | nil=>simp[FF] at h
  | cons v vs =>
   simp only[FF] at h;split at h
   ·rename_i u j1 hu;obtain⟨p,hp,he⟩:=bD.1 h;obtain⟨us',j2⟩:=p;cases he;have h0:HG r i=u:=by have:=hr 0 (by simp);simpa using this
    obtain⟨a1,a2,a3,a4,a5,a6⟩:=Wu d s j v hf.1 hu
    obtain⟨b1,b2,b3,b4,b5,b6⟩:=Sn d l j1 vs hf.2 hp r (i+1) (fun m hm=>by
     have:=hr (m+1) (by simp;omega);rw[show i+(m+1)=i+1+m by omega] at this;simpa using this)
    simp only[Ic,h0,a3];refine⟨by simp[AJ,Bt,a1,b1],?_,b3,⟨a4,b4⟩,?_,by omega⟩
    ·rw[di,a2,b2];have e1:obs.drop j1=(obs.drop j).drop (j1 - j):=by rw[dG];congr 1;omega
     rw[e1,show j2 - j=(j1 - j)+(j2 - j1) by omega,List.take_add]
    ·intro o ho;rcases bW.1 ho with ho | ho;·exact a5 o ho
     ·exact b5 o ho
   ·cases h
end
theorem SQ (d:Nat) {obs:List Ob} {sh:Bq} {v u:PV} (hf:sh.fix=true) (h:DW sh v obs=some u):(Dw d sh 0 u).1.pv=v.ren (EC d)/\(Dw d sh 0 u).2.1.map Aj.ob=obs/\(Dw d sh 0 u).1.ok/\∀ o∈(Dw d sh 0 u).2.1,o.ok:=by
 unfold DW at h;split at h
 ·rename_i r j hr;obtain⟨h1,h2⟩:=Br h;cases h2;simp only[beq_iff_eq] at h1;obtain⟨a1,a2,a3,a4,a5,a6⟩:=Wu d sh 0 v hf hr;refine⟨a1,?_,a4,a5⟩;rw[a2,h1];simp
 ·cases h
mutual
theorem U6 {R:Type} {r:R}:∀ (sh:Bq) (u:PV) {K:Bq->Option R},Iu sh u K=some r ->
  ∃ sh',sh'.fix=true/\K sh'=some r/\∀ obs j v j',Ct obs sh j v=some (u,j')->Ct obs sh' j v=some (u,j')
 | .cl,u,K,h=>⟨.cl,rfl,h,fun _ _ _ _ h=>h⟩
 | .own k,u,K,h=>⟨.own k,rfl,h,fun _ _ _ _ h=>h⟩
 | .opt k,u,K,h=>by
  simp only[Iu] at h;unfold nilB at h;split at h
  ·refine⟨.cl,rfl,h,fun obs j v j' hc=>?_⟩;simp only[Ct] at hc;split at hc;·cases hc;rfl
   ·obtain⟨_,hc⟩:=Br hc;cases hc
   ·cases hc
  ·rename_i hu;refine⟨.own k,rfl,h,fun obs j v j' hc=>?_⟩;simp only[Ct] at hc;split at hc;·cases hc;exact absurd rfl hu
   ·rename_i hj;simp only[Ct,hj];exact hc
   ·cases hc
 | .tup l,u,K,h=>by
  simp only[Iu] at h;obtain⟨l',h1,h2,h3⟩:=RN l u 0 h;refine⟨.tup l',h1,h2,fun obs j v j' hc=>?_⟩;simp only[Ct] at hc |-;split at hc
  ·obtain⟨p,hp,he⟩:=bD.1 hc;cases he;rw[h3 obs j _ p.1 p.2 hp (by intro i _;simp[HG])];rfl
  ·cases hc
 | .agg l,u,K,h=>by
  simp only[Iu] at h;obtain⟨l',h1,h2,h3⟩:=RN l u 0 h;refine⟨.agg l',h1,h2,fun obs j v j' hc=>?_⟩;simp only[Ct] at hc |-;split at hc
  ·obtain⟨p,hp,he⟩:=bD.1 hc;cases he;rw[h3 obs j _ p.1 p.2 hp (by intro i _;simp[HG])];rfl
  ·cases hc
theorem RN {R:Type} {r:R}:∀ (l:List Bq) (u:PV) (i:Nat) {K:List Bq->Option R},NB l u i K=some r ->
  ∃ l',fixL l'=true/\K l'=some r/\∀ obs j vs us j',FF obs l j vs=some (us,j')->(∀ m,m < us.length->HG u (i+m)=us.getD m .undef)->FF obs l' j vs=some (us,j')
 | [],u,i,K,h=>⟨[],rfl,h,fun _ _ _ _ _ h _=>h⟩
 | s :: l,u,i,K,h=>by
  simp only[NB] at h;obtain⟨s',h1,h,h3⟩:=U6 s (HG u i) h;obtain⟨l',g1,h,g3⟩:=RN l u (i+1) h;refine⟨s' :: l',by simp[fixL,h1,g1],h,fun obs j vs us j' hc hu=>?_⟩;cases vs with
  | nil=>simp[FF] at hc
  | cons v vs =>
   simp only[FF] at hc |-;split at hc
   ·rename_i w j1 hw;obtain⟨p,hp,he⟩:=bD.1 hc;obtain⟨us',j2⟩:=p;cases he;have h0:HG u i=w:=by have:=hu 0 (by simp);simpa using this
    rw[h3 obs j v j1 (by rw[h0];exact hw)];simp only
    rw[g3 obs j1 vs us' j2 hp (fun m hm=>by
     have:=hu (m+1) (by simp;omega);rw[show i+(m+1)=i+1+m by omega] at this;simpa using this)]
    simp only[bU,h0]
   ·cases hc
end
theorem Ss {R:Type} {r:R} {sh:Bq} {u:PV} {K:Bq->Option R} (h:Iu sh u K=some r) :
  ∃ sh',sh'.fix=true/\K sh'=some r/\∀ v obs,DW sh v obs=some u->DW sh' v obs=some u:=by
 obtain⟨sh',h1,h2,h3⟩:=U6 sh u h;refine⟨sh',h1,h2,fun v obs hc=>?_⟩;unfold DW at hc |-;split at hc
 ·rename_i w j hw;obtain⟨c1,c2⟩:=Br hc;cases c2;rw[h3 obs 0 v j hw];simp only[c1,Ae]
 ·cases hc
section
variable {cfg:Dx} {tab:FuncId->Option At} {ks:Az} {E R:Type} {h:Ay E} {hn:Nat->Ay E} {K:Aw->E->Option R} {r:R} {e:E} {d dep:Nat}
theorem spO_ok (hc:DJ cfg tab) {g:FuncId} {vs:List PV} (hvs:Ao vs=true) {x:Option (PV×List Ob)} (h:spO cfg.b.sp g vs=some x) (σ:Nm->Option Ob) :
  match x with | some p=>cfg.b.sp g σ vs=some {v:=p.1,new:=p.2} | none=>cfg.b.sp g σ vs=none:=by
 unfold spO at h;rw[hc.loc g σ vs hvs];split at h
 ·rename_i out ho;obtain⟨h1,h2⟩:=Br h;cases h2;simp only[bB,cD,eP,dn] at h1;obtain⟨⟨⟨⟨⟨⟨b,c⟩,f⟩,a2⟩,a3⟩,a4⟩,a5⟩:=h1;simp only
  rw[ho];obtain⟨v,new,upd,kill,frz,gone,ups,io,slot⟩:=out;simp only at b c f a2 a3 a4 a5;subst b;subst c;subst f;subst a2;subst a3;subst a4;subst a5;rfl
 ·rename_i ho;cases h;exact ho
theorem Xo {sh sh':Bq} {f:PV} {vs:List PV} {u:PV} (hs:∀ v obs,DW sh v obs=some u->DW sh' v obs=some u) (h:Al cfg.b sh f vs=some u):Al cfg.b sh' f vs=some u:=by
 unfold Al at h |-;split at h
 ·split at h;·exact hs _ _ h
  ·split at h;·cases h
   ·rename_i hio;rw[if_neg hio];split at h;·exact hs _ _ h
    ·cases h
  ·cases h
 ·cases h
theorem lendO_sh {sh sh':Bq} {fr:Bool} {g:FuncId} {vs:List PV} {u:PV} (hs:∀ v obs,DW sh v obs=some u->DW sh' v obs=some u) (h:Bs cfg.b sh fr g vs=some u):Bs cfg.b sh' fr g vs=some u:=by
 unfold Bs at h |-;split at h;·cases h
 ·rename_i hy;rw[if_neg hy];split at h
  ·obtain⟨h1,h2⟩:=Br h;simp only[h1,Ae];exact hs _ _ h2
  ·cases h
theorem Xe {g:FuncId}:Nat.blt (AW g) CQ=true:=by
 unfold AW;split;·assumption
 ·exact Nat.blt_eq.mpr (Nat.mod_lt _ (by decide))
theorem fnId_id {g:FuncId}:AW (AW g)=AW g:=by
 have h:=Xe (g:=g);generalize AW g=x at h;simp[AW,h]
theorem fnArgs_id {g:FuncId} {vs:List PV}:Bv (AW g) vs []=vs:=by
 have h:=Xe (g:=g);simp[Bv,h]
theorem US {f:FuncId} {vs cap:List PV} {x:PV} (h:x∈vs\/x∈cap):x∈Bv f vs cap:=by
 unfold Bv;split;·exact bW.2 h
 ·rcases h with h | h;·exact b7 _ (bR _ h)
  ·rw[<-List.take_append_drop (E9 f) cap] at h;rcases bW.1 h with h | h;·exact bR _ h
   ·exact b7 _ (b7 _ h)
theorem Vk (f:FuncId) (vs cap:List KV):AJ (HZ f vs cap)=Bv f (AJ vs) (AJ cap):=by
 unfold HZ Bv;cases Nat.blt f CQ<;>simp[O8,LP,LQ]
theorem Vl {f:FuncId} {vs cap:List KV} (h1:A4 vs) (h2:A4 cap):A4 (HZ f vs cap):=by
 unfold HZ;split;·exact Ki h1 h2
 ·exact Ki (CO.2 fun x hx=>CO.1 h2 x (cw hx)) (Ki h1 (CO.2 fun x hx=>CO.1 h2 x (cL hx)))
theorem callO_all {B:KB} {sh:Bq} {f:FuncId} {vs cap:List PV}:Al B sh (.fn f cap) vs=Al B sh (.fn (AW f) []) (Bv f vs cap):=by
 simp only[Al,fnId_id,fnArgs_id]
theorem Xp (hc:DJ cfg tab) {sh:Bq} (hfix:sh.fix=true) {f:PV} {vs:List PV} (hvs:Ao vs=true) (hf:okV f=true) {u:PV} (hu:Al cfg.b sh f vs=some u) (σ:Nm->Option Ob) (T:List PV) (fx:RX) (args:List RX) (hfx:fx.ev T=f) (hargs:args.map (RX.ev T)=vs) :
  ∃ out:Aw,out.Ok/\out={v:=(Dw d sh 0 u).1,new:=(Dw d sh 0 u).2.1}/\Bg fun n=>C0 (C9 cfg.b.sp tab n) (hn n) dep d σ T fx args e=some (out.out,e):=by
 unfold Al at hu;split at hu
 ·rename_i g cap;have hcap:Ao cap=true:=by simpa[okV] using hf
  have hall:Ao (Bv g vs cap)=true:=Ey.2 fun x hx=>(Sg hx).elim (Ey.1 hvs x) (Ey.1 hcap x);have hnm:(AQ (Bv g vs cap)).isEmpty=true:=by rw[(CL hall).1];rfl
  have hy:BF (Bv g vs cap)=false:=(CL hall).2;split at hu
  ·rename_i v obs hs;have h1:=spO_ok hc hall hs σ;simp only at h1;obtain⟨a1,a2,a3,a4⟩:=SQ d hfix hu;refine⟨_,⟨a3,a4,by simp,by simp⟩,rfl,.of fun n=>?_⟩;simp only[C0,hfx,hargs,Jh,h1,Aw.out,a1,a2,dE,bC]
  ·rename_i hs;have h1:=spO_ok hc hall hs σ;split at hu;·cases hu
   rename_i hio;have hio:EU tab (AW g)=false:=by rw[<-hc.isIo];simpa using hio
   split at hu
   ·rename_i rr obs hL;rw[hc.L] at hL;have hev:=NG hL;obtain⟨a1,a2,a3,a4⟩:=SQ d hfix hu;refine⟨_,⟨a3,a4,by simp,by simp⟩,rfl,hev.mono fun n hn'=>?_⟩;simp only at h1;simp only[C0,hfx,hargs,Jh,Pa,Vh,hio,h1,hnm,if_true,hy,bA,if_false,hn',Aw.out,a1,a2,dE,bC]
   ·cases hu
  ·cases hu
 ·cases hu
theorem mapM_mem {α:Type} {σ:Nm->Option α}:∀ {S:List Nm} {l:List α},S.mapM σ=some l->l.length=S.length/\∀ x∈l,∃ nm,σ nm=some x:=by
 intro S;induction S with
 | nil=>intro l h;simp at h;subst h;exact⟨rfl,fun x h=>by cases h⟩
 | cons y S ih =>
  intro l h;rw[cQ] at h;simp only[dU,cB,d9,bG] at h;obtain⟨o,ho,l',hl,rfl⟩:=h;obtain⟨q1,q2⟩:=ih hl;refine⟨by simp[q1],fun x hx=>?_⟩;rcases bH.1 hx with rfl | hx;·exact⟨y,ho⟩
  ·exact q2 x hx
theorem mapM_map' {α β:Type} {σ:Nm->Option α} (g:α->β):∀ {S:List Nm} {l:List α},S.mapM σ=some l->S.mapM (fun nm=>(σ nm).map g)=some (l.map g):=by
 intro S;induction S with
 | nil=>intro l h;simp at h;subst h;rfl
 | cons y S ih =>
  intro l h;rw[cQ] at h;simp only[dU,cB,d9,bG] at h;obtain⟨o,ho,l',hl,rfl⟩:=h;rw[cQ,ih hl,ho];rfl
theorem Vr:∀ {ps xs:List Aj},El ps xs=true->ps.length=xs.length
 | [],[],_=>rfl
 | [],_ :: _,h=>by simp[El] at h
 | _ :: _,[],h=>by simp[El] at h
 | p :: ps,x :: xs,h=>by
  simp only[El,bB] at h;simp[Vr h.2]
theorem Xf:∀ {ps xs:List KV},DZ ps xs=true->ps.length=xs.length
 | [],[],_=>rfl
 | [],_ :: _,h=>by simp[DZ] at h
 | _ :: _,[],h=>by simp[DZ] at h
 | p :: ps,x :: xs,h=>by
  simp only[DZ,bB] at h;simp[Xf h.2]
theorem ob_noY {o:Aj} (h:o.ok) (hq:∀ ty cs,o=.cells ty cs->Fl cs=false):o.ob.hasY=false:=by
 cases o with
 | cells ty cs =>
  have h':A4 cs:=h;show BF (AJ cs)=false;rw[Kr h'];exact hq ty cs rfl
 | whole ty v=>exact (CL (Dm h)).2
 | arr k kt xs=>exact (CL h).2
 | map es=>exact (CL h).2
 | siter s p=>rfl
theorem Vn (hc:DJ cfg tab) (hk:ks.Ok) (hq:ES ks.objs=true) {g:FuncId} {xs:List KV} (hxs:A4 xs)
  {R:Type} {r:R} {K:Aw->Option R} {Pf:List KV->List Aj->BK} (hPf:cfg.ioF g=some Pf) (hr:NZ cfg Pf g d (Bk ks.objs) xs K=some r) :
  ∃ out,K out=some r/\out.Ok/\cfg.spF g=false/\Bg fun n=>(C9 cfg.b.sp tab n).io g d (Ak ks.st.objs) (AJ xs)=some out.out:=by
 unfold NZ at hr;simp only at hr;generalize hS:Dr (GD (Bk ks.objs) AU (C4 xs))=S at hr;split at hr;·cases hr
 rename_i ins hins;generalize hP:Pf xs ins=P at hr;split at hr
 case isFalse=>cases hr
 rename_i hcond;obtain⟨hsh,hy,hsp,hfit⟩:=hcond;simp only[bB] at hfit;obtain⟨hfa,hfo⟩:=hfit;obtain⟨rs,hio,hr⟩:=CN hr
 have hplace:∃ sl d1 i1,K (MP P S sl d1 i1 rs)=some r/\∀ st v out,GM sl d1 i1 S st v=some out->L9 (Ak ks.st.objs) d S st v=some out:=by
  unfold L9;cases S with
  | nil=>exact⟨none,d,0,hr,fun st v out h=>h⟩
  | cons s ss =>
   simp only at hr;split at hr
   ·rename_i i1 hi1;refine⟨some s.1,s.1,i1,hr,fun st v out h=>?_⟩
    have:Kz (Ak ks.st.objs) s.1=some i1:=by
     rw[Eh hk,<-hi1];unfold Kz;congr 1;funext j;show ((Bk ks.objs (s.1,j)).map Aj.ob).isNone=_;cases Bk ks.objs (s.1,j)<;>rfl
    simp only[this];exact h
   ·cases hr
 obtain⟨sl,d1,i1,hr,hplace⟩:=hplace;have hflag:EU tab g=true:=by rw[<-hc.ioF,hPf];rfl
 obtain⟨fn,htab,hnt,hll⟩:=hc.ioP g Pf hPf;have hla:=(hll xs ins).1;have hli:=(hll xs ins).2;rw[hP] at hla hli;obtain⟨m1,m2⟩:=mapM_mem hins;have hinok:∀ o∈ins,o.ok:=fun o ho=>let ⟨nm,h⟩:=m2 o ho;Dg hk nm o h;have hS':Dr (A8 (Ak ks.st.objs) AU (AQ (AJ xs)))=S:=by rw[<-hS,Hn (Dg hk),Eh hk,FA hxs]
 have hmap:S.mapM (Ak ks.st.objs)=some (ins.map Aj.ob):=by rw[Eh hk];exact mapM_map' Aj.ob hins
 have hysok:A4 (Fu (fun m=>(0,S.idxOf m)) xs):=LV _ hxs
 have hosok:∀ o∈ins.map (Aj.ren fun m=>(0,S.idxOf m)),o.ok:=by
  intro o ho;obtain⟨o0,h0,rfl⟩:=bE.1 ho;exact Aj.ren_ok _ (hinok o0 h0)
 have hlen:P.ins.length=S.length:=by rw[Vr hfo,bS,m1]
 have hlx:∀ l:List KV,(Fu (fun m=>(0,S.idxOf m)) l).length=l.length:=by
  intro l;induction l with | nil=>rfl | cons x l ih=>simp[Fu,ih]
 have hlena:(AJ xs).length<=fn.nt:=by
  have h1:=Xf hfa;rw[hlx] at h1;have h2:(AJ xs).length=xs.length:=by rw[D7,bS]
  omega
 generalize hlv:F7 P.args (Fu (fun m=>(0,S.idxOf m)) xs)++Io P.ins (ins.map (Aj.ren fun m=>(0,S.idxOf m)))=lv at hio;have hseg:CY lv 0 (F7 P.args (Fu (fun m=>(0,S.idxOf m)) xs)++Io P.ins (ins.map (Aj.ren fun m=>(0,S.idxOf m)))):=by rw[hlv];exact CY.all lv
 obtain⟨p1,p2,p3⟩:=LW _ _ hfa hysok lv 0 hseg.left;obtain⟨q1,q2,q3⟩:=Sj _ _ hfo hosok lv (CI P.args lv 0).2 (by rw[p3];exact hseg.right);have hvs2:AJ (Fu (fun m=>(0,S.idxOf m)) xs)=Bt (fun m=>(0,S.idxOf m)) (AJ xs):=L4 _ hxs
 have hos2:(ins.map (Aj.ren fun m=>(0,S.idxOf m))).map Aj.ob=(ins.map Aj.ob).map (Ob.ren fun m=>(0,S.idxOf m)):=by
  rw[cc,cc];exact ci fun o ho=>Aj.ren_ob _ (hinok o ho)
 unfold Bx at hio;rw[p1,q1,hvs2,hos2] at hio;split at hio
 case h_2=>cases hio
 rename_i st v hI;rw[hc.I] at hI;unfold QH at hI;rw[htab] at hI;have hev:=NG hI;split at hio
 case h_2=>cases hio
 rename_i out0 hend;rw[hlen] at hend;have hend2:=ioEnd_ren (sl:=sl) (d:=d1) (i0:=i1) hend;unfold QP at hio;split at hio
 case isFalse=>cases hio
 rename_i hgone;split at hio
 case h_2=>cases hio
 rename_i a b c ha hb hcc;cases hio;have hsr:=CY.all (a++(b++c));obtain⟨a1,a2,a3⟩:=SG P.res out0.v ha _ 0 hsr.left;obtain⟨b1,b2,b3⟩:=RJ P.outs _ hb (a++(b++c)) (fill P.res (a++(b++c)) 0).2 (by rw[a3];exact hsr.right.left);obtain⟨c1,c2,c3⟩:=RJ P.news _ hcc (a++(b++c)) (CF P.outs (a++(b++c)) (fill P.res (a++(b++c)) 0).2).2 (by rw[b3,a3];exact hsr.right.right)
 have hout:(MP P S sl d1 i1 (a++(b++c))).out={v:=out0.v.ren (Ca S d1 i1),new:=out0.new.map (Ob.ren (Ca S d1 i1)),gone:=out0.gone.map (Ca S d1 i1),ups:=S.zip (out0.ups.map fun p=>p.2.ren (Ca S d1 i1)),io:=true,slot:=sl}:=by
  simp only[MP,Aw.out,dE,AK.mk.injEq,true_and,and_true];refine⟨?_,?_,?_,?_⟩;·rw[KV.ren_pv _ a2,a1]
  ·rw[cc,<-c1,cc];exact ci fun o ho=>Aj.ren_ob _ (c2 o ho)
  ·rw[hgone,cc];exact ci fun j _=>by simp[Ca]
  ·have e1:out0.ups.map (fun p=>p.2.ren (Ca S d1 i1))=(out0.ups.map (·.2)).map (Ob.ren (Ca S d1 i1)):=by rw[cc];rfl
   rw[e1,<-b1,cc]
   have key:∀ (T:List Nm) (l:List Aj),(∀ o∈l,o.ok)->(T.zip (l.map (Aj.ren (Ca S d1 i1)))).map (fun p=>(p.1,p.2.ob))=T.zip (l.map (Ob.ren (Ca S d1 i1)∘Aj.ob)):=by
    intro T;induction T with
    | nil=>intro l _;rfl
    | cons s T ih =>
     intro l hl;cases l with
     | nil=>rfl
     | cons o l =>
      simp only[bz,List.zip_cons_cons,bz,Function.comp];rw[Aj.ren_ob _ (hl o bT),ih l fun o ho=>hl o (bM _ ho)]
   exact key S _ b2
 refine⟨_,hr,⟨KV.ren_ok _ a2,?_,by simp[MP],?_⟩,hsp,hev.shift.mono ?_⟩
 ·intro o ho;obtain⟨o0,h0,rfl⟩:=bE.1 ho;exact Aj.ren_ok _ (c2 o0 h0)
 ·rintro ⟨s,o⟩ ho;have:=(List.of_mem_zip ho).2;obtain⟨o0,h0,rfl⟩:=bE.1 this;exact Aj.ren_ok _ (b2 o0 h0)
 ·rintro k ⟨j,rfl,hj⟩;show Gp (Ec cfg.b.sp tab j) j tab g d (Ak ks.st.objs) (AJ xs)=_;unfold Gp;rw[htab];simp only
  rw[hS',hmap]
  have hcd:(!BF (AJ xs)&&C8 (Ak ks.st.objs) S&&(ins.map Aj.ob).all (fun o=>!o.hasY)&&(decide ((AJ xs).length<=fn.nt)&&decide (S.length<=fn.nt)&&decide (0 < fn.nt)))=true:=by
   simp only[bB,dn,decide_eq_true_eq];refine⟨⟨⟨by rw[Kr hxs];exact hy,?_⟩,?_⟩,⟨hlena,by omega⟩,hnt⟩;·rw[Eh hk,<-LU (Dg hk)];exact hsh
   ·rw[bP];intro o ho;obtain⟨o0,h0,rfl⟩:=bE.1 ho;obtain⟨nm,hnm⟩:=m2 o0 h0;have:=ob_noY (hinok o0 h0) fun ty cs hcs=>M9 hq nm ty cs (by rw[hnm,hcs]);simp[this]
  simp only[AC,hcd,if_true];have hj':Hz (Ec cfg.b.sp tab j) j fn ((ins.map Aj.ob).map (Ob.ren fun m=>(0,S.idxOf m))) (Bt (fun m=>(0,S.idxOf m)) (AJ xs))=some (st,v):=hj;rw[hj'];simp only
  rw[hout];exact hplace _ _ _ hend2
theorem aq (hc:DJ cfg tab) (hk:ks.Ok) (hq:ES ks.objs=true) {g f0:FuncId} (hg0:AW f0=g) {cap:List PV} {f:RX} {args:List RX} {xs:List KV} (hxs:A4 xs) (hfe:f.ev ks.st.tmps=.fn f0 cap) (hvs:Bv f0 (args.map (RX.ev ks.st.tmps)) cap=AJ xs)
  {Pf:List KV->List Aj->BK} (hPf:cfg.ioF g=some Pf) (hr:NZ cfg Pf g d (Bk ks.objs) xs (fun out=>K out e)=some r) :
  ∃ out e',K out e'=some r/\out.Ok/\Bg fun n=>C0 (C9 cfg.b.sp tab n) (hn n) dep d (Ak ks.st.objs) ks.st.tmps f args e=some (out.out,e'):=by
 obtain⟨out,hr,ho,hsp,hev⟩:=Vn (K:=fun out=>K out e) hc hk hq hxs hPf hr;have hflag:EU tab g=true:=by rw[<-hc.ioF,hPf];rfl
 exact⟨out,e,hr,ho,hev.mono fun n hn'=>by simp only[C0,hfe,hg0,hvs,Jh,Pa,hc.spF g hsp,hflag,if_true,hn']⟩
theorem kcall_ok (hc:DJ cfg tab) (hh:HOk h hn) (hk:ks.Ok) {f:RX} {args:List RX} (hq:(ES ks.objs||MU cfg (.call f args) ks.tmps)=true) (hx:(f :: args).all Ew=true)
  (hr:kcall cfg h d (Bk ks.objs) ks.tmps f args e K=some r) :
  ∃ out e',K out e'=some r/\out.Ok/\Bg fun n=>C0 (C9 cfg.b.sp tab n) (hn n) dep d (Ak ks.st.objs) ks.st.tmps f args e=some (out.out,e'):=by
 have hxf:Ew f=true:=bP.1 hx f (by simp);have hxa:args.all Ew=true:=bP.2 fun x hm=>bP.1 hx x (by simp[hm]);have hfo:=MK hk hxf;have hao:=KT hk hxa;unfold kcall at hr;split at hr
 ·rename_i l hf;have hfe:f.ev ks.st.tmps=.yld l:=by rw[GI hk,hf];rfl
  simp only at hr;split at hr
  ·rename_i vs hv;obtain⟨p,hp,hr⟩:=CN hr;have hok:=IE hao hv;have hnm:(AQ vs).isEmpty=true:=by rw[(CL hok).1];rfl
   refine⟨_,_,hr,Aw.plain (v:=.cv (.bool p.1)) rfl,(hh _ _ _ _ hp).mono fun n hn'=>?_⟩;simp[C0,hfe,Hs hk,JI hv,hnm,(CL hok).2,AC,hn',Aw.out,KV.pv]
  ·split at hr;·cases hr
   ·rename_i hne;split at hr
    ·rename_i hsh;obtain⟨h1,hr⟩:=Br hr;obtain⟨p,hp,hr⟩:=CN hr;have hne':(AQ (AJ (args.map (RX.kv ks.tmps)))).isEmpty=false:=by rw[SP hao];simpa using hne
     rw[Hn (Dg hk),LU (Dg hk),<-Eh hk,<-FA hao] at hsh;rw[Nx hk hao] at h1 hp;unfold noYL at h1;refine⟨_,_,hr,⟨rfl,by simp,by simp,by simp⟩,(hh _ _ _ _ hp).mono fun n hn'=>?_⟩;simp only[C0,hfe,Hs hk,hne',bA,if_false,hsh,h1,cu,AC,if_true,hn',Aw.out,KV.pv];rw[Hn (Dg hk),<-Eh hk,<-FA hao];rfl
    ·cases hr
 ·rename_i f0 caps hf;rw[hf] at hfo;have hcaps:A4 caps:=hfo;have hfe:f.ev ks.st.tmps=.fn f0 (AJ caps):=by rw[GI hk,hf];rfl
  have hxs:A4 (HZ f0 (args.map (RX.kv ks.tmps)) caps):=Vl hao hcaps;have hvs:Bv f0 (args.map (RX.ev ks.st.tmps)) (AJ caps)=AJ (HZ f0 (args.map (RX.kv ks.tmps)) caps):=by rw[Vk,Hs hk]
  have hall:∀ sh,Al cfg.b sh (.fn f0 (AJ caps)) (args.map (RX.ev ks.st.tmps))=Al cfg.b sh (.fn (AW f0) []) (Bv f0 (args.map (RX.ev ks.st.tmps)) (AJ caps)):=fun sh=>callO_all;simp only at hr;generalize HZ f0 (args.map (RX.kv ks.tmps)) caps=xs at hr hxs hvs;generalize hg:AW f0=g at hr hall;split at hr
  ·rename_i s hs;split at hr
   case h_2=>cases hr
   rename_i p hso;obtain⟨b,out⟩:=p;obtain⟨hb,hr⟩:=Br hr;have hb:b=true:=hb;subst hb;obtain⟨a1,a2,a3⟩:=hc.spK g s hs _ xs out hxs (Dg hk) hso;rw[<-Eh hk] at a2;exact⟨out,e,hr,a1,.of fun n=>by simp only[C0,hfe,hg,hvs,Jh,a2,a3]⟩
  split at hr
  ·rename_i P hP
   have hq:ES ks.objs=true:=by
    rcases Bool.or_eq_true_iff.1 hq with h1 | h1;·exact h1
    ·unfold MU at h1;simp only[hf,hg,hP] at h1;cases h1
   exact aq hc hk hq hg hxs hfe hvs hP hr
  rename_i hP;have hio:EU tab g=false:=by rw[<-hc.ioF,hP];rfl
  split at hr
  ·rename_i ex p nm;split at hr
   ·rename_i t n err ty cs ht herr hlk;have hq:=Br hr;clear hr;obtain⟨hcs,hr⟩:=hq;have hcs:cs.length=n:=dv hcs;have hlk':Ak ks.st.objs nm=some (.cells ty (AJ cs)):=by rw[GY hk,hlk];rfl
    have hcs':(AJ cs).length=n:=by rw[<-hcs,GV]
    have hero:=KV.cl_ok hxs.1 herr;have hpv:AJ [ex,.iface p (.ref nm 0)]=[err,.iface p (.ref nm 0)]:=by simp[AJ,KV.pv,KV.cl_pv herr]
    rw[hpv] at hvs;obtain⟨s1,s2⟩:=hc.asOk g p t n ht (Ak ks.st.objs) nm _ _ hlk' hcs';unfold asP at hr;split at hr
    ·refine⟨_,_,hr,Aw.plain (v:=.lit false) trivial,.of fun n=>?_⟩;simp only[C0,hfe,hg,hvs,Jh,s1];rfl
    ·rename_i t' x;split at hr
     ·rename_i htt;subst htt;have hq:=Br hr;clear hr;obtain⟨hx1,hr⟩:=hq;refine⟨_,_,hr,Aw.turn (v:=.lit true) (o:=.whole _ x) trivial (show okV x=true by simpa[okV] using hero),.of fun n=>?_⟩;simp only[C0,hfe,hg,hvs,Jh,s2 x hx1];rfl
     ·cases hr
    ·cases hr
   ·cases hr
  ·split at hr
   ·rename_i vs hv;obtain⟨u,hu,hr⟩:=CN hr;have hok:=IE hxs hv;rw[JI hv] at hvs;have hu':Al cfg.b (cfg.rsh g).1 (.fn g []) (Bv f0 (args.map (RX.ev ks.st.tmps)) (AJ caps))=some u:=by rw[hvs];exact hu
    have hcv:Ao (AJ caps)=true:=PY (ys:=AJ caps) hok fun y hy=>by rw[<-hvs];exact US (.inr hy)
    have hav:Ao (args.map (RX.ev ks.st.tmps))=true:=PY hok fun y hy=>by rw[<-hvs];exact US (.inl hy)
    have hu2:Al cfg.b (cfg.rsh g).1 (.fn f0 (AJ caps)) (args.map (RX.ev ks.st.tmps))=some u:=by rw[hall];exact hu'
    obtain⟨sh',hfix,hr,hsh⟩:=Ss hr;have hu2:=Xo hsh hu2;obtain⟨out,h1,h2,h3⟩:=Xp (d:=d) (dep:=dep) (e:=e) (hn:=hn) hc hfix hav (by simpa[okV] using hcv) hu2 (Ak ks.st.objs) ks.st.tmps f args hfe rfl;subst h2;exact⟨_,_,hr,h1,h3⟩
   ·split at hr;·cases hr
    ·rename_i hne;split at hr
     ·rename_i hsh;obtain⟨u,hu,hr⟩:=CN hr
      have hne1:(C4 xs).isEmpty=false:=by
       cases hq:(C4 xs).isEmpty with
       | false=>rfl
       | true=>exact absurd (.inl hq) hne
      have hsp:cfg.spF g=false:=by
       cases hq:cfg.spF g with
       | false=>rfl
       | true=>exact absurd (.inr hq) hne
      have hne':(AQ (AJ xs)).isEmpty=false:=by rw[SP hxs];exact hne1
      rw[Hn (Dg hk),LU (Dg hk),<-Eh hk,<-FA hxs] at hsh;rw[Nx hk hxs] at hu;obtain⟨sh',hfix,hr,hshs⟩:=Ss hr;have hu:=lendO_sh hshs hu;unfold Bs at hu;split at hu;·cases hu
      ·rename_i hy;split at hu
       ·rename_i rr obs hL;obtain⟨hfr,hu⟩:=Br hu;rw[hc.L] at hL;have hev:=NG hL;obtain⟨a1,a2,a3,a4⟩:=SQ d hfix hu;refine⟨_,_,hr,⟨a3,a4,by simp,by simp⟩,hev.mono fun n hn'=>?_⟩;simp only[beq_iff_eq] at hfr;rw[hc.leans] at hfr;have hy':BF (AX (BJ (Ak ks.st.objs)) (AJ xs))=false:=by simpa using hy
        simp only[C0,hfe,hg,hvs,Jh,Pa,Zd,Vh,hio,hc.spF g hsp,hne',bA,if_false,hsh,hy',ck,cu,AC,if_true,hn',Aw.out,a1,a2,hfr,dE,bC];rw[Hn (Dg hk),<-Eh hk,<-FA hxs]
       ·cases hu
     ·cases hr
 ·rename_i v hf;rw[hf] at hfo;have hfe:f.ev ks.st.tmps=v:=by rw[GI hk,hf];rfl
  split at hr
  ·rename_i vs hv;obtain⟨u,hu,hr⟩:=CN hr;obtain⟨sh',hfix,hr,hsh⟩:=Ss hr;obtain⟨out,h1,h2,h3⟩:=Xp (d:=d) (dep:=dep) (e:=e) (hn:=hn) hc hfix (IE hao hv) hfo (Xo hsh hu) (Ak ks.st.objs) ks.st.tmps f args hfe (by rw[Hs hk,JI hv]);subst h2;exact⟨_,_,hr,h1,h3⟩
  ·cases hr
 ·cases hr
end
end Go.Ab


namespace Go.Ab
variable {cfg:Dx} {tab:FuncId->Option At} {ks:Az} {E R:Type} {h:Ay E} {hn:Nat->Ay E} {r:R} {e:E} {d dep:Nat}
theorem kfresh_ok (hk:ks.Ok) {o:AV} (hf:Ue o ks=true):Fg o ks.st=true:=by
 unfold Ue at hf;unfold Fg;split
 ·rename_i hm;rw[if_pos hm] at hf;split
  ·rename_i d' hd;rw[hd] at hf;simp only[bB,cG,cD] at hf
   have:ks.st.objs[d']?=some []:=by
    show (Cq ks.nt ks.objs)[d']?=_;rw[denseO_get?,if_pos hf.1,hf.2];rfl
   rw[this]
  ·rename_i hd;rw[hd] at hf;exact hf
 ·rfl
theorem Wc (hc:DJ cfg tab) (hh:HOk h hn) (hk:ks.Ok) {o:AV} {K:Aw->E->Option R} (hr:Mt cfg h o ks e K=some r) :
  ∃ out e',(out.frz.isEmpty||ES ks.objs)=true/\K out e'=some r/\out.Ok/\Bg fun n=>Dj (C9 cfg.b.sp tab n) (hn n) dep o ks.st e=some (out.out,e'):=by
 unfold Mt at hr;split at hr
 ·rename_i hcond;obtain⟨h1,h2,h3⟩:=hcond;have hf:=kfresh_ok hk h1;split at hr
  ·rename_i f args hop;rw[hop] at h2 h3;obtain⟨out,e',a1,a2,a3⟩:=kcall_ok (dep:=dep) hc hh hk h3 h2 hr;split at a1
   case isFalse=>cases a1
   rename_i hgq;obtain⟨hg,hqq⟩:=dQ.1 hgq
   have hgd:KF o.dst out.out=true:=by
    simp only[KF,Aw.out];have:(out.new.map Aj.ob).isEmpty=out.new.isEmpty:=by cases out.new<;>rfl
    rw[this];exact hg
   refine⟨out,e',hqq,a1,a2,a3.mono fun n hn'=>?_⟩;simp only[Dj,AC,hf,if_true,hop,hn',hgd]
  ·rename_i hop;obtain⟨out,a1,a2,a3⟩:=execK_ok hk h3 h2 hr;simp only at a1;split at a1
   case isFalse=>cases a1
   rename_i hqq;refine⟨out,e,hqq,a1,a2,.of fun n=>?_⟩;simp only[Dj,AC,hf,if_true];cases hq:o.op with
   | call f args=>exact (hop f args hq).elim
   | _=>rw[hq] at a3;simp only[a3]
 ·cases hr
theorem Uo {i:Nat} {v:PV} {b:Bool} (hk:ks.Ok) (hg:A2 ks.tmps i=.cv v) (hv:v=.bool b):({ks with tmps:=CR i (.lit b) ks.tmps}:Az).st=ks.st/\({ks with tmps:=CR i (.lit b) ks.tmps}:Az).Ok:=by
 have hlt:i < ks.nt:=by
  apply cM;intro hlt;rw[hk.tm.get_ge (by omega)] at hg;cases hg
 refine⟨?_,hk.tm.put hlt trivial rfl,hk.ob,hk.kp⟩;unfold Az.st;simp only
 rw[PA];congr 1;apply ct;intro j;rw[dS,D3];by_cases hj:i=j
 ·subst hj;simp only[if_true];rw[if_pos hlt,dense_get?,if_pos hlt,hg,hv];rfl
 ·rw[if_neg hj]
theorem V9 (hk:ks.Ok) {ops:List AV} {o:AV} {K:Bool->Az->Option R} (hr:Qm ops o ks K=some r):∃ b k',K b k'=some r/\k'.Ok/\k'.st=ks.st/\Dt ops o ks.st.tmps=some b /\
  k'.objs=ks.objs/\(∀ x:RX,(x.kv k'.tmps).names=(x.kv ks.tmps).names/\(x.kv k'.tmps).hasY=(x.kv ks.tmps).hasY):=by
 unfold Qm at hr;unfold Dt;split at hr;·rename_i hg;rw[hg];exact⟨_,_,hr,hk,rfl,rfl,rfl,fun _=>⟨rfl,rfl⟩⟩
 ·rename_i j want hg;rw[hg];split at hr
  ·rename_i p hp;split at hr
   ·rename_i d' hd;have hget:ks.st.tmps.getD d' .undef=(A2 ks.tmps d').pv:=Kk hk.tm d';simp only[hp,hd,hget];split at hr;·rename_i b hb;rw[hb];exact⟨_,_,hr,hk,rfl,rfl,rfl,fun _=>⟨rfl,rfl⟩⟩
    ·rename_i hb;rw[hb];exact⟨_,_,hr,hk,rfl,rfl,rfl,fun _=>⟨rfl,rfl⟩⟩
    ·rename_i v hb;rw[hb]
     have hsame:∀ b,∀ x:RX,(x.kv (CR d' (.lit b) ks.tmps)).names=(x.kv ks.tmps).names/\(x.kv (CR d' (.lit b) ks.tmps)).hasY=(x.kv ks.tmps).hasY:=by
      intro b x;cases x with
      | c v=>exact⟨rfl,rfl⟩
      | t i =>
       simp only[RX.kv,Su];by_cases hi:i=d'
       ·subst hi;rw[if_pos rfl,hb];exact⟨rfl,rfl⟩
       ·rw[if_neg hi];exact⟨rfl,rfl⟩
     rcases Pp hr with ⟨hv,hr⟩ | ⟨hv,hr⟩
     ·obtain⟨s1,s2⟩:=Uo hk hb hv;subst hv;exact⟨_,_,hr,s2,s1,rfl,rfl,hsame true⟩
     ·obtain⟨s1,s2⟩:=Uo hk hb hv;subst hv;exact⟨_,_,hr,s2,s1,rfl,rfl,hsame false⟩
    ·cases hr
   ·cases hr
  ·cases hr
theorem WZ (hc:DJ cfg tab) (hh:HOk h hn) (hk:ks.Ok) {ops:List AV} {o:AV} {K:Az->E->Option R} (hr:kstep cfg h ops o ks e K=some r) :
  ∃ k' e',K k' e'=some r/\k'.Ok/\Bg fun n=>stepG (C9 cfg.b.sp tab n) (hn n) dep ops o ks.st e=some (k'.st,e'):=by
 unfold kstep at hr;obtain⟨b,k1,hr,hk1,hst,hw,_,_⟩:=V9 hk hr;cases b with
 | true =>
  simp only at hr;obtain⟨out,e',hq,h1,h2,h3⟩:=Wc (dep:=dep) hc hh hk1 hr;rw[DB] at h1;obtain⟨s1,s2⟩:=RV hk1 hq o.dst h2;refine⟨_,_,h1,s2,h3.mono fun n hn'=>?_⟩;rw[hst] at hn' s1;simp only[stepG,hw,Jt,hn',s1]
 | false =>
  simp only at hr;rw[DB] at hr
  have:(GE k1 o.dst {v:=.sk}).st=apply k1.st o.dst {v:=.tup []}/\(GE k1 o.dst {v:=.sk}).Ok:=by
   exact kapply_sk hk1 o.dst
  refine⟨_,_,hr,this.2,.of fun n=>?_⟩;simp only[stepG,hw,this.1,hst]
where
 kapply_sk {ks:Az} (hk:ks.Ok) (dst:Option Nat):(GE ks dst {v:=.sk}).st=apply ks.st dst {v:=.tup []}/\(GE ks dst {v:=.sk}).Ok:=by
  unfold GE;rw[Tl];simp only[kupd,MN,OO,Lt,Lk,dI,if_true,MV,Lj,MO];have hkt:ML [] ks=ks:=rfl;have hke:kext none [] ks=ks:=rfl;have hkn:OJ none []=[]:=rfl;rw[hkt,hke,hkn];simp only[bext,Om];cases dst with
  | none=>exact⟨rfl,hk⟩
  | some d =>
   simp only[kset,Kb];cases hd:Nat.blt d ks.nt with
   | true =>
    have hd':d < ks.nt:=by simpa[cG] using hd
    refine⟨?_,hk.tm.set (v:=.sk) hd' trivial,hk.ob,hk.kp⟩;unfold Az.st;simp only
    rw[Wt];rfl
   | false =>
    have hd':¬ d < ks.nt:=by intro h;rw[show Nat.blt d ks.nt=true by simpa[cG] using h] at hd;cases hd
    refine⟨?_,hk⟩;unfold Az.st;simp only
    rw[eC (by rw[D3];omega)];rfl
theorem Ta (hc:DJ cfg tab) (hh:HOk h hn) {ops:List AV}:∀ (l:List AV) {ks:Az} {e:E} {K:Az->E->Option R},ks.Ok->MM cfg h ops l ks e K=some r ->
  ∃ k' e',K k' e'=some r/\k'.Ok/\Bg fun n=>EB (C9 cfg.b.sp tab n) (hn n) dep ops l ks.st e=some (k'.st,e'):=by
 intro l;induction l with
 | nil=>intro ks e K hk hr;exact⟨ks,e,hr,hk,.of fun n=>rfl⟩
 | cons o rest ih =>
  intro ks e K hk hr;simp only[MM] at hr;obtain⟨k1,e1,hr,hk1,h1⟩:=WZ (dep:=dep) hc hh hk hr;obtain⟨k2,e2,hr,hk2,h2⟩:=ih hk1 hr;exact⟨k2,e2,hr,hk2,h1.mono2 h2 fun n a b=>by simp only[EB,a,b]⟩
theorem Wa (o:Aw):On o=Cm o.out:=by
 unfold On Cm Aw.out;cases o.upd<;>cases o.ups<;>rfl
theorem kturns_ok (o:Aw):T8 o=Ei o.out:=by
 unfold T8 Ei Aw.out;cases o.ups<;>rfl
theorem YB (o:Aw):SB o=Fa o.out:=by
 unfold SB Fa Aw.out;cases o.upd with
 | none=>rfl
 | some p=>rfl
theorem spAt_pv (ks:Az) (s:Nat):ks.st.tmps.getD s .undef=(spAt ks s).pv:=by
 unfold spAt;show (BB ks.nt ks.tmps).getD s .undef=_;unfold BB;rw[bI,bK];cases hb:Nat.blt s ks.nt with
 | true =>
  have:s < ks.nt:=Nat.blt_eq.mp hb;rw[cX this];rfl
 | false =>
  have:¬ s < ks.nt:=fun h=>by rw[Nat.blt_eq.mpr h] at hb;cases hb
  rw[cf (by simpa using this)];rfl
theorem U7 (hk:ks.Ok) (s:Nat):(ks.st.tmps.getD s .undef).names=(spAt ks s).names:=by
 rw[spAt_pv];refine KV.pv_names ?_;unfold spAt;cases Nat.blt s ks.nt with
 | true=>exact hk.tm.get_ok s
 | false=>trivial
theorem kheld_eq (hk:ks.Ok) (l:List Nm):Ub (Bk ks.objs) l=JU (Ak ks.st.objs) l:=by
 unfold Ub JU;congr 1;funext nm;rw[Eh hk];cases hq:Bk ks.objs nm with
 | none=>simp[hq]
 | some o =>
  simp only[hq,bU,cr];exact (Aj.ob_names (Dg hk nm o hq)).symm
theorem krn_eq (hk:ks.Ok) {o:AV} (hx:o.op.xs.all Ew=true) (out:Aw):QK o ks out=Fx o ks.st out.out:=by
 have hok:=KT hk hx;unfold QK Fx;rw[Hs hk,Hn (Dg hk),<-Eh hk,<-FA hok,Wa];rfl
theorem kisYld_ok (hk:ks.Ok) {op:Ax} (hx:op.xs.all Ew=true):Ua op ks.tmps=G6 op ks.st.tmps:=by
 cases op<;>try rfl
 rename_i f args;have hxa:args.all Ew=true:=bP.2 fun x hm=>bP.1 hx x (by simp[Ax.xs,hm]);have hxf:(f.kv ks.tmps).ok:=MK hk (bP.1 hx f (by simp[Ax.xs]));unfold Ua G6;simp only
 rw[GI hk,Hs hk,FA (KT hk hxa)];cases hf:f.kv ks.tmps with
 | cv v =>
  rw[hf] at hxf;simp only[KV.pv];cases v<;>first | rfl | (simp[KV.ok,okV] at hxf)
 | _=>rfl
theorem kinfo_ok (hk:ks.Ok) {ops:List AV} {i:Nat} {o:AV} (hx:o.op.xs.all Ew=true) {out:Aw} (ho:out.Ok):kinfo ops i o ks out=GG ops i o ks.st out.out:=by
 unfold kinfo GG;have hok:=KT hk hx;simp only
 have hn:out.out.new.flatMap Ob.names=out.new.flatMap Aj.names:=by
  show (out.new.map Aj.ob).flatMap Ob.names=_;rw[eV]
  have:∀ l:List Aj,(∀ x∈l,x.ok)->l.flatMap (fun a=>a.ob.names)=l.flatMap Aj.names:=by
   intro l;induction l with
   | nil=>intro _;rfl
   | cons x l ih =>
    intro h;rw[cH,cH,Aj.ob_names (h x bT),ih fun y hy=>h y (bM _ hy)]
  exact this _ ho.new
 have hv:out.out.v.names=out.v.names:=KV.pv_names ho.v;simp only[<-U7 hk];rw[krn_eq hk hx,kheld_eq hk,kisYld_ok hk hx,Hs hk,<-Kr hok,Wa,kturns_ok,YB,hn,hv];rfl
theorem koutOf_x {o:AV} {K:Aw->E->Option R} (hr:Mt cfg h o ks e K=some r):o.op.xs.all Ew=true:=by
 unfold Mt at hr;split at hr;·rename_i hcond;exact hcond.2.1
 ·cases hr
theorem kstepD_ok (hc:DJ cfg tab) (hh:HOk h hn) (hk:ks.Ok) {ops:List AV} {i:Nat} {o:AV} {K:Az->E->CK->Option R} (hr:T9 cfg h ops i o ks e K=some r) :
  ∃ k' e' inf,K k' e' inf=some r/\k'.Ok/\Bg fun n=>MB (C9 cfg.b.sp tab n) (hn n) dep ops i o ks.st e=some (k'.st,e',inf):=by
 unfold T9 at hr;obtain⟨b,k1,hr,hk1,hst,hw,_,_⟩:=V9 hk hr;cases b with
 | true =>
  simp only at hr;have hxs:=koutOf_x hr;obtain⟨out,e',hq,h1,h2,h3⟩:=Wc (dep:=dep) hc hh hk1 hr;rw[DB] at h1;obtain⟨s1,s2⟩:=RV hk1 hq o.dst h2;refine⟨_,_,_,h1,s2,h3.mono fun n hn'=>?_⟩;rw[hst] at hn' s1;simp only[MB,BX,hw,hn',s1];rw[kinfo_ok hk1 hxs h2,hst]
 | false =>
  simp only at hr;rw[DB] at hr;have:=WZ.kapply_sk hk1 o.dst;refine⟨_,_,_,hr,this.2,.of fun n=>?_⟩;simp only[MB,BX,hw,this.1,hst,<-U7 hk1]
theorem krunsD_ok (hc:DJ cfg tab) (hh:HOk h hn) {ops:List AV}:∀ (l:List (Nat×Nat)) (infos:List CK) {ks:Az} {e:E} {K:Az->E->Option R},ks.Ok->Qn cfg h ops l infos ks e K=some r ->
  ∃ k' e',K k' e'=some r/\k'.Ok/\Bg fun n=>Hg (C9 cfg.b.sp tab n) (hn n) dep ops l infos ks.st e=some (k'.st,e'):=by
 intro l;induction l with
 | nil=>intro infos ks e K hk hr;exact⟨ks,e,hr,hk,.of fun n=>rfl⟩
 | cons p rest ih =>
  obtain⟨i,bef⟩:=p;intro infos ks e K hk hr;simp only[Qn] at hr;split at hr
  ·rename_i o ho;obtain⟨k1,e1,inf,hr,hk1,h1⟩:=kstepD_ok (dep:=dep) hc hh hk hr;split at hr
   ·rename_i hall;obtain⟨k2,e2,hr,hk2,h2⟩:=ih _ hk1 hr;exact⟨k2,e2,hr,hk2,h1.mono2 h2 fun n a b=>by simp only[Hg,ho,a,AC,hall,if_true,b]⟩
   ·cases hr
  ·cases hr
end Go.Ab


namespace Go.Ab
variable {ks:Az}
theorem O2 {nt:Nat} {l:A6} (h:BM nt l) (d:Nat):(Cq nt l).getD d []=(A9 l d).map Aj.ob:=by
 rw[bI,denseO_get?];split;·rfl
 ·rw[h.get_ge (by omega)];rfl
theorem LG (h:ks.Ok) (ds:List Nat):(DR ds ks).st=EG ds ks.st/\(DR ds ks).Ok/\(DR ds ks).nt=ks.nt:=by
 have hall:(ds.all fun d=>(ks.st.objs.getD d []).isEmpty)=ds.all fun d=>(A9 ks.objs d).isEmpty:=by
  congr 1;funext d;show ((Cq ks.nt ks.objs).getD d []).isEmpty=_;rw[O2 h.ob];cases A9 ks.objs d<;>rfl
 unfold DR EG;rw[hall];split;·exact⟨rfl,h,rfl⟩
 ·have h1:=Tx (fun m=>ds.contains m.1) h;have h2:=Tw (fun m=>ds.contains m.1) h;refine⟨?_,⟨h1.tm,h1.ob.sub (ZN _ _),h1.kp⟩,rfl⟩;have e:H3 (fun m=>ds.contains m.1)=fun m=>if ds.contains m.1=true then some none else none:=rfl
  rw[e] at h2;simp only
  rw[<-h2];unfold Az.st;simp only
  congr 1;refine Km (by simp[HM]) fun i hi=>?_;rw[bK,dg,denseO_get?,if_pos hi,ZP];simp only[bU,cd];cases ds.contains i<;>simp
theorem R1 {ds ds':List Nat} (h:∀ d,d∈ds↔d∈ds') (st:St):EG ds st=EG ds' st:=by
 have h1:∀ p:Nat->Bool,ds.all p=ds'.all p:=fun p=>by
  rw[cJ,bP,bP];exact⟨fun a x hx=>a x ((h x).2 hx),fun a x hx=>a x ((h x).1 hx)⟩
 have h2:∀ i,ds.contains i=ds'.contains i:=fun i=>by
  rw[cJ,cV,cV];exact h i
 unfold EG;simp only[h1,h2]
theorem RT {nm:Nm} {xs:List PV}:nm∈AQ xs↔∃ x∈xs,nm∈x.names:=by
 induction xs with
 | nil=>simp[AQ]
 | cons x xs ih=>simp[AQ,ih]
theorem Vm (h:ks.Ok) (nm:Nm):nm∈AQ ks.st.keep↔nm∈ks.keep.flatMap Fe:=by
 rw[RT];show (∃ x∈ks.keep.flatMap (BB ks.nt),nm∈x.names)↔_;simp only[dh];constructor
 ·rintro ⟨x,⟨sp,hsp,hx⟩,hn⟩;exact⟨sp,hsp,(O1 (h.kp sp hsp) nm).1 (RT.2 ⟨x,hx,hn⟩)⟩
 ·rintro ⟨sp,hsp,hn⟩;obtain⟨x,hx,hn⟩:=RT.1 ((O1 (h.kp sp hsp) nm).2 hn);exact⟨x,⟨sp,hsp,hx⟩,hn⟩
theorem RH (h:ks.Ok) (d:Nat):d∈PS ks.st↔d∈Iq ks:=by
 have hR:∀ p:Nm->Bool,(AQ ks.st.tmps++AQ ks.st.keep++ks.st.objs.flatMap fun l=>l.flatMap Ob.names).all p=(Fe ks.tmps++ks.keep.flatMap Fe++Hp ks.objs).all p:=by
  intro p;have e1:∀ nm,nm∈AQ ks.st.tmps↔nm∈Fe ks.tmps:=fun nm=>O1 h.tm nm;have e2:=Vm h;have e3:∀ nm,nm∈(ks.st.objs.flatMap fun l=>l.flatMap Ob.names)↔nm∈Hp ks.objs:=fun nm=>UB h.ob nm;rw[cJ,bP,bP];refine⟨fun a x hx=>a x ?_,fun a x hx=>a x ?_⟩
  ·simp only[bW] at hx |-;rw[e1,e2,e3];exact hx
  ·simp only[bW] at hx |-;rw[<-e1,<-e2,<-e3];exact hx
 unfold PS Iq;simp only[dF,dj,bE,hR,bB];have hget:ks.st.objs.getD d []=(A9 ks.objs d).map Aj.ob:=O2 h.ob d;rw[hget];constructor
 ·rintro ⟨_,h1,h2⟩;have hne:A9 ks.objs d≠[]:=by intro e;rw[e] at h1;simp at h1
  refine⟨_,⟨LD hne,?_,h2⟩,rfl⟩;simpa using hne
 ·rintro ⟨p,⟨hp,h1,h2⟩,rfl⟩;have:=h.ob.get_mem hp;have hlt:=h.ob.lt p hp;refine⟨?_,?_,h2⟩
  ·show p.1 < (Cq ks.nt ks.objs).length;rw[HM];exact hlt
  ·rw[this];simpa using h1
theorem UW {R R':List Nm} (h:∀ nm,nm∈R↔nm∈R') (d:Nat):∀ n,HB R d n=HB R' d n
 | 0=>rfl
 | n+1=>by
  have e:R.contains (d,n)=R'.contains (d,n):=by
   rw[cJ,cV,cV];exact h _
  simp only[HB,e,UW h d n]
theorem U8 {R:List Nm}:∀ {l:A6} {p:Nat×List Aj},p∈Hr R l->∃ q∈l,p.1=q.1/\∀ o∈p.2,o∈q.2:=by
 intro l;induction l with
 | nil=>intro p hp;cases hp
 | cons q l ih =>
  obtain⟨j,u⟩:=q;intro p hp;simp only[Hr] at hp;split at hp
  ·obtain⟨q,hq,h⟩:=ih hp;exact⟨q,by simp[hq],h⟩
  ·rename_i v vs hv;rcases bH.1 hp with rfl | hp
   ·refine⟨(j,u),by simp,rfl,fun o ho=>?_⟩;simp only at ho;rw[<-hv] at ho;exact cw ho
   ·obtain⟨q,hq,h⟩:=ih hp;exact⟨q,by simp[hq],h⟩
theorem YU {R:List Nm}:∀ (l:A6),((Hr R l).map (·.1)).Sublist (l.map (·.1)):=by
 intro l;induction l with
 | nil=>exact .slnil
 | cons q l ih =>
  obtain⟨j,u⟩:=q;simp only[Hr];split;·exact .cons _ ih
  ·exact .cons_cons _ ih
theorem BM.trim {nt:Nat} {R:List Nm} {l:A6} (h:BM nt l):BM nt (Hr R l) where
 srt:=h.srt.sublist (YU l)
 lt p hp:=by
  obtain⟨q,hq,e,_⟩:=U8 hp;rw[e];exact h.lt q hq
 ok p hp o ho:=by
  obtain⟨q,hq,_,e⟩:=U8 hp;exact h.ok q hq o (e o ho)
theorem ZO {nt:Nat} {R:List Nm}:∀ {l:A6},BM nt l->∀ (i:Nat),A9 (Hr R l) i=(A9 l i).take (HB R i (A9 l i).length):=by
 intro l;induction l with
 | nil=>intro _ i;simp[Hr,A9]
 | cons q l ih =>
  obtain⟨j,u⟩:=q;intro h i;simp only[Hr];cases hij:Nat.beq i j with
  | true =>
   have hb:=dv hij;subst hb
   have hrest:A9 l i=[]:=by
    cases hq:A9 l i with
    | nil=>rfl
    | cons x xs =>
     have hm:=LD (l:=l) (i:=i) (by rw[hq];simp);have h1:=(cF.1 h.srt).1 i (bE.2 ⟨_,hm,rfl⟩);exact absurd h1 (Nat.lt_irrefl i)
   have hget:A9 ((i,u) :: l) i=u:=by simp[A9,hij]
   rw[hget];split
   ·rename_i hv;rw[ih h.tail i,hrest,hv];rfl
   ·rename_i v vs hv;rw[hv];simp[A9,hij]
  | false =>
   have hget:A9 ((j,u) :: l) i=A9 l i:=by simp[A9,hij]
   rw[hget,<-ih h.tail i];split;·rfl
   ·simp[A9,hij]
theorem ktrim_st (h:ks.Ok):(OL ks).st=trim ks.st/\(OL ks).Ok/\(OL ks).nt=ks.nt:=by
 refine⟨?_,⟨h.tm,h.ob.trim,h.kp⟩,rfl⟩
 have hR:∀ nm,nm∈(AQ ks.st.tmps++AQ ks.st.keep++ks.st.objs.flatMap fun l=>l.flatMap Ob.names)↔nm∈(Fe ks.tmps++ks.keep.flatMap Fe++Hp ks.objs):=by
  intro nm;have e1:nm∈AQ ks.st.tmps↔nm∈Fe ks.tmps:=O1 h.tm nm;have e2:=Vm h nm;have e3:nm∈(ks.st.objs.flatMap fun l=>l.flatMap Ob.names)↔nm∈Hp ks.objs:=UB h.ob nm;simp only[bW];rw[e1,e2,e3]
 unfold OL trim;show ({tmps:=_,objs:=Cq ks.nt _,keep:=_}:St)={tmps:=_,objs:=_,keep:=_};congr 1;refine Km (by simp[Az.st,HM]) fun i hi=>?_;rw[bK,dg];show (((Cq ks.nt ks.objs)[i]?).map _).map _=_;rw[denseO_get?,if_pos hi,ZO h.ob];simp only[bU,cd,bG,bS,List.map_take];rw[UW hR]
theorem Tc (h:ks.Ok) (p:Nat->Bool):({ks with tmps:=FD p ks.tmps}:Az).st={ks.st with tmps:=ks.st.tmps.zipIdx.map fun (v,i)=>if p i then v else .undef}/\({ks with tmps:=FD p ks.tmps}:Az).Ok:=by
 refine⟨?_,h.tm.sub (ZK _ _),h.ob,h.kp⟩;unfold Az.st;simp only
 congr 1;refine Ko (by simp[D3]) fun i hi=>?_;rw[bK,dg,dense_get?,if_pos hi,ZL];simp only[bU,cd];cases p i<;>rfl
theorem PK (h:ks.Ok) (lv:Option (List Nat)):(Ld lv ks).st=Hb lv ks.st/\(Ld lv ks).Ok:=by
 cases lv with
 | none=>exact⟨rfl,h⟩
 | some l =>
  unfold Ld Hb Kt;simp only
  obtain⟨h1,h2⟩:=Tc h (fun i=>l.contains i);obtain⟨h3,h4,_⟩:=LG h2 (Iq {ks with tmps:=FD (fun i=>l.contains i) ks.tmps});refine⟨?_,h4⟩;rw[h3,<-h1];exact R1 (fun d=>(RH h2 d).symm) _
theorem Ym {v:PV}:B5 (.cv v) (.cv v)=[v]:=rfl
theorem Zb {l:Sp} (h:Bp (GW l l)=true) {i:Nat} {v:PV} (hm:(i,KV.cv v)∈l):Gy v=false:=by
 unfold Bp at h;induction l with
 | nil=>cases hm
 | cons p l ih =>
  obtain⟨k,u⟩:=p;simp only[GW,cY,bB] at h;rcases bH.1 hm with e | hm
  ·cases e;have:=h.1;rw[Ym] at this;simpa using this
  ·exact ih h.2 hm
theorem ZA {k0:Az} (h0:k0.Ok) (hu:Bp (GW k0.tmps k0.tmps)=true) {i:Nat} (hi:i < k0.nt):(undefs k0.st).contains i=!Gg k0.tmps i:=by
 have hmem:i∈undefs k0.st↔Gy (A2 k0.tmps i).pv=true:=by
  unfold undefs;simp only[bE,dF];constructor
  ·rintro ⟨⟨v,j⟩,⟨hv,hq⟩,rfl⟩;have:=List.mem_zipIdx hv;rw[cW] at hv;simp only at hv;have e:(BB k0.nt k0.tmps)[j]?=some v:=hv;rw[dense_get?,if_pos hi] at e;cases e;exact hq
  ·intro hq;refine⟨((A2 k0.tmps i).pv,i),⟨?_,hq⟩,rfl⟩;rw[cW];show (BB k0.nt k0.tmps)[i]?=_;rw[dense_get?,if_pos hi]
 rw[cJ,cV,hmem];cases hh:Gg k0.tmps i with
 | false =>
  have:A2 k0.tmps i=.un:=by
   apply cM;intro hne;rw[(h0.tm.has_iff i).2 hne] at hh;cases hh
  simp[this,KV.pv,Gy]
 | true =>
  have hne:=(h0.tm.has_iff i).1 hh;have hm:=Nh hne;simp only[ce,bA,iff_false];intro hq;cases hg:A2 k0.tmps i with
  | un=>exact hne hg
  | cv v =>
   rw[hg] at hm hq;have:=Zb hu hm;simp only[KV.pv] at hq;rw[this] at hq;cases hq
  | _=>rw[hg] at hq;simp[KV.pv,Gy] at hq
theorem kdrop_st {k0:Az} (h0:k0.Ok) (hu:Bp (GW k0.tmps k0.tmps)=true) (h:ks.Ok) (hnt:ks.nt=k0.nt):(JR k0 ks).st=drop (undefs k0.st) ks.st/\(JR k0 ks).Ok/\(JR k0 ks).nt=ks.nt:=by
 unfold JR drop;simp only
 obtain⟨h1,h2⟩:=Tc h (Gg k0.tmps);obtain⟨h3,h4,h5⟩:=LG h2 (Iq {ks with tmps:=FD (Gg k0.tmps) ks.tmps});refine⟨?_,h4,h5⟩
 have h6:Kv (undefs k0.st) ks.st=({ks with tmps:=FD (Gg k0.tmps) ks.tmps}:Az).st:=by
  rw[h1];unfold Kv;congr 1;apply ci;rintro ⟨v,i⟩ hm
  have hi:i < k0.nt:=by
   rw[cW] at hm;have e:(BB ks.nt ks.tmps)[i]?=some v:=hm;rw[dense_get?] at e;split at e;·omega
   ·cases e
  simp only[ZA h0 hu hi];cases Gg k0.tmps i<;>rfl
 rw[h3,h6];exact R1 (fun d=>(RH h2 d).symm) _
theorem Wg (h:ks.Ok) (t:Nat):KH ks.st t=JC ks t:=by
 unfold KH JC;show (match (Cq ks.nt ks.objs)[t]? with | some []=>true | _=>false)=_
 rw[denseO_get?];by_cases ht:t < ks.nt
 ·rw[if_pos ht];have:Nat.blt t ks.nt=true:=by simpa[cG] using ht
  rw[this];cases A9 ks.objs t<;>rfl
 ·rw[if_neg ht]
  have:Nat.blt t ks.nt=false:=by
   cases hb:Nat.blt t ks.nt with
   | false=>rfl
   | true=>exact absurd (by simpa[cG] using hb) ht
  rw[this];rfl
theorem Wh {t:Nat} (h:JC ks t=true):t < ks.nt:=by
 unfold JC at h;simp only[bB,cG] at h;exact h.1
theorem Uw (h:ks.Ok) (t:Nat) (nm:Nm):(LE t ks nm).st=(if nm≠(t,0)/\KH ks.st t=true then
   match Ak ks.st.objs nm with
   | some ob =>
    let f:Nm->Nm:=fun m=>if m=nm then (t,0) else m
    let objs:=ks.st.objs.map (·.map (Ob.ren f))
    {tmps:=Bt f ks.st.tmps,objs:=(Bi objs nm Bz).set t [ob.ren f],keep:=Bt f ks.st.keep}
   | none=>ks.st
  else ks.st)/\(LE t ks nm).Ok/\(LE t ks nm).nt=ks.nt:=by
 unfold LE;rw[Wg h];by_cases hc:nm≠(t,0)/\JC ks t=true
 ·rw[if_pos hc,if_pos hc,GY h];cases hl:Bk ks.objs nm with
  | none=>exact⟨rfl,h,rfl⟩
  | some ob =>
   simp only[bU];have hoo:=DA h.ob hl;have ht:=Wh hc.2
   let f:Nm->Nm:=fun m=>if m=nm then (t,0) else m
   have hm:BM ks.nt (EY (Aj.ren f) ks.objs):=h.ob.map fun x hx=>Aj.ren_ok f hx
   refine⟨?_,⟨h.tm.map fun x hx=>KV.ren_ok f hx,(hm.kput nm (o:=Gk) rfl).put ht fun o ho=>by
    simp only[cj] at ho;subst ho;exact Aj.ren_ok f hoo,fun sp hsp=>?_⟩,by trivial⟩
   ·unfold Az.st;simp only
    rw[Pz h.tm,Kl,M6 hm,Pe h.ob (fun o ho=>Aj.ren_ob f ho),
     PP (g:=Bt f) rfl (UK f) fun sp hsp=>Pz (h.kp sp hsp) f]
    have hren:=Aj.ren_ob (fun m=>if m=nm then (t,0) else m) hoo;simp only[bz,bC,hren];rfl
   ·obtain⟨q,hq,rfl⟩:=bE.1 hsp;exact (h.kp q hq).map fun x hx=>KV.ren_ok f hx
 ·rw[if_neg hc,if_neg hc];exact⟨rfl,h,rfl⟩
theorem al (h:ks.Ok) (t:Nat):(Jj t ks).st=KC t ks.st/\(Jj t ks).Ok/\(Jj t ks).nt=ks.nt:=by
 have hget:ks.st.tmps.getD t .undef=(A2 ks.tmps t).pv:=Kk h.tm t;have hokt:=h.tm.get_ok t;unfold Jj KC;rw[hget];cases hg:A2 ks.tmps t with
 | arr nm k o n=>exact Uw h t nm
 | wit nm=>exact Uw h t nm
 | cv v =>
  rw[hg] at hokt;have hv:okV v=true:=hokt;simp only[KV.pv];cases v<;>first | (simp[okV] at hv;done) | exact⟨rfl,h,trivial⟩
 | _=>exact⟨rfl,h,rfl⟩
theorem Ut (h:ks.Ok) (d:Nat):ks.st.objs.getD d []=(A9 ks.objs d).map Aj.ob:=O2 h.ob d
theorem Wf (h:ks.Ok) {nm:Nm} {ty:Nat} {cs:List KV} (hl:Bk ks.objs nm=some (.cells ty cs)) (i k:Nat):(Mv nm ty cs i k ks).Ok/\(Mv nm ty cs i k ks).nt=ks.nt/\(Mv nm ty cs i k ks).st={ks.st with objs:=ks.st.objs.set nm.1 ((ks.st.objs.getD nm.1 []).set nm.2 (.cells ty ((AJ cs).set i (.arr (nm.1,(ks.st.objs.getD nm.1 []).length) k 0 0)))++[.arr k 0 []])}:=by
 have hlt:=PL h.ob hl;have hcs:A4 cs:=DA h.ob hl
 have hset:A4 (cs.set i (.arr (nm.1,(A9 ks.objs nm.1).length) k 0 0)):=CO.2 fun x hx=>by
  rcases dW hx with hx | hx;·exact CO.1 hcs x hx
  ·subst hx;trivial
 unfold Mv;refine⟨⟨h.tm,h.ob.put hlt fun o ho=>?_,h.kp⟩,rfl,?_⟩
 ·rcases bW.1 ho with ho | ho
  ·rcases dW ho with ho | ho;·exact h.ob.get_ok ho
   ·subst ho;exact hset
  ·simp only[cj] at ho;subst ho;rfl
 ·rw[Ut h];unfold Az.st;simp only
  rw[Kl,di,dD];simp only[bz,bC,Aj.ob,D7,dD,KV.pv,bS]
theorem Ux (h:ks.Ok) (nm m:Nm) (hlt:nm.1 < ks.nt):(LF nm m ks).Ok/\(LF nm m ks).nt=ks.nt/\(LF nm m ks).st=(if m.1≠nm.1 then
   match Ak ks.st.objs m with
   | some ob =>
    let f:Nm->Nm:=fun x=>if x=m then (nm.1,(ks.st.objs.getD nm.1 []).length) else x
    let objs:=Bi (ks.st.objs.map (·.map (Ob.ren f))) m Bz
    {tmps:=Bt f ks.st.tmps,objs:=objs.set nm.1 (objs.getD nm.1 []++[ob.ren f]),keep:=Bt f ks.st.keep}
   | none=>ks.st
  else ks.st):=by
 unfold LF;by_cases hm:m.1≠nm.1
 ·rw[if_pos hm,if_pos hm,GY h];cases hl:Bk ks.objs m with
  | none=>exact⟨h,rfl,rfl⟩
  | some ob =>
   simp only[bU];have hoo:=DA h.ob hl;rw[Ut h,bS];generalize hf:(fun x:Nm=>if x=m then (nm.1,(A9 ks.objs nm.1).length) else x)=f;have hmp:BM ks.nt (EY (Aj.ren f) ks.objs):=h.ob.map fun x hx=>Aj.ren_ok f hx;have hkp:BM ks.nt (kput (EY (Aj.ren f) ks.objs) m Gk):=hmp.kput m (o:=Gk) rfl;refine⟨⟨h.tm.map fun x hx=>KV.ren_ok f hx,hkp.put hlt fun o ho=>?_,fun sp hsp=>?_⟩,by trivial,?_⟩
   ·rcases bW.1 ho with ho | ho;·exact hkp.get_ok ho
    ·simp only[cj] at ho;subst ho;exact Aj.ren_ok f hoo
   ·obtain⟨q,hq,rfl⟩:=bE.1 hsp;exact (h.kp q hq).map fun x hx=>KV.ren_ok f hx
   ·have hobj:Cq ks.nt (kput (EY (Aj.ren f) ks.objs) m Gk)=Bi (ks.st.objs.map (·.map (Ob.ren f))) m Bz:=by
     rw[M6 hmp,Pe h.ob (fun o ho=>Aj.ren_ob f ho)];rfl
    rw[<-hobj,O2 hkp];unfold Az.st;simp only
    rw[Pz h.tm,Kl,PP (g:=Bt f) rfl (UK f) fun sp hsp=>Pz (h.kp sp hsp) f];have hren:=Aj.ren_ob f hoo;simp only[di,bz,bC,hren]
 ·rw[if_neg hm,if_neg hm];exact⟨h,rfl,rfl⟩
theorem YD {R:Type} {r:R} (h:ks.Ok) {nm:Nm} {ty:Nat} {cs:List KV} (hl:Bk ks.objs nm=some (.cells ty cs)) {i k:Nat} {K:Az->Option R} (hr:SD nm ty cs i k ks K=some r):∃ k',K k'=some r/\k'.Ok/\k'.nt=ks.nt/\k'.st=NI nm ty (AJ cs) i k ks.st:=by
 have hlt:=PL h.ob hl;have hcs:A4 cs:=DA h.ob hl;unfold SD at hr;unfold NI;simp only[pvL_get?];cases hc:cs[i]? with
 | none=>rw[hc] at hr;exact⟨_,hr,h,rfl,rfl⟩
 | some x =>
  rw[hc] at hr;cases x with
  | nils =>
   obtain⟨a,b,c⟩:=Wf h hl i k;exact⟨_,hr,a,b,c⟩
  | arr m _ _ _ =>
   obtain⟨a,b,c⟩:=Ux h nm m hlt;exact⟨_,hr,a,b,c⟩
  | wit m =>
   obtain⟨a,b,c⟩:=Ux h nm m hlt;exact⟨_,hr,a,b,c⟩
  | cv v =>
   have hv:okV v=true:=CO.1 hcs _ (bQ hc);simp only[bU,KV.pv];unfold DY at hr;obtain⟨a,b,c⟩:=Wf h hl i k;cases v<;>first | (simp[okV] at hv;done) | exact⟨_,hr,a,b,c⟩ | (cases hr;done)
  | _=>exact⟨_,hr,h,rfl,rfl⟩
theorem kgrowC_st {R:Type} {r:R} (h:ks.Ok) {x off k:Nat} {K:Az->Option R} (hr:Uc x off k ks K=some r):∃ k',K k'=some r/\k'.Ok/\k'.nt=ks.nt/\k'.st=OP x off k ks.st:=by
 have hget:ks.st.tmps.getD x .undef=(A2 ks.tmps x).pv:=Kk h.tm x;have hokt:=h.tm.get_ok x;unfold Uc at hr;unfold OP;rw[hget];cases hg:A2 ks.tmps x with
 | ref nm o =>
  rw[hg] at hr;simp only[KV.pv] at hr |-;rw[GY h];cases hl:Bk ks.objs nm with
  | none=>rw[hl] at hr;exact⟨_,hr,h,rfl,rfl⟩
  | some ob =>
   rw[hl] at hr;cases ob with
   | cells ty cs=>exact YD h hl hr
   | whole ty v =>
    have hv:okV v=true:=DA h.ob hl;have hvl:Ao (CH v)=true:=Dm hv;simp only[bU,Aj.ob] at hr |-;unfold Ae at hr;cases hn:S3 v (o+off) with
    | false=>rw[hn] at hr;cases hr
    | true =>
     rw[hn] at hr;refine⟨_,hr,h,rfl,?_⟩;unfold S3 at hn;unfold NI;show ks.st=match (CH v)[o+off]? with | some .nilS=>_ | some (.arr m _ _ _)=>_ | _=>_
     have e:CH v=v.cells:=rfl;rw[e] at hvl |-;cases hc:v.cells[o+off]? with
     | none=>rfl
     | some y =>
      rw[hc] at hn;have hy:=HU hvl hc;cases y<;>first | (simp at hn;done) | (simp[okV] at hy;done) | rfl
   | _=>exact⟨_,hr,h,rfl,rfl⟩
 | cv v =>
  rw[hg] at hr hokt;have hv:okV v=true:=hokt;simp only[KV.pv];cases v<;>first | (simp[okV] at hv;done) | exact⟨_,hr,h,rfl,rfl⟩
 | _=>rw[hg] at hr;exact⟨_,hr,h,rfl,rfl⟩
theorem kgrow_st {R:Type} {r:R} (h:ks.Ok) {t k:Nat} {K:Az->Option R} (hr:Ud t k ks K=some r):∃ k',K k'=some r/\k'.Ok/\k'.nt=ks.nt/\k'.st=Lf t k ks.st:=by
 have hget:ks.st.tmps.getD t .undef=(A2 ks.tmps t).pv:=Kk h.tm t;unfold Ud at hr;unfold Lf;by_cases hb:ID<=t
 ·rw[if_pos hb] at hr |-;exact kgrowC_st h hr
 rw[if_neg hb] at hr |-;rw[hget];cases hg:A2 ks.tmps t with
 | nils =>
  rw[hg] at hr;simp only[KV.pv];rw[Wg h];by_cases hc:JC ks t=true
  ·rw[if_pos hc] at hr;rw[if_pos hc];have ht:=Wh hc;refine⟨_,hr,⟨h.tm.put ht trivial rfl,h.ob.put ht fun o ho=>?_,h.kp⟩,rfl,?_⟩;·simp only[cj] at ho;subst ho;rfl
   ·unfold Az.st;simp only
    rw[PA,Kl];rfl
  ·rw[if_neg hc] at hr;rw[if_neg hc];exact⟨_,hr,h,rfl,rfl⟩
 | cv v =>
  rw[hg] at hr;simp only at hr;unfold notNil at hr;simp only[KV.pv];cases v<;>first | exact⟨_,hr,h,rfl,rfl⟩ | cases hr
 | _=>rw[hg] at hr;exact⟨_,hr,h,rfl,rfl⟩
theorem kgrows_st {R:Type} {r:R}:∀ (l:List (Nat×Nat)) {ks:Az} {K:Az->Option R},ks.Ok->Qo l ks K=some r->∃ k',K k'=some r/\k'.Ok/\k'.nt=ks.nt/\k'.st=l.foldl (fun st (p:Nat×Nat)=>Lf p.1 p.2 st) ks.st:=by
 intro l;induction l with
 | nil=>intro ks K h hr;exact⟨ks,hr,h,rfl,rfl⟩
 | cons p l ih =>
  obtain⟨t,k⟩:=p;intro ks K h hr;simp only[Qo] at hr;obtain⟨k1,hr,h1,n1,s1⟩:=kgrow_st h hr;obtain⟨k2,hr,h2,n2,s2⟩:=ih h1 hr;exact⟨k2,hr,h2,n2.trans n1,by rw[s2,s1];rfl⟩
theorem Zi:∀ (l:List Nat) {ks:Az},ks.Ok->(l.foldl (fun ks t=>Jj t ks) ks).Ok/\(l.foldl (fun ks t=>Jj t ks) ks).nt=ks.nt/\(l.foldl (fun ks t=>Jj t ks) ks).st=l.foldl (fun st t=>KC t st) ks.st:=by
 intro l;induction l with
 | nil=>intro ks h;exact⟨h,rfl,rfl⟩
 | cons t l ih =>
  intro ks h;simp only[dA];obtain⟨a,b,c⟩:=al h t;obtain⟨d,e,f⟩:=ih b;exact⟨d,e.trans c,by rw[f,a]⟩
theorem Yv (st:St):Kv (undefs st) st=st:=by
 obtain⟨t,o,k⟩:=st;unfold Kv;congr 1;apply ct;intro i;rw[bK,dg];cases hg:t[i]? with
 | none=>rfl
 | some v =>
  simp only[bU,cd,bG];split
  ·rename_i hc;rw[cV] at hc;unfold undefs at hc;simp only[bE,dF] at hc;obtain⟨⟨u,j⟩,⟨hm,hu⟩,he⟩:=hc;rw[cW] at hm;simp only at he hm hu;subst he;rw[hg] at hm;cases hm;cases v<;>simp_all [Gy]
  ·rfl
theorem Tb {R:Type} {r:R} (h:ks.Ok) {asg:List Nat} {grow:List (Nat×Nat)} {K:Az->Option R} (hr:ON asg grow ks K=some r):∃ k',K k'=some r/\k'.Ok/\k'.nt=ks.nt/\k'.st=norm asg grow ks.st:=by
 unfold ON at hr;obtain⟨a,b,c⟩:=Zi asg h;obtain⟨k',hr,h1,n1,s1⟩:=kgrows_st grow a hr;obtain⟨d1,d2,d3⟩:=LG h1 (Iq k');refine⟨_,hr,d2,d3.trans (n1.trans b),?_⟩;have e:k'.st=QC asg grow ks.st:=by rw[s1,c];rfl
 unfold norm drop;rw[d1,<-e,Yv];exact R1 (fun d=>(RH h1 d).symm) _
theorem SK:∀ {nt:Nat} (ps xs:Sp),IN ps xs=true->BQ nt ps->BQ nt xs->∀ (vs:List PV) (i:Nat),CY vs i (GW ps xs) ->
  (∀ j,(A2 (EW ps vs i).1 j).pv=(A2 xs j).pv)/\BQ nt (EW ps vs i).1/\(EW ps vs i).1.map (·.1)=ps.map (·.1)/\(EW ps vs i).2=i+(GW ps xs).length
 | nt,[],[],_,_,_,vs,i,_=>⟨fun _=>rfl,.nil nt,rfl,rfl⟩
 | _,[],_ :: _,h,_,_,_,_,_=>by simp[IN] at h
 | _,_ :: _,[],h,_,_,_,_,_=>by simp[IN] at h
 | nt,(j1,p) :: ps,(j2,x) :: xs,h,hp,hx,vs,i,hs=>by
  simp only[IN,bB] at h;simp only[GW] at hs;have hj:=dv h.1;subst hj;obtain⟨a,b,c⟩:=TB p x h.2.1 (hx.ok (j1,x) (by simp)) vs i hs.left;obtain⟨a',b',k',c'⟩:=SK ps xs h.2.2 hp.tail hx.tail vs (fill p vs i).2 (by rw[c];exact hs.right);refine⟨?_,⟨?_,?_,?_,?_⟩,by simp[EW,k'],?_⟩
  ·intro j;simp only[EW,A2];cases Nat.beq j j1 with
   | true=>exact a
   | false=>exact a' j
  ·simp only[EW,bz];rw[k'];exact hp.srt
  ·intro q hq;simp only[EW,bH] at hq;rcases hq with rfl | hq;·exact hp.lt (j1,p) (by simp)
   ·exact b'.lt q hq
  ·intro q hq;simp only[EW,bH] at hq;rcases hq with rfl | hq;·exact b
   ·exact b'.ok q hq
  ·intro q hq;simp only[EW,bH] at hq;rcases hq with rfl | hq;·exact Xu (hp.nu (j1,p) (by simp))
   ·exact b'.nu q hq
  ·simp only[EW,GW,cm];rw[c',c];omega
theorem Wp:∀ {nt:Nat} (ps xs:A6),JV ps xs=true->BM nt ps->BM nt xs->∀ (vs:List PV) (i:Nat),CY vs i (LT ps xs) ->
  (∀ j,(A9 (GH ps vs i).1 j).map Aj.ob=(A9 xs j).map Aj.ob)/\BM nt (GH ps vs i).1/\(GH ps vs i).1.map (·.1)=ps.map (·.1)/\(GH ps vs i).2=i+(LT ps xs).length
 | nt,[],[],_,_,_,vs,i,_=>⟨fun _=>rfl,.nil nt,rfl,rfl⟩
 | _,[],_ :: _,h,_,_,_,_,_=>by simp[JV] at h
 | _,_ :: _,[],h,_,_,_,_,_=>by simp[JV] at h
 | nt,(j1,p) :: ps,(j2,x) :: xs,h,hp,hx,vs,i,hs=>by
  simp only[JV,bB] at h;simp only[LT] at hs;have hj:=dv h.1;subst hj;obtain⟨a,b,c⟩:=Sj p x h.2.1 (hx.ok (j1,x) (by simp)) vs i hs.left;obtain⟨a',b',k',c'⟩:=Wp ps xs h.2.2 hp.tail hx.tail vs (CF p vs i).2 (by rw[c];exact hs.right);refine⟨?_,⟨?_,?_,?_⟩,by simp[GH,k'],?_⟩
  ·intro j;simp only[GH,A9];cases Nat.beq j j1 with
   | true=>exact a
   | false=>exact a' j
  ·simp only[GH,bz];rw[k'];exact hp.srt
  ·intro q hq;simp only[GH,bH] at hq;rcases hq with rfl | hq;·exact hp.lt (j1,p) (by simp)
   ·exact b'.lt q hq
  ·intro q hq;simp only[GH,bH] at hq;rcases hq with rfl | hq;·exact b
   ·exact b'.ok q hq
  ·simp only[GH,LT,cm];rw[c',c];omega
theorem Wq:∀ {nt:Nat} (ps xs:List Sp),JW ps xs=true->(∀ p∈ps,BQ nt p)->(∀ x∈xs,BQ nt x)->∀ (vs:List PV) (i:Nat),CY vs i (PJ ps xs) ->
  (K3 ps vs i).1.flatMap (BB nt)=xs.flatMap (BB nt)/\(∀ p∈(K3 ps vs i).1,BQ nt p)
 | nt,[],[],_,_,_,vs,i,_=>⟨rfl,by simp[K3]⟩
 | _,[],_ :: _,h,_,_,_,_,_=>by simp[JW] at h
 | _,_ :: _,[],h,_,_,_,_,_=>by simp[JW] at h
 | nt,p :: ps,x :: xs,h,hp,hx,vs,i,hs=>by
  simp only[JW,bB] at h;simp only[PJ] at hs;obtain⟨a,b,_,c⟩:=SK p x h.1 (hp p (by simp)) (hx x (by simp)) vs i hs.left;obtain⟨a',b'⟩:=Wq ps xs h.2 (fun q hq=>hp q (by simp[hq])) (fun q hq=>hx q (by simp[hq])) vs (EW p vs i).2 (by rw[c];exact hs.right);refine⟨?_,?_⟩
  ·simp only[K3,cH,a'];congr 1;unfold BB;exact ci fun j _=>a j
  ·intro q hq;simp only[K3,bH] at hq;rcases hq with rfl | hq;·exact b
   ·exact b' q hq
theorem SS {β:Type}:∀ {l:List Bool} {a:Option β} {r:β},chks l a=some r->l.all id=true/\a=some r
 | [],_,_,h=>⟨rfl,h⟩
 | b :: l,a,r,h=>by
  obtain⟨h1,h2⟩:=Br h;obtain⟨h3,h4⟩:=SS h2;exact⟨by simp[h1,h3],h4⟩
mutual
theorem Tf:∀ {p x:KV},Eb p x=true->(Hw p x).all id=true->Bo p x=true
 | .un,x,h,_=>by simpa[Eb,Bo] using h
 | .sk,x,h,_=>by simpa[Eb,Bo] using h
 | .yld _,x,h,_=>by simpa[Eb,Bo] using h
 | .ref _ _,x,h,_=>by simpa[Eb,Bo] using h
 | .aref _ _ _ _,x,h,_=>by simpa[Eb,Bo] using h
 | .mp _,x,h,_=>by simpa[Eb,Bo] using h
 | .it _,x,h,_=>by simpa[Eb,Bo] using h
 | .wit _,x,h,_=>by simpa[Eb,Bo] using h
 | .lit _,x,h,_=>by simpa[Eb,Bo] using h
 | .nils,x,h,_=>by simpa[Eb,Bo] using h
 | .cv _,x,h,_=>by simpa[Eb,Bo] using h
 | .arr nm k o n,x,h,ho=>by
  cases x<;>simp only[Eb,bA] at h;simp only[Hw,cS,List.all_nil,d8,id,eqOff] at ho;simp only[Bo,h,ho,cu]
 | .fn f cap,x,h,ho=>by
  cases x<;>simp only[Eb,bA,bB] at h;simp only[Bo,h.1,NJ h.2 ho,cu]
 | .tup xs,x,h,ho=>by
  cases x<;>simp only[Eb,bA] at h;exact NJ h ho
 | .agg cs,x,h,ho=>by
  unfold Eb at h;unfold Bo;split;·rename_i hc;rw[if_pos hc] at h;exact h
  ·rename_i hc;rw[if_neg hc] at h;cases x<;>simp only[bA] at h;exact NJ h ho
 | .iface t y,x,h,ho=>by
  unfold Eb at h;unfold Bo;split;·rename_i hc;rw[if_pos hc] at h;exact h
  ·rename_i hc;rw[if_neg hc] at h;cases x<;>simp only[bA,bB] at h;simp only[h.1,Tf h.2 ho,cu]
theorem NJ:∀ {p x:List KV},IP p x=true->(IH p x).all id=true->DZ p x=true
 | [],x,h,_=>by cases x<;>simpa[IP,DZ] using h
 | p :: ps,[],h,_=>by simp[IP] at h
 | p :: ps,x :: xs,h,ho=>by
  simp only[IP,bB] at h;simp only[IH,cY,bB] at ho;simp only[DZ,Tf h.1 ho.1,NJ h.2 ho.2,cu]
end
mutual
theorem R9:∀ (x:KV),(Hw x x).all id=true
 | .un | .sk | .yld _ | .ref _ _ | .aref _ _ _ _ | .mp _ | .it _ | .wit _ | .lit _ | .nils | .cv _=>rfl
 | .arr nm k o n=>by simp[Hw,eqOff]
 | .fn f cap=>by simp only[Hw];exact Na cap
 | .tup xs=>by simp only[Hw];exact Na xs
 | .agg cs=>by simp only[Hw];exact Na cs
 | .iface t y=>by simp only[Hw];exact R9 y
theorem Na:∀ (x:List KV),(IH x x).all id=true
 | []=>rfl
 | x :: xs=>by simp only[IH,cY,R9 x,Na xs,cu]
end
theorem fit0Ob_ok {p x:Aj} (h:Ui p x=true) (ho:(T4 p x).all id=true):Db p x=true:=by
 cases p with
 | cells ty cs =>
  cases x<;>simp only[Ui,bA,bB] at h;simp only[Db,h.1,NJ h.2 ho,cu]
 | whole ty v=>exact h
 | arr k t xs=>exact h
 | map es=>exact h
 | siter s p=>exact h
theorem Za (x:Aj):(T4 x x).all id=true:=by cases x<;>first | exact Na _ | rfl
theorem Vs:∀ {p x:List Aj},Md p x=true->(L6 p x).all id=true->El p x=true
 | [],[],_,_=>rfl
 | [],_ :: _,h,_=>by simp[Md] at h
 | _ :: _,[],h,_=>by simp[Md] at h
 | p :: ps,x :: xs,h,ho=>by
  simp only[Md,bB] at h;simp only[L6,cY,bB] at ho;simp only[El,fit0Ob_ok h.1 ho.1,Vs h.2 ho.2,cu]
theorem Uu:∀ (x:List Aj),(L6 x x).all id=true
 | []=>rfl
 | x :: xs=>by simp only[L6,cY,Za x,Uu xs,cu]
theorem SI:∀ {p x:Sp},K2 p x=true->(KO p x).all id=true->IN p x=true
 | [],[],_,_=>rfl
 | [],_ :: _,h,_=>by simp[K2] at h
 | _ :: _,[],h,_=>by simp[K2] at h
 |(i,p) :: ps,(j,x) :: xs,h,ho=>by
  simp only[K2,bB] at h;simp only[KO,cY,bB] at ho;simp only[IN,h.1,Tf h.2.1 ho.1,SI h.2.2 ho.2,cu]
theorem RS:∀ (x:Sp),(KO x x).all id=true
 | []=>rfl
 |(_,x) :: xs=>by simp only[KO,cY,R9 x,RS xs,cu]
theorem Wl:∀ {p x:A6},Mw p x=true->(Mm p x).all id=true->JV p x=true
 | [],[],_,_=>rfl
 | [],_ :: _,h,_=>by simp[Mw] at h
 | _ :: _,[],h,_=>by simp[Mw] at h
 |(i,p) :: ps,(j,x) :: xs,h,ho=>by
  simp only[Mw,bB] at h;simp only[Mm,cY,bB] at ho;simp only[JV,h.1,Vs h.2.1 ho.1,Wl h.2.2 ho.2,cu]
theorem UL:∀ (x:A6),(Mm x x).all id=true
 | []=>rfl
 |(_,x) :: xs=>by simp only[Mm,cY,Uu x,UL xs,cu]
theorem Wm:∀ {p x:List Sp},Mx p x=true->(Mn p x).all id=true->JW p x=true
 | [],[],_,_=>rfl
 | [],_ :: _,h,_=>by simp[Mx] at h
 | _ :: _,[],h,_=>by simp[Mx] at h
 | p :: ps,x :: xs,h,ho=>by
  simp only[Mx,bB] at h;simp only[Mn,cY,bB] at ho;simp only[JW,SI h.1 ho.1,Wm h.2 ho.2,cu]
theorem UM:∀ (x:List Sp),(Mn x x).all id=true
 | []=>rfl
 | x :: xs=>by simp only[Mn,cY,RS x,UM xs,cu]
theorem SH {p x:Az} (h:K1 p x=true) (ho:(Ol p x).all id=true):MR p x=true:=by
 unfold K1 at h;unfold Ol at ho;simp only[bB] at h;simp only[cY,bB] at ho;unfold MR;simp only[h.1,SI h.2.1 ho.1,Wl h.2.2.1 ho.2.1,Wm h.2.2.2 ho.2.2,cu]
theorem UT {x:Az} (h:K1 x x=true):MR x x=true :=
 SH h (by unfold Ol;simp only[cY,RS,UL,UM,cu])
theorem Px {p x:Az} (h:MR p x=true) (hp:p.Ok) (hx:x.Ok):(Cp p (EO p x)).st=x.st/\(Cp p (EO p x)).Ok/\(Cp p (EO p x)).nt=p.nt/\p.nt=x.nt:=by
 unfold MR at h;simp only[bB] at h;obtain⟨h0,h1,h2,h3⟩:=h;have hnt:=dv h0;have hs:=CY.all (EO p x);unfold EO at hs;have hx1:BQ p.nt x.tmps:=hnt ▸ hx.tm;have hx2:BM p.nt x.objs:=hnt ▸ hx.ob;have hx3:∀ sp∈x.keep,BQ p.nt sp:=hnt ▸ hx.kp;obtain⟨a1,b1,_,c1⟩:=SK p.tmps x.tmps h1 hp.tm hx1 _ 0 hs.left.left;have hs2:=hs.left.right;obtain⟨a2,b2,_,c2⟩:=Wp p.objs x.objs h2 hp.ob hx2 (EO p x) (EW p.tmps (EO p x) 0).2 (by unfold EO;rw[c1];exact hs2);have hs3:=hs.right
 obtain⟨a3,b3⟩:=Wq p.keep x.keep h3 hp.kp hx3 (EO p x) (GH p.objs (EO p x) (EW p.tmps (EO p x) 0).2).2 (by
  unfold EO at c2 |-;rw[c2,c1];simp only[cm] at hs3;rw[cd] at hs3 |-;exact hs3)
 refine⟨?_,⟨b1,b2,b3⟩,rfl,hnt⟩;unfold Az.st Cp;simp only
 rw[<-hnt,a3];congr 1;·unfold BB;exact ci fun j _=>a1 j
 ·unfold Cq;exact ci fun j _=>a2 j
end Go.Ab


namespace Go.Ab
variable {cfg:Dx} {tab:FuncId->Option At}
theorem exec_pure {d:Nat} {σ:Nm->Option Ob} {T:List PV} {op:Ax} (hp:Ml op=true) {out:AK} (h:exec d σ T op=some out):out={v:=out.v}:=by
 have hm:∀ {x:Option PV},(x.map fun v=>({v:=v}:AK))=some out->out={v:=out.v}:=by
  intro x hx;obtain⟨v,_,rfl⟩:=bD.1 hx;rfl
 have hcm:∀ {b:Bool} {x:Option PV},AC b (x.map fun v=>({v:=v}:AK))=some out->out={v:=out.v}:=by
  intro b x hx;exact hm (Dq hx).2
 have hc:∀ {b:Bool} {v:PV},AC b (some ({v:=v}:AK))=some out->out={v:=out.v}:=by
  intro b v hx;obtain⟨_,hx⟩:=Dq hx;cases hx;rfl
 cases op with
 | box | alloc | mkSl | store | mkF | mkMap | insert | mkS | append | copy | call | iter | next | bad=>simp[Ml] at hp
 | mov x=>cases h;rfl
 | mkI t x=>cases h;rfl
 | bin op c cst x y=>exact hm h
 | slice k x lo hi mx=>exact hm h
 | len c x =>
  simp only[exec] at h;obtain⟨n,_,rfl⟩:=bD.1 h;rfl
 | pick c a b | conv k x | ofRune x | strId x | un op x | nilck x=>simp only[exec] at h;split at h<;>first | (cases h;rfl) | cases h
 | build z ps=>simp only[exec] at h;split at h<;>first | (cases h;rfl) | cases h
 | toBytes x=>simp only[exec] at h;split at h<;>first | exact hc h | cases h
 | field off n ag x=>simp only[exec] at h;split at h<;>first | exact hm h | cases h
 | fieldAddr off x=>simp only[exec] at h;split at h<;>first | exact hc h | (cases h;rfl) | cases h
 | idxAddrA k l x i=>simp only[exec] at h;split at h<;>first | exact hc h | cases h
 | ofBytes x | strIdx x i | extract j x | minmax mx xs | idxAddr k x i | strSlice x lo hi =>
  simp only[exec] at h;split at h
  all_goals first
   |(cases h;done)
   | exact hc h
   |(obtain⟨n,_,rfl⟩:=bD.1 h;rfl)
   |(split at h<;>first | (cases h;done) | exact hc h | (cases h;rfl) | (split at h<;>first | (cases h;done) | (cases h;rfl)))
 | tassert t z ok x =>
  simp only[exec] at h;split at h
  ·split at h;·cases h;rfl
   ·exact hc h
  ·exact hc h
  ·cases h
 | lookup c z ok x k =>
  simp only[exec] at h;split at h;·cases h
  ·split at h;·cases h
   ·exact hc h
 | load n ag x =>
  simp only[exec] at h;split at h
  ·split at h;·exact hm h
   ·cases h
  ·exact hm h
  ·split at h
   ·split at h;·exact hcm h
    ·cases h
   ·cases h
  ·cases h
theorem U0 (st:St) (dst:Option Nat) (v:PV):apply st dst {v}=Kb dst v [] st:=by
 rw[Tl];simp[Lk,Lt,MV,Lj,bext,Om]
theorem pure_runs {M:Ba} {E:Type} {h:Ay E} {dep:Nat} {ops:List AV}:∀ (l:List AV),(∀ o∈l,Ml o.op=true)->∀ {st st':St} {e e':E},EB M h dep ops l st e=some (st',e') ->
  e'=e/\st'.objs=st.objs/\st'.keep=st.keep/\st'.tmps.length=st.tmps.length/\∀ i,i ∉ l.filterMap (·.dst)->st'.tmps[i]?=st.tmps[i]?:=by
 intro l;induction l with
 | nil=>intro _ st st' e e' h;cases h;exact⟨rfl,rfl,rfl,rfl,fun _ _=>rfl⟩
 | cons o rest ih =>
  intro hp st st' e e' h;simp only[EB] at h;split at h
  case h_2=>cases h
  rename_i s1 e1 hs
  have hone:e1=e/\∃ v,s1=Kb o.dst v [] st:=by
   unfold stepG at hs;split at hs
   ·unfold Jt at hs;split at hs
    ·rename_i out e2 ho;cases hs;unfold Dj at ho;obtain⟨_,ho⟩:=Dq ho;have hpo:=hp o (by simp);split at ho;·rename_i f args hop;rw[hop] at hpo;simp[Ml] at hpo
     ·split at ho
      ·rename_i out' hx;cases ho;have:=exec_pure hpo hx;refine⟨rfl,out.v,?_⟩;rw[this,U0]
      ·cases ho
    ·cases hs
   ·cases hs;exact⟨rfl,_,U0 _ _ _⟩
   ·cases hs
  obtain⟨rfl,v,rfl⟩:=hone;obtain⟨a,b,c,d,f⟩:=ih (fun o' ho'=>hp o' (by simp[ho'])) h;refine⟨a,?_,?_,?_,?_⟩;·rw[b];cases o.dst<;>rfl
  ·rw[c];cases o.dst<;>rfl
  ·rw[d];cases o.dst<;>simp[Kb]
  ·intro i hi
   have hi':i ∉ rest.filterMap (·.dst):=fun hm=>hi (by
    simp only[eA] at hm |-;obtain⟨o',ho',hd⟩:=hm;exact⟨o',by simp[ho'],hd⟩)
   rw[f i hi'];cases hd:o.dst with
   | none=>rfl
   | some t =>
    have hne:t≠i:=fun e=>hi (by
     simp only[eA];exact⟨o,by simp,by rw[hd,e]⟩)
    simp only[Kb];rw[cg hne]
theorem ZD {st st':St} (h1:st'.objs=st.objs) (h2:st'.keep=st.keep) (hl:st'.tmps.length=st.tmps.length) {l:List Nat} (h3:∀ i,i∈l->st'.tmps[i]?=st.tmps[i]?):Hb (some l) st'=Hb (some l) st:=by
 have:Kt l st'=Kt l st:=by
  unfold Kt;obtain⟨t',o',k'⟩:=st';obtain⟨t,o,k⟩:=st;simp only at h1 h2 hl h3;subst h1;subst h2;have hl:t'.length=t.length:=hl;congr 1;show (t'.zipIdx.map fun (x:PV×Nat)=>if l.contains x.2 then x.1 else .undef)=t.zipIdx.map fun (x:PV×Nat)=>if l.contains x.2 then x.1 else .undef
  apply ct;intro i;rw[bK,bK,dg,dg];by_cases hi:i∈l
  ·rw[h3 i hi]
  ·by_cases hlt:i < t.length
   ·rw[bN hlt,bN (by omega)];simp[hi]
   ·rw[cf (by omega),cf (by omega)]
 unfold Hb;simp only[this]
theorem kdrop_ok {k0 ks:Az} (h:ks.Ok):(JR k0 ks).Ok/\(JR k0 ks).nt=ks.nt:=by
 unfold JR;obtain⟨h1,h2⟩:=Tc h (Gg k0.tmps);obtain⟨h3,h4,h5⟩:=LG h2 (Iq {ks with tmps:=FD (Gg k0.tmps) ks.tmps});exact⟨h4,h5⟩
theorem ksetPs_ok {nt:Nat}:∀ (ps:List Nat) (args:List PV) (i:Nat) {tm:Sp},BQ nt tm->(∀ p∈ps,p < nt)->Ao args=true->BQ nt (Iz ps args i tm):=by
 intro ps;induction ps with
 | nil=>intro args i tm h _ _;exact h
 | cons p ps ih =>
  intro args i tm h hp ha;simp only[Iz];refine ih args (i+1) (h.put (hp p (by simp)) ?_ rfl) (fun q hq=>hp q (by simp[hq])) ha;show okV (Aa args i)=true;unfold Aa;rw[bI];cases hg:args[i]? with
  | none=>rfl
  | some v=>exact HU ha hg
theorem ksetPs_st {nt:Nat}:∀ (ps:List Nat) (args:List PV) (i:Nat) {tm:Sp},i+ps.length=args.length->BB nt (Iz ps args i tm)=G2 ps (args.drop i) (BB nt tm):=by
 intro ps;induction ps with
 | nil=>intro args i tm _;simp[Iz,G2]
 | cons p ps ih =>
  intro args i tm hl;simp only[cA] at hl;have hd:args.drop i=args[i]'(by omega) :: args.drop (i+1):=cZ (by omega);rw[hd];simp only[Iz,G2];rw[ih args (i+1) (by omega),PA]
  have:Aa args i=args[i]'(by omega):=by
   unfold Aa;rw[bI,bN (by omega)];rfl
  rw[<-this];rfl
theorem am {R:Type} {r:R} {K:Nat->Option R}:∀ {l:List Nat} {p:Option Ex},QL l p K=some r->∃ id,p=some (.exit id)/\K id=some r:=by
 intro l;induction l with
 | nil=>intro p h;cases h
 | cons id l ih =>
  intro p h;simp only[QL] at h;rcases Kn h with ⟨h1,h2⟩ | ⟨_,h2⟩
  ·refine⟨id,?_,h2⟩;unfold XN at h1;split at h1;·rename_i id';rw[dv h1]
   ·cases h1
  ·exact ih h2
def sp_dense (sp:Sp) (k3:Az):List PV:=BB k3.nt sp
theorem Th (hc:DJ cfg tab):∀ (c:Bw) {E R:Type} {h:Ay E} {hn:Nat->Ay E} (_:HOk h hn) (dep:Nat) {ks:Az} {e:E} {K:Ex->Az->E->Option R} {r:R},ks.Ok->CT cfg c h dep ks e K=some r ->
  ∃ x k' e',K x k' e'=some r/\k'.Ok/\Bg fun n=>AP (C9 cfg.b.sp tab n) n c (hn n) dep ks.st e=some (x,k'.st,e'):=by
 intro c;induction c with
 | skip=>intro E R h hn hh dep ks e K r hk hr;exact⟨_,_,_,hr,hk,.of fun n=>rfl⟩
 | region ops dr lv =>
  intro E R h hn hh dep ks e K r hk hr;obtain⟨c1,c2,_⟩:=LG hk (CC ops);cases dr with
  | none =>
   simp only[CT] at hr;rw[DB] at hr;split at hr
   ·rename_i t hslot;obtain⟨z,hz,hr⟩:=CN hr;rw[DB] at hr;obtain⟨k1,e1,hz2,hk1,h1⟩:=Ta (dep:=dep) hc hh ops c2 hz;unfold Xm at hslot;split at hslot
    case isFalse=>cases hslot
    rename_i hcond;simp only[bB] at hcond;cases lv with
    | none=>cases hslot
    | some l =>
    simp only at hslot;split at hslot
    case h_2=>cases hslot
    rename_i t' hfil;cases hslot;have hpure:∀ o∈ops,Ml o.op=true:=bP.1 hcond.2;have hzok:okV z=true:=KV.cl_ok (hk1.tm.get_ok t) hz2
    have htlt:t < k1.nt:=by
     apply cM;intro hlt;rw[hk1.tm.get_ge (by omega)] at hz2;cases hz2
    obtain⟨m,hm⟩:=h1;have hm0:=hm m (bF _);obtain⟨rfl,p2,p3,p4,p5⟩:=pure_runs ops hpure hm0
    have hnt:k1.nt=(DR (CC ops) ks).nt:=by
     have:k1.st.tmps.length=(DR (CC ops) ks).st.tmps.length:=p4;have a1:k1.st.tmps.length=k1.nt:=D3 _ _;have a2:(DR (CC ops) ks).st.tmps.length=(DR (CC ops) ks).nt:=D3 _ _;omega
    have hput:({DR (CC ops) ks with tmps:=CR t (.cv z) (DR (CC ops) ks).tmps}:Az).Ok:=⟨c2.tm.put (by omega) hzok rfl,c2.ob,c2.kp⟩;obtain⟨t1,t2⟩:=PK hput (some l);refine⟨_,_,_,hr,t2,⟨m,fun n hn'=>?_⟩⟩;have hb:=hm n hn';rw[c1] at hb;simp only[AP,hb,t1]
    have:Hb (some l) k1.st=Hb (some l) ({DR (CC ops) ks with tmps:=CR t (.cv z) (DR (CC ops) ks).tmps}:Az).st:=by
     refine ZD (st':=k1.st) (st:=({DR (CC ops) ks with tmps:=CR t (.cv z) (DR (CC ops) ks).tmps}:Az).st) p2 p3 ?_ fun i hi=>?_
     ·rw[p4];show (BB _ _).length=(BB _ _).length;rw[D3,D3]
     ·show k1.st.tmps[i]?=(BB _ (CR t (.cv z) _))[i]?;rw[PA];by_cases hit:i=t
      ·subst hit;rw[dx (by rw[D3];show i < (DR (CC ops) ks).nt;omega)];show (BB k1.nt k1.tmps)[i]?=_;rw[dense_get?,if_pos htlt,KV.cl_pv hz2];rfl
      ·rw[cg (cn hit)];refine p5 i fun hmem=>hit ?_;have:i∈l.filter fun t=>(ops.filterMap (·.dst)).contains t:=dF.2 ⟨hi,by simpa using hmem⟩;rw[hfil] at this;simpa using this
    rw[this]
   ·obtain⟨k1,e1,hr,hk1,h1⟩:=Ta (dep:=dep) hc hh ops c2 hr;rw[DB] at hr;obtain⟨t1,t2⟩:=PK hk1 lv;rw[c1] at h1;exact⟨_,_,_,hr,t2,h1.mono fun n hn'=>by simp only[AP,hn',t1]⟩
  | some bef =>
   simp only[CT] at hr;rw[DB] at hr;obtain⟨k1,e1,hr,hk1,h1⟩:=krunsD_ok (dep:=dep) hc hh bef [] c2 hr;rw[DB] at hr;obtain⟨t1,t2⟩:=PK hk1 lv;rw[c1] at h1;exact⟨_,_,_,hr,t2,h1.mono fun n hn'=>by simp only[AP,hn',t1]⟩
 | seq a b iha ihb =>
  intro E R h hn hh dep ks e K r hk hr;simp only[CT] at hr;obtain⟨x,k1,e1,hr,hk1,h1⟩:=iha hh dep hk hr;cases x with
  | normal =>
   obtain⟨x2,k2,e2,hr,hk2,h2⟩:=ihb hh dep hk1 hr;exact⟨_,_,_,hr,hk2,h1.mono2 h2 fun n a b=>by simp only[AP,a,b]⟩
  | exit id=>exact⟨_,_,_,hr,hk1,h1.mono fun n a=>by simp only[AP,a]⟩
  | ret=>exact⟨_,_,_,hr,hk1,h1.mono fun n a=>by simp only[AP,a]⟩
 | cond c a b iha ihb =>
  intro E R h hn hh dep ks e K r hk hr;simp only[CT] at hr;have hev:=GI hk c;split at hr
  ·rename_i hv;obtain⟨x,k1,e1,hr,hk1,h1⟩:=iha hh dep hk hr;exact⟨_,_,_,hr,hk1,h1.mono fun n a=>by simp only[AP,hev,hv,KV.pv,a]⟩
  ·rename_i hv;obtain⟨x,k1,e1,hr,hk1,h1⟩:=ihb hh dep hk hr;exact⟨_,_,_,hr,hk1,h1.mono fun n a=>by simp only[AP,hev,hv,KV.pv,a]⟩
  ·rename_i v hv;rcases Pp hr with ⟨rfl,hr⟩ | ⟨rfl,hr⟩
   ·obtain⟨x,k1,e1,hr,hk1,h1⟩:=iha hh dep hk hr;exact⟨_,_,_,hr,hk1,h1.mono fun n a=>by simp only[AP,hev,hv,KV.pv,a]⟩
   ·obtain⟨x,k1,e1,hr,hk1,h1⟩:=ihb hh dep hk hr;exact⟨_,_,_,hr,hk1,h1.mono fun n a=>by simp only[AP,hev,hv,KV.pv,a]⟩
  ·cases hr
 | block id b ih =>
  intro E R h hn hh dep ks e K r hk hr;simp only[CT] at hr;obtain⟨x,k1,e1,hr,hk1,h1⟩:=ih hh dep hk hr;cases x with
  | normal=>exact⟨_,_,_,hr,hk1,h1.mono fun n a=>by simp only[AP,a]⟩
  | ret=>exact⟨_,_,_,hr,hk1,h1.mono fun n a=>by simp only[AP,a]⟩
  | exit id' =>
   simp only at hr;split at hr;·rename_i hid;exact⟨_,_,_,hr,hk1,h1.mono fun n a=>by simp only[AP,a,hid,if_true]⟩
   ·rename_i hid;exact⟨_,_,_,hr,hk1,h1.mono fun n a=>by simp only[AP,a,hid,if_false]⟩
 | loop asg grow b ih =>
  intro E R h hn hh dep ks e K r hk hr;simp only[CT] at hr;obtain⟨k0,hr,hk0,hnt0,hst0⟩:=Tb hk hr;rw[DB] at hr;obtain⟨hU,hr⟩:=Br hr;split at hr;·cases hr
  rename_i hself;have hself:MR k0 k0=true:=UT (by simpa using hself);obtain⟨m,hm⟩:=Pb hr
  have key:∀ (m:Nat) (vs:List PV) (e:E),(Cp k0 vs).Ok->GP (fun s:List PV×E=>Da (Cp k0 s.1) fun ks=>CT cfg b h dep ks s.2 (Qi asg grow k0 K)) m (vs,e)=some r ->
    ∃ x k' e',K x k' e'=some r/\k'.Ok/\Bg fun n=>∀ j,m<=j->F6 (FZ (C9 cfg.b.sp tab n) n asg grow b (hn n) dep (undefs k0.st)) j ((Cp k0 vs).st,e)=some (x,k'.st,e'):=by
   intro m;induction m with
   | zero=>intro vs e _ h0;cases h0
   | succ m ihm =>
    intro vs e hkv hm;unfold GP at hm;simp only at hm;rw[DB] at hm;cases hs:CT cfg b h dep (Cp k0 vs) e (Qi asg grow k0 K) with
    | none =>
     rw[hs] at hm;cases hm
    | some q =>
     rw[hs] at hm;obtain⟨x,k1,e1,hq,hk1,h1⟩:=ih hh dep hkv hs
     have hother:∀ y,y≠Ex.normal->x=y->(Ac (K y k1 e1) fun r=>some (Sum.inr r))=some q->∃ x k' e',K x k' e'=some r/\k'.Ok/\Bg fun n=>∀ j,m+1<=j->F6 (FZ (C9 cfg.b.sp tab n) n asg grow b (hn n) dep (undefs k0.st)) j ((Cp k0 vs).st,e)=some (x,k'.st,e'):=by
      intro y hy hxy hq;obtain⟨r',hr',hq⟩:=CN hq;cases hq;cases hm;refine⟨y,k1,e1,hr',hk1,h1.mono fun n hn' j hj=>?_⟩;obtain⟨j,rfl⟩:∃ i,j=i+1:=⟨j - 1,by omega⟩;rw[O7];subst hxy;cases x with
      | normal=>exact absurd rfl hy
      | exit id=>simp only[FZ,hn',Jx]
      | ret=>simp only[FZ,hn',Jx]
     cases x with
     | exit id=>exact hother (.exit id) (by simp) rfl hq
     | ret=>exact hother .ret (by simp) rfl hq
     | normal =>
      unfold Qi at hq;simp only at hq;obtain⟨d1,d2⟩:=kdrop_ok (k0:=k0) hk1;obtain⟨k2,hq,hk2,hnt2,hst2⟩:=Tb d1 hq;rw[DB] at hq;split at hq
      ·rename_i hfit0;obtain⟨hoffs,hq⟩:=SS hq;have hfit:=SH hfit0 hoffs;cases hq;obtain⟨f1,f2,f3,f4⟩:=Px hfit hk0 hk2;obtain⟨g1,_,_⟩:=kdrop_st hk0 hU hk1 (by omega);obtain⟨x3,k3,e3,hr3,hk3,h3⟩:=ihm _ _ f2 hm;refine⟨x3,k3,e3,hr3,hk3,h1.mono2 h3 fun n hn1 hn3 j hj=>?_⟩;obtain⟨j,rfl⟩:∃ i,j=i+1:=⟨j - 1,by omega⟩;rw[O7];have:=hn3 j (by omega);rw[f1,hst2,g1] at this;simp only[FZ,hn1,Jx];exact this
      ·cases hq
  obtain⟨s1,s2,_,_⟩:=Px (p:=k0) (x:=k0) hself hk0 hk0;obtain⟨x,k',e',hr',hk',hev⟩:=key m _ e s2 hm;refine⟨x,k',e',hr',hk',hev.diag.mono fun n hn'=>?_⟩;rw[s1,hst0] at hn';rw[Vu,hn']
 | rangeFunc f ps asg b iha ihb =>
  intro E R h hn hh dep ks e K r hk hr;simp only[CT] at hr;split at hr
  case h_2=>cases hr
  rename_i fv hfv;split at hr
  case isFalse=>cases hr
  rename_i hps;simp only[bB] at hps;obtain⟨⟨hps,hself0⟩,hxf⟩:=hps;have hself:=UT hself0
  have hpslt:∀ p∈ps,p < ks.nt:=fun p hp=>by
   have:=bP.1 hps p hp;simpa[cG] using this
  obtain⟨⟨vs,p,e2⟩,hrange,hr2⟩:=CN hr;clear hr;rw[DB] at hr2;simp only at hr2;unfold CP at hrange;split at hrange
  case h_2=>cases hrange
  rename_i g cap;split at hrange
  case h_2=>cases hrange
  rename_i rv obs rr hL;cases hrange;rw[hc.L] at hL;obtain⟨m,hm⟩:=NG hL;have hm:=hm m (bF _);obtain⟨s1,s2,_,_⟩:=Px (p:=ks) (x:=ks) hself hk hk
  obtain⟨⟨st2,p2,e2'⟩,hre,hev⟩:=Sm (sp:=cfg.b.sp) (tab:=tab) m (Hj E) (Gs E)
   (fun a b=>a.2.1=b.2.1/\a.2.2=b.2.2/\(Cp ks a.1).Ok/\(Cp ks a.1).st=b.1) _ (fun n=>KM (C9 cfg.b.sp tab n) n asg b (hn n) dep ps) (by
    rintro l args ⟨vs,p,e⟩ ⟨s,p',e'⟩ ⟨h1,h2,h3,h4⟩ bb ⟨vs',q,e1⟩ hq;simp only at h1 h2 h3 h4;subst h1;subst h2;subst h4;unfold DC at hq;unfold KM;by_cases hl:l=dep
    ·simp only[hl,if_true] at hq |-;cases p with
     | some x=>cases hq
     | none =>
      simp only at hq |-;obtain⟨hargs,hq⟩:=Br hq;unfold DQ at hargs;simp only[bB,beq_iff_eq] at hargs;rw[DB,DB] at hq;have hnt:(Cp ks vs).nt=ks.nt:=rfl
      have hk1:({Cp ks vs with tmps:=Iz ps args 0 (Cp ks vs).tmps,keep:=(Cp ks vs).tmps :: (Cp ks vs).keep}:Az).Ok :=
       ⟨ksetPs_ok ps args 0 h3.tm hpslt hargs.2,h3.ob,fun sp hsp=>(bH.1 hsp).elim (fun e=>e ▸ h3.tm) (h3.kp sp)⟩
      have hk1st:({Cp ks vs with tmps:=Iz ps args 0 (Cp ks vs).tmps,keep:=(Cp ks vs).tmps :: (Cp ks vs).keep}:Az).st={(Cp ks vs).st with tmps:=G2 ps args (Cp ks vs).st.tmps,keep:=(Cp ks vs).st.tmps++(Cp ks vs).st.keep}:=by
       unfold Az.st;simp only
       rw[ksetPs_st ps args 0 (by omega)];simp
      obtain⟨x1,k2,e3,hq,hk2,ha⟩:=iha hh (dep+1) hk1 hq;cases x1 with
      | exit id=>cases hq
      | ret=>cases hq
      | normal =>
       simp only at hq;obtain⟨x2,k3,e4,hq,hk3,hb⟩:=ihb hh (dep+1) hk2 hq;split at hq
       case h_1=>cases hq
       rename_i sp kp hkeep;rw[DB] at hq;split at hq
       case isFalse=>cases hq
       rename_i hfit0;obtain⟨hoffs,hq⟩:=SS hq;have hfit:=SH hfit0 hoffs;cases hq;have hk4:({k3 with tmps:=sp,keep:=kp}:Az).Ok:=⟨hk3.kp sp (by rw[hkeep];simp),hk3.ob,fun q hq=>hk3.kp q (by rw[hkeep];simp[hq])⟩;obtain⟨f1,f2,f3,f4⟩:=Px hfit hk hk4;have f5:ks.nt=k3.nt:=f4;refine⟨({tmps:=sp_dense sp k3,objs:=k3.st.objs,keep:=kp.flatMap (BB k3.nt)},exitOf x2,e1),⟨rfl,rfl,f2,?_⟩,ha.mono2 hb fun n hn1 hn2=>?_⟩;·rw[f1];rfl
       ·simp only[hargs.1,if_true];rw[<-hk1st,hn1];simp only
        rw[hn2];simp only
        have hkp:k3.st.keep=BB k3.nt sp++kp.flatMap (BB k3.nt):=by
         show k3.keep.flatMap (BB k3.nt)=_;rw[hkeep];rfl
        have hlen:(Cp ks vs).st.tmps.length=(BB k3.nt sp).length:=by
         show (BB ks.nt _).length=_;rw[D3,D3];exact f5
        rw[hkp,hlen,List.take_left,List.drop_left];cases x2<;>rfl
    ·simp only[hl,if_false] at hq |-;split at hq
     ·rename_i b2 e3 h6;cases hq;exact⟨_,⟨rfl,rfl,h3,rfl⟩,(hh _ _ _ _ h6).mono fun n hn'=>by rw[hn']⟩
     ·cases hq) (dep+1) (AW g) (Bv g [.yld dep] cap) (EO ks ks,none,e) (ks.st,none,e) ⟨rfl,rfl,s2,s1⟩ rv obs _ hm
  simp only at hre;obtain⟨h1,h2,h3,h4⟩:=hre;subst h1;subst h2;subst h4;have hfe:f.ev ks.st.tmps=.fn g cap:=by rw[GI hk,KV.cl_pv hfv]
  have hcap:(PV.fn g cap).names=[]:=by
   exact (Ez (KV.cl_ok (MK hk hxf) hfv)).1
  have hbase:Bg fun n=>AP (C9 cfg.b.sp tab n) n (.rangeFunc f ps asg b) (hn n) dep ks.st e=some (p.getD .normal,(Cp ks vs).st,e2):=hev.mono fun n hn'=>by
   rw[Uz,hfe];unfold KG;rw[hcap];simp only[dI,if_true];simp only[C9,Bc] at hn' |-;rw[hn']
  rcases Kn hr2 with ⟨hp,hr2⟩ | ⟨_,hr2⟩
  ·cases p with
   | some x=>cases hp
   | none=>exact⟨_,_,_,hr2,h3,hbase⟩
  ·rcases Kn hr2 with ⟨hp,hr2⟩ | ⟨_,hr2⟩
   ·unfold GF at hp;split at hp;·exact⟨_,_,_,hr2,h3,hbase⟩
    ·cases hp
   ·obtain⟨id,hpe,hr3⟩:=am hr2;subst hpe;exact⟨_,_,_,hr3,h3,hbase⟩
 | exit id=>intro E R h hn hh dep ks e K r hk hr;exact⟨_,_,_,hr,hk,.of fun n=>rfl⟩
 | scope b ih =>
  intro E R h hn hh dep ks e K r hk hr;simp only[CT] at hr;obtain⟨x,k1,e1,hr,hk1,h1⟩:=ih hh dep hk hr;cases x with
  | normal=>exact⟨_,_,_,hr,hk1,h1.mono fun n a=>by simp only[AP,a]⟩
  | ret=>exact⟨_,_,_,hr,hk1,h1.mono fun n a=>by simp only[AP,a]⟩
  | exit id' =>
   simp only at hr;split at hr;·rename_i hid;exact⟨_,_,_,hr,hk1,h1.mono fun n a=>by simp only[AP,a,hid,if_true]⟩
   ·cases hr
 | ret=>intro E R h hn hh dep ks e K r hk hr;exact⟨_,_,_,hr,hk,.of fun n=>rfl⟩
 | norm g =>
  intro E R h hn hh dep ks e K r hk hr;simp only[CT] at hr;obtain⟨t1,t2,_⟩:=ktrim_st hk;obtain⟨k',hr,hk',_,hst⟩:=Tb t2 hr;rw[DB] at hr;exact⟨_,_,_,hr,hk',.of fun n=>by simp only[AP,hst,t1]⟩
 | bad=>intro E R h hn hh dep ks e K r hk hr;cases hr
 | dreg ops f args lv=>intro E R h hn hh dep ks e K r hk hr;cases hr
end Go.Ab


namespace Go.Ab
variable {cfg:Dx} {tab:FuncId->Option At} {ks:Az}
theorem kresV_ok {R:Type} {r:R} (h:ks.Ok) {x:HL} {K:KV->Option R} (hr:kresV ks x K=some r):∃ v,K v=some r/\v.ok/\BW ks.st x=some v.pv:=by
 have hget:∀ t,ks.st.tmps.getD t .undef=(A2 ks.tmps t).pv:=fun t=>Kk h.tm t;have lk:=GY h;cases x with
 | tmp t=>exact⟨_,hr,h.tm.get_ok t,by simp only[BW,hget]⟩
 | cell t n ag =>
  simp only[kresV] at hr;split at hr
  ·rename_i nm o hv;split at hr
   ·rename_i cs hl;have hcs:A4 cs:=DA h.ob hl;split at hr
    ·rename_i hag;split at hr
     ·rename_i hle;refine⟨_,hr,Nn (Np hcs _) _,?_⟩;simp only[BW,hget,hv,KV.pv,lk,hl,bU,Aj.ob,BE,hag,if_true,AC,GV,hle,decide_true,LP,LQ]
     ·cases hr
    ·rename_i hag;split at hr
     ·rename_i c hc;refine⟨_,hr,CO.1 hcs c (bQ hc),?_⟩;simp only[BW,hget,hv,KV.pv,lk,hl,bU,Aj.ob,BE,hag,pvL_get?,hc];rfl
     ·cases hr
   ·rename_i w hl;obtain⟨z,hz,hr⟩:=CN hr;have hw:okV w=true:=DA h.ob hl;unfold Am at hz;refine⟨_,hr,NR (Dm hw) hz,?_⟩;simp only[BW,hget,hv,KV.pv,lk,hl,bU,Aj.ob,CH,hz]
   ·cases hr
  ·cases hr
theorem Wb {R:Type} {r:R} (h:ks.Ok):∀ (l:List HL) {K:List KV->Option R},Jz ks l K=some r->∃ vs,K vs=some r/\A4 vs/\Ft ks.st l=some (AJ vs):=by
 intro l;induction l with
 | nil=>intro K hr;exact⟨[],hr,trivial,rfl⟩
 | cons x l ih =>
  intro K hr;simp only[Jz] at hr;obtain⟨v,hr,hv,h1⟩:=kresV_ok h hr;obtain⟨vs,hr,hvs,h2⟩:=ih hr;exact⟨v :: vs,hr,⟨hv,hvs⟩,by simp only[Ft,h1,h2,AJ]⟩
theorem We {vs:List KV} (h:A4 vs):(JA vs).ok/\(JA vs).pv=G4 (AJ vs):=by
 match vs,h with
 | [],h=>exact⟨trivial,rfl⟩
 | [v],h=>exact⟨h.1,rfl⟩
 | v :: w :: vs,h=>exact⟨h,rfl⟩
theorem Vo {o:Nat}:H7 o=true↔o=0:=by cases o<;>simp[H7]
def top1:PV->List Nm
 | .arr nm _ 0 _=>[nm]
 | _=>[]
def top2:PV->List Nm
 | .arr nm _ 0 _=>[nm]
 | .agg cs=>cs.flatMap top1
 | _=>[]
def ktop1:KV->List Nm
 | .arr nm _ o _=>if H7 o then [nm] else []
 | .wit nm=>[nm]
 | _=>[]
def OM:KV->List Nm
 | .arr nm _ o _=>if H7 o then [nm] else []
 | .wit nm=>[nm]
 | .agg cs=>cs.flatMap ktop1
 | _=>[]
theorem ktop1_ok {x:KV} (h:x.ok):ktop1 x=top1 x.pv:=by
 cases x with
 | arr nm k o n=>cases o<;>rfl
 | cv v =>
  have hv:okV v=true:=h;cases v<;>first | rfl | simp[okV] at hv
 | _=>rfl
theorem VL {cs:List PV} (h:Ao cs=true):cs.flatMap top1=[]:=by
 rw[List.flatMap_eq_nil_iff];intro x hx;have:=Ey.1 h x hx;cases x<;>first | rfl | simp[okV] at this
theorem YK {cs:List KV} (h:A4 cs):cs.flatMap ktop1=(AJ cs).flatMap top1:=by
 rw[D7,eV];induction cs with
 | nil=>rfl
 | cons x xs ih=>simp only[cH];rw[ktop1_ok h.1,ih h.2]
theorem S9 {x:KV} (h:x.ok):OM x=top2 x.pv:=by
 cases x with
 | arr nm k o n=>cases o<;>rfl
 | agg cs=>exact YK h
 | cv v =>
  have hv:okV v=true:=h;cases v with
  | agg cs=>simp only[okV] at hv;exact (VL hv).symm
  | _=>first | rfl | simp[okV] at hv
 | _=>rfl
theorem tops_eq (v:PV):tops v=match v with | .tup xs=>xs.flatMap top2 | v=>top2 v:=by
 have e1:(fun (x:PV)=>match x with | .arr nm _ 0 _=>[nm] | _=>[])=top1:=by
  funext x;cases x<;>first | rfl | (rename_i nm k o n;cases o<;>rfl)
 cases v with
 | arr nm k o n=>cases o<;>rfl
 | agg cs=>simp only[tops,top2];rfl
 | tup xs =>
  simp only[tops];congr 1
 | _=>rfl
theorem ktops_eq (v:KV):QJ v=match v with | .tup xs=>xs.flatMap OM | v=>OM v:=by
 cases v<;>first | rfl | (simp only[QJ];congr 1)
theorem ktops_ok {v:KV} (h:v.ok):QJ v=tops v.pv:=by
 rw[ktops_eq,tops_eq];cases v with
 | tup xs =>
  have hx:A4 xs:=h;simp only[KV.pv];rw[D7,eV];clear h;induction xs with
  | nil=>rfl
  | cons x xs ih=>simp only[cH];rw[S9 hx.1,ih hx.2]
 | cv u =>
  have hu:okV u=true:=h;simp only[KV.pv,OM];cases u with
  | tup xs =>
   simp only[okV] at hu;symm;rw[List.flatMap_eq_nil_iff];intro x hx;have hx':=Ey.1 hu x hx;have:=S9 (x:=.cv x) hx';simpa[OM,KV.pv] using this.symm
  | agg cs=>simp only[okV] at hu;exact (VL hu).symm
  | _=>first | rfl | simp[okV] at hu
 | _=>exact S9 h
theorem Ve:∀ {l:List Nm},DE l=true↔l.Nodup
 | []=>by simp[DE]
 | x :: xs=>by simp[DE,Ve (l:=xs)]
theorem mapM_look {σ:Nm->Option Ob}:∀ {S:List Nm},(∀ nm∈S,∃ ob,σ nm=some ob/\JT ob=true)->∃ obs,S.mapM σ=some obs/\obs.all JT=true/\obs.length=S.length/\∀ (i:Nat) nm,S[i]?=some nm->obs[i]?=σ nm:=by
 intro S;induction S with
 | nil=>intro _;exact⟨[],rfl,rfl,rfl,by simp⟩
 | cons nm S ih =>
  intro h;obtain⟨ob,h1,h2⟩:=h nm (by simp);obtain⟨obs,h3,h4,h5,h6⟩:=ih fun m hm=>h m (by simp[hm]);refine⟨ob :: obs,by simp[cQ,h1,h3],by simp[h2,h4],by simp[h5],?_⟩;intro i m hi;cases i with
  | zero=>simp at hi;subst hi;simp[h1]
  | succ i=>simp at hi |-;exact h6 i m hi
theorem Wk {pre mid post:List Nm} {nm:Nm} (hnd:(pre++nm :: mid++post).Nodup):(pre++nm :: mid++post).idxOf nm=pre.length:=by
 have hn:nm ∉ pre:=fun hm=>by
  rw[cC,List.nodup_append] at hnd;exact hnd.2.2 nm hm nm (by simp) rfl
 rw[cC,List.idxOf_append,if_neg hn];simp
section hand
variable {σ:Nm->Option Aj} (hσ:∀ nm o,σ nm=some o->o.ok) {S:List Nm} (hnd:S.Nodup) {obs:List Ob} (hobs:∀ (i:Nat) nm,S[i]?=some nm->obs[i]?=(σ nm).map fun o=>o.ob.bare)
include hσ hnd hobs
def Hc (σ:Nm->Option Aj) (S:List Nm):Nm->Option (Option Ob):=fun nm=>if S.contains nm=true then none else BJ (fun nm=>(σ nm).map Aj.ob) nm
omit hnd hobs in
theorem bo {x:KV} (hx:x.ok) (hn:(x.names.all fun nm=>!S.contains nm)=true):x.pv.sub (Hc σ S)=x.close (C5 σ AU):=by
 rw[KV.close_pv _ hx];refine PV.sub_congr _ fun nm hm=>?_;rw[KV.pv_names hx] at hm;have:=bP.1 hn nm hm;unfold Hc Eo BJ;simp only[dn] at this;rw[this,Sc hσ,eg];rfl
omit hσ hnd hobs in
theorem sub_cl {x:KV} {u:PV} (hx:x.ok) (h:x.cl=some u) (f:Nm->Option (Option Ob)) (g:Nm->Nm):(x.pv.sub f).ren g=u:=by
 have hu:=KV.cl_ok hx h;rw[KV.cl_pv h,Jf (Ez hu).1,Kq (Ez hu).1]
mutual
theorem W0 {R:Type} {r:R}:∀ (sh:Bq) (x:KV),x.ok->∀ {K:PV->Option R},FI σ S sh x K=some r->∀ (pre post:List Nm),S=pre++CA sh x++post ->
  ∃ u,K u=some r/\Ct obs sh pre.length ((x.pv.sub (Hc σ S)).ren (JN S))=some (u,pre.length+(CA sh x).length)
 | .cl,x,hx,K,hr,pre,post,_=>by
  have hclose:(if x.names.all fun nm=>!S.contains nm then Ae (Bl (x.close (C5 σ AU))) (K (x.close (C5 σ AU))) else none)=some r ->
    ∃ u,K u=some r/\Ct obs .cl pre.length ((x.pv.sub (Hc σ S)).ren (JN S))=some (u,pre.length+(CA .cl x).length):=by
   intro hr;split at hr
   ·rename_i hn;obtain⟨h1,hr⟩:=Br hr;unfold Bl at h1;refine⟨_,hr,?_⟩;rw[bo hσ hx hn,Kq (Ez h1).1];simp[Ct,h1,Ae,CA]
   ·cases hr
  simp only[FI] at hr;cases hu:x.cl with
  | some u =>
   rw[hu] at hr;refine⟨u,hr,?_⟩;rw[sub_cl hx hu];simp[Ct,KV.cl_ok hx hu,Ae,CA]
  | none =>
   rw[hu] at hr;cases x with
   | tup xs =>
    simp only at hr;cases hus:Dz xs with
    | some us =>
     rw[hus] at hr;have hok:=IE (xs:=xs) hx hus;have htup:okV (.tup us)=true:=by simpa[okV] using hok
     refine⟨.tup us,hr,?_⟩;have:(KV.tup xs).pv=.tup us:=by simp[KV.pv,JI hus]
     rw[this,Jf (Ez htup).1,Kq (Ez htup).1];simp[Ct,htup,Ae,CA]
    | none=>rw[hus] at hr;exact hclose hr
   | _=>exact hclose hr
 | .own k,x,hx,K,hr,pre,post,hS=>by
  simp only[FI] at hr;split at hr
  ·rename_i nm k' o n;split at hr
   ·rename_i k'' kt xs hl;split at hr
    ·rename_i hc;obtain⟨rfl,rfl,ho⟩:=hc;rw[Vo] at ho;subst ho;obtain⟨h1,hr⟩:=Br hr;rw[N6] at h1;unfold Ai at h1;simp only[CA] at hS;refine⟨_,hr,?_⟩;have hmem:S.contains nm=true:=by rw[cV,hS];simp
     have hi:S[pre.length]?=some nm:=by rw[hS];simp
     have hidx:S.idxOf nm=pre.length:=by
      have e:S=pre++nm :: []++post:=by rw[hS]
      rw[e];exact Wk (e ▸ hnd)
     have hob:obs[pre.length]?=some (.arr k 0 xs):=by rw[hobs _ _ hi,hl];rfl
     have hxok:Ao xs=true:=hσ _ _ hl
     have hsub:(PV.arr nm k 0 n).sub (Hc σ S)=.arr nm k 0 n:=by
      simp only[PV.sub,Hc,hmem,if_true]
     simp only[KV.pv];rw[hsub];simp[PV.ren,JN,hidx,Ct,hob,Ae,h1,hxok,CA]
    ·cases hr
   ·cases hr
  ·cases hr
 | .opt k,x,hx,K,hr,pre,post,hS=>by
  simp only[FI] at hr;split at hr
  ·rename_i nm k' o n;split at hr
   ·rename_i k'' kt xs hl;split at hr
    ·rename_i hc;obtain⟨rfl,rfl,ho⟩:=hc;rw[Vo] at ho;subst ho;obtain⟨h1,hr⟩:=Br hr;rw[N6] at h1;unfold Ai at h1;simp only[CA] at hS;refine⟨_,hr,?_⟩;have hmem:S.contains nm=true:=by rw[cV,hS];simp
     have hi:S[pre.length]?=some nm:=by rw[hS];simp
     have hidx:S.idxOf nm=pre.length:=by
      have e:S=pre++nm :: []++post:=by rw[hS]
      rw[e];exact Wk (e ▸ hnd)
     have hob:obs[pre.length]?=some (.arr k 0 xs):=by rw[hobs _ _ hi,hl];rfl
     have hxok:Ao xs=true:=hσ _ _ hl
     have hsub:(PV.arr nm k 0 n).sub (Hc σ S)=.arr nm k 0 n:=by
      simp only[PV.sub,Hc,hmem,if_true]
     simp only[KV.pv];rw[hsub];simp[PV.ren,JN,hidx,Ct,hob,Ae,h1,hxok,CA]
    ·cases hr
   ·cases hr
  ·refine⟨.nilS,hr,?_⟩;simp[KV.pv,PV.sub,PV.ren,Ct,CA]
  ·unfold DY at hr;split at hr
   ·refine⟨.nilS,hr,?_⟩;simp[KV.pv,PV.sub,PV.ren,Ct,CA]
   ·cases hr
  ·cases hr
 | .tup l,x,hx,K,hr,pre,post,hS=>by
  simp only[FI] at hr;split at hr
  ·rename_i xs;simp only[CA] at hS;obtain⟨us,h1,h2⟩:=SC l xs hx hr pre post hS;refine⟨_,h1,?_⟩;simp only[KV.pv,PV.sub,PV.ren,Ct,h2,CA];rfl
  ·cases hr
 | .agg l,x,hx,K,hr,pre,post,hS=>by
  simp only[FI] at hr;split at hr
  ·rename_i xs;simp only[CA] at hS;obtain⟨us,h1,h2⟩:=SC l xs hx hr pre post hS;refine⟨_,h1,?_⟩;simp only[KV.pv,PV.sub,PV.ren,Ct,h2,CA];rfl
  ·cases hr
theorem SC {R:Type} {r:R}:∀ (l:List Bq) (xs:List KV),A4 xs->∀ {K:List PV->Option R},Ht σ S l xs K=some r->∀ (pre post:List Nm),S=pre++G3 l xs++post ->
  ∃ us,K us=some r/\FF obs l pre.length (Bt (JN S) (AX (Hc σ S) (AJ xs)))=some (us,pre.length+(G3 l xs).length)
 | [],[],_,K,hr,pre,post,_=>⟨[],hr,by simp[AJ,AX,Bt,FF,G3]⟩
 | [],_ :: _,_,K,hr,_,_,_=>by simp[Ht] at hr
 | _ :: _,[],_,K,hr,_,_,_=>by simp[Ht] at hr
 | s :: l,x :: xs,hx,K,hr,pre,post,hS=>by
  simp only[Ht] at hr;simp only[G3] at hS;obtain⟨u,hr,h1⟩:=W0 s x hx.1 hr pre (G3 l xs++post) (by rw[hS];simp[cC]);obtain⟨us,hr,h2⟩:=SC l xs hx.2 hr (pre++CA s x) post (by rw[hS];simp[cC]);refine⟨u :: us,hr,?_⟩;simp only[AJ,AX,Bt,FF,h1];rw[cm] at h2;rw[h2];simp[G3,dY]
end
end hand
theorem own_arr {σ:Nm->Option Aj} {S:List Nm} {R:Type} {r:R}:∀ (sh:Bq) (x:KV) {K:PV->Option R},FI σ S sh x K=some r->(∀ nm∈CA sh x,∃ k kt xs,σ nm=some (.arr k kt xs))/\∃ u,K u=some r:=by
 intro sh
 refine Bq.rec (motive_1:=fun sh=>∀ (x:KV) {K:PV->Option R},FI σ S sh x K=some r->(∀ nm∈CA sh x,∃ k kt xs,σ nm=some (.arr k kt xs))/\∃ u,K u=some r)
  (motive_2:=fun l=>∀ (xs:List KV) {K:List PV->Option R},Ht σ S l xs K=some r->(∀ nm∈G3 l xs,∃ k kt ys,σ nm=some (.arr k kt ys))/\∃ us,K us=some r) ?_ ?_ ?_ ?_ ?_ ?_ ?_ sh
 ·intro x K hr;refine⟨by simp[CA],?_⟩;simp only[FI] at hr;split at hr;·exact⟨_,hr⟩
  ·split at hr
   ·split at hr;·exact⟨_,hr⟩
    ·split at hr;·exact⟨_,(Br hr).2⟩
     ·cases hr
   ·split at hr;·exact⟨_,(Br hr).2⟩
    ·cases hr
 ·intro k x K hr;simp only[FI] at hr;split at hr
  ·rename_i nm k' o n;split at hr
   ·rename_i k'' kt xs hl;split at hr;·exact⟨by simp[CA,hl],_,(Br hr).2⟩
    ·cases hr
   ·cases hr
  ·cases hr
 ·intro k x K hr;simp only[FI] at hr;split at hr
  ·rename_i nm k' o n;split at hr
   ·rename_i k'' kt xs hl;split at hr;·exact⟨by simp[CA,hl],_,(Br hr).2⟩
    ·cases hr
   ·cases hr
  ·exact⟨by simp[CA],_,hr⟩
  ·unfold DY at hr;split at hr;·exact⟨by simp[CA],_,hr⟩
   ·cases hr
  ·cases hr
 ·intro l ih x K hr;simp only[FI] at hr;split at hr
  ·rename_i xs;obtain⟨h1,us,h2⟩:=ih xs hr;exact⟨by simpa[CA] using h1,_,h2⟩
  ·cases hr
 ·intro l ih x K hr;simp only[FI] at hr;split at hr
  ·rename_i xs;obtain⟨h1,us,h2⟩:=ih xs hr;exact⟨by simpa[CA] using h1,_,h2⟩
  ·cases hr
 ·intro xs K hr;cases xs with
  | nil=>exact⟨by simp[G3],_,hr⟩
  | cons x xs=>simp[Ht] at hr
 ·intro s l ihs ihl xs K hr;cases xs with
  | nil=>simp[Ht] at hr
  | cons x xs =>
   simp only[Ht] at hr;obtain⟨h1,u,hr⟩:=ihs x hr;obtain⟨h2,us,hr⟩:=ihl xs hr;refine⟨?_,_,hr⟩;intro nm hm;simp only[G3,bW] at hm;exact hm.elim (h1 nm) (h2 nm)
theorem Pc (shut:Bool) {v:KV} (h:v.ok):L8 shut v=H2 shut v.pv:=by
 cases shut with
 | true=>rfl
 | false=>exact ktops_ok h
theorem YC {R:Type} {r:R} (h:ks.Ok) {shut:Bool} {sh:Bq} {v:KV} (hv:v.ok) {K:PV->Option R} (hr:Po ks shut sh v K=some r):∃ u rv obs,K u=some r/\Jl shut ks.st v.pv=some (rv,obs)/\DW sh rv obs=some u:=by
 unfold Po at hr;simp only at hr;split at hr
 case isFalse=>cases hr
 rename_i hc;obtain⟨hS,hnd,hdis,hsh⟩:=hc;have hσ:=Dg h;obtain⟨harr,_⟩:=own_arr sh v hr;rw[<-hS] at harr;have hlk:=Eh h
 obtain⟨obs,hm,hall,hlen,hget⟩:=mapM_look (σ:=Ak ks.st.objs) (S:=L8 shut v) fun nm hm=>by
  obtain⟨k,kt,xs,he⟩:=harr nm hm;exact⟨.arr k kt xs,by rw[GY h,he];rfl,rfl⟩
 have hnd':=Ve.1 hnd;obtain⟨u,hu,hconv⟩:=W0 hσ hnd' (obs:=obs.map Ob.bare) (fun i nm hi=>by rw[bK,hget i nm hi,GY h,eg];rfl) sh v hv hr [] [] (by rw[<-hS];simp);refine⟨u,(v.pv.sub (Hc (Bk ks.objs) (L8 shut v))).ren (JN (L8 shut v)),obs.map Ob.bare,hu,?_,?_⟩
 ·have e:(fun nm=>if (H2 shut v.pv).contains nm=true then none else BJ (Ak ks.st.objs) nm)=Hc (Bk ks.objs) (L8 shut v):=by
   funext nm;unfold Hc;rw[Pc shut hv,hlk]
  rw[Hn hσ,<-hlk] at hdis hsh;rw[LU hσ,<-hlk] at hsh;rw[Pc shut hv,<-KV.pv_names hv] at hdis hsh;rw[Pc shut hv] at hnd hm;unfold Jl;simp only[hnd,hdis,cu,if_true,hm,hsh,hall,AC,e,Pc shut hv]
 ·unfold DW;simp only[dP,cd] at hconv;rw[hconv];simp[Ae,hlen,hS]
theorem Tz {nt:Nat} {args:List KV} (ha:A4 args) (hu:∀ x∈args,EF x=false) (hl:args.length<=nt):({nt,tmps:=args.zipIdx.map fun p=>(p.2,p.1),objs:=[],keep:=[]}:Az).Ok /\
  ({nt,tmps:=args.zipIdx.map fun p=>(p.2,p.1),objs:=[],keep:=[]}:Az).st={tmps:=AJ args++List.replicate (nt - (AJ args).length) .undef,objs:=List.replicate nt [],keep:=[]}:=by
 have hmem:∀ p∈args.zipIdx.map (fun p=>(p.2,p.1)),args[p.1]?=some p.2:=by
  intro p hp;obtain⟨⟨x,i⟩,hq,rfl⟩:=bE.1 hp;rw[cW] at hq;exact hq
 have hw:BQ nt (args.zipIdx.map fun p=>(p.2,p.1)):=by
  refine⟨?_,?_,?_,?_⟩
  ·rw[cc];have:((fun p:Nat×KV=>p.1)∘fun p:KV×Nat=>(p.2,p.1))=Prod.snd:=rfl;rw[this,List.zipIdx_map_snd];exact List.pairwise_lt_range'
  ·intro p hp;have:=(bL.1 (hmem p hp)).1;omega
  ·intro p hp;exact CO.1 ha _ (bQ (hmem p hp))
  ·intro p hp;exact hu _ (bQ (hmem p hp))
 refine⟨⟨hw,.nil nt,by simp⟩,?_⟩;unfold Az.st;simp only[eQ];congr 1
 ·refine Ko (by simp[GV];omega) fun i hi=>?_;by_cases hia:i < args.length
  ·rw[dm (by rw[GV];exact hia),pvL_get?,bN hia]
   have hp:(i,args[i])∈args.zipIdx.map (fun p=>(p.2,p.1)):=by
    refine bE.2 ⟨(args[i],i),?_,rfl⟩;rw[cW];simp[hia]
   rw[show A2 (args.zipIdx.map fun p=>(p.2,p.1)) i=args[i] from hw.get_mem hp];rfl
  ·rw[dO (by rw[GV];omega),e9,if_pos (by rw[GV];omega)]
   rw[show A2 (args.zipIdx.map fun p=>(p.2,p.1)) i=.un from Sv fun p hp=>by
    have:=(bL.1 (hmem p hp)).1;omega]
   rfl
 ·refine Km (by simp) fun i hi=>?_;rw[e9,if_pos hi];rfl
theorem LZ (hc:DJ cfg tab) {g:FuncId} {fn:At} (ht:tab g=some fn) {E:Type} {h:Ay E} {hn:Nat->Ay E} (hh:HOk h hn) {dep:Nat} {sh:Bq} {args:List KV} {e e':E} {u:PV}
  (ha:A4 args) (hu:∀ x∈args,EF x=false) (hl:args.length<=fn.nt) (hr:AR cfg fn sh h dep args e=some (u,e')) :
  ∃ r obs,DW sh r obs=some u/\Bg fun n=>Bc cfg.b.sp tab n E (hn n) dep g (AJ args) e=some (r,obs,e'):=by
 unfold AR at hr;rw[DB] at hr;obtain⟨i1,i2⟩:=Tz ha hu hl
 have hh':HOk h fun n=>hn (n+1):=fun l args e r hq=>by
  obtain⟨a,hb⟩:=hh l args e r hq;exact⟨a,fun n hn'=>hb (n+1) (by omega)⟩
 obtain⟨x,k1,e1,hr,hk1,hev⟩:=Th hc fn.code hh' dep i1 hr;rw[i2] at hev
 have fin:(Jz k1 fn.res fun vs=>Po k1 fn.shut sh (JA vs) fun v=>some (v,e1))=some (u,e')->(∀ id,x≠.exit id)->∃ r obs,DW sh r obs=some u/\Bg fun n=>Bc cfg.b.sp tab n E (hn n) dep g (AJ args) e=some (r,obs,e'):=by
  intro hr hx;obtain⟨vs,hr,hvs,h1⟩:=Wb hk1 fn.res hr;obtain⟨o1,o2⟩:=We hvs;obtain⟨u',rv,obs,hr,h2,h3⟩:=YC hk1 o1 hr;cases hr;refine⟨rv,obs,h3,hev.shift.mono ?_⟩;rintro k ⟨j,rfl,hj⟩;show IG (Ec cfg.b.sp tab j) j tab E (hn (j+1)) dep g (AJ args) e=_;simp only[IG,ht];simp only[C9] at hj;rw[hj];cases x with
  | exit id=>exact absurd rfl (hx id)
  | normal=>simp only[h1];rw[<-o2,h2]
  | ret=>simp only[h1];rw[<-o2,h2]
 cases x with
 | exit id=>cases hr
 | normal=>exact fin hr (by simp)
 | ret=>exact fin hr (by simp)
end Go.Ab


namespace Go.Ab
section
variable {cfg:Dx} {tab:FuncId->Option At}
theorem My:∀ (vs:List PV),AJ (vs.map KV.cv)=vs
 | []=>rfl
 | v :: vs=>by simp[AJ,KV.pv,My vs]
theorem Ox {vs:List PV} (h:Ao vs=true):A4 (vs.map KV.cv):=CO.2 fun x hx=>by
 obtain⟨v,hv,rfl⟩:=bE.1 hx;exact Ey.1 h v hv
theorem Ow {vs:List PV}:∀ x∈vs.map KV.cv,EF x=false:=fun x hx=>by
 obtain⟨v,_,rfl⟩:=bE.1 hx;rfl
theorem noH:HOk AD (fun _=>AD):=fun _ _ _ _ h=>by cases h
theorem UY (hc:DJ cfg tab) {g:FuncId} {fn:At} (ht:tab g=some fn) {sh:Bq} {cap args:List PV} {u:PV} (ha:Ao (args++cap)=true) (hl:(args++cap).length<=fn.nt)
  (hsp:cfg.b.sp g (fun _=>none) (args++cap)=none) (hr:AR cfg fn sh AD 0 ((args++cap).map KV.cv) ()=some (u,())) (hio:fn.io=false:=by rfl) (hb:Nat.blt g CQ=true:=by rfl):Al cfg.b sh (.fn g cap) args=some u:=by
 have hid:AW g=g:=by simp[AW,hb]
 have hfa:Bv g args cap=args++cap:=by simp[Bv,hb]
 obtain⟨r,obs,h1,h2⟩:=LZ hc ht (hn:=fun _=>AD) noH (Ox ha) Ow (by simpa using hl) hr;rw[My] at h2;have hL:cfg.b.L Unit AD 0 g (args++cap) ()=some (r,obs,()):=by rw[hc.L];exact Jy h2
 have hfl:cfg.b.isIo g=false:=by rw[hc.isIo];unfold EU;rw[ht];exact hio
 unfold Al;simp only[hid,hfa,spO,hsp,hL,hfl,bA,if_false];exact h1
theorem YP (hc:DJ cfg tab) {g:FuncId} {fn:At} (ht:tab g=some fn) {sh:Bq} {args:List PV} {xs:List KV} {u:PV} (hx:A4 xs) (hun:∀ x∈xs,EF x=false) (hpv:AJ xs=args) (hl:xs.length<=fn.nt)
  (hsp:cfg.b.sp g (fun _=>none) args=none) (hr:AR cfg fn sh AD 0 xs ()=some (u,())) (hio:fn.io=false:=by rfl) (hb:Nat.blt g CQ=true:=by rfl):Al cfg.b sh (.fn g []) args=some u:=by
 have hid:AW g=g:=by simp[AW,hb]
 have hfa:Bv g args []=args:=by simp[Bv,hb]
 obtain⟨r,obs,h1,h2⟩:=LZ hc ht (hn:=fun _=>AD) noH hx hun hl hr;rw[hpv] at h2;have hL:cfg.b.L Unit AD 0 g args ()=some (r,obs,()):=by rw[hc.L];exact Jy h2
 have hfl:cfg.b.isIo g=false:=by rw[hc.isIo];unfold EU;rw[ht];exact hio
 unfold Al;simp only[hid,hfa,spO,hsp,hL,hfl,bA,if_false];exact h1
theorem VE (hc:DJ cfg tab) {g:FuncId} {cap args:List PV} {u:PV} (hsp:cfg.b.sp g (fun _=>none) (args++cap)=some {v:=u}) (hu:okV u=true) (hb:Nat.blt g CQ=true:=by rfl):Al cfg.b .cl (.fn g cap) args=some u:=by
 have hid:AW g=g:=by simp[AW,hb]
 have hfa:Bv g args cap=args++cap:=by simp[Bv,hb]
 unfold Al;simp[hid,hfa,spO,hsp,hu,Ae,DW,Ct]
theorem OV (hc:DJ cfg tab) {g:FuncId} {fn:At} (ht:tab g=some fn) {E:Type} {h:Ay E} {dep:Nat} {cap:List PV} {u:PV} {e e':E} (ha:Ao cap=true) (hl:cap.length+1<=fn.nt)
  (hr:AR cfg fn .cl h (dep+1) (.yld dep :: cap.map KV.cv) e=some (u,e')) (hb:Nat.blt g CQ=true:=by rfl):CP cfg.b h dep (.fn g cap) e=some e':=by
 have hid:AW g=g:=by simp[AW,hb]
 have hfa:Bv g [.yld dep] cap=.yld dep :: cap:=by simp[Bv,hb]
 obtain⟨r,obs,h1,h2⟩:=LZ hc ht (hn:=fun _=>h) (fun l args e r hq=>.of fun _=>hq) (dep:=dep+1) (args:=.yld dep :: cap.map KV.cv) ⟨trivial,Ox ha⟩ (fun x hx=>by
  rcases bH.1 hx with rfl | hx;·rfl
  ·exact Ow x hx) (by simpa using hl) hr
 have e1:AJ (.yld dep :: cap.map KV.cv)=.yld dep :: cap:=by simp[AJ,KV.pv,My]
 rw[e1] at h2;have hL:cfg.b.L E h (dep+1) g (.yld dep :: cap) e=some (r,obs,e'):=by rw[hc.L];exact Jy h2
 unfold CP;simp only[hid,hfa,hL]
theorem X6 {r u:PV} {obs:List Ob} (h:DW .cl r obs=some u):r=u/\obs=[]/\okV u=true:=by
 unfold DW at h;simp only[Ct] at h;split at h
 ·rename_i r' j hr;obtain⟨h1,h2⟩:=Br hr;cases h2;obtain⟨h3,h4⟩:=Br h;cases h4;simp only[beq_iff_eq] at h3;exact⟨rfl,dL.1 h3.symm,h1⟩
 ·cases h
theorem RU (hc:DJ cfg tab) {g:FuncId} {fn:At} (ht:tab g=some fn) {fr:Bool} {args:List PV} {u:PV} (ha:Ao args=true) (hl:args.length<=fn.nt)
  (hr:AR cfg fn .cl AD 0 (args.map KV.cv) ()=some (u,())) (hfr:(u.free&&!F4 tab g)=fr):Bs cfg.b .cl fr g args=some u:=by
 obtain⟨r,obs,h1,h2⟩:=LZ hc ht (hn:=fun _=>AD) noH (Ox ha) Ow (by simpa using hl) hr;rw[My] at h2;obtain⟨e1,e2,_⟩:=X6 h1;subst e1;subst e2;have hL:cfg.b.L Unit AD 0 g args ()=some (r,[],()):=by rw[hc.L];exact Jy h2
 unfold Bs;rw[(CL ha).2];simp only[bA,if_false,hL,List.all_nil,d8,hc.leans,hfr,beq_self_eq_true,Ae];exact h1
theorem ak (hc:DJ cfg tab) {g:FuncId} {fn:At} (ht:tab g=some fn) {args:List PV} {b:Bool} (ha:Ao args=true) (hl:args.length<=fn.nt)
  (hr:AR cfg fn .cl AD 0 (args.map KV.cv) ()=some (.bool b,())):∃ n,Bc cfg.b.sp tab n Unit AD 0 g args ()=some (.bool b,[],()):=by
 obtain⟨r,obs,h1,m,hm⟩:=LZ hc ht (hn:=fun _=>AD) noH (Ox ha) Ow (by simpa using hl) hr;rw[My] at hm;obtain⟨e1,e2,_⟩:=X6 h1;subst e1;subst e2;exact⟨m,hm m (bF _)⟩
end
theorem NF {σ ρ:Type} {step:σ->Option (Sum σ ρ)} {s0:σ} {r:ρ} (inv:Nat->σ) (N:Nat) (h0:s0=inv 0) (hs:∀ i,i < N->step (inv i)=some (.inl (inv (i+1)))) (he:step (inv N)=some (.inr r)):BL step s0=some r:=by
 have key:∀ m i,i+m=N->BL step (inv i)=some r:=by
  intro m;induction m with
  | zero=>intro i hi;obtain rfl:i=N:=(by omega);exact Cj he
  | succ m ih=>intro i hi;rw[D4 (hs i (by omega))];exact ih (i+1) (by omega)
 rw[h0];exact key N 0 (by omega)
def Dn {E:Type} (h:Ay E) (d:Nat):List (List PV)->E->Option E
 | [],e=>some e
 | a :: l,e=>match h d a e with
  | some (true,e)=>Dn h d l e
  | some (false,e)=>some e
  | none=>none
@[simp] theorem Ap {α β:Type} (a:α) (f:α->Option β):Ac (some a) f=f a:=rfl
@[simp] theorem bindO_none' {α β:Type} (f:α->Option β):Ac none f=none:=rfl
@[simp] theorem AH {β:Type} (a:Option β):Ae true a=a:=rfl
@[simp] theorem chkO_false {β:Type} (a:Option β):Ae false a=none:=rfl
@[simp] theorem AA {β:Type} (b:Bool) (x y:Option β):Ar (.bool b) x y=if b=true then x else y:=by cases b<;>rfl
@[simp] theorem iteB_bool {β:Type} (b:Bool) (x y:Option β):B9 b x y=if b=true then x else y:=by cases b<;>rfl
theorem Jd {β:Type} (x y:Option β):Ar (.bool true) x y=x:=rfl
theorem Kj {β:Type} (x y:Option β):Ar (.bool false) x y=y:=rfl
section pure
variable {c:TC} {cst:Bool} {k:IntKind}
@[simp] theorem ND (a b:Int):Ad (.bin .add c cst (.c (.int k a)) (.c (.int k b)))=some (.int k (k.wrap (a+b))):=by simp[Ad,exec,RX.ev,DX,AC,Fq]
@[simp] theorem pure_sub (a b:Int):Ad (.bin .sub c cst (.c (.int k a)) (.c (.int k b)))=some (.int k (k.wrap (a - b))):=by simp[Ad,exec,RX.ev,DX,AC,Fq]
@[simp] theorem PG (a b:Int):Ad (.bin .mul c cst (.c (.int k a)) (.c (.int k b)))=some (.int k (k.wrap (a*b))):=by simp[Ad,exec,RX.ev,DX,AC,Fq]
theorem pure_quo (a b:Int) (hb:b≠0):Ad (.bin .quo c cst (.c (.int k a)) (.c (.int k b)))=some (.int k (k.wrap (a.tdiv b))):=by simp[Ad,exec,RX.ev,DX,AC,Fq,hb]
theorem NC (a b:Int) (hb:b≠0):Ad (.bin .rem c cst (.c (.int k a)) (.c (.int k b)))=some (.int k (a.tmod b)):=by simp[Ad,exec,RX.ev,DX,AC,Fq,hb]
@[simp] theorem WN (a b:Int):Ad (.bin .eql c cst (.c (.int k a)) (.c (.int k b)))=some (.bool (a==b)):=by simp[Ad,exec,RX.ev,DX,AC,Fq,JH]
@[simp] theorem WK (a b:Int):Ad (.bin .neq c cst (.c (.int k a)) (.c (.int k b)))=some (.bool (a != b)):=by simp[Ad,exec,RX.ev,DX,AC,Fq,JH]
@[simp] theorem pure_lss (a b:Int):Ad (.bin .lss c cst (.c (.int k a)) (.c (.int k b)))=some (.bool (decide (a < b))):=by simp[Ad,exec,RX.ev,DX,AC,Fq,JH]
@[simp] theorem WM (a b:Int):Ad (.bin .leq c cst (.c (.int k a)) (.c (.int k b)))=some (.bool (decide (a<=b))):=by simp[Ad,exec,RX.ev,DX,AC,Fq,JH]
@[simp] theorem pure_gtr (a b:Int):Ad (.bin .gtr c cst (.c (.int k a)) (.c (.int k b)))=some (.bool (decide (b < a))):=by simp[Ad,exec,RX.ev,DX,AC,Fq,JH]
@[simp] theorem pure_geq (a b:Int):Ad (.bin .geq c cst (.c (.int k a)) (.c (.int k b)))=some (.bool (decide (b<=a))):=by simp[Ad,exec,RX.ev,DX,AC,Fq,JH]
@[simp] theorem PH (a b:List UInt8):Ad (.bin .eql c cst (.c (.str a)) (.c (.str b)))=some (.bool (a==b)):=by simp[Ad,exec,RX.ev,DX,K6]
@[simp] theorem pure_nes (a b:List UInt8):Ad (.bin .neq c cst (.c (.str a)) (.c (.str b)))=some (.bool (!(a==b))):=by simp[Ad,exec,RX.ev,DX,K6]
@[simp] theorem LS (a b:Bool):Ad (.bin .eql .bool cst (.c (.bool a)) (.c (.bool b)))=some (.bool (a==b)):=by simp[Ad,exec,RX.ev,DX,JX]
@[simp] theorem Jg (a b:Bool):Ad (.bin .neq .bool cst (.c (.bool a)) (.c (.bool b)))=some (.bool (!(a==b))):=by simp[Ad,exec,RX.ev,DX,JX]
@[simp] theorem Cl (b:Bool):Ad (.un .not (.c (.bool b)))=some (.bool (!b)):=rfl
@[simp] theorem WL (n:Int):Ad (.un .neg (.c (.int k n)))=some (.int k (k.wrap (0 - n))):=rfl
@[simp] theorem pure_conv {k':IntKind} (n:Int):Ad (.conv k (.c (.int k' n)))=some (.int k (k.wrap n)):=rfl
@[simp] theorem pure_lens (s:List UInt8):Ad (.len .str (.c (.str s)))=some (.int .i64 (s.length:Int)):=rfl
@[simp] theorem Hl {j:Nat} (xs:List PV) (f:Bool):Ad (.len .slice (.c (.sl j xs f)))=some (.int .i64 (xs.length:Int)):=rfl
@[simp] theorem pure_lenn:Ad (.len .slice (.c .nilS))=some (.int .i64 0):=rfl
@[simp] theorem B3 (j:Nat) (xs:List PV):Ad (.extract j (.c (.tup xs)))=xs[j]?:=by
 simp only[Ad,exec,RX.ev];cases xs[j]?<;>rfl
@[simp] theorem Nk {n o:Nat} {ag:Bool} (cs:List PV):Ad (.load n ag (.c (.ptr cs o)))=BE cs o n ag:=by
 simp only[Ad,exec,RX.ev];cases BE cs o n ag<;>rfl
@[simp] theorem pure_field {n o:Nat} {ag:Bool} (cs:List PV):Ad (.field o n ag (.c (.agg cs)))=BE cs o n ag:=by
 simp only[Ad,exec,RX.ev];cases BE cs o n ag<;>rfl
@[simp] theorem pure_nilck (cs:List PV) (o:Nat):Ad (.nilck (.c (.ptr cs o)))=some (.ptr cs o):=rfl
@[simp] theorem pure_nilckf (f:Nat) (cs:List PV):Ad (.nilck (.c (.fn f cs)))=some (.fn f cs):=rfl
@[simp] theorem pure_faddr {off o:Nat} (cs:List PV):Ad (.fieldAddr off (.c (.ptr cs o)))=if o+off < cs.length then some (.ptr cs (o+off)) else none:=by
 by_cases hq:o+off < cs.length<;>simp[Ad,exec,RX.ev,AC,hq]
theorem Nl {xs:List PV} {j n:Nat} {f:Bool} {v:PV} (hn:0 < n) (h:xs[j]?=some v):Ad (.idxAddr n (.c (.sl n xs f)) (.c (.int k (j:Int))))=some (.ptr v.cells 0):=by
 simp[Ad,exec,RX.ev,CS,h,AC,hn]
theorem pure_ssl2 {s:List UInt8} {h:Nat} (hh:h<=s.length):Ad (.strSlice (.c (.str s)) none (some (.c (.int k (h:Int)))))=some (.str (s.take h)):=by
 simp[Ad,exec,RX.ev,B6,Cn,CS,AC,hh]
end pure
@[simp] theorem LY (v:PV):BE [v] 0 1 false=some v:=rfl
@[simp] theorem cells_int (k:IntKind) (n:Int):(PV.int k n).cells=[.int k n]:=rfl
@[simp] theorem Wv (s:List UInt8):(PV.str s).cells=[.str s]:=rfl
@[simp] theorem cells_bool (b:Bool):(PV.bool b).cells=[.bool b]:=rfl
@[simp] theorem BH (cs:List PV):(PV.agg cs).cells=cs:=rfl
@[simp] theorem Mg (a b:Nat):AG a b=a+b:=rfl
@[simp] theorem subN_eq (a b:Nat):subN a b=a - b:=rfl
@[simp] theorem minN_eq (a b:Nat):minN a b=min a b:=rfl
@[simp] theorem PZ (l:List PV):Ai l=l.length:=rfl
@[simp] theorem ST (n:Nat) (l:List PV):AE n l=l.take n:=rfl
@[simp] theorem Tj (n:Nat) (l:List PV):AS n l=l.drop n:=rfl
@[simp] theorem TI (l m:List PV):BC l m=l++m:=rfl
@[simp] theorem replL_eq (n:Nat) (v:PV):GJ n v=List.replicate n v:=rfl
@[simp] theorem Co (k:Nat) (xs:List PV) (f:Bool):Av (.sl k xs f)=xs:=rfl
@[simp] theorem Ej (k:IntKind) (n:Int):An (.int k n)=n.toNat:=rfl
@[simp] theorem Er (n:Nat):nI n=.int .i64 (n:Int):=rfl
@[simp] theorem KJ (a b:Bool):BG a b=(a&&b):=rfl
@[simp] theorem Mr (a b:Nat):AO a b=decide (a<=b):=by
 rw[cJ,NY,decide_eq_true_iff]
@[simp] theorem ltN_eq (a b:Nat):DL a b=decide (a < b):=by
 rw[cJ,L7,decide_eq_true_iff]
@[simp] theorem eqN_eq (a b:Nat):Fz a b=decide (a=b):=by
 rw[cJ,N6,decide_eq_true_iff]
@[simp] theorem Be (x:PV) (l:List PV):Aa (x :: l) 0=x:=rfl
@[simp] theorem Bd (a x:PV) (l:List PV):Aa (a :: x :: l) 1=x:=rfl
@[simp] theorem Bj (a b x:PV) (l:List PV):Aa (a :: b :: x :: l) 2=x:=rfl
@[simp] theorem Bu (a b c x:PV) (l:List PV):Aa (a :: b :: c :: x :: l) 3=x:=rfl
@[simp] theorem Ci (a b c d x:PV) (l:List PV):Aa (a :: b :: c :: d :: x :: l) 4=x:=rfl
@[simp] theorem DI (a b c d e x:PV) (l:List PV):Aa (a :: b :: c :: d :: e :: x :: l) 5=x:=rfl
@[simp] theorem DT (a b c d e f x:PV) (l:List PV):Aa (a :: b :: c :: d :: e :: f :: x :: l) 6=x:=rfl
@[simp] theorem DH (a b c d e f g x:PV) (l:List PV):Aa (a :: b :: c :: d :: e :: f :: g :: x :: l) 7=x:=rfl
@[simp] theorem EE (a b c d e f g h x:PV) (l:List PV):Aa (a :: b :: c :: d :: e :: f :: g :: h :: x :: l) 8=x:=rfl
@[simp] theorem BP (v:PV) (o n:Nat) (ag:Bool):Am v o n ag=BE v.cells o n ag:=rfl
@[simp] theorem natO_int (k:IntKind) (n:Nat):FO (.int k (n:Int))=some n:=by simp[FO,CS]
end Go.Ab


namespace Go.Ab
section
variable {cfg:Dx} {tab:FuncId->Option At}
theorem kisUn_eq {x:KV} (h:kisUn x=false):EF x=false:=by cases x<;>first | rfl | cases h
theorem evalDK_ok (hc:DJ cfg tab) {nt:Nat}:∀ (c:Bw) {R:Type} {ks:Az} {K:Ex->Az->List Nat->Option R} {r:R},ks.Ok->Fp cfg nt c ks K=some r ->
  ∃ x k' l,K x k' l=some r/\k'.Ok/\Bg fun n=>Bh (C9 cfg.b.sp tab n) n nt c ks.st=some (x,k'.st,l):=by
 intro c;induction c with
 | dreg ops f args lv =>
  intro R ks K r hk hr;simp only[Fp] at hr;rw[DB] at hr;obtain⟨c1,c2,_⟩:=LG hk (CC ops);obtain⟨k1,e1,hr,hk1,h1⟩:=Ta (hn:=fun _=>AD) (dep:=0) hc noH ops c2 hr;split at hr
  case isFalse=>cases hr
  rename_i hcd;obtain⟨a1,a2,a3,a4⟩:=hcd;rw[DB] at hr;simp only[bB] at a2;have hle:args.length+1<=nt:=bJ a2.1;have hnt:k1.nt=nt:=dv a2.2;have hxf:Ew f=true:=bP.1 a3 f (by simp);have hxa:args.all Ew=true:=bP.2 fun x hm=>bP.1 a3 x (by simp[hm]);have hfo:=MK hk1 hxf;have hao:=KT hk1 hxa;have hfe:=GI hk1 f;have hae:args.map (RX.ev k1.st.tmps)=AJ (args.map (RX.kv k1.tmps)):=Hs hk1 args;generalize hxs:f.kv k1.tmps :: args.map (RX.kv k1.tmps)=xs at hr a4;have hlen:xs.length=args.length+1:=by rw[<-hxs];simp
  have hok:A4 xs:=by rw[<-hxs];exact⟨hfo,hao⟩
  have hpv:AJ xs=f.ev k1.st.tmps :: args.map (RX.ev k1.st.tmps):=by rw[<-hxs,hfe,hae];rfl
  obtain⟨i1,i2⟩:=Tz (nt:=nt) hok (fun x hx=>kisUn_eq (by
   rw[List.any_eq_false] at a4;simpa using a4 x hx)) (by omega)
  have e1:BB nt (xs.zipIdx.map fun p=>(p.2,p.1))=AJ xs++List.replicate (nt - (AJ xs).length) .undef:=congrArg St.tmps i2
  have hk2:({k1 with keep:=(xs.zipIdx.map fun p=>(p.2,p.1)) :: k1.keep}:Az).Ok:=⟨hk1.tm,hk1.ob,fun sp hsp=>by
   rcases bH.1 hsp with rfl | hsp;·rw[hnt];exact i1.tm
   ·exact hk1.kp sp hsp⟩
  have hst2:({k1 with keep:=(xs.zipIdx.map fun p=>(p.2,p.1)) :: k1.keep}:Az).st=QA nt (f.ev k1.st.tmps :: args.map (RX.ev k1.st.tmps)) k1.st:=by
   rw[<-hpv];unfold QA Az.st;simp only[cH];rw[hnt,e1]
  obtain⟨t1,t2⟩:=PK hk2 lv
  have hfn:isFn (f.ev k1.st.tmps)=true:=by
   rw[hfe];cases hq:f.kv k1.tmps with
   | fn g cap=>rfl
   | _=>rw[hq] at a1;cases a1
  refine⟨_,_,_,hr,t2,h1.mono fun n hn'=>?_⟩;rw[c1] at hn';simp only[Bh,hn',t1,hst2,AC,hfn,d8,decide_eq_true_eq,if_pos hle]
 | seq a b iha ihb =>
  intro R ks K r hk hr;simp only[Fp] at hr;obtain⟨x,k1,l,hr,hk1,h1⟩:=iha hk hr;cases x with
  | normal =>
   obtain⟨x2,k2,l2,hr,hk2,h2⟩:=ihb hk1 hr;exact⟨_,_,_,hr,hk2,h1.mono2 h2 fun n a b=>by simp only[Bh,a,b]⟩
  | exit id=>exact⟨_,_,_,hr,hk1,h1.mono fun n a=>by simp only[Bh,a]⟩
  | ret=>exact⟨_,_,_,hr,hk1,h1.mono fun n a=>by simp only[Bh,a]⟩
 | cond c a b iha ihb =>
  intro R ks K r hk hr;simp only[Fp] at hr;have hev:=GI hk c;split at hr
  ·rename_i hv;obtain⟨x,k1,e1,hr,hk1,h1⟩:=iha hk hr;exact⟨_,_,_,hr,hk1,h1.mono fun n a=>by simp only[Bh,hev,hv,KV.pv,a]⟩
  ·rename_i hv;obtain⟨x,k1,e1,hr,hk1,h1⟩:=ihb hk hr;exact⟨_,_,_,hr,hk1,h1.mono fun n a=>by simp only[Bh,hev,hv,KV.pv,a]⟩
  ·rename_i v hv;rcases Pp hr with ⟨rfl,hr⟩ | ⟨rfl,hr⟩
   ·obtain⟨x,k1,e1,hr,hk1,h1⟩:=iha hk hr;exact⟨_,_,_,hr,hk1,h1.mono fun n a=>by simp only[Bh,hev,hv,KV.pv,a]⟩
   ·obtain⟨x,k1,e1,hr,hk1,h1⟩:=ihb hk hr;exact⟨_,_,_,hr,hk1,h1.mono fun n a=>by simp only[Bh,hev,hv,KV.pv,a]⟩
  ·cases hr
 | block id b ih =>
  intro R ks K r hk hr;simp only[Fp] at hr;obtain⟨x,k1,l,hr,hk1,h1⟩:=ih hk hr;cases x with
  | normal=>exact⟨_,_,_,hr,hk1,h1.mono fun n a=>by simp only[Bh,a]⟩
  | ret=>exact⟨_,_,_,hr,hk1,h1.mono fun n a=>by simp only[Bh,a]⟩
  | exit id' =>
   simp only at hr;split at hr;·rename_i hid;exact⟨_,_,_,hr,hk1,h1.mono fun n a=>by simp only[Bh,a,hid,if_true]⟩
   ·rename_i hid;exact⟨_,_,_,hr,hk1,h1.mono fun n a=>by simp only[Bh,a,hid,if_false]⟩
 | scope b ih =>
  intro R ks K r hk hr;simp only[Fp] at hr;split at hr;·cases hr
  rename_i hlb;obtain⟨x,k1,l,hr,hk1,h1⟩:=ih hk hr;cases x with
  | normal=>exact⟨_,_,_,hr,hk1,h1.mono fun n a=>by simp only[Bh,a,hlb,if_false,bA]⟩
  | ret=>exact⟨_,_,_,hr,hk1,h1.mono fun n a=>by simp only[Bh,a,hlb,if_false,bA]⟩
  | exit id' =>
   simp only at hr;split at hr;·rename_i hid;exact⟨_,_,_,hr,hk1,h1.mono fun n a=>by simp only[Bh,a,hlb,hid,if_true,if_false,bA]⟩
   ·cases hr
 | _ =>
  intro R ks K r hk hr;simp only[Fp] at hr;obtain⟨x,k1,e1,hr,hk1,h1⟩:=Th hc _ (h:=AD) (hn:=fun _=>AD) noH 0 hk hr;exact⟨_,_,_,hr,hk1,h1.mono fun n a=>by simp only[Bh,a,Gj]⟩
theorem dfrsK_ok (hc:DJ cfg tab) {nt:Nat} {R:Type}:∀ (l:List Nat) {ks:Az} {K:Az->Option R} {r:R},ks.Ok->Q1 cfg nt l ks K=some r ->
  ∃ k',K k'=some r/\k'.Ok/\Bg fun n=>GS (C9 cfg.b.sp tab n) nt l ks.st=some k'.st:=by
 intro l;induction l with
 | nil=>intro ks K r hk hr;exact⟨ks,hr,hk,.of fun n=>rfl⟩
 | cons n l ih =>
  intro ks K r hk hr;simp only[Q1] at hr;split at hr;·cases hr
  rename_i sp kp hkeep;split at hr
  case h_2=>cases hr
  rename_i f caps hget;split at hr
  case h_2=>cases hr
  rename_i P hP;split at hr
  case isFalse=>cases hr
  rename_i hcd;obtain⟨b1,b2,b3⟩:=hcd;simp only[bB] at b2;have hle:n+1<=nt:=bJ b2.1;have hnt:ks.nt=nt:=dv b2.2;have hsp:BQ nt sp:=by rw[<-hnt];exact hk.kp sp (by rw[hkeep];exact bT)
  have hcaps:A4 caps:=by
   have:=hsp.get_ok 0;rw[hget] at this;exact this
  have hargs:A4 ((List.range n).map fun j=>A2 sp (j+1)):=CO.2 fun x hx=>by
   obtain⟨j,_,rfl⟩:=bE.1 hx;exact hsp.get_ok _
  obtain⟨out,hr,ho,hspf,hev⟩:=Vn hc hk b3 (Vl (f:=f) hargs hcaps) hP hr;split at hr
  case isFalse=>cases hr
  rename_i hnew;rw[DB] at hr;have hk2:({ks with keep:=kp}:Az).Ok:=⟨hk.tm,hk.ob,fun sp' h=>hk.kp sp' (by rw[hkeep];exact bM _ h)⟩;obtain⟨s1,s2⟩:=RV (ks:={ks with keep:=kp}) hk2 (by show (_||ES ks.objs)=true;rw[b3];simp) none ho;obtain⟨k',hr,hk',h2⟩:=ih s2 hr
  have hkp:ks.st.keep=BB nt sp++kp.flatMap (BB nt):=by
   show ks.keep.flatMap (BB ks.nt)=_;rw[hkeep,hnt];rfl
  have hget0:ks.st.keep.getD 0 .undef=.fn f (AJ caps):=by
   have:(BB nt sp)[0]?=some (KV.fn f caps).pv:=by rw[dense_get?,if_pos (by omega),hget]
   rw[hkp,bI,dm (by rw[D3];omega),this];rfl
  have htake:(ks.st.keep.drop 1).take n=AJ ((List.range n).map fun j=>A2 sp (j+1)):=by
   rw[hkp,D7,cc];apply ct;intro j;rw[List.getElem?_take,ec,bK];by_cases hj:j < n
   ·rw[if_pos hj,dm (by rw[D3];omega),dense_get?,if_pos (by omega),cX hj];simp[Nat.add_comm]
   ·rw[if_neg hj,cf (by simp;omega)];rfl
  have hdrop:({ks with keep:=kp}:Az).st={ks.st with keep:=ks.st.keep.drop nt}:=by
   rw[hkp,List.drop_left' (D3 nt sp)];unfold Az.st;simp only[hnt]
  have hvs:Bv f ((ks.st.keep.drop 1).take n) (AJ caps)=AJ (HZ f ((List.range n).map fun j=>A2 sp (j+1)) caps):=by rw[htake,Vk]
  have hflag:EU tab (AW f)=true:=by rw[<-hc.ioF,hP];rfl
  have hflat:Jm tab (AW f)=true:=hc.flat _ b1
  have hnew':(out.out.new.isEmpty||out.out.slot.isSome)=true:=by
   simp only[Aw.out];have:(out.new.map Aj.ob).isEmpty=out.new.isEmpty:=by cases out.new<;>rfl
   rw[this];exact hnew
  rw[s1,hdrop] at h2;refine⟨k',hr,hk',hev.mono2 h2 fun m a b=>?_⟩;simp only[GS,hget0,hvs,Jh,Pa,ah,hc.spF _ hspf,hflag,hflat,d8,if_true,a,AC,hnew',b]
end
end Go.Ab


namespace Go.Ab
mutual
theorem RZ:∀ (p x:KV),Bo p x=true->x.ok->Cb p x.pv=some (B5 p x)
 | .un,x,h,_=>by cases x<;>simp[Bo] at h;rfl
 | .sk,x,h,_=>by cases x<;>simp[Bo] at h;rfl
 | .yld d,x,h,_=>by cases x<;>simp[Bo] at h;rfl
 | .ref nm o,x,h,_=>by cases x<;>simp[Bo] at h;obtain⟨rfl,rfl⟩:=h;simp[Cb,KV.pv,B5,Ae]
 | .aref _ _ _ _,x,h,_=>by simp[Bo] at h
 | .mp nm,x,h,_=>by cases x<;>simp[Bo] at h;subst h;simp[Cb,KV.pv,B5,Ae]
 | .it nm,x,h,_=>by cases x<;>simp[Bo] at h;subst h;simp[Cb,KV.pv,B5,Ae]
 | .wit nm,x,h,_=>by cases x<;>simp[Bo] at h;subst h;simp[Cb,KV.pv,B5,Ae]
 | .arr nm k o n,x,h,_=>by
  cases x with
  | arr nm' k' o' n' =>
   simp only[Bo] at h;simp only[KV.pv,Cb,B5];rw[h];rfl
  | _=>simp[Bo] at h
 | .lit b,x,h,hx=>NH hx (by simpa[Bo] using h)
 | .nils,x,h,hx=>NH hx (by simpa[Bo] using h)
 | .cv v,x,h,hx=>NH hx (by simpa[Bo] using h)
 | .fn f cap,x,h,hx=>by
  cases x with
  | fn f' cap' =>
   simp only[Bo,bB,beq_iff_eq] at h;obtain⟨rfl,h⟩:=h;simp only[KV.pv,Cb,if_true,B5];exact MZ cap cap' h hx
  | _=>simp[Bo] at h
 | .tup xs,x,h,hx=>by
  cases x with
  | tup ys =>
   simp only[Bo] at h;simp only[KV.pv,Cb,B5];exact MZ xs ys h hx
  | _=>simp[Bo] at h
 | .agg cs,x,h,hx=>by
  simp only[Bo] at h;simp only[Cb,B5];by_cases hc:(Dz cs).isSome=true
  ·rw[if_pos hc] at h;rw[if_pos hc,if_pos hc];exact NH hx h
  ·rw[if_neg hc] at h;rw[if_neg hc,if_neg hc];cases x with
   | agg cs'=>exact MZ cs cs' h hx
   | _=>simp at h
 | .iface t y,x,h,hx=>by
  simp only[Bo] at h;simp only[Cb,B5];by_cases hc:y.cl.isSome=true
  ·rw[if_pos hc] at h;rw[if_pos hc,if_pos hc];exact NH hx h
  ·rw[if_neg hc] at h;rw[if_neg hc,if_neg hc];cases x with
   | iface t' y' =>
    simp only[bB,beq_iff_eq] at h;obtain⟨rfl,h⟩:=h;simp only[KV.pv,if_true];exact RZ y y' h hx
   | _=>simp at h
theorem MZ:∀ (ps xs:List KV),DZ ps xs=true->A4 xs->HA ps (AJ xs)=some (F7 ps xs)
 | [],xs,h,_=>by cases xs<;>simp[DZ] at h;rfl
 | p :: ps,xs,h,hx=>by
  cases xs with
  | nil=>simp[DZ] at h
  | cons x xs =>
   simp only[DZ,bB] at h;simp only[AJ,HA,F7];rw[RZ p x h.1 hx.1,MZ ps xs h.2 hx.2]
theorem NH {x:KV} (hx:x.ok) (h:x.cl.isSome=true):Ae (okV x.pv) (some [x.pv])=some [x.cl.getD .undef]:=by
 obtain⟨v,hv⟩:=dH.1 h;have h1:=KV.cl_ok hx hv;rw[KV.cl_pv hv,hv];simp[Ae,h1]
end
theorem Yt (p x:Aj) (h:Db p x=true) (hx:x.ok):EV p x.ob=some (Ns p x):=by
 cases p with
 | cells ty cs =>
  cases x with
  | cells ty' cs' =>
   simp only[Db,bB,beq_iff_eq] at h;obtain⟨rfl,h⟩:=h;simp only[EV,Aj.ob,if_true];exact MZ cs cs' h hx
  | _=>simp[Db] at h
 | whole ty w =>
  cases x with
  | whole ty' v =>
   simp only[Db,beq_iff_eq] at h;subst h;have hx':okV v=true:=hx;have h2:Ao (CH v)=true:=Dm hx';simp[EV,Aj.ob,Ns,Ae,h2]
  | _=>simp[Db] at h
 | arr k kt ws =>
  cases x with
  | arr k' kt xs =>
   simp only[Db,bB,beq_iff_eq] at h;obtain⟨rfl,rfl⟩:=h;have hx':Ao xs=true:=hx;simp[EV,Aj.ob,Ns,GX,Ae,hx']
  | _=>simp[Db] at h
 | map ws =>
  cases x with
  | map es =>
   have hx':Ao es=true:=hx;simp[EV,Aj.ob,Ns,GX,Ae,hx']
  | _=>simp[Db] at h
 | siter s0 p0 =>
  cases x with
  | siter s pos=>rfl
  | _=>simp[Db] at h
theorem RC:∀ (ps xs:List Aj),El ps xs=true->(∀ o∈xs,o.ok)->Iv ps (xs.map Aj.ob)=some (Nb ps xs)
 | [],[],_,_=>rfl
 | [],_ :: _,h,_=>by simp[El] at h
 | _ :: _,[],h,_=>by simp[El] at h
 | p :: ps,x :: xs,h,hx=>by
  simp only[El,bB] at h;simp only[bz,Iv,Nb];rw[Yt p x h.1 (hx x bT),RC ps xs h.2 fun o ho=>hx o (bM _ ho)]
theorem kwit_pv {x:KV} (h:x.ok):FH x.pv=Ms x:=by
 cases x with
 | arr nm k o n =>
  simp only[KV.pv,Ms,FH];by_cases hc:k=1/\o=0/\n=0
  ·obtain⟨rfl,rfl,rfl⟩:=hc;rfl
  ·rw[if_neg hc];split
   ·rename_i heq;cases heq;exact absurd ⟨rfl,rfl,rfl⟩ hc
   ·rfl
 | cv v =>
  have hv:okV v=true:=h;simp only[KV.pv,Ms];unfold FH;split;·simp[okV] at hv
  ·rfl
 | _=>rfl
section
variable {ks:Az}
theorem kioEnd_ok (hk:ks.Ok) {P:BK} {v:KV} (hv:v.ok) {rs:List PV} (h:Oo P ks v=some rs):∃ out,GM none 1 0 (Em P.ins.length) ks.st v.pv=some out/\QP P out=some rs:=by
 unfold Oo at h;split at h
 case h_2=>cases h
 rename_i sp hkeep;simp only at h;have hsp:BQ ks.nt sp:=hk.kp sp (by rw[hkeep];exact cj.2 rfl)
 have hst:ks.st.keep=BB ks.nt sp:=by
  show ks.keep.flatMap (BB ks.nt)=_;rw[hkeep];simp
 have hw:∀ j,FH (ks.st.keep.getD j .undef)=Ms (A2 sp j):=fun j=>by
  rw[hst,Kk hsp,kwit_pv (hsp.get_ok j)]
 have hA:FB (Em P.ins.length) ks.st.keep=Jk P.ins.length sp:=by
  unfold FB Jk;exact ci fun p _=>by rw[hw]
 have hG:JD (Em P.ins.length) ks.st.keep=P1 P.ins.length sp:=by
  unfold JD P1;congr 1;exact List.filter_congr fun p _=>by rw[hw]
 have hlk:=Eh hk
 have hnm:∀ m:Nm,((Ak ks.st.objs m).map Ob.names).getD []=((Bk ks.objs m).map Aj.names).getD []:=by
  intro m;rw[GY hk];cases hl:Bk ks.objs m with
  | none=>rfl
  | some o =>
   simp only[bU,cr];exact Aj.ob_names (DA hk.ob hl)
 have hN:KW (Ak ks.st.objs) (Jk P.ins.length sp) v.pv=P0 (Bk ks.objs) (Jk P.ins.length sp) v:=by
  unfold KW P0;rw[KV.pv_names hv]
  have e1:((Jk P.ins.length sp).flatMap fun p=>((Ak ks.st.objs p.1).map Ob.names).getD [])=(Jk P.ins.length sp).flatMap fun p=>((Bk ks.objs p.1).map Aj.names).getD []:=by
   congr 1;funext p;exact hnm p.1
  rw[e1,hlk,<-Hn (Dg hk)]
 generalize Jk P.ins.length sp=A at h hA hN;generalize hNd:P0 (Bk ks.objs) A v=N at h hN;generalize hB:(A++N.zipIdx.map fun p=>(p.1,(1,0+p.2)))=B at h;split at h
 case isFalse=>cases h
 rename_i hcd;obtain⟨hnd,hgone,hfit⟩:=hcd;cases h;simp only[bB] at hfit;obtain⟨hf1,hf2,hf3⟩:=hfit
 have hoff:(fun m=>if (B.map (·.1)).contains m then none else some none:Nm->Option (Option Ob))=H3 fun m=>!(B.map (·.1)).contains m:=by
  funext m;show (if (B.map (·.1)).contains m=true then none else some none)=if (!(B.map (·.1)).contains m)=true then some none else none
  cases (B.map (·.1)).contains m<;>rfl
 have hob:∀ nm,GR (Ak ks.st.objs) B nm=(Le (Bk ks.objs) B nm).ob/\(Le (Bk ks.objs) B nm).ok:=by
  intro nm;unfold GR Le
  have hok:((Bk ks.objs nm).getD Gk).ok:=by
   cases hl:Bk ks.objs nm with
   | none=>exact rfl
   | some o=>exact DA hk.ob hl
  have hobs:((Ak ks.st.objs nm).getD Bz)=((Bk ks.objs nm).getD Gk).ob:=by
   rw[GY hk];cases Bk ks.objs nm<;>rfl
  rw[hoff,hobs,<-Aj.off_ob _ hok,<-Aj.ren_ob _ (Aj.off_ok _ hok)];exact⟨rfl,Aj.ren_ok _ (Aj.off_ok _ hok)⟩
 refine⟨{v:=(v.pv.sub fun m=>if (B.map (·.1)).contains m then none else some none).ren fun m=>(B.lookup m).getD m,new:=N.map (GR (Ak ks.st.objs) B),ups:=A.map fun p=>(p.2,GR (Ak ks.st.objs) B p.1),gone:=P1 P.ins.length sp,io:=true},?_,?_⟩
 ·unfold GM;simp only
  rw[hA,hN,hB,hG];simp[AC,hnd]
 ·unfold QP;simp only
  rw[if_pos hgone]
  have e1:(v.pv.sub fun m=>if (B.map (·.1)).contains m then none else some none).ren (fun m=>(B.lookup m).getD m)=((v.off fun m=>!(B.map (·.1)).contains m).ren fun m=>(B.lookup m).getD m).pv:=by
   rw[hoff,<-KV.off_pv _ hv,<-KV.ren_pv _ (KV.off_ok _ hv)]
  have e2:(A.map fun p=>(p.2,GR (Ak ks.st.objs) B p.1)).map (·.2)=(A.map fun p=>Le (Bk ks.objs) B p.1).map Aj.ob:=by
   rw[cc,cc];exact ci fun p _=>(hob p.1).1
  have e3:N.map (GR (Ak ks.st.objs) B)=(N.map (Le (Bk ks.objs) B)).map Aj.ob:=by
   rw[cc];exact ci fun m _=>(hob m).1
  rw[e1,e2,e3,RZ _ _ hf1 (KV.ren_ok _ (KV.off_ok _ hv)),RC _ _ hf2 (fun o ho=>by
   obtain⟨p,_,rfl⟩:=bE.1 ho;exact (hob p.1).2),RC _ _ hf3 (fun o ho=>by
   obtain⟨m,_,rfl⟩:=bE.1 ho;exact (hob m).2)]
end
mutual
theorem Xh {vs:List PV} (hv:Ao vs=true):∀ (p:KV) (i:Nat),(fill p vs i).1.ok
 | .un,i | .sk,i | .yld _,i | .ref _ _,i | .aref _ _ _ _,i | .mp _,i | .it _,i | .wit _,i | .arr _ _ _ _,i=>trivial
 | .lit _,i | .nils,i | .cv _,i=>Mo hv i
 | .fn f cap,i=>LJ hv cap i
 | .tup xs,i=>LJ hv xs i
 | .agg cs,i=>by
  simp only[fill];split;·exact Mo hv i
  ·exact LJ hv cs i
 | .iface t y,i=>by
  simp only[fill];split;·exact Mo hv i
  ·exact Xh hv y i
theorem LJ {vs:List PV} (hv:Ao vs=true):∀ (ps:List KV) (i:Nat),A4 (CI ps vs i).1
 | [],i=>trivial
 | p :: ps,i=>⟨Xh hv p i,LJ hv ps _⟩
theorem Mo {vs:List PV} (hv:Ao vs=true) (i:Nat):okV (Aa vs i)=true:=by
 unfold Aa;rw[bI];cases h:vs[i]? with
 | none=>rfl
 | some x=>exact HU hv h
end
theorem aE {vs:List PV} (hv:Ao vs=true) (p:Aj) (i:Nat):(Ch p vs i).1.ok:=by
 cases p with
 | cells ty cs=>exact LJ hv cs i
 | whole ty w=>exact Mo hv i
 | arr k kt xs =>
  have:=Mo hv i;show Ao (Av (Aa vs i))=true;unfold Av;split;·rename_i heq;rw[heq] at this;simpa[okV] using this
  ·rfl
 | map es =>
  have:=Mo hv i;show Ao (Lg (Aa vs i))=true;unfold Lg;split;·rename_i heq;rw[heq] at this;simpa[okV] using this
  ·rfl
 | siter s p=>trivial
theorem UU {vs:List PV} (hv:Ao vs=true):∀ (ps:List Aj) (i:Nat),(∀ o∈(CF ps vs i).1,o.ok)/\(CF ps vs i).1.length=ps.length
 | [],i=>⟨fun o ho=>(by cases ho),rfl⟩
 | p :: ps,i=>by
  obtain⟨h1,h2⟩:=UU hv ps (Ch p vs i).2;refine⟨fun o ho=>?_,by simp[CF,h2]⟩;simp only[CF,bH] at ho;rcases ho with rfl | ho;·exact aE hv p i
  ·exact h1 o ho
theorem Xi {vs:List PV}:∀ (ps:List KV) (i:Nat),(∀ p∈ps,EF p=false)->(∀ x∈(CI ps vs i).1,EF x=false)/\(CI ps vs i).1.length=ps.length
 | [],i,_=>⟨fun o ho=>(by cases ho),rfl⟩
 | p :: ps,i,hp=>by
  obtain⟨h1,h2⟩:=Xi (vs:=vs) ps (fill p vs i).2 fun q hq=>hp q (bM _ hq);refine⟨fun x hx=>?_,by simp[CI,h2]⟩;simp only[CI,bH] at hx;rcases hx with rfl | hx;·exact Xu (hp p bT)
  ·exact h1 x hx
theorem D5 {cfg:Dx} {tab:FuncId->Option At} (hc:DJ cfg tab) {g:FuncId} {fn:At} (ht:tab g=some fn) {P:BK} {Pf:List KV->List Aj->BK} (hPf:cfg.ioF g=some Pf) {xs:List KV} {obs:List Aj} (hP:Pf xs obs=P) (hun:P.args.all (fun p=>!EF p)=true) {vs rs:List PV} (hv:Ao vs=true)
  (hr:CG cfg fn P vs=some rs):Bx cfg.b P g vs=some rs:=by
 obtain⟨fn',ht',hnt,hll⟩:=hc.ioP g Pf hPf;have hla:=(hll xs obs).1;have hli:=(hll xs obs).2;rw[hP] at hla hli;rw[ht] at ht';cases ht';unfold CG at hr;simp only at hr;rw[DB] at hr;obtain⟨u1,u2⟩:=Xi (vs:=vs) P.args 0 fun p hp=>by simpa using bP.1 hun p hp
 have a1:=LJ hv P.args 0;obtain⟨b1,b2⟩:=UU hv P.ins (CI P.args vs 0).2;generalize has:(CI P.args vs 0).1=aas at hr u1 u2 a1;generalize hos:(CF P.ins vs (CI P.args vs 0).2).1=os at hr b1 b2;obtain⟨i1,i2⟩:=Tz (nt:=fn.nt) a1 u1 (by omega)
 have hwsp:BQ fn.nt (((List.range P.ins.length).filter fun j=>!fn.gone.contains j).map fun j=>(j,KV.wit (0,j))):=by
  refine⟨?_,?_,?_,?_⟩
  ·rw[cc];have:((fun p:Nat×KV=>p.1)∘fun j=>(j,KV.wit (0,j)))=id:=rfl;rw[this,List.map_id];exact List.pairwise_lt_range.filter _
  ·intro p hp;obtain⟨j,hj,rfl⟩:=bE.1 hp;have:=dj.1 (dF.1 hj).1;simp only;omega
  ·intro p hp;obtain⟨j,hj,rfl⟩:=bE.1 hp;trivial
  ·intro p hp;obtain⟨j,hj,rfl⟩:=bE.1 hp;rfl
 have hso:BM fn.nt [(0,os)]:=⟨by simp,by simp[hnt],fun p hp o ho=>by simp only[cj] at hp;subst hp;exact b1 o ho⟩
 have hks:({nt:=fn.nt,tmps:=aas.zipIdx.map fun p=>(p.2,p.1),objs:=[(0,os)],keep:=[((List.range P.ins.length).filter fun j=>!fn.gone.contains j).map fun j=>(j,KV.wit (0,j))]}:Az).Ok :=
  ⟨i1.tm,hso,fun sp hsp=>by simp only[cj] at hsp;subst hsp;exact hwsp⟩
 have hst:({nt:=fn.nt,tmps:=aas.zipIdx.map fun p=>(p.2,p.1),objs:=[(0,os)],keep:=[((List.range P.ins.length).filter fun j=>!fn.gone.contains j).map fun j=>(j,KV.wit (0,j))]}:Az).st=IU fn.gone fn.nt (os.map Aj.ob) (AJ aas):=by
  have e1:BB fn.nt (aas.zipIdx.map fun p=>(p.2,p.1))=AJ aas++List.replicate (fn.nt - (AJ aas).length) .undef:=congrArg St.tmps i2;unfold Az.st IU;simp only
  rw[e1];congr 1
  ·refine Km (by simp) fun i hi=>?_;by_cases h0:i=0
   ·subst h0;rw[dx (by simpa using hnt)];rfl
   ·rw[cg (cn h0),e9,if_pos hi]
    have:A9 [(0,os)] i=[]:=by
     simp only[A9];cases hb:Nat.beq i 0 with
     | true=>exact absurd (CE hb) h0
     | false=>rfl
    rw[this];rfl
  ·simp only[cH,eQ,dB];refine Ko (by simp[Lp]) fun i hi=>?_;unfold Lp;rw[bK,cX hi];simp only[bU,bS];by_cases hij:i < os.length/\fn.gone.contains i=false
   ·rw[if_pos hij];have hm:(i,KV.wit (0,i))∈((List.range P.ins.length).filter fun j=>!fn.gone.contains j).map fun j=>(j,KV.wit (0,j)):=bE.2 ⟨i,dF.2 ⟨dj.2 (by have:=hij.1;omega),by simp only[hij.2,ck]⟩,rfl⟩;rw[show A2 (((List.range P.ins.length).filter fun j=>!fn.gone.contains j).map fun j=>(j,KV.wit (0,j))) i=KV.wit (0,i) from hwsp.get_mem hm];rfl
   ·rw[if_neg hij]
    rw[show A2 (((List.range P.ins.length).filter fun j=>!fn.gone.contains j).map fun j=>(j,KV.wit (0,j))) i=.un from Sv fun p hp=>by
     obtain⟨j,hj,rfl⟩:=bE.1 hp;obtain⟨h1,h2⟩:=dF.1 hj;have:=dj.1 h1;simp only
     intro e;subst e;exact hij ⟨by omega,by simpa using h2⟩]
    rfl
 have fin:∀ {k1:Az},k1.Ok->(Jz k1 fn.res fun vs=>Oo P k1 (JA vs))=some rs->(∀ v,Ft k1.st fn.res=some v->Bg fun n=>Hz (C9 cfg.b.sp tab n) n fn (os.map Aj.ob) (AJ aas)=some (k1.st,G4 v))->Bx cfg.b P g vs=some rs:=by
  intro k1 hk1 hr hx;obtain⟨ws,hr,hws,h1⟩:=Wb hk1 fn.res hr;obtain⟨o1,o2⟩:=We hws;obtain⟨out,g1,g2⟩:=kioEnd_ok hk1 o1 hr
  have hI:cfg.b.I g (os.map Aj.ob) (AJ aas)=some (k1.st,(JA ws).pv):=by
   rw[hc.I];unfold QH;rw[ht,o2];exact Jy (hx _ h1)
  unfold Bx;rw[hos,has,hI];simp only[g1,g2]
 split at hr
 ·rename_i hD;obtain⟨x,k1,e1,hr,hk1,hev⟩:=Th hc fn.code (h:=AD) (hn:=fun _=>AD) noH 0 hks hr;rw[hst] at hev;cases x with
  | exit id=>cases hr
  | _ =>
   refine fin hk1 hr fun v h1=>hev.mono fun n hn'=>?_;unfold Hz;rw[if_pos hD,hn'];simp only[h1]
 ·rename_i hD;obtain⟨x,k1,l,hr,hk1,hev⟩:=evalDK_ok hc fn.code hks hr;rw[hst] at hev;cases x with
  | exit id=>cases hr
  | _ =>
   obtain⟨k2,hr,hk2,hdf⟩:=dfrsK_ok hc l hk1 hr;refine fin hk2 hr fun v h1=>hev.mono2 hdf fun n hn' hd'=>?_;unfold Hz;rw[if_neg hD,hn'];simp only[hd',h1]
end Go.Ab


namespace Go.Ab
section sp
variable {cx:Cx} {E:Type} {w0:World} {I0 F0:Nat->Prop} {O0:BZ} {Hd:Nat->Option Obj} {R:BR E} {e:E} {ds:List Deferred} {I F:Nat->Prop} {lp:Nat->Option Nat} {L:AB} {tmv suf:List Value} {st:St} {w w':World} {dst:Option Nat}
theorem HX (hs:SR lp I L st tmv suf w) (hf:Fr cx w0 I0 F0 O0 Hd R e ds I F L w) (h:K7 w w') {u:PV} {v:Value} (hv:Au w' I lp (some L) u v) :
  ∃ I' L',SR lp I' L' (apply st dst {v:=u}) (Fy tmv dst v) suf w'/\Fr cx w0 I0 F0 O0 Hd R e ds I' F L' w':=by
 have hx:B7 I F w I F w':=⟨h.os,h.tape,h.output,h.size,fun b hb _=>h.same b hb,fun _ h=>h,fun _ h=>.inl h,fun _ h=>.inl h⟩;have hi:IF I F w':=⟨fun b hb=>cP (hf.sep.iB b hb) h.size,fun b hb=>⟨cP (hf.sep.fB b hb).1 h.size,(hf.sep.fB b hb).2⟩⟩;have hw:cx.Wd I w':=cx.stab I I w w' hf.wd (fun _ h=>h) (fun b hb=>h.same b (hf.sep.iB b hb)) h.size;have hr:R.rel e I F w':=R.stab e I I F w w' hf.re (fun _ h=>h) (fun b hb=>h.same b (hb.elim (hf.sep.iB b) fun h=>(hf.sep.fB b h).1)) h.size;refine⟨I,L,?_,hf.called hx hi hw hr⟩;have h2:=hs.called hf hx;cases dst with
 | none=>exact h2
 | some d=>exact h2.put d hv
theorem I6 (w:World):K7 w w:=⟨rfl,rfl,rfl,bF _,fun _ _=>rfl⟩
theorem Tr (hs:SR lp I L st tmv suf w) (hf:Fr cx w0 I0 F0 O0 Hd R e ds I F L w) {nm:Nm} {b C:Nat} (hL:L nm=some (some (b,C)))
  (h1:w'.os=w.os) (h2:w'.tape=w.tape) (h3:w'.output=w.output) (h4:w.heap.size<=w'.heap.size) (hk:∀ k,k < w.heap.size->k≠b->w'.heap[k]?=w.heap[k]?)
  {ob:Ob} (hob:Rw w' I lp L b C ob) {u:PV} {v:Value} (hv:Au w' I lp (some L) u v) :
  ∃ I' L',SR lp I' L' (apply st dst {v:=u,upd:=some (nm,ob)}) (Fy tmv dst v) suf w'/\Fr cx w0 I0 F0 O0 Hd R e ds I' F L' w':=by
 have hI:∀ k,I k->w'.heap[k]?=w.heap[k]?:=fun k hi=>hk k (hf.sep.iB k hi) fun e=>(hf.lB nm b C hL).2.2.1 (e ▸ hi)
 have hfr:Fr cx w0 I0 F0 O0 Hd R e ds I F L w':=hf.own h1 h2 h3 h4
  (fun k hb hno=>hk k hb fun e=>hno nm C (e ▸ hL)) (fun _ h=>h) (fun _ h=>.inl h)
  (fun nm' b' C' h=>⟨cP (hf.lB nm' b' C' h).2.1 h4,(hf.lB nm' b' C' h).2.2.1,.inr ⟨nm',C',h⟩⟩) hf.inj
 have hsr:SR lp I L {st with objs:=Bi st.objs nm ob} tmv suf w':=hs.upd hL hI
  (fun m b' C' hm h=>hk b' (hf.lB m b' C' h).2.1 fun e=>hm (hf.inj m nm b' C' C h (e ▸ hL))) hob
 refine⟨I,L,?_,hfr⟩;cases dst with
 | none=>exact hsr
 | some d=>exact hsr.put d hv
theorem sp_gone (hs:SR lp I L st tmv suf w) (hf:Fr cx w0 I0 F0 O0 Hd R e ds I F L w) {nm:Nm} {p:Option (Nat×Nat)} (hL:L nm=some p)
  (h1:w'.os=w.os) (h2:w'.tape=w.tape) (h3:w'.output=w.output) (h4:w.heap.size<=w'.heap.size) (hk:∀ b',b' < w.heap.size->(∀ C,p≠some (b',C))->w'.heap[b']?=w.heap[b']?)
  {u:PV} {v:Value} (hv:∀ L':AB,Au w' I lp (some L') u v) :
  ∃ I' L',SR lp I' L' (apply st dst {v:=u,upd:=some (nm,Bz),kill:=some nm}) (Fy tmv dst v) suf w'/\Fr cx w0 I0 F0 O0 Hd R e ds I' F L' w':=by
 have hI:∀ b',I b'->w'.heap[b']?=w.heap[b']?:=fun b' hb'=>hk b' (hf.sep.iB b' hb') fun C e=>(hf.lB nm b' C (by rw[hL,e])).2.2.1 hb'
 have hu:=hs.regrow (w':=w') (k:=0) (kt:=0) (xs:=[]) (p':=none) hL hI
  (fun m b' C' hm hn=>hk b' (hf.lB m b' C' hn).2.1 fun C e=>hm (hf.inj m nm b' C' C hn (by rw[hL,e]))) ⟨0,0,rfl⟩
 refine⟨I,(fun m=>if m=nm then some none else L m),?_,?_⟩
 ·cases dst with
  | none=>exact hu
  | some d=>exact hu.put d (hv _)
 ·refine hf.own h1 h2 h3 h4 (fun b' hb' hn=>hk b' hb' fun C e=>hn nm C (by rw[hL,e])) (fun _ h=>h) (fun _ h=>.inl h) ?_ ?_
  ·intro m b' C' hn;by_cases hm:m=nm
   ·simp[hm] at hn
   ·simp only[hm,if_false] at hn;exact⟨by have:=(hf.lB m b' C' hn).2.1;omega,(hf.lB m b' C' hn).2.2.1,.inr ⟨m,C',hn⟩⟩
  ·intro m m' b' C1 C2 hn hn';by_cases hm:m=nm
   ·simp[hm] at hn
   ·by_cases hm':m'=nm
    ·simp[hm'] at hn'
    ·simp only[hm,hm',if_false] at hn hn';exact hf.inj m m' b' C1 C2 hn hn'
theorem sp_new (hs:SR lp I L st tmv suf w) (hf:Fr cx w0 I0 F0 O0 Hd R e ds I F L w) (hd:∀ d,dst=some d->st.objs[d]?=some []) (h:K7 w w') {k:Nat} {v:Value} {p:Option (Nat×Nat)}
  (hp:∀ b C,p=some (b,C)->w.heap.size<=b/\b < w'.heap.size) (hob:∀ L',BD w' I lp L' (.arr k 0 []) p) (hv:∀ (L':AB) (nm:Nm),L' nm=some p->Au w' I lp (some L') (.arr nm k 0 0) v) :
  ∃ I' L',SR lp I' L' (apply st dst {v:=.arr (dst.getD 0,0) k 0 0,new:=[.arr k 0 []]}) (Fy tmv dst v) suf w'/\Fr cx w0 I0 F0 O0 Hd R e ds I' F L' w':=by
 have hkk:SR lp I L st tmv suf w':=hs.keeps (fun _ h=>h) (fun b hb=>h.same b (hf.sep.iB b hb)) fun nm b C hn=>h.same b (hf.lB nm b C hn).2.1;cases dst with
 | none =>
  refine⟨I,L,hkk,?_⟩;have hx:B7 I F w I F w':=⟨h.os,h.tape,h.output,h.size,fun b hb _=>h.same b hb,fun _ h=>h,fun _ h=>.inl h,fun _ h=>.inl h⟩;have hi:IF I F w':=⟨fun b hb=>cP (hf.sep.iB b hb) h.size,fun b hb=>⟨cP (hf.sep.fB b hb).1 h.size,(hf.sep.fB b hb).2⟩⟩;have hw:cx.Wd I w':=cx.stab I I w w' hf.wd (fun _ h=>h) (fun b hb=>h.same b (hf.sep.iB b hb)) h.size;have hr:R.rel e I F w':=R.stab e I I F w w' hf.re (fun _ h=>h) (fun b hb=>h.same b (hb.elim (hf.sep.iB b) fun h=>(hf.sep.fB b h).1)) h.size;exact hf.called hx hi hw hr
 | some d =>
  have hd:=hd d rfl
  have hn:=hkk.news hd [.arr k 0 []] [p] rfl (by
   intro j ob' q h1 h2;cases j with
   | zero=>simp at h1 h2;subst h1;subst h2;exact hob _
   | succ j=>simp at h1)
  refine⟨I,Cg L d [p],hn.put d (hv _ (d,0) (by simp[Cg])),Fr.news hf hd h.os h.tape h.output h.size (fun b hb=>h.same b hb) ?_ ?_⟩
  ·intro j b C hj;cases j with
   | zero=>simp at hj;exact hp b C hj
   | succ j=>simp at hj
  ·intro j j' b C C' h1 h2;cases j with
   | zero =>
    cases j' with
    | zero=>rfl
    | succ j'=>simp at h2
   | succ j=>simp at h1
end sp
theorem K9 {w:World} {I:Nat->Prop} {lp:Nat->Option Nat} {L:Option AB} {a:PV} {us:List Value} (h:Aq w I lp L [a] us):∃ u,us=[u]/\Au w I lp L a u:=by
 obtain⟨u,r,h1,rfl,h2⟩:∃ u r,Au w I lp L a u/\us=u :: r/\Aq w I lp L [] r:=by
  cases h;exact⟨_,_,by assumption,rfl,by assumption⟩
 cases h2;exact⟨u,rfl,h1⟩
theorem GK {w:World} {I:Nat->Prop} {lp:Nat->Option Nat} {L:Option AB} {a b:PV} {us:List Value} (h:Aq w I lp L [a,b] us):∃ u v,us=[u,v]/\Au w I lp L a u/\Au w I lp L b v:=by
 obtain⟨u,r,h1,rfl,h2⟩:∃ u r,Au w I lp L a u/\us=u :: r/\Aq w I lp L [b] r:=by
  cases h;exact⟨_,_,by assumption,rfl,by assumption⟩
 obtain⟨v,rfl,h3⟩:=K9 h2;exact⟨u,v,rfl,h1,h3⟩
theorem RG {W:World} {b o:Nat} {c:Array Value} {n:Value} {E':TypeId} {fr:Nat×Nat} (h:W.heap[b]?=some (.cells c E' fr)):(W.setCell ⟨b,o,none⟩ n).heap[b]?=some (.cells (c.setIfInBounds o n) E' fr):=by
 simp[World.setCell,Array.getElem?_modify,h]
theorem RF (W:World) (a:Addr) (n:Value):(W.setCell a n).heap.size=W.heap.size:=by simp[World.setCell]
theorem cell_of_heap {w w':World} {b:Nat} (h:w'.heap[b]?=w.heap[b]?) (o:Nat):w'.cell? ⟨b,o,none⟩=w.cell? ⟨b,o,none⟩:=by
 simp only[World.cell?,h]
theorem Ya {c:Array Value} (h:c.size=1):∃ n,c=#[n]:=by
 refine⟨c[0],?_⟩;apply Array.ext;·simp[h]
 ·intro i h1 h2;have:i=0:=by omega
  subst this;rfl
end Go.Ab


namespace Go.Ab
open Go
def ErrVars (gs:List Nat) (T:Nat) (I:Nat->Prop) (w:World):Prop :=
 ∃ ad:Nat->Addr,(∀ g∈gs,I g/\I (ad g).block/\(∃ E f,w.heap[g]?=some (.cells #[.iface T (.pointer (some (ad g)))] E f))/\∃ c t,w.heap[(ad g).block]?=some (.cells c t (0,0)))/\∀ g∈gs,∀ g'∈gs,g≠g'->ad g≠ad g'
structure WVars (gs:List Nat) (T:Nat) (et:List (Nat×Value)) (tabs:List (Nat×Array Value)) (ns:List Nat) (I:Nat->Prop) (w:World):Prop where
 err:ErrVars gs T I w
 et0:∀ p∈et,I p.1/\w.cell? ⟨p.1,0,none⟩=some p.2
 tab:∀ p∈tabs,I p.1/\∃ E f,w.heap[p.1]?=some (.cells p.2 E f)
 num:∀ g∈ns,I g/\∃ m,w.cell? ⟨g,0,none⟩=some (.int .i64 m)
def Uh (gs:List Nat) (T:Nat):EH:=fun g=>if gs.contains g then some [.glob g T] else none
noncomputable def cxOf (P:Program) (mixed:P.follows .mixedOrders=true) (gs:List Nat) (T:Nat) (et:List (Nat×Value)) (tabs:List (Nat×Array Value)) (ns:List Nat):Cx where
 P:=P
 mixed:=mixed
 G:=Uh gs T
 Wd I w:=WVars gs T et tabs ns I w
 stab I I' w w' h h1 h2 _:=by
  obtain⟨⟨ad,e1,e2⟩,e0,ht,hn⟩:=h;refine⟨⟨ad,fun g hg=>?_,e2⟩,fun p hp=>⟨h1 _ (e0 p hp).1,by rw[cell_of_heap (h2 _ (e0 p hp).1)];exact (e0 p hp).2⟩,fun p hp=>?_,fun g hg=>?_⟩
  ·obtain⟨a1,a2,a3,a4⟩:=e1 g hg;exact⟨h1 _ a1,h1 _ a2,by rw[h2 _ a1];exact a3,by rw[h2 _ a2];exact a4⟩
  ·obtain⟨a1,a2⟩:=ht p hp;exact⟨h1 _ a1,by rw[h2 _ a1];exact a2⟩
  ·obtain⟨a1,m,a2⟩:=hn g hg;exact⟨h1 _ a1,m,by rw[cell_of_heap (h2 _ a1)];exact a2⟩
 gl I w g cs h hg lp L:=by
  unfold Uh at hg;split at hg
  ·rename_i hgg;cases hg;obtain⟨ad,e1,_⟩:=h.err;obtain⟨a1,a2,⟨E,f,a3⟩,a4⟩:=e1 g (by simpa using hgg);exact Au.ptr (off:=0) (o:=0) [.glob g T] g _ _ _ a1 a3 (by simp) (by simp) (by simp[Bn];rfl) (by simp;exact .cons _ _ _ _ (.glob g T _ _ _ _ a1 a3 rfl) .nil)
  ·cases hg
def Kc (cx:Cx) (g:FuncId) (st:St) (vs:List PV) (out:AK):Prop:=Cw cx.P g /\
  ∀ (E:Type) (w0:World) (I0 F0:Nat->Prop) (O0:BZ) (Hd:Nat->Option Obj) (R:BR E) (e:E) (ds:List Deferred) (I F:Nat->Prop) (lp:Nat->Option Nat) (L:AB) (tmv suf us:List Value) (w:World) (dst:Option Nat),
   SR lp I L st tmv suf w->Fr cx w0 I0 F0 O0 Hd R e ds I F L w->Aq w I lp (some L) vs us->(∀ d,dst=some d->st.objs[d]?=some []) ->
   CallsIn Fence.wide 0 cx.P g us.toArray w fun
    | .returned v,w'=>∃ I' L',SR lp I' L' (apply st dst {out with v:=out.v.ren (EC (dst.getD 0))}) (Fy tmv dst v) suf w'/\Fr cx w0 I0 F0 O0 Hd R e ds I' F L' w'
    | _,_=>False
def JJ (f:(Nm->Option Ob)->List PV->Option AK):Prop:=∀ σ σ' vs,(∀ nm∈A8 σ AU (AQ vs),σ nm=σ' nm)->f σ vs=f σ' vs
theorem Pq {w:World} {I:Nat->Prop} {lp:Nat->Option Nat} {L:Option AB} {g:Nat} {t:TypeId} {v:Value} (h:Au w I lp L (.glob g t) v):∃ x c E fr,v=.iface t x/\w.heap[g]?=some (.cells c E fr)/\c[0]?=some (.iface t x):=by
 cases h with
 | glob g t x c E fr hI hb hv=>exact⟨x,c,E,fr,rfl,hb,hv⟩
theorem Uq {w w':World} (h:Go.RowKit.Below w.heap.size w w'):K7 w w':=⟨h.os,h.tape,h.output,h.size,h.block⟩
def Ib (ps:List (Nat×Nat)) (σ:Nm->Option Ob):List PV->Option AK
 | [.nilI,.iface p (.ref _ o)]=>if (ps.lookup p).isSome=true/\o=0 then some {v:=.bool false} else none
 | [.iface t x,.iface p (.ref nm o)]=>match σ nm with
  | some (.cells ty cs)=>if ps.lookup p=some t/\o=0/\cs.length=1/\AF x 1=true then some {v:=.bool true,upd:=some (nm,.cells ty x.cells)} else none
  | _=>none
 | _=>none
structure AsOK (P:Program) (g:FuncId) (ge:Nat) (et:Value) (ps:List (Nat×Nat)):Prop where
 enters:Cw P g
 none:∀ (v:Value) (w:World),Calls P g #[.nilIface,v] w fun e w'=>e=.returned (.bool false)/\w'=w
 hit:∀ p t,ps.lookup p=some t->∀ (v n:Value),v.cells=#[n]->n.oneCell'=true->∀ (a:Addr) (old:Value) (w:World),w.cell? ⟨ge,0,Option.none⟩=some et->w.cell? a=some old->w.frozen? a=false ->
  Calls P g #[.iface t v,.iface p (.pointer (some a))] w fun e w'=>e=.returned (.bool true)/\∃ o1 o2 o3 o4,w'=((((w.alloc o1).alloc o2).alloc o3).alloc o4).setCell a n
section at_
variable {P:Program} {mx:P.follows .mixedOrders=true} {gs:List Nat} {T:Nat} {et:List (Nat×Value)} {tabs:List (Nat×Array Value)} {ns:List Nat}
theorem as_at {g:FuncId} {ps:List (Nat×Nat)} {ge:Nat} {ev:Value} (hge:(ge,ev)∈et) (hA:AsOK P g ge ev ps) {st:St} {vs:List PV} {out:AK} (h:Ib ps (Ak st.objs) vs=some out):Kc (cxOf P mx gs T et tabs ns) g st vs out:=by
 refine⟨hA.enters,?_⟩;unfold Ib at h;split at h
 ·split at h
  ·rename_i hp;obtain⟨hp,rfl⟩:=hp;cases h;intro E w0 I0 F0 O0 Hd R e ds I F lp L tmv suf us w dst hs hf hu hd;obtain⟨u,v,rfl,h1,h2⟩:=GK hu;rw[Is h1];refine callsIn_wide.2 ((hA.none v w).mono ?_);rintro ev w' ⟨rfl,rfl⟩;exact HX hs hf (I6 _) (.bool false)
  ·cases h
 ·split at h
  ·rename_i t x p nm o _ ty cs hlk;split at h
   ·rename_i hp;obtain⟨hpp,rfl,hc1,hx1⟩:=hp;cases h;intro E w0 I0 F0 O0 Hd R e ds I F lp L tmv suf us w dst hs hf hu hd;obtain⟨u,v,rfl,h1,h2⟩:=GK hu;obtain⟨u',rfl,hx⟩:=LH h1;obtain⟨v',rfl,hr⟩:=LH h2;obtain⟨b,C,hL,rfl⟩:=FC hr;obtain⟨q,hq,hob⟩:=hs.ob nm _ hlk;rw[hL] at hq;cases hq;obtain⟨c,E',hb,hC,hone,hcs⟩:=hob;unfold AF at hx1;simp only[bB,beq_iff_eq] at hx1;obtain⟨hu1,hu2⟩:=hx.cells hx1.1
    have len1:u'.cells.size=1:=by
     have:=hu2.length;simpa[hx1.2] using this.symm
    have lenc:c.size=1:=by
     have:=hcs.length;simpa[hc1] using this.symm
    obtain⟨n,hn⟩:∃ n,u'.cells=#[n]:=Ya len1;obtain⟨old,rfl⟩:∃ n,c=#[n]:=Ya lenc;have hn1:n.oneCell'=true:=hu1 n (by simp[hn]);have hbl:b < w.heap.size:=(hf.lB nm b C hL).2.1;refine callsIn_wide.2 ((hA.hit p t hpp u' n hn hn1 ⟨b,0,none⟩ old w (hf.wd.et0 _ hge).2 (by simp[World.cell?,hb]) (by simp[World.frozen?,hb])).mono ?_);rintro ev w' ⟨rfl,o1,o2,o3,o4,hw'⟩
    have hother:∀ k,k < w.heap.size->k≠b->w'.heap[k]?=w.heap[k]?:=fun k hk hkb=>by
     subst hw';rw[Go.RowKit.Below.heap_setCell _ _ _ _ hkb,Eg _ _ (by simp;omega),Eg _ _ (by simp;omega),Eg _ _ (by simp;omega),Eg _ _ hk]
    have hself:w'.heap[b]?=some (.cells #[n] E' (0,0)):=by
     subst hw'
     suffices key:((((w.alloc o1).alloc o2).alloc o3).alloc o4).heap[b]?=some (.cells #[old] E' (0,0)) by
      have:=RG (o:=0) (n:=n) key;simpa using this
     rw[Eg _ _ (by simp;omega),Eg _ _ (by simp;omega),Eg _ _ (by simp;omega),Eg _ _ hbl];exact hb
    have hI:∀ k,I k->w'.heap[k]?=w.heap[k]?:=fun k hk=>hother k (hf.sep.iB k hk) fun e=>(hf.lB nm b C hL).2.2.1 (e ▸ hk);refine Tr hs hf hL (by subst hw';rfl) (by subst hw';rfl) (by subst hw';rfl) (by subst hw';rw[RF];simp;omega) hother ?_ (.bool true);exact⟨#[n],E',hself,hC,⟨fun v hv=>by simp at hv;subst hv;exact hn1,hone.2⟩,Aq.mono (fun _ h=>h) hI (fun _ _ h=>h) (by rw[hn] at hu2;exact hu2)⟩
   ·cases h
  ·cases h
 ·cases h
theorem as_here (ps:List (Nat×Nat)):JJ (Ib ps):=by
 intro σ σ' vs h;unfold Ib;split;·rfl
 ·rename_i t x p nm o;rw[h nm (EM _ _ nm (by simp[AQ,PV.names]))]
 ·rfl
def spIsG (gs:List Nat) (T:Nat) (S:List Nat):List PV->Option AK
 | [.nilI,.glob g t]=>if g∈gs/\t=T then some {v:=.bool false} else none
 | [.glob g t,.glob g' t']=>if g∈gs/\g'∈gs/\t=T/\t'=T then some {v:=.bool (g==g')} else none
 | [.iface s x,.glob g t]=>if g∈gs/\t=T/\s∈S/\okV x=true then some {v:=.bool false} else none
 | _=>none
structure IsOK (P:Program) (g:FuncId) (T:Nat) (S:List Nat):Prop where
 enters:Cw P g
 none:∀ (a:Addr) (w:World),Calls P g #[.nilIface,.iface T (.pointer (some a))] w fun e w'=>e=.returned (.bool false)/\w'=w
 same:∀ (a:Addr) (w:World),Calls P g #[.iface T (.pointer (some a)),.iface T (.pointer (some a))] w fun e w'=>e=.returned (.bool true)/\w'=w
 other:∀ (a b:Addr) (ca cb:Array Value) (ta tb:TypeId) (w:World),a≠b->w.heap[a.block]?=some (.cells ca ta (0,0))->w.heap[b.block]?=some (.cells cb tb (0,0)) ->
  Calls P g #[.iface T (.pointer (some a)),.iface T (.pointer (some b))] w fun e w'=>e=.returned (.bool false)/\w'=w
 type:∀ s∈S,∀ (v:Value) (b:Addr) (w:World),Calls P g #[.iface s v,.iface T (.pointer (some b))] w fun e w'=>e=.returned (.bool false)/\w'=w
theorem is_at {g:FuncId} {S:List Nat} (hA:IsOK P g T S) {st:St} {vs:List PV} {out:AK} (h:spIsG gs T S vs=some out):Kc (cxOf P mx gs T et tabs ns) g st vs out:=by
 refine⟨hA.enters,?_⟩;unfold spIsG at h;split at h
 ·split at h
  ·rename_i hp;obtain⟨hgg,rfl⟩:=hp;cases h;intro E w0 I0 F0 O0 Hd R e ds I F lp L tmv suf us w dst hs hf hu hd;obtain⟨u,v,rfl,h1,h2⟩:=GK hu;rw[Is h1];obtain⟨ad,e1,e2⟩:=hf.wd.err;obtain⟨x,c,E',fr,rfl,q1,q2⟩:=Pq h2;obtain⟨_,_,⟨_,_,a3⟩,_⟩:=e1 _ hgg;rw[a3] at q1;cases q1;cases q2;refine callsIn_wide.2 ((hA.none _ w).mono ?_);rintro ev w' ⟨rfl,rfl⟩;exact HX hs hf (I6 _) (.bool false)
  ·cases h
 ·rename_i g1 t1 g2 t2;split at h
  ·rename_i hp;obtain⟨hg1,hg2,rfl,rfl⟩:=hp;cases h;intro E w0 I0 F0 O0 Hd R e ds I F lp L tmv suf us w dst hs hf hu hd;obtain⟨u,v,rfl,h1,h2⟩:=GK hu;obtain⟨ad,e1,e2⟩:=hf.wd.err;obtain⟨x,c,E',fr,rfl,q1,q2⟩:=Pq h1;obtain⟨y,c',E'',fr',rfl,q1',q2'⟩:=Pq h2;obtain⟨_,_,⟨_,_,a3⟩,ca,ta,a4⟩:=e1 _ hg1;obtain⟨_,_,⟨_,_,b3⟩,cb,tb,b4⟩:=e1 _ hg2;rw[a3] at q1;cases q1;cases q2;rw[b3] at q1';cases q1';cases q2';by_cases hgg:g1=g2
   ·subst hgg;refine callsIn_wide.2 ((hA.same _ w).mono ?_);rintro ev w' ⟨rfl,rfl⟩;rw[beq_self_eq_true];exact HX hs hf (I6 _) (.bool true)
   ·refine callsIn_wide.2 ((hA.other _ _ ca cb ta tb w (e2 _ hg1 _ hg2 hgg) a4 b4).mono ?_);rintro ev w' ⟨rfl,rfl⟩;rw[beq_eq_false_iff_ne.2 hgg];exact HX hs hf (I6 _) (.bool false)
  ·cases h
 ·rename_i ss x g1 t1;split at h
  ·rename_i hp;obtain⟨hgg,rfl,hS,hx⟩:=hp;cases h;intro E w0 I0 F0 O0 Hd R e ds I F lp L tmv suf us w dst hs hf hu hd;obtain⟨u,v,rfl,h1,h2⟩:=GK hu;obtain⟨u',rfl,hx'⟩:=LH h1;obtain⟨ad,e1,e2⟩:=hf.wd.err;obtain⟨x,c,E',fr,rfl,q1,q2⟩:=Pq h2;obtain⟨_,_,⟨_,_,a3⟩,_⟩:=e1 _ hgg;rw[a3] at q1;cases q1;cases q2;refine callsIn_wide.2 ((hA.type _ hS u' _ w).mono ?_);rintro ev w' ⟨rfl,rfl⟩;exact HX hs hf (I6 _) (.bool false)
  ·cases h
 ·cases h
end at_
section any
variable {cx:Cx} {g:FuncId} {st:St} {vs:List PV} {out:AK}
def countB (c:UInt8):List UInt8->Nat
 | []=>0
 | x :: xs=>(if x=c then 1 else 0)+countB c xs
def Qc:List PV->Option AK
 | [.nilS,.int .i64 n]=>if 0<=n/\n<=1000000 then some {v:=.arr (0,0) 1 0 0,new:=[.arr 1 0 []]} else none
 | _=>none
theorem grow_at (he:Cw cx.P g) (hz:∀ w:World,Calls cx.P g #[.slice none 0 0,.int .i64 0] w fun e w'=>e=.returned (.slice none 0 0)/\w'=w)
  {T:TypeId} (hc:∀ (m:Nat) (w:World),0 < m->m<=1000000->Calls cx.P g #[.slice none 0 0,.int .i64 m] w fun e w'=>∃ (G:Nat) (row:Array Value),e=.returned (.slice (some ⟨w.heap.size,0,none⟩) 0 G)/\G<=row.size/\w'=w.drew.alloc (.cells row T))
  (h:Qc vs=some out):Kc cx g st vs out:=by
 refine⟨he,?_⟩;unfold Qc at h;split at h
 ·rename_i n;split at h
  ·rename_i hn;cases h;intro E w0 I0 F0 O0 Hd R e ds I F lp L tmv suf us w dst hs hf hu hd;obtain⟨u,v,rfl,h1,h2⟩:=GK hu;rw[F5 h1,DO h2];obtain⟨m,rfl⟩:∃ m:Nat,n=(m:Int):=⟨n.toNat,by omega⟩;have hv:(PV.arr (0,0) 1 0 0).ren (EC (dst.getD 0))=.arr (dst.getD 0,0) 1 0 0:=rfl;by_cases hm:m=0
   ·subst hm;refine callsIn_wide.2 ((hz w).mono ?_);rintro ev w' ⟨rfl,rfl⟩;simp only[hv];exact sp_new hs hf hd (I6 _) (p:=none) (fun b C h=>by cases h) (fun L'=>⟨1,0,rfl⟩) (fun L' nm h=>.arrN nm 1 h)
   ·refine callsIn_wide.2 ((hc m w (by omega) (by omega)).mono ?_);rintro ev w' ⟨G,row,rfl,hG,rfl⟩;simp only[hv];have hle:K7 w (w.drew.alloc (.cells row T)):=⟨rfl,rfl,rfl,by simp,fun b hb=>Eg w.drew _ hb⟩
    refine sp_new hs hf hd hle (p:=some (w.heap.size,row.size)) (fun b C h=>by cases h;exact⟨bF _,by simp⟩)
     (fun L'=>⟨row,T,IX w.drew _,rfl,⟨by simp,.inl rfl⟩,by simp,by simp[Bn],by simp;exact .nil⟩) (fun L' nm h=>?_)
    have:=Au.arr (w:=w.drew.alloc (.cells row T)) (I:=I) (lp:=lp) (L:=L') nm 1 0 0 G w.heap.size row.size h (by simpa using hG) (de _);simpa using this
  ·cases h
 ·cases h
def NO (T:Nat) (σ:Nm->Option Ob):List PV->Option AK
 | [.ref n 0]=>match σ n with
  | some (.cells t [.nilP,x])=>if t=T then some {v:=.tup [],upd:=some (n,.cells T [.ref n 0,x])} else none
  | some (.cells t [.ref n' 0,_])=>if t=T/\n'=n then some {v:=.tup []} else none
  | _=>none
 | _=>none
def OA (T U:Nat) (σ:Nm->Option Ob):List PV->Option AK
 | [.ref n 0]=>match σ n with
  | some (.cells t [_,.nilS])=>if t=T then some {v:=.str []} else none
  | some (.cells t [_,.arr n' 1 0 k])=>match σ n' with
   | some (.arr 1 u xs)=>match GA (xs.take k) with
    | some s=>if t=T/\u=U/\n'≠n/\0 < k/\k<=xs.length/\k<=Ff then some {v:=.str s,upd:=some (n',Bz),kill:=some n'} else none
    | none=>none
   | _=>none
  | _=>none
 | _=>none
theorem bp (T:Nat):JJ (NO T):=by
 intro σ σ' vs h;unfold NO;split
 ·rename_i n;rw[h n (EM _ _ n (by simp[AQ,PV.names]))]
 ·rfl
theorem str_here (T U:Nat):JJ (OA T U):=by
 intro σ σ' vs h;unfold OA;split
 ·rename_i n;rw[<-h n (EM _ _ n (by simp[AQ,PV.names]))]
  have h2:∀ t a n' k,σ n=some (.cells t [a,.arr n' 1 0 k])->σ n'=σ' n':=by
   intro t a n' k he;refine h n' ?_;show n'∈A8 σ 3 [n];unfold A8;refine b7 _ (EM _ _ n' ?_);simp[he,Ob.names,AQ,PV.names]
  generalize hx:σ n=o at *;split;·rfl
  ·rename_i t a n' k;rw[h2 t a n' k rfl]
  ·rfl
 ·rfl
theorem Vb {w:World} {I:Nat->Prop} {lp:Nat->Option Nat} {L:Option AB}:∀ (xs:List PV) (vs:List Value) (s:List UInt8),Aq w I lp L xs vs->GA xs=some s->∀ (j:Nat) (x:UInt8),s[j]?=some x->vs[j]?=some (.int .u8 (x.toNat:Int))
 | [],_,s,_,h,j,x,hj=>by cases h;simp at hj
 | p :: xs,_,s,h,hb,j,x,hj=>by
  cases h with
  | cons _ v _ vs hv hs =>
   simp only[GA] at hb;split at hb
   ·rename_i b bs h1 h2;cases hb
    have hp:v=.int .u8 (b.toNat:Int):=by
     unfold Oy at h1;split at h1
     ·rename_i n;split at h1
      ·rename_i hn;cases h1;rw[DO hv];congr 1;simp;omega
      ·cases h1
     ·cases h1
    cases j with
    | zero=>simp at hj;subst hj;simp[hp]
    | succ j=>simp at hj |-;exact Vb xs vs bs hs h2 j x hj
   ·cases hb
theorem UZ:∀ (xs:List PV) (s:List UInt8),GA xs=some s->s.length=xs.length
 | [],s,h=>by cases h;rfl
 | p :: xs,s,h=>by
  simp only[GA] at h;split at h
  ·rename_i b bs h1 h2;cases h;simp[UZ xs bs h2]
  ·cases h
theorem VC:∀ (xs:List PV) (s:List UInt8),GA xs=some s->cellsL xs=xs
 | [],_,_=>rfl
 | p :: xs,s,h=>by
  simp only[GA] at h;split at h
  ·rename_i b bs h1 h2
   have hp:p.cells=[p]:=by
    unfold Oy at h1;split at h1;·rfl
    ·cases h1
   simp[cellsL,hp,VC xs bs h2]
  ·cases h
theorem Qa {c:Array Value} {a b:Value} (h:c.toList=[a,b]):c=#[a,b]:=by
 apply Array.toList_inj.1;simpa using h
theorem YH {W:World} {a:Addr} {n k:Nat} (h:k≠a.block):(W.freeze a n).heap[k]?=W.heap[k]?:=by
 unfold World.freeze;split;·rfl
 ·simp[Array.getElem?_modify,cn h]
theorem repL4 {w:World} {I:Nat->Prop} {lp:Nat->Option Nat} {L:Option AB} {a b c d:PV} {us:List Value} (h:Aq w I lp L [a,b,c,d] us):∃ u v x y,us=[u,v,x,y]/\Au w I lp L a u/\Au w I lp L b v/\Au w I lp L c x/\Au w I lp L d y:=by
 obtain⟨u,r,h1,rfl,h2⟩:∃ u r,Au w I lp L a u/\us=u :: r/\Aq w I lp L [b,c,d] r:=by
  cases h;exact⟨_,_,by assumption,rfl,by assumption⟩
 obtain⟨v,r,h3,rfl,h4⟩:∃ u q,Au w I lp L b u/\r=u :: q/\Aq w I lp L [c,d] q:=by
  cases h2;exact⟨_,_,by assumption,rfl,by assumption⟩
 obtain⟨x,y,rfl,h5,h6⟩:=GK h4;exact⟨u,v,x,y,rfl,h1,h3,h5,h6⟩
structure BldOK (P:Program) (gc gs:FuncId) (T U:Nat):Prop where
 entersC:Cw P gc
 entersS:Cw P gs
 nzT:T≠0
 nzU:U≠0
 used:∀ (b:Nat) (w:World),w.cell? ⟨b,0,none⟩=some (.pointer (some ⟨b,0,none⟩))->Calls P gc #[.pointer (some ⟨b,0,none⟩)] w fun e w'=>e=.returned (.tuple #[])/\w'=w
 fresh:∀ (b:Nat) (w:World),w.cell? ⟨b,0,none⟩=some (.pointer none)->w.shape? b=some (T,2)->w.frozen? ⟨b,0,none⟩=false ->
  Calls P gc #[.pointer (some ⟨b,0,none⟩)] w fun e w'=>e=.returned (.tuple #[])/\w'=w.setCell ⟨b,0,none⟩ (.pointer (some ⟨b,0,none⟩))
 strNil:∀ (b:Nat) (p:Value) (w:World),w.heap[b]?=some (.cells #[p,.slice none 0 0] T (0,0))->Calls P gs #[.pointer (some ⟨b,0,none⟩)] w fun e w'=>e=.returned (.string ⟨#[]⟩)/\w'=w.drew
 strSome:∀ (b g cap:Nat) (p:Value) (cur:Array Value) (l:List UInt8) (w:World),w.heap[b]?=some (.cells #[p,.slice (some ⟨g,0,none⟩) l.length cap] T (0,0))->w.heap[g]?=some (.cells cur U (0,0))->l≠[]->l.length<=cap->l.length<=cur.size ->
  l.length<=9223372036854775807->(∀ (j:Nat) (x:UInt8),l[j]?=some x->cur[j]?=some (Value.int .u8 (x.toNat:Int))) ->
  Calls P gs #[.pointer (some ⟨b,0,none⟩)] w fun e w'=>e=.returned (.string ⟨l.toArray⟩)/\w'=w.drew.freeze ⟨g,0,none⟩ l.length
theorem check_at {gs:FuncId} {T U:Nat} (hB:BldOK cx.P g gs T U) (h:NO T (Ak st.objs) vs=some out):Kc cx g st vs out:=by
 refine⟨hB.entersC,?_⟩;unfold NO at h;split at h
 ·rename_i n;split at h
  ·rename_i t x hlk;split at h
   case isFalse=>cases h
   rename_i ht;subst ht;cases h;intro E w0 I0 F0 O0 Hd R e ds I F lp L tmv suf us w dst hs hf hu hd;obtain⟨u,rfl,hr⟩:=K9 hu;obtain⟨b,C,hL,rfl⟩:=FC hr;obtain⟨q,hq,hob⟩:=hs.ob n _ hlk;rw[hL] at hq;cases hq;obtain⟨c,E',hb,hC,hone,hcs⟩:=hob;obtain⟨v0,v1,hc,r0,r1⟩:=GK hcs;have hc:=Qa hc;subst hc;obtain rfl:E'=t:=hone.2.resolve_left hB.nzT;rw[Ku r0] at hb;refine callsIn_wide.2 ((hB.fresh b w (by simp[World.cell?,hb]) (by simp[World.shape?,hb]) (by simp[World.frozen?,hb])).mono ?_);rintro ev w' ⟨rfl,rfl⟩;have hself:=RG (o:=0) (n:=.pointer (some ⟨b,0,none⟩)) hb;have hI:∀ k,I k->(w.setCell ⟨b,0,none⟩ (.pointer (some ⟨b,0,none⟩))).heap[k]?=w.heap[k]?:=fun k hk=>Go.RowKit.Below.heap_setCell _ _ _ _ fun (e:k=b)=>(hf.lB n b C hL).2.2.1 (e ▸ hk);refine Tr (w':=w.setCell ⟨b,0,none⟩ (.pointer (some ⟨b,0,none⟩))) hs hf hL rfl rfl rfl (by rw[RF];exact bF _) (fun k _ hk=>Go.RowKit.Below.heap_setCell _ _ _ _ hk) ?_ (.tup [] #[] .nil);refine⟨_,E',hself,by simpa using hC,⟨?_,.inr rfl⟩,?_⟩
   ·intro v hv;simp at hv;rcases hv with rfl | rfl;·rfl
    ·exact hone.1 _ (by simp)
   ·simp;exact .cons _ _ _ _ (.ref n 0 b C hL) (.cons _ _ _ _ (Au.mono (fun _ h=>h) hI (fun _ _ h=>h) r1) .nil)
  ·rename_i t n' x hlk;split at h
   ·rename_i hn;obtain⟨rfl,rfl⟩:=hn;cases h;intro E w0 I0 F0 O0 Hd R e ds I F lp L tmv suf us w dst hs hf hu hd;obtain⟨u,rfl,hr⟩:=K9 hu;obtain⟨b,C,hL,rfl⟩:=FC hr;obtain⟨q,hq,hob⟩:=hs.ob _ _ hlk;rw[hL] at hq;cases hq;obtain⟨c,E',hb,hC,hone,hcs⟩:=hob;obtain⟨v0,v1,hc,r0,r1⟩:=GK hcs;have hc:=Qa hc;subst hc;obtain⟨b',C',hL',rfl⟩:=FC r0;rw[hL] at hL';cases hL';refine callsIn_wide.2 ((hB.used b w (by simp[World.cell?,hb])).mono ?_);rintro ev w' ⟨rfl,rfl⟩;exact HX hs hf (I6 _) (.tup [] #[] .nil)
   ·cases h
  ·cases h
 ·cases h
theorem str_at {gc:FuncId} {T U:Nat} (hB:BldOK cx.P gc g T U) (h:OA T U (Ak st.objs) vs=some out):Kc cx g st vs out:=by
 refine⟨hB.entersS,?_⟩;unfold OA at h;split at h
 ·rename_i n;split at h
  ·rename_i t x hlk;split at h
   case isFalse=>cases h
   rename_i ht;subst ht;cases h;intro E w0 I0 F0 O0 Hd R e ds I F lp L tmv suf us w dst hs hf hu hd;obtain⟨u,rfl,hr⟩:=K9 hu;obtain⟨b,C,hL,rfl⟩:=FC hr;obtain⟨q,hq,hob⟩:=hs.ob _ _ hlk;rw[hL] at hq;cases hq;obtain⟨c,E',hb,hC,hone,hcs⟩:=hob;obtain⟨v0,v1,hc,r0,r1⟩:=GK hcs;have hc:=Qa hc;subst hc;obtain rfl:E'=t:=hone.2.resolve_left hB.nzT;rw[F5 r1] at hb;refine callsIn_wide.2 ((hB.strNil b v0 w hb).mono ?_);rintro ev w' ⟨rfl,rfl⟩;exact HX (w':=w.drew) hs hf ⟨rfl,rfl,rfl,bF _,fun _ _=>rfl⟩ (.str [])
  ·rename_i t x n' k hlk;split at h
   ·rename_i u' xs hlk';split at h
    ·rename_i s hs';split at h
     ·rename_i hc0;obtain⟨rfl,rfl,hnn,hk0,hkl,hkm⟩:=hc0;cases h;intro E w0 I0 F0 O0 Hd R e ds I F lp L tmv suf us w dst hs hf hu hd;obtain⟨u,rfl,hr⟩:=K9 hu;obtain⟨b,C,hL,rfl⟩:=FC hr;obtain⟨q,hq,hob⟩:=hs.ob _ _ hlk;rw[hL] at hq;cases hq;obtain⟨c,E',hb,hC,hone,hcs⟩:=hob;obtain⟨v0,v1,hc,r0,r1⟩:=GK hcs;have hc:=Qa hc;subst hc;obtain rfl:E'=t:=hone.2.resolve_left hB.nzT;obtain⟨q',hq',hob'⟩:=hs.ob _ _ hlk';rcases Jp r1 with ⟨g,C',cap,hL',rfl,hC',hn⟩ | ⟨_,_,_,h0⟩
      ·rw[hL'] at hq';cases hq';obtain⟨cur,E2,hg,hCg,hle,hkx,hone2,hrep⟩:=hob';obtain rfl:E2=u':=hle.2.resolve_left hB.nzU;have hlen:=UZ _ _ hs';rw[cR,cq hkl] at hlen
       have hrk:Aq w I lp none (xs.take k) (cur.toList.take k):=by
        have h1:=hrep.take k;rw[show k=k*1 by omega,<-I7 hkx,VC _ _ hs',cz,cq (by omega)] at h1;simpa using h1
       have hbytes:=Vb _ _ _ hrk hs';have hcur:k<=cur.size:=by have:=hle.1;omega
       subst hlen;refine callsIn_wide.2 ((hB.strSome b g cap v0 cur s w (by simpa using hb) hg (by intro e;subst e;simp at hk0) hn hcur ?_ ?_).mono ?_);·unfold Ff at hkm;omega
       ·intro j x hx;have hj:j < s.length:=(bL.1 hx).1;have h1:=hbytes j x hx;rw[dV hj] at h1;simpa using h1
       ·rintro ev w' ⟨rfl,rfl⟩
        have hfz:∀ (W:World) (a:Addr) (n:Nat),(W.freeze a n).os=W.os/\(W.freeze a n).tape=W.tape/\(W.freeze a n).output=W.output/\(W.freeze a n).heap.size=W.heap.size:=fun W a n=>by
         unfold World.freeze;split<;>simp
        obtain⟨f1,f2,f3,f4⟩:=hfz w.drew ⟨g,0,none⟩ s.length;refine sp_gone (w':=w.drew.freeze ⟨g,0,none⟩ s.length) hs hf hL' f1 f2 f3 (Nat.le_of_eq f4.symm) (fun k' hk' hne=>?_) (fun L'=>.str s);rw[YH (fun e=>hne C' (by rw[e]))];rfl
      ·omega
     ·cases h
    ·cases h
   ·cases h
  ·cases h
 ·cases h
end any
def digs:Nat->Nat->List UInt8
 | 0,_=>[]
 | k+1,u=>if u < 10 then [UInt8.ofNat (48+u)] else digs k (u / 10)++[UInt8.ofNat (48+u%10)]
def itoaF (n:Int):List UInt8:=if n < 0 then 45 :: digs 20 n.natAbs else digs 20 n.toNat
theorem TG:∀ (k u:Nat),u < 10 ^ k->0 < k->digs k u=Lib.decDigits u
 | 0,_,_,h=>absurd h (Nat.lt_irrefl _)
 | k+1,u,h,_=>by
  unfold digs;rw[Lib.decDigits];by_cases hu:u < 10
  ·rw[if_pos hu,dif_pos hu]
  ·rw[if_neg hu,dif_neg hu]
   have h1:0 < k:=by
    rcases eD k with rfl | hk;·exact absurd (by simpa using h) hu
    ·exact hk
   have h2:u / 10 < 10 ^ k:=by
    refine Nat.div_lt_of_lt_mul ?_;rw[Nat.pow_succ,Nat.mul_comm] at h;exact h
   rw[TG k (u / 10) h2 h1]
theorem itoa_eq (n:Int) (h0 : -9223372036854775808<=n) (h1:n<=9223372036854775807):itoaF n=Lib.itoa n:=by
 unfold itoaF Lib.itoa;have hp:(18446744073709551616:Nat)<=10 ^ 20:=by decide
 rw[TG 20 n.natAbs (by omega) (by decide),TG 20 n.toNat (by omega) (by decide)]
def spFmt:List PV->Option AK
 | [.int .i64 n,.int .i64 10]=>if -9223372036854775808<=n/\n<=9223372036854775807 then some {v:=.str (itoaF n)} else none
 | _=>none
def TM:List PV->Option AK
 | [.str s,.str old,.str new,.int .i64 n]=>if s.length<=65536/\new.length<=65536/\1<=old.length then some {v:=.str (Lib.replace s old new n)} else none
 | _=>none
section at2
variable {P:Program} {mx:P.follows .mixedOrders=true} {gs:List Nat} {T:Nat} {et:List (Nat×Value)} {tabs:List (Nat×Array Value)} {ns:List Nat} {g:FuncId} {st:St} {vs:List PV} {out:AK}
theorem fmt_at (he:Cw P g) {gt:Nat} (ht:(gt,(Lib.pow10Tab.map fun z=>Value.int .u64 z).toArray)∈tabs) (hn:P.globalNamed "internal/strconv.uint64pow10"=some gt)
  (hc:∀ (n:Int), -9223372036854775808<=n->n<=9223372036854775807->∀ w:World,Lib.TabIs P w "internal/strconv.uint64pow10" .u64 Lib.pow10Tab->Calls P g #[.int .i64 n,.int .i64 10] w fun e w'=>e=.returned (.string ⟨(Lib.itoa n).toArray⟩)/\∃ k os,w'=Sort.grow (w.drewN k) os)
  (h:spFmt vs=some out):Kc (cxOf P mx gs T et tabs ns) g st vs out:=by
 refine⟨he,?_⟩;unfold spFmt at h;split at h
 ·rename_i n;split at h
  ·rename_i hr;cases h;intro E w0 I0 F0 O0 Hd R e ds I F lp L tmv suf us w dst hs hf hu hd;obtain⟨u,v,rfl,h1,h2⟩:=GK hu;rw[DO h1,DO h2];obtain⟨_,E',fr,hp⟩:=hf.wd.tab _ ht
   have ht:Lib.TabIs P w "internal/strconv.uint64pow10" .u64 Lib.pow10Tab:=by
    unfold Lib.TabIs World.var?;rw[hn];simp only[eo,hp]
   refine callsIn_wide.2 ((hc n hr.1 hr.2 w ht).mono ?_);rintro ev w' ⟨rfl,k,os,rfl⟩;rw[itoa_eq n hr.1 hr.2];exact HX hs hf (Uq (Lib.below_grow _ w (bF _) k os)) (.str _)
  ·cases h
 ·cases h
theorem repl_at (he:Cw P g) {gm:Nat} (hg:gm∈ns)
  (hc:∀ (s old new:ByteArray) (n m:Int) (w:World),s.size < 4294967281->w.cell? ⟨gm,0,none⟩=some (.int .i64 m)->1<=old.size->s.size+Lib.countB s old*new.size<=140737488355328 ->
   Calls P g #[.string s,.string old,.string new,.int .i64 n] w fun e w'=>e=.returned (.string ⟨(Lib.replace s.data.toList old.data.toList new.data.toList n).toArray⟩)/\Go.RowKit.Below w.heap.size w w')
  (h:TM vs=some out):Kc (cxOf P mx gs T et tabs ns) g st vs out:=by
 refine⟨he,?_⟩;unfold TM at h;split at h
 ·rename_i s old new n;split at h
  ·rename_i hr;obtain⟨l1,l2,l3⟩:=hr;cases h;intro E w0 I0 F0 O0 Hd R e ds I F lp L tmv suf us w dst hs hf hu hd;obtain⟨u1,u2,u3,u4,rfl,h1,h2,h3,h4⟩:=repL4 hu;rw[EQ h1,EQ h2,EQ h3,DO h4];obtain⟨_,m,hm⟩:=hf.wd.num _ hg;have hcl:=Lib.count_le s old
   refine callsIn_wide.2 ((hc ⟨s.toArray⟩ ⟨old.toArray⟩ ⟨new.toArray⟩ n m w (by show s.toArray.size < _;simp;omega) hm (by show 1<=old.toArray.size;simp;omega) (by
    show s.toArray.size+Lib.count s.toArray.toList old.toArray.toList*new.toArray.size<=_;simp only[eh];have:Lib.count s old*new.length<=65537*65536:=Nat.mul_le_mul (by omega) l2;omega)).mono ?_)
   rintro ev w' ⟨rfl,hw⟩;exact HX hs hf (Uq hw) (.str _)
  ·cases h
 ·cases h
end at2
theorem cfg_loc {sp:FuncId->(Nm->Option Ob)->List PV->Option AK} (h:∀ g,JJ (sp g)) (g:FuncId) (σ:Nm->Option Ob) (vs:List PV) (hv:Ao vs=true):sp g σ vs=sp g (fun _=>none) vs:=by
 refine h g σ _ vs fun nm hm=>?_;rw[(CL hv).1] at hm;have:A8 σ AU []=[]:=by simp[A8,AU]
 rw[this] at hm;cases hm
theorem Qw {ps:List (Nat×Nat)} {p t:Nat} (hp:ps.lookup p=some t) {σ:Nm->Option Ob} {nm:Nm} {ty:Nat} {cs:List PV} (h1:σ nm=some (.cells ty cs)) (h2:cs.length=1) :
  Ib ps σ [.nilI,.iface p (.ref nm 0)]=some {v:=.bool false}/\∀ x,AF x 1=true->Ib ps σ [.iface t x,.iface p (.ref nm 0)]=some {v:=.bool true,upd:=some (nm,.cells ty x.cells)}:=by
 refine⟨by simp[Ib,hp],fun x hx=>?_⟩;unfold Ib;simp only[h1,hp,h2,hx,and_self,if_true]
end Go.Ab


namespace Go.Ab
open Go
def KL (k:IntKind) (σ:Nm->Option Ob):List PV->Option AK
 | [.ref n o]=>match σ n with
  | some (.cells _ cs)=>match cs[o]? with
   | some (.int k' y)=>if k'=k then some {v:=.int k y} else none
   | _=>none
  | _=>none
 | _=>none
def Ky (k:IntKind) (σ:Nm->Option Ob):List PV->Option AK
 | [.ref n o,.int k1 y]=>match σ n with
  | some (.cells ty cs)=>match cs[o]? with
   | some (.int k' _)=>if k'=k/\k1=k then some {v:=.tup [],upd:=some (n,.cells ty (cs.set o (.int k y)))} else none
   | _=>none
  | _=>none
 | _=>none
def Ju (k:IntKind) (x y:Int) (σ:Nm->Option Ob):List PV->Option AK
 | [.ref n o]=>match σ n with
  | some (.cells ty cs)=>match cs[o]? with
   | some (.int k' z)=>if k'=k/\z=x then some {v:=.tup [],upd:=some (n,.cells ty (cs.set o (.int k y)))} else none
   | _=>none
  | _=>none
 | _=>none
theorem load_here (k:IntKind):JJ (KL k):=by
 intro σ σ' vs h;unfold KL;split
 ·rename_i n o;rw[h n (EM _ _ n (by simp[AQ,PV.names]))]
 ·rfl
theorem ZG (k:IntKind):JJ (Ky k):=by
 intro σ σ' vs h;unfold Ky;split
 ·rename_i n o k1 y;rw[h n (EM _ _ n (by simp[AQ,PV.names]))]
 ·rfl
theorem VN (k:IntKind) (x y:Int):JJ (Ju k x y):=by
 intro σ σ' vs h;unfold Ju;split
 ·rename_i n o;rw[h n (EM _ _ n (by simp[AQ,PV.names]))]
 ·rfl
section
variable {cx:Cx} {E:Type} {w0:World} {I0 F0:Nat->Prop} {O0:BZ} {Hd:Nat->Option Obj} {R:BR E} {e:E} {ds:List Deferred} {I F:Nat->Prop} {lp:Nat->Option Nat} {L:AB} {tmv suf:List Value} {st:St} {w:World} {dst:Option Nat}
theorem Tk (hs:SR lp I L st tmv suf w) {nm:Nm} {ty:Nat} {cs:List PV} {o:Nat} {k:IntKind} {y0:Int} {u:Value} (hlk:Ak st.objs nm=some (.cells ty cs)) (hr:Au w I lp (some L) (.ref nm o) u) (h0:cs[o]?=some (.int k y0)) :
  ∃ b C,L nm=some (some (b,C))/\u=.pointer (some ⟨b,o,none⟩)/\w.cell? ⟨b,o,none⟩=some (.int k y0)/\w.frozen? ⟨b,o,none⟩=false:=by
 obtain⟨b,C,hL,rfl⟩:=FC hr;obtain⟨q,hq,hob⟩:=hs.ob nm _ hlk;rw[hL] at hq;cases hq;obtain⟨c,E',hb,hC,hone,hcs⟩:=hob;obtain⟨v,hv,hrv⟩:=hcs.get h0;rw[DO hrv] at hv;refine⟨b,C,hL,rfl,?_,by simp[World.frozen?,hb]⟩;rw[dM] at hv;simp[World.cell?,hb,hv]
theorem WD (hs:SR lp I L st tmv suf w) (hf:Fr cx w0 I0 F0 O0 Hd R e ds I F L w) {nm:Nm} {ty:Nat} {cs:List PV} {o:Nat} {k:IntKind} {b C:Nat} (hlk:Ak st.objs nm=some (.cells ty cs)) (hL:L nm=some (some (b,C))) (y:Int) :
  ∃ I' L',SR lp I' L' (apply st dst {v:=.tup [],upd:=some (nm,.cells ty (cs.set o (.int k y)))}) (Fy tmv dst (.tuple #[])) suf (w.setCell ⟨b,o,none⟩ (.int k y))/\Fr cx w0 I0 F0 O0 Hd R e ds I' F L' (w.setCell ⟨b,o,none⟩ (.int k y)):=by
 obtain⟨q,hq,hob⟩:=hs.ob nm _ hlk;rw[hL] at hq;cases hq;obtain⟨c,E',hb,hC,hone,hcs⟩:=hob;have hself:=RG (o:=o) (n:=.int k y) hb;have hI:∀ j,I j->(w.setCell ⟨b,o,none⟩ (.int k y)).heap[j]?=w.heap[j]?:=fun j hj=>Go.RowKit.Below.heap_setCell _ _ _ _ fun (e:j=b)=>(hf.lB nm b C hL).2.2.1 (e ▸ hj);refine Tr (w':=w.setCell ⟨b,o,none⟩ (.int k y)) hs hf hL rfl rfl rfl (by rw[RF];exact bF _) (fun j _ hj=>Go.RowKit.Below.heap_setCell _ _ _ _ hj) ?_ (.tup [] #[] .nil);refine⟨_,E',hself,by simpa using hC,⟨?_,hone.2⟩,?_⟩
 ·intro v hv;rw[e8] at hv;rcases dW hv with hv | rfl;·exact hone.1 v hv
  ·rfl
 ·rw[e8];exact Aq.mono (fun _ h=>h) hI (fun _ _ h=>h) (hcs.set o (.int k y))
end
section at_
variable {cx:Cx} {g:FuncId} {st:St} {vs:List PV} {out:AK} {k:IntKind}
theorem load_ret (hg:∀ (a:Addr) (y:Int) (w:World),w.cell? a=some (.int k y)->(callFunc g #[.pointer (some a)]).run cx.P w=.ok (.value (.int k y)) w) (h:KL k (Ak st.objs) vs=some out):SpRet cx g st vs out:=by
 unfold KL at h;split at h
 case h_2=>cases h
 split at h
 case h_2=>cases h
 rename_i ty cs hlk;split at h
 case h_2=>cases h
 rename_i k' y h0;split at h
 case isFalse=>cases h
 rename_i hk;subst hk;cases h;intro E w0 I0 F0 O0 Hd R e ds I F lp L tmv suf us w dst hs hf hu hd;obtain⟨u,rfl,hr⟩:=K9 hu;obtain⟨b,C,hL,rfl,h1,h2⟩:=Tk hs hlk hr h0;exact⟨_,w,hg _ _ w h1,HX hs hf (I6 w) (.int _ _)⟩
theorem store_ret (hg:∀ (a:Addr) (y0 y:Int) (w:World),w.cell? a=some (.int k y0)->w.frozen? a=false->(callFunc g #[.pointer (some a),.int k y]).run cx.P w=.ok (.value (.tuple #[])) (w.setCell a (.int k y))) (h:Ky k (Ak st.objs) vs=some out):SpRet cx g st vs out:=by
 unfold Ky at h;split at h
 case h_2=>cases h
 split at h
 case h_2=>cases h
 rename_i ty cs hlk;split at h
 case h_2=>cases h
 rename_i k' y0 h0;split at h
 case isFalse=>cases h
 rename_i hk;obtain⟨rfl,rfl⟩:=hk;cases h;intro E w0 I0 F0 O0 Hd R e ds I F lp L tmv suf us w dst hs hf hu hd;obtain⟨u,v,rfl,hr,hv⟩:=GK hu;obtain⟨b,C,hL,rfl,h1,h2⟩:=Tk hs hlk hr h0;rw[DO hv];exact⟨_,_,hg _ _ _ w h1 h2,WD hs hf hlk hL _⟩
theorem Xv {x y:Int} (he:Cw cx.P g) (hg:∀ (a:Addr) (w:World),w.cell? a=some (.int k x)->w.frozen? a=false->Calls cx.P g #[.pointer (some a)] w fun e w'=>e=.returned (.tuple #[])/\w'=w.setCell a (.int k y)) (h:Ju k x y (Ak st.objs) vs=some out):Kc cx g st vs out:=by
 refine⟨he,?_⟩;unfold Ju at h;split at h
 case h_2=>cases h
 split at h
 case h_2=>cases h
 rename_i ty cs hlk;split at h
 case h_2=>cases h
 rename_i k' z h0;split at h
 case isFalse=>cases h
 rename_i hk;obtain⟨rfl,rfl⟩:=hk;cases h;intro E w0 I0 F0 O0 Hd R e ds I F lp L tmv suf us w dst hs hf hu hd;obtain⟨u,rfl,hr⟩:=K9 hu;obtain⟨b,C,hL,rfl,h1,h2⟩:=Tk hs hlk hr h0;refine callsIn_wide.2 ((hg _ w h1 h2).mono ?_);rintro ev w' ⟨rfl,rfl⟩;exact WD hs hf hlk hL _
end at_
def kLoad (k:IntKind) (σ:Nm->Option Aj):List KV->Option (Bool×Aw)
 | [.ref n o]=>match σ n with
  | some (.cells _ cs)=>match cs[o]? with
   | some (.cv v)=>some (IA k v,{v:=.cv v})
   | _=>none
  | _=>none
 | _=>none
def Uf (k:IntKind) (σ:Nm->Option Aj):List KV->Option (Bool×Aw)
 | [.ref n o,.cv u]=>match σ n with
  | some (.cells ty cs)=>match cs[o]? with
   | some (.cv v)=>some (BG (IA k v) (IA k u),{v:=.tup [],upd:=some (n,.cells ty (cs.set o (.cv u)))})
   | _=>none
  | _=>none
 | _=>none
def QN (k:IntKind) (x y:Int) (σ:Nm->Option Aj):List KV->Option (Bool×Aw)
 | [.ref n o]=>match σ n with
  | some (.cells ty cs)=>match cs[o]? with
   | some (.cv v)=>some (Oq k x v,{v:=.tup [],upd:=some (n,.cells ty (cs.set o (.cv (.int k y))))})
   | _=>none
  | _=>none
 | _=>none
theorem RW {k:IntKind} {v:PV} (h:IA k v=true):∃ y,v=.int k y:=by
 unfold IA at h;split at h;·rename_i k' y;exact⟨y,by rw[of_decide_eq_true h]⟩
 ·cases h
theorem Zm {k:IntKind} {x:Int} {v:PV} (h:Oq k x v=true):v=.int k x:=by
 unfold Oq at h;split at h;·simp only[bB,decide_eq_true_eq] at h;rw[h.1,h.2]
 ·cases h
theorem XB (cs:List KV) (o:Nat) (x:KV):AJ (cs.set o x)=(AJ cs).set o x.pv:=by
 rw[D7,D7,dD]
section k_
variable {σ:Nm->Option Aj} {xs:List KV} {out:Aw} {k:IntKind}
theorem Ts {cs:List KV} {o:Nat} {x:KV} (h:cs[o]?=some x):(AJ cs)[o]?=some x.pv:=by
 rw[D7,bK,h];rfl
theorem kLoad_ok (h:kLoad k σ xs=some (true,out)):out.Ok/\KL k (fun nm=>(σ nm).map Aj.ob) (AJ xs)=some out.out/\∀ f,out.out.v.ren f=out.out.v:=by
 unfold kLoad at h;split at h
 case h_2=>cases h
 split at h
 case h_2=>cases h
 rename_i n o _ ty cs hn;split at h
 case h_2=>cases h
 rename_i v h0;simp only[bG,ch] at h;obtain⟨hv,rfl⟩:=h;obtain⟨y,rfl⟩:=RW hv;refine⟨Aw.plain (v:=.cv (.int _ y)) rfl,?_,fun _=>rfl⟩;simp only[AJ,KV.pv,KL,hn,bU,Aj.ob,Ts h0,if_true];rfl
theorem upd_ok {cs:List KV} {n:Nm} {ty o:Nat} {u:PV} (hu:okV u=true) (h:A4 cs):({v:=.tup [],upd:=some (n,.cells ty (cs.set o (.cv u)))}:Aw).Ok :=
 ⟨trivial,by simp,fun nm ob he=>by
  cases he;show A4 _;refine CO.2 fun x hx=>?_;rcases dW hx with hx | rfl;·exact CO.1 h x hx
  ·exact hu,by simp⟩
theorem kStore_ok (hσ:∀ nm o,σ nm=some o->o.ok) (h:Uf k σ xs=some (true,out)):out.Ok/\Ky k (fun nm=>(σ nm).map Aj.ob) (AJ xs)=some out.out/\∀ f,out.out.v.ren f=out.out.v:=by
 unfold Uf at h;split at h
 case h_2=>cases h
 split at h
 case h_2=>cases h
 rename_i n o u _ ty cs hn;split at h
 case h_2=>cases h
 rename_i v h0;simp only[bG,ch] at h;obtain⟨hv,rfl⟩:=h;unfold BG at hv;simp only[bB] at hv;obtain⟨y0,rfl⟩:=RW hv.1;obtain⟨y,rfl⟩:=RW hv.2;refine⟨upd_ok rfl (hσ _ _ hn),?_,fun _=>rfl⟩;simp only[AJ,KV.pv,Ky,hn,bU,Aj.ob,Ts h0,and_self,if_true,Aw.out,XB,dE,bC]
theorem W1 {x y:Int} (hσ:∀ nm o,σ nm=some o->o.ok) (h:QN k x y σ xs=some (true,out)):out.Ok/\Ju k x y (fun nm=>(σ nm).map Aj.ob) (AJ xs)=some out.out/\∀ f,out.out.v.ren f=out.out.v:=by
 unfold QN at h;split at h
 case h_2=>cases h
 split at h
 case h_2=>cases h
 rename_i n o _ ty cs hn;split at h
 case h_2=>cases h
 rename_i v h0;simp only[bG,ch] at h;obtain⟨hv,rfl⟩:=h;obtain rfl:=Zm hv;refine⟨upd_ok rfl (hσ _ _ hn),?_,fun _=>rfl⟩;simp only[AJ,KV.pv,Ju,hn,bU,Aj.ob,Ts h0,and_self,if_true,Aw.out,XB,dE,bC]
end k_
end Go.Ab


namespace Go.Ab
open Go
section kb_
variable {σ:Nm->Option Aj} {xs:List KV} {out:Aw} {T U:Nat}
end kb_
end Go.Ab

