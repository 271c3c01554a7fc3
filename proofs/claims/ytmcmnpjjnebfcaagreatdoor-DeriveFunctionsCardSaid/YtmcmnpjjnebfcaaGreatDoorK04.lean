/-
  Part 4 of a proof: a machine of our own for the given program, its laws, and what it says of the program. Nothing here is a claim by itself.
-/
import Derived.Test.YtmcmnpjjnebfcaaGreatDoorK03
import Derived.RowKit
import Derived.Lib.AppendIntMem
import Derived.Lib.CountLaws
import Derived.Lib.Replace
import Derived.Lib.ItoaNum
import Derived.Conc.MuLone
set_option linter.all false

namespace Go.Ab
theorem fill_map (T:List PV):∀ (ps:List (Nat×Nat×RX)) (z:List PV),EA [] z (ps.map fun p=>(p.1,p.2.1,.c (p.2.2.ev T)))=EA T z ps:=by
 intro ps;induction ps with
 | nil=>intro z;rfl
 | cons p ps ih =>
  obtain⟨off,n,x⟩:=p;intro z;simp only[ZZ,EA];rw[ih];rfl
theorem NY (T:List PV) (x:Option RX):Cp [] (x.map fun y=>.c (y.ev T))=Cp T x:=by cases x<;>rfl
theorem exec_inst (d:Nat) (σ:Nm->Option Ob) (T:List PV) (op:AC) (hg:isG op=true):exec d σ [] (op.mapX fun x=>.c (x.ev T))=exec d σ T op:=by
 cases op with
 | build z ps=>simp only[AC.mapX,exec];rw[fill_map T]
 | slice k x lo hi mx=>simp only[AC.mapX,exec];rw[NY,NY,NY];rfl
 | strSlice x lo hi=>simp only[AC.mapX,exec];rw[NY,NY];rfl
 | minmax mx xs=>simp only[AC.mapX,exec,ay];rfl
 | mov | pick | box | alloc | mkSl | store | mkI | mkF | mkMap | insert | mkS | append | copy | call | iter | next | bad=>simp[isG] at hg
 | _=>rfl
theorem MU {f g:RX->RX} {o:Option RX} (h:∀ a∈o.toList,f a=g a):o.map f=o.map g:=by
 cases o with
 | none=>rfl
 | some a=>simp[h a (by simp)]
theorem Zm {f g:RX->RX} (op:AC) (hg:isG op=true) (h:∀ x∈op.xs,f x=g x):op.mapX f=op.mapX g:=by
 cases op with
 | build z ps =>
  simp only[AC.mapX];congr 1;apply aD;intro p hp;rw[h p.2.2 (Z4.2 ⟨p,hp,rfl⟩)]
 | slice k x lo hi mx =>
  simp only[AC.mapX,AC.xs] at h |-;rw[h x (by simp),MU (o:=lo) fun a ha=>h a (by simp[ha]),MU (o:=hi) fun a ha=>h a (by simp[ha]),MU (o:=mx) fun a ha=>h a (by simp[ha])]
 | strSlice x lo hi =>
  simp only[AC.mapX,AC.xs] at h |-;rw[h x (by simp),MU (o:=lo) fun a ha=>h a (by simp[ha]),MU (o:=hi) fun a ha=>h a (by simp[ha])]
 | minmax mx xs=>simp only[AC.mapX];congr 1;exact aD h
 | mov | pick | box | alloc | mkSl | store | mkI | mkF | mkMap | insert | mkS | append | copy | call | iter | next | bad=>simp[isG] at hg
 | bin op c cst x y=>simp only[AC.mapX,AC.xs] at h |-;rw[h x (by simp),h y (by simp)]
 | lookup c z ok x k=>simp only[AC.mapX,AC.xs] at h |-;rw[h x (by simp),h k (by simp)]
 | idxAddr k x i=>simp only[AC.mapX,AC.xs] at h |-;rw[h x (by simp),h i (by simp)]
 | idxAddrA k l x i=>simp only[AC.mapX,AC.xs] at h |-;rw[h x (by simp),h i (by simp)]
 | strIdx x i=>simp only[AC.mapX,AC.xs] at h |-;rw[h x (by simp),h i (by simp)]
 | load n ag x | nilck x | un op x | conv k x | toBytes x | ofBytes x | ofRune x | strId x | fieldAddr off x | field off n ag x | extract j x | len c x | tassert t z ok x=>simp only[AC.mapX,AC.xs] at h |-;rw[h x (by simp)]
theorem Za (σ:Nm->Option Ob):∀ d,Bb σ d []=[]:=by
 intro d;induction d with
 | zero=>rfl
 | succ d ih=>simp[Bb,ih]
theorem X0 {d:Nat} {σ:Nm->Option Ob} {T:List PV} {op:AC} (hg:isG op=true) (hx:∀ x∈op.xs,okV (x.ev T)=true):exec d σ T op=exec 0 (fun _=>none) T op:=by
 have h1:exec d σ T op=exec 0 σ T op:=by cases op<;>simp[isG] at hg<;>rfl
 rw[h1];refine UI op (fun _ _=>rfl) ?_
 have:AR (op.xs.map (RX.ev T))=[]:=(Da (EY.2 fun v hv=>by
  obtain⟨x,hx',rfl⟩:=Z4.1 hv;exact hx x hx')).1
 rw[this];intro nm hnm;rw[Za] at hnm;cases hnm
theorem okV_fill {T:List PV}:∀ (ps:List (Nat×Nat×RX)) (z cs:List PV),At z=true->(∀ x∈ps.map (·.2.2),okV (x.ev T)=true)->EA T z ps=some cs->At cs=true:=by
 intro ps;induction ps with
 | nil=>intro z cs hz _ h;simp[EA] at h;subst h;exact hz
 | cons p ps ih =>
  obtain⟨off,n,y⟩:=p;intro z cs hz hp h;simp only[EA] at h;obtain⟨_,h⟩:=DT h;refine ih _ cs ?_ (fun x hx=>hp x (by simp only[ZZ,Z7];exact .inr hx)) h;exact H7 (H7 (HB hz _) (DR (hp y (by simp)))) (It hz _)
theorem NN {cs:List PV} (h:At cs=true) {o n:Nat} {ag:Bool} {v:PV} (hs:BG cs o n ag=some v):okV v=true:=by
 unfold BG at hs;split at hs
 ·obtain⟨_,hs⟩:=DT hs;cases hs;simpa[okV] using HB (It h o) n
 ·exact Ia h hs
theorem Sq {k:PV}:∀ {es:List PV} {v:PV},DJ k es=some (some v)->At es=true->okV v=true
 | [],v,h,_=>by simp[DJ] at h
 | [_],v,h,_=>by simp[DJ] at h
 | a :: u :: es,v,h,he=>by
  simp only[At,Z2] at he;simp only[DJ] at h;split at h;·cases h;exact he.2.1
  ·exact Sq h he.2.2
  ·cases h
theorem Ym {k:Nat} {x v:PV} {lo hi mx:Option PV} (hx:okV x=true) (h:FW k x lo hi mx=some v):okV v=true:=by
 cases x with
 | sl k' xs full =>
  simp only[FW] at h;split at h;·cases h
  split at h;·cases h
  split at h;·cases h
  obtain⟨_,h⟩:=DT h;cases h;simp only[okV] at hx |-;exact It (HB hx _) _
 | nilS =>
  simp only[FW] at h;split at h;·cases h
  split at h;·cases h
  split at h;·cases h
  obtain⟨_,h⟩:=DT h;cases h;rfl
 | arr nm k' o n=>simp[okV] at hx
 | _=>simp[FW] at h
theorem Vf (s:List UInt8):At (DF s)=true:=EY.2 fun x hx=>by
 obtain⟨b,_,rfl⟩:=Z4.1 hx;rfl
theorem okV_binPV {op:BinOp} {c:TC} {cst:Bool} {x y v:PV} (h:Em op c cst x y=some v):okV v=true:=by
 have hI:∀ {op k a b v},FK op k a b=some v->okV v=true:=by
  intro op k a b v h;unfold FK at h;split at h
  all_goals first
   |(cases h;rfl)
   |(obtain⟨_,h⟩:=DT h;cases h;rfl)
   |(obtain⟨b,_,rfl⟩:=Z3.1 h;rfl)
 have hS:∀ {op a b v},La op a b=some v->okV v=true:=by
  intro op a b v h;unfold La at h;split at h
  all_goals first
   |(cases h;rfl)
   |(obtain⟨_,h⟩:=DT h;cases h;rfl)
   | cases h
 unfold Em at h;split at h
 ·split at h;·obtain⟨_,h⟩:=DT h;cases h;rfl
  ·obtain⟨_,h⟩:=DT h;cases h;rfl
  ·obtain⟨_,h⟩:=DT h;exact hI h
 ·exact hS h
 ·split at h;·obtain⟨b,_,rfl⟩:=Z3.1 h;rfl
  ·obtain⟨b,_,rfl⟩:=Z3.1 h;rfl
  ·cases h
structure Q1 (o:AO):Prop where
 eq:o={v:=o.v}
 ok:okV o.v=true
theorem Q1.mk' {v:PV} (h:okV v=true):Q1 {v:=v}:=⟨rfl,h⟩
theorem O4 {x:Option PV} {out:AO} (h:(x.map fun v=>({v:=v}:AO))=some out) (hv:∀ v,x=some v->okV v=true):Q1 out:=by
 obtain⟨v,hx,rfl⟩:=Z3.1 h;exact .mk' (hv v hx)
theorem ZL {T:List PV} {op:AC} (hg:isG op=true) (hx:∀ x∈op.xs,okV (x.ev T)=true) (hz:∀ z ps,op=.build z ps->At z=true) (hl:∀ c z ok x k,op=.lookup c z ok x k->okV z=true)
  (ht:∀ t z ok x,op=.tassert t z ok x->okV z=true) {out:AO} (h:exec 0 (fun _=>none) T op=some out):Q1 out:=by
 cases op with
 | mov | pick | box | alloc | mkSl | store | mkI | mkF | mkMap | insert | mkS | append | copy | call | iter | next | bad=>simp[isG] at hg
 | build z ps =>
  simp only[exec] at h;split at h
  ·rename_i cs hc;cases h;exact .mk' (by simpa[okV] using okV_fill ps z cs (hz z ps rfl) hx hc)
  ·cases h
 | load n ag x =>
  have hv:=hx x (by simp[AC.xs]);simp only[exec] at h;split at h;·rename_i e;rw[e] at hv;simp[okV] at hv
  ·rename_i e;rw[e] at hv;exact O4 h fun v hs=>NN (by simpa[okV] using hv) hs
  ·rename_i e;rw[e] at hv;simp[okV] at hv
  ·cases h
 | nilck x =>
  have hv:=hx x (by simp[AC.xs]);simp only[exec] at h;split at h
  all_goals first
   |(rename_i e;rw[e] at hv;cases h;exact .mk' hv)
   | cases h
 | bin op c cst x y=>simp only[exec] at h;exact O4 h fun v=>okV_binPV
 | un op x =>
  simp only[exec] at h;split at h;·cases h;exact .mk' rfl
  ·cases h;exact .mk' rfl
  ·cases h
 | conv k x=>simp only[exec] at h;split at h;(cases h;exact .mk' rfl);cases h
 | toBytes x =>
  simp only[exec] at h;split at h;·obtain⟨_,h⟩:=DT h;cases h;exact .mk' (by simpa[okV] using Vf _)
  ·cases h
 | ofBytes x =>
  simp only[exec] at h;split at h
  ·split at h;·cases h;exact .mk' rfl
   ·cases h
  ·cases h
 | ofRune x=>simp only[exec] at h;split at h;(cases h;exact .mk' rfl);cases h
 | strId x=>simp only[exec] at h;split at h;(cases h;exact .mk' rfl);cases h
 | lookup c z ok x k =>
  have hv:=hx x (by simp[AC.xs]);have hz:=hl c z ok x k rfl;simp only[exec] at h
  have hes:∀ es,(match x.ev T with | .mp nm=>(none:Option (List PV)) | .imap es=>some es | .nilM=>some [] | _=>none)=some es->At es=true:=by
   intro es he;cases hq:x.ev T<;>rw[hq] at he hv<;>simp only[reduceCtorEq,Z6] at he;·subst he;rfl
   ·subst he;simpa[okV] using hv
  split at h;·cases h
  ·rename_i es he;split at h;·cases h
   ·rename_i r hr;obtain⟨_,h⟩:=DT h;cases h;have hes':At es=true:=hes es (by revert he;cases x.ev T<;>exact id)
    have hrz:okV (r.getD z)=true:=by
     cases r with
     | none=>exact hz
     | some v=>exact Sq hr hes'
    refine .mk' ?_;split;·simp[okV,At,hrz]
    ·exact hrz
 | slice k x lo hi mx=>simp only[exec] at h;exact O4 h fun v hs=>Ym (hx x (by simp[AC.xs])) hs
 | strSlice x lo hi =>
  simp only[exec] at h;split at h
  ·split at h;·cases h
   ·split at h;·cases h
    ·cases h;exact .mk' rfl
  ·cases h
 | fieldAddr off x =>
  have hv:=hx x (by simp[AC.xs]);simp only[exec] at h;split at h;·rename_i e;rw[e] at hv;simp[okV] at hv
  ·rename_i e;rw[e] at hv;obtain⟨_,h⟩:=DT h;cases h;exact .mk' (by simpa[okV] using hv)
  ·rename_i e;rw[e] at hv;simp[okV] at hv
  ·cases h
 | field off n ag x =>
  have hv:=hx x (by simp[AC.xs]);simp only[exec] at h;split at h;·rename_i e;rw[e] at hv;exact O4 h fun v hs=>NN (by simpa[okV] using hv) hs
  ·cases h
 | idxAddr k x i =>
  have hv:=hx x (by simp[AC.xs]);simp only[exec] at h;split at h
  ·rename_i e;rw[e] at hv;split at h
   ·rename_i y hy;obtain⟨_,h⟩:=DT h;cases h;exact .mk' (by simpa[okV] using DR (Ia (by simpa[okV] using hv) hy))
   ·cases h
  ·rename_i e;rw[e] at hv;simp[okV] at hv
  ·cases h
 | idxAddrA k l x i =>
  have hv:=hx x (by simp[AC.xs]);simp only[exec] at h;split at h;·rename_i e;rw[e] at hv;obtain⟨_,h⟩:=DT h;cases h;exact .mk' (by simpa[okV] using hv)
  ·rename_i e;rw[e] at hv;simp[okV] at hv
  ·cases h
 | strIdx x i =>
  simp only[exec] at h;split at h
  ·split at h;·cases h;exact .mk' rfl
   ·cases h
  ·cases h
 | extract j x =>
  have hv:=hx x (by simp[AC.xs]);simp only[exec] at h;split at h
  ·rename_i e;rw[e] at hv;split at h
   ·rename_i v hg';cases h;exact .mk' (Ia (by simpa[okV] using hv) hg')
   ·cases h
  ·cases h
 | len c x=>simp only[exec] at h;obtain⟨n,_,rfl⟩:=Z3.1 h;exact .mk' rfl
 | minmax mx xs =>
  simp only[exec] at h;split at h;·obtain⟨n,_,rfl⟩:=Z3.1 h;exact .mk' rfl
  ·cases h
 | tassert t z ok x =>
  have hv:=hx x (by simp[AC.xs]);have hz:=ht t z ok x rfl;simp only[exec] at h;split at h
  ·rename_i e;rw[e] at hv;split at h
   ·cases h;refine .mk' ?_;simp only[okV] at hv;split;·simp[okV,At,hv]
    ·exact hv
   ·obtain⟨_,h⟩:=DT h;cases h;exact .mk' (by simp[okV,At,hz])
  ·obtain⟨_,h⟩:=DT h;cases h;exact .mk' (by simp[okV,At,hz])
  ·cases h
end Go.Ab


namespace Go.Ab
theorem Db {α β:Type} {x:Option α} {f:α->Option β} {r:β} (h:Ac x f=some r):∃ a,x=some a/\f a=some r:=by
 cases x with
 | none=>cases h
 | some a=>exact⟨a,rfl,h⟩
theorem Br {β:Type} {b:Bool} {a:Option β} {r:β} (h:Af b a=some r):b=true/\a=some r:=by
 cases b with
 | false=>cases h
 | true=>exact⟨rfl,h⟩
theorem Ky {β:Type} {b:Bool} {x y:Option β} {r:β} (h:DL b x y=some r):(b=true/\x=some r)\/(b=false/\y=some r):=by
 cases b with
 | false=>exact .inr ⟨rfl,h⟩
 | true=>exact .inl ⟨rfl,h⟩
theorem Pa {β:Type} {v:PV} {x y:Option β} {r:β} (h:Ah v x y=some r):(v=.bool true/\x=some r)\/(v=.bool false/\y=some r):=by
 unfold Ah at h;split at h;·exact .inl ⟨rfl,h⟩
 ·exact .inr ⟨rfl,h⟩
 ·cases h
theorem NS {a b:Nat}:Az a b=true↔a<=b:=by unfold Az;rw[Nat.ble_eq]
theorem L8 {a b:Nat}:D2 a b=true↔a < b:=by unfold D2;rw[bc]
theorem N0 {a b:Nat}:Ge a b=true↔a=b:=by unfold Ge;rw[Nat.beq_eq]
def Kc {R:Type} (K:AB->Option R) (r:R) (x:Option AO):Prop:=∃ out:AB,K out=some r/\out.Ok/\x=some out.out
theorem AB.plain {v:KV} (h:v.ok):AB.Ok {v}:=⟨h,by simp,by simp,by simp⟩
theorem AB.one {v:KV} {o:Aj} (h:v.ok) (ho:o.ok):AB.Ok {v,new:=[o]}:=⟨h,by simpa using ho,by simp,by simp⟩
theorem AB.turn {v:KV} {nm:Nm} {o:Aj} (h:v.ok) (ho:o.ok):AB.Ok {v,upd:=some (nm,o)}:=⟨h,by simp,fun _ _ e=>(by cases e;exact ho),by simp⟩
variable {ks:AE} {d:Nat} {R:Type} {K:AB->Option R} {r:R}
theorem Ta (h:ks.Ok) {xs:List RX} (hx:xs.all EW=true) {x:RX} (hm:x∈xs):(x.kv ks.tmps).ok:=MH h (an.1 hx x hm)
theorem cl_ev (h:ks.Ok) {x:RX} {v:PV} (hv:(x.kv ks.tmps).cl=some v):x.ev ks.st.tmps=v:=by rw[GT h,KV.cl_pv hv]
theorem DZ (h:ks.Ok) {op:AC} (hx:op.xs.all EW=true) (hk:gO ks.tmps op K=some r):Kc K r (exec d (Ak ks.st.objs) ks.st.tmps op):=by
 unfold gO at hk;split at hk
 ·rename_i hc;simp only[Z2] at hc;obtain⟨⟨hg,hop⟩,hcl⟩:=hc;obtain⟨z,hz,hk⟩:=Db hk;have hall:∀ x∈op.xs,∃ v,(x.kv ks.tmps).cl=some v:=fun x hm=>bT.1 (an.1 hcl x hm)
  have hev:∀ x∈op.xs,okV (x.ev ks.st.tmps)=true:=fun x hm=>by
   obtain⟨v,hv⟩:=hall x hm;rw[cl_ev h hv];exact KV.cl_ok (Ta h hx hm) hv
  have hmap:op.mapX (instX ks.tmps)=op.mapX (fun x=>.c (x.ev ks.st.tmps)):=Zm op hg fun x hm=>by
   obtain⟨v,hv⟩:=hall x hm;unfold instX;rw[hv,cl_ev h hv];rfl
  unfold Ad at hz;rw[hmap,exec_inst _ _ _ _ hg] at hz;split at hz
  ·rename_i out ho;cases hz;have hp:=ZL hg hev (fun z ps e=>by subst e;exact hop) (fun c z ok x k e=>by subst e;exact hop) (fun t z ok x e=>by subst e;exact hop) ho;refine⟨{v:=.cv out.v},hk,AB.plain hp.ok,?_⟩;rw[X0 hg hev,ho,hp.eq];rfl
  ·cases hz
 ·cases hk
theorem VL {n:Nat} {x:KV} (hx:x.ok) {K:List KV->Option R} (hk:Qf n x K=some r):∃ cs,K cs=some r/\A6 cs/\AN cs=x.pv.cells/\cs.length=n/\x.pv.isVal=true:=by
 unfold Qf at hk;split at hk
 ·split at hk;·rename_i hn;exact⟨_,hk,hx,rfl,hn,rfl⟩
  ·cases hk
 ·rename_i v;obtain⟨h1,h2⟩:=Br hk;unfold AA at h1;simp only[Z2,beq_iff_eq] at h1;refine⟨_,h2,?_,?_,by simp,h1.1⟩
  ·refine Dd.2 fun y hy=>?_;obtain⟨i,hi,rfl⟩:=Z4.1 hy;have hv:okV v=true:=hx;show okV (Ai v i)=true;unfold Ai;rw[Z9];cases hg:v.cells[i]? with
   | none=>rfl
   | some c=>exact Ia (DR hv) hg
  ·rw[Ev,ay];show _=v.cells;apply aO;intro i;rw[aa];by_cases hi:i < n
   ·rw[bo hi];show some (Ai v i)=_;unfold Ai;rw[Z9];have:i < v.cells.length:=by omega
    simp[ab this]
   ·rw[aA (by simpa using hi),aA (by omega)];rfl
 ·cases hk
 ·cases hk
 ·cases hk
 ·rename_i h1 h2 h3 h4 h5;split at hk
  ·rename_i hn;refine⟨_,hk,⟨hx,trivial⟩,?_,by simp[hn],?_⟩
   ·simp only[AN];cases x<;>simp_all [KV.pv,PV.cells]
   ·cases x<;>simp_all [KV.pv,PV.isVal]
  ·cases hk
theorem Nj {l:List KV} (h:A6 l) (n:Nat):A6 (l.take n):=Dd.2 fun x hx=>Dd.1 h x (aQ hx)
theorem Nk {l:List KV} (h:A6 l) (n:Nat):A6 (l.drop n):=Dd.2 fun x hx=>Dd.1 h x (bf hx)
theorem Kr {l m:List KV} (h:A6 l) (h':A6 m):A6 (l++m):=Dd.2 fun x hx=>(ar.1 hx).elim (Dd.1 h x) (Dd.1 h' x)
theorem LT (l:List KV) (n:Nat):AN (l.take n)=(AN l).take n:=by rw[Ev,Ev,List.map_take]
theorem LU (l:List KV) (n:Nat):AN (l.drop n)=(AN l).drop n:=by rw[Ev,Ev,List.map_drop]
theorem OS (l m:List KV):AN (l++m)=AN l++AN m:=by rw[Ev,Ev,Ev,bm]
theorem G6 (l:List KV):(AN l).length=l.length:=by rw[Ev,aL]
theorem pvL_get? (l:List KV) (i:Nat):(AN l)[i]?=(l[i]?).map KV.pv:=by rw[Ev,aa]
theorem kfill_ok (h:ks.Ok):∀ (ps:List (Nat×Nat×RX)) {z:List KV} {K:List KV->Option R},(∀ x∈ps.map (·.2.2),EW x=true)->A6 z->Qv ks.tmps z ps K=some r->∃ cs,K cs=some r/\A6 cs/\EA ks.st.tmps (AN z) ps=some (AN cs):=by
 intro ps;induction ps with
 | nil=>intro z K _ hz hk;exact⟨z,hk,hz,rfl⟩
 | cons p ps ih =>
  obtain⟨off,n,x⟩:=p;intro z K hx hz hk;simp only[Qv] at hk;obtain⟨cs,hk,hcs,hpv,hlen,hval⟩:=VL (MH h (hx x (by simp))) hk;split at hk
  ·rename_i hle;obtain⟨cs',h1,h2,h3⟩:=ih (fun y hy=>hx y (by simp only[ZZ,Z7];exact .inr hy)) (Kr (Kr (Nj hz _) hcs) (Nk hz _)) hk;refine⟨cs',h1,h2,?_⟩;have hl2:(AN cs).length=n:=by rw[G6,hlen]
   have hval':(x.ev ks.st.tmps).isVal=true:=by rw[GT h];exact hval
   have hcl':(x.ev ks.st.tmps).cells=AN cs:=by rw[GT h];exact hpv.symm
   simp only[EA];rw[hcl'];unfold AI splice;simp only[hval',hl2,G6,decide_true,aG,aE,hle,if_true];rw[OS,OS,LT,LU] at h3;exact h3
  ·cases hk
theorem Se (h:ks.Ok) {k:Nat} {x:KV} (hx:x.ok) {K:List PV->Option R} (hk:Oh (Bm ks.objs) k x K=some r):∃ ys,K ys=some r/\At ys=true/\elems (Ak ks.st.objs) k x.pv=some ys:=by
 unfold Oh at hk;split at hk
 ·rename_i nm k' o n;split at hk
  ·rename_i k'' kt xs hl;split at hk
   ·rename_i hkk;obtain⟨h1,h2⟩:=Br hk;rw[NS] at h1;have hok:At xs=true:=D4 h.ob hl;refine⟨_,h2,HB (It hok _) _,?_⟩;have hl':Ak ks.st.objs nm=some (.arr k'' kt xs):=by rw[Ha h,hl];rfl
    unfold Av Ae at h1;simp[KV.pv,elems,hl',AI,hkk.1,hkk.2,h1,As,AG]
   ·cases hk
  ·cases hk
 ·split at hk
  ·rename_i v hv;obtain⟨ys,h1,h2⟩:=Db hk;have hok:=KV.cl_ok hx hv;have hpv:=KV.cl_pv hv;unfold IR at h1
   have h3:elems (Ak ks.st.objs) k v=some ys:=by
    rw[<-h1];exact OK (by rw[(EZ hok).1];simp)
   refine⟨ys,h2,?_,by rw[hpv];exact h3⟩;cases v with
   | sl k' xs f=>simp only[elems] at h1;obtain⟨_,h1⟩:=DT h1;cases h1;simpa[okV] using hok
   | nilS=>cases h1;rfl
   | str s=>simp only[elems] at h1;obtain⟨_,h1⟩:=DT h1;cases h1;exact Vf _
   | arr nm k' o n=>simp[okV] at hok
   | _=>simp[elems] at h1
  ·cases hk
theorem Sf {xs:List KV} (hx:A6 xs):(AR (AN xs)).isEmpty=(Dt xs).isEmpty:=by rw[FU hx]
theorem HC {σ:Nm->Option Aj} (hσ:∀ nm o,σ nm=some o->o.ok):∀ (d:Nat) (l:List Nm),GP σ d l=Bb (fun nm=>(σ nm).map Aj.ob) d l:=by
 intro d;induction d with
 | zero=>intro l;rfl
 | succ d ih =>
  intro l;simp only[GP,Bb]
  have e:(l.flatMap fun nm=>((σ nm).map Aj.names).getD [])=l.flatMap fun nm=>(((σ nm).map Aj.ob).map Ob.names).getD []:=by
   congr 1;funext nm;cases ho:σ nm with
   | none=>rfl
   | some o=>simp[Aj.ob_names (hσ _ _ ho)]
  rw[ih,e]
theorem names_eq {σ:Nm->Option Aj} (hσ:∀ nm o,σ nm=some o->o.ok) (nm:Nm):((σ nm).map Aj.names).getD []=(((σ nm).map Aj.ob).map Ob.names).getD []:=by
 cases ho:σ nm with
 | none=>rfl
 | some o=>simp[Aj.ob_names (hσ _ _ ho)]
theorem LW {σ:Nm->Option Aj} (hσ:∀ nm o,σ nm=some o->o.ok) (R:List Nm):J4 σ R=Dw (fun nm=>(σ nm).map Aj.ob) R:=by
 unfold J4 Dw;congr 1;funext nm;simp only
 rw[names_eq hσ]
theorem Nt (h:ks.Ok) {xs:List KV} (hx:A6 xs):F6 (Du (Bm ks.objs) AW) xs=A2 (BJ (Ak ks.st.objs)) (AN xs):=by
 rw[LP _ hx];congr 1;funext nm;exact Zw h nm
theorem HK (h:ks.Ok) (ps:List RX):ps.map (RX.ev ks.st.tmps)=AN (ps.map (RX.kv ks.tmps)):=by
 rw[Ev,ay];exact aD fun x _=>GT h x
theorem K1 (h:ks.Ok) {ps:List RX} (hx:ps.all EW=true):A6 (ps.map (RX.kv ks.tmps)):=Dd.2 fun v hv=>by
 obtain⟨x,hm,rfl⟩:=Z4.1 hv;exact Ta h hx hm
theorem Xx {z:PV} (hz:okV z=true) (n:Nat):At (List.replicate n z)=true:=EY.2 fun x hx=>by rw[(List.mem_replicate.1 hx).2];exact hz
theorem V6 {z:List PV} (hz:At z=true):A6 (z.map H0):=Dd.2 fun v hv=>by
 obtain⟨x,hm,rfl⟩:=Z4.1 hv;exact Xf (EY.1 hz x hm)
theorem WP (z:List PV):AN (z.map H0)=z:=by
 rw[Ev,ay];have:KV.pv∘H0=id:=funext fun v=>Xe v;rw[this,List.map_id]
theorem R1 {k v:PV}:∀ {es es':List PV},G0 k v es=some es'->At es=true->okV k=true->okV v=true->At es'=true
 | [],es',h,_,hk,hv=>by simp[G0] at h;subst h;simp[At,hk,hv]
 | [_],es',h,_,_,_=>by simp[G0] at h
 | a :: u :: es,es',h,he,hk,hv=>by
  simp only[At,Z2] at he;simp only[G0] at h;split at h;·cases h;simp[At,hk,hv,he.2.2]
  ·obtain⟨l,hl,rfl⟩:=Z3.1 h;simp[At,he.1,he.2.1,R1 hl he.2.2 hk hv]
  ·cases h
end Go.Ab


namespace Go.Ab
variable {ks:AE} {d:Nat} {R:Type} {K:AB->Option R} {r:R}
theorem cells_agg (cs:List PV):(PV.agg cs).cells=cs:=rfl
theorem execK_ok {cfg:D1} (h:ks.Ok) {op:AC} (hq:(Fg ks.objs||MQ cfg op ks.tmps)=true) (hx:op.xs.all EW=true) (hk:CK d (Bm ks.objs) ks.tmps op K=some r):Kc K r (exec d (Ak ks.st.objs) ks.st.tmps op):=by
 have ev:=GT h;have lk:=Ha h;have hkv:∀ {x:RX},x∈op.xs->(x.kv ks.tmps).ok:=fun hm=>Ta h hx hm;cases op with
 | mov x =>
  refine⟨_,hk,AB.plain (hkv (by simp[AC.xs])),?_⟩;simp[exec,AB.out,ev]
 | pick c a b =>
  have ha:=hkv (x:=a) (by simp[AC.xs]);have hb:=hkv (x:=b) (by simp[AC.xs]);simp only[CK] at hk;split at hk
  ·rename_i hc;exact⟨_,hk,AB.plain ha,by simp[exec,AB.out,ev,hc,KV.pv]⟩
  ·rename_i hc;exact⟨_,hk,AB.plain hb,by simp[exec,AB.out,ev,hc,KV.pv]⟩
  ·rename_i v hc;rcases Pa hk with ⟨rfl,hk⟩ | ⟨rfl,hk⟩;·exact⟨_,hk,AB.plain ha,by simp[exec,AB.out,ev,hc,KV.pv]⟩
   ·exact⟨_,hk,AB.plain hb,by simp[exec,AB.out,ev,hc,KV.pv]⟩
  ·cases hk
 | box x =>
  have ha:=hkv (x:=x) (by simp[AC.xs]);simp only[CK] at hk;split at hk
  ·rename_i v hv;obtain⟨h1,hk⟩:=Br hk;rw[hv] at ha;unfold A1 at h1;exact⟨_,hk,AB.one (o:=.whole 0 v) trivial ha,by simp[exec,AB.out,ev,hv,KV.pv,AI,h1,Aj.ob,Ei]⟩
  ·rename_i cs hv;rw[hv] at ha;exact⟨_,hk,AB.one (o:=.cells 0 cs) trivial ha,by simp[exec,AB.out,ev,hv,KV.pv,AI,PV.isVal,Aj.ob,PV.cells]⟩
  ·cases hk
  ·cases hk
  ·cases hk
  ·refine⟨_,hk,AB.one (v:=.ref (d,0) 0) (o:=.cells 0 [x.kv ks.tmps]) trivial ⟨ha,trivial⟩,?_⟩;simp only[exec,AB.out,ev];cases hy:x.kv ks.tmps<;>simp_all [KV.pv,AI,PV.isVal,Aj.ob,PV.cells,AN]
 | alloc ty z =>
  simp only[CK] at hk;split at hk
  ·rename_i hz;exact⟨_,hk,AB.one (o:=.cells _ (z.map H0)) trivial (V6 hz),by simp[exec,AB.out,KV.pv,Aj.ob,WP]⟩
  ·cases hk
 | build z ps =>
  simp only[CK] at hk;split at hk;·exact DZ h hx hk
  ·split at hk
   ·rename_i hz;obtain⟨cs,h1,h2,h3⟩:=kfill_ok h ps (fun x hm=>an.1 hx x hm) (V6 hz) hk;rw[WP] at h3;exact⟨_,h1,AB.plain (v:=.agg cs) h2,by simp[exec,AB.out,h3,KV.pv]⟩
   ·cases hk
 | mkSl k ps =>
  have hok:=K1 h (ps:=ps) hx;simp only[CK] at hk;split at hk
  ·rename_i vs hv;obtain⟨h1,hk⟩:=Br hk;have hpv:=JX hv;refine⟨_,hk,AB.one (o:=.arr k 0 vs) trivial (IS hok hv),?_⟩;have hn:(AR vs).isEmpty=true:=by rw[(Da (IS hok hv)).1];rfl
   unfold AT at h1;simp only[exec,HK h,hpv,hn,if_true,AB.out,KV.pv,Aj.ob,AI,h1,Ae,ZZ,Z1,bL]
  ·split at hk;·cases hk
   ·rename_i hne;split at hk
    ·rename_i hc;obtain⟨h1,hk⟩:=Br hk;refine⟨_,hk,⟨trivial,?_,by simp,by simp⟩,?_⟩
     ·intro o ho;simp only[aJ] at ho;subst ho;exact Jn (LB (DE h) (M5 (by simpa[MQ] using hq)) AW) hok hc.2
     ·have hne':(AR (AN (ps.map (RX.kv ks.tmps)))).isEmpty=false:=by rw[Sf hok];simpa using hne
      unfold AT at h1;rw[Nt h hok] at h1;have hsh:=hc.1;rw[HC (DE h),LW (DE h),<-EK h,<-FU hok] at hsh;simp only[exec,HK h,hne',Z0,if_false,AB.out,KV.pv,Aj.ob,Ae,ZZ,Z1,bL];rw[Nt h hok,HC (DE h),<-EK h,<-FU hok];unfold AI;rw[h1,hsh];rfl
    ·cases hk
 | load n ag x =>
  have ha:=hkv (x:=x) (by simp[AC.xs]);simp only[CK] at hk;split at hk
  ·rename_i nm o hv;split at hk
   ·rename_i cs hl;have hcs:A6 cs:=D4 h.ob hl;split at hk
    ·rename_i hag;split at hk
     ·rename_i hle;refine⟨_,hk,AB.plain (v:=.agg ((cs.drop o).take n)) (Nj (Nk hcs _) _),?_⟩;simp[exec,ev,hv,KV.pv,lk,hl,Aj.ob,BG,hag,AI,G6,hle,AB.out,LT,LU]
     ·cases hk
    ·rename_i hag;split at hk
     ·rename_i c hc;refine⟨_,hk,AB.plain (Dd.1 hcs c (aj hc)),?_⟩;simp[exec,ev,hv,KV.pv,lk,hl,Aj.ob,BG,hag,pvL_get?,hc,AB.out]
     ·cases hk
   ·rename_i v hl;obtain⟨z,hz,hk⟩:=Db hk;have hv':okV v=true:=D4 h.ob hl;unfold AU at hz;refine⟨_,hk,AB.plain (v:=.cv z) (NN (DR hv') hz),?_⟩;simp[exec,ev,hv,KV.pv,lk,hl,Aj.ob,Ei,hz,AB.out]
   ·cases hk
  ·rename_i nm k i o hv;split at hk
   ·rename_i k' kt xs hl;split at hk
    ·rename_i hkk;obtain⟨z,hz,hk⟩:=Db hk;have hxs:At xs=true:=D4 h.ob hl;unfold MO at hz;split at hz
     ·rename_i e he;refine⟨_,hk,AB.plain (v:=.cv z) (NN (DR (Ia hxs he)) hz),?_⟩;simp[exec,ev,hv,KV.pv,lk,hl,Aj.ob,he,hz,AI,hkk,AB.out]
     ·cases hz
    ·cases hk
   ·cases hk
  ·exact DZ h hx hk
 | store n x v =>
  have ha:=hkv (x:=x) (by simp[AC.xs]);have hb:=hkv (x:=v) (by simp[AC.xs]);simp only[CK] at hk;split at hk
  ·rename_i nm o hv;split at hk
   ·rename_i cs hl;have hcs:A6 cs:=D4 h.ob hl;obtain⟨vs,hk,hvs,hpv,hlen,hval⟩:=VL hb hk;split at hk
    ·rename_i hle;refine⟨_,hk,AB.turn (o:=.cells _ (cs.take o++vs++cs.drop (o+n))) trivial (Kr (Kr (Nj hcs _) hvs) (Nk hcs _)),?_⟩;have hl2:(AN vs).length=n:=by rw[G6,hlen]
     simp[exec,ev,hv,KV.pv,lk,hl,Aj.ob,<-hpv,hval,hl2,AI,G6,hle,AB.out,splice,OS,LT,LU]
    ·cases hk
   ·rename_i w hl;split at hk
    ·rename_i u hu;obtain⟨h1,hk⟩:=Br hk;have hw:okV w=true:=D4 h.ob hl;have huo:=KV.cl_ok hb hu;unfold MC at h1;simp only[Z2,decide_eq_true_eq] at h1;refine⟨_,hk,AB.turn (o:=.whole _ (Hw u w o)) trivial ?_,?_⟩
     ·show okV (Hw u w o)=true;simpa[Hw,okV,splice] using H7 (HB (DR hw) o) (H7 (DR huo) (It (DR hw) _))
     ·have hpv:=KV.cl_pv hu;simp[exec,ev,hv,KV.pv,lk,hl,Aj.ob,Ei,hpv,h1.1.1,h1.1.2,h1.2,AI,AB.out,Hw,cells_agg]
    ·cases hk
   ·cases hk
  ·rename_i nm k i o hv;split at hk
   ·rename_i k' kt xs hl;split at hk
    ·rename_i u hu;split at hk
     ·rename_i hkk;obtain⟨ys,hys,hk⟩:=Db hk;have hxs:At xs=true:=D4 h.ob hl;have huo:=KV.cl_ok hb hu;have hpv:=KV.cl_pv hu;unfold GZ at hys;split at hys
      ·rename_i es he;obtain⟨h1,h2⟩:=Br hys;cases h2;simp only[Z2,decide_eq_true_eq] at h1;have heo:At es=true:=by simpa[okV] using Ia hxs he
       refine⟨_,hk,AB.turn (o:=.arr k kt _) trivial ?_,?_⟩
       ·refine V5 hxs i ?_;simpa[okV,splice] using H7 (HB heo o) (H7 (DR huo) (It heo _))
       ·have hn:(AR u.cells).isEmpty=true:=by rw[(Da (DR huo)).1];rfl
        simp[exec,ev,hv,KV.pv,lk,hl,Aj.ob,he,hpv,h1.1.1,h1.1.2,h1.2,AI,hkk,AB.out];rw[(Da (DR huo)).1]
      ·rename_i e hne he;obtain⟨h1,h2⟩:=Br hys;cases h2;simp only[Z2,beq_iff_eq] at h1;refine⟨_,hk,AB.turn (o:=.arr k kt _) trivial (V5 hxs i huo),?_⟩;have hn:u.names=[]:=(EZ huo).1;simp only[exec,ev,hv,KV.pv,lk,hl,ao,Aj.ob,he,hpv];subst hkk;simp[AI,h1.1.1.1,h1.1.1.2,h1.1.2,h1.2,hn,AB.out,Aj.ob,KV.pv]
      ·cases hys
     ·cases hk
    ·cases hk
   ·cases hk
  ·cases hk
 | nilck x =>
  have ha:=hkv (x:=x) (by simp[AC.xs]);simp only[CK] at hk;split at hk;·rename_i hv;exact⟨_,hk,AB.plain (by trivial),by simp[exec,ev,hv,KV.pv,AB.out]⟩
  ·rename_i hv;exact⟨_,hk,AB.plain (by trivial),by simp[exec,ev,hv,KV.pv,AB.out]⟩
  ·rename_i hv;rw[hv] at ha;exact⟨_,hk,AB.plain ha,by simp[exec,ev,hv,KV.pv,AB.out]⟩
  ·rename_i hv;exact⟨_,hk,AB.plain (by trivial),by simp[exec,ev,hv,KV.pv,AB.out]⟩
  ·exact DZ h hx hk
 | bin o c cst x y =>
  simp only[CK] at hk;split at hk
  ·rename_i nm o' v h1 h2;split at hk
   ·rcases Ky hk with ⟨hc,hk⟩ | ⟨_,hk⟩
    ·split at hc
     ·refine⟨_,hk,AB.plain (v:=.lit false) trivial,?_⟩;simp[exec,ev,h1,h2,KV.pv,Em,Ka,AB.out]
     ·cases hc
    ·cases hk
   ·rcases Ky hk with ⟨hc,hk⟩ | ⟨_,hk⟩
    ·split at hc
     ·refine⟨_,hk,AB.plain (v:=.lit true) trivial,?_⟩;simp[exec,ev,h1,h2,KV.pv,Em,Ka,AB.out]
     ·cases hc
    ·cases hk
   ·cases hk
  ·exact DZ h hx hk
 | un o x =>
  cases o with
  | not =>
   simp only[CK] at hk;split at hk
   ·rename_i b hv;exact⟨_,hk,AB.plain (v:=.lit (!b)) trivial,by simp[exec,ev,hv,KV.pv,AB.out]⟩
   ·exact DZ h hx hk
  | _=>exact DZ h hx hk
 | mkI t x =>
  have ha:=hkv (x:=x) (by simp[AC.xs]);simp only[CK] at hk;split at hk
  ·rename_i v hv;refine⟨_,hk,AB.plain (v:=.cv (.iface t v)) ?_,?_⟩
   ·show okV (.iface t v)=true;simpa[okV] using KV.cl_ok ha hv
   ·simp[exec,ev,KV.cl_pv hv,KV.pv,AB.out]
  ·split at hk;·cases hk
   ·cases hk
   ·cases hk
   ·cases hk
   ·exact⟨_,hk,AB.plain (v:=.iface t (x.kv ks.tmps)) ha,by simp[exec,ev,KV.pv,AB.out]⟩
 | mkF f cap =>
  simp only[CK] at hk;split at hk
  ·refine⟨_,hk,AB.plain (v:=.fn f (cap.map (RX.kv ks.tmps))) (K1 h hx),?_⟩;simp[exec,AB.out,KV.pv,HK h]
  ·cases hk
 | mkMap=>exact⟨_,hk,AB.one (o:=.map []) trivial rfl,by simp[exec,AB.out,KV.pv,Aj.ob]⟩
 | insert c x k v =>
  have hb:=hkv (x:=k) (by simp[AC.xs]);have hc:=hkv (x:=v) (by simp[AC.xs]);simp only[CK] at hk;split at hk
  ·rename_i nm hv;split at hk
   ·rename_i es kk vv hl h1 h2;obtain⟨es',he,hk⟩:=Db hk;have hes:At es=true:=D4 h.ob hl;have hko:=KV.cl_ok hb h1;have hvo:=KV.cl_ok hc h2;unfold insO at he;split at he
    ·rename_i es2 hs;obtain⟨h3,h4⟩:=Br he;cases h4;simp only[Z2] at h3;refine⟨_,hk,AB.turn (o:=.map es') trivial (R1 hs hes hko hvo),?_⟩;have hn:vv.names=[]:=(EZ hvo).1;simp[exec,ev,hv,KV.pv,lk,hl,Aj.ob,KV.cl_pv h1,KV.cl_pv h2,hs,AI,h3.1,h3.2,hn,AB.out]
    ·cases he
   ·rename_i es kk hl h1 h2;split at hk;·cases hk
    ·rename_i hne;split at hk
     ·rename_i hcond;obtain⟨hsh,hy,hcn⟩:=hcond;obtain⟨es',he,hk⟩:=Db hk;have hes:At es=true:=D4 h.ob hl;have hko:=KV.cl_ok hb h1;have hok1:A6 [v.kv ks.tmps]:=⟨hc,trivial⟩;have hcl:=Nt h hok1;have hclo:=Jn (LB (DE h) (M5 (by simpa[MQ] using hq)) AW) hok1 hy
      have e1:Aa (F6 (Du (Bm ks.objs) AW) [v.kv ks.tmps]) 0=((v.kv ks.tmps).pv).sub (BJ (Ak ks.st.objs)):=by
       rw[hcl];simp[AN,A2,Aa]
      have hvo:okV (((v.kv ks.tmps).pv).sub (BJ (Ak ks.st.objs)))=true:=by
       rw[<-e1];rw[hcl] at hclo |-;exact (cc.1 hclo).1
      rw[e1] at he
      have hn2:((v.kv ks.tmps).pv).names.isEmpty=false:=by
       rw[KV.pv_names hc];simpa[Dt] using hne
      have hrch:GP (Bm ks.objs) AW (Dt [v.kv ks.tmps])=Bb (Ak ks.st.objs) AW ((v.kv ks.tmps).pv).names:=by
       rw[HC (DE h),<-EK h,KV.pv_names hc];simp[Dt]
      rw[hrch,LW (DE h),<-EK h] at hsh;rw[hrch] at hcn hk;have hcn':¬ nm∈Bb (Ak ks.st.objs) AW ((v.kv ks.tmps).pv).names:=fun hm=>by rw[bk.2 hm] at hcn;cases hcn
      unfold insO at he;split at he
      ·rename_i es2 hs;obtain⟨h3,h4⟩:=Br he;cases h4;simp only[Z2] at h3;refine⟨_,hk,⟨trivial,by simp,fun m o' e=>by cases e;exact R1 hs hes hko hvo,by simp⟩,?_⟩;simp[exec,ev,hv,KV.pv,lk,hl,Aj.ob,KV.cl_pv h1,hn2,hs,AI,h3.1,h3.2,hsh,hcn',AB.out]
      ·cases he
     ·cases hk
   ·cases hk
  ·cases hk
 | lookup c z ok x k =>
  have hb:=hkv (x:=k) (by simp[AC.xs]);simp only[CK] at hk;split at hk
  ·rename_i nm hv;split at hk
   ·rename_i es kk hl h1;split at hk
    case isFalse=>cases hk
    rename_i hz;obtain⟨u,hu,hk⟩:=Db hk;have hes:At es=true:=D4 h.ob hl;unfold lookO at hu;split at hu;·cases hu
    ·rename_i r' hr;obtain⟨h3,h4⟩:=Br hu;cases h4
     have hrz:okV (r'.getD z)=true:=by
      cases r' with
      | none=>exact hz
      | some v=>exact Sq hr hes
     refine⟨_,hk,AB.plain (v:=.cv _) ?_,?_⟩
     ·show okV _=true;split;·simp[okV,At,hrz]
      ·exact hrz
     ·simp[exec,ev,hv,KV.pv,lk,hl,Aj.ob,KV.cl_pv h1,hr,AI,h3,AB.out]
   ·cases hk
  ·exact DZ h hx hk
 | mkS k z l c =>
  simp only[CK] at hk;split at hk
  ·rename_i lv cv hl hc;split at hk
   ·rename_i hz;obtain⟨n,hn,hk⟩:=Db hk;unfold Ki at hn;split at hn
    ·rename_i a b h1 h2;obtain⟨h3,h4⟩:=Br hn;cases h4;refine⟨_,hk,AB.one (o:=.arr k 0 (GU _ z)) trivial (Xx hz.2 _),?_⟩;simp only[Z2,decide_eq_true_eq] at h3;simp[exec,ev,KV.cl_pv hl,KV.cl_pv hc,h1,h2,AI,h3.1,h3.2,hz.1,AB.out,KV.pv,Aj.ob,GU]
    ·cases hn
   ·cases hk
  ·cases hk
 | slice k x lo hi mx =>
  simp only[CK] at hk;split at hk
  ·rename_i nm k' o n hv;split at hk
   ·rename_i hc;obtain⟨hkk,hmx,hall⟩:=hc;obtain⟨m,hm,hk⟩:=Db hk;obtain⟨hh,hhi,hk⟩:=Db hk
    have hev:∀ (y:Option RX),(∀ z∈y.toList,z∈lo.toList++hi.toList++mx.toList)->(y.map fun z=>((z.kv ks.tmps).cl).getD .undef)=Cp ks.st.tmps y:=by
     intro y hy;cases y with
     | none=>rfl
     | some z =>
      have:=an.1 hall z (hy z (by simp));obtain⟨v,hv⟩:=bT.1 this;simp[Cp,hv,ev,KV.cl_pv hv]
    rw[hev mx (fun z hz=>by simp only[ar];exact .inr hz)] at hm;rw[hev hi (fun z hz=>by simp only[ar];exact .inl (.inr hz))] at hhi;unfold DW at hm hhi;subst hkk
    have hmx':((mx.map (RX.ev ks.st.tmps)).isNone||(hi.map (RX.ev ks.st.tmps)).isSome)=true:=by
     rcases hmx with e | e
     ·cases mx with
      | none=>rfl
      | some _=>cases e
     ·cases hi with
      | none=>cases e
      | some _=>simp
    have hevO:∀ y:Option RX,Cp ks.st.tmps y=y.map (RX.ev ks.st.tmps):=fun y=>by cases y<;>rfl
    rw[hevO] at hm hhi;cases lo with
    | none =>
     refine⟨_,hk,AB.plain (v:=.arr nm k o hh) trivial,?_⟩;have hb0:CM (none:Option PV) 0 hh=some 0:=rfl;simp only[exec,ev,hv,KV.pv,FW,hevO,hm,hhi,bL,hb0,AI,beq_self_eq_true,aE,hmx',if_true,AB.out];simp
    | some lo' =>
     obtain⟨l,hl,hk⟩:=Db hk;have hlo:=hev (some lo') (by simp);simp only[ao] at hlo;rw[hlo] at hl;unfold DW at hl;rw[hevO] at hl;rcases Ky hk with ⟨h1,hk⟩ | ⟨h1,hk⟩
     ·unfold Bi at h1;simp only[Z2,N0,L8] at h1;refine⟨_,hk,AB.plain (v:=.cv (.sl k [] false)) rfl,?_⟩;have h2:hh=l/\0 < l:=h1;simp only[exec,ev,hv,KV.pv,FW,hevO,hm,hhi,hl,AI,beq_self_eq_true,aE,hmx',if_true,AB.out,if_pos h2];rfl
     ·unfold Bi at h1;simp only[Bool.and_eq_false_iff] at h1
      have h2:¬ (hh=l/\0 < l):=by
       rintro ⟨a,b⟩;rcases h1 with h1 | h1;·rw[show Ge hh l=true from N0.2 a] at h1;cases h1
       ·rw[show D2 0 l=true from L8.2 b] at h1;cases h1
      refine⟨_,hk,AB.plain (v:=.arr nm k (Av o l) (subN hh l)) trivial,?_⟩;simp only[exec,ev,hv,KV.pv,FW,hevO,hm,hhi,hl,AI,beq_self_eq_true,aE,hmx',if_true,AB.out,if_neg h2,Av,subN];rfl
   ·cases hk
  ·exact DZ h hx hk
 | fieldAddr off x =>
  simp only[CK] at hk;split at hk;·rename_i hv;exact⟨_,hk,AB.plain (by trivial),by simp[exec,ev,hv,KV.pv,AB.out]⟩
  ·rename_i hv;exact⟨_,hk,AB.plain (by trivial),by simp[exec,ev,hv,KV.pv,AB.out]⟩
  ·exact DZ h hx hk
 | field off n ag x =>
  have ha:=hkv (x:=x) (by simp[AC.xs]);simp only[CK] at hk;split at hk
  ·rename_i cs hv;rw[hv] at ha;have hcs:A6 cs:=ha;split at hk
   ·rename_i hag;split at hk
    ·rename_i hle;refine⟨_,hk,AB.plain (v:=.agg ((cs.drop off).take n)) (Nj (Nk hcs _) _),?_⟩;simp[exec,ev,hv,KV.pv,BG,hag,AI,G6,hle,AB.out,LT,LU]
    ·cases hk
   ·rename_i hag;split at hk
    ·rename_i c hc;refine⟨_,hk,AB.plain (Dd.1 hcs c (aj hc)),?_⟩;simp[exec,ev,hv,KV.pv,BG,hag,pvL_get?,hc,AB.out]
    ·cases hk
  ·exact DZ h hx hk
 | idxAddr k x i =>
  simp only[CK] at hk;split at hk
  ·rename_i nm k' o n hv;split at hk
   ·rename_i iv hi;split at hk
    ·rename_i hkk;obtain⟨j,hj,hk⟩:=Db hk;obtain⟨h1,hk⟩:=Br hk;rw[L8] at h1;unfold FR at hj;refine⟨_,hk,AB.plain (v:=.aref nm k (Av o j) 0) trivial,?_⟩;simp[exec,ev,hv,KV.pv,KV.cl_pv hi,hj,AI,hkk,h1,AB.out,Av]
    ·cases hk
   ·cases hk
  ·exact DZ h hx hk
 | extract j x =>
  have ha:=hkv (x:=x) (by simp[AC.xs]);simp only[CK] at hk;split at hk
  ·rename_i xs hv;rw[hv] at ha;have hxs:A6 xs:=ha;split at hk
   ·rename_i v hj;refine⟨_,hk,AB.plain (Dd.1 hxs v (aj hj)),?_⟩;simp[exec,ev,hv,KV.pv,pvL_get?,hj,AB.out]
   ·cases hk
  ·exact DZ h hx hk
 | len c x =>
  simp only[CK] at hk;split at hk
  ·rename_i nm k o n hv;split at hk;·exact⟨_,hk,AB.plain (v:=.cv (nI n)) rfl,by simp[exec,ev,hv,KV.pv,IX,AB.out,nI]⟩
   ·cases hk
  ·rename_i nm hv;split at hk
   ·rename_i es hl;exact⟨_,hk,AB.plain (v:=.cv (nI (halfN (Ae es)))) rfl,by simp[exec,ev,hv,KV.pv,IX,lk,hl,Aj.ob,AB.out,nI,halfN,Ae]⟩
   ·cases hk
  ·exact DZ h hx hk
 | append k ty s x =>
  have ha:=hkv (x:=s) (by simp[AC.xs]);have hb:=hkv (x:=x) (by simp[AC.xs]);simp only[CK] at hk;obtain⟨ys,hk,hyo,hys⟩:=Se h hb hk;split at hk
  ·rename_i nm k' o n hv;split at hk
   ·rename_i k'' kt xs hl;split at hk
    ·rename_i hkk;obtain⟨rfl,rfl,rfl⟩:=hkk;obtain⟨h1,hk⟩:=Br hk;unfold Bi at h1;simp only[Z2,NS,Ae,Av] at h1;have hxs:At xs=true:=D4 h.ob hl;refine⟨_,hk,⟨trivial,by simp,?_,by simp⟩,?_⟩;·intro m o' e;cases e;exact H7 (HB hxs n) hyo
     ·simp[exec,ev,hys,hv,KV.pv,lk,hl,Aj.ob,AI,h1.1,h1.2,AB.out,Av,Ae,A9,As]
    ·cases hk
   ·cases hk
  ·rename_i hv;obtain⟨h1,hk⟩:=Br hk;simp only[NS,Ae] at h1;exact⟨_,hk,AB.one (o:=.arr k ty ys) trivial hyo,by simp[exec,ev,hys,hv,KV.pv,AI,h1,AB.out,Aj.ob,Ae]⟩
  ·rename_i v hv;obtain⟨zs,hz,hk2⟩:=Db hk;rw[hv] at ha;have hvo:okV v=true:=ha;unfold appO at hz;split at hz
   ·obtain⟨h1,h2⟩:=Br hz;cases h2;exact⟨_,hk2,AB.one (o:=.arr k ty ys) trivial hyo,by simp at h1;simp[exec,ev,hys,hv,KV.pv,AI,h1,AB.out,Aj.ob,Ae]⟩
   ·rename_i k' xs;split at hz;·cases hz
    ·rename_i y ys';obtain⟨h1,h2⟩:=Br hz;cases h2;simp only[Z2,beq_iff_eq,decide_eq_true_eq] at h1;obtain⟨rfl,h1⟩:=h1;refine⟨_,hk2,AB.one (o:=.arr k ty (xs++y :: ys')) trivial (H7 (by simpa[okV] using hvo) hyo),?_⟩;simp[exec,ev,hys,hv,KV.pv,AI,h1,AB.out,Aj.ob,Ae]
   ·cases hz
  ·cases hk
 | copy k x s =>
  have ha:=hkv (x:=x) (by simp[AC.xs]);have hb:=hkv (x:=s) (by simp[AC.xs]);simp only[CK] at hk;obtain⟨ys,hk,hyo,hys⟩:=Se h hb hk;split at hk
  ·rename_i nm k' o n hv;split at hk
   ·rename_i k'' kt xs hl;split at hk
    ·rename_i hkk;obtain⟨rfl,rfl⟩:=hkk;obtain⟨h1,hk⟩:=Br hk;simp only[NS,Ae,Av] at h1;have hxs:At xs=true:=D4 h.ob hl;refine⟨_,hk,AB.turn (o:=.arr k kt _) rfl (H7 (H7 (HB hxs o) (HB hyo n)) (It hxs _)),?_⟩;simp[exec,ev,hys,hv,KV.pv,lk,hl,Aj.ob,AI,h1,AB.out,Av,Ae,A9,As,AG,nI,minN];omega
    ·cases hk
   ·cases hk
  ·rename_i hv;exact⟨_,hk,AB.plain (v:=.cv (nI 0)) rfl,by simp[exec,ev,hys,hv,KV.pv,AB.out,nI]⟩
  ·cases hk
 | iter x =>
  simp only[CK] at hk;split at hk
  ·rename_i v hv;obtain⟨s,hs,hk⟩:=Db hk;unfold strO at hs;split at hs
   ·cases hs;exact⟨_,hk,AB.one (o:=.siter s 0) trivial trivial,by simp[exec,ev,KV.cl_pv hv,AB.out,KV.pv,Aj.ob]⟩
   ·cases hs
  ·cases hk
 | next x =>
  simp only[CK] at hk;split at hk
  ·rename_i nm hv;split at hk
   ·rename_i s pos hl;rcases Ky hk with ⟨h1,hk⟩ | ⟨h1,hk⟩
    ·rw[L8] at h1;unfold lenS at h1;refine⟨_,hk,AB.turn (o:=.siter s (Av pos (runeN s pos))) (v:=.tup [.lit true,.cv (nI pos),.cv (runeP s pos)]) ⟨trivial,rfl,rfl,trivial⟩ trivial,?_⟩;simp[exec,ev,hv,KV.pv,lk,hl,Aj.ob,h1,AB.out,AN,nI,runeP,runeN,Av]
    ·have h2:¬ pos < s.length:=by
      intro h3;rw[show D2 pos (lenS s)=true from L8.2 h3] at h1;cases h1
     refine⟨_,hk,AB.plain (v:=.tup [.lit false]) ⟨trivial,trivial⟩,?_⟩;simp[exec,ev,hv,KV.pv,lk,hl,Aj.ob,h2,AB.out,AN]
   ·cases hk
  ·cases hk
 | tassert t z ok x =>
  have ha:=hkv (x:=x) (by simp[AC.xs]);simp only[CK] at hk;split at hk
  ·rename_i u y hv;rw[hv] at ha;have hy:y.ok:=ha;split at hk
   ·rename_i hut;refine⟨_,hk,AB.plain ?_,?_⟩
    ·split;·exact⟨hy,trivial,trivial⟩
     ·exact hy
    ·simp only[exec,ev,hv,KV.pv,hut,if_true,AB.out];cases ok<;>simp[KV.pv,AN]
   ·rename_i hut;split at hk
    ·rename_i hz;refine⟨_,hk,AB.plain (v:=.tup [.cv z,.lit false]) ⟨hz.2,trivial,trivial⟩,?_⟩;simp[exec,ev,hv,KV.pv,hut,AI,hz.1,AB.out,AN]
    ·cases hk
  ·exact DZ h hx hk
 | call f args=>cases hk
 | bad=>cases hk
 | conv k x=>exact DZ h hx hk
 | toBytes x=>exact DZ h hx hk
 | ofBytes x =>
  have ha:=hkv (x:=x) (by simp[AC.xs]);simp only[CK] at hk;split at hk
  ·rename_i nm k o n hv;rw[hv] at ha;obtain⟨ys,hk,hyo,hys⟩:=Se h ha hk;obtain⟨z,hz,hk⟩:=Db hk;simp only[Ad,exec,RX.ev,Qx,ax,AI,if_true,elems,beq_self_eq_true] at hz;cases hb:GN ys with
   | none=>rw[hb] at hz;cases hz
   | some s =>
    rw[hb] at hz;cases hz;refine⟨_,hk,AB.plain (v:=.cv (.str s)) rfl,?_⟩;have hys':elems (Ak ks.st.objs) 1 (.arr nm k o n)=some ys:=hys;simp[exec,ev,hv,KV.pv,Qx,AI,hys',hb,AB.out]
  ·exact DZ h hx hk
 | ofRune x=>exact DZ h hx hk
 | strId x=>exact DZ h hx hk
 | strSlice x lo hi=>exact DZ h hx hk
 | idxAddrA k l x i=>exact DZ h hx hk
 | strIdx x i=>exact DZ h hx hk
 | minmax mx xs=>exact DZ h hx hk
end Go.Ab


namespace Go.Ab
theorem Aj.ren_ob (f:Nm->Nm) {o:Aj} (h:o.ok):(o.ren f).ob=o.ob.ren f:=by
 cases o with
 | cells ty cs=>simp[Aj.ren,Aj.ob,Ob.ren,L5 f h]
 | whole ty v =>
  have:=(Da (DR h)).1;simp only[Aj.ren,Aj.ob,Ob.ren,Ei];rw[Ni this]
 | _=>rfl
theorem Aj.ren_ok (f:Nm->Nm) {o:Aj} (h:o.ok):(o.ren f).ok:=by
 cases o with
 | cells ty cs=>exact LX f h
 | _=>exact h
theorem TY (f:Nm->Nm) (xs ys:List PV):Bs f (xs++ys)=Bs f xs++Bs f ys:=by
 induction xs with
 | nil=>rfl
 | cons x xs ih=>simp[Bs,ih]
def Do (vs:List PV) (i:Nat) (l:List PV):Prop:=∀ m v,l[m]?=some v->Aa vs (i+m)=v
theorem Do.left {vs:List PV} {i:Nat} {a b:List PV} (h:Do vs i (a++b)):Do vs i a:=fun m v hm=>h m v (by
 rw[bv (ac.1 hm).1];exact hm)
theorem Do.right {vs:List PV} {i:Nat} {a b:List PV} (h:Do vs i (a++b)):Do vs (i+a.length) b:=fun m v hm=>by
 have:=h (a.length+m) v (by rw[b8 (by omega)];simpa using hm);rw[<-this,cq]
theorem Do.head {vs:List PV} {i:Nat} {x:PV} {l:List PV} (h:Do vs i (x :: l)):Aa vs i=x:=h 0 x rfl
theorem Do.all (vs:List PV):Do vs 0 vs:=fun m v hm=>by
 unfold Aa;rw[Z9,az,hm];rfl
theorem NR {x:KV} (hx:x.ok) (hf:x.cl.isSome=true) {vs:List PV} {i:Nat} (h:Do vs i [x.cl.getD .undef]):(KV.cv (Aa vs i)).pv=x.pv/\(KV.cv (Aa vs i)).ok:=by
 obtain⟨v,hv⟩:=bT.1 hf;have:=h.head;rw[hv] at this;simp only[aM] at this;rw[this];exact⟨(KV.cl_pv hv).symm,KV.cl_ok hx hv⟩
theorem WI {p:KV} {vs:List PV} {i:Nat} (h:E9 p=false):E9 (fill p vs i).1=false:=by
 cases p<;>simp[E9] at h<;>simp only[fill]<;>first | rfl | (split<;>rfl)
mutual
theorem SY:∀ (p x:KV),Bp p x=true->x.ok->∀ (vs:List PV) (i:Nat),Do vs i (Cc p x)->(fill p vs i).1.pv=x.pv/\(fill p vs i).1.ok/\(fill p vs i).2=i+(Cc p x).length
 | .un,x,h,_,vs,i,_=>by cases x<;>simp[Bp] at h;exact⟨rfl,trivial,rfl⟩
 | .sk,x,h,_,vs,i,_=>by cases x<;>simp[Bp] at h;exact⟨rfl,trivial,rfl⟩
 | .yld d,x,h,_,vs,i,hs=>by
  cases x with
  | yld d' =>
   have h1:Aa vs i=nI d':=hs.head;simp[fill,KV.pv,h1,nI,Al,KV.ok,Cc]
  | _=>simp[Bp] at h
 | .ref nm o,x,h,_,vs,i,_=>by cases x<;>simp[Bp] at h;obtain⟨rfl,rfl⟩:=h;exact⟨rfl,trivial,rfl⟩
 | .aref _ _ _ _,x,h,_,vs,i,_=>by simp[Bp] at h
 | .mp nm,x,h,_,vs,i,_=>by cases x<;>simp[Bp] at h;subst h;exact⟨rfl,trivial,rfl⟩
 | .it nm,x,h,_,vs,i,_=>by cases x<;>simp[Bp] at h;subst h;exact⟨rfl,trivial,rfl⟩
 | .wit nm,x,h,_,vs,i,_=>by cases x<;>simp[Bp] at h;subst h;exact⟨rfl,trivial,rfl⟩
 | .arr nm k o n,x,h,_,vs,i,hs=>by
  cases x with
  | arr nm' k' o' n' =>
   simp only[Bp,Z2,beq_iff_eq] at h;obtain⟨⟨rfl,rfl⟩,ho⟩:=h;have:=bF ho;subst this;have h1:Aa vs i=nI n':=hs.head;simp[fill,KV.pv,h1,nI,Al,KV.ok,Cc]
  | _=>simp[Bp] at h
 | .lit b,x,h,hx,vs,i,hs=>by
  have:=NR hx (by simpa[Bp] using h) (by simpa[Cc] using hs);exact⟨this.1,this.2,by simp[fill,Cc]⟩
 | .nils,x,h,hx,vs,i,hs=>by
  have:=NR hx (by simpa[Bp] using h) (by simpa[Cc] using hs);exact⟨this.1,this.2,by simp[fill,Cc]⟩
 | .cv v,x,h,hx,vs,i,hs=>by
  have:=NR hx (by simpa[Bp] using h) (by simpa[Cc] using hs);exact⟨this.1,this.2,by simp[fill,Cc]⟩
 | .fn f cap,x,h,hx,vs,i,hs=>by
  cases x with
  | fn f' cap' =>
   simp only[Bp,Z2,beq_iff_eq] at h;obtain⟨rfl,h⟩:=h;obtain⟨a,b,c⟩:=LY cap cap' h hx vs i (by simpa[Cc] using hs);exact⟨by simp[fill,KV.pv,a],b,by simp[fill,Cc,c]⟩
  | _=>simp[Bp] at h
 | .tup xs,x,h,hx,vs,i,hs=>by
  cases x with
  | tup ys =>
   simp only[Bp] at h;obtain⟨a,b,c⟩:=LY xs ys h hx vs i (by simpa[Cc] using hs);exact⟨by simp[fill,KV.pv,a],b,by simp[fill,Cc,c]⟩
  | _=>simp[Bp] at h
 | .agg cs,x,h,hx,vs,i,hs=>by
  simp only[Bp] at h;simp only[Cc] at hs;by_cases hc:(D3 cs).isSome=true
  ·rw[if_pos hc] at h hs;have:=NR hx h hs;simp only[fill,hc,if_true];exact⟨this.1,this.2,by simp[Cc,hc]⟩
  ·rw[if_neg hc] at h hs;cases x with
   | agg cs' =>
    obtain⟨a,b,c⟩:=LY cs cs' h hx vs i hs;simp only[fill,if_neg hc];exact⟨by simp[KV.pv,a],b,by simp[Cc,hc,c]⟩
   | _=>simp at h
 | .iface t y,x,h,hx,vs,i,hs=>by
  simp only[Bp] at h;simp only[Cc] at hs;by_cases hc:y.cl.isSome=true
  ·rw[if_pos hc] at h hs;have:=NR hx h hs;simp only[fill,hc,if_true];exact⟨this.1,this.2,by simp[Cc,hc]⟩
  ·rw[if_neg hc] at h hs;cases x with
   | iface t' y' =>
    simp only[Z2,beq_iff_eq] at h;obtain⟨rfl,h⟩:=h;obtain⟨a,b,c⟩:=SY y y' h hx vs i hs;simp only[fill,if_neg hc];exact⟨by simp[KV.pv,a],b,by simp[Cc,hc,c]⟩
   | _=>simp at h
theorem LY:∀ (ps xs:List KV),Ep ps xs=true->A6 xs->∀ (vs:List PV) (i:Nat),Do vs i (Gq ps xs)->AN (C6 ps vs i).1=AN xs/\A6 (C6 ps vs i).1/\(C6 ps vs i).2=i+(Gq ps xs).length
 | [],xs,h,_,vs,i,_=>by cases xs<;>simp[Ep] at h;exact⟨rfl,trivial,rfl⟩
 | p :: ps,xs,h,hx,vs,i,hs=>by
  cases xs with
  | nil=>simp[Ep] at h
  | cons x xs =>
   simp only[Ep,Z2] at h;simp only[Gq] at hs;obtain⟨a,b,c⟩:=SY p x h.1 hx.1 vs i hs.left;obtain⟨a',b',c'⟩:=LY ps xs h.2 hx.2 vs (fill p vs i).2 (by rw[c];exact hs.right);refine⟨by simp[C6,AN,a,a'],⟨b,b'⟩,?_⟩;simp only[C6,Gq,aF];rw[c',c];omega
end
theorem fillOb_ok (p x:Aj) (h:DA p x=true) (hx:x.ok) (vs:List PV) (i:Nat) (hs:Do vs i (G9 p x)):(Cs p vs i).1.ob=x.ob/\(Cs p vs i).1.ok/\(Cs p vs i).2=i+(G9 p x).length:=by
 cases p with
 | cells ty cs =>
  cases x with
  | cells ty' cs' =>
   simp only[DA,Z2,beq_iff_eq] at h;obtain⟨rfl,h⟩:=h;obtain⟨a,b,c⟩:=LY cs cs' h hx vs i (by simpa[G9] using hs);exact⟨by simp[Cs,Aj.ob,a],b,by simp[Cs,G9,c]⟩
  | _=>simp[DA] at h
 | whole ty w =>
  cases x with
  | whole ty' v =>
   simp only[DA,beq_iff_eq] at h;subst h;have:Aa vs i=v:=hs.head;exact⟨by simp[Cs,Aj.ob,this],by simp only[Cs,this];exact hx,by simp[Cs,G9]⟩
  | _=>simp[DA] at h
 | arr k kt ws =>
  cases x with
  | arr k' kt' xs =>
   simp only[DA,Z2,beq_iff_eq] at h;obtain⟨rfl,rfl⟩:=h;have:Aa vs i=.sl k xs false:=hs.head;exact⟨by simp[Cs,Aj.ob,this,Ap],by simp only[Cs,this,Ap];exact hx,by simp[Cs,G9]⟩
  | _=>simp[DA] at h
 | map ws =>
  cases x with
  | map es =>
   have:Aa vs i=.imap es:=hs.head;exact⟨by simp[Cs,Aj.ob,this,Ll],by simp only[Cs,this,Ll];exact hx,by simp[Cs,G9]⟩
  | _=>simp[DA] at h
 | siter s0 p0 =>
  cases x with
  | siter s pos =>
   have h1:Aa vs i=.str s:=hs.head;have h2:Aa vs (i+1)=nI pos:=hs 1 _ rfl;exact⟨by simp[Cs,Aj.ob,h1,h2,strP,Al,nI],trivial,by simp[Cs,G9]⟩
  | _=>simp[DA] at h
theorem RM:∀ (ps xs:List Aj),EN ps xs=true->(∀ o∈xs,o.ok)->∀ (vs:List PV) (i:Nat),Do vs i (Iv ps xs)->(C5 ps vs i).1.map Aj.ob=xs.map Aj.ob/\(∀ o∈(C5 ps vs i).1,o.ok)/\(C5 ps vs i).2=i+(Iv ps xs).length
 | [],[],_,_,vs,i,_=>⟨rfl,by simp[C5],rfl⟩
 | [],_ :: _,h,_,_,_,_=>by simp[EN] at h
 | _ :: _,[],h,_,_,_,_=>by simp[EN] at h
 | p :: ps,x :: xs,h,hx,vs,i,hs=>by
  simp only[EN,Z2] at h;simp only[Iv] at hs;obtain⟨a,b,c⟩:=fillOb_ok p x h.1 (hx x (by simp)) vs i hs.left;obtain⟨a',b',c'⟩:=RM ps xs h.2 (fun o ho=>hx o (by simp[ho])) vs (Cs p vs i).2 (by rw[c];exact hs.right);refine⟨by simp[C5,a,a'],?_,?_⟩
  ·intro o ho;simp only[C5,Z7] at ho;rcases ho with rfl | ho;·exact b
   ·exact b' o ho
  ·simp only[C5,Iv,aF];rw[c',c];omega
mutual
theorem R8:∀ (p:KV) (x:PV) {l:List PV},Ch p x=some l->∀ (vs:List PV) (i:Nat),Do vs i l->(fill p vs i).1.pv=x/\(fill p vs i).1.ok/\(fill p vs i).2=i+l.length
 | .un,x,l,h,vs,i,_=>by cases x<;>simp[Ch] at h;subst h;exact⟨rfl,trivial,rfl⟩
 | .sk,x,l,h,vs,i,_=>by
  simp only[Ch] at h;split at h;·cases h;exact⟨rfl,trivial,rfl⟩
  ·cases h
 | .yld d,x,l,h,vs,i,hs=>by
  cases x with
  | yld d' =>
   simp only[Ch] at h;cases h;have h1:Aa vs i=nI d':=hs.head;simp[fill,KV.pv,h1,nI,Al,KV.ok]
  | _=>simp[Ch] at h
 | .aref _ _ _ _,x,l,h,vs,i,_=>by simp[Ch] at h
 | .wit nm,x,l,h,vs,i,_=>by
  simp only[Ch] at h;split at h
  ·obtain⟨h1,h2⟩:=Br h;simp at h1 h2;subst h1;subst h2;exact⟨rfl,trivial,rfl⟩
  ·cases h
 | .ref nm o,x,l,h,vs,i,_=>by
  cases x<;>simp[Ch] at h;obtain⟨h1,h2⟩:=Br h;simp at h1 h2;obtain⟨rfl,rfl⟩:=h1;subst h2;exact⟨rfl,trivial,rfl⟩
 | .mp nm,x,l,h,vs,i,_=>by
  cases x<;>simp[Ch] at h;obtain⟨h1,h2⟩:=Br h;simp at h1 h2;subst h1;subst h2;exact⟨rfl,trivial,rfl⟩
 | .it nm,x,l,h,vs,i,_=>by
  cases x<;>simp[Ch] at h;obtain⟨h1,h2⟩:=Br h;simp at h1 h2;subst h1;subst h2;exact⟨rfl,trivial,rfl⟩
 | .arr nm k o n,x,l,h,vs,i,hs=>by
  cases x with
  | arr nm' k' o' n' =>
   simp only[Ch] at h;obtain⟨h1,h2⟩:=Br h;cases h2;simp only[Z2,beq_iff_eq] at h1;obtain⟨⟨rfl,rfl⟩,ho⟩:=h1;have:=bF ho;subst this;have h1:Aa vs i=nI n':=hs.head;simp[fill,KV.pv,h1,nI,Al,KV.ok]
  | _=>simp[Ch] at h
 | .lit b,x,l,h,vs,i,hs=>by
  simp only[Ch] at h;obtain⟨h1,h2⟩:=Br h;cases h2;have:=hs.head;exact⟨this,by simp only[fill,KV.ok,this];exact h1,rfl⟩
 | .nils,x,l,h,vs,i,hs=>by
  simp only[Ch] at h;obtain⟨h1,h2⟩:=Br h;cases h2;have:=hs.head;exact⟨this,by simp only[fill,KV.ok,this];exact h1,rfl⟩
 | .cv v,x,l,h,vs,i,hs=>by
  simp only[Ch] at h;obtain⟨h1,h2⟩:=Br h;cases h2;have:=hs.head;exact⟨this,by simp only[fill,KV.ok,this];exact h1,rfl⟩
 | .fn f cap,x,l,h,vs,i,hs=>by
  cases x with
  | fn f' cap' =>
   simp only[Ch] at h;split at h
   ·rename_i hf;subst hf;obtain⟨a,b,c⟩:=M9 cap cap' h vs i hs;exact⟨by simp[fill,KV.pv,a],b,c⟩
   ·cases h
  | _=>simp[Ch] at h
 | .tup xs,x,l,h,vs,i,hs=>by
  cases x with
  | tup ys =>
   simp only[Ch] at h;obtain⟨a,b,c⟩:=M9 xs ys h vs i hs;exact⟨by simp[fill,KV.pv,a],b,c⟩
  | _=>simp[Ch] at h
 | .agg cs,x,l,h,vs,i,hs=>by
  simp only[Ch] at h;by_cases hc:(D3 cs).isSome=true
  ·rw[if_pos hc] at h;obtain⟨h1,h2⟩:=Br h;cases h2;have:=hs.head;simp only[fill,hc,if_true];exact⟨this,by simp only[KV.ok,this];exact h1,rfl⟩
  ·rw[if_neg hc] at h;cases x with
   | agg cs' =>
    obtain⟨a,b,c⟩:=M9 cs cs' h vs i hs;simp only[fill,if_neg hc];exact⟨by simp[KV.pv,a],b,c⟩
   | _=>simp at h
 | .iface t y,x,l,h,vs,i,hs=>by
  simp only[Ch] at h;by_cases hc:y.cl.isSome=true
  ·rw[if_pos hc] at h;obtain⟨h1,h2⟩:=Br h;cases h2;have:=hs.head;simp only[fill,hc,if_true];exact⟨this,by simp only[KV.ok,this];exact h1,rfl⟩
  ·rw[if_neg hc] at h;cases x with
   | iface t' y' =>
    simp only at h;split at h
    ·rename_i ht;subst ht;obtain⟨a,b,c⟩:=R8 y y' h vs i hs;simp only[fill,if_neg hc];exact⟨by simp[KV.pv,a],b,c⟩
    ·cases h
   | _=>simp at h
theorem M9:∀ (ps:List KV) (xs:List PV) {l:List PV},HS ps xs=some l->∀ (vs:List PV) (i:Nat),Do vs i l->AN (C6 ps vs i).1=xs/\A6 (C6 ps vs i).1/\(C6 ps vs i).2=i+l.length
 | [],xs,l,h,vs,i,_=>by cases xs<;>simp[HS] at h;subst h;exact⟨rfl,trivial,rfl⟩
 | p :: ps,xs,l,h,vs,i,hs=>by
  cases xs with
  | nil=>simp[HS] at h
  | cons y ys =>
   simp only[HS] at h;split at h
   ·rename_i a b ha hb;cases h;obtain⟨a1,a2,a3⟩:=R8 p y ha vs i hs.left;obtain⟨b1,b2,b3⟩:=M9 ps ys hb vs (fill p vs i).2 (by rw[a3];exact hs.right);refine⟨by simp[C6,AN,a1,b1],⟨a2,b2⟩,?_⟩;simp only[C6,aF];rw[b3,a3];omega
   ·cases h
end
theorem YA (p:Aj) (x:Ob) {l:List PV} (h:Fj p x=some l) (vs:List PV) (i:Nat) (hs:Do vs i l):(Cs p vs i).1.ob=x/\(Cs p vs i).1.ok/\(Cs p vs i).2=i+l.length:=by
 cases p with
 | cells ty cs =>
  cases x with
  | cells ty' cs' =>
   simp only[Fj] at h;split at h
   case isFalse=>cases h
   rename_i hty;subst hty;obtain⟨a,b,c⟩:=M9 cs cs' h vs i hs;exact⟨by simp[Cs,Aj.ob,a],b,c⟩
  | _=>simp[Fj] at h
 | whole ty w =>
  cases x with
  | cells ty' cs' =>
   simp only[Fj] at h;obtain⟨h1,h2⟩:=Br h;cases h2;simp only[Z2,beq_iff_eq] at h1;obtain⟨rfl,h1⟩:=h1;have:Aa vs i=.agg cs':=hs.head;exact⟨by simp[Cs,Aj.ob,this,Ei,PV.cells],by simp only[Cs,this];simpa[Aj.ok,okV] using h1,rfl⟩
  | _=>simp[Fj] at h
 | arr k kt ws =>
  cases x with
  | arr k' kt' xs =>
   simp only[Fj] at h;obtain⟨h1,h2⟩:=Br h;cases h2;simp only[Z2,beq_iff_eq] at h1;obtain⟨⟨rfl,rfl⟩,h1⟩:=h1;have:Aa vs i=.sl k xs false:=hs.head;exact⟨by simp[Cs,Aj.ob,this,Ap],by simp only[Cs,this,Ap];exact h1,rfl⟩
  | _=>simp[Fj] at h
 | map ws =>
  cases x with
  | map es =>
   simp only[Fj] at h;obtain⟨h1,h2⟩:=Br h;cases h2;have:Aa vs i=.imap es:=hs.head;exact⟨by simp[Cs,Aj.ob,this,Ll],by simp only[Cs,this,Ll];exact h1,rfl⟩
  | _=>simp[Fj] at h
 | siter s0 p0 =>
  cases x with
  | siter s pos =>
   simp only[Fj] at h;cases h;have h1:Aa vs i=.str s:=hs.head;have h2:Aa vs (i+1)=nI pos:=hs 1 _ rfl;exact⟨by simp[Cs,Aj.ob,h1,h2,strP,Al,nI],trivial,rfl⟩
  | _=>simp[Fj] at h
theorem Rd:∀ (ps:List Aj) (xs:List Ob) {l:List PV},IH ps xs=some l->∀ (vs:List PV) (i:Nat),Do vs i l->(C5 ps vs i).1.map Aj.ob=xs/\(∀ o∈(C5 ps vs i).1,o.ok)/\(C5 ps vs i).2=i+l.length
 | [],xs,l,h,vs,i,_=>by cases xs<;>simp[IH] at h;subst h;exact⟨rfl,by simp[C5],rfl⟩
 | p :: ps,xs,l,h,vs,i,hs=>by
  cases xs with
  | nil=>simp[IH] at h
  | cons y ys =>
   simp only[IH] at h;split at h
   ·rename_i a b ha hb;cases h;obtain⟨a1,a2,a3⟩:=YA p y ha vs i hs.left;obtain⟨b1,b2,b3⟩:=Rd ps ys hb vs (Cs p vs i).2 (by rw[a3];exact hs.right);refine⟨by simp[C5,a1,b1],?_,?_⟩
    ·intro o ho;simp only[C5,Z7] at ho;rcases ho with rfl | ho;·exact a2
     ·exact b2 o ho
    ·simp only[C5,aF];rw[b3,a3];omega
   ·cases h
mutual
theorem ren_ren (f g:Nm->Nm):∀ (x:PV),(x.ren f).ren g=x.ren fun m=>g (f m)
 | .agg cs=>by simp[PV.ren,Nh f g cs]
 | .iface t x=>by simp[PV.ren,ren_ren f g x]
 | .fn h cap=>by simp[PV.ren,Nh f g cap]
 | .tup xs=>by simp[PV.ren,Nh f g xs]
 | .undef | .bool _ | .int _ _ | .str _ | .nilS | .nilP | .nilF | .nilI | .nilM | .sl _ _ _ | .ptr _ _ | .yld _ | .imap _ | .glob _ _ | .ref _ _ | .aref _ _ _ _ | .arr _ _ _ _ | .mp _ | .it _=>by simp[PV.ren]
theorem Nh (f g:Nm->Nm):∀ (xs:List PV),Bs g (Bs f xs)=Bs (fun m=>g (f m)) xs
 | []=>rfl
 | x :: xs=>by simp[Bs,ren_ren f g x,Nh f g xs]
end
mutual
theorem ren_congr {f g:Nm->Nm}:∀ {x:PV},(∀ m∈x.names,f m=g m)->x.ren f=x.ren g
 | .agg cs,h=>by simp only[PV.ren];rw[M4 (xs:=cs) h]
 | .iface t x,h=>by simp only[PV.ren];rw[ren_congr (x:=x) h]
 | .fn _ cap,h=>by simp only[PV.ren];rw[M4 (xs:=cap) h]
 | .tup xs,h=>by simp only[PV.ren];rw[M4 (xs:=xs) h]
 | .ref nm _,h | .aref nm _ _ _,h | .arr nm _ _ _,h | .mp nm,h | .it nm,h=>by simp only[PV.ren];rw[h nm (by simp[PV.names])]
 | .undef,_ | .bool _,_ | .int _ _,_ | .str _,_ | .nilS,_ | .nilP,_ | .nilF,_ | .nilI,_ | .nilM,_ | .sl _ _ _,_ | .ptr _ _,_ | .yld _,_ | .imap _,_ | .glob _ _,_=>by simp[PV.ren]
theorem M4 {f g:Nm->Nm}:∀ {xs:List PV},(∀ m∈AR xs,f m=g m)->Bs f xs=Bs g xs
 | [],_=>rfl
 | x :: xs,h=>by
  simp only[Bs];rw[ren_congr (x:=x) fun m hm=>h m (ak _ hm),M4 (xs:=xs) fun m hm=>h m (aw _ hm)]
end
mutual
theorem cut_names {p:Nm->Bool}:∀ {x:PV} {m:Nm},m∈(x.sub fun m=>if p m then none else some none).names->p m=true
 | .agg cs,m,h=>Na (xs:=cs) (by simpa[PV.sub,PV.names] using h)
 | .iface t x,m,h=>cut_names (x:=x) (by simpa[PV.sub,PV.names] using h)
 | .fn _ cap,m,h=>Na (xs:=cap) (by simpa[PV.sub,PV.names] using h)
 | .tup xs,m,h=>Na (xs:=xs) (by simpa[PV.sub,PV.names] using h)
 | .ref nm _,m,h | .aref nm _ _ _,m,h | .arr nm _ _ _,m,h | .mp nm,m,h | .it nm,m,h=>by
  simp only[PV.sub] at h;cases hp:p nm with
  | true=>simp[hp,PV.names] at h;rw[h];exact hp
  | false=>simp[hp,PV.names] at h
 | .undef,m,h | .bool _,m,h | .int _ _,m,h | .str _,m,h | .nilS,m,h | .nilP,m,h | .nilF,m,h | .nilI,m,h | .nilM,m,h | .sl _ _ _,m,h | .ptr _ _,m,h | .yld _,m,h | .imap _,m,h | .glob _ _,m,h=>by simp[PV.sub,PV.names] at h
theorem Na {p:Nm->Bool}:∀ {xs:List PV} {m:Nm},m∈AR (A2 (fun m=>if p m then none else some none) xs)->p m=true
 | [],m,h=>by simp[A2,AR] at h
 | x :: xs,m,h=>by
  simp only[A2,AR] at h;rcases ar.1 h with h | h;·exact cut_names h
  ·exact Na h
end
theorem Ob.ren_ren (f g:Nm->Nm) (o:Ob):(o.ren f).ren g=o.ren fun m=>g (f m):=by
 cases o<;>simp[Ob.ren,Nh]
theorem Ob.ren_congr {f g:Nm->Nm} {o:Ob} (h:∀ m∈o.names,f m=g m):o.ren f=o.ren g:=by
 cases o with
 | cells ty cs=>simp only[Ob.ren];rw[M4 h]
 | _=>rfl
theorem Ob.cut_names {p:Nm->Bool} {o:Ob} {m:Nm} (h:m∈(o.sub fun m=>if p m then none else some none).names):p m=true:=by
 cases o with
 | cells ty cs=>exact Na h
 | _=>simp[Ob.sub,Ob.names] at h
theorem Yr (g:Nm->Nm):∀ (B:List (Nm×Nm)) (m:Nm),(B.map fun p=>(p.1,g p.2)).lookup m=(B.lookup m).map g:=by
 intro B;induction B with
 | nil=>intro m;rfl
 | cons p B ih =>
  obtain⟨a,b⟩:=p;intro m;simp only[ZZ,cG];split<;>simp_all
theorem Yq {B:List (Nm×Nm)}:∀ {m:Nm},(B.map (·.1)).contains m=true->∃ t,B.lookup m=some t:=by
 induction B with
 | nil=>intro m h;simp at h
 | cons p B ih =>
  obtain⟨a,b⟩:=p;intro m h;rw[cG];split;·exact⟨_,rfl⟩
  ·rename_i hne;refine ih ?_;simp only[ZZ,cY,hne,aV] at h;exact h
theorem ioEnd_ren {R:List Nm} {sl:Option Nat} {d i0:Nat} {st:St} {v:PV} {out:AO} (h:GY none 1 0 (EO R.length) st v=some out) :
  GY sl d i0 R st v=some {v:=out.v.ren (Cg R d i0),new:=out.new.map (Ob.ren (Cg R d i0)),gone:=out.gone.map (Cg R d i0),ups:=R.zip (out.ups.map fun p=>p.2.ren (Cg R d i0)),io:=true,slot:=sl}:=by
 have hcl:(EO R.length).length=R.length:=by simp[EO]
 have hA:FX R st.keep=(FX (EO R.length) st.keep).map fun p=>(p.1,Cg R d i0 p.2):=by
  apply aO;intro i;simp only[FX,aa,bw,az,EO];by_cases hi:i < R.length
  ·rw[ab hi,bo hi];simp[Cg,Z9,ab hi]
  ·rw[aI.2 (by omega),aI.2 (by simp;omega)];rfl
 have hF:(FX R st.keep).map (·.1)=(FX (EO R.length) st.keep).map (·.1):=by
  rw[hA,ay];rfl
 have hN:K3 (Ak st.objs) (FX R st.keep) v=K3 (Ak st.objs) (FX (EO R.length) st.keep) v:=by
  unfold K3;rw[hF]
  have:∀ A A':List (Nm×Nm),A.map (·.1)=A'.map (·.1)->(A.flatMap fun p=>((Ak st.objs p.1).map Ob.names).getD [])=A'.flatMap fun p=>((Ak st.objs p.1).map Ob.names).getD []:=by
   intro A A' h
   have e:∀ A:List (Nm×Nm),(A.flatMap fun p=>((Ak st.objs p.1).map Ob.names).getD [])=(A.map (·.1)).flatMap fun m=>((Ak st.objs m).map Ob.names).getD []:=by
    intro A;rw[cZ]
   rw[e,e,h]
  rw[this _ _ hF]
 unfold GY at h |-;simp only at h |-;rw[hN];generalize K3 (Ak st.objs) (FX (EO R.length) st.keep) v=N at h |-;generalize hA0:FX (EO R.length) st.keep=A0 at h hA;generalize hB0:(A0++N.zipIdx.map fun p=>(p.1,(1,0+p.2)))=B0 at h
 have hB:FX R st.keep++N.zipIdx.map (fun p=>(p.1,(d,i0+p.2)))=B0.map fun p=>(p.1,Cg R d i0 p.2):=by
  rw[<-hB0,bm,hA,ay];congr 1;exact aD fun p _=>by simp[Cg]
 rw[hB];have hBf:(B0.map fun p=>(p.1,Cg R d i0 p.2)).map (·.1)=B0.map (·.1):=by rw[ay];rfl
 rw[hBf];obtain⟨h1,h2⟩:=DT h;cases h2
 have hnm:∀ m,(B0.map (·.1)).contains m=true->((B0.map fun p=>(p.1,Cg R d i0 p.2)).lookup m).getD m=Cg R d i0 ((B0.lookup m).getD m):=by
  intro m hm;obtain⟨t,ht⟩:=Yq hm;rw[Yr,ht];rfl
 have hob:∀ nm,G2 (Ak st.objs) (B0.map fun p=>(p.1,Cg R d i0 p.2)) nm=(G2 (Ak st.objs) B0 nm).ren (Cg R d i0):=by
  intro nm;unfold G2;rw[hBf,Ob.ren_ren];exact Ob.ren_congr fun m hm=>hnm m (Ob.cut_names hm)
 simp only[AI,h1,if_true,Z6,AO.mk.injEq,true_and,and_true];refine⟨?_,?_,?_,?_⟩
 ·rw[ren_ren];exact ren_congr fun m hm=>hnm m (cut_names hm)
 ·rw[ay];exact aD fun m _=>hob m
 ·simp only[JR];apply aO;intro i
  have e:(R.zipIdx.filter fun p=>(F7 (st.keep.getD p.2 .undef)).isNone).map (·.1)=(((EO R.length).zipIdx.filter fun p=>(F7 (st.keep.getD p.2 .undef)).isNone).map (·.1)).map (Cg R d i0):=by
   have hz:R.zipIdx=(EO R.length).zipIdx.map fun p=>(Cg R d i0 p.1,p.2):=by
    apply aO;intro i;simp only[aa,bw,az,EO];by_cases hi:i < R.length
    ·rw[ab hi,bo hi];simp[Cg,Z9,ab hi]
    ·rw[aI.2 (by omega),aI.2 (by simp;omega)];rfl
   rw[hz,List.filter_map,ay,ay];rfl
  rw[e]
 ·have hR2:A0.map (fun p=>Cg R d i0 p.2)=R:=by
   rw[<-hA0];apply aO;intro i;simp only[FX,aa,bw,az,EO];by_cases hi:i < R.length
   ·rw[ab hi,bo hi];simp[Cg,Z9,ab hi]
   ·rw[aI.2 (by omega:R.length<=i),aI.2 (by simp;omega)];rfl
  have hz:∀ (l:List (Nm×Nm)) (f:Nm×Nm->Nm) (g:Nm×Nm->Ob),l.map (fun p=>(f p,g p))=(l.map f).zip (l.map g):=by
   intro l f g;induction l with
   | nil=>rfl
   | cons p l ih=>simp[ih]
  have e1:(A0.map fun p=>(p.1,Cg R d i0 p.2)).map (fun p=>(p.2,G2 (Ak st.objs) (B0.map fun p=>(p.1,Cg R d i0 p.2)) p.1))=A0.map fun p=>(Cg R d i0 p.2,(G2 (Ak st.objs) B0 p.1).ren (Cg R d i0)):=by
   rw[ay];exact aD fun p _=>by simp only[Function.comp,hob]
  rw[hA,e1,hz,hR2,ay];rfl
end Go.Ab


namespace Go.Ab
noncomputable def WW (sp:FuncId->(Nm->Option Ob)->List PV->Option AO) (tab:FuncId->Option Au):Ht:=fun E h dep g args e=>lim fun n=>B1 sp tab n E h dep g args e
def Dy (sp:FuncId->(Nm->Option Ob)->List PV->Option AO) (tab:FuncId->Option Au) (n:Nat):Bf:=EC sp tab n
theorem Js (sp:FuncId->(Nm->Option Ob)->List PV->Option AO) (tab:FuncId->Option Au) (n:Nat):(Dy sp tab n).sp=sp:=SE sp tab n
theorem OU (sp:FuncId->(Nm->Option Ob)->List PV->Option AO) (tab:FuncId->Option Au) (n:Nat):(Dy sp tab n).isIo=Fi tab:=RN sp tab n
theorem Yp (sp:FuncId->(Nm->Option Ob)->List PV->Option AO) (tab:FuncId->Option Au) (n:Nat):(Dy sp tab n).leans=GL tab:=Ru sp tab n
theorem Zp (sp:FuncId->(Nm->Option Ob)->List PV->Option AO) (tab:FuncId->Option Au) (n:Nat):(Dy sp tab n).flat=Jx tab:=RO sp tab n
theorem Uv (sp:FuncId->(Nm->Option Ob)->List PV->Option AO) (tab:FuncId->Option Au) (n:Nat):(Dy sp tab n).call=B1 sp tab n:=rfl
noncomputable def Qq (sp:FuncId->(Nm->Option Ob)->List PV->Option AO) (tab:FuncId->Option Au) (g:FuncId) (ins:List Ob) (vs:List PV):Option (St×PV) :=
 match tab g with
 | some fn=>lim fun n=>HR (Dy sp tab n) n fn ins vs
 | none=>none
structure Eb (cfg:D1) (tab:FuncId->Option Au):Prop where
 L:cfg.b.L=WW cfg.b.sp tab
 I:cfg.b.I=Qq cfg.b.sp tab
 isIo:cfg.b.isIo=Fi tab
 leans:cfg.b.leans=GL tab
 flat:∀ g,cfg.flatF g=true->Jx tab g=true
 ioF:∀ g,(cfg.ioF g).isSome=Fi tab g
 ioP:∀ g P,cfg.ioF g=some P->∃ fn,tab g=some fn/\0 < fn.nt/\∀ xs os,(P xs os).args.length<=fn.nt/\(P xs os).ins.length<=fn.nt
 spF:∀ g,cfg.spF g=false->∀ σ vs,cfg.b.sp g σ vs=none
 loc:∀ g σ vs,At vs=true->cfg.b.sp g σ vs=cfg.b.sp g (fun _=>none) vs
 spK:∀ g s,cfg.spK g=some s->∀ σ xs out,A6 xs->(∀ nm o,σ nm=some o->o.ok)->s σ xs=some (true,out)->out.Ok/\cfg.b.sp g (fun nm=>(σ nm).map Aj.ob) (AN xs)=some out.out/\∀ f,out.out.v.ren f=out.out.v
 asOk:∀ g p t n,cfg.asT g p=some (t,n)->∀ σ nm ty cs,σ nm=some (.cells ty cs)->cs.length=n->cfg.b.sp g σ [.nilI,.iface p (.ref nm 0)]=some {v:=.bool false} /\
  ∀ x,AA x n=true->cfg.b.sp g σ [.iface t x,.iface p (.ref nm 0)]=some {v:=.bool true,upd:=some (nm,.cells ty x.cells)}
def HOk {E:Type} (h:Ay E) (hn:Nat->Ay E):Prop:=∀ l args e r,h l args e=some r->Bj fun n=>hn n l args e=some r
mutual
theorem VJ (d:Nat) {obs:List Ob}:∀ (sh:Bq) (j:Nat) (v:PV) {u:PV} {j':Nat},sh.fix=true->CL obs sh j v=some (u,j') ->
  (D0 d sh j u).1.pv=v.ren (E6 d)/\(D0 d sh j u).2.1.map Aj.ob=(obs.drop j).take (j' - j)/\(D0 d sh j u).2.2=j'/\(D0 d sh j u).1.ok/\(∀ o∈(D0 d sh j u).2.1,o.ok)/\j<=j'
 | .opt k,j,v,u,j',hf,h=>by cases hf
 | .cl,j,v,u,j',_,h=>by
  simp only[CL] at h;obtain⟨h1,h2⟩:=Br h;cases h2;refine⟨?_,by simp[D0],rfl,h1,by simp[D0],Z5 _⟩;simp only[D0,KV.pv];rw[KC (EZ h1).1]
 | .own k,j,v,u,j',_,h=>by
  simp only[CL] at h;split at h
  ·rename_i nm k' o n k'' kt xs hj;obtain⟨h1,h2⟩:=Br h;cases h2;simp only[Z2,beq_iff_eq] at h1;obtain⟨⟨⟨⟨⟨⟨rfl,rfl⟩,rfl⟩,rfl⟩,rfl⟩,rfl⟩,hok⟩:=h1;refine⟨by simp[D0,KV.pv,PV.ren,E6,Ae,Ap],?_,rfl,trivial,?_,by omega⟩
   ·have hlt:=(ac.1 hj).1
    have hd:obs.drop j=.arr k 0 xs :: obs.drop (j+1):=by
     obtain⟨hi,he⟩:=ac.1 hj;rw[<-he];exact ch hi
    rw[hd,show j+1 - j=1 by omega];simp[D0,Aj.ob,Ap]
   ·intro o ho;simp only[D0,aJ] at ho;subst ho;exact hok
  ·cases h
 | .tup l,j,v,u,j',hf,h=>by
  simp only[CL] at h;split at h
  ·rename_i vs;obtain⟨p,hp,he⟩:=Z3.1 h;cases he;obtain⟨h1,h2,h3,h4,h5,h6⟩:=RQ d l j vs (us:=p.1) (j':=p.2) hf hp (.tup p.1) 0 (by intro i _;simp[HY]);simp only[D0];exact⟨by simp[KV.pv,PV.ren,h1],h2,h3,h4,h5,h6⟩
  ·cases h
 | .agg l,j,v,u,j',hf,h=>by
  simp only[CL] at h;split at h
  ·rename_i vs;obtain⟨p,hp,he⟩:=Z3.1 h;cases he;obtain⟨h1,h2,h3,h4,h5,h6⟩:=RQ d l j vs (us:=p.1) (j':=p.2) hf hp (.agg p.1) 0 (by intro i _;simp[HY]);simp only[D0];exact⟨by simp[KV.pv,PV.ren,h1],h2,h3,h4,h5,h6⟩
  ·cases h
theorem RQ (d:Nat) {obs:List Ob}:∀ (l:List Bq) (j:Nat) (vs:List PV) {us:List PV} {j':Nat},fixL l=true->F5 obs l j vs=some (us,j')->∀ (r:PV) (i:Nat),(∀ m,m < us.length->HY r (i+m)=us.getD m .undef) ->
  AN (Im d l j r i).1=Bs (E6 d) vs/\(Im d l j r i).2.1.map Aj.ob=(obs.drop j).take (j' - j)/\(Im d l j r i).2.2=j'/\A6 (Im d l j r i).1/\(∀ o∈(Im d l j r i).2.1,o.ok)/\j<=j'
 | [],j,vs,us,j',_,h,r,i,_=>by
  cases vs with
  | nil=>simp only[F5] at h;cases h;simp[Im,AN,Bs,A6]
  | cons v vs=>simp[F5] at h
 | s :: l,j,vs,us,j',hf,h,r,i,hr=>by
  simp only[fixL,Z2] at hf;cases vs with
  | nil=>simp[F5] at h
  | cons v vs =>
   simp only[F5] at h;split at h
   ·rename_i u j1 hu;obtain⟨p,hp,he⟩:=Z3.1 h;obtain⟨us',j2⟩:=p;cases he;have h0:HY r i=u:=by have:=hr 0 (by simp);simpa using this
    obtain⟨a1,a2,a3,a4,a5,a6⟩:=VJ d s j v hf.1 hu
    obtain⟨b1,b2,b3,b4,b5,b6⟩:=RQ d l j1 vs hf.2 hp r (i+1) (fun m hm=>by
     have:=hr (m+1) (by simp;omega);rw[show i+(m+1)=i+1+m by omega] at this;simpa using this)
    simp only[Im,h0,a3];refine⟨by simp[AN,Bs,a1,b1],?_,b3,⟨a4,b4⟩,?_,by omega⟩
    ·rw[bm,a2,b2];have e1:obs.drop j1=(obs.drop j).drop (j1 - j):=by rw[bQ];congr 1;omega
     rw[e1,show j2 - j=(j1 - j)+(j2 - j1) by omega,List.take_add]
    ·intro o ho;rcases ar.1 ho with ho | ho;·exact a5 o ho
     ·exact b5 o ho
   ·cases h
end
theorem Sg (d:Nat) {obs:List Ob} {sh:Bq} {v u:PV} (hf:sh.fix=true) (h:El sh v obs=some u):(D0 d sh 0 u).1.pv=v.ren (E6 d)/\(D0 d sh 0 u).2.1.map Aj.ob=obs/\(D0 d sh 0 u).1.ok/\∀ o∈(D0 d sh 0 u).2.1,o.ok:=by
 unfold El at h;split at h
 ·rename_i r j hr;obtain⟨h1,h2⟩:=Br h;cases h2;simp only[beq_iff_eq] at h1;obtain⟨a1,a2,a3,a4,a5,a6⟩:=VJ d sh 0 v hf hr;refine⟨a1,?_,a4,a5⟩;rw[a2,h1];simp
 ·cases h
mutual
theorem Uk {R:Type} {r:R}:∀ (sh:Bq) (u:PV) {K:Bq->Option R},IE sh u K=some r ->
  ∃ sh',sh'.fix=true/\K sh'=some r/\∀ obs j v j',CL obs sh j v=some (u,j')->CL obs sh' j v=some (u,j')
 | .cl,u,K,h=>⟨.cl,rfl,h,fun _ _ _ _ h=>h⟩
 | .own k,u,K,h=>⟨.own k,rfl,h,fun _ _ _ _ h=>h⟩
 | .opt k,u,K,h=>by
  simp only[IE] at h;unfold nilB at h;split at h
  ·refine⟨.cl,rfl,h,fun obs j v j' hc=>?_⟩;simp only[CL] at hc;split at hc;·cases hc;rfl
   ·obtain⟨_,hc⟩:=Br hc;cases hc
   ·cases hc
  ·rename_i hu;refine⟨.own k,rfl,h,fun obs j v j' hc=>?_⟩;simp only[CL] at hc;split at hc;·cases hc;exact absurd rfl hu
   ·rename_i hj;simp only[CL,hj];exact hc
   ·cases hc
 | .tup l,u,K,h=>by
  simp only[IE] at h;obtain⟨l',h1,h2,h3⟩:=Rh l u 0 h;refine⟨.tup l',h1,h2,fun obs j v j' hc=>?_⟩;simp only[CL] at hc |-;split at hc
  ·obtain⟨p,hp,he⟩:=Z3.1 hc;cases he;rw[h3 obs j _ p.1 p.2 hp (by intro i _;simp[HY])];rfl
  ·cases hc
 | .agg l,u,K,h=>by
  simp only[IE] at h;obtain⟨l',h1,h2,h3⟩:=Rh l u 0 h;refine⟨.agg l',h1,h2,fun obs j v j' hc=>?_⟩;simp only[CL] at hc |-;split at hc
  ·obtain⟨p,hp,he⟩:=Z3.1 hc;cases he;rw[h3 obs j _ p.1 p.2 hp (by intro i _;simp[HY])];rfl
  ·cases hc
theorem Rh {R:Type} {r:R}:∀ (l:List Bq) (u:PV) (i:Nat) {K:List Bq->Option R},Nw l u i K=some r ->
  ∃ l',fixL l'=true/\K l'=some r/\∀ obs j vs us j',F5 obs l j vs=some (us,j')->(∀ m,m < us.length->HY u (i+m)=us.getD m .undef)->F5 obs l' j vs=some (us,j')
 | [],u,i,K,h=>⟨[],rfl,h,fun _ _ _ _ _ h _=>h⟩
 | s :: l,u,i,K,h=>by
  simp only[Nw] at h;obtain⟨s',h1,h,h3⟩:=Uk s (HY u i) h;obtain⟨l',g1,h,g3⟩:=Rh l u (i+1) h;refine⟨s' :: l',by simp[fixL,h1,g1],h,fun obs j vs us j' hc hu=>?_⟩;cases vs with
  | nil=>simp[F5] at hc
  | cons v vs =>
   simp only[F5] at hc |-;split at hc
   ·rename_i w j1 hw;obtain⟨p,hp,he⟩:=Z3.1 hc;obtain⟨us',j2⟩:=p;cases he;have h0:HY u i=w:=by have:=hu 0 (by simp);simpa using this
    rw[h3 obs j v j1 (by rw[h0];exact hw)];simp only
    rw[g3 obs j1 vs us' j2 hp (fun m hm=>by
     have:=hu (m+1) (by simp;omega);rw[show i+(m+1)=i+1+m by omega] at this;simpa using this)]
    simp only[ao,h0]
   ·cases hc
end
theorem RU {R:Type} {r:R} {sh:Bq} {u:PV} {K:Bq->Option R} (h:IE sh u K=some r) :
  ∃ sh',sh'.fix=true/\K sh'=some r/\∀ v obs,El sh v obs=some u->El sh' v obs=some u:=by
 obtain⟨sh',h1,h2,h3⟩:=Uk sh u h;refine⟨sh',h1,h2,fun v obs hc=>?_⟩;unfold El at hc |-;split at hc
 ·rename_i w j hw;obtain⟨c1,c2⟩:=Br hc;cases c2;rw[h3 obs 0 v j hw];simp only[c1,Af]
 ·cases hc
section
variable {cfg:D1} {tab:FuncId->Option Au} {ks:AE} {E R:Type} {h:Ay E} {hn:Nat->Ay E} {K:AB->E->Option R} {r:R} {e:E} {d dep:Nat}
theorem spO_ok (hc:Eb cfg tab) {g:FuncId} {vs:List PV} (hvs:At vs=true) {x:Option (PV×List Ob)} (h:spO cfg.b.sp g vs=some x) (σ:Nm->Option Ob) :
  match x with | some p=>cfg.b.sp g σ vs=some {v:=p.1,new:=p.2} | none=>cfg.b.sp g σ vs=none:=by
 unfold spO at h;rw[hc.loc g σ vs hvs];split at h
 ·rename_i out ho;obtain⟨h1,h2⟩:=Br h;cases h2;simp only[Z2,aY,cV,bC] at h1;obtain⟨⟨⟨⟨⟨⟨b,c⟩,f⟩,a2⟩,a3⟩,a4⟩,a5⟩:=h1;simp only
  rw[ho];obtain⟨v,new,upd,kill,frz,gone,ups,io,slot⟩:=out;simp only at b c f a2 a3 a4 a5;subst b;subst c;subst f;subst a2;subst a3;subst a4;subst a5;rfl
 ·rename_i ho;cases h;exact ho
theorem WC {sh sh':Bq} {f:PV} {vs:List PV} {u:PV} (hs:∀ v obs,El sh v obs=some u->El sh' v obs=some u) (h:Ax cfg.b sh f vs=some u):Ax cfg.b sh' f vs=some u:=by
 unfold Ax at h |-;split at h
 ·split at h;·exact hs _ _ h
  ·split at h;·cases h
   ·rename_i hio;rw[if_neg hio];split at h;·exact hs _ _ h
    ·cases h
  ·cases h
 ·cases h
theorem lendO_sh {sh sh':Bq} {fr:Bool} {g:FuncId} {vs:List PV} {u:PV} (hs:∀ v obs,El sh v obs=some u->El sh' v obs=some u) (h:A8 cfg.b sh fr g vs=some u):A8 cfg.b sh' fr g vs=some u:=by
 unfold A8 at h |-;split at h;·cases h
 ·rename_i hy;rw[if_neg hy];split at h
  ·obtain⟨h1,h2⟩:=Br h;simp only[h1,Af];exact hs _ _ h2
  ·cases h
theorem Wr {g:FuncId}:Nat.blt (AY g) Df=true:=by
 unfold AY;split;·assumption
 ·exact Nat.blt_eq.mpr (cr _ (by decide))
theorem fnId_id {g:FuncId}:AY (AY g)=AY g:=by
 have h:=Wr (g:=g);generalize AY g=x at h;simp[AY,h]
theorem fnArgs_id {g:FuncId} {vs:List PV}:Bt (AY g) vs []=vs:=by
 have h:=Wr (g:=g);simp[Bt,h]
theorem T7 {f:FuncId} {vs cap:List PV} {x:PV} (h:x∈vs\/x∈cap):x∈Bt f vs cap:=by
 unfold Bt;split;·exact ar.2 h
 ·rcases h with h | h;·exact aw _ (ak _ h)
  ·rw[<-List.take_append_drop (Fu f) cap] at h;rcases ar.1 h with h | h;·exact ak _ h
   ·exact aw _ (aw _ h)
theorem Uy (f:FuncId) (vs cap:List KV):AN (Id f vs cap)=Bt f (AN vs) (AN cap):=by
 unfold Id Bt;cases Nat.blt f Df<;>simp[OS,LT,LU]
theorem Uz {f:FuncId} {vs cap:List KV} (h1:A6 vs) (h2:A6 cap):A6 (Id f vs cap):=by
 unfold Id;split;·exact Kr h1 h2
 ·exact Kr (Dd.2 fun x hx=>Dd.1 h2 x (aQ hx)) (Kr h1 (Dd.2 fun x hx=>Dd.1 h2 x (bf hx)))
theorem callO_all {B:KB} {sh:Bq} {f:FuncId} {vs cap:List PV}:Ax B sh (.fn f cap) vs=Ax B sh (.fn (AY f) []) (Bt f vs cap):=by
 simp only[Ax,fnId_id,fnArgs_id]
theorem WD (hc:Eb cfg tab) {sh:Bq} (hfix:sh.fix=true) {f:PV} {vs:List PV} (hvs:At vs=true) (hf:okV f=true) {u:PV} (hu:Ax cfg.b sh f vs=some u) (σ:Nm->Option Ob) (T:List PV) (fx:RX) (args:List RX) (hfx:fx.ev T=f) (hargs:args.map (RX.ev T)=vs) :
  ∃ out:AB,out.Ok/\out={v:=(D0 d sh 0 u).1,new:=(D0 d sh 0 u).2.1}/\Bj fun n=>Dr (Dy cfg.b.sp tab n) (hn n) dep d σ T fx args e=some (out.out,e):=by
 unfold Ax at hu;split at hu
 ·rename_i g cap;have hcap:At cap=true:=by simpa[okV] using hf
  have hall:At (Bt g vs cap)=true:=EY.2 fun x hx=>(RK hx).elim (EY.1 hvs x) (EY.1 hcap x);have hnm:(AR (Bt g vs cap)).isEmpty=true:=by rw[(Da hall).1];rfl
  have hy:BI (Bt g vs cap)=false:=(Da hall).2;split at hu
  ·rename_i v obs hs;have h1:=spO_ok hc hall hs σ;simp only at h1;obtain⟨a1,a2,a3,a4⟩:=Sg d hfix hu;refine⟨_,⟨a3,a4,by simp,by simp⟩,rfl,.of fun n=>?_⟩;simp only[Dr,hfx,hargs,Js,h1,AB.out,a1,a2,bL,Z1]
  ·rename_i hs;have h1:=spO_ok hc hall hs σ;split at hu;·cases hu
   rename_i hio;have hio:Fi tab (AY g)=false:=by rw[<-hc.isIo];simpa using hio
   split at hu
   ·rename_i rr obs hL;rw[hc.L] at hL;have hev:=NB hL;obtain⟨a1,a2,a3,a4⟩:=Sg d hfix hu;refine⟨_,⟨a3,a4,by simp,by simp⟩,rfl,hev.mono fun n hn'=>?_⟩;simp only at h1;simp only[Dr,hfx,hargs,Js,OU,Uv,hio,h1,hnm,if_true,hy,Z0,if_false,hn',AB.out,a1,a2,bL,Z1]
   ·cases hu
  ·cases hu
 ·cases hu
theorem mapM_mem {α:Type} {σ:Nm->Option α}:∀ {S:List Nm} {l:List α},S.mapM σ=some l->l.length=S.length/\∀ x∈l,∃ nm,σ nm=some x:=by
 intro S;induction S with
 | nil=>intro l h;simp at h;subst h;exact⟨rfl,fun x h=>by cases h⟩
 | cons y S ih =>
  intro l h;rw[bi] at h;simp only[cj,aX,cu,Z6] at h;obtain⟨o,ho,l',hl,rfl⟩:=h;obtain⟨q1,q2⟩:=ih hl;refine⟨by simp[q1],fun x hx=>?_⟩;rcases Z7.1 hx with rfl | hx;·exact⟨y,ho⟩
  ·exact q2 x hx
theorem mapM_map' {α β:Type} {σ:Nm->Option α} (g:α->β):∀ {S:List Nm} {l:List α},S.mapM σ=some l->S.mapM (fun nm=>(σ nm).map g)=some (l.map g):=by
 intro S;induction S with
 | nil=>intro l h;simp at h;subst h;rfl
 | cons y S ih =>
  intro l h;rw[bi] at h;simp only[cj,aX,cu,Z6] at h;obtain⟨o,ho,l',hl,rfl⟩:=h;rw[bi,ih hl,ho];rfl
theorem UF:∀ {ps xs:List Aj},EN ps xs=true->ps.length=xs.length
 | [],[],_=>rfl
 | [],_ :: _,h=>by simp[EN] at h
 | _ :: _,[],h=>by simp[EN] at h
 | p :: ps,x :: xs,h=>by
  simp only[EN,Z2] at h;simp[UF h.2]
theorem Ws:∀ {ps xs:List KV},Ep ps xs=true->ps.length=xs.length
 | [],[],_=>rfl
 | [],_ :: _,h=>by simp[Ep] at h
 | _ :: _,[],h=>by simp[Ep] at h
 | p :: ps,x :: xs,h=>by
  simp only[Ep,Z2] at h;simp[Ws h.2]
theorem ob_noY {o:Aj} (h:o.ok) (hq:∀ ty cs,o=.cells ty cs->FG cs=false):o.ob.hasY=false:=by
 cases o with
 | cells ty cs =>
  have h':A6 cs:=h;show BI (AN cs)=false;rw[KE h'];exact hq ty cs rfl
 | whole ty v=>exact (Da (DR h)).2
 | arr k kt xs=>exact (Da h).2
 | map es=>exact (Da h).2
 | siter s p=>rfl
theorem UB (hc:Eb cfg tab) (hk:ks.Ok) (hq:Fg ks.objs=true) {g:FuncId} {xs:List KV} (hxs:A6 xs)
  {R:Type} {r:R} {K:AB->Option R} {Pf:List KV->List Aj->BK} (hPf:cfg.ioF g=some Pf) (hr:NT cfg Pf g d (Bm ks.objs) xs K=some r) :
  ∃ out,K out=some r/\out.Ok/\cfg.spF g=false/\Bj fun n=>(Dy cfg.b.sp tab n).io g d (Ak ks.st.objs) (AN xs)=some out.out:=by
 unfold NT at hr;simp only at hr;generalize hS:DU (GP (Bm ks.objs) AW (Dt xs))=S at hr;split at hr;·cases hr
 rename_i ins hins;generalize hP:Pf xs ins=P at hr;split at hr
 case isFalse=>cases hr
 rename_i hcond;obtain⟨hsh,hy,hsp,hfit⟩:=hcond;simp only[Z2] at hfit;obtain⟨hfa,hfo⟩:=hfit;obtain⟨rs,hio,hr⟩:=Db hr
 have hplace:∃ sl d1 i1,K (MM P S sl d1 i1 rs)=some r/\∀ st v out,GY sl d1 i1 S st v=some out->Ma (Ak ks.st.objs) d S st v=some out:=by
  unfold Ma;cases S with
  | nil=>exact⟨none,d,0,hr,fun st v out h=>h⟩
  | cons s ss =>
   simp only at hr;split at hr
   ·rename_i i1 hi1;refine⟨some s.1,s.1,i1,hr,fun st v out h=>?_⟩
    have:KM (Ak ks.st.objs) s.1=some i1:=by
     rw[EK hk,<-hi1];unfold KM;congr 1;funext j;show ((Bm ks.objs (s.1,j)).map Aj.ob).isNone=_;cases Bm ks.objs (s.1,j)<;>rfl
    simp only[this];exact h
   ·cases hr
 obtain⟨sl,d1,i1,hr,hplace⟩:=hplace;have hflag:Fi tab g=true:=by rw[<-hc.ioF,hPf];rfl
 obtain⟨fn,htab,hnt,hll⟩:=hc.ioP g Pf hPf;have hla:=(hll xs ins).1;have hli:=(hll xs ins).2;rw[hP] at hla hli;obtain⟨m1,m2⟩:=mapM_mem hins;have hinok:∀ o∈ins,o.ok:=fun o ho=>let ⟨nm,h⟩:=m2 o ho;DE hk nm o h;have hS':DU (Bb (Ak ks.st.objs) AW (AR (AN xs)))=S:=by rw[<-hS,HC (DE hk),EK hk,FU hxs]
 have hmap:S.mapM (Ak ks.st.objs)=some (ins.map Aj.ob):=by rw[EK hk];exact mapM_map' Aj.ob hins
 have hysok:A6 (FO (fun m=>(0,S.idxOf m)) xs):=LX _ hxs
 have hosok:∀ o∈ins.map (Aj.ren fun m=>(0,S.idxOf m)),o.ok:=by
  intro o ho;obtain⟨o0,h0,rfl⟩:=Z4.1 ho;exact Aj.ren_ok _ (hinok o0 h0)
 have hlen:P.ins.length=S.length:=by rw[UF hfo,aL,m1]
 have hlx:∀ l:List KV,(FO (fun m=>(0,S.idxOf m)) l).length=l.length:=by
  intro l;induction l with | nil=>rfl | cons x l ih=>simp[FO,ih]
 have hlena:(AN xs).length<=fn.nt:=by
  have h1:=Ws hfa;rw[hlx] at h1;have h2:(AN xs).length=xs.length:=by rw[Ev,aL]
  omega
 generalize hlv:Gq P.args (FO (fun m=>(0,S.idxOf m)) xs)++Iv P.ins (ins.map (Aj.ren fun m=>(0,S.idxOf m)))=lv at hio;have hseg:Do lv 0 (Gq P.args (FO (fun m=>(0,S.idxOf m)) xs)++Iv P.ins (ins.map (Aj.ren fun m=>(0,S.idxOf m)))):=by rw[hlv];exact Do.all lv
 obtain⟨p1,p2,p3⟩:=LY _ _ hfa hysok lv 0 hseg.left;obtain⟨q1,q2,q3⟩:=RM _ _ hfo hosok lv (C6 P.args lv 0).2 (by rw[p3];exact hseg.right);have hvs2:AN (FO (fun m=>(0,S.idxOf m)) xs)=Bs (fun m=>(0,S.idxOf m)) (AN xs):=L5 _ hxs
 have hos2:(ins.map (Aj.ren fun m=>(0,S.idxOf m))).map Aj.ob=(ins.map Aj.ob).map (Ob.ren fun m=>(0,S.idxOf m)):=by
  rw[ay,ay];exact aD fun o ho=>Aj.ren_ob _ (hinok o ho)
 unfold ioO at hio;rw[p1,q1,hvs2,hos2] at hio;split at hio
 case h_2=>cases hio
 rename_i st v hI;rw[hc.I] at hI;unfold Qq at hI;rw[htab] at hI;have hev:=NB hI;split at hio
 case h_2=>cases hio
 rename_i out0 hend;rw[hlen] at hend;have hend2:=ioEnd_ren (sl:=sl) (d:=d1) (i0:=i1) hend;unfold Qy at hio;split at hio
 case isFalse=>cases hio
 rename_i hgone;split at hio
 case h_2=>cases hio
 rename_i a b c ha hb hcc;cases hio;have hsr:=Do.all (a++(b++c));obtain⟨a1,a2,a3⟩:=R8 P.res out0.v ha _ 0 hsr.left;obtain⟨b1,b2,b3⟩:=Rd P.outs _ hb (a++(b++c)) (fill P.res (a++(b++c)) 0).2 (by rw[a3];exact hsr.right.left);obtain⟨c1,c2,c3⟩:=Rd P.news _ hcc (a++(b++c)) (C5 P.outs (a++(b++c)) (fill P.res (a++(b++c)) 0).2).2 (by rw[b3,a3];exact hsr.right.right)
 have hout:(MM P S sl d1 i1 (a++(b++c))).out={v:=out0.v.ren (Cg S d1 i1),new:=out0.new.map (Ob.ren (Cg S d1 i1)),gone:=out0.gone.map (Cg S d1 i1),ups:=S.zip (out0.ups.map fun p=>p.2.ren (Cg S d1 i1)),io:=true,slot:=sl}:=by
  simp only[MM,AB.out,bL,AO.mk.injEq,true_and,and_true];refine⟨?_,?_,?_,?_⟩;·rw[KV.ren_pv _ a2,a1]
  ·rw[ay,<-c1,ay];exact aD fun o ho=>Aj.ren_ob _ (c2 o ho)
  ·rw[hgone,ay];exact aD fun j _=>by simp[Cg]
  ·have e1:out0.ups.map (fun p=>p.2.ren (Cg S d1 i1))=(out0.ups.map (·.2)).map (Ob.ren (Cg S d1 i1)):=by rw[ay];rfl
   rw[e1,<-b1,ay]
   have key:∀ (T:List Nm) (l:List Aj),(∀ o∈l,o.ok)->(T.zip (l.map (Aj.ren (Cg S d1 i1)))).map (fun p=>(p.1,p.2.ob))=T.zip (l.map (Ob.ren (Cg S d1 i1)∘Aj.ob)):=by
    intro T;induction T with
    | nil=>intro l _;rfl
    | cons s T ih =>
     intro l hl;cases l with
     | nil=>rfl
     | cons o l =>
      simp only[ZZ,List.zip_cons_cons,ZZ,Function.comp];rw[Aj.ren_ob _ (hl o aq),ih l fun o ho=>hl o (ap _ ho)]
   exact key S _ b2
 refine⟨_,hr,⟨KV.ren_ok _ a2,?_,by simp[MM],?_⟩,hsp,hev.shift.mono ?_⟩
 ·intro o ho;obtain⟨o0,h0,rfl⟩:=Z4.1 ho;exact Aj.ren_ok _ (c2 o0 h0)
 ·rintro ⟨s,o⟩ ho;have:=(List.of_mem_zip ho).2;obtain⟨o0,h0,rfl⟩:=Z4.1 this;exact Aj.ren_ok _ (b2 o0 h0)
 ·rintro k ⟨j,rfl,hj⟩;show GC (EC cfg.b.sp tab j) j tab g d (Ak ks.st.objs) (AN xs)=_;unfold GC;rw[htab];simp only
  rw[hS',hmap]
  have hcd:(!BI (AN xs)&&Dw (Ak ks.st.objs) S&&(ins.map Aj.ob).all (fun o=>!o.hasY)&&(decide ((AN xs).length<=fn.nt)&&decide (S.length<=fn.nt)&&decide (0 < fn.nt)))=true:=by
   simp only[Z2,bC,decide_eq_true_eq];refine⟨⟨⟨by rw[KE hxs];exact hy,?_⟩,?_⟩,⟨hlena,by omega⟩,hnt⟩;·rw[EK hk,<-LW (DE hk)];exact hsh
   ·rw[an];intro o ho;obtain⟨o0,h0,rfl⟩:=Z4.1 ho;obtain⟨nm,hnm⟩:=m2 o0 h0;have:=ob_noY (hinok o0 h0) fun ty cs hcs=>M5 hq nm ty cs (by rw[hnm,hcs]);simp[this]
  simp only[AI,hcd,if_true];have hj':HR (EC cfg.b.sp tab j) j fn ((ins.map Aj.ob).map (Ob.ren fun m=>(0,S.idxOf m))) (Bs (fun m=>(0,S.idxOf m)) (AN xs))=some (st,v):=hj;rw[hj'];simp only
  rw[hout];exact hplace _ _ _ hend2
theorem Zx (hc:Eb cfg tab) (hk:ks.Ok) (hq:Fg ks.objs=true) {g f0:FuncId} (hg0:AY f0=g) {cap:List PV} {f:RX} {args:List RX} {xs:List KV} (hxs:A6 xs) (hfe:f.ev ks.st.tmps=.fn f0 cap) (hvs:Bt f0 (args.map (RX.ev ks.st.tmps)) cap=AN xs)
  {Pf:List KV->List Aj->BK} (hPf:cfg.ioF g=some Pf) (hr:NT cfg Pf g d (Bm ks.objs) xs (fun out=>K out e)=some r) :
  ∃ out e',K out e'=some r/\out.Ok/\Bj fun n=>Dr (Dy cfg.b.sp tab n) (hn n) dep d (Ak ks.st.objs) ks.st.tmps f args e=some (out.out,e'):=by
 obtain⟨out,hr,ho,hsp,hev⟩:=UB (K:=fun out=>K out e) hc hk hq hxs hPf hr;have hflag:Fi tab g=true:=by rw[<-hc.ioF,hPf];rfl
 exact⟨out,e,hr,ho,hev.mono fun n hn'=>by simp only[Dr,hfe,hg0,hvs,Js,OU,hc.spF g hsp,hflag,if_true,hn']⟩
theorem kcall_ok (hc:Eb cfg tab) (hh:HOk h hn) (hk:ks.Ok) {f:RX} {args:List RX} (hq:(Fg ks.objs||MQ cfg (.call f args) ks.tmps)=true) (hx:(f :: args).all EW=true)
  (hr:kcall cfg h d (Bm ks.objs) ks.tmps f args e K=some r) :
  ∃ out e',K out e'=some r/\out.Ok/\Bj fun n=>Dr (Dy cfg.b.sp tab n) (hn n) dep d (Ak ks.st.objs) ks.st.tmps f args e=some (out.out,e'):=by
 have hxf:EW f=true:=an.1 hx f (by simp);have hxa:args.all EW=true:=an.2 fun x hm=>an.1 hx x (by simp[hm]);have hfo:=MH hk hxf;have hao:=K1 hk hxa;unfold kcall at hr;split at hr
 ·rename_i l hf;have hfe:f.ev ks.st.tmps=.yld l:=by rw[GT hk,hf];rfl
  simp only at hr;split at hr
  ·rename_i vs hv;obtain⟨p,hp,hr⟩:=Db hr;have hok:=IS hao hv;have hnm:(AR vs).isEmpty=true:=by rw[(Da hok).1];rfl
   refine⟨_,_,hr,AB.plain (v:=.cv (.bool p.1)) rfl,(hh _ _ _ _ hp).mono fun n hn'=>?_⟩;simp[Dr,hfe,HK hk,JX hv,hnm,(Da hok).2,AI,hn',AB.out,KV.pv]
  ·split at hr;·cases hr
   ·rename_i hne;split at hr
    ·rename_i hsh;obtain⟨h1,hr⟩:=Br hr;obtain⟨p,hp,hr⟩:=Db hr;have hne':(AR (AN (args.map (RX.kv ks.tmps)))).isEmpty=false:=by rw[Sf hao];simpa using hne
     rw[HC (DE hk),LW (DE hk),<-EK hk,<-FU hao] at hsh;rw[Nt hk hao] at h1 hp;unfold noYL at h1;refine⟨_,_,hr,⟨rfl,by simp,by simp,by simp⟩,(hh _ _ _ _ hp).mono fun n hn'=>?_⟩;simp only[Dr,hfe,HK hk,hne',Z0,if_false,hsh,h1,aG,AI,if_true,hn',AB.out,KV.pv];rw[HC (DE hk),<-EK hk,<-FU hao];rfl
    ·cases hr
 ·rename_i f0 caps hf;rw[hf] at hfo;have hcaps:A6 caps:=hfo;have hfe:f.ev ks.st.tmps=.fn f0 (AN caps):=by rw[GT hk,hf];rfl
  have hxs:A6 (Id f0 (args.map (RX.kv ks.tmps)) caps):=Uz hao hcaps;have hvs:Bt f0 (args.map (RX.ev ks.st.tmps)) (AN caps)=AN (Id f0 (args.map (RX.kv ks.tmps)) caps):=by rw[Uy,HK hk]
  have hall:∀ sh,Ax cfg.b sh (.fn f0 (AN caps)) (args.map (RX.ev ks.st.tmps))=Ax cfg.b sh (.fn (AY f0) []) (Bt f0 (args.map (RX.ev ks.st.tmps)) (AN caps)):=fun sh=>callO_all;simp only at hr;generalize Id f0 (args.map (RX.kv ks.tmps)) caps=xs at hr hxs hvs;generalize hg:AY f0=g at hr hall;split at hr
  ·rename_i s hs;split at hr
   case h_2=>cases hr
   rename_i p hso;obtain⟨b,out⟩:=p;obtain⟨hb,hr⟩:=Br hr;have hb:b=true:=hb;subst hb;obtain⟨a1,a2,a3⟩:=hc.spK g s hs _ xs out hxs (DE hk) hso;rw[<-EK hk] at a2;exact⟨out,e,hr,a1,.of fun n=>by simp only[Dr,hfe,hg,hvs,Js,a2,a3]⟩
  split at hr
  ·rename_i P hP
   have hq:Fg ks.objs=true:=by
    rcases Bool.or_eq_true_iff.1 hq with h1 | h1;·exact h1
    ·unfold MQ at h1;simp only[hf,hg,hP] at h1;cases h1
   exact Zx hc hk hq hg hxs hfe hvs hP hr
  rename_i hP;have hio:Fi tab g=false:=by rw[<-hc.ioF,hP];rfl
  split at hr
  ·rename_i ex p nm;split at hr
   ·rename_i t n err ty cs ht herr hlk;have hq:=Br hr;clear hr;obtain⟨hcs,hr⟩:=hq;have hcs:cs.length=n:=bF hcs;have hlk':Ak ks.st.objs nm=some (.cells ty (AN cs)):=by rw[Ha hk,hlk];rfl
    have hcs':(AN cs).length=n:=by rw[<-hcs,G6]
    have hero:=KV.cl_ok hxs.1 herr;have hpv:AN [ex,.iface p (.ref nm 0)]=[err,.iface p (.ref nm 0)]:=by simp[AN,KV.pv,KV.cl_pv herr]
    rw[hpv] at hvs;obtain⟨s1,s2⟩:=hc.asOk g p t n ht (Ak ks.st.objs) nm _ _ hlk' hcs';unfold asP at hr;split at hr
    ·refine⟨_,_,hr,AB.plain (v:=.lit false) trivial,.of fun n=>?_⟩;simp only[Dr,hfe,hg,hvs,Js,s1];rfl
    ·rename_i t' x;split at hr
     ·rename_i htt;subst htt;have hq:=Br hr;clear hr;obtain⟨hx1,hr⟩:=hq;refine⟨_,_,hr,AB.turn (v:=.lit true) (o:=.whole _ x) trivial (show okV x=true by simpa[okV] using hero),.of fun n=>?_⟩;simp only[Dr,hfe,hg,hvs,Js,s2 x hx1];rfl
     ·cases hr
    ·cases hr
   ·cases hr
  ·split at hr
   ·rename_i vs hv;obtain⟨u,hu,hr⟩:=Db hr;have hok:=IS hxs hv;rw[JX hv] at hvs;have hu':Ax cfg.b (cfg.rsh g).1 (.fn g []) (Bt f0 (args.map (RX.ev ks.st.tmps)) (AN caps))=some u:=by rw[hvs];exact hu
    have hcv:At (AN caps)=true:=PJ (ys:=AN caps) hok fun y hy=>by rw[<-hvs];exact T7 (.inr hy)
    have hav:At (args.map (RX.ev ks.st.tmps))=true:=PJ hok fun y hy=>by rw[<-hvs];exact T7 (.inl hy)
    have hu2:Ax cfg.b (cfg.rsh g).1 (.fn f0 (AN caps)) (args.map (RX.ev ks.st.tmps))=some u:=by rw[hall];exact hu'
    obtain⟨sh',hfix,hr,hsh⟩:=RU hr;have hu2:=WC hsh hu2;obtain⟨out,h1,h2,h3⟩:=WD (d:=d) (dep:=dep) (e:=e) (hn:=hn) hc hfix hav (by simpa[okV] using hcv) hu2 (Ak ks.st.objs) ks.st.tmps f args hfe rfl;subst h2;exact⟨_,_,hr,h1,h3⟩
   ·split at hr;·cases hr
    ·rename_i hne;split at hr
     ·rename_i hsh;obtain⟨u,hu,hr⟩:=Db hr
      have hne1:(Dt xs).isEmpty=false:=by
       cases hq:(Dt xs).isEmpty with
       | false=>rfl
       | true=>exact absurd (.inl hq) hne
      have hsp:cfg.spF g=false:=by
       cases hq:cfg.spF g with
       | false=>rfl
       | true=>exact absurd (.inr hq) hne
      have hne':(AR (AN xs)).isEmpty=false:=by rw[Sf hxs];exact hne1
      rw[HC (DE hk),LW (DE hk),<-EK hk,<-FU hxs] at hsh;rw[Nt hk hxs] at hu;obtain⟨sh',hfix,hr,hshs⟩:=RU hr;have hu:=lendO_sh hshs hu;unfold A8 at hu;split at hu;·cases hu
      ·rename_i hy;split at hu
       ·rename_i rr obs hL;obtain⟨hfr,hu⟩:=Br hu;rw[hc.L] at hL;have hev:=NB hL;obtain⟨a1,a2,a3,a4⟩:=Sg d hfix hu;refine⟨_,_,hr,⟨a3,a4,by simp,by simp⟩,hev.mono fun n hn'=>?_⟩;simp only[beq_iff_eq] at hfr;rw[hc.leans] at hfr;have hy':BI (A2 (BJ (Ak ks.st.objs)) (AN xs))=false:=by simpa using hy
        simp only[Dr,hfe,hg,hvs,Js,OU,Yp,Uv,hio,hc.spF g hsp,hne',Z0,if_false,hsh,hy',ax,aG,AI,if_true,hn',AB.out,a1,a2,hfr,bL,Z1];rw[HC (DE hk),<-EK hk,<-FU hxs]
       ·cases hu
     ·cases hr
 ·rename_i v hf;rw[hf] at hfo;have hfe:f.ev ks.st.tmps=v:=by rw[GT hk,hf];rfl
  split at hr
  ·rename_i vs hv;obtain⟨u,hu,hr⟩:=Db hr;obtain⟨sh',hfix,hr,hsh⟩:=RU hr;obtain⟨out,h1,h2,h3⟩:=WD (d:=d) (dep:=dep) (e:=e) (hn:=hn) hc hfix (IS hao hv) hfo (WC hsh hu) (Ak ks.st.objs) ks.st.tmps f args hfe (by rw[HK hk,JX hv]);subst h2;exact⟨_,_,hr,h1,h3⟩
  ·cases hr
 ·cases hr
end
end Go.Ab


namespace Go.Ab
variable {cfg:D1} {tab:FuncId->Option Au} {ks:AE} {E R:Type} {h:Ay E} {hn:Nat->Ay E} {r:R} {e:E} {d dep:Nat}
theorem kfresh_ok (hk:ks.Ok) {o:AX} (hf:To o ks=true):FB o ks.st=true:=by
 unfold To at hf;unfold FB;split
 ·rename_i hm;rw[if_pos hm] at hf;split
  ·rename_i d' hd;rw[hd] at hf;simp only[Z2,bc,aY] at hf
   have:ks.st.objs[d']?=some []:=by
    show (CI ks.nt ks.objs)[d']?=_;rw[denseO_get?,if_pos hf.1,hf.2];rfl
   rw[this]
  ·rename_i hd;rw[hd] at hf;exact hf
 ·rfl
theorem Vq (hc:Eb cfg tab) (hh:HOk h hn) (hk:ks.Ok) {o:AX} {K:AB->E->Option R} (hr:Mq cfg h o ks e K=some r) :
  ∃ out e',(out.frz.isEmpty||Fg ks.objs)=true/\K out e'=some r/\out.Ok/\Bj fun n=>DG (Dy cfg.b.sp tab n) (hn n) dep o ks.st e=some (out.out,e'):=by
 unfold Mq at hr;split at hr
 ·rename_i hcond;obtain⟨h1,h2,h3⟩:=hcond;have hf:=kfresh_ok hk h1;split at hr
  ·rename_i f args hop;rw[hop] at h2 h3;obtain⟨out,e',a1,a2,a3⟩:=kcall_ok (dep:=dep) hc hh hk h3 h2 hr;split at a1
   case isFalse=>cases a1
   rename_i hgq;obtain⟨hg,hqq⟩:=cc.1 hgq
   have hgd:KQ o.dst out.out=true:=by
    simp only[KQ,AB.out];have:(out.new.map Aj.ob).isEmpty=out.new.isEmpty:=by cases out.new<;>rfl
    rw[this];exact hg
   refine⟨out,e',hqq,a1,a2,a3.mono fun n hn'=>?_⟩;simp only[DG,AI,hf,if_true,hop,hn',hgd]
  ·rename_i hop;obtain⟨out,a1,a2,a3⟩:=execK_ok hk h3 h2 hr;simp only at a1;split at a1
   case isFalse=>cases a1
   rename_i hqq;refine⟨out,e,hqq,a1,a2,.of fun n=>?_⟩;simp only[DG,AI,hf,if_true];cases hq:o.op with
   | call f args=>exact (hop f args hq).elim
   | _=>rw[hq] at a3;simp only[a3]
 ·cases hr
theorem TA {i:Nat} {v:PV} {b:Bool} (hk:ks.Ok) (hg:A5 ks.tmps i=.cv v) (hv:v=.bool b):({ks with tmps:=Dg i (.lit b) ks.tmps}:AE).st=ks.st/\({ks with tmps:=Dg i (.lit b) ks.tmps}:AE).Ok:=by
 have hlt:i < ks.nt:=by
  apply bg;intro hlt;rw[hk.tm.get_ge (by omega)] at hg;cases hg
 refine⟨?_,hk.tm.put hlt trivial rfl,hk.ob,hk.kp⟩;unfold AE.st;simp only
 rw[Pm];congr 1;apply aO;intro j;rw[cg,Et];by_cases hj:i=j
 ·subst hj;simp only[if_true];rw[if_pos hlt,dense_get?,if_pos hlt,hg,hv];rfl
 ·rw[if_neg hj]
theorem Vn (hk:ks.Ok) {ops:List AX} {o:AX} {K:Bool->AE->Option R} (hr:P8 ops o ks K=some r):∃ b k',K b k'=some r/\k'.Ok/\k'.st=ks.st/\DX ops o ks.st.tmps=some b /\
  k'.objs=ks.objs/\(∀ x:RX,(x.kv k'.tmps).names=(x.kv ks.tmps).names/\(x.kv k'.tmps).hasY=(x.kv ks.tmps).hasY):=by
 unfold P8 at hr;unfold DX;split at hr;·rename_i hg;rw[hg];exact⟨_,_,hr,hk,rfl,rfl,rfl,fun _=>⟨rfl,rfl⟩⟩
 ·rename_i j want hg;rw[hg];split at hr
  ·rename_i p hp;split at hr
   ·rename_i d' hd;have hget:ks.st.tmps.getD d' .undef=(A5 ks.tmps d').pv:=Ku hk.tm d';simp only[hp,hd,hget];split at hr;·rename_i b hb;rw[hb];exact⟨_,_,hr,hk,rfl,rfl,rfl,fun _=>⟨rfl,rfl⟩⟩
    ·rename_i hb;rw[hb];exact⟨_,_,hr,hk,rfl,rfl,rfl,fun _=>⟨rfl,rfl⟩⟩
    ·rename_i v hb;rw[hb]
     have hsame:∀ b,∀ x:RX,(x.kv (Dg d' (.lit b) ks.tmps)).names=(x.kv ks.tmps).names/\(x.kv (Dg d' (.lit b) ks.tmps)).hasY=(x.kv ks.tmps).hasY:=by
      intro b x;cases x with
      | c v=>exact⟨rfl,rfl⟩
      | t i =>
       simp only[RX.kv,RV];by_cases hi:i=d'
       ·subst hi;rw[if_pos rfl,hb];exact⟨rfl,rfl⟩
       ·rw[if_neg hi];exact⟨rfl,rfl⟩
     rcases Pa hr with ⟨hv,hr⟩ | ⟨hv,hr⟩
     ·obtain⟨s1,s2⟩:=TA hk hb hv;subst hv;exact⟨_,_,hr,s2,s1,rfl,rfl,hsame true⟩
     ·obtain⟨s1,s2⟩:=TA hk hb hv;subst hv;exact⟨_,_,hr,s2,s1,rfl,rfl,hsame false⟩
    ·cases hr
   ·cases hr
  ·cases hr
theorem Wf (hc:Eb cfg tab) (hh:HOk h hn) (hk:ks.Ok) {ops:List AX} {o:AX} {K:AE->E->Option R} (hr:kstep cfg h ops o ks e K=some r) :
  ∃ k' e',K k' e'=some r/\k'.Ok/\Bj fun n=>stepG (Dy cfg.b.sp tab n) (hn n) dep ops o ks.st e=some (k'.st,e'):=by
 unfold kstep at hr;obtain⟨b,k1,hr,hk1,hst,hw,_,_⟩:=Vn hk hr;cases b with
 | true =>
  simp only at hr;obtain⟨out,e',hq,h1,h2,h3⟩:=Vq (dep:=dep) hc hh hk1 hr;rw[D5] at h1;obtain⟨s1,s2⟩:=Rp hk1 hq o.dst h2;refine⟨_,_,h1,s2,h3.mono fun n hn'=>?_⟩;rw[hst] at hn' s1;simp only[stepG,hw,JG,hn',s1]
 | false =>
  simp only at hr;rw[D5] at hr
  have:(GQ k1 o.dst {v:=.sk}).st=apply k1.st o.dst {v:=.tup []}/\(GQ k1 o.dst {v:=.sk}).Ok:=by
   exact kapply_sk hk1 o.dst
  refine⟨_,_,hr,this.2,.of fun n=>?_⟩;simp only[stepG,hw,this.1,hst]
where
 kapply_sk {ks:AE} (hk:ks.Ok) (dst:Option Nat):(GQ ks dst {v:=.sk}).st=apply ks.st dst {v:=.tup []}/\(GQ ks dst {v:=.sk}).Ok:=by
  unfold GQ;rw[SH];simp only[kupd,MK,Oz,Lw,Lp,bU,if_true,MR,Lo,ML];have hkt:MI [] ks=ks:=rfl;have hke:kext none [] ks=ks:=rfl;have hkn:Ou none []=[]:=rfl;rw[hkt,hke,hkn];simp only[bext,N9];cases dst with
  | none=>exact⟨rfl,hk⟩
  | some d =>
   simp only[kset,Kk];cases hd:Nat.blt d ks.nt with
   | true =>
    have hd':d < ks.nt:=by simpa[bc] using hd
    refine⟨?_,hk.tm.set (v:=.sk) hd' trivial,hk.ob,hk.kp⟩;unfold AE.st;simp only
    rw[VI];rfl
   | false =>
    have hd':¬ d < ks.nt:=by intro h;rw[show Nat.blt d ks.nt=true by simpa[bc] using h] at hd;cases hd
    refine⟨?_,hk⟩;unfold AE.st;simp only
    rw[cJ (by rw[Et];omega)];rfl
theorem Sy (hc:Eb cfg tab) (hh:HOk h hn) {ops:List AX}:∀ (l:List AX) {ks:AE} {e:E} {K:AE->E->Option R},ks.Ok->MJ cfg h ops l ks e K=some r ->
  ∃ k' e',K k' e'=some r/\k'.Ok/\Bj fun n=>E5 (Dy cfg.b.sp tab n) (hn n) dep ops l ks.st e=some (k'.st,e'):=by
 intro l;induction l with
 | nil=>intro ks e K hk hr;exact⟨ks,e,hr,hk,.of fun n=>rfl⟩
 | cons o rest ih =>
  intro ks e K hk hr;simp only[MJ] at hr;obtain⟨k1,e1,hr,hk1,h1⟩:=Wf (dep:=dep) hc hh hk hr;obtain⟨k2,e2,hr,hk2,h2⟩:=ih hk1 hr;exact⟨k2,e2,hr,hk2,h1.mono2 h2 fun n a b=>by simp only[E5,a,b]⟩
theorem Vo (o:AB):Oc o=CC o.out:=by
 unfold Oc CC AB.out;cases o.upd<;>cases o.ups<;>rfl
theorem kturns_ok (o:AB):Ti o=EL o.out:=by
 unfold Ti EL AB.out;cases o.ups<;>rfl
theorem XQ (o:AB):R3 o=Fv o.out:=by
 unfold R3 Fv AB.out;cases o.upd with
 | none=>rfl
 | some p=>rfl
theorem spAt_pv (ks:AE) (s:Nat):ks.st.tmps.getD s .undef=(spAt ks s).pv:=by
 unfold spAt;show (BE ks.nt ks.tmps).getD s .undef=_;unfold BE;rw[Z9,aa];cases hb:Nat.blt s ks.nt with
 | true =>
  have:s < ks.nt:=Nat.blt_eq.mp hb;rw[bo this];rfl
 | false =>
  have:¬ s < ks.nt:=fun h=>by rw[Nat.blt_eq.mpr h] at hb;cases hb
  rw[aA (by simpa using this)];rfl
theorem Ul (hk:ks.Ok) (s:Nat):(ks.st.tmps.getD s .undef).names=(spAt ks s).names:=by
 rw[spAt_pv];refine KV.pv_names ?_;unfold spAt;cases Nat.blt s ks.nt with
 | true=>exact hk.tm.get_ok s
 | false=>trivial
theorem kheld_eq (hk:ks.Ok) (l:List Nm):Tl (Bm ks.objs) l=J7 (Ak ks.st.objs) l:=by
 unfold Tl J7;congr 1;funext nm;rw[EK hk];cases hq:Bm ks.objs nm with
 | none=>simp[hq]
 | some o =>
  simp only[hq,ao,aM];exact (Aj.ob_names (DE hk nm o hq)).symm
theorem krn_eq (hk:ks.Ok) {o:AX} (hx:o.op.xs.all EW=true) (out:AB):Qt o ks out=FP o ks.st out.out:=by
 have hok:=K1 hk hx;unfold Qt FP;rw[HK hk,HC (DE hk),<-EK hk,<-FU hok,Vo];rfl
theorem kisYld_ok (hk:ks.Ok) {op:AC} (hx:op.xs.all EW=true):Tk op ks.tmps=Hr op ks.st.tmps:=by
 cases op<;>try rfl
 rename_i f args;have hxa:args.all EW=true:=an.2 fun x hm=>an.1 hx x (by simp[AC.xs,hm]);have hxf:(f.kv ks.tmps).ok:=MH hk (an.1 hx f (by simp[AC.xs]));unfold Tk Hr;simp only
 rw[GT hk,HK hk,FU (K1 hk hxa)];cases hf:f.kv ks.tmps with
 | cv v =>
  rw[hf] at hxf;simp only[KV.pv];cases v<;>first | rfl | (simp[KV.ok,okV] at hxf)
 | _=>rfl
theorem kinfo_ok (hk:ks.Ok) {ops:List AX} {i:Nat} {o:AX} (hx:o.op.xs.all EW=true) {out:AB} (ho:out.Ok):kinfo ops i o ks out=GR ops i o ks.st out.out:=by
 unfold kinfo GR;have hok:=K1 hk hx;simp only
 have hn:out.out.new.flatMap Ob.names=out.new.flatMap Aj.names:=by
  show (out.new.map Aj.ob).flatMap Ob.names=_;rw[cZ]
  have:∀ l:List Aj,(∀ x∈l,x.ok)->l.flatMap (fun a=>a.ob.names)=l.flatMap Aj.names:=by
   intro l;induction l with
   | nil=>intro _;rfl
   | cons x l ih =>
    intro h;rw[bu,bu,Aj.ob_names (h x aq),ih fun y hy=>h y (ap _ hy)]
  exact this _ ho.new
 have hv:out.out.v.names=out.v.names:=KV.pv_names ho.v;simp only[<-Ul hk];rw[krn_eq hk hx,kheld_eq hk,kisYld_ok hk hx,HK hk,<-KE hok,Vo,kturns_ok,XQ,hn,hv];rfl
theorem koutOf_x {o:AX} {K:AB->E->Option R} (hr:Mq cfg h o ks e K=some r):o.op.xs.all EW=true:=by
 unfold Mq at hr;split at hr;·rename_i hcond;exact hcond.2.1
 ·cases hr
theorem kstepD_ok (hc:Eb cfg tab) (hh:HOk h hn) (hk:ks.Ok) {ops:List AX} {i:Nat} {o:AX} {K:AE->E->C9->Option R} (hr:Tj cfg h ops i o ks e K=some r) :
  ∃ k' e' inf,K k' e' inf=some r/\k'.Ok/\Bj fun n=>Mx (Dy cfg.b.sp tab n) (hn n) dep ops i o ks.st e=some (k'.st,e',inf):=by
 unfold Tj at hr;obtain⟨b,k1,hr,hk1,hst,hw,_,_⟩:=Vn hk hr;cases b with
 | true =>
  simp only at hr;have hxs:=koutOf_x hr;obtain⟨out,e',hq,h1,h2,h3⟩:=Vq (dep:=dep) hc hh hk1 hr;rw[D5] at h1;obtain⟨s1,s2⟩:=Rp hk1 hq o.dst h2;refine⟨_,_,_,h1,s2,h3.mono fun n hn'=>?_⟩;rw[hst] at hn' s1;simp only[Mx,B8,hw,hn',s1];rw[kinfo_ok hk1 hxs h2,hst]
 | false =>
  simp only at hr;rw[D5] at hr;have:=Wf.kapply_sk hk1 o.dst;refine⟨_,_,_,hr,this.2,.of fun n=>?_⟩;simp only[Mx,B8,hw,this.1,hst,<-Ul hk1]
theorem krunsD_ok (hc:Eb cfg tab) (hh:HOk h hn) {ops:List AX}:∀ (l:List (Nat×Nat)) (infos:List C9) {ks:AE} {e:E} {K:AE->E->Option R},ks.Ok->P9 cfg h ops l infos ks e K=some r ->
  ∃ k' e',K k' e'=some r/\k'.Ok/\Bj fun n=>Hx (Dy cfg.b.sp tab n) (hn n) dep ops l infos ks.st e=some (k'.st,e'):=by
 intro l;induction l with
 | nil=>intro infos ks e K hk hr;exact⟨ks,e,hr,hk,.of fun n=>rfl⟩
 | cons p rest ih =>
  obtain⟨i,bef⟩:=p;intro infos ks e K hk hr;simp only[P9] at hr;split at hr
  ·rename_i o ho;obtain⟨k1,e1,inf,hr,hk1,h1⟩:=kstepD_ok (dep:=dep) hc hh hk hr;split at hr
   ·rename_i hall;obtain⟨k2,e2,hr,hk2,h2⟩:=ih _ hk1 hr;exact⟨k2,e2,hr,hk2,h1.mono2 h2 fun n a b=>by simp only[Hx,ho,a,AI,hall,if_true,b]⟩
   ·cases hr
  ·cases hr
end Go.Ab


namespace Go.Ab
variable {ks:AE}
theorem OM {nt:Nat} {l:Ba} (h:BL nt l) (d:Nat):(CI nt l).getD d []=(Be l d).map Aj.ob:=by
 rw[Z9,denseO_get?];split;·rfl
 ·rw[h.get_ge (by omega)];rfl
theorem LL (h:ks.Ok) (ds:List Nat):(Eh ds ks).st=Fa ds ks.st/\(Eh ds ks).Ok/\(Eh ds ks).nt=ks.nt:=by
 have hall:(ds.all fun d=>(ks.st.objs.getD d []).isEmpty)=ds.all fun d=>(Be ks.objs d).isEmpty:=by
  congr 1;funext d;show ((CI ks.nt ks.objs).getD d []).isEmpty=_;rw[OM h.ob];cases Be ks.objs d<;>rfl
 unfold Eh Fa;rw[hall];split;·exact⟨rfl,h,rfl⟩
 ·have h1:=SU (fun m=>ds.contains m.1) h;have h2:=ST (fun m=>ds.contains m.1) h;refine⟨?_,⟨h1.tm,h1.ob.sub (YX _ _),h1.kp⟩,rfl⟩;have e:Ih (fun m=>ds.contains m.1)=fun m=>if ds.contains m.1=true then some none else none:=rfl
  rw[e] at h2;simp only
  rw[<-h2];unfold AE.st;simp only
  congr 1;refine Kw (by simp[H3]) fun i hi=>?_;rw[aa,bw,denseO_get?,if_pos hi,YZ];simp only[ao,az];cases ds.contains i<;>simp
theorem Rv {ds ds':List Nat} (h:∀ d,d∈ds↔d∈ds') (st:St):Fa ds st=Fa ds' st:=by
 have h1:∀ p:Nat->Bool,ds.all p=ds'.all p:=fun p=>by
  rw[ba,an,an];exact⟨fun a x hx=>a x ((h x).2 hx),fun a x hx=>a x ((h x).1 hx)⟩
 have h2:∀ i,ds.contains i=ds'.contains i:=fun i=>by
  rw[ba,bk,bk];exact h i
 unfold Fa;simp only[h1,h2]
theorem Ro {nm:Nm} {xs:List PV}:nm∈AR xs↔∃ x∈xs,nm∈x.names:=by
 induction xs with
 | nil=>simp[AR]
 | cons x xs ih=>simp[AR,ih]
theorem UA (h:ks.Ok) (nm:Nm):nm∈AR ks.st.keep↔nm∈ks.keep.flatMap Fz:=by
 rw[Ro];show (∃ x∈ks.keep.flatMap (BE ks.nt),nm∈x.names)↔_;simp only[bE];constructor
 ·rintro ⟨x,⟨sp,hsp,hx⟩,hn⟩;exact⟨sp,hsp,(OL (h.kp sp hsp) nm).1 (Ro.2 ⟨x,hx,hn⟩)⟩
 ·rintro ⟨sp,hsp,hn⟩;obtain⟨x,hx,hn⟩:=Ro.1 ((OL (h.kp sp hsp) nm).2 hn);exact⟨x,⟨sp,hsp,hx⟩,hn⟩
theorem Rb (h:ks.Ok) (d:Nat):d∈PD ks.st↔d∈IA ks:=by
 have hR:∀ p:Nm->Bool,(AR ks.st.tmps++AR ks.st.keep++ks.st.objs.flatMap fun l=>l.flatMap Ob.names).all p=(Fz ks.tmps++ks.keep.flatMap Fz++HE ks.objs).all p:=by
  intro p;have e1:∀ nm,nm∈AR ks.st.tmps↔nm∈Fz ks.tmps:=fun nm=>OL h.tm nm;have e2:=UA h;have e3:∀ nm,nm∈(ks.st.objs.flatMap fun l=>l.flatMap Ob.names)↔nm∈HE ks.objs:=fun nm=>TO h.ob nm;rw[ba,an,an];refine⟨fun a x hx=>a x ?_,fun a x hx=>a x ?_⟩
  ·simp only[ar] at hx |-;rw[e1,e2,e3];exact hx
  ·simp only[ar] at hx |-;rw[<-e1,<-e2,<-e3];exact hx
 unfold PD IA;simp only[bP,bN,Z4,hR,Z2];have hget:ks.st.objs.getD d []=(Be ks.objs d).map Aj.ob:=OM h.ob d;rw[hget];constructor
 ·rintro ⟨_,h1,h2⟩;have hne:Be ks.objs d≠[]:=by intro e;rw[e] at h1;simp at h1
  refine⟨_,⟨LH hne,?_,h2⟩,rfl⟩;simpa using hne
 ·rintro ⟨p,⟨hp,h1,h2⟩,rfl⟩;have:=h.ob.get_mem hp;have hlt:=h.ob.lt p hp;refine⟨?_,?_,h2⟩
  ·show p.1 < (CI ks.nt ks.objs).length;rw[H3];exact hlt
  ·rw[this];simpa using h1
theorem Ub {R R':List Nm} (h:∀ nm,nm∈R↔nm∈R') (d:Nat):∀ n,HU R d n=HU R' d n
 | 0=>rfl
 | n+1=>by
  have e:R.contains (d,n)=R'.contains (d,n):=by
   rw[ba,bk,bk];exact h _
  simp only[HU,e,Ub h d n]
theorem Um {R:List Nm}:∀ {l:Ba} {p:Nat×List Aj},p∈HI R l->∃ q∈l,p.1=q.1/\∀ o∈p.2,o∈q.2:=by
 intro l;induction l with
 | nil=>intro p hp;cases hp
 | cons q l ih =>
  obtain⟨j,u⟩:=q;intro p hp;simp only[HI] at hp;split at hp
  ·obtain⟨q,hq,h⟩:=ih hp;exact⟨q,by simp[hq],h⟩
  ·rename_i v vs hv;rcases Z7.1 hp with rfl | hp
   ·refine⟨(j,u),by simp,rfl,fun o ho=>?_⟩;simp only at ho;rw[<-hv] at ho;exact aQ ho
   ·obtain⟨q,hq,h⟩:=ih hp;exact⟨q,by simp[hq],h⟩
theorem X8 {R:List Nm}:∀ (l:Ba),((HI R l).map (·.1)).Sublist (l.map (·.1)):=by
 intro l;induction l with
 | nil=>exact .slnil
 | cons q l ih =>
  obtain⟨j,u⟩:=q;simp only[HI];split;·exact .cons _ ih
  ·exact .cons_cons _ ih
theorem BL.trim {nt:Nat} {R:List Nm} {l:Ba} (h:BL nt l):BL nt (HI R l) where
 srt:=h.srt.sublist (X8 l)
 lt p hp:=by
  obtain⟨q,hq,e,_⟩:=Um hp;rw[e];exact h.lt q hq
 ok p hp o ho:=by
  obtain⟨q,hq,_,e⟩:=Um hp;exact h.ok q hq o (e o ho)
theorem YY {nt:Nat} {R:List Nm}:∀ {l:Ba},BL nt l->∀ (i:Nat),Be (HI R l) i=(Be l i).take (HU R i (Be l i).length):=by
 intro l;induction l with
 | nil=>intro _ i;simp[HI,Be]
 | cons q l ih =>
  obtain⟨j,u⟩:=q;intro h i;simp only[HI];cases hij:Nat.beq i j with
  | true =>
   have hb:=bF hij;subst hb
   have hrest:Be l i=[]:=by
    cases hq:Be l i with
    | nil=>rfl
    | cons x xs =>
     have hm:=LH (l:=l) (i:=i) (by rw[hq];simp);have h1:=(aZ.1 h.srt).1 i (Z4.2 ⟨_,hm,rfl⟩);exact absurd h1 (Nat.lt_irrefl i)
   have hget:Be ((i,u) :: l) i=u:=by simp[Be,hij]
   rw[hget];split
   ·rename_i hv;rw[ih h.tail i,hrest,hv];rfl
   ·rename_i v vs hv;rw[hv];simp[Be,hij]
  | false =>
   have hget:Be ((j,u) :: l) i=Be l i:=by simp[Be,hij]
   rw[hget,<-ih h.tail i];split;·rfl
   ·simp[Be,hij]
theorem ktrim_st (h:ks.Ok):(Ow ks).st=trim ks.st/\(Ow ks).Ok/\(Ow ks).nt=ks.nt:=by
 refine⟨?_,⟨h.tm,h.ob.trim,h.kp⟩,rfl⟩
 have hR:∀ nm,nm∈(AR ks.st.tmps++AR ks.st.keep++ks.st.objs.flatMap fun l=>l.flatMap Ob.names)↔nm∈(Fz ks.tmps++ks.keep.flatMap Fz++HE ks.objs):=by
  intro nm;have e1:nm∈AR ks.st.tmps↔nm∈Fz ks.tmps:=OL h.tm nm;have e2:=UA h nm;have e3:nm∈(ks.st.objs.flatMap fun l=>l.flatMap Ob.names)↔nm∈HE ks.objs:=TO h.ob nm;simp only[ar];rw[e1,e2,e3]
 unfold Ow trim;show ({tmps:=_,objs:=CI ks.nt _,keep:=_}:St)={tmps:=_,objs:=_,keep:=_};congr 1;refine Kw (by simp[AE.st,H3]) fun i hi=>?_;rw[aa,bw];show (((CI ks.nt ks.objs)[i]?).map _).map _=_;rw[denseO_get?,if_pos hi,YY h.ob];simp only[ao,az,Z6,aL,List.map_take];rw[Ub hR]
theorem SA (h:ks.Ok) (p:Nat->Bool):({ks with tmps:=F4 p ks.tmps}:AE).st={ks.st with tmps:=ks.st.tmps.zipIdx.map fun (v,i)=>if p i then v else .undef}/\({ks with tmps:=F4 p ks.tmps}:AE).Ok:=by
 refine⟨?_,h.tm.sub (YU _ _),h.ob,h.kp⟩;unfold AE.st;simp only
 congr 1;refine Kz (by simp[Et]) fun i hi=>?_;rw[aa,bw,dense_get?,if_pos hi,YV];simp only[ao,az];cases p i<;>rfl
theorem Pw (h:ks.Ok) (lv:Option (List Nat)):(Li lv ks).st=Hu lv ks.st/\(Li lv ks).Ok:=by
 cases lv with
 | none=>exact⟨rfl,h⟩
 | some l =>
  unfold Li Hu KG;simp only
  obtain⟨h1,h2⟩:=SA h (fun i=>l.contains i);obtain⟨h3,h4,_⟩:=LL h2 (IA {ks with tmps:=F4 (fun i=>l.contains i) ks.tmps});refine⟨?_,h4⟩;rw[h3,<-h1];exact Rv (fun d=>(Rb h2 d).symm) _
theorem Xy {v:PV}:Cc (.cv v) (.cv v)=[v]:=rfl
theorem Yo {l:Sp} (h:AZ (G8 l l)=true) {i:Nat} {v:PV} (hm:(i,KV.cv v)∈l):Hc v=false:=by
 unfold AZ at h;induction l with
 | nil=>cases hm
 | cons p l ih =>
  obtain⟨k,u⟩:=p;simp only[G8,bp,Z2] at h;rcases Z7.1 hm with e | hm
  ·cases e;have:=h.1;rw[Xy] at this;simpa using this
  ·exact ih h.2 hm
theorem YK {k0:AE} (h0:k0.Ok) (hu:AZ (G8 k0.tmps k0.tmps)=true) {i:Nat} (hi:i < k0.nt):(undefs k0.st).contains i=!Gv k0.tmps i:=by
 have hmem:i∈undefs k0.st↔Hc (A5 k0.tmps i).pv=true:=by
  unfold undefs;simp only[Z4,bP];constructor
  ·rintro ⟨⟨v,j⟩,⟨hv,hq⟩,rfl⟩;have:=List.mem_zipIdx hv;rw[bn] at hv;simp only at hv;have e:(BE k0.nt k0.tmps)[j]?=some v:=hv;rw[dense_get?,if_pos hi] at e;cases e;exact hq
  ·intro hq;refine⟨((A5 k0.tmps i).pv,i),⟨?_,hq⟩,rfl⟩;rw[bn];show (BE k0.nt k0.tmps)[i]?=_;rw[dense_get?,if_pos hi]
 rw[ba,bk,hmem];cases hh:Gv k0.tmps i with
 | false =>
  have:A5 k0.tmps i=.un:=by
   apply bg;intro hne;rw[(h0.tm.has_iff i).2 hne] at hh;cases hh
  simp[this,KV.pv,Hc]
 | true =>
  have hne:=(h0.tm.has_iff i).1 hh;have hm:=Nd hne;simp only[Z8,Z0,iff_false];intro hq;cases hg:A5 k0.tmps i with
  | un=>exact hne hg
  | cv v =>
   rw[hg] at hm hq;have:=Yo hu hm;simp only[KV.pv] at hq;rw[this] at hq;cases hq
  | _=>rw[hg] at hq;simp[KV.pv,Hc] at hq
theorem kdrop_st {k0:AE} (h0:k0.Ok) (hu:AZ (G8 k0.tmps k0.tmps)=true) (h:ks.Ok) (hnt:ks.nt=k0.nt):(J5 k0 ks).st=drop (undefs k0.st) ks.st/\(J5 k0 ks).Ok/\(J5 k0 ks).nt=ks.nt:=by
 unfold J5 drop;simp only
 obtain⟨h1,h2⟩:=SA h (Gv k0.tmps);obtain⟨h3,h4,h5⟩:=LL h2 (IA {ks with tmps:=F4 (Gv k0.tmps) ks.tmps});refine⟨?_,h4,h5⟩
 have h6:KI (undefs k0.st) ks.st=({ks with tmps:=F4 (Gv k0.tmps) ks.tmps}:AE).st:=by
  rw[h1];unfold KI;congr 1;apply aD;rintro ⟨v,i⟩ hm
  have hi:i < k0.nt:=by
   rw[bn] at hm;have e:(BE ks.nt ks.tmps)[i]?=some v:=hm;rw[dense_get?] at e;split at e;·omega
   ·cases e
  simp only[YK h0 hu hi];cases Gv k0.tmps i<;>rfl
 rw[h3,h6];exact Rv (fun d=>(Rb h2 d).symm) _
theorem Vt (h:ks.Ok) (t:Nat):KS ks.st t=JQ ks t:=by
 unfold KS JQ;show (match (CI ks.nt ks.objs)[t]? with | some []=>true | _=>false)=_
 rw[denseO_get?];by_cases ht:t < ks.nt
 ·rw[if_pos ht];have:Nat.blt t ks.nt=true:=by simpa[bc] using ht
  rw[this];cases Be ks.objs t<;>rfl
 ·rw[if_neg ht]
  have:Nat.blt t ks.nt=false:=by
   cases hb:Nat.blt t ks.nt with
   | false=>rfl
   | true=>exact absurd (by simpa[bc] using hb) ht
  rw[this];rfl
theorem Vu {t:Nat} (h:JQ ks t=true):t < ks.nt:=by
 unfold JQ at h;simp only[Z2,bc] at h;exact h.1
theorem TJ (h:ks.Ok) (t:Nat) (nm:Nm):(LJ t ks nm).st=(if nm≠(t,0)/\KS ks.st t=true then
   match Ak ks.st.objs nm with
   | some ob =>
    let f:Nm->Nm:=fun m=>if m=nm then (t,0) else m
    let objs:=ks.st.objs.map (·.map (Ob.ren f))
    {tmps:=Bs f ks.st.tmps,objs:=(Bl objs nm Bz).set t [ob.ren f],keep:=Bs f ks.st.keep}
   | none=>ks.st
  else ks.st)/\(LJ t ks nm).Ok/\(LJ t ks nm).nt=ks.nt:=by
 unfold LJ;rw[Vt h];by_cases hc:nm≠(t,0)/\JQ ks t=true
 ·rw[if_pos hc,if_pos hc,Ha h];cases hl:Bm ks.objs nm with
  | none=>exact⟨rfl,h,rfl⟩
  | some ob =>
   simp only[ao];have hoo:=D4 h.ob hl;have ht:=Vu hc.2
   let f:Nm->Nm:=fun m=>if m=nm then (t,0) else m
   have hm:BL ks.nt (Fl (Aj.ren f) ks.objs):=h.ob.map fun x hx=>Aj.ren_ok f hx
   refine⟨?_,⟨h.tm.map fun x hx=>KV.ren_ok f hx,(hm.kput nm (o:=Gy) rfl).put ht fun o ho=>by
    simp only[aJ] at ho;subst ho;exact Aj.ren_ok f hoo,fun sp hsp=>?_⟩,by trivial⟩
   ·unfold AE.st;simp only
    rw[Pl h.tm,Kv,M0 hm,OY h.ob (fun o ho=>Aj.ren_ob f ho),
     PB (g:=Bs f) rfl (TY f) fun sp hsp=>Pl (h.kp sp hsp) f]
    have hren:=Aj.ren_ob (fun m=>if m=nm then (t,0) else m) hoo;simp only[ZZ,Z1,hren];rfl
   ·obtain⟨q,hq,rfl⟩:=Z4.1 hsp;exact (h.kp q hq).map fun x hx=>KV.ren_ok f hx
 ·rw[if_neg hc,if_neg hc];exact⟨rfl,h,rfl⟩
theorem Zs (h:ks.Ok) (t:Nat):(Ju t ks).st=KN t ks.st/\(Ju t ks).Ok/\(Ju t ks).nt=ks.nt:=by
 have hget:ks.st.tmps.getD t .undef=(A5 ks.tmps t).pv:=Ku h.tm t;have hokt:=h.tm.get_ok t;unfold Ju KN;rw[hget];cases hg:A5 ks.tmps t with
 | arr nm k o n=>exact TJ h t nm
 | wit nm=>exact TJ h t nm
 | cv v =>
  rw[hg] at hokt;have hv:okV v=true:=hokt;simp only[KV.pv];cases v<;>first | (simp[okV] at hv;done) | exact⟨rfl,h,trivial⟩
 | _=>exact⟨rfl,h,rfl⟩
theorem TG (h:ks.Ok) (d:Nat):ks.st.objs.getD d []=(Be ks.objs d).map Aj.ob:=OM h.ob d
theorem Vs (h:ks.Ok) {nm:Nm} {ty:Nat} {cs:List KV} (hl:Bm ks.objs nm=some (.cells ty cs)) (i k:Nat):(Ms nm ty cs i k ks).Ok/\(Ms nm ty cs i k ks).nt=ks.nt/\(Ms nm ty cs i k ks).st={ks.st with objs:=ks.st.objs.set nm.1 ((ks.st.objs.getD nm.1 []).set nm.2 (.cells ty ((AN cs).set i (.arr (nm.1,(ks.st.objs.getD nm.1 []).length) k 0 0)))++[.arr k 0 []])}:=by
 have hlt:=Px h.ob hl;have hcs:A6 cs:=D4 h.ob hl
 have hset:A6 (cs.set i (.arr (nm.1,(Be ks.objs nm.1).length) k 0 0)):=Dd.2 fun x hx=>by
  rcases cn hx with hx | hx;·exact Dd.1 hcs x hx
  ·subst hx;trivial
 unfold Ms;refine⟨⟨h.tm,h.ob.put hlt fun o ho=>?_,h.kp⟩,rfl,?_⟩
 ·rcases ar.1 ho with ho | ho
  ·rcases cn ho with ho | ho;·exact h.ob.get_ok ho
   ·subst ho;exact hset
  ·simp only[aJ] at ho;subst ho;rfl
 ·rw[TG h];unfold AE.st;simp only
  rw[Kv,bm,bK];simp only[ZZ,Z1,Aj.ob,Ev,bK,KV.pv,aL]
theorem TK (h:ks.Ok) (nm m:Nm) (hlt:nm.1 < ks.nt):(LK nm m ks).Ok/\(LK nm m ks).nt=ks.nt/\(LK nm m ks).st=(if m.1≠nm.1 then
   match Ak ks.st.objs m with
   | some ob =>
    let f:Nm->Nm:=fun x=>if x=m then (nm.1,(ks.st.objs.getD nm.1 []).length) else x
    let objs:=Bl (ks.st.objs.map (·.map (Ob.ren f))) m Bz
    {tmps:=Bs f ks.st.tmps,objs:=objs.set nm.1 (objs.getD nm.1 []++[ob.ren f]),keep:=Bs f ks.st.keep}
   | none=>ks.st
  else ks.st):=by
 unfold LK;by_cases hm:m.1≠nm.1
 ·rw[if_pos hm,if_pos hm,Ha h];cases hl:Bm ks.objs m with
  | none=>exact⟨h,rfl,rfl⟩
  | some ob =>
   simp only[ao];have hoo:=D4 h.ob hl;rw[TG h,aL];generalize hf:(fun x:Nm=>if x=m then (nm.1,(Be ks.objs nm.1).length) else x)=f;have hmp:BL ks.nt (Fl (Aj.ren f) ks.objs):=h.ob.map fun x hx=>Aj.ren_ok f hx;have hkp:BL ks.nt (kput (Fl (Aj.ren f) ks.objs) m Gy):=hmp.kput m (o:=Gy) rfl;refine⟨⟨h.tm.map fun x hx=>KV.ren_ok f hx,hkp.put hlt fun o ho=>?_,fun sp hsp=>?_⟩,by trivial,?_⟩
   ·rcases ar.1 ho with ho | ho;·exact hkp.get_ok ho
    ·simp only[aJ] at ho;subst ho;exact Aj.ren_ok f hoo
   ·obtain⟨q,hq,rfl⟩:=Z4.1 hsp;exact (h.kp q hq).map fun x hx=>KV.ren_ok f hx
   ·have hobj:CI ks.nt (kput (Fl (Aj.ren f) ks.objs) m Gy)=Bl (ks.st.objs.map (·.map (Ob.ren f))) m Bz:=by
     rw[M0 hmp,OY h.ob (fun o ho=>Aj.ren_ob f ho)];rfl
    rw[<-hobj,OM hkp];unfold AE.st;simp only
    rw[Pl h.tm,Kv,PB (g:=Bs f) rfl (TY f) fun sp hsp=>Pl (h.kp sp hsp) f];have hren:=Aj.ren_ob f hoo;simp only[bm,ZZ,Z1,hren]
 ·rw[if_neg hm,if_neg hm];exact⟨h,rfl,rfl⟩
theorem XS {R:Type} {r:R} (h:ks.Ok) {nm:Nm} {ty:Nat} {cs:List KV} (hl:Bm ks.objs nm=some (.cells ty cs)) {i k:Nat} {K:AE->Option R} (hr:R5 nm ty cs i k ks K=some r):∃ k',K k'=some r/\k'.Ok/\k'.nt=ks.nt/\k'.st=ND nm ty (AN cs) i k ks.st:=by
 have hlt:=Px h.ob hl;have hcs:A6 cs:=D4 h.ob hl;unfold R5 at hr;unfold ND;simp only[pvL_get?];cases hc:cs[i]? with
 | none=>rw[hc] at hr;exact⟨_,hr,h,rfl,rfl⟩
 | some x =>
  rw[hc] at hr;cases x with
  | nils =>
   obtain⟨a,b,c⟩:=Vs h hl i k;exact⟨_,hr,a,b,c⟩
  | arr m _ _ _ =>
   obtain⟨a,b,c⟩:=TK h nm m hlt;exact⟨_,hr,a,b,c⟩
  | wit m =>
   obtain⟨a,b,c⟩:=TK h nm m hlt;exact⟨_,hr,a,b,c⟩
  | cv v =>
   have hv:okV v=true:=Dd.1 hcs _ (aj hc);simp only[ao,KV.pv];unfold CO at hr;obtain⟨a,b,c⟩:=Vs h hl i k;cases v<;>first | (simp[okV] at hv;done) | exact⟨_,hr,a,b,c⟩ | (cases hr;done)
  | _=>exact⟨_,hr,h,rfl,rfl⟩
theorem kgrowC_st {R:Type} {r:R} (h:ks.Ok) {x off k:Nat} {K:AE->Option R} (hr:Tm x off k ks K=some r):∃ k',K k'=some r/\k'.Ok/\k'.nt=ks.nt/\k'.st=OA x off k ks.st:=by
 have hget:ks.st.tmps.getD x .undef=(A5 ks.tmps x).pv:=Ku h.tm x;have hokt:=h.tm.get_ok x;unfold Tm at hr;unfold OA;rw[hget];cases hg:A5 ks.tmps x with
 | ref nm o =>
  rw[hg] at hr;simp only[KV.pv] at hr |-;rw[Ha h];cases hl:Bm ks.objs nm with
  | none=>rw[hl] at hr;exact⟨_,hr,h,rfl,rfl⟩
  | some ob =>
   rw[hl] at hr;cases ob with
   | cells ty cs=>exact XS h hl hr
   | whole ty v =>
    have hv:okV v=true:=D4 h.ob hl;have hvl:At (Ei v)=true:=DR hv;simp only[ao,Aj.ob] at hr |-;unfold Af at hr;cases hn:Ss v (o+off) with
    | false=>rw[hn] at hr;cases hr
    | true =>
     rw[hn] at hr;refine⟨_,hr,h,rfl,?_⟩;unfold Ss at hn;unfold ND;show ks.st=match (Ei v)[o+off]? with | some .nilS=>_ | some (.arr m _ _ _)=>_ | _=>_
     have e:Ei v=v.cells:=rfl;rw[e] at hvl |-;cases hc:v.cells[o+off]? with
     | none=>rfl
     | some y =>
      rw[hc] at hn;have hy:=Ia hvl hc;cases y<;>first | (simp at hn;done) | (simp[okV] at hy;done) | rfl
   | _=>exact⟨_,hr,h,rfl,rfl⟩
 | cv v =>
  rw[hg] at hr hokt;have hv:okV v=true:=hokt;simp only[KV.pv];cases v<;>first | (simp[okV] at hv;done) | exact⟨_,hr,h,rfl,rfl⟩
 | _=>rw[hg] at hr;exact⟨_,hr,h,rfl,rfl⟩
theorem kgrow_st {R:Type} {r:R} (h:ks.Ok) {t k:Nat} {K:AE->Option R} (hr:Tn t k ks K=some r):∃ k',K k'=some r/\k'.Ok/\k'.nt=ks.nt/\k'.st=Lk t k ks.st:=by
 have hget:ks.st.tmps.getD t .undef=(A5 ks.tmps t).pv:=Ku h.tm t;unfold Tn at hr;unfold Lk;by_cases hb:IQ<=t
 ·rw[if_pos hb] at hr |-;exact kgrowC_st h hr
 rw[if_neg hb] at hr |-;rw[hget];cases hg:A5 ks.tmps t with
 | nils =>
  rw[hg] at hr;simp only[KV.pv];rw[Vt h];by_cases hc:JQ ks t=true
  ·rw[if_pos hc] at hr;rw[if_pos hc];have ht:=Vu hc;refine⟨_,hr,⟨h.tm.put ht trivial rfl,h.ob.put ht fun o ho=>?_,h.kp⟩,rfl,?_⟩;·simp only[aJ] at ho;subst ho;rfl
   ·unfold AE.st;simp only
    rw[Pm,Kv];rfl
  ·rw[if_neg hc] at hr;rw[if_neg hc];exact⟨_,hr,h,rfl,rfl⟩
 | cv v =>
  rw[hg] at hr;simp only at hr;unfold notNil at hr;simp only[KV.pv];cases v<;>first | exact⟨_,hr,h,rfl,rfl⟩ | cases hr
 | _=>rw[hg] at hr;exact⟨_,hr,h,rfl,rfl⟩
theorem kgrows_st {R:Type} {r:R}:∀ (l:List (Nat×Nat)) {ks:AE} {K:AE->Option R},ks.Ok->Qa l ks K=some r->∃ k',K k'=some r/\k'.Ok/\k'.nt=ks.nt/\k'.st=l.foldl (fun st (p:Nat×Nat)=>Lk p.1 p.2 st) ks.st:=by
 intro l;induction l with
 | nil=>intro ks K h hr;exact⟨ks,hr,h,rfl,rfl⟩
 | cons p l ih =>
  obtain⟨t,k⟩:=p;intro ks K h hr;simp only[Qa] at hr;obtain⟨k1,hr,h1,n1,s1⟩:=kgrow_st h hr;obtain⟨k2,hr,h2,n2,s2⟩:=ih h1 hr;exact⟨k2,hr,h2,n2.trans n1,by rw[s2,s1];rfl⟩
theorem Yu:∀ (l:List Nat) {ks:AE},ks.Ok->(l.foldl (fun ks t=>Ju t ks) ks).Ok/\(l.foldl (fun ks t=>Ju t ks) ks).nt=ks.nt/\(l.foldl (fun ks t=>Ju t ks) ks).st=l.foldl (fun st t=>KN t st) ks.st:=by
 intro l;induction l with
 | nil=>intro ks h;exact⟨h,rfl,rfl⟩
 | cons t l ih =>
  intro ks h;simp only[bJ];obtain⟨a,b,c⟩:=Zs h t;obtain⟨d,e,f⟩:=ih b;exact⟨d,e.trans c,by rw[f,a]⟩
theorem XI (st:St):KI (undefs st) st=st:=by
 obtain⟨t,o,k⟩:=st;unfold KI;congr 1;apply aO;intro i;rw[aa,bw];cases hg:t[i]? with
 | none=>rfl
 | some v =>
  simp only[ao,az,Z6];split
  ·rename_i hc;rw[bk] at hc;unfold undefs at hc;simp only[Z4,bP] at hc;obtain⟨⟨u,j⟩,⟨hm,hu⟩,he⟩:=hc;rw[bn] at hm;simp only at he hm hu;subst he;rw[hg] at hm;cases hm;cases v<;>simp_all [Hc]
  ·rfl
theorem Sz {R:Type} {r:R} (h:ks.Ok) {asg:List Nat} {grow:List (Nat×Nat)} {K:AE->Option R} (hr:Oy asg grow ks K=some r):∃ k',K k'=some r/\k'.Ok/\k'.nt=ks.nt/\k'.st=norm asg grow ks.st:=by
 unfold Oy at hr;obtain⟨a,b,c⟩:=Yu asg h;obtain⟨k',hr,h1,n1,s1⟩:=kgrows_st grow a hr;obtain⟨d1,d2,d3⟩:=LL h1 (IA k');refine⟨_,hr,d2,d3.trans (n1.trans b),?_⟩;have e:k'.st=Qn asg grow ks.st:=by rw[s1,c];rfl
 unfold norm drop;rw[d1,<-e,XI];exact Rv (fun d=>(Rb h1 d).symm) _
theorem Sc:∀ {nt:Nat} (ps xs:Sp),I4 ps xs=true->BQ nt ps->BQ nt xs->∀ (vs:List PV) (i:Nat),Do vs i (G8 ps xs) ->
  (∀ j,(A5 (Fk ps vs i).1 j).pv=(A5 xs j).pv)/\BQ nt (Fk ps vs i).1/\(Fk ps vs i).1.map (·.1)=ps.map (·.1)/\(Fk ps vs i).2=i+(G8 ps xs).length
 | nt,[],[],_,_,_,vs,i,_=>⟨fun _=>rfl,.nil nt,rfl,rfl⟩
 | _,[],_ :: _,h,_,_,_,_,_=>by simp[I4] at h
 | _,_ :: _,[],h,_,_,_,_,_=>by simp[I4] at h
 | nt,(j1,p) :: ps,(j2,x) :: xs,h,hp,hx,vs,i,hs=>by
  simp only[I4,Z2] at h;simp only[G8] at hs;have hj:=bF h.1;subst hj;obtain⟨a,b,c⟩:=SY p x h.2.1 (hx.ok (j1,x) (by simp)) vs i hs.left;obtain⟨a',b',k',c'⟩:=Sc ps xs h.2.2 hp.tail hx.tail vs (fill p vs i).2 (by rw[c];exact hs.right);refine⟨?_,⟨?_,?_,?_,?_⟩,by simp[Fk,k'],?_⟩
  ·intro j;simp only[Fk,A5];cases Nat.beq j j1 with
   | true=>exact a
   | false=>exact a' j
  ·simp only[Fk,ZZ];rw[k'];exact hp.srt
  ·intro q hq;simp only[Fk,Z7] at hq;rcases hq with rfl | hq;·exact hp.lt (j1,p) (by simp)
   ·exact b'.lt q hq
  ·intro q hq;simp only[Fk,Z7] at hq;rcases hq with rfl | hq;·exact b
   ·exact b'.ok q hq
  ·intro q hq;simp only[Fk,Z7] at hq;rcases hq with rfl | hq;·exact WI (hp.nu (j1,p) (by simp))
   ·exact b'.nu q hq
  ·simp only[Fk,G8,aF];rw[c',c];omega
theorem VE:∀ {nt:Nat} (ps xs:Ba),J8 ps xs=true->BL nt ps->BL nt xs->∀ (vs:List PV) (i:Nat),Do vs i (LV ps xs) ->
  (∀ j,(Be (GS ps vs i).1 j).map Aj.ob=(Be xs j).map Aj.ob)/\BL nt (GS ps vs i).1/\(GS ps vs i).1.map (·.1)=ps.map (·.1)/\(GS ps vs i).2=i+(LV ps xs).length
 | nt,[],[],_,_,_,vs,i,_=>⟨fun _=>rfl,.nil nt,rfl,rfl⟩
 | _,[],_ :: _,h,_,_,_,_,_=>by simp[J8] at h
 | _,_ :: _,[],h,_,_,_,_,_=>by simp[J8] at h
 | nt,(j1,p) :: ps,(j2,x) :: xs,h,hp,hx,vs,i,hs=>by
  simp only[J8,Z2] at h;simp only[LV] at hs;have hj:=bF h.1;subst hj;obtain⟨a,b,c⟩:=RM p x h.2.1 (hx.ok (j1,x) (by simp)) vs i hs.left;obtain⟨a',b',k',c'⟩:=VE ps xs h.2.2 hp.tail hx.tail vs (C5 p vs i).2 (by rw[c];exact hs.right);refine⟨?_,⟨?_,?_,?_⟩,by simp[GS,k'],?_⟩
  ·intro j;simp only[GS,Be];cases Nat.beq j j1 with
   | true=>exact a
   | false=>exact a' j
  ·simp only[GS,ZZ];rw[k'];exact hp.srt
  ·intro q hq;simp only[GS,Z7] at hq;rcases hq with rfl | hq;·exact hp.lt (j1,p) (by simp)
   ·exact b'.lt q hq
  ·intro q hq;simp only[GS,Z7] at hq;rcases hq with rfl | hq;·exact b
   ·exact b'.ok q hq
  ·simp only[GS,LV,aF];rw[c',c];omega
theorem VF:∀ {nt:Nat} (ps xs:List Sp),J9 ps xs=true->(∀ p∈ps,BQ nt p)->(∀ x∈xs,BQ nt x)->∀ (vs:List PV) (i:Nat),Do vs i (Pv ps xs) ->
  (K8 ps vs i).1.flatMap (BE nt)=xs.flatMap (BE nt)/\(∀ p∈(K8 ps vs i).1,BQ nt p)
 | nt,[],[],_,_,_,vs,i,_=>⟨rfl,by simp[K8]⟩
 | _,[],_ :: _,h,_,_,_,_,_=>by simp[J9] at h
 | _,_ :: _,[],h,_,_,_,_,_=>by simp[J9] at h
 | nt,p :: ps,x :: xs,h,hp,hx,vs,i,hs=>by
  simp only[J9,Z2] at h;simp only[Pv] at hs;obtain⟨a,b,_,c⟩:=Sc p x h.1 (hp p (by simp)) (hx x (by simp)) vs i hs.left;obtain⟨a',b'⟩:=VF ps xs h.2 (fun q hq=>hp q (by simp[hq])) (fun q hq=>hx q (by simp[hq])) vs (Fk p vs i).2 (by rw[c];exact hs.right);refine⟨?_,?_⟩
  ·simp only[K8,bu,a'];congr 1;unfold BE;exact aD fun j _=>a j
  ·intro q hq;simp only[K8,Z7] at hq;rcases hq with rfl | hq;·exact b
   ·exact b' q hq
theorem Si {β:Type}:∀ {l:List Bool} {a:Option β} {r:β},chks l a=some r->l.all id=true/\a=some r
 | [],_,_,h=>⟨rfl,h⟩
 | b :: l,a,r,h=>by
  obtain⟨h1,h2⟩:=Br h;obtain⟨h3,h4⟩:=Si h2;exact⟨by simp[h1,h3],h4⟩
mutual
theorem SD:∀ {p x:KV},EB p x=true->(HQ p x).all id=true->Bp p x=true
 | .un,x,h,_=>by simpa[EB,Bp] using h
 | .sk,x,h,_=>by simpa[EB,Bp] using h
 | .yld _,x,h,_=>by simpa[EB,Bp] using h
 | .ref _ _,x,h,_=>by simpa[EB,Bp] using h
 | .aref _ _ _ _,x,h,_=>by simpa[EB,Bp] using h
 | .mp _,x,h,_=>by simpa[EB,Bp] using h
 | .it _,x,h,_=>by simpa[EB,Bp] using h
 | .wit _,x,h,_=>by simpa[EB,Bp] using h
 | .lit _,x,h,_=>by simpa[EB,Bp] using h
 | .nils,x,h,_=>by simpa[EB,Bp] using h
 | .cv _,x,h,_=>by simpa[EB,Bp] using h
 | .arr nm k o n,x,h,ho=>by
  cases x<;>simp only[EB,Z0] at h;simp only[HQ,bj,List.all_nil,bW,id,eqOff] at ho;simp only[Bp,h,ho,aG]
 | .fn f cap,x,h,ho=>by
  cases x<;>simp only[EB,Z0,Z2] at h;simp only[Bp,h.1,NF h.2 ho,aG]
 | .tup xs,x,h,ho=>by
  cases x<;>simp only[EB,Z0] at h;exact NF h ho
 | .agg cs,x,h,ho=>by
  unfold EB at h;unfold Bp;split;·rename_i hc;rw[if_pos hc] at h;exact h
  ·rename_i hc;rw[if_neg hc] at h;cases x<;>simp only[Z0] at h;exact NF h ho
 | .iface t y,x,h,ho=>by
  unfold EB at h;unfold Bp;split;·rename_i hc;rw[if_pos hc] at h;exact h
  ·rename_i hc;rw[if_neg hc] at h;cases x<;>simp only[Z0,Z2] at h;simp only[h.1,SD h.2 ho,aG]
theorem NF:∀ {p x:List KV},I5 p x=true->(IV p x).all id=true->Ep p x=true
 | [],x,h,_=>by cases x<;>simpa[I5,Ep] using h
 | p :: ps,[],h,_=>by simp[I5] at h
 | p :: ps,x :: xs,h,ho=>by
  simp only[I5,Z2] at h;simp only[IV,bp,Z2] at ho;simp only[Ep,SD h.1 ho.1,NF h.2 ho.2,aG]
end
mutual
theorem RD:∀ (x:KV),(HQ x x).all id=true
 | .un | .sk | .yld _ | .ref _ _ | .aref _ _ _ _ | .mp _ | .it _ | .wit _ | .lit _ | .nils | .cv _=>rfl
 | .arr nm k o n=>by simp[HQ,eqOff]
 | .fn f cap=>by simp only[HQ];exact M6 cap
 | .tup xs=>by simp only[HQ];exact M6 xs
 | .agg cs=>by simp only[HQ];exact M6 cs
 | .iface t y=>by simp only[HQ];exact RD y
theorem M6:∀ (x:List KV),(IV x x).all id=true
 | []=>rfl
 | x :: xs=>by simp only[IV,bp,RD x,M6 xs,aG]
end
theorem fit0Ob_ok {p x:Aj} (h:Tt p x=true) (ho:(Td p x).all id=true):DA p x=true:=by
 cases p with
 | cells ty cs =>
  cases x<;>simp only[Tt,Z0,Z2] at h;simp only[DA,h.1,NF h.2 ho,aG]
 | whole ty v=>exact h
 | arr k t xs=>exact h
 | map es=>exact h
 | siter s p=>exact h
theorem Yn (x:Aj):(Td x x).all id=true:=by cases x<;>first | exact M6 _ | rfl
theorem UG:∀ {p x:List Aj},Md p x=true->(L7 p x).all id=true->EN p x=true
 | [],[],_,_=>rfl
 | [],_ :: _,h,_=>by simp[Md] at h
 | _ :: _,[],h,_=>by simp[Md] at h
 | p :: ps,x :: xs,h,ho=>by
  simp only[Md,Z2] at h;simp only[L7,bp,Z2] at ho;simp only[EN,fit0Ob_ok h.1 ho.1,UG h.2 ho.2,aG]
theorem TH:∀ (x:List Aj),(L7 x x).all id=true
 | []=>rfl
 | x :: xs=>by simp only[L7,bp,Yn x,TH xs,aG]
theorem Sa:∀ {p x:Sp},K7 p x=true->(K0 p x).all id=true->I4 p x=true
 | [],[],_,_=>rfl
 | [],_ :: _,h,_=>by simp[K7] at h
 | _ :: _,[],h,_=>by simp[K7] at h
 |(i,p) :: ps,(j,x) :: xs,h,ho=>by
  simp only[K7,Z2] at h;simp only[K0,bp,Z2] at ho;simp only[I4,h.1,SD h.2.1 ho.1,Sa h.2.2 ho.2,aG]
theorem Rm:∀ (x:Sp),(K0 x x).all id=true
 | []=>rfl
 |(_,x) :: xs=>by simp only[K0,bp,RD x,Rm xs,aG]
theorem Vy:∀ {p x:Ba},Mu p x=true->(Ml p x).all id=true->J8 p x=true
 | [],[],_,_=>rfl
 | [],_ :: _,h,_=>by simp[Mu] at h
 | _ :: _,[],h,_=>by simp[Mu] at h
 |(i,p) :: ps,(j,x) :: xs,h,ho=>by
  simp only[Mu,Z2] at h;simp only[Ml,bp,Z2] at ho;simp only[J8,h.1,UG h.2.1 ho.1,Vy h.2.2 ho.2,aG]
theorem T0:∀ (x:Ba),(Ml x x).all id=true
 | []=>rfl
 |(_,x) :: xs=>by simp only[Ml,bp,TH x,T0 xs,aG]
theorem Vz:∀ {p x:List Sp},Mv p x=true->(Mm p x).all id=true->J9 p x=true
 | [],[],_,_=>rfl
 | [],_ :: _,h,_=>by simp[Mv] at h
 | _ :: _,[],h,_=>by simp[Mv] at h
 | p :: ps,x :: xs,h,ho=>by
  simp only[Mv,Z2] at h;simp only[Mm,bp,Z2] at ho;simp only[J9,Sa h.1 ho.1,Vz h.2 ho.2,aG]
theorem T1:∀ (x:List Sp),(Mm x x).all id=true
 | []=>rfl
 | x :: xs=>by simp only[Mm,bp,Rm x,T1 xs,aG]
theorem R9 {p x:AE} (h:K6 p x=true) (ho:(N8 p x).all id=true):MN p x=true:=by
 unfold K6 at h;unfold N8 at ho;simp only[Z2] at h;simp only[bp,Z2] at ho;unfold MN;simp only[h.1,Sa h.2.1 ho.1,Vy h.2.2.1 ho.2.1,Vz h.2.2.2 ho.2.2,aG]
theorem T8 {x:AE} (h:K6 x x=true):MN x x=true :=
 R9 h (by unfold N8;simp only[bp,Rm,T0,T1,aG])
theorem Pj {p x:AE} (h:MN p x=true) (hp:p.Ok) (hx:x.Ok):(CH p (Fe p x)).st=x.st/\(CH p (Fe p x)).Ok/\(CH p (Fe p x)).nt=p.nt/\p.nt=x.nt:=by
 unfold MN at h;simp only[Z2] at h;obtain⟨h0,h1,h2,h3⟩:=h;have hnt:=bF h0;have hs:=Do.all (Fe p x);unfold Fe at hs;have hx1:BQ p.nt x.tmps:=hnt ▸ hx.tm;have hx2:BL p.nt x.objs:=hnt ▸ hx.ob;have hx3:∀ sp∈x.keep,BQ p.nt sp:=hnt ▸ hx.kp;obtain⟨a1,b1,_,c1⟩:=Sc p.tmps x.tmps h1 hp.tm hx1 _ 0 hs.left.left;have hs2:=hs.left.right;obtain⟨a2,b2,_,c2⟩:=VE p.objs x.objs h2 hp.ob hx2 (Fe p x) (Fk p.tmps (Fe p x) 0).2 (by unfold Fe;rw[c1];exact hs2);have hs3:=hs.right
 obtain⟨a3,b3⟩:=VF p.keep x.keep h3 hp.kp hx3 (Fe p x) (GS p.objs (Fe p x) (Fk p.tmps (Fe p x) 0).2).2 (by
  unfold Fe at c2 |-;rw[c2,c1];simp only[aF] at hs3;rw[az] at hs3 |-;exact hs3)
 refine⟨?_,⟨b1,b2,b3⟩,rfl,hnt⟩;unfold AE.st CH;simp only
 rw[<-hnt,a3];congr 1;·unfold BE;exact aD fun j _=>a1 j
 ·unfold CI;exact aD fun j _=>a2 j
end Go.Ab


namespace Go.Ab
variable {cfg:D1} {tab:FuncId->Option Au}
theorem exec_pure {d:Nat} {σ:Nm->Option Ob} {T:List PV} {op:AC} (hp:Mk op=true) {out:AO} (h:exec d σ T op=some out):out={v:=out.v}:=by
 have hm:∀ {x:Option PV},(x.map fun v=>({v:=v}:AO))=some out->out={v:=out.v}:=by
  intro x hx;obtain⟨v,_,rfl⟩:=Z3.1 hx;rfl
 have hcm:∀ {b:Bool} {x:Option PV},AI b (x.map fun v=>({v:=v}:AO))=some out->out={v:=out.v}:=by
  intro b x hx;exact hm (DT hx).2
 have hc:∀ {b:Bool} {v:PV},AI b (some ({v:=v}:AO))=some out->out={v:=out.v}:=by
  intro b v hx;obtain⟨_,hx⟩:=DT hx;cases hx;rfl
 cases op with
 | box | alloc | mkSl | store | mkF | mkMap | insert | mkS | append | copy | call | iter | next | bad=>simp[Mk] at hp
 | mov x=>cases h;rfl
 | mkI t x=>cases h;rfl
 | bin op c cst x y=>exact hm h
 | slice k x lo hi mx=>exact hm h
 | len c x =>
  simp only[exec] at h;obtain⟨n,_,rfl⟩:=Z3.1 h;rfl
 | pick c a b | conv k x | ofRune x | strId x | un op x | nilck x=>simp only[exec] at h;split at h<;>first | (cases h;rfl) | cases h
 | build z ps=>simp only[exec] at h;split at h<;>first | (cases h;rfl) | cases h
 | toBytes x=>simp only[exec] at h;split at h<;>first | exact hc h | cases h
 | field off n ag x=>simp only[exec] at h;split at h<;>first | exact hm h | cases h
 | fieldAddr off x=>simp only[exec] at h;split at h<;>first | exact hc h | (cases h;rfl) | cases h
 | idxAddrA k l x i=>simp only[exec] at h;split at h<;>first | exact hc h | cases h
 | ofBytes x | strIdx x i | extract j x | minmax mx xs | idxAddr k x i | strSlice x lo hi =>
  simp only[exec] at h;split at h
  all_goals first
   |(cases h;done)
   | exact hc h
   |(obtain⟨n,_,rfl⟩:=Z3.1 h;rfl)
   |(split at h<;>first | (cases h;done) | exact hc h | (cases h;rfl) | (split at h<;>first | (cases h;done) | (cases h;rfl)))
 | tassert t z ok x =>
  simp only[exec] at h;split at h
  ·split at h;·cases h;rfl
   ·exact hc h
  ·exact hc h
  ·cases h
 | lookup c z ok x k =>
  simp only[exec] at h;split at h;·cases h
  ·split at h;·cases h
   ·exact hc h
 | load n ag x =>
  simp only[exec] at h;split at h
  ·split at h;·exact hm h
   ·cases h
  ·exact hm h
  ·split at h
   ·split at h;·exact hcm h
    ·cases h
   ·cases h
  ·cases h
theorem Uf (st:St) (dst:Option Nat) (v:PV):apply st dst {v}=Kk dst v [] st:=by
 rw[SH];simp[Lp,Lw,MR,Lo,bext,N9]
theorem pure_runs {M:Bf} {E:Type} {h:Ay E} {dep:Nat} {ops:List AX}:∀ (l:List AX),(∀ o∈l,Mk o.op=true)->∀ {st st':St} {e e':E},E5 M h dep ops l st e=some (st',e') ->
  e'=e/\st'.objs=st.objs/\st'.keep=st.keep/\st'.tmps.length=st.tmps.length/\∀ i,i ∉ l.filterMap (·.dst)->st'.tmps[i]?=st.tmps[i]?:=by
 intro l;induction l with
 | nil=>intro _ st st' e e' h;cases h;exact⟨rfl,rfl,rfl,rfl,fun _ _=>rfl⟩
 | cons o rest ih =>
  intro hp st st' e e' h;simp only[E5] at h;split at h
  case h_2=>cases h
  rename_i s1 e1 hs
  have hone:e1=e/\∃ v,s1=Kk o.dst v [] st:=by
   unfold stepG at hs;split at hs
   ·unfold JG at hs;split at hs
    ·rename_i out e2 ho;cases hs;unfold DG at ho;obtain⟨_,ho⟩:=DT ho;have hpo:=hp o (by simp);split at ho;·rename_i f args hop;rw[hop] at hpo;simp[Mk] at hpo
     ·split at ho
      ·rename_i out' hx;cases ho;have:=exec_pure hpo hx;refine⟨rfl,out.v,?_⟩;rw[this,Uf]
      ·cases ho
    ·cases hs
   ·cases hs;exact⟨rfl,_,Uf _ _ _⟩
   ·cases hs
  obtain⟨rfl,v,rfl⟩:=hone;obtain⟨a,b,c,d,f⟩:=ih (fun o' ho'=>hp o' (by simp[ho'])) h;refine⟨a,?_,?_,?_,?_⟩;·rw[b];cases o.dst<;>rfl
  ·rw[c];cases o.dst<;>rfl
  ·rw[d];cases o.dst<;>simp[Kk]
  ·intro i hi
   have hi':i ∉ rest.filterMap (·.dst):=fun hm=>hi (by
    simp only[cF] at hm |-;obtain⟨o',ho',hd⟩:=hm;exact⟨o',by simp[ho'],hd⟩)
   rw[f i hi'];cases hd:o.dst with
   | none=>rfl
   | some t =>
    have hne:t≠i:=fun e=>hi (by
     simp only[cF];exact⟨o,by simp,by rw[hd,e]⟩)
    simp only[Kk];rw[aB hne]
theorem YN {st st':St} (h1:st'.objs=st.objs) (h2:st'.keep=st.keep) (hl:st'.tmps.length=st.tmps.length) {l:List Nat} (h3:∀ i,i∈l->st'.tmps[i]?=st.tmps[i]?):Hu (some l) st'=Hu (some l) st:=by
 have:KG l st'=KG l st:=by
  unfold KG;obtain⟨t',o',k'⟩:=st';obtain⟨t,o,k⟩:=st;simp only at h1 h2 hl h3;subst h1;subst h2;have hl:t'.length=t.length:=hl;congr 1;show (t'.zipIdx.map fun (x:PV×Nat)=>if l.contains x.2 then x.1 else .undef)=t.zipIdx.map fun (x:PV×Nat)=>if l.contains x.2 then x.1 else .undef
  apply aO;intro i;rw[aa,aa,bw,bw];by_cases hi:i∈l
  ·rw[h3 i hi]
  ·by_cases hlt:i < t.length
   ·rw[ab hlt,ab (by omega)];simp[hi]
   ·rw[aA (by omega),aA (by omega)]
 unfold Hu;simp only[this]
theorem kdrop_ok {k0 ks:AE} (h:ks.Ok):(J5 k0 ks).Ok/\(J5 k0 ks).nt=ks.nt:=by
 unfold J5;obtain⟨h1,h2⟩:=SA h (Gv k0.tmps);obtain⟨h3,h4,h5⟩:=LL h2 (IA {ks with tmps:=F4 (Gv k0.tmps) ks.tmps});exact⟨h4,h5⟩
theorem ksetPs_ok {nt:Nat}:∀ (ps:List Nat) (args:List PV) (i:Nat) {tm:Sp},BQ nt tm->(∀ p∈ps,p < nt)->At args=true->BQ nt (IM ps args i tm):=by
 intro ps;induction ps with
 | nil=>intro args i tm h _ _;exact h
 | cons p ps ih =>
  intro args i tm h hp ha;simp only[IM];refine ih args (i+1) (h.put (hp p (by simp)) ?_ rfl) (fun q hq=>hp q (by simp[hq])) ha;show okV (Aa args i)=true;unfold Aa;rw[Z9];cases hg:args[i]? with
  | none=>rfl
  | some v=>exact Ia ha hg
theorem ksetPs_st {nt:Nat}:∀ (ps:List Nat) (args:List PV) (i:Nat) {tm:Sp},i+ps.length=args.length->BE nt (IM ps args i tm)=Ho ps (args.drop i) (BE nt tm):=by
 intro ps;induction ps with
 | nil=>intro args i tm _;simp[IM,Ho]
 | cons p ps ih =>
  intro args i tm hl;simp only[be] at hl;have hd:args.drop i=args[i]'(by omega) :: args.drop (i+1):=ch (by omega);rw[hd];simp only[IM,Ho];rw[ih args (i+1) (by omega),Pm]
  have:Aa args i=args[i]'(by omega):=by
   unfold Aa;rw[Z9,ab (by omega)];rfl
  rw[<-this];rfl
theorem Zt {R:Type} {r:R} {K:Nat->Option R}:∀ {l:List Nat} {p:Option Ex},Qu l p K=some r->∃ id,p=some (.exit id)/\K id=some r:=by
 intro l;induction l with
 | nil=>intro p h;cases h
 | cons id l ih =>
  intro p h;simp only[Qu] at h;rcases Ky h with ⟨h1,h2⟩ | ⟨_,h2⟩
  ·refine⟨id,?_,h2⟩;unfold WX at h1;split at h1;·rename_i id';rw[bF h1]
   ·cases h1
  ·exact ih h2
def sp_dense (sp:Sp) (k3:AE):List PV:=BE k3.nt sp
theorem SF (hc:Eb cfg tab):∀ (c:Bu) {E R:Type} {h:Ay E} {hn:Nat->Ay E} (_:HOk h hn) (dep:Nat) {ks:AE} {e:E} {K:Ex->AE->E->Option R} {r:R},ks.Ok->Dh cfg c h dep ks e K=some r ->
  ∃ x k' e',K x k' e'=some r/\k'.Ok/\Bj fun n=>AQ (Dy cfg.b.sp tab n) n c (hn n) dep ks.st e=some (x,k'.st,e'):=by
 intro c;induction c with
 | skip=>intro E R h hn hh dep ks e K r hk hr;exact⟨_,_,_,hr,hk,.of fun n=>rfl⟩
 | region ops dr lv =>
  intro E R h hn hh dep ks e K r hk hr;obtain⟨c1,c2,_⟩:=LL hk (CX ops);cases dr with
  | none =>
   simp only[Dh] at hr;rw[D5] at hr;split at hr
   ·rename_i t hslot;obtain⟨z,hz,hr⟩:=Db hr;rw[D5] at hr;obtain⟨k1,e1,hz2,hk1,h1⟩:=Sy (dep:=dep) hc hh ops c2 hz;unfold WB at hslot;split at hslot
    case isFalse=>cases hslot
    rename_i hcond;simp only[Z2] at hcond;cases lv with
    | none=>cases hslot
    | some l =>
    simp only at hslot;split at hslot
    case h_2=>cases hslot
    rename_i t' hfil;cases hslot;have hpure:∀ o∈ops,Mk o.op=true:=an.1 hcond.2;have hzok:okV z=true:=KV.cl_ok (hk1.tm.get_ok t) hz2
    have htlt:t < k1.nt:=by
     apply bg;intro hlt;rw[hk1.tm.get_ge (by omega)] at hz2;cases hz2
    obtain⟨m,hm⟩:=h1;have hm0:=hm m (Z5 _);obtain⟨rfl,p2,p3,p4,p5⟩:=pure_runs ops hpure hm0
    have hnt:k1.nt=(Eh (CX ops) ks).nt:=by
     have:k1.st.tmps.length=(Eh (CX ops) ks).st.tmps.length:=p4;have a1:k1.st.tmps.length=k1.nt:=Et _ _;have a2:(Eh (CX ops) ks).st.tmps.length=(Eh (CX ops) ks).nt:=Et _ _;omega
    have hput:({Eh (CX ops) ks with tmps:=Dg t (.cv z) (Eh (CX ops) ks).tmps}:AE).Ok:=⟨c2.tm.put (by omega) hzok rfl,c2.ob,c2.kp⟩;obtain⟨t1,t2⟩:=Pw hput (some l);refine⟨_,_,_,hr,t2,⟨m,fun n hn'=>?_⟩⟩;have hb:=hm n hn';rw[c1] at hb;simp only[AQ,hb,t1]
    have:Hu (some l) k1.st=Hu (some l) ({Eh (CX ops) ks with tmps:=Dg t (.cv z) (Eh (CX ops) ks).tmps}:AE).st:=by
     refine YN (st':=k1.st) (st:=({Eh (CX ops) ks with tmps:=Dg t (.cv z) (Eh (CX ops) ks).tmps}:AE).st) p2 p3 ?_ fun i hi=>?_
     ·rw[p4];show (BE _ _).length=(BE _ _).length;rw[Et,Et]
     ·show k1.st.tmps[i]?=(BE _ (Dg t (.cv z) _))[i]?;rw[Pm];by_cases hit:i=t
      ·subst hit;rw[bH (by rw[Et];show i < (Eh (CX ops) ks).nt;omega)];show (BE k1.nt k1.tmps)[i]?=_;rw[dense_get?,if_pos htlt,KV.cl_pv hz2];rfl
      ·rw[aB (aH hit)];refine p5 i fun hmem=>hit ?_;have:i∈l.filter fun t=>(ops.filterMap (·.dst)).contains t:=bP.2 ⟨hi,by simpa using hmem⟩;rw[hfil] at this;simpa using this
    rw[this]
   ·obtain⟨k1,e1,hr,hk1,h1⟩:=Sy (dep:=dep) hc hh ops c2 hr;rw[D5] at hr;obtain⟨t1,t2⟩:=Pw hk1 lv;rw[c1] at h1;exact⟨_,_,_,hr,t2,h1.mono fun n hn'=>by simp only[AQ,hn',t1]⟩
  | some bef =>
   simp only[Dh] at hr;rw[D5] at hr;obtain⟨k1,e1,hr,hk1,h1⟩:=krunsD_ok (dep:=dep) hc hh bef [] c2 hr;rw[D5] at hr;obtain⟨t1,t2⟩:=Pw hk1 lv;rw[c1] at h1;exact⟨_,_,_,hr,t2,h1.mono fun n hn'=>by simp only[AQ,hn',t1]⟩
 | seq a b iha ihb =>
  intro E R h hn hh dep ks e K r hk hr;simp only[Dh] at hr;obtain⟨x,k1,e1,hr,hk1,h1⟩:=iha hh dep hk hr;cases x with
  | normal =>
   obtain⟨x2,k2,e2,hr,hk2,h2⟩:=ihb hh dep hk1 hr;exact⟨_,_,_,hr,hk2,h1.mono2 h2 fun n a b=>by simp only[AQ,a,b]⟩
  | exit id=>exact⟨_,_,_,hr,hk1,h1.mono fun n a=>by simp only[AQ,a]⟩
  | ret=>exact⟨_,_,_,hr,hk1,h1.mono fun n a=>by simp only[AQ,a]⟩
 | cond c a b iha ihb =>
  intro E R h hn hh dep ks e K r hk hr;simp only[Dh] at hr;have hev:=GT hk c;split at hr
  ·rename_i hv;obtain⟨x,k1,e1,hr,hk1,h1⟩:=iha hh dep hk hr;exact⟨_,_,_,hr,hk1,h1.mono fun n a=>by simp only[AQ,hev,hv,KV.pv,a]⟩
  ·rename_i hv;obtain⟨x,k1,e1,hr,hk1,h1⟩:=ihb hh dep hk hr;exact⟨_,_,_,hr,hk1,h1.mono fun n a=>by simp only[AQ,hev,hv,KV.pv,a]⟩
  ·rename_i v hv;rcases Pa hr with ⟨rfl,hr⟩ | ⟨rfl,hr⟩
   ·obtain⟨x,k1,e1,hr,hk1,h1⟩:=iha hh dep hk hr;exact⟨_,_,_,hr,hk1,h1.mono fun n a=>by simp only[AQ,hev,hv,KV.pv,a]⟩
   ·obtain⟨x,k1,e1,hr,hk1,h1⟩:=ihb hh dep hk hr;exact⟨_,_,_,hr,hk1,h1.mono fun n a=>by simp only[AQ,hev,hv,KV.pv,a]⟩
  ·cases hr
 | block id b ih =>
  intro E R h hn hh dep ks e K r hk hr;simp only[Dh] at hr;obtain⟨x,k1,e1,hr,hk1,h1⟩:=ih hh dep hk hr;cases x with
  | normal=>exact⟨_,_,_,hr,hk1,h1.mono fun n a=>by simp only[AQ,a]⟩
  | ret=>exact⟨_,_,_,hr,hk1,h1.mono fun n a=>by simp only[AQ,a]⟩
  | exit id' =>
   simp only at hr;split at hr;·rename_i hid;exact⟨_,_,_,hr,hk1,h1.mono fun n a=>by simp only[AQ,a,hid,if_true]⟩
   ·rename_i hid;exact⟨_,_,_,hr,hk1,h1.mono fun n a=>by simp only[AQ,a,hid,if_false]⟩
 | loop asg grow b ih =>
  intro E R h hn hh dep ks e K r hk hr;simp only[Dh] at hr;obtain⟨k0,hr,hk0,hnt0,hst0⟩:=Sz hk hr;rw[D5] at hr;obtain⟨hU,hr⟩:=Br hr;split at hr;·cases hr
  rename_i hself;have hself:MN k0 k0=true:=T8 (by simpa using hself);obtain⟨m,hm⟩:=OV hr
  have key:∀ (m:Nat) (vs:List PV) (e:E),(CH k0 vs).Ok->G1 (fun s:List PV×E=>Dz (CH k0 s.1) fun ks=>Dh cfg b h dep ks s.2 (P3 asg grow k0 K)) m (vs,e)=some r ->
    ∃ x k' e',K x k' e'=some r/\k'.Ok/\Bj fun n=>∀ j,m<=j->Gn (Gl (Dy cfg.b.sp tab n) n asg grow b (hn n) dep (undefs k0.st)) j ((CH k0 vs).st,e)=some (x,k'.st,e'):=by
   intro m;induction m with
   | zero=>intro vs e _ h0;cases h0
   | succ m ihm =>
    intro vs e hkv hm;unfold G1 at hm;simp only at hm;rw[D5] at hm;cases hs:Dh cfg b h dep (CH k0 vs) e (P3 asg grow k0 K) with
    | none =>
     rw[hs] at hm;cases hm
    | some q =>
     rw[hs] at hm;obtain⟨x,k1,e1,hq,hk1,h1⟩:=ih hh dep hkv hs
     have hother:∀ y,y≠Ex.normal->x=y->(Ac (K y k1 e1) fun r=>some (Sum.inr r))=some q->∃ x k' e',K x k' e'=some r/\k'.Ok/\Bj fun n=>∀ j,m+1<=j->Gn (Gl (Dy cfg.b.sp tab n) n asg grow b (hn n) dep (undefs k0.st)) j ((CH k0 vs).st,e)=some (x,k'.st,e'):=by
      intro y hy hxy hq;obtain⟨r',hr',hq⟩:=Db hq;cases hq;cases hm;refine⟨y,k1,e1,hr',hk1,h1.mono fun n hn' j hj=>?_⟩;obtain⟨j,rfl⟩:∃ i,j=i+1:=⟨j - 1,by omega⟩;rw[OR];subst hxy;cases x with
      | normal=>exact absurd rfl hy
      | exit id=>simp only[Gl,hn',JK]
      | ret=>simp only[Gl,hn',JK]
     cases x with
     | exit id=>exact hother (.exit id) (by simp) rfl hq
     | ret=>exact hother .ret (by simp) rfl hq
     | normal =>
      unfold P3 at hq;simp only at hq;obtain⟨d1,d2⟩:=kdrop_ok (k0:=k0) hk1;obtain⟨k2,hq,hk2,hnt2,hst2⟩:=Sz d1 hq;rw[D5] at hq;split at hq
      ·rename_i hfit0;obtain⟨hoffs,hq⟩:=Si hq;have hfit:=R9 hfit0 hoffs;cases hq;obtain⟨f1,f2,f3,f4⟩:=Pj hfit hk0 hk2;obtain⟨g1,_,_⟩:=kdrop_st hk0 hU hk1 (by omega);obtain⟨x3,k3,e3,hr3,hk3,h3⟩:=ihm _ _ f2 hm;refine⟨x3,k3,e3,hr3,hk3,h1.mono2 h3 fun n hn1 hn3 j hj=>?_⟩;obtain⟨j,rfl⟩:∃ i,j=i+1:=⟨j - 1,by omega⟩;rw[OR];have:=hn3 j (by omega);rw[f1,hst2,g1] at this;simp only[Gl,hn1,JK];exact this
      ·cases hq
  obtain⟨s1,s2,_,_⟩:=Pj (p:=k0) (x:=k0) hself hk0 hk0;obtain⟨x,k',e',hr',hk',hev⟩:=key m _ e s2 hm;refine⟨x,k',e',hr',hk',hev.diag.mono fun n hn'=>?_⟩;rw[s1,hst0] at hn';rw[UJ,hn']
 | rangeFunc f ps asg b iha ihb =>
  intro E R h hn hh dep ks e K r hk hr;simp only[Dh] at hr;split at hr
  case h_2=>cases hr
  rename_i fv hfv;split at hr
  case isFalse=>cases hr
  rename_i hps;simp only[Z2] at hps;obtain⟨⟨hps,hself0⟩,hxf⟩:=hps;have hself:=T8 hself0
  have hpslt:∀ p∈ps,p < ks.nt:=fun p hp=>by
   have:=an.1 hps p hp;simpa[bc] using this
  obtain⟨⟨vs,p,e2⟩,hrange,hr2⟩:=Db hr;clear hr;rw[D5] at hr2;simp only at hr2;unfold Hg at hrange;split at hrange
  case h_2=>cases hrange
  rename_i g cap;split at hrange
  case h_2=>cases hrange
  rename_i rv obs rr hL;cases hrange;rw[hc.L] at hL;obtain⟨m,hm⟩:=NB hL;have hm:=hm m (Z5 _);obtain⟨s1,s2,_,_⟩:=Pj (p:=ks) (x:=ks) hself hk hk
  obtain⟨⟨st2,p2,e2'⟩,hre,hev⟩:=RP (sp:=cfg.b.sp) (tab:=tab) m (LA E) (GE E)
   (fun a b=>a.2.1=b.2.1/\a.2.2=b.2.2/\(CH ks a.1).Ok/\(CH ks a.1).st=b.1) _ (fun n=>KY (Dy cfg.b.sp tab n) n asg b (hn n) dep ps) (by
    rintro l args ⟨vs,p,e⟩ ⟨s,p',e'⟩ ⟨h1,h2,h3,h4⟩ bb ⟨vs',q,e1⟩ hq;simp only at h1 h2 h3 h4;subst h1;subst h2;subst h4;unfold Gp at hq;unfold KY;by_cases hl:l=dep
    ·simp only[hl,if_true] at hq |-;cases p with
     | some x=>cases hq
     | none =>
      simp only at hq |-;obtain⟨hargs,hq⟩:=Br hq;unfold Ij at hargs;simp only[Z2,beq_iff_eq] at hargs;rw[D5,D5] at hq;have hnt:(CH ks vs).nt=ks.nt:=rfl
      have hk1:({CH ks vs with tmps:=IM ps args 0 (CH ks vs).tmps,keep:=(CH ks vs).tmps :: (CH ks vs).keep}:AE).Ok :=
       ⟨ksetPs_ok ps args 0 h3.tm hpslt hargs.2,h3.ob,fun sp hsp=>(Z7.1 hsp).elim (fun e=>e ▸ h3.tm) (h3.kp sp)⟩
      have hk1st:({CH ks vs with tmps:=IM ps args 0 (CH ks vs).tmps,keep:=(CH ks vs).tmps :: (CH ks vs).keep}:AE).st={(CH ks vs).st with tmps:=Ho ps args (CH ks vs).st.tmps,keep:=(CH ks vs).st.tmps++(CH ks vs).st.keep}:=by
       unfold AE.st;simp only
       rw[ksetPs_st ps args 0 (by omega)];simp
      obtain⟨x1,k2,e3,hq,hk2,ha⟩:=iha hh (dep+1) hk1 hq;cases x1 with
      | exit id=>cases hq
      | ret=>cases hq
      | normal =>
       simp only at hq;obtain⟨x2,k3,e4,hq,hk3,hb⟩:=ihb hh (dep+1) hk2 hq;split at hq
       case h_1=>cases hq
       rename_i sp kp hkeep;rw[D5] at hq;split at hq
       case isFalse=>cases hq
       rename_i hfit0;obtain⟨hoffs,hq⟩:=Si hq;have hfit:=R9 hfit0 hoffs;cases hq;have hk4:({k3 with tmps:=sp,keep:=kp}:AE).Ok:=⟨hk3.kp sp (by rw[hkeep];simp),hk3.ob,fun q hq=>hk3.kp q (by rw[hkeep];simp[hq])⟩;obtain⟨f1,f2,f3,f4⟩:=Pj hfit hk hk4;have f5:ks.nt=k3.nt:=f4;refine⟨({tmps:=sp_dense sp k3,objs:=k3.st.objs,keep:=kp.flatMap (BE k3.nt)},exitOf x2,e1),⟨rfl,rfl,f2,?_⟩,ha.mono2 hb fun n hn1 hn2=>?_⟩;·rw[f1];rfl
       ·simp only[hargs.1,if_true];rw[<-hk1st,hn1];simp only
        rw[hn2];simp only
        have hkp:k3.st.keep=BE k3.nt sp++kp.flatMap (BE k3.nt):=by
         show k3.keep.flatMap (BE k3.nt)=_;rw[hkeep];rfl
        have hlen:(CH ks vs).st.tmps.length=(BE k3.nt sp).length:=by
         show (BE ks.nt _).length=_;rw[Et,Et];exact f5
        rw[hkp,hlen,List.take_left,List.drop_left];cases x2<;>rfl
    ·simp only[hl,if_false] at hq |-;split at hq
     ·rename_i b2 e3 h6;cases hq;exact⟨_,⟨rfl,rfl,h3,rfl⟩,(hh _ _ _ _ h6).mono fun n hn'=>by rw[hn']⟩
     ·cases hq) (dep+1) (AY g) (Bt g [.yld dep] cap) (Fe ks ks,none,e) (ks.st,none,e) ⟨rfl,rfl,s2,s1⟩ rv obs _ hm
  simp only at hre;obtain⟨h1,h2,h3,h4⟩:=hre;subst h1;subst h2;subst h4;have hfe:f.ev ks.st.tmps=.fn g cap:=by rw[GT hk,KV.cl_pv hfv]
  have hcap:(PV.fn g cap).names=[]:=by
   exact (EZ (KV.cl_ok (MH hk hxf) hfv)).1
  have hbase:Bj fun n=>AQ (Dy cfg.b.sp tab n) n (.rangeFunc f ps asg b) (hn n) dep ks.st e=some (p.getD .normal,(CH ks vs).st,e2):=hev.mono fun n hn'=>by
   rw[TM,hfe];unfold KR;rw[hcap];simp only[bU,if_true];simp only[Dy,B1] at hn' |-;rw[hn']
  rcases Ky hr2 with ⟨hp,hr2⟩ | ⟨_,hr2⟩
  ·cases p with
   | some x=>cases hp
   | none=>exact⟨_,_,_,hr2,h3,hbase⟩
  ·rcases Ky hr2 with ⟨hp,hr2⟩ | ⟨_,hr2⟩
   ·unfold IN at hp;split at hp;·exact⟨_,_,_,hr2,h3,hbase⟩
    ·cases hp
   ·obtain⟨id,hpe,hr3⟩:=Zt hr2;subst hpe;exact⟨_,_,_,hr3,h3,hbase⟩
 | exit id=>intro E R h hn hh dep ks e K r hk hr;exact⟨_,_,_,hr,hk,.of fun n=>rfl⟩
 | scope b ih =>
  intro E R h hn hh dep ks e K r hk hr;simp only[Dh] at hr;obtain⟨x,k1,e1,hr,hk1,h1⟩:=ih hh dep hk hr;cases x with
  | normal=>exact⟨_,_,_,hr,hk1,h1.mono fun n a=>by simp only[AQ,a]⟩
  | ret=>exact⟨_,_,_,hr,hk1,h1.mono fun n a=>by simp only[AQ,a]⟩
  | exit id' =>
   simp only at hr;split at hr;·rename_i hid;exact⟨_,_,_,hr,hk1,h1.mono fun n a=>by simp only[AQ,a,hid,if_true]⟩
   ·cases hr
 | ret=>intro E R h hn hh dep ks e K r hk hr;exact⟨_,_,_,hr,hk,.of fun n=>rfl⟩
 | norm g =>
  intro E R h hn hh dep ks e K r hk hr;simp only[Dh] at hr;obtain⟨t1,t2,_⟩:=ktrim_st hk;obtain⟨k',hr,hk',_,hst⟩:=Sz t2 hr;rw[D5] at hr;exact⟨_,_,_,hr,hk',.of fun n=>by simp only[AQ,hst,t1]⟩
 | bad=>intro E R h hn hh dep ks e K r hk hr;cases hr
 | dreg ops f args lv=>intro E R h hn hh dep ks e K r hk hr;cases hr
end Go.Ab


namespace Go.Ab
variable {cfg:D1} {tab:FuncId->Option Au} {ks:AE}
theorem kresV_ok {R:Type} {r:R} (h:ks.Ok) {x:H1} {K:KV->Option R} (hr:kresV ks x K=some r):∃ v,K v=some r/\v.ok/\B7 ks.st x=some v.pv:=by
 have hget:∀ t,ks.st.tmps.getD t .undef=(A5 ks.tmps t).pv:=fun t=>Ku h.tm t;have lk:=Ha h;cases x with
 | tmp t=>exact⟨_,hr,h.tm.get_ok t,by simp only[B7,hget]⟩
 | cell t n ag =>
  simp only[kresV] at hr;split at hr
  ·rename_i nm o hv;split at hr
   ·rename_i cs hl;have hcs:A6 cs:=D4 h.ob hl;split at hr
    ·rename_i hag;split at hr
     ·rename_i hle;refine⟨_,hr,Nj (Nk hcs _) _,?_⟩;simp only[B7,hget,hv,KV.pv,lk,hl,ao,Aj.ob,BG,hag,if_true,AI,G6,hle,decide_true,LT,LU]
     ·cases hr
    ·rename_i hag;split at hr
     ·rename_i c hc;refine⟨_,hr,Dd.1 hcs c (aj hc),?_⟩;simp only[B7,hget,hv,KV.pv,lk,hl,ao,Aj.ob,BG,hag,pvL_get?,hc];rfl
     ·cases hr
   ·rename_i w hl;obtain⟨z,hz,hr⟩:=Db hr;have hw:okV w=true:=D4 h.ob hl;unfold AU at hz;refine⟨_,hr,NN (DR hw) hz,?_⟩;simp only[B7,hget,hv,KV.pv,lk,hl,ao,Aj.ob,Ei,hz]
   ·cases hr
  ·cases hr
theorem Vp {R:Type} {r:R} (h:ks.Ok):∀ (l:List H1) {K:List KV->Option R},JN ks l K=some r->∃ vs,K vs=some r/\A6 vs/\FM ks.st l=some (AN vs):=by
 intro l;induction l with
 | nil=>intro K hr;exact⟨[],hr,trivial,rfl⟩
 | cons x l ih =>
  intro K hr;simp only[JN] at hr;obtain⟨v,hr,hv,h1⟩:=kresV_ok h hr;obtain⟨vs,hr,hvs,h2⟩:=ih hr;exact⟨v :: vs,hr,⟨hv,hvs⟩,by simp only[FM,h1,h2,AN]⟩
theorem Vr {vs:List KV} (h:A6 vs):(JO vs).ok/\(JO vs).pv=Hq (AN vs):=by
 match vs,h with
 | [],h=>exact⟨trivial,rfl⟩
 | [v],h=>exact⟨h.1,rfl⟩
 | v :: w :: vs,h=>exact⟨h,rfl⟩
theorem UC {o:Nat}:Ik o=true↔o=0:=by cases o<;>simp[Ik]
def top1:PV->List Nm
 | .arr nm _ 0 _=>[nm]
 | _=>[]
def top2:PV->List Nm
 | .arr nm _ 0 _=>[nm]
 | .agg cs=>cs.flatMap top1
 | _=>[]
def ktop1:KV->List Nm
 | .arr nm _ o _=>if Ik o then [nm] else []
 | .wit nm=>[nm]
 | _=>[]
def Ox:KV->List Nm
 | .arr nm _ o _=>if Ik o then [nm] else []
 | .wit nm=>[nm]
 | .agg cs=>cs.flatMap ktop1
 | _=>[]
theorem ktop1_ok {x:KV} (h:x.ok):ktop1 x=top1 x.pv:=by
 cases x with
 | arr nm k o n=>cases o<;>rfl
 | cv v =>
  have hv:okV v=true:=h;cases v<;>first | rfl | simp[okV] at hv
 | _=>rfl
theorem UX {cs:List PV} (h:At cs=true):cs.flatMap top1=[]:=by
 rw[List.flatMap_eq_nil_iff];intro x hx;have:=EY.1 h x hx;cases x<;>first | rfl | simp[okV] at this
theorem XZ {cs:List KV} (h:A6 cs):cs.flatMap ktop1=(AN cs).flatMap top1:=by
 rw[Ev,cZ];induction cs with
 | nil=>rfl
 | cons x xs ih=>simp only[bu];rw[ktop1_ok h.1,ih h.2]
theorem Sx {x:KV} (h:x.ok):Ox x=top2 x.pv:=by
 cases x with
 | arr nm k o n=>cases o<;>rfl
 | agg cs=>exact XZ h
 | cv v =>
  have hv:okV v=true:=h;cases v with
  | agg cs=>simp only[okV] at hv;exact (UX hv).symm
  | _=>first | rfl | simp[okV] at hv
 | _=>rfl
theorem tops_eq (v:PV):tops v=match v with | .tup xs=>xs.flatMap top2 | v=>top2 v:=by
 have e1:(fun (x:PV)=>match x with | .arr nm _ 0 _=>[nm] | _=>[])=top1:=by
  funext x;cases x<;>first | rfl | (rename_i nm k o n;cases o<;>rfl)
 cases v with
 | arr nm k o n=>cases o<;>rfl
 | agg cs=>simp only[tops,top2];rfl
 | tup xs =>
  simp only[tops];congr 1
 | _=>rfl
theorem ktops_eq (v:KV):Qs v=match v with | .tup xs=>xs.flatMap Ox | v=>Ox v:=by
 cases v<;>first | rfl | (simp only[Qs];congr 1)
theorem ktops_ok {v:KV} (h:v.ok):Qs v=tops v.pv:=by
 rw[ktops_eq,tops_eq];cases v with
 | tup xs =>
  have hx:A6 xs:=h;simp only[KV.pv];rw[Ev,cZ];clear h;induction xs with
  | nil=>rfl
  | cons x xs ih=>simp only[bu];rw[Sx hx.1,ih hx.2]
 | cv u =>
  have hu:okV u=true:=h;simp only[KV.pv,Ox];cases u with
  | tup xs =>
   simp only[okV] at hu;symm;rw[List.flatMap_eq_nil_iff];intro x hx;have hx':=EY.1 hu x hx;have:=Sx (x:=.cv x) hx';simpa[Ox,KV.pv] using this.symm
  | agg cs=>simp only[okV] at hu;exact (UX hu).symm
  | _=>first | rfl | simp[okV] at hu
 | _=>exact Sx h
theorem Us:∀ {l:List Nm},D6 l=true↔l.Nodup
 | []=>by simp[D6]
 | x :: xs=>by simp[D6,Us (l:=xs)]
theorem mapM_look {σ:Nm->Option Ob}:∀ {S:List Nm},(∀ nm∈S,∃ ob,σ nm=some ob/\J6 ob=true)->∃ obs,S.mapM σ=some obs/\obs.all J6=true/\obs.length=S.length/\∀ (i:Nat) nm,S[i]?=some nm->obs[i]?=σ nm:=by
 intro S;induction S with
 | nil=>intro _;exact⟨[],rfl,rfl,rfl,by simp⟩
 | cons nm S ih =>
  intro h;obtain⟨ob,h1,h2⟩:=h nm (by simp);obtain⟨obs,h3,h4,h5,h6⟩:=ih fun m hm=>h m (by simp[hm]);refine⟨ob :: obs,by simp[bi,h1,h3],by simp[h2,h4],by simp[h5],?_⟩;intro i m hi;cases i with
  | zero=>simp at hi;subst hi;simp[h1]
  | succ i=>simp at hi |-;exact h6 i m hi
theorem Vx {pre mid post:List Nm} {nm:Nm} (hnd:(pre++nm :: mid++post).Nodup):(pre++nm :: mid++post).idxOf nm=pre.length:=by
 have hn:nm ∉ pre:=fun hm=>by
  rw[aR,List.nodup_append] at hnd;exact hnd.2.2 nm hm nm (by simp) rfl
 rw[aR,List.idxOf_append,if_neg hn];simp
section hand
variable {σ:Nm->Option Aj} (hσ:∀ nm o,σ nm=some o->o.ok) {S:List Nm} (hnd:S.Nodup) {obs:List Ob} (hobs:∀ (i:Nat) nm,S[i]?=some nm->obs[i]?=(σ nm).map fun o=>o.ob.bare)
include hσ hnd hobs
def Hv (σ:Nm->Option Aj) (S:List Nm):Nm->Option (Option Ob):=fun nm=>if S.contains nm=true then none else BJ (fun nm=>(σ nm).map Aj.ob) nm
omit hnd hobs in
theorem ZR {x:KV} (hx:x.ok) (hn:(x.names.all fun nm=>!S.contains nm)=true):x.pv.sub (Hv σ S)=x.close (Du σ AW):=by
 rw[KV.close_pv _ hx];refine PV.sub_congr _ fun nm hm=>?_;rw[KV.pv_names hx] at hm;have:=an.1 hn nm hm;unfold Hv EQ BJ;simp only[bC] at this;rw[this,RG hσ,cw];rfl
omit hσ hnd hobs in
theorem sub_cl {x:KV} {u:PV} (hx:x.ok) (h:x.cl=some u) (f:Nm->Option (Option Ob)) (g:Nm->Nm):(x.pv.sub f).ren g=u:=by
 have hu:=KV.cl_ok hx h;rw[KV.cl_pv h,Jp (EZ hu).1,KC (EZ hu).1]
mutual
theorem Wg {R:Type} {r:R}:∀ (sh:Bq) (x:KV),x.ok->∀ {K:PV->Option R},F8 σ S sh x K=some r->∀ (pre post:List Nm),S=pre++CV sh x++post ->
  ∃ u,K u=some r/\CL obs sh pre.length ((x.pv.sub (Hv σ S)).ren (J1 S))=some (u,pre.length+(CV sh x).length)
 | .cl,x,hx,K,hr,pre,post,_=>by
  have hclose:(if x.names.all fun nm=>!S.contains nm then Af (Bh (x.close (Du σ AW))) (K (x.close (Du σ AW))) else none)=some r ->
    ∃ u,K u=some r/\CL obs .cl pre.length ((x.pv.sub (Hv σ S)).ren (J1 S))=some (u,pre.length+(CV .cl x).length):=by
   intro hr;split at hr
   ·rename_i hn;obtain⟨h1,hr⟩:=Br hr;unfold Bh at h1;refine⟨_,hr,?_⟩;rw[ZR hσ hx hn,KC (EZ h1).1];simp[CL,h1,Af,CV]
   ·cases hr
  simp only[F8] at hr;cases hu:x.cl with
  | some u =>
   rw[hu] at hr;refine⟨u,hr,?_⟩;rw[sub_cl hx hu];simp[CL,KV.cl_ok hx hu,Af,CV]
  | none =>
   rw[hu] at hr;cases x with
   | tup xs =>
    simp only at hr;cases hus:D3 xs with
    | some us =>
     rw[hus] at hr;have hok:=IS (xs:=xs) hx hus;have htup:okV (.tup us)=true:=by simpa[okV] using hok
     refine⟨.tup us,hr,?_⟩;have:(KV.tup xs).pv=.tup us:=by simp[KV.pv,JX hus]
     rw[this,Jp (EZ htup).1,KC (EZ htup).1];simp[CL,htup,Af,CV]
    | none=>rw[hus] at hr;exact hclose hr
   | _=>exact hclose hr
 | .own k,x,hx,K,hr,pre,post,hS=>by
  simp only[F8] at hr;split at hr
  ·rename_i nm k' o n;split at hr
   ·rename_i k'' kt xs hl;split at hr
    ·rename_i hc;obtain⟨rfl,rfl,ho⟩:=hc;rw[UC] at ho;subst ho;obtain⟨h1,hr⟩:=Br hr;rw[N0] at h1;unfold Ae at h1;simp only[CV] at hS;refine⟨_,hr,?_⟩;have hmem:S.contains nm=true:=by rw[bk,hS];simp
     have hi:S[pre.length]?=some nm:=by rw[hS];simp
     have hidx:S.idxOf nm=pre.length:=by
      have e:S=pre++nm :: []++post:=by rw[hS]
      rw[e];exact Vx (e ▸ hnd)
     have hob:obs[pre.length]?=some (.arr k 0 xs):=by rw[hobs _ _ hi,hl];rfl
     have hxok:At xs=true:=hσ _ _ hl
     have hsub:(PV.arr nm k 0 n).sub (Hv σ S)=.arr nm k 0 n:=by
      simp only[PV.sub,Hv,hmem,if_true]
     simp only[KV.pv];rw[hsub];simp[PV.ren,J1,hidx,CL,hob,Af,h1,hxok,CV]
    ·cases hr
   ·cases hr
  ·cases hr
 | .opt k,x,hx,K,hr,pre,post,hS=>by
  simp only[F8] at hr;split at hr
  ·rename_i nm k' o n;split at hr
   ·rename_i k'' kt xs hl;split at hr
    ·rename_i hc;obtain⟨rfl,rfl,ho⟩:=hc;rw[UC] at ho;subst ho;obtain⟨h1,hr⟩:=Br hr;rw[N0] at h1;unfold Ae at h1;simp only[CV] at hS;refine⟨_,hr,?_⟩;have hmem:S.contains nm=true:=by rw[bk,hS];simp
     have hi:S[pre.length]?=some nm:=by rw[hS];simp
     have hidx:S.idxOf nm=pre.length:=by
      have e:S=pre++nm :: []++post:=by rw[hS]
      rw[e];exact Vx (e ▸ hnd)
     have hob:obs[pre.length]?=some (.arr k 0 xs):=by rw[hobs _ _ hi,hl];rfl
     have hxok:At xs=true:=hσ _ _ hl
     have hsub:(PV.arr nm k 0 n).sub (Hv σ S)=.arr nm k 0 n:=by
      simp only[PV.sub,Hv,hmem,if_true]
     simp only[KV.pv];rw[hsub];simp[PV.ren,J1,hidx,CL,hob,Af,h1,hxok,CV]
    ·cases hr
   ·cases hr
  ·refine⟨.nilS,hr,?_⟩;simp[KV.pv,PV.sub,PV.ren,CL,CV]
  ·unfold CO at hr;split at hr
   ·refine⟨.nilS,hr,?_⟩;simp[KV.pv,PV.sub,PV.ren,CL,CV]
   ·cases hr
  ·cases hr
 | .tup l,x,hx,K,hr,pre,post,hS=>by
  simp only[F8] at hr;split at hr
  ·rename_i xs;simp only[CV] at hS;obtain⟨us,h1,h2⟩:=R4 l xs hx hr pre post hS;refine⟨_,h1,?_⟩;simp only[KV.pv,PV.sub,PV.ren,CL,h2,CV];rfl
  ·cases hr
 | .agg l,x,hx,K,hr,pre,post,hS=>by
  simp only[F8] at hr;split at hr
  ·rename_i xs;simp only[CV] at hS;obtain⟨us,h1,h2⟩:=R4 l xs hx hr pre post hS;refine⟨_,h1,?_⟩;simp only[KV.pv,PV.sub,PV.ren,CL,h2,CV];rfl
  ·cases hr
theorem R4 {R:Type} {r:R}:∀ (l:List Bq) (xs:List KV),A6 xs->∀ {K:List PV->Option R},HL σ S l xs K=some r->∀ (pre post:List Nm),S=pre++Hp l xs++post ->
  ∃ us,K us=some r/\F5 obs l pre.length (Bs (J1 S) (A2 (Hv σ S) (AN xs)))=some (us,pre.length+(Hp l xs).length)
 | [],[],_,K,hr,pre,post,_=>⟨[],hr,by simp[AN,A2,Bs,F5,Hp]⟩
 | [],_ :: _,_,K,hr,_,_,_=>by simp[HL] at hr
 | _ :: _,[],_,K,hr,_,_,_=>by simp[HL] at hr
 | s :: l,x :: xs,hx,K,hr,pre,post,hS=>by
  simp only[HL] at hr;simp only[Hp] at hS;obtain⟨u,hr,h1⟩:=Wg s x hx.1 hr pre (Hp l xs++post) (by rw[hS];simp[aR]);obtain⟨us,hr,h2⟩:=R4 l xs hx.2 hr (pre++CV s x) post (by rw[hS];simp[aR]);refine⟨u :: us,hr,?_⟩;simp only[AN,A2,Bs,F5,h1];rw[aF] at h2;rw[h2];simp[Hp,cq]
end
end hand
theorem own_arr {σ:Nm->Option Aj} {S:List Nm} {R:Type} {r:R}:∀ (sh:Bq) (x:KV) {K:PV->Option R},F8 σ S sh x K=some r->(∀ nm∈CV sh x,∃ k kt xs,σ nm=some (.arr k kt xs))/\∃ u,K u=some r:=by
 intro sh
 refine Bq.rec (motive_1:=fun sh=>∀ (x:KV) {K:PV->Option R},F8 σ S sh x K=some r->(∀ nm∈CV sh x,∃ k kt xs,σ nm=some (.arr k kt xs))/\∃ u,K u=some r)
  (motive_2:=fun l=>∀ (xs:List KV) {K:List PV->Option R},HL σ S l xs K=some r->(∀ nm∈Hp l xs,∃ k kt ys,σ nm=some (.arr k kt ys))/\∃ us,K us=some r) ?_ ?_ ?_ ?_ ?_ ?_ ?_ sh
 ·intro x K hr;refine⟨by simp[CV],?_⟩;simp only[F8] at hr;split at hr;·exact⟨_,hr⟩
  ·split at hr
   ·split at hr;·exact⟨_,hr⟩
    ·split at hr;·exact⟨_,(Br hr).2⟩
     ·cases hr
   ·split at hr;·exact⟨_,(Br hr).2⟩
    ·cases hr
 ·intro k x K hr;simp only[F8] at hr;split at hr
  ·rename_i nm k' o n;split at hr
   ·rename_i k'' kt xs hl;split at hr;·exact⟨by simp[CV,hl],_,(Br hr).2⟩
    ·cases hr
   ·cases hr
  ·cases hr
 ·intro k x K hr;simp only[F8] at hr;split at hr
  ·rename_i nm k' o n;split at hr
   ·rename_i k'' kt xs hl;split at hr;·exact⟨by simp[CV,hl],_,(Br hr).2⟩
    ·cases hr
   ·cases hr
  ·exact⟨by simp[CV],_,hr⟩
  ·unfold CO at hr;split at hr;·exact⟨by simp[CV],_,hr⟩
   ·cases hr
  ·cases hr
 ·intro l ih x K hr;simp only[F8] at hr;split at hr
  ·rename_i xs;obtain⟨h1,us,h2⟩:=ih xs hr;exact⟨by simpa[CV] using h1,_,h2⟩
  ·cases hr
 ·intro l ih x K hr;simp only[F8] at hr;split at hr
  ·rename_i xs;obtain⟨h1,us,h2⟩:=ih xs hr;exact⟨by simpa[CV] using h1,_,h2⟩
  ·cases hr
 ·intro xs K hr;cases xs with
  | nil=>exact⟨by simp[Hp],_,hr⟩
  | cons x xs=>simp[HL] at hr
 ·intro s l ihs ihl xs K hr;cases xs with
  | nil=>simp[HL] at hr
  | cons x xs =>
   simp only[HL] at hr;obtain⟨h1,u,hr⟩:=ihs x hr;obtain⟨h2,us,hr⟩:=ihl xs hr;refine⟨?_,_,hr⟩;intro nm hm;simp only[Hp,ar] at hm;exact hm.elim (h1 nm) (h2 nm)
theorem OW (shut:Bool) {v:KV} (h:v.ok):L9 shut v=Ig shut v.pv:=by
 cases shut with
 | true=>rfl
 | false=>exact ktops_ok h
theorem XR {R:Type} {r:R} (h:ks.Ok) {shut:Bool} {sh:Bq} {v:KV} (hv:v.ok) {K:PV->Option R} (hr:O9 ks shut sh v K=some r):∃ u rv obs,K u=some r/\Jw shut ks.st v.pv=some (rv,obs)/\El sh rv obs=some u:=by
 unfold O9 at hr;simp only at hr;split at hr
 case isFalse=>cases hr
 rename_i hc;obtain⟨hS,hnd,hdis,hsh⟩:=hc;have hσ:=DE h;obtain⟨harr,_⟩:=own_arr sh v hr;rw[<-hS] at harr;have hlk:=EK h
 obtain⟨obs,hm,hall,hlen,hget⟩:=mapM_look (σ:=Ak ks.st.objs) (S:=L9 shut v) fun nm hm=>by
  obtain⟨k,kt,xs,he⟩:=harr nm hm;exact⟨.arr k kt xs,by rw[Ha h,he];rfl,rfl⟩
 have hnd':=Us.1 hnd;obtain⟨u,hu,hconv⟩:=Wg hσ hnd' (obs:=obs.map Ob.bare) (fun i nm hi=>by rw[aa,hget i nm hi,Ha h,cw];rfl) sh v hv hr [] [] (by rw[<-hS];simp);refine⟨u,(v.pv.sub (Hv (Bm ks.objs) (L9 shut v))).ren (J1 (L9 shut v)),obs.map Ob.bare,hu,?_,?_⟩
 ·have e:(fun nm=>if (Ig shut v.pv).contains nm=true then none else BJ (Ak ks.st.objs) nm)=Hv (Bm ks.objs) (L9 shut v):=by
   funext nm;unfold Hv;rw[OW shut hv,hlk]
  rw[HC hσ,<-hlk] at hdis hsh;rw[LW hσ,<-hlk] at hsh;rw[OW shut hv,<-KV.pv_names hv] at hdis hsh;rw[OW shut hv] at hnd hm;unfold Jw;simp only[hnd,hdis,aG,if_true,hm,hsh,hall,AI,e,OW shut hv]
 ·unfold El;simp only[b9,az] at hconv;rw[hconv];simp[Af,hlen,hS]
theorem SW {nt:Nat} {args:List KV} (ha:A6 args) (hu:∀ x∈args,E9 x=false) (hl:args.length<=nt):({nt,tmps:=args.zipIdx.map fun p=>(p.2,p.1),objs:=[],keep:=[]}:AE).Ok /\
  ({nt,tmps:=args.zipIdx.map fun p=>(p.2,p.1),objs:=[],keep:=[]}:AE).st={tmps:=AN args++List.replicate (nt - (AN args).length) .undef,objs:=List.replicate nt [],keep:=[]}:=by
 have hmem:∀ p∈args.zipIdx.map (fun p=>(p.2,p.1)),args[p.1]?=some p.2:=by
  intro p hp;obtain⟨⟨x,i⟩,hq,rfl⟩:=Z4.1 hp;rw[bn] at hq;exact hq
 have hw:BQ nt (args.zipIdx.map fun p=>(p.2,p.1)):=by
  refine⟨?_,?_,?_,?_⟩
  ·rw[ay];have:((fun p:Nat×KV=>p.1)∘fun p:KV×Nat=>(p.2,p.1))=Prod.snd:=rfl;rw[this,List.zipIdx_map_snd];exact List.pairwise_lt_range'
  ·intro p hp;have:=(ac.1 (hmem p hp)).1;omega
  ·intro p hp;exact Dd.1 ha _ (aj (hmem p hp))
  ·intro p hp;exact hu _ (aj (hmem p hp))
 refine⟨⟨hw,.nil nt,by simp⟩,?_⟩;unfold AE.st;simp only[List.flatMap_nil];congr 1
 ·refine Kz (by simp[G6];omega) fun i hi=>?_;by_cases hia:i < args.length
  ·rw[bv (by rw[G6];exact hia),pvL_get?,ab hia]
   have hp:(i,args[i])∈args.zipIdx.map (fun p=>(p.2,p.1)):=by
    refine Z4.2 ⟨(args[i],i),?_,rfl⟩;rw[bn];simp[hia]
   rw[show A5 (args.zipIdx.map fun p=>(p.2,p.1)) i=args[i] from hw.get_mem hp];rfl
  ·rw[b8 (by rw[G6];omega),dh,if_pos (by rw[G6];omega)]
   rw[show A5 (args.zipIdx.map fun p=>(p.2,p.1)) i=.un from RW fun p hp=>by
    have:=(ac.1 (hmem p hp)).1;omega]
   rfl
 ·refine Kw (by simp) fun i hi=>?_;rw[dh,if_pos hi];rfl
theorem L4 (hc:Eb cfg tab) {g:FuncId} {fn:Au} (ht:tab g=some fn) {E:Type} {h:Ay E} {hn:Nat->Ay E} (hh:HOk h hn) {dep:Nat} {sh:Bq} {args:List KV} {e e':E} {u:PV}
  (ha:A6 args) (hu:∀ x∈args,E9 x=false) (hl:args.length<=fn.nt) (hr:AM cfg fn sh h dep args e=some (u,e')) :
  ∃ r obs,El sh r obs=some u/\Bj fun n=>B1 cfg.b.sp tab n E (hn n) dep g (AN args) e=some (r,obs,e'):=by
 unfold AM at hr;rw[D5] at hr;obtain⟨i1,i2⟩:=SW ha hu hl
 have hh':HOk h fun n=>hn (n+1):=fun l args e r hq=>by
  obtain⟨a,hb⟩:=hh l args e r hq;exact⟨a,fun n hn'=>hb (n+1) (by omega)⟩
 obtain⟨x,k1,e1,hr,hk1,hev⟩:=SF hc fn.code hh' dep i1 hr;rw[i2] at hev
 have fin:(JN k1 fn.res fun vs=>O9 k1 fn.shut sh (JO vs) fun v=>some (v,e1))=some (u,e')->(∀ id,x≠.exit id)->∃ r obs,El sh r obs=some u/\Bj fun n=>B1 cfg.b.sp tab n E (hn n) dep g (AN args) e=some (r,obs,e'):=by
  intro hr hx;obtain⟨vs,hr,hvs,h1⟩:=Vp hk1 fn.res hr;obtain⟨o1,o2⟩:=Vr hvs;obtain⟨u',rv,obs,hr,h2,h3⟩:=XR hk1 o1 hr;cases hr;refine⟨rv,obs,h3,hev.shift.mono ?_⟩;rintro k ⟨j,rfl,hj⟩;show IT (EC cfg.b.sp tab j) j tab E (hn (j+1)) dep g (AN args) e=_;simp only[IT,ht];simp only[Dy] at hj;rw[hj];cases x with
  | exit id=>exact absurd rfl (hx id)
  | normal=>simp only[h1];rw[<-o2,h2]
  | ret=>simp only[h1];rw[<-o2,h2]
 cases x with
 | exit id=>cases hr
 | normal=>exact fin hr (by simp)
 | ret=>exact fin hr (by simp)
end Go.Ab


namespace Go.Ab
section
variable {cfg:D1} {tab:FuncId->Option Au}
theorem Mw:∀ (vs:List PV),AN (vs.map KV.cv)=vs
 | []=>rfl
 | v :: vs=>by simp[AN,KV.pv,Mw vs]
theorem Oj {vs:List PV} (h:At vs=true):A6 (vs.map KV.cv):=Dd.2 fun x hx=>by
 obtain⟨v,hv,rfl⟩:=Z4.1 hx;exact EY.1 h v hv
theorem Oi {vs:List PV}:∀ x∈vs.map KV.cv,E9 x=false:=fun x hx=>by
 obtain⟨v,_,rfl⟩:=Z4.1 hx;rfl
theorem noH:HOk AP (fun _=>AP):=fun _ _ _ _ h=>by cases h
theorem Ud (hc:Eb cfg tab) {g:FuncId} {fn:Au} (ht:tab g=some fn) {sh:Bq} {cap args:List PV} {u:PV} (ha:At (args++cap)=true) (hl:(args++cap).length<=fn.nt)
  (hsp:cfg.b.sp g (fun _=>none) (args++cap)=none) (hr:AM cfg fn sh AP 0 ((args++cap).map KV.cv) ()=some (u,())) (hio:fn.io=false:=by rfl) (hb:Nat.blt g Df=true:=by rfl):Ax cfg.b sh (.fn g cap) args=some u:=by
 have hid:AY g=g:=by simp[AY,hb]
 have hfa:Bt g args cap=args++cap:=by simp[Bt,hb]
 obtain⟨r,obs,h1,h2⟩:=L4 hc ht (hn:=fun _=>AP) noH (Oj ha) Oi (by simpa using hl) hr;rw[Mw] at h2;have hL:cfg.b.L Unit AP 0 g (args++cap) ()=some (r,obs,()):=by rw[hc.L];exact JM h2
 have hfl:cfg.b.isIo g=false:=by rw[hc.isIo];unfold Fi;rw[ht];exact hio
 unfold Ax;simp only[hid,hfa,spO,hsp,hL,hfl,Z0,if_false];exact h1
theorem X4 (hc:Eb cfg tab) {g:FuncId} {fn:Au} (ht:tab g=some fn) {sh:Bq} {args:List PV} {xs:List KV} {u:PV} (hx:A6 xs) (hun:∀ x∈xs,E9 x=false) (hpv:AN xs=args) (hl:xs.length<=fn.nt)
  (hsp:cfg.b.sp g (fun _=>none) args=none) (hr:AM cfg fn sh AP 0 xs ()=some (u,())) (hio:fn.io=false:=by rfl) (hb:Nat.blt g Df=true:=by rfl):Ax cfg.b sh (.fn g []) args=some u:=by
 have hid:AY g=g:=by simp[AY,hb]
 have hfa:Bt g args []=args:=by simp[Bt,hb]
 obtain⟨r,obs,h1,h2⟩:=L4 hc ht (hn:=fun _=>AP) noH hx hun hl hr;rw[hpv] at h2;have hL:cfg.b.L Unit AP 0 g args ()=some (r,obs,()):=by rw[hc.L];exact JM h2
 have hfl:cfg.b.isIo g=false:=by rw[hc.isIo];unfold Fi;rw[ht];exact hio
 unfold Ax;simp only[hid,hfa,spO,hsp,hL,hfl,Z0,if_false];exact h1
theorem US (hc:Eb cfg tab) {g:FuncId} {cap args:List PV} {u:PV} (hsp:cfg.b.sp g (fun _=>none) (args++cap)=some {v:=u}) (hu:okV u=true) (hb:Nat.blt g Df=true:=by rfl):Ax cfg.b .cl (.fn g cap) args=some u:=by
 have hid:AY g=g:=by simp[AY,hb]
 have hfa:Bt g args cap=args++cap:=by simp[Bt,hb]
 unfold Ax;simp[hid,hfa,spO,hsp,hu,Af,El,CL]
theorem XM (hc:Eb cfg tab) {g:FuncId} {fn:Au} (ht:tab g=some fn) {E:Type} {h:Ay E} {dep:Nat} {cap:List PV} {u:PV} {e e':E} (ha:At cap=true) (hl:cap.length+1<=fn.nt)
  (hr:AM cfg fn .cl h (dep+1) (.yld dep :: cap.map KV.cv) e=some (u,e')) (hb:Nat.blt g Df=true:=by rfl):Hg cfg.b h dep (.fn g cap) e=some e':=by
 have hid:AY g=g:=by simp[AY,hb]
 have hfa:Bt g [.yld dep] cap=.yld dep :: cap:=by simp[Bt,hb]
 obtain⟨r,obs,h1,h2⟩:=L4 hc ht (hn:=fun _=>h) (fun l args e r hq=>.of fun _=>hq) (dep:=dep+1) (args:=.yld dep :: cap.map KV.cv) ⟨trivial,Oj ha⟩ (fun x hx=>by
  rcases Z7.1 hx with rfl | hx;·rfl
  ·exact Oi x hx) (by simpa using hl) hr
 have e1:AN (.yld dep :: cap.map KV.cv)=.yld dep :: cap:=by simp[AN,KV.pv,Mw]
 rw[e1] at h2;have hL:cfg.b.L E h (dep+1) g (.yld dep :: cap) e=some (r,obs,e'):=by rw[hc.L];exact JM h2
 unfold Hg;simp only[hid,hfa,hL]
theorem Xg {r u:PV} {obs:List Ob} (h:El .cl r obs=some u):r=u/\obs=[]/\okV u=true:=by
 unfold El at h;simp only[CL] at h;split at h
 ·rename_i r' j hr;obtain⟨h1,h2⟩:=Br hr;cases h2;obtain⟨h3,h4⟩:=Br h;cases h4;simp only[beq_iff_eq] at h3;exact⟨rfl,bI.1 h3.symm,h1⟩
 ·cases h
theorem T4 (hc:Eb cfg tab) {g:FuncId} {fn:Au} (ht:tab g=some fn) {fr:Bool} {args:List PV} {u:PV} (ha:At args=true) (hl:args.length<=fn.nt)
  (hr:AM cfg fn .cl AP 0 (args.map KV.cv) ()=some (u,())) (hfr:(u.free&&!GL tab g)=fr):A8 cfg.b .cl fr g args=some u:=by
 obtain⟨r,obs,h1,h2⟩:=L4 hc ht (hn:=fun _=>AP) noH (Oj ha) Oi (by simpa using hl) hr;rw[Mw] at h2;obtain⟨e1,e2,_⟩:=Xg h1;subst e1;subst e2;have hL:cfg.b.L Unit AP 0 g args ()=some (r,[],()):=by rw[hc.L];exact JM h2
 unfold A8;rw[(Da ha).2];simp only[Z0,if_false,hL,List.all_nil,bW,hc.leans,hfr,beq_self_eq_true,Af];exact h1
theorem Zr (hc:Eb cfg tab) {g:FuncId} {fn:Au} (ht:tab g=some fn) {args:List PV} {b:Bool} (ha:At args=true) (hl:args.length<=fn.nt)
  (hr:AM cfg fn .cl AP 0 (args.map KV.cv) ()=some (.bool b,())):∃ n,B1 cfg.b.sp tab n Unit AP 0 g args ()=some (.bool b,[],()):=by
 obtain⟨r,obs,h1,m,hm⟩:=L4 hc ht (hn:=fun _=>AP) noH (Oj ha) Oi (by simpa using hl) hr;rw[Mw] at hm;obtain⟨e1,e2,_⟩:=Xg h1;subst e1;subst e2;exact⟨m,hm m (Z5 _)⟩
end
theorem GK {σ ρ:Type} {step:σ->Option (Sum σ ρ)} {s0:σ} {r:ρ} (inv:Nat->σ) (N:Nat) (h0:s0=inv 0) (hs:∀ i,i < N->step (inv i)=some (.inl (inv (i+1)))) (he:step (inv N)=some (.inr r)):Bg step s0=some r:=by
 have key:∀ m i,i+m=N->Bg step (inv i)=some r:=by
  intro m;induction m with
  | zero=>intro i hi;obtain rfl:i=N:=(by omega);exact BW he
  | succ m ih=>intro i hi;rw[Dq (hs i (by omega))];exact ih (i+1) (by omega)
 rw[h0];exact key N 0 (by omega)
def Jo {E:Type} (h:Ay E) (d:Nat):List (List PV)->E->Option E
 | [],e=>some e
 | a :: l,e=>match h d a e with
  | some (true,e)=>Jo h d l e
  | some (false,e)=>some e
  | none=>none
@[simp] theorem Ao {α β:Type} (a:α) (f:α->Option β):Ac (some a) f=f a:=rfl
@[simp] theorem bindO_none' {α β:Type} (f:α->Option β):Ac none f=none:=rfl
@[simp] theorem AJ {β:Type} (a:Option β):Af true a=a:=rfl
@[simp] theorem chkO_false {β:Type} (a:Option β):Af false a=none:=rfl
@[simp] theorem An {β:Type} (b:Bool) (x y:Option β):Ah (.bool b) x y=if b=true then x else y:=by cases b<;>rfl
@[simp] theorem iteB_bool {β:Type} (b:Bool) (x y:Option β):DL b x y=if b=true then x else y:=by cases b<;>rfl
theorem BN {β:Type} (x y:Option β):Ah (.bool true) x y=x:=rfl
theorem Bv {β:Type} (x y:Option β):Ah (.bool false) x y=y:=rfl
section pure
variable {c:TC} {cst:Bool} {k:IntKind}
@[simp] theorem Nz (a b:Int):Ad (.bin .add c cst (.c (.int k a)) (.c (.int k b)))=some (.int k (k.wrap (a+b))):=by simp[Ad,exec,RX.ev,Em,AI,FK]
@[simp] theorem pure_sub (a b:Int):Ad (.bin .sub c cst (.c (.int k a)) (.c (.int k b)))=some (.int k (k.wrap (a - b))):=by simp[Ad,exec,RX.ev,Em,AI,FK]
@[simp] theorem Ny (a b:Int):Ad (.bin .mul c cst (.c (.int k a)) (.c (.int k b)))=some (.int k (k.wrap (a*b))):=by simp[Ad,exec,RX.ev,Em,AI,FK]
theorem Sm (a b:Int) (hb:b≠0):Ad (.bin .quo c cst (.c (.int k a)) (.c (.int k b)))=some (.int k (k.wrap (a.tdiv b))):=by simp[Ad,exec,RX.ev,Em,AI,FK,hb]
theorem Iy (a b:Int) (hb:b≠0):Ad (.bin .rem c cst (.c (.int k a)) (.c (.int k b)))=some (.int k (a.tmod b)):=by simp[Ad,exec,RX.ev,Em,AI,FK,hb]
@[simp] theorem V2 (a b:Int):Ad (.bin .eql c cst (.c (.int k a)) (.c (.int k b)))=some (.bool (a==b)):=by simp[Ad,exec,RX.ev,Em,AI,FK,JW]
@[simp] theorem pure_neq (a b:Int):Ad (.bin .neq c cst (.c (.int k a)) (.c (.int k b)))=some (.bool (a != b)):=by simp[Ad,exec,RX.ev,Em,AI,FK,JW]
@[simp] theorem pure_lss (a b:Int):Ad (.bin .lss c cst (.c (.int k a)) (.c (.int k b)))=some (.bool (decide (a < b))):=by simp[Ad,exec,RX.ev,Em,AI,FK,JW]
@[simp] theorem V1 (a b:Int):Ad (.bin .leq c cst (.c (.int k a)) (.c (.int k b)))=some (.bool (decide (a<=b))):=by simp[Ad,exec,RX.ev,Em,AI,FK,JW]
@[simp] theorem pure_gtr (a b:Int):Ad (.bin .gtr c cst (.c (.int k a)) (.c (.int k b)))=some (.bool (decide (b < a))):=by simp[Ad,exec,RX.ev,Em,AI,FK,JW]
@[simp] theorem pure_geq (a b:Int):Ad (.bin .geq c cst (.c (.int k a)) (.c (.int k b)))=some (.bool (decide (b<=a))):=by simp[Ad,exec,RX.ev,Em,AI,FK,JW]
@[simp] theorem Jq (a b:List UInt8):Ad (.bin .eql c cst (.c (.str a)) (.c (.str b)))=some (.bool (a==b)):=by simp[Ad,exec,RX.ev,Em,La]
@[simp] theorem pure_nes (a b:List UInt8):Ad (.bin .neq c cst (.c (.str a)) (.c (.str b)))=some (.bool (!(a==b))):=by simp[Ad,exec,RX.ev,Em,La]
@[simp] theorem Iz (a b:Bool):Ad (.bin .eql .bool cst (.c (.bool a)) (.c (.bool b)))=some (.bool (a==b)):=by simp[Ad,exec,RX.ev,Em,Ka]
@[simp] theorem HD (a b:Bool):Ad (.bin .neq .bool cst (.c (.bool a)) (.c (.bool b)))=some (.bool (!(a==b))):=by simp[Ad,exec,RX.ev,Em,Ka]
@[simp] theorem Ca (b:Bool):Ad (.un .not (.c (.bool b)))=some (.bool (!b)):=rfl
@[simp] theorem V0 (n:Int):Ad (.un .neg (.c (.int k n)))=some (.int k (k.wrap (0 - n))):=rfl
@[simp] theorem pure_conv {k':IntKind} (n:Int):Ad (.conv k (.c (.int k' n)))=some (.int k (k.wrap n)):=rfl
@[simp] theorem pure_lens (s:List UInt8):Ad (.len .str (.c (.str s)))=some (.int .i64 (s.length:Int)):=rfl
@[simp] theorem HA {j:Nat} (xs:List PV) (f:Bool):Ad (.len .slice (.c (.sl j xs f)))=some (.int .i64 (xs.length:Int)):=rfl
@[simp] theorem pure_lenn:Ad (.len .slice (.c .nilS))=some (.int .i64 0):=rfl
@[simp] theorem B3 (j:Nat) (xs:List PV):Ad (.extract j (.c (.tup xs)))=xs[j]?:=by
 simp only[Ad,exec,RX.ev];cases xs[j]?<;>rfl
@[simp] theorem Kx {n o:Nat} {ag:Bool} (cs:List PV):Ad (.load n ag (.c (.ptr cs o)))=BG cs o n ag:=by
 simp only[Ad,exec,RX.ev];cases BG cs o n ag<;>rfl
@[simp] theorem pure_field {n o:Nat} {ag:Bool} (cs:List PV):Ad (.field o n ag (.c (.agg cs)))=BG cs o n ag:=by
 simp only[Ad,exec,RX.ev];cases BG cs o n ag<;>rfl
@[simp] theorem pure_nilck (cs:List PV) (o:Nat):Ad (.nilck (.c (.ptr cs o)))=some (.ptr cs o):=rfl
@[simp] theorem pure_nilckf (f:Nat) (cs:List PV):Ad (.nilck (.c (.fn f cs)))=some (.fn f cs):=rfl
@[simp] theorem pure_faddr {off o:Nat} (cs:List PV):Ad (.fieldAddr off (.c (.ptr cs o)))=if o+off < cs.length then some (.ptr cs (o+off)) else none:=by
 by_cases hq:o+off < cs.length<;>simp[Ad,exec,RX.ev,AI,hq]
theorem LI {xs:List PV} {j n:Nat} {f:Bool} {v:PV} (hn:0 < n) (h:xs[j]?=some v):Ad (.idxAddr n (.c (.sl n xs f)) (.c (.int k (j:Int))))=some (.ptr v.cells 0):=by
 simp[Ad,exec,RX.ev,Dx,h,AI,hn]
theorem pure_ssl2 {s:List UInt8} {h:Nat} (hh:h<=s.length):Ad (.strSlice (.c (.str s)) none (some (.c (.int k (h:Int)))))=some (.str (s.take h)):=by
 simp[Ad,exec,RX.ev,Cp,CM,Dx,AI,hh]
end pure
@[simp] theorem JB (v:PV):BG [v] 0 1 false=some v:=rfl
@[simp] theorem cells_int (k:IntKind) (n:Int):(PV.int k n).cells=[.int k n]:=rfl
@[simp] theorem VK (s:List UInt8):(PV.str s).cells=[.str s]:=rfl
@[simp] theorem cells_bool (b:Bool):(PV.bool b).cells=[.bool b]:=rfl
@[simp] theorem BM (cs:List PV):(PV.agg cs).cells=cs:=rfl
@[simp] theorem Xm (a b:Nat):Av a b=a+b:=rfl
@[simp] theorem subN_eq (a b:Nat):subN a b=a - b:=rfl
@[simp] theorem minN_eq (a b:Nat):minN a b=min a b:=rfl
@[simp] theorem SS (l:List PV):Ae l=l.length:=rfl
@[simp] theorem takeL_eq (n:Nat) (l:List PV):As n l=l.take n:=rfl
@[simp] theorem dropL_eq (n:Nat) (l:List PV):AG n l=l.drop n:=rfl
@[simp] theorem catL_eq (l m:List PV):A9 l m=l++m:=rfl
@[simp] theorem replL_eq (n:Nat) (v:PV):GU n v=List.replicate n v:=rfl
@[simp] theorem B2 (k:Nat) (xs:List PV) (f:Bool):Ap (.sl k xs f)=xs:=rfl
@[simp] theorem KF (k:IntKind) (n:Int):Al (.int k n)=n.toNat:=rfl
@[simp] theorem FN (n:Nat):nI n=.int .i64 (n:Int):=rfl
@[simp] theorem N1 (a b:Bool):Bi a b=(a&&b):=rfl
@[simp] theorem P7 (a b:Nat):Az a b=decide (a<=b):=by
 rw[ba,NS,decide_eq_true_iff]
@[simp] theorem ltN_eq (a b:Nat):D2 a b=decide (a < b):=by
 rw[ba,L8,decide_eq_true_iff]
@[simp] theorem eqN_eq (a b:Nat):Ge a b=decide (a=b):=by
 rw[ba,N0,decide_eq_true_iff]
@[simp] theorem A7 (x:PV) (l:List PV):Aa (x :: l) 0=x:=rfl
@[simp] theorem A4 (a x:PV) (l:List PV):Aa (a :: x :: l) 1=x:=rfl
@[simp] theorem Bc (a b x:PV) (l:List PV):Aa (a :: b :: x :: l) 2=x:=rfl
@[simp] theorem BD (a b c x:PV) (l:List PV):Aa (a :: b :: c :: x :: l) 3=x:=rfl
@[simp] theorem Cl (a b c d x:PV) (l:List PV):Aa (a :: b :: c :: d :: x :: l) 4=x:=rfl
@[simp] theorem DI (a b c d e x:PV) (l:List PV):Aa (a :: b :: c :: d :: e :: x :: l) 5=x:=rfl
@[simp] theorem DH (a b c d e f x:PV) (l:List PV):Aa (a :: b :: c :: d :: e :: f :: x :: l) 6=x:=rfl
@[simp] theorem Ea (a b c d e f g x:PV) (l:List PV):Aa (a :: b :: c :: d :: e :: f :: g :: x :: l) 7=x:=rfl
@[simp] theorem ET (a b c d e f g h x:PV) (l:List PV):Aa (a :: b :: c :: d :: e :: f :: g :: h :: x :: l) 8=x:=rfl
@[simp] theorem BU (v:PV) (o n:Nat) (ag:Bool):AU v o n ag=BG v.cells o n ag:=rfl
@[simp] theorem natO_int (k:IntKind) (n:Nat):FR (.int k (n:Int))=some n:=by simp[FR,Dx]
end Go.Ab


namespace Go.Ab
section
variable {cfg:D1} {tab:FuncId->Option Au}
theorem kisUn_eq {x:KV} (h:kisUn x=false):E9 x=false:=by cases x<;>first | rfl | cases h
theorem evalDK_ok (hc:Eb cfg tab) {nt:Nat}:∀ (c:Bu) {R:Type} {ks:AE} {K:Ex->AE->List Nat->Option R} {r:R},ks.Ok->FI cfg nt c ks K=some r ->
  ∃ x k' l,K x k' l=some r/\k'.Ok/\Bj fun n=>Bk (Dy cfg.b.sp tab n) n nt c ks.st=some (x,k'.st,l):=by
 intro c;induction c with
 | dreg ops f args lv =>
  intro R ks K r hk hr;simp only[FI] at hr;rw[D5] at hr;obtain⟨c1,c2,_⟩:=LL hk (CX ops);obtain⟨k1,e1,hr,hk1,h1⟩:=Sy (hn:=fun _=>AP) (dep:=0) hc noH ops c2 hr;split at hr
  case isFalse=>cases hr
  rename_i hcd;obtain⟨a1,a2,a3,a4⟩:=hcd;rw[D5] at hr;simp only[Z2] at a2;have hle:args.length+1<=nt:=ae a2.1;have hnt:k1.nt=nt:=bF a2.2;have hxf:EW f=true:=an.1 a3 f (by simp);have hxa:args.all EW=true:=an.2 fun x hm=>an.1 a3 x (by simp[hm]);have hfo:=MH hk1 hxf;have hao:=K1 hk1 hxa;have hfe:=GT hk1 f;have hae:args.map (RX.ev k1.st.tmps)=AN (args.map (RX.kv k1.tmps)):=HK hk1 args;generalize hxs:f.kv k1.tmps :: args.map (RX.kv k1.tmps)=xs at hr a4;have hlen:xs.length=args.length+1:=by rw[<-hxs];simp
  have hok:A6 xs:=by rw[<-hxs];exact⟨hfo,hao⟩
  have hpv:AN xs=f.ev k1.st.tmps :: args.map (RX.ev k1.st.tmps):=by rw[<-hxs,hfe,hae];rfl
  obtain⟨i1,i2⟩:=SW (nt:=nt) hok (fun x hx=>kisUn_eq (by
   rw[List.any_eq_false] at a4;simpa using a4 x hx)) (by omega)
  have e1:BE nt (xs.zipIdx.map fun p=>(p.2,p.1))=AN xs++List.replicate (nt - (AN xs).length) .undef:=congrArg St.tmps i2
  have hk2:({k1 with keep:=(xs.zipIdx.map fun p=>(p.2,p.1)) :: k1.keep}:AE).Ok:=⟨hk1.tm,hk1.ob,fun sp hsp=>by
   rcases Z7.1 hsp with rfl | hsp;·rw[hnt];exact i1.tm
   ·exact hk1.kp sp hsp⟩
  have hst2:({k1 with keep:=(xs.zipIdx.map fun p=>(p.2,p.1)) :: k1.keep}:AE).st=Qm nt (f.ev k1.st.tmps :: args.map (RX.ev k1.st.tmps)) k1.st:=by
   rw[<-hpv];unfold Qm AE.st;simp only[bu];rw[hnt,e1]
  obtain⟨t1,t2⟩:=Pw hk2 lv
  have hfn:isFn (f.ev k1.st.tmps)=true:=by
   rw[hfe];cases hq:f.kv k1.tmps with
   | fn g cap=>rfl
   | _=>rw[hq] at a1;cases a1
  refine⟨_,_,_,hr,t2,h1.mono fun n hn'=>?_⟩;rw[c1] at hn';simp only[Bk,hn',t1,hst2,AI,hfn,bW,decide_eq_true_eq,if_pos hle]
 | seq a b iha ihb =>
  intro R ks K r hk hr;simp only[FI] at hr;obtain⟨x,k1,l,hr,hk1,h1⟩:=iha hk hr;cases x with
  | normal =>
   obtain⟨x2,k2,l2,hr,hk2,h2⟩:=ihb hk1 hr;exact⟨_,_,_,hr,hk2,h1.mono2 h2 fun n a b=>by simp only[Bk,a,b]⟩
  | exit id=>exact⟨_,_,_,hr,hk1,h1.mono fun n a=>by simp only[Bk,a]⟩
  | ret=>exact⟨_,_,_,hr,hk1,h1.mono fun n a=>by simp only[Bk,a]⟩
 | cond c a b iha ihb =>
  intro R ks K r hk hr;simp only[FI] at hr;have hev:=GT hk c;split at hr
  ·rename_i hv;obtain⟨x,k1,e1,hr,hk1,h1⟩:=iha hk hr;exact⟨_,_,_,hr,hk1,h1.mono fun n a=>by simp only[Bk,hev,hv,KV.pv,a]⟩
  ·rename_i hv;obtain⟨x,k1,e1,hr,hk1,h1⟩:=ihb hk hr;exact⟨_,_,_,hr,hk1,h1.mono fun n a=>by simp only[Bk,hev,hv,KV.pv,a]⟩
  ·rename_i v hv;rcases Pa hr with ⟨rfl,hr⟩ | ⟨rfl,hr⟩
   ·obtain⟨x,k1,e1,hr,hk1,h1⟩:=iha hk hr;exact⟨_,_,_,hr,hk1,h1.mono fun n a=>by simp only[Bk,hev,hv,KV.pv,a]⟩
   ·obtain⟨x,k1,e1,hr,hk1,h1⟩:=ihb hk hr;exact⟨_,_,_,hr,hk1,h1.mono fun n a=>by simp only[Bk,hev,hv,KV.pv,a]⟩
  ·cases hr
 | block id b ih =>
  intro R ks K r hk hr;simp only[FI] at hr;obtain⟨x,k1,l,hr,hk1,h1⟩:=ih hk hr;cases x with
  | normal=>exact⟨_,_,_,hr,hk1,h1.mono fun n a=>by simp only[Bk,a]⟩
  | ret=>exact⟨_,_,_,hr,hk1,h1.mono fun n a=>by simp only[Bk,a]⟩
  | exit id' =>
   simp only at hr;split at hr;·rename_i hid;exact⟨_,_,_,hr,hk1,h1.mono fun n a=>by simp only[Bk,a,hid,if_true]⟩
   ·rename_i hid;exact⟨_,_,_,hr,hk1,h1.mono fun n a=>by simp only[Bk,a,hid,if_false]⟩
 | scope b ih =>
  intro R ks K r hk hr;simp only[FI] at hr;split at hr;·cases hr
  rename_i hlb;obtain⟨x,k1,l,hr,hk1,h1⟩:=ih hk hr;cases x with
  | normal=>exact⟨_,_,_,hr,hk1,h1.mono fun n a=>by simp only[Bk,a,hlb,if_false,Z0]⟩
  | ret=>exact⟨_,_,_,hr,hk1,h1.mono fun n a=>by simp only[Bk,a,hlb,if_false,Z0]⟩
  | exit id' =>
   simp only at hr;split at hr;·rename_i hid;exact⟨_,_,_,hr,hk1,h1.mono fun n a=>by simp only[Bk,a,hlb,hid,if_true,if_false,Z0]⟩
   ·cases hr
 | _ =>
  intro R ks K r hk hr;simp only[FI] at hr;obtain⟨x,k1,e1,hr,hk1,h1⟩:=SF hc _ (h:=AP) (hn:=fun _=>AP) noH 0 hk hr;exact⟨_,_,_,hr,hk1,h1.mono fun n a=>by simp only[Bk,a,Gx]⟩
theorem dfrsK_ok (hc:Eb cfg tab) {nt:Nat} {R:Type}:∀ (l:List Nat) {ks:AE} {K:AE->Option R} {r:R},ks.Ok->QA cfg nt l ks K=some r ->
  ∃ k',K k'=some r/\k'.Ok/\Bj fun n=>G3 (Dy cfg.b.sp tab n) nt l ks.st=some k'.st:=by
 intro l;induction l with
 | nil=>intro ks K r hk hr;exact⟨ks,hr,hk,.of fun n=>rfl⟩
 | cons n l ih =>
  intro ks K r hk hr;simp only[QA] at hr;split at hr;·cases hr
  rename_i sp kp hkeep;split at hr
  case h_2=>cases hr
  rename_i f caps hget;split at hr
  case h_2=>cases hr
  rename_i P hP;split at hr
  case isFalse=>cases hr
  rename_i hcd;obtain⟨b1,b2,b3⟩:=hcd;simp only[Z2] at b2;have hle:n+1<=nt:=ae b2.1;have hnt:ks.nt=nt:=bF b2.2;have hsp:BQ nt sp:=by rw[<-hnt];exact hk.kp sp (by rw[hkeep];exact aq)
  have hcaps:A6 caps:=by
   have:=hsp.get_ok 0;rw[hget] at this;exact this
  have hargs:A6 ((List.range n).map fun j=>A5 sp (j+1)):=Dd.2 fun x hx=>by
   obtain⟨j,_,rfl⟩:=Z4.1 hx;exact hsp.get_ok _
  obtain⟨out,hr,ho,hspf,hev⟩:=UB hc hk b3 (Uz (f:=f) hargs hcaps) hP hr;split at hr
  case isFalse=>cases hr
  rename_i hnew;rw[D5] at hr;have hk2:({ks with keep:=kp}:AE).Ok:=⟨hk.tm,hk.ob,fun sp' h=>hk.kp sp' (by rw[hkeep];exact ap _ h)⟩;obtain⟨s1,s2⟩:=Rp (ks:={ks with keep:=kp}) hk2 (by show (_||Fg ks.objs)=true;rw[b3];simp) none ho;obtain⟨k',hr,hk',h2⟩:=ih s2 hr
  have hkp:ks.st.keep=BE nt sp++kp.flatMap (BE nt):=by
   show ks.keep.flatMap (BE ks.nt)=_;rw[hkeep,hnt];rfl
  have hget0:ks.st.keep.getD 0 .undef=.fn f (AN caps):=by
   have:(BE nt sp)[0]?=some (KV.fn f caps).pv:=by rw[dense_get?,if_pos (by omega),hget]
   rw[hkp,Z9,bv (by rw[Et];omega),this];rfl
  have htake:(ks.st.keep.drop 1).take n=AN ((List.range n).map fun j=>A5 sp (j+1)):=by
   rw[hkp,Ev,ay];apply aO;intro j;rw[List.getElem?_take,ck,aa];by_cases hj:j < n
   ·rw[if_pos hj,bv (by rw[Et];omega),dense_get?,if_pos (by omega),bo hj];simp[Nat.add_comm]
   ·rw[if_neg hj,aA (by simp;omega)];rfl
  have hdrop:({ks with keep:=kp}:AE).st={ks.st with keep:=ks.st.keep.drop nt}:=by
   rw[hkp,List.drop_left' (Et nt sp)];unfold AE.st;simp only[hnt]
  have hvs:Bt f ((ks.st.keep.drop 1).take n) (AN caps)=AN (Id f ((List.range n).map fun j=>A5 sp (j+1)) caps):=by rw[htake,Uy]
  have hflag:Fi tab (AY f)=true:=by rw[<-hc.ioF,hP];rfl
  have hflat:Jx tab (AY f)=true:=hc.flat _ b1
  have hnew':(out.out.new.isEmpty||out.out.slot.isSome)=true:=by
   simp only[AB.out];have:(out.new.map Aj.ob).isEmpty=out.new.isEmpty:=by cases out.new<;>rfl
   rw[this];exact hnew
  rw[s1,hdrop] at h2;refine⟨k',hr,hk',hev.mono2 h2 fun m a b=>?_⟩;simp only[G3,hget0,hvs,Js,OU,Zp,hc.spF _ hspf,hflag,hflat,bW,if_true,a,AI,hnew',b]
end
end Go.Ab


namespace Go.Ab
mutual
theorem Rt:∀ (p x:KV),Bp p x=true->x.ok->Ch p x.pv=some (Cc p x)
 | .un,x,h,_=>by cases x<;>simp[Bp] at h;rfl
 | .sk,x,h,_=>by cases x<;>simp[Bp] at h;rfl
 | .yld d,x,h,_=>by cases x<;>simp[Bp] at h;rfl
 | .ref nm o,x,h,_=>by cases x<;>simp[Bp] at h;obtain⟨rfl,rfl⟩:=h;simp[Ch,KV.pv,Cc,Af]
 | .aref _ _ _ _,x,h,_=>by simp[Bp] at h
 | .mp nm,x,h,_=>by cases x<;>simp[Bp] at h;subst h;simp[Ch,KV.pv,Cc,Af]
 | .it nm,x,h,_=>by cases x<;>simp[Bp] at h;subst h;simp[Ch,KV.pv,Cc,Af]
 | .wit nm,x,h,_=>by cases x<;>simp[Bp] at h;subst h;simp[Ch,KV.pv,Cc,Af]
 | .arr nm k o n,x,h,_=>by
  cases x with
  | arr nm' k' o' n' =>
   simp only[Bp] at h;simp only[KV.pv,Ch,Cc];rw[h];rfl
  | _=>simp[Bp] at h
 | .lit b,x,h,hx=>NC hx (by simpa[Bp] using h)
 | .nils,x,h,hx=>NC hx (by simpa[Bp] using h)
 | .cv v,x,h,hx=>NC hx (by simpa[Bp] using h)
 | .fn f cap,x,h,hx=>by
  cases x with
  | fn f' cap' =>
   simp only[Bp,Z2,beq_iff_eq] at h;obtain⟨rfl,h⟩:=h;simp only[KV.pv,Ch,if_true,Cc];exact MV cap cap' h hx
  | _=>simp[Bp] at h
 | .tup xs,x,h,hx=>by
  cases x with
  | tup ys =>
   simp only[Bp] at h;simp only[KV.pv,Ch,Cc];exact MV xs ys h hx
  | _=>simp[Bp] at h
 | .agg cs,x,h,hx=>by
  simp only[Bp] at h;simp only[Ch,Cc];by_cases hc:(D3 cs).isSome=true
  ·rw[if_pos hc] at h;rw[if_pos hc,if_pos hc];exact NC hx h
  ·rw[if_neg hc] at h;rw[if_neg hc,if_neg hc];cases x with
   | agg cs'=>exact MV cs cs' h hx
   | _=>simp at h
 | .iface t y,x,h,hx=>by
  simp only[Bp] at h;simp only[Ch,Cc];by_cases hc:y.cl.isSome=true
  ·rw[if_pos hc] at h;rw[if_pos hc,if_pos hc];exact NC hx h
  ·rw[if_neg hc] at h;rw[if_neg hc,if_neg hc];cases x with
   | iface t' y' =>
    simp only[Z2,beq_iff_eq] at h;obtain⟨rfl,h⟩:=h;simp only[KV.pv,if_true];exact Rt y y' h hx
   | _=>simp at h
theorem MV:∀ (ps xs:List KV),Ep ps xs=true->A6 xs->HS ps (AN xs)=some (Gq ps xs)
 | [],xs,h,_=>by cases xs<;>simp[Ep] at h;rfl
 | p :: ps,xs,h,hx=>by
  cases xs with
  | nil=>simp[Ep] at h
  | cons x xs =>
   simp only[Ep,Z2] at h;simp only[AN,HS,Gq];rw[Rt p x h.1 hx.1,MV ps xs h.2 hx.2]
theorem NC {x:KV} (hx:x.ok) (h:x.cl.isSome=true):Af (okV x.pv) (some [x.pv])=some [x.cl.getD .undef]:=by
 obtain⟨v,hv⟩:=bT.1 h;have h1:=KV.cl_ok hx hv;rw[KV.cl_pv hv,hv];simp[Af,h1]
end
theorem XG (p x:Aj) (h:DA p x=true) (hx:x.ok):Fj p x.ob=some (Np p x):=by
 cases p with
 | cells ty cs =>
  cases x with
  | cells ty' cs' =>
   simp only[DA,Z2,beq_iff_eq] at h;obtain⟨rfl,h⟩:=h;simp only[Fj,Aj.ob,if_true];exact MV cs cs' h hx
  | _=>simp[DA] at h
 | whole ty w =>
  cases x with
  | whole ty' v =>
   simp only[DA,beq_iff_eq] at h;subst h;have hx':okV v=true:=hx;have h2:At (Ei v)=true:=DR hx';simp[Fj,Aj.ob,Np,Af,h2]
  | _=>simp[DA] at h
 | arr k kt ws =>
  cases x with
  | arr k' kt xs =>
   simp only[DA,Z2,beq_iff_eq] at h;obtain⟨rfl,rfl⟩:=h;have hx':At xs=true:=hx;simp[Fj,Aj.ob,Np,G9,Af,hx']
  | _=>simp[DA] at h
 | map ws =>
  cases x with
  | map es =>
   have hx':At es=true:=hx;simp[Fj,Aj.ob,Np,G9,Af,hx']
  | _=>simp[DA] at h
 | siter s0 p0 =>
  cases x with
  | siter s pos=>rfl
  | _=>simp[DA] at h
theorem Q7:∀ (ps xs:List Aj),EN ps xs=true->(∀ o∈xs,o.ok)->IH ps (xs.map Aj.ob)=some (M7 ps xs)
 | [],[],_,_=>rfl
 | [],_ :: _,h,_=>by simp[EN] at h
 | _ :: _,[],h,_=>by simp[EN] at h
 | p :: ps,x :: xs,h,hx=>by
  simp only[EN,Z2] at h;simp only[ZZ,IH,M7];rw[XG p x h.1 (hx x aq),Q7 ps xs h.2 fun o ho=>hx o (ap _ ho)]
theorem kwit_pv {x:KV} (h:x.ok):F7 x.pv=Mp x:=by
 cases x with
 | arr nm k o n =>
  simp only[KV.pv,Mp,F7];by_cases hc:k=1/\o=0/\n=0
  ·obtain⟨rfl,rfl,rfl⟩:=hc;rfl
  ·rw[if_neg hc];split
   ·rename_i heq;cases heq;exact absurd ⟨rfl,rfl,rfl⟩ hc
   ·rfl
 | cv v =>
  have hv:okV v=true:=h;simp only[KV.pv,Mp];unfold F7;split;·simp[okV] at hv
  ·rfl
 | _=>rfl
section
variable {ks:AE}
theorem kioEnd_ok (hk:ks.Ok) {P:BK} {v:KV} (hv:v.ok) {rs:List PV} (h:Od P ks v=some rs):∃ out,GY none 1 0 (EO P.ins.length) ks.st v.pv=some out/\Qy P out=some rs:=by
 unfold Od at h;split at h
 case h_2=>cases h
 rename_i sp hkeep;simp only at h;have hsp:BQ ks.nt sp:=hk.kp sp (by rw[hkeep];exact aJ.2 rfl)
 have hst:ks.st.keep=BE ks.nt sp:=by
  show ks.keep.flatMap (BE ks.nt)=_;rw[hkeep];simp
 have hw:∀ j,F7 (ks.st.keep.getD j .undef)=Mp (A5 sp j):=fun j=>by
  rw[hst,Ku hsp,kwit_pv (hsp.get_ok j)]
 have hA:FX (EO P.ins.length) ks.st.keep=Jv P.ins.length sp:=by
  unfold FX Jv;exact aD fun p _=>by rw[hw]
 have hG:JR (EO P.ins.length) ks.st.keep=PL P.ins.length sp:=by
  unfold JR PL;congr 1;exact List.filter_congr fun p _=>by rw[hw]
 have hlk:=EK hk
 have hnm:∀ m:Nm,((Ak ks.st.objs m).map Ob.names).getD []=((Bm ks.objs m).map Aj.names).getD []:=by
  intro m;rw[Ha hk];cases hl:Bm ks.objs m with
  | none=>rfl
  | some o =>
   simp only[ao,aM];exact Aj.ob_names (D4 hk.ob hl)
 have hN:K3 (Ak ks.st.objs) (Jv P.ins.length sp) v.pv=PK (Bm ks.objs) (Jv P.ins.length sp) v:=by
  unfold K3 PK;rw[KV.pv_names hv]
  have e1:((Jv P.ins.length sp).flatMap fun p=>((Ak ks.st.objs p.1).map Ob.names).getD [])=(Jv P.ins.length sp).flatMap fun p=>((Bm ks.objs p.1).map Aj.names).getD []:=by
   congr 1;funext p;exact hnm p.1
  rw[e1,hlk,<-HC (DE hk)]
 generalize Jv P.ins.length sp=A at h hA hN;generalize hNd:PK (Bm ks.objs) A v=N at h hN;generalize hB:(A++N.zipIdx.map fun p=>(p.1,(1,0+p.2)))=B at h;split at h
 case isFalse=>cases h
 rename_i hcd;obtain⟨hnd,hgone,hfit⟩:=hcd;cases h;simp only[Z2] at hfit;obtain⟨hf1,hf2,hf3⟩:=hfit
 have hoff:(fun m=>if (B.map (·.1)).contains m then none else some none:Nm->Option (Option Ob))=Ih fun m=>!(B.map (·.1)).contains m:=by
  funext m;show (if (B.map (·.1)).contains m=true then none else some none)=if (!(B.map (·.1)).contains m)=true then some none else none
  cases (B.map (·.1)).contains m<;>rfl
 have hob:∀ nm,G2 (Ak ks.st.objs) B nm=(Lj (Bm ks.objs) B nm).ob/\(Lj (Bm ks.objs) B nm).ok:=by
  intro nm;unfold G2 Lj
  have hok:((Bm ks.objs nm).getD Gy).ok:=by
   cases hl:Bm ks.objs nm with
   | none=>exact rfl
   | some o=>exact D4 hk.ob hl
  have hobs:((Ak ks.st.objs nm).getD Bz)=((Bm ks.objs nm).getD Gy).ob:=by
   rw[Ha hk];cases Bm ks.objs nm<;>rfl
  rw[hoff,hobs,<-Aj.off_ob _ hok,<-Aj.ren_ob _ (Aj.off_ok _ hok)];exact⟨rfl,Aj.ren_ok _ (Aj.off_ok _ hok)⟩
 refine⟨{v:=(v.pv.sub fun m=>if (B.map (·.1)).contains m then none else some none).ren fun m=>(B.lookup m).getD m,new:=N.map (G2 (Ak ks.st.objs) B),ups:=A.map fun p=>(p.2,G2 (Ak ks.st.objs) B p.1),gone:=PL P.ins.length sp,io:=true},?_,?_⟩
 ·unfold GY;simp only
  rw[hA,hN,hB,hG];simp[AI,hnd]
 ·unfold Qy;simp only
  rw[if_pos hgone]
  have e1:(v.pv.sub fun m=>if (B.map (·.1)).contains m then none else some none).ren (fun m=>(B.lookup m).getD m)=((v.off fun m=>!(B.map (·.1)).contains m).ren fun m=>(B.lookup m).getD m).pv:=by
   rw[hoff,<-KV.off_pv _ hv,<-KV.ren_pv _ (KV.off_ok _ hv)]
  have e2:(A.map fun p=>(p.2,G2 (Ak ks.st.objs) B p.1)).map (·.2)=(A.map fun p=>Lj (Bm ks.objs) B p.1).map Aj.ob:=by
   rw[ay,ay];exact aD fun p _=>(hob p.1).1
  have e3:N.map (G2 (Ak ks.st.objs) B)=(N.map (Lj (Bm ks.objs) B)).map Aj.ob:=by
   rw[ay];exact aD fun m _=>(hob m).1
  rw[e1,e2,e3,Rt _ _ hf1 (KV.ren_ok _ (KV.off_ok _ hv)),Q7 _ _ hf2 (fun o ho=>by
   obtain⟨p,_,rfl⟩:=Z4.1 ho;exact (hob p.1).2),Q7 _ _ hf3 (fun o ho=>by
   obtain⟨m,_,rfl⟩:=Z4.1 ho;exact (hob m).2)]
end
mutual
theorem Wu {vs:List PV} (hv:At vs=true):∀ (p:KV) (i:Nat),(fill p vs i).1.ok
 | .un,i | .sk,i | .yld _,i | .ref _ _,i | .aref _ _ _ _,i | .mp _,i | .it _,i | .wit _,i | .arr _ _ _ _,i=>trivial
 | .lit _,i | .nils,i | .cv _,i=>Mn hv i
 | .fn f cap,i=>LN hv cap i
 | .tup xs,i=>LN hv xs i
 | .agg cs,i=>by
  simp only[fill];split;·exact Mn hv i
  ·exact LN hv cs i
 | .iface t y,i=>by
  simp only[fill];split;·exact Mn hv i
  ·exact Wu hv y i
theorem LN {vs:List PV} (hv:At vs=true):∀ (ps:List KV) (i:Nat),A6 (C6 ps vs i).1
 | [],i=>trivial
 | p :: ps,i=>⟨Wu hv p i,LN hv ps _⟩
theorem Mn {vs:List PV} (hv:At vs=true) (i:Nat):okV (Aa vs i)=true:=by
 unfold Aa;rw[Z9];cases h:vs[i]? with
 | none=>rfl
 | some x=>exact Ia hv h
end
theorem ZK {vs:List PV} (hv:At vs=true) (p:Aj) (i:Nat):(Cs p vs i).1.ok:=by
 cases p with
 | cells ty cs=>exact LN hv cs i
 | whole ty w=>exact Mn hv i
 | arr k kt xs =>
  have:=Mn hv i;show At (Ap (Aa vs i))=true;unfold Ap;split;·rename_i heq;rw[heq] at this;simpa[okV] using this
  ·rfl
 | map es =>
  have:=Mn hv i;show At (Ll (Aa vs i))=true;unfold Ll;split;·rename_i heq;rw[heq] at this;simpa[okV] using this
  ·rfl
 | siter s p=>trivial
theorem T9 {vs:List PV} (hv:At vs=true):∀ (ps:List Aj) (i:Nat),(∀ o∈(C5 ps vs i).1,o.ok)/\(C5 ps vs i).1.length=ps.length
 | [],i=>⟨fun o ho=>(by cases ho),rfl⟩
 | p :: ps,i=>by
  obtain⟨h1,h2⟩:=T9 hv ps (Cs p vs i).2;refine⟨fun o ho=>?_,by simp[C5,h2]⟩;simp only[C5,Z7] at ho;rcases ho with rfl | ho;·exact ZK hv p i
  ·exact h1 o ho
theorem Wv {vs:List PV}:∀ (ps:List KV) (i:Nat),(∀ p∈ps,E9 p=false)->(∀ x∈(C6 ps vs i).1,E9 x=false)/\(C6 ps vs i).1.length=ps.length
 | [],i,_=>⟨fun o ho=>(by cases ho),rfl⟩
 | p :: ps,i,hp=>by
  obtain⟨h1,h2⟩:=Wv (vs:=vs) ps (fill p vs i).2 fun q hq=>hp q (ap _ hq);refine⟨fun x hx=>?_,by simp[C6,h2]⟩;simp only[C6,Z7] at hx;rcases hx with rfl | hx;·exact WI (hp p aq)
  ·exact h1 x hx
theorem io_of_run {cfg:D1} {tab:FuncId->Option Au} (hc:Eb cfg tab) {g:FuncId} {fn:Au} (ht:tab g=some fn) {P:BK} {Pf:List KV->List Aj->BK} (hPf:cfg.ioF g=some Pf) {xs:List KV} {obs:List Aj} (hP:Pf xs obs=P) (hun:P.args.all (fun p=>!E9 p)=true) {vs rs:List PV} (hv:At vs=true)
  (hr:S7 cfg fn P vs=some rs):ioO cfg.b P g vs=some rs:=by
 obtain⟨fn',ht',hnt,hll⟩:=hc.ioP g Pf hPf;have hla:=(hll xs obs).1;have hli:=(hll xs obs).2;rw[hP] at hla hli;rw[ht] at ht';cases ht';unfold S7 at hr;simp only at hr;rw[D5] at hr;obtain⟨u1,u2⟩:=Wv (vs:=vs) P.args 0 fun p hp=>by simpa using an.1 hun p hp
 have a1:=LN hv P.args 0;obtain⟨b1,b2⟩:=T9 hv P.ins (C6 P.args vs 0).2;generalize has:(C6 P.args vs 0).1=aas at hr u1 u2 a1;generalize hos:(C5 P.ins vs (C6 P.args vs 0).2).1=os at hr b1 b2;obtain⟨i1,i2⟩:=SW (nt:=fn.nt) a1 u1 (by omega)
 have hwsp:BQ fn.nt (((List.range P.ins.length).filter fun j=>!fn.gone.contains j).map fun j=>(j,KV.wit (0,j))):=by
  refine⟨?_,?_,?_,?_⟩
  ·rw[ay];have:((fun p:Nat×KV=>p.1)∘fun j=>(j,KV.wit (0,j)))=id:=rfl;rw[this,List.map_id];exact List.pairwise_lt_range.filter _
  ·intro p hp;obtain⟨j,hj,rfl⟩:=Z4.1 hp;have:=bN.1 (bP.1 hj).1;simp only;omega
  ·intro p hp;obtain⟨j,hj,rfl⟩:=Z4.1 hp;trivial
  ·intro p hp;obtain⟨j,hj,rfl⟩:=Z4.1 hp;rfl
 have hso:BL fn.nt [(0,os)]:=⟨by simp,by simp[hnt],fun p hp o ho=>by simp only[aJ] at hp;subst hp;exact b1 o ho⟩
 have hks:({nt:=fn.nt,tmps:=aas.zipIdx.map fun p=>(p.2,p.1),objs:=[(0,os)],keep:=[((List.range P.ins.length).filter fun j=>!fn.gone.contains j).map fun j=>(j,KV.wit (0,j))]}:AE).Ok :=
  ⟨i1.tm,hso,fun sp hsp=>by simp only[aJ] at hsp;subst hsp;exact hwsp⟩
 have hst:({nt:=fn.nt,tmps:=aas.zipIdx.map fun p=>(p.2,p.1),objs:=[(0,os)],keep:=[((List.range P.ins.length).filter fun j=>!fn.gone.contains j).map fun j=>(j,KV.wit (0,j))]}:AE).st=I8 fn.gone fn.nt (os.map Aj.ob) (AN aas):=by
  have e1:BE fn.nt (aas.zipIdx.map fun p=>(p.2,p.1))=AN aas++List.replicate (fn.nt - (AN aas).length) .undef:=congrArg St.tmps i2;unfold AE.st I8;simp only
  rw[e1];congr 1
  ·refine Kw (by simp) fun i hi=>?_;by_cases h0:i=0
   ·subst h0;rw[bH (by simpa using hnt)];rfl
   ·rw[aB (aH h0),dh,if_pos hi]
    have:Be [(0,os)] i=[]:=by
     simp only[Be];cases hb:Nat.beq i 0 with
     | true=>exact absurd (C4 hb) h0
     | false=>rfl
    rw[this];rfl
  ·simp only[bu,List.flatMap_nil,bz];refine Kz (by simp[Lu]) fun i hi=>?_;unfold Lu;rw[aa,bo hi];simp only[ao,aL];by_cases hij:i < os.length/\fn.gone.contains i=false
   ·rw[if_pos hij];have hm:(i,KV.wit (0,i))∈((List.range P.ins.length).filter fun j=>!fn.gone.contains j).map fun j=>(j,KV.wit (0,j)):=Z4.2 ⟨i,bP.2 ⟨bN.2 (by have:=hij.1;omega),by simp only[hij.2,ax]⟩,rfl⟩;rw[show A5 (((List.range P.ins.length).filter fun j=>!fn.gone.contains j).map fun j=>(j,KV.wit (0,j))) i=KV.wit (0,i) from hwsp.get_mem hm];rfl
   ·rw[if_neg hij]
    rw[show A5 (((List.range P.ins.length).filter fun j=>!fn.gone.contains j).map fun j=>(j,KV.wit (0,j))) i=.un from RW fun p hp=>by
     obtain⟨j,hj,rfl⟩:=Z4.1 hp;obtain⟨h1,h2⟩:=bP.1 hj;have:=bN.1 h1;simp only
     intro e;subst e;exact hij ⟨by omega,by simpa using h2⟩]
    rfl
 have fin:∀ {k1:AE},k1.Ok->(JN k1 fn.res fun vs=>Od P k1 (JO vs))=some rs->(∀ v,FM k1.st fn.res=some v->Bj fun n=>HR (Dy cfg.b.sp tab n) n fn (os.map Aj.ob) (AN aas)=some (k1.st,Hq v))->ioO cfg.b P g vs=some rs:=by
  intro k1 hk1 hr hx;obtain⟨ws,hr,hws,h1⟩:=Vp hk1 fn.res hr;obtain⟨o1,o2⟩:=Vr hws;obtain⟨out,g1,g2⟩:=kioEnd_ok hk1 o1 hr
  have hI:cfg.b.I g (os.map Aj.ob) (AN aas)=some (k1.st,(JO ws).pv):=by
   rw[hc.I];unfold Qq;rw[ht,o2];exact JM (hx _ h1)
  unfold ioO;rw[hos,has,hI];simp only[g1,g2]
 split at hr
 ·rename_i hD;obtain⟨x,k1,e1,hr,hk1,hev⟩:=SF hc fn.code (h:=AP) (hn:=fun _=>AP) noH 0 hks hr;rw[hst] at hev;cases x with
  | exit id=>cases hr
  | _ =>
   refine fin hk1 hr fun v h1=>hev.mono fun n hn'=>?_;unfold HR;rw[if_pos hD,hn'];simp only[h1]
 ·rename_i hD;obtain⟨x,k1,l,hr,hk1,hev⟩:=evalDK_ok hc fn.code hks hr;rw[hst] at hev;cases x with
  | exit id=>cases hr
  | _ =>
   obtain⟨k2,hr,hk2,hdf⟩:=dfrsK_ok hc l hk1 hr;refine fin hk2 hr fun v h1=>hev.mono2 hdf fun n hn' hd'=>?_;unfold HR;rw[if_neg hD,hn'];simp only[hd',h1]
end Go.Ab


namespace Go.Ab
section sp
variable {cx:Cx} {E:Type} {w0:World} {I0 F0:Nat->Prop} {O0:B9} {Hd:Nat->Option Obj} {R:BV E} {e:E} {ds:List Deferred} {I F:Nat->Prop} {lp:Nat->Option Nat} {L:AF} {tmv suf:List Value} {st:St} {w w':World} {dst:Option Nat}
theorem Ib (hs:SR lp I L st tmv suf w) (hf:Fr cx w0 I0 F0 O0 Hd R e ds I F L w) (h:Lb w w') {u:PV} {v:Value} (hv:Aw w' I lp (some L) u v) :
  ∃ I' L',SR lp I' L' (apply st dst {v:=u}) (FQ tmv dst v) suf w'/\Fr cx w0 I0 F0 O0 Hd R e ds I' F L' w':=by
 have hx:Cf I F w I F w':=⟨h.os,h.tape,h.output,h.size,fun b hb _=>h.same b hb,fun _ h=>h,fun _ h=>.inl h,fun _ h=>.inl h⟩;have hi:IF I F w':=⟨fun b hb=>bh (hf.sep.iB b hb) h.size,fun b hb=>⟨bh (hf.sep.fB b hb).1 h.size,(hf.sep.fB b hb).2⟩⟩;have hw:cx.Wd I w':=cx.stab I I w w' hf.wd (fun _ h=>h) (fun b hb=>h.same b (hf.sep.iB b hb)) h.size;have hr:R.rel e I F w':=R.stab e I I F w w' hf.re (fun _ h=>h) (fun b hb=>h.same b (hb.elim (hf.sep.iB b) fun h=>(hf.sep.fB b h).1)) h.size;refine⟨I,L,?_,hf.called hx hi hw hr⟩;have h2:=hs.called hf hx;cases dst with
 | none=>exact h2
 | some d=>exact h2.put d hv
theorem Jg (w:World):Lb w w:=⟨rfl,rfl,rfl,Z5 _,fun _ _=>rfl⟩
theorem SN (hs:SR lp I L st tmv suf w) (hf:Fr cx w0 I0 F0 O0 Hd R e ds I F L w) {nm:Nm} {b C:Nat} (hL:L nm=some (some (b,C)))
  (h1:w'.os=w.os) (h2:w'.tape=w.tape) (h3:w'.output=w.output) (h4:w.heap.size<=w'.heap.size) (hk:∀ k,k < w.heap.size->k≠b->w'.heap[k]?=w.heap[k]?)
  {ob:Ob} (hob:Q2 w' I lp L b C ob) {u:PV} {v:Value} (hv:Aw w' I lp (some L) u v) :
  ∃ I' L',SR lp I' L' (apply st dst {v:=u,upd:=some (nm,ob)}) (FQ tmv dst v) suf w'/\Fr cx w0 I0 F0 O0 Hd R e ds I' F L' w':=by
 have hI:∀ k,I k->w'.heap[k]?=w.heap[k]?:=fun k hi=>hk k (hf.sep.iB k hi) fun e=>(hf.lB nm b C hL).2.2.1 (e ▸ hi)
 have hfr:Fr cx w0 I0 F0 O0 Hd R e ds I F L w':=hf.own h1 h2 h3 h4
  (fun k hb hno=>hk k hb fun e=>hno nm C (e ▸ hL)) (fun _ h=>h) (fun _ h=>.inl h)
  (fun nm' b' C' h=>⟨bh (hf.lB nm' b' C' h).2.1 h4,(hf.lB nm' b' C' h).2.2.1,.inr ⟨nm',C',h⟩⟩) hf.inj
 have hsr:SR lp I L {st with objs:=Bl st.objs nm ob} tmv suf w':=hs.upd hL hI
  (fun m b' C' hm h=>hk b' (hf.lB m b' C' h).2.1 fun e=>hm (hf.inj m nm b' C' C h (e ▸ hL))) hob
 refine⟨I,L,?_,hfr⟩;cases dst with
 | none=>exact hsr
 | some d=>exact hsr.put d hv
theorem sp_gone (hs:SR lp I L st tmv suf w) (hf:Fr cx w0 I0 F0 O0 Hd R e ds I F L w) {nm:Nm} {p:Option (Nat×Nat)} (hL:L nm=some p)
  (h1:w'.os=w.os) (h2:w'.tape=w.tape) (h3:w'.output=w.output) (h4:w.heap.size<=w'.heap.size) (hk:∀ b',b' < w.heap.size->(∀ C,p≠some (b',C))->w'.heap[b']?=w.heap[b']?)
  {u:PV} {v:Value} (hv:∀ L':AF,Aw w' I lp (some L') u v) :
  ∃ I' L',SR lp I' L' (apply st dst {v:=u,upd:=some (nm,Bz),kill:=some nm}) (FQ tmv dst v) suf w'/\Fr cx w0 I0 F0 O0 Hd R e ds I' F L' w':=by
 have hI:∀ b',I b'->w'.heap[b']?=w.heap[b']?:=fun b' hb'=>hk b' (hf.sep.iB b' hb') fun C e=>(hf.lB nm b' C (by rw[hL,e])).2.2.1 hb'
 have hu:=hs.regrow (w':=w') (k:=0) (kt:=0) (xs:=[]) (p':=none) hL hI
  (fun m b' C' hm hn=>hk b' (hf.lB m b' C' hn).2.1 fun C e=>hm (hf.inj m nm b' C' C hn (by rw[hL,e]))) ⟨0,0,rfl⟩
 refine⟨I,(fun m=>if m=nm then some none else L m),?_,?_⟩
 ·cases dst with
  | none=>exact hu
  | some d=>exact hu.put d (hv _)
 ·refine hf.own h1 h2 h3 h4 (fun b' hb' hn=>hk b' hb' fun C e=>hn nm C (by rw[hL,e])) (fun _ h=>h) (fun _ h=>.inl h) ?_ ?_
  ·intro m b' C' hn;by_cases hm:m=nm
   ·simp[hm] at hn
   ·simp only[hm,if_false] at hn;exact⟨by have:=(hf.lB m b' C' hn).2.1;omega,(hf.lB m b' C' hn).2.2.1,.inr ⟨m,C',hn⟩⟩
  ·intro m m' b' C1 C2 hn hn';by_cases hm:m=nm
   ·simp[hm] at hn
   ·by_cases hm':m'=nm
    ·simp[hm'] at hn'
    ·simp only[hm,hm',if_false] at hn hn';exact hf.inj m m' b' C1 C2 hn hn'
theorem sp_new (hs:SR lp I L st tmv suf w) (hf:Fr cx w0 I0 F0 O0 Hd R e ds I F L w) (hd:∀ d,dst=some d->st.objs[d]?=some []) (h:Lb w w') {k:Nat} {v:Value} {p:Option (Nat×Nat)}
  (hp:∀ b C,p=some (b,C)->w.heap.size<=b/\b < w'.heap.size) (hob:∀ L',BF w' I lp L' (.arr k 0 []) p) (hv:∀ (L':AF) (nm:Nm),L' nm=some p->Aw w' I lp (some L') (.arr nm k 0 0) v) :
  ∃ I' L',SR lp I' L' (apply st dst {v:=.arr (dst.getD 0,0) k 0 0,new:=[.arr k 0 []]}) (FQ tmv dst v) suf w'/\Fr cx w0 I0 F0 O0 Hd R e ds I' F L' w':=by
 have hkk:SR lp I L st tmv suf w':=hs.keeps (fun _ h=>h) (fun b hb=>h.same b (hf.sep.iB b hb)) fun nm b C hn=>h.same b (hf.lB nm b C hn).2.1;cases dst with
 | none =>
  refine⟨I,L,hkk,?_⟩;have hx:Cf I F w I F w':=⟨h.os,h.tape,h.output,h.size,fun b hb _=>h.same b hb,fun _ h=>h,fun _ h=>.inl h,fun _ h=>.inl h⟩;have hi:IF I F w':=⟨fun b hb=>bh (hf.sep.iB b hb) h.size,fun b hb=>⟨bh (hf.sep.fB b hb).1 h.size,(hf.sep.fB b hb).2⟩⟩;have hw:cx.Wd I w':=cx.stab I I w w' hf.wd (fun _ h=>h) (fun b hb=>h.same b (hf.sep.iB b hb)) h.size;have hr:R.rel e I F w':=R.stab e I I F w w' hf.re (fun _ h=>h) (fun b hb=>h.same b (hb.elim (hf.sep.iB b) fun h=>(hf.sep.fB b h).1)) h.size;exact hf.called hx hi hw hr
 | some d =>
  have hd:=hd d rfl
  have hn:=hkk.news hd [.arr k 0 []] [p] rfl (by
   intro j ob' q h1 h2;cases j with
   | zero=>simp at h1 h2;subst h1;subst h2;exact hob _
   | succ j=>simp at h1)
  refine⟨I,Cr L d [p],hn.put d (hv _ (d,0) (by simp[Cr])),Fr.news hf hd h.os h.tape h.output h.size (fun b hb=>h.same b hb) ?_ ?_⟩
  ·intro j b C hj;cases j with
   | zero=>simp at hj;exact hp b C hj
   | succ j=>simp at hj
  ·intro j j' b C C' h1 h2;cases j with
   | zero =>
    cases j' with
    | zero=>rfl
    | succ j'=>simp at h2
   | succ j=>simp at h1
end sp
theorem Le {w:World} {I:Nat->Prop} {lp:Nat->Option Nat} {L:Option AF} {a:PV} {us:List Value} (h:Aq w I lp L [a] us):∃ u,us=[u]/\Aw w I lp L a u:=by
 obtain⟨u,r,h1,rfl,h2⟩:∃ u r,Aw w I lp L a u/\us=u :: r/\Aq w I lp L [] r:=by
  cases h;exact⟨_,_,by assumption,rfl,by assumption⟩
 cases h2;exact⟨u,rfl,h1⟩
theorem GV {w:World} {I:Nat->Prop} {lp:Nat->Option Nat} {L:Option AF} {a b:PV} {us:List Value} (h:Aq w I lp L [a,b] us):∃ u v,us=[u,v]/\Aw w I lp L a u/\Aw w I lp L b v:=by
 obtain⟨u,r,h1,rfl,h2⟩:∃ u r,Aw w I lp L a u/\us=u :: r/\Aq w I lp L [b] r:=by
  cases h;exact⟨_,_,by assumption,rfl,by assumption⟩
 obtain⟨v,rfl,h3⟩:=Le h2;exact⟨u,v,rfl,h1,h3⟩
theorem Ra {W:World} {b o:Nat} {c:Array Value} {n:Value} {E':TypeId} {fr:Nat×Nat} (h:W.heap[b]?=some (.cells c E' fr)):(W.setCell ⟨b,o,none⟩ n).heap[b]?=some (.cells (c.setIfInBounds o n) E' fr):=by
 simp[World.setCell,Array.getElem?_modify,h]
theorem Q9 (W:World) (a:Addr) (n:Value):(W.setCell a n).heap.size=W.heap.size:=by simp[World.setCell]
theorem cell_of_heap {w w':World} {b:Nat} (h:w'.heap[b]?=w.heap[b]?) (o:Nat):w'.cell? ⟨b,o,none⟩=w.cell? ⟨b,o,none⟩:=by
 simp only[World.cell?,h]
theorem Xk {c:Array Value} (h:c.size=1):∃ n,c=#[n]:=by
 refine⟨c[0],?_⟩;apply Array.ext;·simp[h]
 ·intro i h1 h2;have:i=0:=by omega
  subst this;rfl
end Go.Ab


namespace Go.Ab
open Go
def ErrVars (gs:List Nat) (T:Nat) (I:Nat->Prop) (w:World):Prop :=
 ∃ ad:Nat->Addr,(∀ g∈gs,I g/\I (ad g).block/\(∃ E f,w.heap[g]?=some (.cells #[.iface T (.pointer (some (ad g)))] E f))/\∃ c t,w.heap[(ad g).block]?=some (.cells c t (0,0)))/\∀ g∈gs,∀ g'∈gs,g≠g'->ad g≠ad g'
structure WVars (gs:List Nat) (T:Nat) (et:List (Nat×Value)) (tabs:List (Nat×Array Value)) (ns:List Nat) (I:Nat->Prop) (w:World):Prop where
 err:ErrVars gs T I w
 et0:∀ p∈et,I p.1/\w.cell? ⟨p.1,0,none⟩=some p.2
 tab:∀ p∈tabs,I p.1/\∃ E f,w.heap[p.1]?=some (.cells p.2 E f)
 num:∀ g∈ns,I g/\∃ m,w.cell? ⟨g,0,none⟩=some (.int .i64 m)
def Ts (gs:List Nat) (T:Nat):Fb:=fun g=>if gs.contains g then some [.glob g T] else none
noncomputable def cxOf (P:Program) (mixed:P.follows .mixedOrders=true) (gs:List Nat) (T:Nat) (et:List (Nat×Value)) (tabs:List (Nat×Array Value)) (ns:List Nat):Cx where
 P:=P
 mixed:=mixed
 G:=Ts gs T
 Wd I w:=WVars gs T et tabs ns I w
 stab I I' w w' h h1 h2 _:=by
  obtain⟨⟨ad,e1,e2⟩,e0,ht,hn⟩:=h;refine⟨⟨ad,fun g hg=>?_,e2⟩,fun p hp=>⟨h1 _ (e0 p hp).1,by rw[cell_of_heap (h2 _ (e0 p hp).1)];exact (e0 p hp).2⟩,fun p hp=>?_,fun g hg=>?_⟩
  ·obtain⟨a1,a2,a3,a4⟩:=e1 g hg;exact⟨h1 _ a1,h1 _ a2,by rw[h2 _ a1];exact a3,by rw[h2 _ a2];exact a4⟩
  ·obtain⟨a1,a2⟩:=ht p hp;exact⟨h1 _ a1,by rw[h2 _ a1];exact a2⟩
  ·obtain⟨a1,m,a2⟩:=hn g hg;exact⟨h1 _ a1,m,by rw[cell_of_heap (h2 _ a1)];exact a2⟩
 gl I w g cs h hg lp L:=by
  unfold Ts at hg;split at hg
  ·rename_i hgg;cases hg;obtain⟨ad,e1,_⟩:=h.err;obtain⟨a1,a2,⟨E,f,a3⟩,a4⟩:=e1 g (by simpa using hgg);exact Aw.ptr (off:=0) (o:=0) [.glob g T] g _ _ _ a1 a3 (by simp) (by simp) (by simp[Bo];rfl) (by simp;exact .cons _ _ _ _ (.glob g T _ _ _ _ a1 a3 rfl) .nil)
  ·cases hg
def Kl (cx:Cx) (g:FuncId) (st:St) (vs:List PV) (out:AO):Prop:=CT cx.P g /\
  ∀ (E:Type) (w0:World) (I0 F0:Nat->Prop) (O0:B9) (Hd:Nat->Option Obj) (R:BV E) (e:E) (ds:List Deferred) (I F:Nat->Prop) (lp:Nat->Option Nat) (L:AF) (tmv suf us:List Value) (w:World) (dst:Option Nat),
   SR lp I L st tmv suf w->Fr cx w0 I0 F0 O0 Hd R e ds I F L w->Aq w I lp (some L) vs us->(∀ d,dst=some d->st.objs[d]?=some []) ->
   CallsIn Fence.wide 0 cx.P g us.toArray w fun
    | .returned v,w'=>∃ I' L',SR lp I' L' (apply st dst {out with v:=out.v.ren (E6 (dst.getD 0))}) (FQ tmv dst v) suf w'/\Fr cx w0 I0 F0 O0 Hd R e ds I' F L' w'
    | _,_=>False
def JY (f:(Nm->Option Ob)->List PV->Option AO):Prop:=∀ σ σ' vs,(∀ nm∈Bb σ AW (AR vs),σ nm=σ' nm)->f σ vs=f σ' vs
theorem Pb {w:World} {I:Nat->Prop} {lp:Nat->Option Nat} {L:Option AF} {g:Nat} {t:TypeId} {v:Value} (h:Aw w I lp L (.glob g t) v):∃ x c E fr,v=.iface t x/\w.heap[g]?=some (.cells c E fr)/\c[0]?=some (.iface t x):=by
 cases h with
 | glob g t x c E fr hI hb hv=>exact⟨x,c,E,fr,rfl,hb,hv⟩
theorem TD {w w':World} (h:Go.RowKit.Below w.heap.size w w'):Lb w w':=⟨h.os,h.tape,h.output,h.size,h.block⟩
def Il (ps:List (Nat×Nat)) (σ:Nm->Option Ob):List PV->Option AO
 | [.nilI,.iface p (.ref _ o)]=>if (ps.lookup p).isSome=true/\o=0 then some {v:=.bool false} else none
 | [.iface t x,.iface p (.ref nm o)]=>match σ nm with
  | some (.cells ty cs)=>if ps.lookup p=some t/\o=0/\cs.length=1/\AA x 1=true then some {v:=.bool true,upd:=some (nm,.cells ty x.cells)} else none
  | _=>none
 | _=>none
structure AsOK (P:Program) (g:FuncId) (ge:Nat) (et:Value) (ps:List (Nat×Nat)):Prop where
 enters:CT P g
 none:∀ (v:Value) (w:World),Calls P g #[.nilIface,v] w fun e w'=>e=.returned (.bool false)/\w'=w
 hit:∀ p t,ps.lookup p=some t->∀ (v n:Value),v.cells=#[n]->n.oneCell'=true->∀ (a:Addr) (old:Value) (w:World),w.cell? ⟨ge,0,Option.none⟩=some et->w.cell? a=some old->w.frozen? a=false ->
  Calls P g #[.iface t v,.iface p (.pointer (some a))] w fun e w'=>e=.returned (.bool true)/\∃ o1 o2 o3 o4,w'=((((w.alloc o1).alloc o2).alloc o3).alloc o4).setCell a n
section at_
variable {P:Program} {mx:P.follows .mixedOrders=true} {gs:List Nat} {T:Nat} {et:List (Nat×Value)} {tabs:List (Nat×Array Value)} {ns:List Nat}
theorem as_at {g:FuncId} {ps:List (Nat×Nat)} {ge:Nat} {ev:Value} (hge:(ge,ev)∈et) (hA:AsOK P g ge ev ps) {st:St} {vs:List PV} {out:AO} (h:Il ps (Ak st.objs) vs=some out):Kl (cxOf P mx gs T et tabs ns) g st vs out:=by
 refine⟨hA.enters,?_⟩;unfold Il at h;split at h
 ·split at h
  ·rename_i hp;obtain⟨hp,rfl⟩:=hp;cases h;intro E w0 I0 F0 O0 Hd R e ds I F lp L tmv suf us w dst hs hf hu hd;obtain⟨u,v,rfl,h1,h2⟩:=GV hu;rw[IB h1];refine callsIn_wide.2 ((hA.none v w).mono ?_);rintro ev w' ⟨rfl,rfl⟩;exact Ib hs hf (Jg _) (.bool false)
  ·cases h
 ·split at h
  ·rename_i t x p nm o _ ty cs hlk;split at h
   ·rename_i hp;obtain⟨hpp,rfl,hc1,hx1⟩:=hp;cases h;intro E w0 I0 F0 O0 Hd R e ds I F lp L tmv suf us w dst hs hf hu hd;obtain⟨u,v,rfl,h1,h2⟩:=GV hu;obtain⟨u',rfl,hx⟩:=LM h1;obtain⟨v',rfl,hr⟩:=LM h2;obtain⟨b,C,hL,rfl⟩:=FY hr;obtain⟨q,hq,hob⟩:=hs.ob nm _ hlk;rw[hL] at hq;cases hq;obtain⟨c,E',hb,hC,hone,hcs⟩:=hob;unfold AA at hx1;simp only[Z2,beq_iff_eq] at hx1;obtain⟨hu1,hu2⟩:=hx.cells hx1.1
    have len1:u'.cells.size=1:=by
     have:=hu2.length;simpa[hx1.2] using this.symm
    have lenc:c.size=1:=by
     have:=hcs.length;simpa[hc1] using this.symm
    obtain⟨n,hn⟩:∃ n,u'.cells=#[n]:=Xk len1;obtain⟨old,rfl⟩:∃ n,c=#[n]:=Xk lenc;have hn1:n.oneCell'=true:=hu1 n (by simp[hn]);have hbl:b < w.heap.size:=(hf.lB nm b C hL).2.1;refine callsIn_wide.2 ((hA.hit p t hpp u' n hn hn1 ⟨b,0,none⟩ old w (hf.wd.et0 _ hge).2 (by simp[World.cell?,hb]) (by simp[World.frozen?,hb])).mono ?_);rintro ev w' ⟨rfl,o1,o2,o3,o4,hw'⟩
    have hother:∀ k,k < w.heap.size->k≠b->w'.heap[k]?=w.heap[k]?:=fun k hk hkb=>by
     subst hw';rw[Go.RowKit.Below.heap_setCell _ _ _ _ hkb,EJ _ _ (by simp;omega),EJ _ _ (by simp;omega),EJ _ _ (by simp;omega),EJ _ _ hk]
    have hself:w'.heap[b]?=some (.cells #[n] E' (0,0)):=by
     subst hw'
     suffices key:((((w.alloc o1).alloc o2).alloc o3).alloc o4).heap[b]?=some (.cells #[old] E' (0,0)) by
      have:=Ra (o:=0) (n:=n) key;simpa using this
     rw[EJ _ _ (by simp;omega),EJ _ _ (by simp;omega),EJ _ _ (by simp;omega),EJ _ _ hbl];exact hb
    have hI:∀ k,I k->w'.heap[k]?=w.heap[k]?:=fun k hk=>hother k (hf.sep.iB k hk) fun e=>(hf.lB nm b C hL).2.2.1 (e ▸ hk);refine SN hs hf hL (by subst hw';rfl) (by subst hw';rfl) (by subst hw';rfl) (by subst hw';rw[Q9];simp;omega) hother ?_ (.bool true);exact⟨#[n],E',hself,hC,⟨fun v hv=>by simp at hv;subst hv;exact hn1,hone.2⟩,Aq.mono (fun _ h=>h) hI (fun _ _ h=>h) (by rw[hn] at hu2;exact hu2)⟩
   ·cases h
  ·cases h
 ·cases h
theorem as_here (ps:List (Nat×Nat)):JY (Il ps):=by
 intro σ σ' vs h;unfold Il;split;·rfl
 ·rename_i t x p nm o;rw[h nm (Fd _ _ nm (by simp[AR,PV.names]))]
 ·rfl
def spIsG (gs:List Nat) (T:Nat) (S:List Nat):List PV->Option AO
 | [.nilI,.glob g t]=>if g∈gs/\t=T then some {v:=.bool false} else none
 | [.glob g t,.glob g' t']=>if g∈gs/\g'∈gs/\t=T/\t'=T then some {v:=.bool (g==g')} else none
 | [.iface s x,.glob g t]=>if g∈gs/\t=T/\s∈S/\okV x=true then some {v:=.bool false} else none
 | _=>none
structure IsOK (P:Program) (g:FuncId) (T:Nat) (S:List Nat):Prop where
 enters:CT P g
 none:∀ (a:Addr) (w:World),Calls P g #[.nilIface,.iface T (.pointer (some a))] w fun e w'=>e=.returned (.bool false)/\w'=w
 same:∀ (a:Addr) (w:World),Calls P g #[.iface T (.pointer (some a)),.iface T (.pointer (some a))] w fun e w'=>e=.returned (.bool true)/\w'=w
 other:∀ (a b:Addr) (ca cb:Array Value) (ta tb:TypeId) (w:World),a≠b->w.heap[a.block]?=some (.cells ca ta (0,0))->w.heap[b.block]?=some (.cells cb tb (0,0)) ->
  Calls P g #[.iface T (.pointer (some a)),.iface T (.pointer (some b))] w fun e w'=>e=.returned (.bool false)/\w'=w
 type:∀ s∈S,∀ (v:Value) (b:Addr) (w:World),Calls P g #[.iface s v,.iface T (.pointer (some b))] w fun e w'=>e=.returned (.bool false)/\w'=w
theorem is_at {g:FuncId} {S:List Nat} (hA:IsOK P g T S) {st:St} {vs:List PV} {out:AO} (h:spIsG gs T S vs=some out):Kl (cxOf P mx gs T et tabs ns) g st vs out:=by
 refine⟨hA.enters,?_⟩;unfold spIsG at h;split at h
 ·split at h
  ·rename_i hp;obtain⟨hgg,rfl⟩:=hp;cases h;intro E w0 I0 F0 O0 Hd R e ds I F lp L tmv suf us w dst hs hf hu hd;obtain⟨u,v,rfl,h1,h2⟩:=GV hu;rw[IB h1];obtain⟨ad,e1,e2⟩:=hf.wd.err;obtain⟨x,c,E',fr,rfl,q1,q2⟩:=Pb h2;obtain⟨_,_,⟨_,_,a3⟩,_⟩:=e1 _ hgg;rw[a3] at q1;cases q1;cases q2;refine callsIn_wide.2 ((hA.none _ w).mono ?_);rintro ev w' ⟨rfl,rfl⟩;exact Ib hs hf (Jg _) (.bool false)
  ·cases h
 ·rename_i g1 t1 g2 t2;split at h
  ·rename_i hp;obtain⟨hg1,hg2,rfl,rfl⟩:=hp;cases h;intro E w0 I0 F0 O0 Hd R e ds I F lp L tmv suf us w dst hs hf hu hd;obtain⟨u,v,rfl,h1,h2⟩:=GV hu;obtain⟨ad,e1,e2⟩:=hf.wd.err;obtain⟨x,c,E',fr,rfl,q1,q2⟩:=Pb h1;obtain⟨y,c',E'',fr',rfl,q1',q2'⟩:=Pb h2;obtain⟨_,_,⟨_,_,a3⟩,ca,ta,a4⟩:=e1 _ hg1;obtain⟨_,_,⟨_,_,b3⟩,cb,tb,b4⟩:=e1 _ hg2;rw[a3] at q1;cases q1;cases q2;rw[b3] at q1';cases q1';cases q2';by_cases hgg:g1=g2
   ·subst hgg;refine callsIn_wide.2 ((hA.same _ w).mono ?_);rintro ev w' ⟨rfl,rfl⟩;rw[beq_self_eq_true];exact Ib hs hf (Jg _) (.bool true)
   ·refine callsIn_wide.2 ((hA.other _ _ ca cb ta tb w (e2 _ hg1 _ hg2 hgg) a4 b4).mono ?_);rintro ev w' ⟨rfl,rfl⟩;rw[beq_eq_false_iff_ne.2 hgg];exact Ib hs hf (Jg _) (.bool false)
  ·cases h
 ·rename_i ss x g1 t1;split at h
  ·rename_i hp;obtain⟨hgg,rfl,hS,hx⟩:=hp;cases h;intro E w0 I0 F0 O0 Hd R e ds I F lp L tmv suf us w dst hs hf hu hd;obtain⟨u,v,rfl,h1,h2⟩:=GV hu;obtain⟨u',rfl,hx'⟩:=LM h1;obtain⟨ad,e1,e2⟩:=hf.wd.err;obtain⟨x,c,E',fr,rfl,q1,q2⟩:=Pb h2;obtain⟨_,_,⟨_,_,a3⟩,_⟩:=e1 _ hgg;rw[a3] at q1;cases q1;cases q2;refine callsIn_wide.2 ((hA.type _ hS u' _ w).mono ?_);rintro ev w' ⟨rfl,rfl⟩;exact Ib hs hf (Jg _) (.bool false)
  ·cases h
 ·cases h
end at_
section any
variable {cx:Cx} {g:FuncId} {st:St} {vs:List PV} {out:AO}
def countB (c:UInt8):List UInt8->Nat
 | []=>0
 | x :: xs=>(if x=c then 1 else 0)+countB c xs
def PX:List PV->Option AO
 | [.nilS,.int .i64 n]=>if 0<=n/\n<=1000000 then some {v:=.arr (0,0) 1 0 0,new:=[.arr 1 0 []]} else none
 | _=>none
theorem grow_at (he:CT cx.P g) (hz:∀ w:World,Calls cx.P g #[.slice none 0 0,.int .i64 0] w fun e w'=>e=.returned (.slice none 0 0)/\w'=w)
  {T:TypeId} (hc:∀ (m:Nat) (w:World),0 < m->m<=1000000->Calls cx.P g #[.slice none 0 0,.int .i64 m] w fun e w'=>∃ (G:Nat) (row:Array Value),e=.returned (.slice (some ⟨w.heap.size,0,none⟩) 0 G)/\G<=row.size/\w'=w.drew.alloc (.cells row T))
  (h:PX vs=some out):Kl cx g st vs out:=by
 refine⟨he,?_⟩;unfold PX at h;split at h
 ·rename_i n;split at h
  ·rename_i hn;cases h;intro E w0 I0 F0 O0 Hd R e ds I F lp L tmv suf us w dst hs hf hu hd;obtain⟨u,v,rfl,h1,h2⟩:=GV hu;rw[Gm h1,Ef h2];obtain⟨m,rfl⟩:∃ m:Nat,n=(m:Int):=⟨n.toNat,by omega⟩;have hv:(PV.arr (0,0) 1 0 0).ren (E6 (dst.getD 0))=.arr (dst.getD 0,0) 1 0 0:=rfl;by_cases hm:m=0
   ·subst hm;refine callsIn_wide.2 ((hz w).mono ?_);rintro ev w' ⟨rfl,rfl⟩;simp only[hv];exact sp_new hs hf hd (Jg _) (p:=none) (fun b C h=>by cases h) (fun L'=>⟨1,0,rfl⟩) (fun L' nm h=>.arrN nm 1 h)
   ·refine callsIn_wide.2 ((hc m w (by omega) (by omega)).mono ?_);rintro ev w' ⟨G,row,rfl,hG,rfl⟩;simp only[hv];have hle:Lb w (w.drew.alloc (.cells row T)):=⟨rfl,rfl,rfl,by simp,fun b hb=>EJ w.drew _ hb⟩
    refine sp_new hs hf hd hle (p:=some (w.heap.size,row.size)) (fun b C h=>by cases h;exact⟨Z5 _,by simp⟩)
     (fun L'=>⟨row,T,Jb w.drew _,rfl,⟨by simp,.inl rfl⟩,by simp,by simp[Bo],by simp;exact .nil⟩) (fun L' nm h=>?_)
    have:=Aw.arr (w:=w.drew.alloc (.cells row T)) (I:=I) (lp:=lp) (L:=L') nm 1 0 0 G w.heap.size row.size h (by simpa using hG) (bR _);simpa using this
  ·cases h
 ·cases h
def NK (T:Nat) (σ:Nm->Option Ob):List PV->Option AO
 | [.ref n 0]=>match σ n with
  | some (.cells t [.nilP,x])=>if t=T then some {v:=.tup [],upd:=some (n,.cells T [.ref n 0,x])} else none
  | some (.cells t [.ref n' 0,_])=>if t=T/\n'=n then some {v:=.tup []} else none
  | _=>none
 | _=>none
def Oq (T U:Nat) (σ:Nm->Option Ob):List PV->Option AO
 | [.ref n 0]=>match σ n with
  | some (.cells t [_,.nilS])=>if t=T then some {v:=.str []} else none
  | some (.cells t [_,.arr n' 1 0 k])=>match σ n' with
   | some (.arr 1 u xs)=>match GN (xs.take k) with
    | some s=>if t=T/\u=U/\n'≠n/\0 < k/\k<=xs.length/\k<=FA then some {v:=.str s,upd:=some (n',Bz),kill:=some n'} else none
    | none=>none
   | _=>none
  | _=>none
 | _=>none
theorem ZS (T:Nat):JY (NK T):=by
 intro σ σ' vs h;unfold NK;split
 ·rename_i n;rw[h n (Fd _ _ n (by simp[AR,PV.names]))]
 ·rfl
theorem str_here (T U:Nat):JY (Oq T U):=by
 intro σ σ' vs h;unfold Oq;split
 ·rename_i n;rw[<-h n (Fd _ _ n (by simp[AR,PV.names]))]
  have h2:∀ t a n' k,σ n=some (.cells t [a,.arr n' 1 0 k])->σ n'=σ' n':=by
   intro t a n' k he;refine h n' ?_;show n'∈Bb σ 3 [n];unfold Bb;refine aw _ (Fd _ _ n' ?_);simp[he,Ob.names,AR,PV.names]
  generalize hx:σ n=o at *;split;·rfl
  ·rename_i t a n' k;rw[h2 t a n' k rfl]
  ·rfl
 ·rfl
theorem Up {w:World} {I:Nat->Prop} {lp:Nat->Option Nat} {L:Option AF}:∀ (xs:List PV) (vs:List Value) (s:List UInt8),Aq w I lp L xs vs->GN xs=some s->∀ (j:Nat) (x:UInt8),s[j]?=some x->vs[j]?=some (.int .u8 (x.toNat:Int))
 | [],_,s,_,h,j,x,hj=>by cases h;simp at hj
 | p :: xs,_,s,h,hb,j,x,hj=>by
  cases h with
  | cons _ v _ vs hv hs =>
   simp only[GN] at hb;split at hb
   ·rename_i b bs h1 h2;cases hb
    have hp:v=.int .u8 (b.toNat:Int):=by
     unfold Ol at h1;split at h1
     ·rename_i n;split at h1
      ·rename_i hn;cases h1;rw[Ef hv];congr 1;simp;omega
      ·cases h1
     ·cases h1
    cases j with
    | zero=>simp at hj;subst hj;simp[hp]
    | succ j=>simp at hj |-;exact Up xs vs bs hs h2 j x hj
   ·cases hb
theorem Ue:∀ (xs:List PV) (s:List UInt8),GN xs=some s->s.length=xs.length
 | [],s,h=>by cases h;rfl
 | p :: xs,s,h=>by
  simp only[GN] at h;split at h
  ·rename_i b bs h1 h2;cases h;simp[Ue xs bs h2]
  ·cases h
theorem UQ:∀ (xs:List PV) (s:List UInt8),GN xs=some s->cellsL xs=xs
 | [],_,_=>rfl
 | p :: xs,s,h=>by
  simp only[GN] at h;split at h
  ·rename_i b bs h1 h2
   have hp:p.cells=[p]:=by
    unfold Ol at h1;split at h1;·rfl
    ·cases h1
   simp[cellsL,hp,UQ xs bs h2]
  ·cases h
theorem PU {c:Array Value} {a b:Value} (h:c.toList=[a,b]):c=#[a,b]:=by
 apply Array.toList_inj.1;simpa using h
theorem XW {W:World} {a:Addr} {n k:Nat} (h:k≠a.block):(W.freeze a n).heap[k]?=W.heap[k]?:=by
 unfold World.freeze;split;·rfl
 ·simp[Array.getElem?_modify,aH h]
theorem repL4 {w:World} {I:Nat->Prop} {lp:Nat->Option Nat} {L:Option AF} {a b c d:PV} {us:List Value} (h:Aq w I lp L [a,b,c,d] us):∃ u v x y,us=[u,v,x,y]/\Aw w I lp L a u/\Aw w I lp L b v/\Aw w I lp L c x/\Aw w I lp L d y:=by
 obtain⟨u,r,h1,rfl,h2⟩:∃ u r,Aw w I lp L a u/\us=u :: r/\Aq w I lp L [b,c,d] r:=by
  cases h;exact⟨_,_,by assumption,rfl,by assumption⟩
 obtain⟨v,r,h3,rfl,h4⟩:∃ u q,Aw w I lp L b u/\r=u :: q/\Aq w I lp L [c,d] q:=by
  cases h2;exact⟨_,_,by assumption,rfl,by assumption⟩
 obtain⟨x,y,rfl,h5,h6⟩:=GV h4;exact⟨u,v,x,y,rfl,h1,h3,h5,h6⟩
structure BldOK (P:Program) (gc gs:FuncId) (T U:Nat):Prop where
 entersC:CT P gc
 entersS:CT P gs
 nzT:T≠0
 nzU:U≠0
 used:∀ (b:Nat) (w:World),w.cell? ⟨b,0,none⟩=some (.pointer (some ⟨b,0,none⟩))->Calls P gc #[.pointer (some ⟨b,0,none⟩)] w fun e w'=>e=.returned (.tuple #[])/\w'=w
 fresh:∀ (b:Nat) (w:World),w.cell? ⟨b,0,none⟩=some (.pointer none)->w.shape? b=some (T,2)->w.frozen? ⟨b,0,none⟩=false ->
  Calls P gc #[.pointer (some ⟨b,0,none⟩)] w fun e w'=>e=.returned (.tuple #[])/\w'=w.setCell ⟨b,0,none⟩ (.pointer (some ⟨b,0,none⟩))
 strNil:∀ (b:Nat) (p:Value) (w:World),w.heap[b]?=some (.cells #[p,.slice none 0 0] T (0,0))->Calls P gs #[.pointer (some ⟨b,0,none⟩)] w fun e w'=>e=.returned (.string ⟨#[]⟩)/\w'=w.drew
 strSome:∀ (b g cap:Nat) (p:Value) (cur:Array Value) (l:List UInt8) (w:World),w.heap[b]?=some (.cells #[p,.slice (some ⟨g,0,none⟩) l.length cap] T (0,0))->w.heap[g]?=some (.cells cur U (0,0))->l≠[]->l.length<=cap->l.length<=cur.size ->
  l.length<=9223372036854775807->(∀ (j:Nat) (x:UInt8),l[j]?=some x->cur[j]?=some (Value.int .u8 (x.toNat:Int))) ->
  Calls P gs #[.pointer (some ⟨b,0,none⟩)] w fun e w'=>e=.returned (.string ⟨l.toArray⟩)/\w'=w.drew.freeze ⟨g,0,none⟩ l.length
theorem check_at {gs:FuncId} {T U:Nat} (hB:BldOK cx.P g gs T U) (h:NK T (Ak st.objs) vs=some out):Kl cx g st vs out:=by
 refine⟨hB.entersC,?_⟩;unfold NK at h;split at h
 ·rename_i n;split at h
  ·rename_i t x hlk;split at h
   case isFalse=>cases h
   rename_i ht;subst ht;cases h;intro E w0 I0 F0 O0 Hd R e ds I F lp L tmv suf us w dst hs hf hu hd;obtain⟨u,rfl,hr⟩:=Le hu;obtain⟨b,C,hL,rfl⟩:=FY hr;obtain⟨q,hq,hob⟩:=hs.ob n _ hlk;rw[hL] at hq;cases hq;obtain⟨c,E',hb,hC,hone,hcs⟩:=hob;obtain⟨v0,v1,hc,r0,r1⟩:=GV hcs;have hc:=PU hc;subst hc;obtain rfl:E'=t:=hone.2.resolve_left hB.nzT;rw[KH r0] at hb;refine callsIn_wide.2 ((hB.fresh b w (by simp[World.cell?,hb]) (by simp[World.shape?,hb]) (by simp[World.frozen?,hb])).mono ?_);rintro ev w' ⟨rfl,rfl⟩;have hself:=Ra (o:=0) (n:=.pointer (some ⟨b,0,none⟩)) hb;have hI:∀ k,I k->(w.setCell ⟨b,0,none⟩ (.pointer (some ⟨b,0,none⟩))).heap[k]?=w.heap[k]?:=fun k hk=>Go.RowKit.Below.heap_setCell _ _ _ _ fun (e:k=b)=>(hf.lB n b C hL).2.2.1 (e ▸ hk);refine SN (w':=w.setCell ⟨b,0,none⟩ (.pointer (some ⟨b,0,none⟩))) hs hf hL rfl rfl rfl (by rw[Q9];exact Z5 _) (fun k _ hk=>Go.RowKit.Below.heap_setCell _ _ _ _ hk) ?_ (.tup [] #[] .nil);refine⟨_,E',hself,by simpa using hC,⟨?_,.inr rfl⟩,?_⟩
   ·intro v hv;simp at hv;rcases hv with rfl | rfl;·rfl
    ·exact hone.1 _ (by simp)
   ·simp;exact .cons _ _ _ _ (.ref n 0 b C hL) (.cons _ _ _ _ (Aw.mono (fun _ h=>h) hI (fun _ _ h=>h) r1) .nil)
  ·rename_i t n' x hlk;split at h
   ·rename_i hn;obtain⟨rfl,rfl⟩:=hn;cases h;intro E w0 I0 F0 O0 Hd R e ds I F lp L tmv suf us w dst hs hf hu hd;obtain⟨u,rfl,hr⟩:=Le hu;obtain⟨b,C,hL,rfl⟩:=FY hr;obtain⟨q,hq,hob⟩:=hs.ob _ _ hlk;rw[hL] at hq;cases hq;obtain⟨c,E',hb,hC,hone,hcs⟩:=hob;obtain⟨v0,v1,hc,r0,r1⟩:=GV hcs;have hc:=PU hc;subst hc;obtain⟨b',C',hL',rfl⟩:=FY r0;rw[hL] at hL';cases hL';refine callsIn_wide.2 ((hB.used b w (by simp[World.cell?,hb])).mono ?_);rintro ev w' ⟨rfl,rfl⟩;exact Ib hs hf (Jg _) (.tup [] #[] .nil)
   ·cases h
  ·cases h
 ·cases h
theorem str_at {gc:FuncId} {T U:Nat} (hB:BldOK cx.P gc g T U) (h:Oq T U (Ak st.objs) vs=some out):Kl cx g st vs out:=by
 refine⟨hB.entersS,?_⟩;unfold Oq at h;split at h
 ·rename_i n;split at h
  ·rename_i t x hlk;split at h
   case isFalse=>cases h
   rename_i ht;subst ht;cases h;intro E w0 I0 F0 O0 Hd R e ds I F lp L tmv suf us w dst hs hf hu hd;obtain⟨u,rfl,hr⟩:=Le hu;obtain⟨b,C,hL,rfl⟩:=FY hr;obtain⟨q,hq,hob⟩:=hs.ob _ _ hlk;rw[hL] at hq;cases hq;obtain⟨c,E',hb,hC,hone,hcs⟩:=hob;obtain⟨v0,v1,hc,r0,r1⟩:=GV hcs;have hc:=PU hc;subst hc;obtain rfl:E'=t:=hone.2.resolve_left hB.nzT;rw[Gm r1] at hb;refine callsIn_wide.2 ((hB.strNil b v0 w hb).mono ?_);rintro ev w' ⟨rfl,rfl⟩;exact Ib (w':=w.drew) hs hf ⟨rfl,rfl,rfl,Z5 _,fun _ _=>rfl⟩ (.str [])
  ·rename_i t x n' k hlk;split at h
   ·rename_i u' xs hlk';split at h
    ·rename_i s hs';split at h
     ·rename_i hc0;obtain⟨rfl,rfl,hnn,hk0,hkl,hkm⟩:=hc0;cases h;intro E w0 I0 F0 O0 Hd R e ds I F lp L tmv suf us w dst hs hf hu hd;obtain⟨u,rfl,hr⟩:=Le hu;obtain⟨b,C,hL,rfl⟩:=FY hr;obtain⟨q,hq,hob⟩:=hs.ob _ _ hlk;rw[hL] at hq;cases hq;obtain⟨c,E',hb,hC,hone,hcs⟩:=hob;obtain⟨v0,v1,hc,r0,r1⟩:=GV hcs;have hc:=PU hc;subst hc;obtain rfl:E'=t:=hone.2.resolve_left hB.nzT;obtain⟨q',hq',hob'⟩:=hs.ob _ _ hlk';rcases JE r1 with ⟨g,C',cap,hL',rfl,hC',hn⟩ | ⟨_,_,_,h0⟩
      ·rw[hL'] at hq';cases hq';obtain⟨cur,E2,hg,hCg,hle,hkx,hone2,hrep⟩:=hob';obtain rfl:E2=u':=hle.2.resolve_left hB.nzU;have hlen:=Ue _ _ hs';rw[bS,aT hkl] at hlen
       have hrk:Aq w I lp none (xs.take k) (cur.toList.take k):=by
        have h1:=hrep.take k;rw[show k=k*1 by omega,<-Jh hkx,UQ _ _ hs',aW,aT (by omega)] at h1;simpa using h1
       have hbytes:=Up _ _ _ hrk hs';have hcur:k<=cur.size:=by have:=hle.1;omega
       subst hlen;refine callsIn_wide.2 ((hB.strSome b g cap v0 cur s w (by simpa using hb) hg (by intro e;subst e;simp at hk0) hn hcur ?_ ?_).mono ?_);·unfold FA at hkm;omega
       ·intro j x hx;have hj:j < s.length:=(ac.1 hx).1;have h1:=hbytes j x hx;rw[b7 hj] at h1;simpa using h1
       ·rintro ev w' ⟨rfl,rfl⟩
        have hfz:∀ (W:World) (a:Addr) (n:Nat),(W.freeze a n).os=W.os/\(W.freeze a n).tape=W.tape/\(W.freeze a n).output=W.output/\(W.freeze a n).heap.size=W.heap.size:=fun W a n=>by
         unfold World.freeze;split<;>simp
        obtain⟨f1,f2,f3,f4⟩:=hfz w.drew ⟨g,0,none⟩ s.length;refine sp_gone (w':=w.drew.freeze ⟨g,0,none⟩ s.length) hs hf hL' f1 f2 f3 (Nat.le_of_eq f4.symm) (fun k' hk' hne=>?_) (fun L'=>.str s);rw[XW (fun e=>hne C' (by rw[e]))];rfl
      ·omega
     ·cases h
    ·cases h
   ·cases h
  ·cases h
 ·cases h
end any
def digs:Nat->Nat->List UInt8
 | 0,_=>[]
 | k+1,u=>if u < 10 then [UInt8.ofNat (48+u)] else digs k (u / 10)++[UInt8.ofNat (48+u%10)]
def itoaF (n:Int):List UInt8:=if n < 0 then 45 :: digs 20 n.natAbs else digs 20 n.toNat
theorem S1:∀ (k u:Nat),u < 10 ^ k->0 < k->digs k u=Lib.decDigits u
 | 0,_,_,h=>absurd h (Nat.lt_irrefl _)
 | k+1,u,h,_=>by
  unfold digs;rw[Lib.decDigits];by_cases hu:u < 10
  ·rw[if_pos hu,dif_pos hu]
  ·rw[if_neg hu,dif_neg hu]
   have h1:0 < k:=by
    rcases cK k with rfl | hk;·exact absurd (by simpa using h) hu
    ·exact hk
   have h2:u / 10 < 10 ^ k:=by
    refine Nat.div_lt_of_lt_mul ?_;rw[Nat.pow_succ,Nat.mul_comm] at h;exact h
   rw[S1 k (u / 10) h2 h1]
theorem itoa_eq (n:Int) (h0 : -9223372036854775808<=n) (h1:n<=9223372036854775807):itoaF n=Lib.itoa n:=by
 unfold itoaF Lib.itoa;have hp:(18446744073709551616:Nat)<=10 ^ 20:=by decide
 rw[S1 20 n.natAbs (by omega) (by decide),S1 20 n.toNat (by omega) (by decide)]
def spFmt:List PV->Option AO
 | [.int .i64 n,.int .i64 10]=>if -9223372036854775808<=n/\n<=9223372036854775807 then some {v:=.str (itoaF n)} else none
 | _=>none
def S3:List PV->Option AO
 | [.str s,.str old,.str new,.int .i64 n]=>if s.length<=65536/\new.length<=65536/\1<=old.length then some {v:=.str (Lib.replace s old new n)} else none
 | _=>none
section at2
variable {P:Program} {mx:P.follows .mixedOrders=true} {gs:List Nat} {T:Nat} {et:List (Nat×Value)} {tabs:List (Nat×Array Value)} {ns:List Nat} {g:FuncId} {st:St} {vs:List PV} {out:AO}
theorem fmt_at (he:CT P g) {gt:Nat} (ht:(gt,(Lib.pow10Tab.map fun z=>Value.int .u64 z).toArray)∈tabs) (hn:P.globalNamed "internal/strconv.uint64pow10"=some gt)
  (hc:∀ (n:Int), -9223372036854775808<=n->n<=9223372036854775807->∀ w:World,Lib.TabIs P w "internal/strconv.uint64pow10" .u64 Lib.pow10Tab->Calls P g #[.int .i64 n,.int .i64 10] w fun e w'=>e=.returned (.string ⟨(Lib.itoa n).toArray⟩)/\∃ k os,w'=Sort.grow (w.drewN k) os)
  (h:spFmt vs=some out):Kl (cxOf P mx gs T et tabs ns) g st vs out:=by
 refine⟨he,?_⟩;unfold spFmt at h;split at h
 ·rename_i n;split at h
  ·rename_i hr;cases h;intro E w0 I0 F0 O0 Hd R e ds I F lp L tmv suf us w dst hs hf hu hd;obtain⟨u,v,rfl,h1,h2⟩:=GV hu;rw[Ef h1,Ef h2];obtain⟨_,E',fr,hp⟩:=hf.wd.tab _ ht
   have ht:Lib.TabIs P w "internal/strconv.uint64pow10" .u64 Lib.pow10Tab:=by
    unfold Lib.TabIs World.var?;rw[hn];simp only[cB,hp]
   refine callsIn_wide.2 ((hc n hr.1 hr.2 w ht).mono ?_);rintro ev w' ⟨rfl,k,os,rfl⟩;rw[itoa_eq n hr.1 hr.2];exact Ib hs hf (TD (Lib.below_grow _ w (Z5 _) k os)) (.str _)
  ·cases h
 ·cases h
theorem repl_at (he:CT P g) {gm:Nat} (hg:gm∈ns)
  (hc:∀ (s old new:ByteArray) (n m:Int) (w:World),s.size < 4294967281->w.cell? ⟨gm,0,none⟩=some (.int .i64 m)->1<=old.size->s.size+Lib.countB s old*new.size<=140737488355328 ->
   Calls P g #[.string s,.string old,.string new,.int .i64 n] w fun e w'=>e=.returned (.string ⟨(Lib.replace s.data.toList old.data.toList new.data.toList n).toArray⟩)/\Go.RowKit.Below w.heap.size w w')
  (h:S3 vs=some out):Kl (cxOf P mx gs T et tabs ns) g st vs out:=by
 refine⟨he,?_⟩;unfold S3 at h;split at h
 ·rename_i s old new n;split at h
  ·rename_i hr;obtain⟨l1,l2,l3⟩:=hr;cases h;intro E w0 I0 F0 O0 Hd R e ds I F lp L tmv suf us w dst hs hf hu hd;obtain⟨u1,u2,u3,u4,rfl,h1,h2,h3,h4⟩:=repL4 hu;rw[Ff h1,Ff h2,Ff h3,Ef h4];obtain⟨_,m,hm⟩:=hf.wd.num _ hg;have hcl:=Lib.count_le s old
   refine callsIn_wide.2 ((hc ⟨s.toArray⟩ ⟨old.toArray⟩ ⟨new.toArray⟩ n m w (by show s.toArray.size < _;simp;omega) hm (by show 1<=old.toArray.size;simp;omega) (by
    show s.toArray.size+Lib.count s.toArray.toList old.toArray.toList*new.toArray.size<=_;simp only[cy];have:Lib.count s old*new.length<=65537*65536:=Nat.mul_le_mul (by omega) l2;omega)).mono ?_)
   rintro ev w' ⟨rfl,hw⟩;exact Ib hs hf (TD hw) (.str _)
  ·cases h
 ·cases h
end at2
theorem cfg_loc {sp:FuncId->(Nm->Option Ob)->List PV->Option AO} (h:∀ g,JY (sp g)) (g:FuncId) (σ:Nm->Option Ob) (vs:List PV) (hv:At vs=true):sp g σ vs=sp g (fun _=>none) vs:=by
 refine h g σ _ vs fun nm hm=>?_;rw[(Da hv).1] at hm;have:Bb σ AW []=[]:=by simp[Bb,AW]
 rw[this] at hm;cases hm
theorem Qg {ps:List (Nat×Nat)} {p t:Nat} (hp:ps.lookup p=some t) {σ:Nm->Option Ob} {nm:Nm} {ty:Nat} {cs:List PV} (h1:σ nm=some (.cells ty cs)) (h2:cs.length=1) :
  Il ps σ [.nilI,.iface p (.ref nm 0)]=some {v:=.bool false}/\∀ x,AA x 1=true->Il ps σ [.iface t x,.iface p (.ref nm 0)]=some {v:=.bool true,upd:=some (nm,.cells ty x.cells)}:=by
 refine⟨by simp[Il,hp],fun x hx=>?_⟩;unfold Il;simp only[h1,hp,h2,hx,and_self,if_true]
end Go.Ab


namespace Go.Ab
open Go
def KW (k:IntKind) (σ:Nm->Option Ob):List PV->Option AO
 | [.ref n o]=>match σ n with
  | some (.cells _ cs)=>match cs[o]? with
   | some (.int k' y)=>if k'=k then some {v:=.int k y} else none
   | _=>none
  | _=>none
 | _=>none
def KL (k:IntKind) (σ:Nm->Option Ob):List PV->Option AO
 | [.ref n o,.int k1 y]=>match σ n with
  | some (.cells ty cs)=>match cs[o]? with
   | some (.int k' _)=>if k'=k/\k1=k then some {v:=.tup [],upd:=some (n,.cells ty (cs.set o (.int k y)))} else none
   | _=>none
  | _=>none
 | _=>none
def JH (k:IntKind) (x y:Int) (σ:Nm->Option Ob):List PV->Option AO
 | [.ref n o]=>match σ n with
  | some (.cells ty cs)=>match cs[o]? with
   | some (.int k' z)=>if k'=k/\z=x then some {v:=.tup [],upd:=some (n,.cells ty (cs.set o (.int k y)))} else none
   | _=>none
  | _=>none
 | _=>none
theorem load_here (k:IntKind):JY (KW k):=by
 intro σ σ' vs h;unfold KW;split
 ·rename_i n o;rw[h n (Fd _ _ n (by simp[AR,PV.names]))]
 ·rfl
theorem YQ (k:IntKind):JY (KL k):=by
 intro σ σ' vs h;unfold KL;split
 ·rename_i n o k1 y;rw[h n (Fd _ _ n (by simp[AR,PV.names]))]
 ·rfl
theorem UZ (k:IntKind) (x y:Int):JY (JH k x y):=by
 intro σ σ' vs h;unfold JH;split
 ·rename_i n o;rw[h n (Fd _ _ n (by simp[AR,PV.names]))]
 ·rfl
section
variable {cx:Cx} {E:Type} {w0:World} {I0 F0:Nat->Prop} {O0:B9} {Hd:Nat->Option Obj} {R:BV E} {e:E} {ds:List Deferred} {I F:Nat->Prop} {lp:Nat->Option Nat} {L:AF} {tmv suf:List Value} {st:St} {w:World} {dst:Option Nat}
theorem SG (hs:SR lp I L st tmv suf w) {nm:Nm} {ty:Nat} {cs:List PV} {o:Nat} {k:IntKind} {y0:Int} {u:Value} (hlk:Ak st.objs nm=some (.cells ty cs)) (hr:Aw w I lp (some L) (.ref nm o) u) (h0:cs[o]?=some (.int k y0)) :
  ∃ b C,L nm=some (some (b,C))/\u=.pointer (some ⟨b,o,none⟩)/\w.cell? ⟨b,o,none⟩=some (.int k y0)/\w.frozen? ⟨b,o,none⟩=false:=by
 obtain⟨b,C,hL,rfl⟩:=FY hr;obtain⟨q,hq,hob⟩:=hs.ob nm _ hlk;rw[hL] at hq;cases hq;obtain⟨c,E',hb,hC,hone,hcs⟩:=hob;obtain⟨v,hv,hrv⟩:=hcs.get h0;rw[Ef hrv] at hv;refine⟨b,C,hL,rfl,?_,by simp[World.frozen?,hb]⟩;rw[bZ] at hv;simp[World.cell?,hb,hv]
theorem VU (hs:SR lp I L st tmv suf w) (hf:Fr cx w0 I0 F0 O0 Hd R e ds I F L w) {nm:Nm} {ty:Nat} {cs:List PV} {o:Nat} {k:IntKind} {b C:Nat} (hlk:Ak st.objs nm=some (.cells ty cs)) (hL:L nm=some (some (b,C))) (y:Int) :
  ∃ I' L',SR lp I' L' (apply st dst {v:=.tup [],upd:=some (nm,.cells ty (cs.set o (.int k y)))}) (FQ tmv dst (.tuple #[])) suf (w.setCell ⟨b,o,none⟩ (.int k y))/\Fr cx w0 I0 F0 O0 Hd R e ds I' F L' (w.setCell ⟨b,o,none⟩ (.int k y)):=by
 obtain⟨q,hq,hob⟩:=hs.ob nm _ hlk;rw[hL] at hq;cases hq;obtain⟨c,E',hb,hC,hone,hcs⟩:=hob;have hself:=Ra (o:=o) (n:=.int k y) hb;have hI:∀ j,I j->(w.setCell ⟨b,o,none⟩ (.int k y)).heap[j]?=w.heap[j]?:=fun j hj=>Go.RowKit.Below.heap_setCell _ _ _ _ fun (e:j=b)=>(hf.lB nm b C hL).2.2.1 (e ▸ hj);refine SN (w':=w.setCell ⟨b,o,none⟩ (.int k y)) hs hf hL rfl rfl rfl (by rw[Q9];exact Z5 _) (fun j _ hj=>Go.RowKit.Below.heap_setCell _ _ _ _ hj) ?_ (.tup [] #[] .nil);refine⟨_,E',hself,by simpa using hC,⟨?_,hone.2⟩,?_⟩
 ·intro v hv;rw[dg] at hv;rcases cn hv with hv | rfl;·exact hone.1 v hv
  ·rfl
 ·rw[dg];exact Aq.mono (fun _ h=>h) hI (fun _ _ h=>h) (hcs.set o (.int k y))
end
section at_
variable {cx:Cx} {g:FuncId} {st:St} {vs:List PV} {out:AO} {k:IntKind}
theorem load_ret (hg:∀ (a:Addr) (y:Int) (w:World),w.cell? a=some (.int k y)->(callFunc g #[.pointer (some a)]).run cx.P w=.ok (.value (.int k y)) w) (h:KW k (Ak st.objs) vs=some out):SpRet cx g st vs out:=by
 unfold KW at h;split at h
 case h_2=>cases h
 split at h
 case h_2=>cases h
 rename_i ty cs hlk;split at h
 case h_2=>cases h
 rename_i k' y h0;split at h
 case isFalse=>cases h
 rename_i hk;subst hk;cases h;intro E w0 I0 F0 O0 Hd R e ds I F lp L tmv suf us w dst hs hf hu hd;obtain⟨u,rfl,hr⟩:=Le hu;obtain⟨b,C,hL,rfl,h1,h2⟩:=SG hs hlk hr h0;exact⟨_,w,hg _ _ w h1,Ib hs hf (Jg w) (.int _ _)⟩
theorem store_ret (hg:∀ (a:Addr) (y0 y:Int) (w:World),w.cell? a=some (.int k y0)->w.frozen? a=false->(callFunc g #[.pointer (some a),.int k y]).run cx.P w=.ok (.value (.tuple #[])) (w.setCell a (.int k y))) (h:KL k (Ak st.objs) vs=some out):SpRet cx g st vs out:=by
 unfold KL at h;split at h
 case h_2=>cases h
 split at h
 case h_2=>cases h
 rename_i ty cs hlk;split at h
 case h_2=>cases h
 rename_i k' y0 h0;split at h
 case isFalse=>cases h
 rename_i hk;obtain⟨rfl,rfl⟩:=hk;cases h;intro E w0 I0 F0 O0 Hd R e ds I F lp L tmv suf us w dst hs hf hu hd;obtain⟨u,v,rfl,hr,hv⟩:=GV hu;obtain⟨b,C,hL,rfl,h1,h2⟩:=SG hs hlk hr h0;rw[Ef hv];exact⟨_,_,hg _ _ _ w h1 h2,VU hs hf hlk hL _⟩
theorem WK {x y:Int} (he:CT cx.P g) (hg:∀ (a:Addr) (w:World),w.cell? a=some (.int k x)->w.frozen? a=false->Calls cx.P g #[.pointer (some a)] w fun e w'=>e=.returned (.tuple #[])/\w'=w.setCell a (.int k y)) (h:JH k x y (Ak st.objs) vs=some out):Kl cx g st vs out:=by
 refine⟨he,?_⟩;unfold JH at h;split at h
 case h_2=>cases h
 split at h
 case h_2=>cases h
 rename_i ty cs hlk;split at h
 case h_2=>cases h
 rename_i k' z h0;split at h
 case isFalse=>cases h
 rename_i hk;obtain⟨rfl,rfl⟩:=hk;cases h;intro E w0 I0 F0 O0 Hd R e ds I F lp L tmv suf us w dst hs hf hu hd;obtain⟨u,rfl,hr⟩:=Le hu;obtain⟨b,C,hL,rfl,h1,h2⟩:=SG hs hlk hr h0;refine callsIn_wide.2 ((hg _ w h1 h2).mono ?_);rintro ev w' ⟨rfl,rfl⟩;exact VU hs hf hlk hL _
end at_
def kLoad (k:IntKind) (σ:Nm->Option Aj):List KV->Option (Bool×AB)
 | [.ref n o]=>match σ n with
  | some (.cells _ cs)=>match cs[o]? with
   | some (.cv v)=>some (Oe k v,{v:=.cv v})
   | _=>none
  | _=>none
 | _=>none
def Tp (k:IntKind) (σ:Nm->Option Aj):List KV->Option (Bool×AB)
 | [.ref n o,.cv u]=>match σ n with
  | some (.cells ty cs)=>match cs[o]? with
   | some (.cv v)=>some (Bi (Oe k v) (Oe k u),{v:=.tup [],upd:=some (n,.cells ty (cs.set o (.cv u)))})
   | _=>none
  | _=>none
 | _=>none
def Qw (k:IntKind) (x y:Int) (σ:Nm->Option Aj):List KV->Option (Bool×AB)
 | [.ref n o]=>match σ n with
  | some (.cells ty cs)=>match cs[o]? with
   | some (.cv v)=>some (Tq k x v,{v:=.tup [],upd:=some (n,.cells ty (cs.set o (.cv (.int k y))))})
   | _=>none
  | _=>none
 | _=>none
theorem Rq {k:IntKind} {v:PV} (h:Oe k v=true):∃ y,v=.int k y:=by
 unfold Oe at h;split at h;·rename_i k' y;exact⟨y,by rw[of_decide_eq_true h]⟩
 ·cases h
theorem Yy {k:IntKind} {x:Int} {v:PV} (h:Tq k x v=true):v=.int k x:=by
 unfold Tq at h;split at h;·simp only[Z2,decide_eq_true_eq] at h;rw[h.1,h.2]
 ·cases h
theorem WO (cs:List KV) (o:Nat) (x:KV):AN (cs.set o x)=(AN cs).set o x.pv:=by
 rw[Ev,Ev,bK]
section k_
variable {σ:Nm->Option Aj} {xs:List KV} {out:AB} {k:IntKind}
theorem SO {cs:List KV} {o:Nat} {x:KV} (h:cs[o]?=some x):(AN cs)[o]?=some x.pv:=by
 rw[Ev,aa,h];rfl
theorem kLoad_ok (h:kLoad k σ xs=some (true,out)):out.Ok/\KW k (fun nm=>(σ nm).map Aj.ob) (AN xs)=some out.out/\∀ f,out.out.v.ren f=out.out.v:=by
 unfold kLoad at h;split at h
 case h_2=>cases h
 split at h
 case h_2=>cases h
 rename_i n o _ ty cs hn;split at h
 case h_2=>cases h
 rename_i v h0;simp only[Z6,aC] at h;obtain⟨hv,rfl⟩:=h;obtain⟨y,rfl⟩:=Rq hv;refine⟨AB.plain (v:=.cv (.int _ y)) rfl,?_,fun _=>rfl⟩;simp only[AN,KV.pv,KW,hn,ao,Aj.ob,SO h0,if_true];rfl
theorem upd_ok {cs:List KV} {n:Nm} {ty o:Nat} {u:PV} (hu:okV u=true) (h:A6 cs):({v:=.tup [],upd:=some (n,.cells ty (cs.set o (.cv u)))}:AB).Ok :=
 ⟨trivial,by simp,fun nm ob he=>by
  cases he;show A6 _;refine Dd.2 fun x hx=>?_;rcases cn hx with hx | rfl;·exact Dd.1 h x hx
  ·exact hu,by simp⟩
theorem kStore_ok (hσ:∀ nm o,σ nm=some o->o.ok) (h:Tp k σ xs=some (true,out)):out.Ok/\KL k (fun nm=>(σ nm).map Aj.ob) (AN xs)=some out.out/\∀ f,out.out.v.ren f=out.out.v:=by
 unfold Tp at h;split at h
 case h_2=>cases h
 split at h
 case h_2=>cases h
 rename_i n o u _ ty cs hn;split at h
 case h_2=>cases h
 rename_i v h0;simp only[Z6,aC] at h;obtain⟨hv,rfl⟩:=h;unfold Bi at hv;simp only[Z2] at hv;obtain⟨y0,rfl⟩:=Rq hv.1;obtain⟨y,rfl⟩:=Rq hv.2;refine⟨upd_ok rfl (hσ _ _ hn),?_,fun _=>rfl⟩;simp only[AN,KV.pv,KL,hn,ao,Aj.ob,SO h0,and_self,if_true,AB.out,WO,bL,Z1]
theorem Wh {x y:Int} (hσ:∀ nm o,σ nm=some o->o.ok) (h:Qw k x y σ xs=some (true,out)):out.Ok/\JH k x y (fun nm=>(σ nm).map Aj.ob) (AN xs)=some out.out/\∀ f,out.out.v.ren f=out.out.v:=by
 unfold Qw at h;split at h
 case h_2=>cases h
 split at h
 case h_2=>cases h
 rename_i n o _ ty cs hn;split at h
 case h_2=>cases h
 rename_i v h0;simp only[Z6,aC] at h;obtain⟨hv,rfl⟩:=h;obtain rfl:=Yy hv;refine⟨upd_ok rfl (hσ _ _ hn),?_,fun _=>rfl⟩;simp only[AN,KV.pv,JH,hn,ao,Aj.ob,SO h0,and_self,if_true,AB.out,WO,bL,Z1]
end k_
end Go.Ab


namespace Go.Ab
open Go
section kb_
variable {σ:Nm->Option Aj} {xs:List KV} {out:AB} {T U:Nat}
end kb_
end Go.Ab

