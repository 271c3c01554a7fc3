/- Part 14 of a proof: laws of a machine. -/
import Derived.Test.YthakoglihciegaaGreatDoorK03
import Derived.ChangeArms
import Derived.ChangeSlices
import Derived.ChangeMaps5
import Derived.JoinedOf
import Derived.RowKit
import Derived.Test.YthakoglihciegaaGreatDoorK13
import Derived.Test.YthakoglihciegaaGreatDoorRows
import Derived.ProofKit
import Derived.ChangeSame
import Derived.ChangeVars
import Derived.RowKitTokens
import Derived.LaidLaws
import Derived.LaidHandle
import Derived.Stop.Joined
import Derived.Carry
import Derived.Stop.LaidTwo
import Derived.Stop.LaidErr
import Derived.LaidSub
import Derived.Lib.LaidTab
import Derived.Shelf.Vars
import Derived.Handed
set_option linter.all false

namespace Go.Ab
open Go Go.ChangeShapes Go.WideShapes Go.RowKit
variable{L:jr} {a:W} {base m n:Nat} {l us:List i8} {ps:List MemPlace} {t:je} {v:i8}
inductive CP where
 | bool
 | int (k:jc)
 | str
 | slice (e:CP)
 | struct (fs:List CP)
mutual
def CP.cells:CP->Nat
 | .struct fs=>CP.jM fs
 | .bool | .int _ | .str | .slice _=>1
def CP.jM:List CP->Nat
 | []=>0
 | d :: ds=>d.cells+CP.jM ds
end
mutual
def DZ (P:jd):Nat->CP->je->Bool
 | 0,_,_=>false
 | n+1,D,t=>match D,P.underlying t with
  | .bool,some .bool=>true
  | .int k,some (.int k')=>k'==k
  | .str,some .string=>true
  | .slice e,some (.slice et)=>DZ P n e et&&P.cellsOf et==e.cells&&decide (0 < e.cells)
  | .struct fs,some (.struct fields)=>P.cellsOf t==CP.jM fs&&vO P n 0 fs fields.toList
  | _,_=>false
def vO (P:jd):Nat->Nat->List CP->List Field->Bool
 | 0,_,_,_=>false
 | _+1,_,[],[]=>true
 | n+1,off,D :: ds,f :: fs=>f.offset==off&&P.cellsOf f.type==D.cells&&DZ P n D f.type&&vO P n (off+D.cells) ds fs
 | _+1,_,_,_=>false
end
mutual
def J3:CP->W->Prop
 | .bool,v=>∃ b,v=.bool b
 | .int k,v=>∃ n,v=.int k n/\(Lit.int k n).wf=true
 | .str,v=>∃ s,v=.str s/\s.length<=maxLen
 | .slice e,v=>v=.jD\/∃ H,v=.sl e.cells H false/\H.length<=maxLen/\∀ x∈H,J3 e x
 | .struct fs,v=>∃ vs,v=.agg (jM vs)/\PO fs vs
def PO:List CP->jh->Prop
 | [],vs=>vs=[]
 | D :: fs,vs=>∃ v r,vs=v :: r/\J3 D v/\PO fs r
end
theorem repL1' {w:i7} {I:Nat->Prop} {lp:Nat->jj} (h:Av w I lp L [a] us):∃ u,us=[u]/\AC w I lp L a u:=by
 obtain⟨u,r,U,rfl,O⟩:∃ u r,AC w I lp L a u/\us=u :: r/\Av w I lp L [] r:=by cases h;exact⟨_,_,by assumption,rfl,by assumption⟩
 cases O;exact⟨u,rfl,U⟩
section
variable {zza:Type} {enc:je×i8->zza} {P:jd} {w:i7} {I:Nat->Prop} {lp:Nat->jj} {held:Bool} {sp:Nat->Bool}
def RepD (w:i7) (I:Nat->Prop) (lp:Nat->jj) (D:CP) (cs:List i8):Prop:=∃ v:W,J3 D v/\Av w I lp none v.cells cs/\By cs/\v.cells.length=D.cells
theorem nY {a:Addr} (h:w.cells? base a n=some l):l.length=n/\∀ i,i < n->w.cell? (a.add i)=l[i]?:=by obtain⟨_,U,O⟩:=World.cells?_some h;exact⟨U,fun i hi=>by rw[O i hi]⟩
theorem qh {a:Addr} (h:w.cell? a=some v):∃ c E fr,w.heap[a.block]?=some (.cells c E fr)/\a.spot=none/\c[a.off]?=some v:=by
 unfold World.cell? at h;split at h
 ·rename_i c E fr hb;split at h;·cases h
  {rename_i hs;exact⟨c,E,fr,hb,by simpa using hs,h⟩}
 {cases h}
theorem YI (a:Addr) (h:a.spot=none) (i:Nat):a.add i=⟨a.block,a.off+i,none⟩:=by unfold Addr.add;split;{rename_i hi;subst hi;cases a;simp_all};{rfl}
theorem zby {e:CP} (hI:∀ b,b < w.heap.size->I b) {a:Addr} {len cap:Nat} (oP:len<=cap) (hcm:cap<=maxLen) (sP:0 < e.cells)
  (ou:∀ i,i < len->∃ cs,w.cells? 0 (a.add (i*e.cells)) e.cells=some cs/\RepD w I lp e cs):RepD w I lp (.slice e) [.slice (some a) len cap]:=by
 by_cases h0:len=0;{subst h0;exact⟨.sl e.cells [] false,.inr ⟨[],rfl,fp _,fun x A=>by cases A⟩,.cons _ _ _ _ (.po _ _ _ _ fun h=>by cases h) .nil,by simp[By,Value.oneCell'],rfl⟩}
 ·obtain⟨cs0,hcs0,_⟩:=ou 0 (by omega);obtain⟨pr,hg0⟩:=nY hcs0;have hf:=hg0 0 sP;rw[Nat.zero_mul] at hf;have e0:(a.add 0).add 0=a:=by simp[Addr.add]
  rw[e0,dQ (by omega)] at hf;obtain⟨c,E,fr,hb,hs,_⟩:=qh hf;have hblt:a.block < w.heap.size:=(gJ.1 hb).1
  have each:∀ i,i < len->∃ v:W,J3 e v/\v.cells.length=e.cells/\(a.off+i*e.cells)+e.cells<=c.size/\By ((c.toList.drop (a.off+i*e.cells)).take e.cells)/\Av w I lp none v.cells ((c.toList.drop (a.off+i*e.cells)).take e.cells):=by
   intro i hi;obtain⟨cs,lY,v,U,O,h3,h4⟩:=ou i hi;obtain⟨hl,hg⟩:=nY lY;have key:∀ j,j < e.cells->c[a.off+i*e.cells+j]?=cs[j]?:=by intro j hj;have:=hg j hj;rw[YI a hs,YI _ rfl,OI hb] at this;exact this
   have kS:a.off+i*e.cells+e.cells<=c.size:=by have:=key (e.cells - 1) (by omega);rw[dQ (by omega)] at this;have:=(gJ.1 this).1;omega
   have e1:(c.toList.drop (a.off+i*e.cells)).take e.cells=cs:=by apply eO;intro j;by_cases hj:j < e.cells;{rw[gj hj,gx,<-key j hj];simp};{rw[ew (by simp;omega),ew (by omega)]}
   exact⟨v,U,h4,kS,by rw[e1];exact h3,by rw[e1];exact O⟩
  have all:∀ n,n<=len->∃ H:jh,H.length=n/\(∀ x∈H,J3 e x)/\(∀ x∈H,x.cells.length=e.cells)/\a.off+n*e.cells<=c.size/\By ((c.toList.drop a.off).take (n*e.cells))/\Av w I lp none (jM H) ((c.toList.drop a.off).take (n*e.cells)):=by
   intro n;induction n with
   | zero =>
    intro _;refine⟨[],rfl,by simp,by simp,?_,by simp[By],by simp;exact .nil⟩;obtain⟨_,_,_,h,_⟩:=each 0 (by omega);omega
   | succ n ih =>
    intro hn;obtain⟨H,U,O,h3,h4,h5,h6⟩:=ih (by omega);obtain⟨v,g1,g2,g3,g4,g5⟩:=each n (by omega);have e2:(c.toList.drop a.off).take ((n+1)*e.cells)=(c.toList.drop a.off).take (n*e.cells)++(c.toList.drop (a.off+n*e.cells)).take e.cells:=by rw[eg,fR,List.take_add,fY]
    refine⟨H++[v],by simp[U],?_,?_,by rw[eg];omega,?_,?_⟩;{intro x A;rcases dX.1 A with A | A;{exact O x A};{simp at A;subst A;exact g1}};{intro x A;rcases dX.1 A with A | A;{exact h3 x A};{simp at A;subst A;exact g2}};{rw[e2];exact h5.mH g4};{rw[e2,Lf];refine h6.append ?_;simpa[jM] using g5}
  obtain⟨H,U,O,h3,h4,h5,h6⟩:=all len (dH _);have ea:a=⟨a.block,a.off,none⟩:=by cases a;simp_all
  refine⟨.sl e.cells H false,.inr ⟨H,rfl,by omega,O⟩,?_,by simp[By,Value.oneCell'],rfl⟩;rw[ea,<-U];exact .cons _ _ _ _ (.sl e.cells H false a.block a.off cap c E fr (hI _ hblt) hb (by rw[U];exact h4) h3 (by omega) (fun h=>by cases h) (by rw[U];exact h5) (by rw[U];exact h6)) .nil
theorem bk (ih:∀ (m:Nat) (D:CP) (t:je) (cs:List i8) (x:DataW zza×List MemPlace),DZ P m D t=true->DataW.trod enc P w 0 (fun _=>true) held n t cs=some x->RepD w I lp D cs) :
  ∀ (m:Nat) (ds:List CP) (fs:List Field) (off:Nat) (cs:List i8) (H:List (DataW zza×List MemPlace)),vO P m off ds fs=true->H.length=fs.length->cs.length=off+CP.jM ds ->
  (∀ (i:Nat) (f:Field),fs[i]?=some f->DataW.trod enc P w 0 (fun _=>true) held n f.type ((cs.drop f.offset).take (P.cellsOf f.type))=H[i]?) ->
  ∃ vs:jh,PO ds vs/\Av w I lp none (jM vs) (cs.drop off)/\By (cs.drop off)/\(jM vs).length=CP.jM ds:=by
 intro m;induction m with
 | zero=>intro ds fs off cs H h;cases h
 | succ m ihm =>
  intro ds fs off cs H h hl hc hf
  match ds,fs,h with
  | [],[],_ =>
   refine⟨[],rfl,?_,?_,rfl⟩;{rw[gQ (by simp[CP.jM] at hc;omega)];exact .nil};{rw[gQ (by simp[CP.jM] at hc;omega)];simp[By]}
  | D :: ds,f :: fs,h =>
   simp only[vO,dF,iL] at h;obtain⟨⟨⟨U,O⟩,h3⟩,h4⟩:=h
   match H,hl with
   | x :: H,hl =>
    have A:=hf 0 f rfl;rw[U,O] at A;obtain⟨v,g1,g2,g3,g4⟩:=ih m D f.type _ x h3 A;simp only[CP.jM] at hc;obtain⟨vs,k1,k2,k3,k4⟩:=ihm ds fs (off+D.cells) cs H h4 (by simpa using hl) (by omega) (fun i f hi=>by simpa using hf (i+1) f (by simpa using hi));have e1:cs.drop off=(cs.drop off).take D.cells++cs.drop (off+D.cells):=by rw[<-fY,List.take_append_drop]
    refine⟨v :: vs,⟨v,vs,rfl,g1,k1⟩,?_,?_,by simp[jM,CP.jM,g4,k4]⟩;{rw[e1];exact g2.append k2};{rw[e1];exact g3.mH k3}
theorem au (hI:∀ b,b < w.heap.size->I b):∀ (fuel m:Nat) (D:CP) (t:je) (cs:List i8) (x:DataW zza×List MemPlace),DZ P m D t=true->DataW.trod enc P w 0 (fun _=>true) held fuel t cs=some x->RepD w I lp D cs:=by
 intro fuel;induction fuel with
 | zero=>intro m D t cs x _ h;simp[DataW.trod] at h
 | succ fuel ih =>
  intro m D t cs x hD h;cases m with
  | zero=>cases hD
  | succ m =>
   cases hu:P.underlying t with
   | none=>cases D<;>simp[DZ,hu] at hD
   | some d =>
    cases D with
    | bool =>
     cases d<;>simp[DZ,hu] at hD;obtain⟨b,rfl,_⟩:=DataW.trod_bool hu h;exact⟨.bool b,⟨b,rfl⟩,.cons _ _ _ _ (.bool b) .nil,by simp[By,Value.oneCell'],rfl⟩
    | int k =>
     cases d<;>simp[DZ,hu] at hD;subst hD;obtain⟨n,rfl,_,hw⟩:=DataW.trod_int hu h;exact⟨.int _ n,⟨n,rfl,hw⟩,.cons _ _ _ _ (.int _ n) .nil,by simp[By,Value.oneCell'],rfl⟩
    | str =>
     cases d<;>simp[DZ,hu] at hD;obtain⟨s,rfl,_,hw⟩:=DataW.trod_string hu h;obtain⟨l,rfl⟩:∃ l:ji,s=⟨l.toArray⟩:=⟨s.data.toList,by cases s;simp⟩;exact⟨.str l,⟨l,rfl,by simpa[ByteArray.size] using hw⟩,.cons _ _ _ _ (.str l) .nil,by simp[By,Value.oneCell'],rfl⟩
    | slice e =>
     cases d<;>simp[DZ,hu] at hD;rename_i et;obtain⟨⟨U,O⟩,h3⟩:=hD;rcases DataW.trod_slice hu h with ⟨rfl,_⟩ | ⟨a,len,cap,elems,rest,n,hn,rfl,_,_,hl,hm,hlen,ou,_⟩;{exact⟨.jD,.inl rfl,.cons _ _ _ _ .jD .nil,by simp[By,Value.oneCell'],rfl⟩}
     {cases hn;refine zby hI hl hm h3 fun i hi=>?_;have:=ou i hi;rw[dQ (by omega),eY,O] at this;obtain⟨cs,lY,A⟩:=this;exact⟨cs,lY,ih m e et cs _ U A⟩}
    | struct ds =>
     cases d<;>simp[DZ,hu] at hD;rename_i fields;obtain⟨U,O⟩:=hD;obtain⟨H,n,hn,_,hl,hlen,hf⟩:=DataW.trod_struct hu h;cases hn;obtain⟨vs,k1,k2,k3,k4⟩:=bk ih m ds fields.toList 0 cs H O (by simpa using hlen) (by rw[hl,U];omega) (fun i f hi=>hf i f (by simpa using hi));rw[eJ] at k2 k3;exact⟨.agg (jM vs),⟨vs,rfl,k1⟩,k2,k3,by simpa[W.cells,CP.cells] using k4⟩
variable {w':i7} {sp':Nat->Bool}
theorem pn (hk:∀ b,b < w.heap.size->w'.heap[b]?=w.heap[b]?) {a:Addr} (h:w.cell? a=some v):a.block < w.heap.size/\w'.cell? a=some v:=by obtain⟨c,E,fr,hb,hs,hv⟩:=qh h;have jP:a.block < w.heap.size:=(gJ.1 hb).1;refine⟨jP,?_⟩;unfold World.cell?;rw[hk _ jP,hb];simp[hs,hv]
theorem NZ {α β:Type} {f g:α->Option β}:∀ (l:List α) {ys:List β},l.mapM f=some ys->(∀ x∈l,∀ y,f x=some y->g x=some y)->l.mapM g=some ys
 | [],ys,h,_=>by simpa using h
 | x :: l,ys,h,hg=>by
  rw[fq] at h |-;simp only[gw,eY,gF,dL] at h |-;obtain⟨y,U,ys',O,rfl⟩:=h;exact⟨y,hg x (by simp) y U,ys',NZ l O (fun z hz=>hg z (by simp[hz])),rfl⟩
theorem rq (hk:∀ b,b < w.heap.size->w'.heap[b]?=w.heap[b]?) {a:Addr} (h:w.cells? 0 a n=some l):w'.cells? 0 a n=some l/\(0 < n->a.block < w.heap.size):=by
 refine⟨?_,fun hn=>?_⟩;{unfold World.cells? at h |-;rw[iJ (fp _)] at h |-;exact NZ _ h fun i _ v hv=>(pn hk hv).2}
 ·obtain⟨U,O⟩:=nY h;have:=O 0 hn;rw[dQ (by omega)] at this;have:=(pn hk this).1
  rwa [block_add] at this
theorem aU (ih:∀ (m:Nat) (D:CP) (t:je) (cs:List i8) (x:DataW zza×List MemPlace),DZ P m D t=true->DataW.trod enc P w 0 (fun _=>true) held n t cs=some x->DataW.trod enc P w' 0 sp' held n t cs=some x) :
  ∀ (m:Nat) (ds:List CP) (fs:List Field) (off:Nat),vO P m off ds fs=true->∀ f∈fs,∀ cs x,DataW.trod enc P w 0 (fun _=>true) held n f.type cs=some x->DataW.trod enc P w' 0 sp' held n f.type cs=some x:=by
 intro m;induction m with
 | zero=>intro ds fs off h;cases h
 | succ m ihm =>
  intro ds fs off h f hf cs x A
  match ds,fs,h with
  | [],[],_=>cases hf
  | D :: ds,g :: fs,h =>
   simp only[vO,dF,iL] at h;rcases dM.1 hf with rfl | hf;{exact ih m D _ cs x h.1.2 A};{exact ihm ds fs _ h.2 f hf cs x A}
theorem vP (hk:∀ b,b < w.heap.size->w'.heap[b]?=w.heap[b]?) (kG:∀ b,b < w.heap.size->sp' b=true):∀ (fuel m:Nat) (D:CP) (t:je) (cs:List i8) (x:DataW zza×List MemPlace),DZ P m D t=true ->
  DataW.trod enc P w 0 (fun _=>true) held fuel t cs=some x->DataW.trod enc P w' 0 sp' held fuel t cs=some x:=by
 intro fuel;induction fuel with
 | zero=>intro m D t cs x _ h;simp[DataW.trod] at h
 | succ fuel ih =>
  intro m D t cs x hD h;cases m with
  | zero=>cases hD
  | succ m =>
   cases hu:P.underlying t with
   | none=>cases D<;>simp[DZ,hu] at hD
   | some d =>
    cases D with
    | bool =>
     cases d<;>simp[DZ,hu] at hD;obtain⟨b,rfl,rfl⟩:=DataW.trod_bool hu h;simp[DataW.trod,hu]
    | int k =>
     cases d<;>simp[DZ,hu] at hD;subst hD;obtain⟨n,rfl,rfl,hw⟩:=DataW.trod_int hu h;simp[DataW.trod,hu,hw]
    | str =>
     cases d<;>simp[DZ,hu] at hD;obtain⟨s,rfl,rfl,hw⟩:=DataW.trod_string hu h;simp[DataW.trod,hu,hw]
    | slice e =>
     cases d<;>simp[DZ,hu] at hD;rename_i et;obtain⟨⟨U,O⟩,h3⟩:=hD;rcases DataW.trod_slice hu h with ⟨rfl,rfl⟩ | ⟨a,len,cap,elems,rest,n,hn,rfl,_,_,hl,hm,hlen,_,_⟩;{simp[DataW.trod,hu]}
     ·unfold DataW.trod at h |-;simp only[hu] at h |-;rw[iJ ⟨fp _,hl,hm⟩] at h |-
      have el:∀ i y,(w.cells? 0 (a.add (i*P.cellsOf et)) (P.cellsOf et)).bind (DataW.trod enc P w 0 (fun _=>true) held fuel et)=some y->(w'.cells? 0 (a.add (i*P.cellsOf et)) (P.cellsOf et)).bind (DataW.trod enc P w' 0 sp' held fuel et)=some y/\a.block < w.heap.size:=by
       intro i y hy;obtain⟨cs,lY,A⟩:=eY.1 hy;obtain⟨k1,k2⟩:=rq hk lY;refine⟨eY.2 ⟨cs,k1,ih m e et cs y U A⟩,?_⟩;have:=k2 (by omega)
       rwa [block_add] at this
      obtain⟨es,he,h⟩:=eY.1 h;refine eY.2 ⟨es,NZ _ he fun i _ y hy=>(el i y hy).1,?_⟩;obtain⟨rs,T,rfl⟩:=dG.1 h;refine dG.2 ⟨rs,?_,rfl⟩;simp only[iH] at T;cases hc:cap - len with
      | zero =>
       rw[hc] at T;simp at T;subst T;split<;>simp
      | succ q =>
       have jP:a.block < w.heap.size:=by rw[hc,List.range_succ_eq_map,fq] at T;simp only[gw,eY] at T;obtain⟨y,hy,_⟩:=T;exact (el _ y (eY.2 hy)).2
       rw[iJ (kG _ jP),<-hc];exact NZ _ T fun i _ y hy=>(el _ y hy).1
    | struct ds =>
     cases d<;>simp[DZ,hu] at hD;rename_i fields;obtain⟨U,O⟩:=hD;have key:=aU ih m ds fields.toList 0 O;unfold DataW.trod at h |-;simp only[hu] at h |-;split at h;{rename_i oP;rw[iJ oP];obtain⟨H,A,rfl⟩:=dG.1 h;exact dG.2 ⟨H,NZ _ A fun f hf y hy=>key f hf _ y hy,rfl⟩};{cases h}
def isDs (P:jd) (m:Nat):List CP->List je->Bool
 | [],[]=>true
 | D :: Ds,t :: ts=>DZ P m D t&&isDs P m Ds ts
 | _,_=>false
theorem val_rep (hI:∀ b,b < w.heap.size->I b) {D:CP} {d:DataW zza} (hD:DZ P m D t=true) (hv:Value.okWide P w .any base t v) (h:DataW.Trod enc P w 0 (fun _=>true) held t v d ps) :
  ∃ u:W,J3 D u/\AC w I lp none u v:=by
 obtain⟨fuel,h⟩:=h;obtain⟨u,U,O,h3,h4⟩:=au (lp:=lp) hI fuel m D t _ _ hD h;cases m with
 | zero=>cases hD
 | succ m =>
  cases hu:P.underlying t with
  | none=>cases D<;>simp[DZ,hu] at hD
  | some dd =>
   have one:(∀ x,v.cells.toList=[x]->v=x)->(∀ x:W,u.cells=[x]->u=x)->(∃ x,u.cells=[x])->∃ u:W,J3 D u/\AC w I lp none u v:=by intro ho hp ⟨x,A⟩;have hux:=hp x A;rw[A] at O;obtain⟨y,hy,T⟩:=repL1' O;rw[ho y hy];exact⟨u,U,by rw[hux];exact T⟩
   have sc:(∀ vs,v≠.agg vs)->∀ x,v.cells.toList=[x]->v=x:=by intro hn x A;cases v<;>first | (simp[Value.cells] at A;exact A) | exact iW rfl (hn _)
   cases D with
   | struct ds =>
    cases dd<;>simp[DZ,hu] at hD;obtain⟨cs,rfl,_⟩:=okWide_struct hu hv;obtain⟨vs,rfl,mG⟩:=U;exact⟨_,⟨vs,rfl,mG⟩,.agg _ _ h3 O⟩
   | bool =>
    cases dd<;>simp[DZ,hu] at hD;obtain⟨b,rfl⟩:=U;exact one (sc fun vs e=>by subst e;simp[Value.okWide,hu,Cell.okWide,Cell.ok] at hv) (fun x A=>by simpa[W.cells] using A) ⟨_,rfl⟩
   | int k =>
    cases dd<;>simp[DZ,hu] at hD;obtain⟨b,rfl,_⟩:=U;exact one (sc fun vs e=>by subst e;simp[Value.okWide,hu,Cell.okWide,Cell.ok] at hv) (fun x A=>by simpa[W.cells] using A) ⟨_,rfl⟩
   | str =>
    cases dd<;>simp[DZ,hu] at hD;obtain⟨b,rfl,_⟩:=U;exact one (sc fun vs e=>by subst e;simp[Value.okWide,hu,Cell.okWide,Cell.ok] at hv) (fun x A=>by simpa[W.cells] using A) ⟨_,rfl⟩
   | slice e =>
    cases dd<;>simp[DZ,hu] at hD;have hs:=sc fun vs e=>by subst e;simp[Value.okWide,hu,Cell.okWide,Cell.ok] at hv
    rcases U with rfl | ⟨H,rfl,_,_⟩;{exact one hs (fun x A=>by simpa[W.cells] using A) ⟨_,rfl⟩};{exact one hs (fun x A=>by simpa[W.cells] using A) ⟨_,rfl⟩}
theorem YG (hI:∀ b,b < w.heap.size->I b) {m base:Nat}:∀ (Ds:List CP) (ts:List je) (vs:List i8) (ds:List (DataW zza)) (p:List MemPlace),isDs P m Ds ts=true ->
  (∀ (j:Nat) t v,ts[j]?=some t->vs[j]?=some v->Value.okWide P w .any base t v)->DataW.TrodAll enc P w 0 (fun _=>true) held ts vs ds p->∃ us:jh,PO Ds us/\Av w I lp none us vs
 | [],[],vs,ds,p,_,_,h=>by
  obtain⟨rfl,rfl,rfl⟩:=trodAll_nil h;exact⟨[],rfl,.nil⟩
 | D :: Ds,t :: ts,vs,ds,p,hD,hv,h=>by
  obtain⟨v,vs,d,ds,p,q,rfl,rfl,rfl,U,O⟩:=trodAll_cons h;simp only[isDs,dF] at hD;obtain⟨u,a,b⟩:=val_rep (lp:=lp) hI hD.1 (hv 0 t v rfl rfl) U;obtain⟨us,a',b'⟩:=YG hI Ds ts vs ds q hD.2 (fun j t v ht hj=>hv (j+1) t v (by simpa using ht) (by simpa using hj)) O;exact⟨u :: us,⟨u,us,rfl,a,a'⟩,.cons _ _ _ _ b b'⟩
 | [],_ :: _,_,_,_,hD,_,_=>by cases hD
 | _ :: _,[],_,_,_,hD,_,_=>by cases hD
theorem XI (hk:∀ b,b < w.heap.size->w'.heap[b]?=w.heap[b]?) (kG:∀ b,b < w.heap.size->sp' b=true) {m:Nat}:∀ (Ds:List CP) (ts:List je) (vs:List i8) (ds:List (DataW zza)) (p:List MemPlace),isDs P m Ds ts=true ->
  DataW.TrodAll enc P w 0 (fun _=>true) held ts vs ds p->DataW.TrodAll enc P w' 0 sp' held ts vs ds p
 | [],[],vs,ds,p,_,h=>by
  obtain⟨rfl,rfl,rfl⟩:=trodAll_nil h;exact rfl
 | D :: Ds,t :: ts,vs,ds,p,hD,h=>by
  obtain⟨v,vs,d,ds,p,q,rfl,rfl,rfl,⟨fuel,U⟩,O⟩:=trodAll_cons h;simp only[isDs,dF] at hD;exact⟨p,q,⟨fuel,vP hk kG fuel m D t _ _ hD.1 U⟩,XI hk kG Ds ts vs ds q hD.2 O,rfl⟩
 | [],_ :: _,_,_,_,hD,_=>by cases hD
 | _ :: _,[],_,_,_,hD,_=>by cases hD
end
end Go.Ab


set_option maxRecDepth 20000
namespace Go.Ab.jF
open Go Go.Ab Go.Proofs
variable{args:jh} {fn:Au} {g:ja} {vs:List i8} {w:i7}
theorem sp_loc:Ra Bq:=fun g=>YN g
theorem tab_ok:Mj cx0 A9 (PN Pn Tryz.prog):=by
 intro f fn h;unfold A9 at h;split at h;·cases h;exact AL (by kernel_rfl)
 all_goals first|(cases h;done)|(cases h;exact AL (by kernel_rfl))
theorem zbz (ht:A9 g=some fn) (ha:Ap args=true) (hl:args.length<=fn.nt)
  (T:AH (AD B0 fun _=>.cl) fn .cl AI 0 (args.map KV.cv) ()=some (.bool true,())) {I:Nat->Prop} 
  (hI:∀ b,I b->b < w.heap.size) (hw:cx0.Wd I w) (jS:Av w I (fun _=>none) none args vs) :
  Calls cx0.P g vs.toArray w fun e w'=>e=.returned (.bool true)/\L5 w w':=by
 obtain⟨n,hn⟩:=cd (CD fun _=>.cl) ht ha hl T;exact tE (fn_ok sp_ok sp_loc tab_ok n) hn hI hw jS
def Told (fn:Au) (Ds:List CP):Prop:=∀ us,PO Ds us->Ap us=true/\us.length<=fn.nt/\AH (AD B0 fun _=>.cl) fn .cl AI 0 (us.map KV.cv) ()=some (.bool true,())
end Go.Ab.jF


namespace Go.Ab.jF
open Go Go.Ab
variable{n:Int} {v:W}
def arrD:CP:=.struct [.bool,.bool,.slice (.int .i64)]
theorem wf_in (h:(Lit.int .i64 n).wf=true):Ar.ku n:=by unfold Lit.wf at h;rw[dF,iK,iK] at h;exact h
theorem Zc:∀ (H:jh),(∀ x∈H,J3 (.int .i64) x)->∃ l,H=An l/\∀ n∈l,Ar.ku n
 | [],_=>⟨[],rfl,by simp⟩
 | x :: H,h=>by
  obtain⟨n,rfl,hn⟩:=h x d7;obtain⟨l,rfl,hl⟩:=Zc H fun y hy=>h y (dZ _ hy)
  exact⟨n :: l,rfl,fun m hm=>by
   rcases dM.1 hm with rfl | hm;·exact wf_in hn
   ·exact hl m hm⟩
theorem arr_in (h:J3 arrD v):∃ a,Az v a/\a.inr:=by
 obtain⟨vs,rfl,b,r,rfl,⟨b,rfl⟩,c,r,rfl,⟨c,rfl⟩,x,r,rfl,A,rfl⟩:=h
 have key:∃ l,Bh x l/\x.cells=[x]/\∀ n∈l,Ar.ku n:=by
  rcases A with rfl | ⟨H,rfl,_,A⟩;{exact⟨[],.nil,rfl,by simp⟩}
  {obtain⟨l,rfl,hl⟩:=Zc H A;exact⟨l,.sl l false,rfl,hl⟩}
 obtain⟨l,U,O,h3⟩:=key;refine⟨⟨b,c,l⟩,?_,h3⟩;rw[show jM [W.bool b,W.bool c,x]=[.bool b,.bool c,x] by simp only[jM,O];rfl];exact .mk _ _ _ _ U
theorem ZF:Told fn3 [.str,arrD]:=by rintro us ⟨_,_,rfl,⟨s,rfl,_⟩,_,_,rfl,ha,rfl⟩;obtain⟨a,ha,ia⟩:=arr_in ha;exact⟨by simp[Ap,jN,ha.ok],dS rfl,Ar.pH s ha ia⟩
end Go.Ab.jF


namespace Go.Ab.jF
open Go Go.Ab Go.Proofs Go.Proofs.YthakoglihciegaaGreatDoor Go.ChangeShapes Go.WideShapes Go.RowKit
variable{zza:Type} {C:Checked} {zzd:i7} {X:i7->Array i8->Prop} {b g:Nat} {conds:List PathCond} {cs:Array i8} {f:ja} {fn:Func} {n:String} {o:Obj} {os:Os} {s:ChangeSpec} {enc:je×i8->zza}
theorem p_own:ownKnob Tryz.prog.godebug=none:=by kernel_rfl
theorem p_et:Tryz.prog.globalNamed "errors.errorType"=some 0:=by kernel_rfl
theorem p_p:Tryz.prog.globalNamed "internal/strconv.uint64pow10"=some 4:=by kernel_rfl
theorem p_pt:(Tryz.prog.globals[4]?).map (·.type)=some 222:=by kernel_rfl
theorem p_rt:(Tryz.prog.cutTypes.find? (·.1 == "internal/reflectlite.rtype")).map (·.2)=some 138:=by kernel_rfl
theorem zbA:((List.range 291).filter fun t=>Tryz.prog.rowNamed t [101,114,114,111,114])=[49]:=by kernel_rfl
theorem p_size:Tryz.prog.types.size=291:=by kernel_rfl
theorem p_cS:Tryz.prog.cellsOf 279=1:=by kernel_rfl
theorem p_cs:Tryz.prog.cellsOf 9=1:=by kernel_rfl
theorem zbB : "*" ++ "errors.errorString" = "*errors.errorString":=by decide
theorem p_row (u:je) (h:Tryz.prog.typeName? 3 u=some "*errors.errorString"):u=260 :=
 typeName_ptr_named (nm:= "errors.errorString") (by rw[zbB];kernel_rfl) (by kernel_rfl) (by decide) u (by rw[zbB];exact h)
theorem S4 (hg:Tryz.prog.globalNamed n=some g) (h:zzd.var? Tryz.prog n=some cs):∃ E fr,zzd.heap[g]?=some (.cells cs E fr):=by unfold World.var? at h;rw[hg] at h;simp only[gK] at h;split at h;{rename_i mn E fr hh;cases h;exact⟨E,fr,hh⟩};{cases h}
theorem OW (h:zzd.heap[b]?=some o):b < zzd.heap.size:=(gJ.1 h).1
theorem p_e0:Tryz.prog.globalNamed "diaeresis/number.errOver"=some 5:=by kernel_rfl
theorem p_t0:(Tryz.prog.globals[5]?).map (·.type)=some 49:=by kernel_rfl
theorem p_e1:Tryz.prog.globalNamed "diaeresis/number.errDivide"=some 6:=by kernel_rfl
theorem p_t1:(Tryz.prog.globals[6]?).map (·.type)=some 49:=by kernel_rfl
set_option maxRecDepth 100000 in
theorem be (lP:zzd.ShapedOpen Tryz.prog) (h:laidMetH Tryz.prog Rows.deriveOperatorsRow.laid zzd):cx0.Wd (fun b=>b < zzd.heap.size) zzd:=by
 have h':handlesMet Tryz.prog [("errors.errorType",Rows.laid_errors_errorType)] zzd:=h.2;have hd:laidMet Tryz.prog [("math/bits.deBruijn32tab",Rows.laid_math_bits_deBruijn32tab),("math/bits.deBruijn64tab",Rows.laid_math_bits_deBruijn64tab),("internal/strconv.uint64pow10",Rows.laid_internal_strconv_uint64pow10),("unicode/utf8.acceptRanges",Rows.laid_unicode_utf8_acceptRanges),("diaeresis/number.errOver",Rows.laid_diaeresis_number_errOver),("diaeresis/number.errDivide",Rows.laid_diaeresis_number_errDivide),("unicode/utf8.first",Rows.laid_unicode_utf8_first)] zzd:=h.1;have hs:=hd.filter fun x=>x.1 == "diaeresis/number.errOver"||x.1 == "diaeresis/number.errDivide"
 have hp:=hd.filter fun x=>x.1 == "internal/strconv.uint64pow10";have hs:laidMet Tryz.prog [("diaeresis/number.errOver",Rows.laid_diaeresis_number_errOver),("diaeresis/number.errDivide",Rows.laid_diaeresis_number_errDivide)] zzd:=hs;have hp:laidMet Tryz.prog [("internal/strconv.uint64pow10",Lib.tabData .u64 Lib.pow10Tab)] zzd:=hp;obtain⟨name,u,ty,e1,e2,e3,e4,e5⟩:=h' _ (ep.2 rfl);have en:name=[101,114,114,111,114]:=(fy e1).symm;subst en;obtain rfl:=fy (p_rt.symm.trans e2);have hm:ty∈(List.range 291).filter fun t=>Tryz.prog.rowNamed t [101,114,114,111,114]:=fX.2 ⟨fI.2 (by rw[<-p_size];exact e3),e4⟩;rw[zbA] at hm;obtain rfl:=ep.1 hm;have hh:typeHandle Tryz.prog 49=.pointer (some ⟨9,49,none⟩):=by kernel_rfl
 rw[hh] at e5;have h0:zzd.cell? ⟨0,0,none⟩=some et0:=by simpa[et0] using World.var?_cell p_et e5 0
 have i0:0 < zzd.heap.size:=by rcases Nat.lt_or_ge 0 zzd.heap.size with h | h;{exact h};{simp[World.cell?,iq h] at h0}
 have hpw:Lib.TabIs Tryz.prog zzd "internal/strconv.uint64pow10" .u64 Lib.pow10Tab:=Lib.tabIs_of_head p_p p_pt Tryz.underlying222 Tryz.underlying183 (by kernel_rfl) (by kernel_rfl) hp;obtain⟨E3,f3,r3⟩:=S4 p_p hpw;obtain⟨a0,a1,s0,s1,c0,c1,t0,t1,hv0,hv1,hc0,hs0,hz0,ry,nj,sf,jW,hb0,hb1⟩:=laid_sentinels2 hs p_e0 p_t0 p_e1 p_t1 Tryz.underlying49 p_row Tryz.underlying260 Tryz.underlying279 rfl rfl Tryz.underlying9 p_cS p_cs;obtain⟨E1,f1,r1⟩:=S4 p_e0 hv0;obtain⟨E2,f2,r2⟩:=S4 p_e1 hv1;have rH:∃ m,zzd.cell? ⟨1,0,none⟩=some (.int .i64 m):=cell_of_shapedOpen_int lP (g:=1) (t:=3) (zero:=#[.int .i64 0]) (iY (by kernel_rfl)) (by kernel_rfl) rfl (by kernel_rfl) (by kernel_rfl) Tryz.underlying3
 exact⟨⟨fun g=>if g=5 then a0 else a1,fun g hg=>by
   rcases dM.1 hg with rfl | hg;·exact⟨OW r1,OW hb0,⟨E1,f1,r1⟩,c0,t0,hb0⟩
   ·obtain rfl:=ep.1 hg;exact⟨OW r2,OW hb1,⟨E2,f2,r2⟩,c1,t1,hb1⟩,fun g hg g' vY hn=>by
   simp only[dM,List.not_mem_nil,or_false] at hg vY;rcases hg with rfl | rfl<;>rcases vY with rfl | rfl;·exact iW rfl hn
   ·exact jW
   ·exact jW.symm
   ·exact iW rfl hn⟩,fun p hp=>(by
  obtain rfl:=ep.1 hp;exact⟨i0,h0⟩),fun p hp=>by
  obtain rfl:=ep.1 hp;exact⟨OW r3,E3,f3,r3⟩,fun g hg=>by
  obtain rfl:=ep.1 hg;refine⟨?_,rH⟩;obtain⟨m,hm⟩:=rH;rcases Nat.lt_or_ge 1 zzd.heap.size with h | h;·exact h
  ·simp[World.cell?,iq h] at hm⟩
theorem ZA {apart fresh handsOn again:Bool} 
  (hX:∀ (w w':i7) (args:Array i8),w.heap=w'.heap->X w args->X w' args)
  (own:ownKnob C.prog.godebug=none) (started:os.Started) (noInit:C.prog.inits.idxOf? f=none) (oT:C.prog.funcs[f]?=some fn)
  (witness:∃ (w:i7) (tape:Tape) (i:Input),w.os=os/\(w.forCall tape i).Shaped C.prog/\i.vars=[]/\Input.okWide C.prog (w.forCall tape i) .any w.heap.size f i /\
   ((s.pre enc C.prog fn conds apart (w.forCall tape i).memory i.args/\X (w.forCall tape i).memory i.args)/\sizedMet enc C.prog fn (OpenSpec.ofChange s) apart (w.forCall tape i).memory i.args)/\({}:Assume).holds C.prog (lone (Frame.enter C.prog f i.args .normal) [] (w.forCall tape i)))
  (zbC:∀ (zzd:i7) (base:Nat) (args:Array i8) (ds gs:List (DataW zza)) (before:List MemPlace),
   (∀ (j:Nat) t v,fn.params[j]?=some t->args[j]?=some v->Value.okWide C.prog zzd .any base t v) ->
   DataW.Whole enc C.prog fn.params.toList s.vars apart zzd args.toList ds gs before->X zzd args->zzd.ShapedOpen C.prog ->
   Calls C.prog f args zzd fun e W'=>∃ v,e=.returned v/\s.post enc C.prog fn apart fresh handsOn again zzd args v W') :
  ReturnsInHanded {} C os f .any (fun w args=>(s.pre enc C.prog fn conds apart w args/\X w args)/\sizedMet enc C.prog fn (OpenSpec.ofChange s) apart w args) (s.post enc C.prog fn apart fresh handsOn again):=by
 refine returnsInHanded_of_calls own started noInit witness ?_;intro w tape i _ lP _ ln hpre _;obtain⟨_,_,_,fn',hfn',_,_,_,_,n7⟩:=ln;have e:fn'=fn:=fy (hfn'.symm.trans oT);subst e;obtain⟨⟨⟨ds,gs,before,hw,hc⟩,A⟩,hz⟩:=hpre;have hw':=DataW.Whole.of_heap (w':=w.forCall tape i) (by rfl) hw;refine (zbC (w.forCall tape i) w.heap.size i.args ds gs before n7 hw' (hX _ _ _ (by rfl) A) lP).mono fun e W' ⟨v,he,hp⟩=>?_;subst he;exact ChangeSpec.post_blind hp
mutual
def XQ:DataW Unit->List i8
 | .lit (.int k n)=>[.int k n]
 | .agg ds=>WR ds
 | _=>[]
def WR:List (DataW Unit)->List i8
 | []=>[]
 | d :: ds=>XQ d++WR ds
end
def zbD:DataW Unit->ByteArray
 | .iface _ (.ptr (.agg [.lit (.string s)]))=>⟨s.toArray⟩
 | _=>⟨#[]⟩
def Pg (h:Array Obj) (i:Nat) (d:DataW Unit):Array Obj:=h.modify i fun
 | .cells _ t frozen=>.cells (XQ d).toArray t frozen
 | o=>o
def Us (h:Array Obj) (i:Nat) (v:i8):Array Obj:=h.modify i fun
 | .cells _ t frozen=>.cells #[v] t frozen
 | o=>o
noncomputable def low:Nat:=(World.holding Tryz.prog default ⟨#[],#[],[]⟩).heap.size
noncomputable def Xg (os:Os):i7 :=
 let w0:=World.holding Tryz.prog os ⟨#[.cells #[.string (zbD Rows.laid_diaeresis_number_errOver)] 279,.cells #[.string (zbD Rows.laid_diaeresis_number_errDivide)] 279],#[],[]⟩
 let h0:=Us w0.heap 0 (.iface 138 (.agg #[.pointer (some ⟨9,49,none⟩)]))
 let U:=Us (Us (h0) 5 (.iface 260 (.pointer (some ⟨low+0,0,none⟩)))) 6 (.iface 260 (.pointer (some ⟨low+1,0,none⟩)))
 {w0 with heap:=Pg (Pg (Pg (Pg (Pg (U) 7 Rows.laid_math_bits_deBruijn32tab) 8 Rows.laid_math_bits_deBruijn64tab) 4 Rows.laid_internal_strconv_uint64pow10) 3 Rows.laid_unicode_utf8_acceptRanges) 2 Rows.laid_unicode_utf8_first}
theorem ZP (os:Os) (args:Array i8):laidMetH Tryz.prog Rows.deriveOperatorsRow.laid ((Xg os).forCall (fun _ _=>0) ⟨#[],args,[]⟩).memory :=
 laidMetH_of_parts (laidMet_of_run' 8 (by kernel_rfl) (by kernel_rfl)) (by kernel_rfl)
set_option maxRecDepth 100000
theorem C7 {a b:Bool} (ha:a=true) (hb:b=true):(a&&b)=true:=by rw[ha,hb];rfl
theorem jp_1:(laidOutB Tryz.prog)=true:=by kernel_rfl
theorem jp_2:(mapsRowed Tryz.prog)=true:=by kernel_rfl
theorem jp_6:((Tryz.prog.stops==[]))=true:=by kernel_rfl
theorem jp_8:((Tryz.prog.stopKnobs==[]))=true:=by kernel_rfl
theorem jp_24:(Tryz.prog.stopsHeard)=true:=by kernel_rfl
theorem jp_25:(Tryz.prog.mayEnter)=true:=by kernel_rfl
end Go.Ab.jF

