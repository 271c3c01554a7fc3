/- Part 6 of a proof: laws of a machine. -/
import Derived.Test.YtpkicjjenbdejaaGreatDoorK05
import Derived.Test.YtpkicjjenbdejaaGreatDoorK03
import Derived.ChangeArms
import Derived.ChangeSlices
import Derived.ChangeMaps5
import Derived.JoinedOf
import Derived.RowKit
set_option linter.all false

namespace Go.Ab.fC
open Go Go.Ab Go.Proofs
def et0:eT:=.iface 139 (.agg #[.pointer (some ⟨23,37,none⟩)])
def tabs0:List (Nat×Array eT):=[(4,(Lib.pow10Tab.map fun z=>Value.int .u64 z).toArray)]
noncomputable def cx0:Cx:=HI Tryz.prog (by kernel_rfl) [0,1,2,5,10,13,15,18,19,20,21,22] 489 [(3,et0)] tabs0 [17]
theorem r7:Bn Tryz.prog 295:=⟨_,Tryz.func295,by rfl,by rfl⟩
theorem r8:Bn Tryz.prog 177:=⟨_,Tryz.func177,by rfl,by rfl⟩
theorem yq:Bn Tryz.prog 91:=⟨_,Tryz.func91,by rfl,by rfl⟩
theorem yr:Bn Tryz.prog 13:=⟨_,Tryz.func13,by rfl,by rfl⟩
theorem r9:Bn Tryz.prog 123:=⟨_,Tryz.func123,by rfl,by rfl⟩
theorem yu:Bn Tryz.prog 75:=⟨_,Tryz.func75,by rfl,by rfl⟩
theorem yw:Bn Tryz.prog 23:=⟨_,Tryz.func23,by rfl,by rfl⟩
theorem sd:Bn Tryz.prog 238:=⟨_,Tryz.func238,by rfl,by rfl⟩
theorem se:Bn Tryz.prog 285:=⟨_,Tryz.func285,by rfl,by rfl⟩
theorem yx:Bn Tryz.prog 84:=⟨_,Tryz.func84,by rfl,by rfl⟩
theorem yy:Bn Tryz.prog 96:=⟨_,Tryz.func96,by rfl,by rfl⟩
theorem yz:Bn Tryz.prog 50:=⟨_,Tryz.func50,by rfl,by rfl⟩
theorem sf:Bn Tryz.prog 503:=⟨_,Tryz.func503,by rfl,by rfl⟩
theorem sg:Bn Tryz.prog 504:=⟨_,Tryz.func504,by rfl,by rfl⟩
theorem si:Bn Tryz.prog 144:=⟨_,Tryz.func144,by rfl,by rfl⟩
theorem sj:Bn Tryz.prog 175:=⟨_,Tryz.func175,by rfl,by rfl⟩
theorem yA:wN Tryz.prog 123 75 158 5 where
 pK:=r9
 pL:=yu
 nzT:=by decide
 nzU:=by decide
 used:=Go.Proofs.rW.pb
 fresh b w h0 U O:=Go.Proofs.rW.oA b w h0 U O
 wO b p w h:=Go.Proofs.rW.pc b p w h
 pM b g cap p cur l w U O h3 h4 h5 h6 h7:=Go.Proofs.rW.oB b g cap p cur l w U O h3 h4 h5 h6 h7
theorem as2_ok:As2OK Tryz.prog 50 3 et0 ps0 where
 enters:=yz
 none:=Go.Proofs.pd.as_nil
 hit p t h v n1 n2 hv U O b o1 o2 E w hg hb:=by
  simp only[ps0,List.lookup] at h;split at h
  ·rename_i hp;obtain rfl:p=124:=by simpa using hp
   cases h;exact Go.Proofs.pd.pk v n1 n2 hv U O b o1 o2 E w hg hb
  ·split at h
   ·rename_i hp;obtain rfl:p=125:=by simpa using hp
    cases h;exact Go.Proofs.yp.pk v n1 n2 hv U O b o1 o2 E w hg hb
   {cases h}
theorem is_ok:IsOK Tryz.prog 23 489 [] where
 enters:=yw
 none a w:=Go.Proofs.ow.is_nil a w
 same a w:=Go.Proofs.ow.is_same a w
 other a b ca cb ta tb w h U O:=Go.Proofs.ow.yf a b ca cb ta tb w h U O
 type s hs v b w:=by simp only[bE,eC,or_false] at hs
theorem isw_ok:IsWOK Tryz.prog 23 489 [85] where
 plain:=is_ok
 same s hs n a w:=by
  obtain rfl:s=85:=by simpa using hs
  exact Go.Proofs.pN.nK n a w
 other s hs n a b ca cb ta tb w h U O:=by
  obtain rfl:s=85:=by simpa using hs
  exact Go.Proofs.pN.mW n a b ca cb ta tb w h U O
 none s hs n b w:=by
  obtain rfl:s=85:=by simpa using hs
  exact Go.Proofs.pN.nL n b w
theorem sp_ok:SpOK cx0 Ay:=by intro g V A out h;unfold Ay at h;by_cases hg:g=295;{rw[eH hg] at h;subst hg;exact .inr (idx_at r7 Go.Proofs.kI.rX h)};rw[eG hg] at h;clear hg;by_cases hg:g=177;{rw[eH hg] at h;subst hg;exact .inr (repl_at r8 (gm:=17) (by decide) (fun s lu new n m w hs hm U hl=>Go.Proofs.kI.yj s lu new n m w hs hm U hl) h)};rw[eG hg] at h;clear hg;by_cases hg:g=91;{rw[eH hg] at h;subst hg;exact .inr (fmt_at yq (gt:=4) (cc.2 rfl) (by kernel_rfl) (fun n h0 U w ht=>Go.Proofs.kI.fmt_run n h0 U w ht) h)};rw[eG hg] at h;clear hg;by_cases hg:g=13;{rw[eH hg] at h;subst hg;exact .inr (itoa_at yr (gt:=4) (cc.2 rfl) (by kernel_rfl) (fun n h0 U w ht=>Go.Proofs.kI.yk n h0 U w ht) h)};rw[eG hg] at h;clear hg;by_cases hg:g=123;{rw[eH hg] at h;subst hg;exact .inr (wP yA h)};rw[eG hg] at h;clear hg;by_cases hg:g=75;{rw[eH hg] at h;subst hg;exact .inr (str_at yA h)};rw[eG hg] at h;clear hg;by_cases hg:g=23;{rw[eH hg] at h;subst hg;exact .inr (isw_at isw_ok h)};rw[eG hg] at h;clear hg;by_cases hg:g=238;{rw[eH hg] at h;subst hg;exact .inr (rV (gm:=17) (by decide) sd Go.Proofs.rW.count_one (fun s sub m w hs hm O=>Go.Proofs.kI.rY s sub m w hs hm O) h)};rw[eG hg] at h;clear hg;by_cases hg:g=285;{rw[eH hg] at h;subst hg;exact .inr (rU (gm:=17) (by decide) se (fun s sub m w hs hm=>Go.Proofs.kI.idx_run s sub m w hs hm) h)};rw[eG hg] at h;clear hg;by_cases hg:g=84;{rw[eH hg] at h;subst hg;exact .inr (int_at (ge:=13) (by decide) yx Go.Proofs.kI.yn Go.Proofs.kI.int_ok h)};rw[eG hg] at h;clear hg;by_cases hg:g=96;{rw[eH hg] at h;subst hg;exact .inr (yd yy Go.Proofs.AbUG.r5 (fun m w h0 hm=>Go.Proofs.AbUG.r6 m w h0 hm) h)};rw[eG hg] at h;clear hg;by_cases hg:g=50;{rw[eH hg] at h;subst hg;exact .inr (as2_at (cc.2 rfl) as2_ok h)};rw[eG hg] at h;clear hg;by_cases hg:g=448;{rw[eH hg] at h;subst hg;exact .inl (Xt Go.Proofs.lW.load h)};rw[eG hg] at h;clear hg;by_cases hg:g=505;{rw[eH hg] at h;subst hg;exact .inl (V8 Go.Proofs.lW.store h)};rw[eG hg] at h;clear hg;by_cases hg:g=503;{rw[eH hg] at h;subst hg;exact .inr (X5 sf Go.Proofs.lW.lock h)};rw[eG hg] at h;clear hg;by_cases hg:g=504;{rw[eH hg] at h;subst hg;exact .inr (X5 sg Go.Proofs.lW.unlock h)};rw[eG hg] at h;clear hg;by_cases hg:g=323;{rw[eH hg] at h;subst hg;exact .inl (add_ret Go.Proofs.lW.add h)};rw[eG hg] at h;clear hg;by_cases hg:g=282;{rw[eH hg] at h;subst hg;exact .inl (Xt Go.Proofs.lW.load64 h)};rw[eG hg] at h;clear hg;by_cases hg:g=277;{rw[eH hg] at h;subst hg;exact .inl (V8 Go.Proofs.lW.store64 h)};rw[eG hg] at h;clear hg;by_cases hg:g=144;{rw[eH hg] at h;subst hg;exact .inr (join_at si Go.Proofs.kI.ym h)};rw[eG hg] at h;clear hg;by_cases hg:g=175;{rw[eH hg] at h;subst hg;exact .inr (rS sj Go.Proofs.AbUC.rZ h)};rw[eG hg] at h;clear hg;cases h
end Go.Ab.fC


namespace Go.Ab
open Go Go.ChangeShapes Go.WideShapes Go.RowKit
variable{L:fm} {a:PV} {base m n:Nat} {l us:List eT} {ps:List MemPlace} {v:eT}
inductive BM where
 | bool
 | int (k:eW)
 | str
 | slice (e:BM)
 | struct (fs:List BM)
mutual
def BM.cells:BM->Nat
 | .struct fs=>BM.fL fs
 | .bool | .int _ | .str | .slice _=>1
def BM.fL:List BM->Nat
 | []=>0
 | d :: ds=>d.cells+BM.fL ds
end
mutual
def Cr (P:eX):Nat->BM->eY->Bool
 | 0,_,_=>false
 | n+1,D,t=>match D,P.underlying t with
  | .bool,some .bool=>true
  | .int k,some (.int k')=>k'==k
  | .str,some .string=>true
  | .slice e,some (.slice et)=>Cr P n e et&&P.cellsOf et==e.cells&&decide (0 < e.cells)
  | .struct fs,some (.struct fields)=>P.cellsOf t==BM.fL fs&&sn P n 0 fs fields.toList
  | _,_=>false
def sn (P:eX):Nat->Nat->List BM->List Field->Bool
 | 0,_,_,_=>false
 | _+1,_,[],[]=>true
 | n+1,off,D :: ds,f :: fs=>f.offset==off&&P.cellsOf f.type==D.cells&&Cr P n D f.type&&sn P n (off+D.cells) ds fs
 | _+1,_,_,_=>false
end
mutual
def Kx:BM->PV->Prop
 | .bool,v=>∃ b,v=.bool b
 | .int k,v=>∃ n,v=.int k n/\(Lit.int k n).wf=true
 | .str,v=>∃ s,v=.str s/\s.length<=maxLen
 | .slice e,v=>v=.fF\/∃ Z,v=.sl e.cells Z false/\Z.length<=maxLen/\∀ x∈Z,Kx e x
 | .struct fs,v=>∃ A,v=.agg (fL A)/\Oa fs A
def Oa:List BM->fa->Prop
 | [],A=>A=[]
 | D :: fs,A=>∃ v r,A=v :: r/\Kx D v/\Oa fs r
end
theorem repL1' {w:eS} {I:Nat->Prop} {lp:Nat->fb} (h:Ae w I lp L [a] us):∃ u,us=[u]/\Aj w I lp L a u:=by
 obtain⟨u,r,U,rfl,O⟩:∃ u r,Aj w I lp L a u/\us=u :: r/\Ae w I lp L [] r:=by cases h;exact⟨_,_,by assumption,rfl,by assumption⟩
 cases O;exact⟨u,rfl,U⟩
section
variable {zzd:Type} {enc:eY×eT->zzd} {P:eX} {w:eS} {I:Nat->Prop} {lp:Nat->fb} {held:Bool} {sp:Nat->Bool}
def RepD (w:eS) (I:Nat->Prop) (lp:Nat->fb) (D:BM) (cs:List eT):Prop:=∃ v:PV,Kx D v/\Ae w I lp none v.cells cs/\A1 cs/\v.cells.length=D.cells
theorem kU {a:Addr} (h:w.cells? base a n=some l):l.length=n/\∀ i,i < n->w.cell? (a.add i)=l[i]?:=by obtain⟨_,U,O⟩:=World.cells?_some h;exact⟨U,fun i hi=>by rw[O i hi]⟩
theorem ng {a:Addr} (h:w.cell? a=some v):∃ c E fr,w.heap[a.block]?=some (.cells c E fr)/\a.spot=none/\c[a.off]?=some v:=by
 unfold World.cell? at h;split at h
 ·rename_i c E fr hb;split at h;·cases h
  {rename_i hs;exact⟨c,E,fr,hb,by simpa using hs,h⟩}
 {cases h}
theorem X0 (a:Addr) (h:a.spot=none) (i:Nat):a.add i=⟨a.block,a.off+i,none⟩:=by unfold Addr.add;split;{rename_i hi;subst hi;cases a;simp_all};{rfl}
theorem yB {e:BM} (hI:∀ b,b < w.heap.size->I b) {a:Addr} {len cap:Nat} (lC:len<=cap) (hcm:cap<=maxLen) (pY:0 < e.cells)
  (lz:∀ i,i < len->∃ cs,w.cells? 0 (a.add (i*e.cells)) e.cells=some cs/\RepD w I lp e cs):RepD w I lp (.slice e) [.slice (some a) len cap]:=by
 by_cases h0:len=0;{subst h0;exact⟨.sl e.cells [] false,.inr ⟨[],rfl,cX _,fun x H=>by cases H⟩,.cons _ _ _ _ (.lx _ _ _ _ fun h=>by cases h) .nil,by simp[A1,Value.oneCell'],rfl⟩}
 ·obtain⟨cs0,hcs0,_⟩:=lz 0 (by omega);obtain⟨lQ,hg0⟩:=kU hcs0;have hf:=hg0 0 pY;rw[Nat.zero_mul] at hf;have e0:(a.add 0).add 0=a:=by simp[Addr.add]
  rw[e0,bQ (by omega)] at hf;obtain⟨c,E,fr,hb,hs,_⟩:=ng hf;have hblt:a.block < w.heap.size:=(dL.1 hb).1
  have each:∀ i,i < len->∃ v:PV,Kx e v/\v.cells.length=e.cells/\(a.off+i*e.cells)+e.cells<=c.size/\A1 ((c.toList.drop (a.off+i*e.cells)).take e.cells)/\Ae w I lp none v.cells ((c.toList.drop (a.off+i*e.cells)).take e.cells):=by
   intro i hi;obtain⟨cs,iZ,v,U,O,h3,h4⟩:=lz i hi;obtain⟨hl,hg⟩:=kU iZ;have key:∀ j,j < e.cells->c[a.off+i*e.cells+j]?=cs[j]?:=by intro j hj;have:=hg j hj;rw[X0 a hs,X0 _ rfl,M4 hb] at this;exact this
   have iQ:a.off+i*e.cells+e.cells<=c.size:=by have:=key (e.cells - 1) (by omega);rw[bQ (by omega)] at this;have:=(dL.1 this).1;omega
   have e1:(c.toList.drop (a.off+i*e.cells)).take e.cells=cs:=by apply cj;intro j;by_cases hj:j < e.cells;{rw[dm hj,dF,<-key j hj];simp};{rw[cg (by simp;omega),cg (by omega)]}
   exact⟨v,U,h4,iQ,by rw[e1];exact h3,by rw[e1];exact O⟩
  have all:∀ n,n<=len->∃ Z:fa,Z.length=n/\(∀ x∈Z,Kx e x)/\(∀ x∈Z,x.cells.length=e.cells)/\a.off+n*e.cells<=c.size/\A1 ((c.toList.drop a.off).take (n*e.cells))/\Ae w I lp none (fL Z) ((c.toList.drop a.off).take (n*e.cells)):=by
   intro n;induction n with
   | zero =>
    intro _;refine⟨[],rfl,by simp,by simp,?_,by simp[A1],by simp;exact .nil⟩;obtain⟨_,_,_,h,_⟩:=each 0 (by omega);omega
   | succ n ih =>
    intro hn;obtain⟨Z,U,O,h3,h4,h5,h6⟩:=ih (by omega);obtain⟨v,g1,g2,g3,g4,g5⟩:=each n (by omega);have e2:(c.toList.drop a.off).take ((n+1)*e.cells)=(c.toList.drop a.off).take (n*e.cells)++(c.toList.drop (a.off+n*e.cells)).take e.cells:=by rw[bU,de,List.take_add,dk]
    refine⟨Z++[v],by simp[U],?_,?_,by rw[bU];omega,?_,?_⟩;{intro x H;rcases bS.1 H with H | H;{exact O x H};{simp at H;subst H;exact g1}};{intro x H;rcases bS.1 H with H | H;{exact h3 x H};{simp at H;subst H;exact g2}};{rw[e2];exact h5.jW g4};{rw[e2,JH];refine h6.append ?_;simpa[fL] using g5}
  obtain⟨Z,U,O,h3,h4,h5,h6⟩:=all len (bD _);have ea:a=⟨a.block,a.off,none⟩:=by cases a;simp_all
  refine⟨.sl e.cells Z false,.inr ⟨Z,rfl,by omega,O⟩,?_,by simp[A1,Value.oneCell'],rfl⟩;rw[ea,<-U];exact .cons _ _ _ _ (.sl e.cells Z false a.block a.off cap c E fr (hI _ hblt) hb (by rw[U];exact h4) h3 (by omega) (fun h=>by cases h) (by rw[U];exact h5) (by rw[U];exact h6)) .nil
theorem Z6 (ih:∀ (m:Nat) (D:BM) (t:eY) (cs:List eT) (x:DataW zzd×List MemPlace),Cr P m D t=true->DataW.trod enc P w 0 (fun _=>true) held n t cs=some x->RepD w I lp D cs) :
  ∀ (m:Nat) (ds:List BM) (fs:List Field) (off:Nat) (cs:List eT) (Z:List (DataW zzd×List MemPlace)),sn P m off ds fs=true->Z.length=fs.length->cs.length=off+BM.fL ds ->
  (∀ (i:Nat) (f:Field),fs[i]?=some f->DataW.trod enc P w 0 (fun _=>true) held n f.type ((cs.drop f.offset).take (P.cellsOf f.type))=Z[i]?) ->
  ∃ A:fa,Oa ds A/\Ae w I lp none (fL A) (cs.drop off)/\A1 (cs.drop off)/\(fL A).length=BM.fL ds:=by
 intro m;induction m with
 | zero=>intro ds fs off cs Z h;cases h
 | succ m ihm =>
  intro ds fs off cs Z h hl hc hf
  match ds,fs,h with
  | [],[],_ =>
   refine⟨[],rfl,?_,?_,rfl⟩;{rw[dP (by simp[BM.fL] at hc;omega)];exact .nil};{rw[dP (by simp[BM.fL] at hc;omega)];simp[A1]}
  | D :: ds,f :: fs,h =>
   simp only[sn,bz,eJ] at h;obtain⟨⟨⟨U,O⟩,h3⟩,h4⟩:=h
   match Z,hl with
   | x :: Z,hl =>
    have H:=hf 0 f rfl;rw[U,O] at H;obtain⟨v,g1,g2,g3,g4⟩:=ih m D f.type _ x h3 H;simp only[BM.fL] at hc;obtain⟨A,k1,k2,k3,k4⟩:=ihm ds fs (off+D.cells) cs Z h4 (by simpa using hl) (by omega) (fun i f hi=>by simpa using hf (i+1) f (by simpa using hi));have e1:cs.drop off=(cs.drop off).take D.cells++cs.drop (off+D.cells):=by rw[<-dk,List.take_append_drop]
    refine⟨v :: A,⟨v,A,rfl,g1,k1⟩,?_,?_,by simp[fL,BM.fL,g4,k4]⟩;{rw[e1];exact g2.append k2};{rw[e1];exact g3.jW k3}
theorem Zw (hI:∀ b,b < w.heap.size->I b):∀ (fuel m:Nat) (D:BM) (t:eY) (cs:List eT) (x:DataW zzd×List MemPlace),Cr P m D t=true->DataW.trod enc P w 0 (fun _=>true) held fuel t cs=some x->RepD w I lp D cs:=by
 intro fuel;induction fuel with
 | zero=>intro m D t cs x _ h;simp[DataW.trod] at h
 | succ fuel ih =>
  intro m D t cs x hD h;cases m with
  | zero=>cases hD
  | succ m =>
   cases hu:P.underlying t with
   | none=>cases D<;>simp[Cr,hu] at hD
   | some d =>
    cases D with
    | bool =>
     cases d<;>simp[Cr,hu] at hD;obtain⟨b,rfl,_⟩:=DataW.trod_bool hu h;exact⟨.bool b,⟨b,rfl⟩,.cons _ _ _ _ (.bool b) .nil,by simp[A1,Value.oneCell'],rfl⟩
    | int k =>
     cases d<;>simp[Cr,hu] at hD;subst hD;obtain⟨n,rfl,_,hw⟩:=DataW.trod_int hu h;exact⟨.int _ n,⟨n,rfl,hw⟩,.cons _ _ _ _ (.int _ n) .nil,by simp[A1,Value.oneCell'],rfl⟩
    | str =>
     cases d<;>simp[Cr,hu] at hD;obtain⟨s,rfl,_,hw⟩:=DataW.trod_string hu h;obtain⟨l,rfl⟩:∃ l:fp,s=⟨l.toArray⟩:=⟨s.data.toList,by cases s;simp⟩;exact⟨.str l,⟨l,rfl,by simpa[ByteArray.size] using hw⟩,.cons _ _ _ _ (.str l) .nil,by simp[A1,Value.oneCell'],rfl⟩
    | slice e =>
     cases d<;>simp[Cr,hu] at hD;rename_i et;obtain⟨⟨U,O⟩,h3⟩:=hD;rcases DataW.trod_slice hu h with ⟨rfl,_⟩ | ⟨a,len,cap,C0,rest,n,hn,rfl,_,_,hl,hm,hlen,lz,_⟩;{exact⟨.fF,.inl rfl,.cons _ _ _ _ .fF .nil,by simp[A1,Value.oneCell'],rfl⟩}
     {cases hn;refine yB hI hl hm h3 fun i hi=>?_;have:=lz i hi;rw[bQ (by omega),co,O] at this;obtain⟨cs,iZ,H⟩:=this;exact⟨cs,iZ,ih m e et cs _ U H⟩}
    | struct ds =>
     cases d<;>simp[Cr,hu] at hD;rename_i fields;obtain⟨U,O⟩:=hD;obtain⟨Z,n,hn,_,hl,hlen,hf⟩:=DataW.trod_struct hu h;cases hn;obtain⟨A,k1,k2,k3,k4⟩:=Z6 ih m ds fields.toList 0 cs Z O (by simpa using hlen) (by rw[hl,U];omega) (fun i f hi=>hf i f (by simpa using hi));rw[dU] at k2 k3;exact⟨.agg (fL A),⟨A,rfl,k1⟩,k2,k3,by simpa[PV.cells,BM.cells] using k4⟩
variable {w':eS} {sp':Nat->Bool}
theorem mD (hk:∀ b,b < w.heap.size->w'.heap[b]?=w.heap[b]?) {a:Addr} (h:w.cell? a=some v):a.block < w.heap.size/\w'.cell? a=some v:=by obtain⟨c,E,fr,hb,hs,hv⟩:=ng h;have gI:a.block < w.heap.size:=(dL.1 hb).1;refine⟨gI,?_⟩;unfold World.cell?;rw[hk _ gI,hb];simp[hs,hv]
theorem Mq {α β:Type} {f g:α->Option β}:∀ (l:List α) {ys:List β},l.mapM f=some ys->(∀ x∈l,∀ y,f x=some y->g x=some y)->l.mapM g=some ys
 | [],ys,h,_=>by simpa using h
 | x :: l,ys,h,hg=>by
  rw[cH] at h |-;simp only[dE,co,dO,bC] at h |-;obtain⟨y,U,ys',O,rfl⟩:=h;exact⟨y,hg x (by simp) y U,ys',Mq l O (fun z hz=>hg z (by simp[hz])),rfl⟩
theorem oI (hk:∀ b,b < w.heap.size->w'.heap[b]?=w.heap[b]?) {a:Addr} (h:w.cells? 0 a n=some l):w'.cells? 0 a n=some l/\(0 < n->a.block < w.heap.size):=by
 refine⟨?_,fun hn=>?_⟩;{unfold World.cells? at h |-;rw[eH (cX _)] at h |-;exact Mq _ h fun i _ v hv=>(mD hk hv).2}
 ·obtain⟨U,O⟩:=kU h;have:=O 0 hn;rw[bQ (by omega)] at this;have:=(mD hk this).1
  rwa [block_add] at this
theorem ZR (ih:∀ (m:Nat) (D:BM) (t:eY) (cs:List eT) (x:DataW zzd×List MemPlace),Cr P m D t=true->DataW.trod enc P w 0 (fun _=>true) held n t cs=some x->DataW.trod enc P w' 0 sp' held n t cs=some x) :
  ∀ (m:Nat) (ds:List BM) (fs:List Field) (off:Nat),sn P m off ds fs=true->∀ f∈fs,∀ cs x,DataW.trod enc P w 0 (fun _=>true) held n f.type cs=some x->DataW.trod enc P w' 0 sp' held n f.type cs=some x:=by
 intro m;induction m with
 | zero=>intro ds fs off h;cases h
 | succ m ihm =>
  intro ds fs off h f hf cs x H
  match ds,fs,h with
  | [],[],_=>cases hf
  | D :: ds,g :: fs,h =>
   simp only[sn,bz,eJ] at h;rcases bE.1 hf with rfl | hf;{exact ih m D _ cs x h.1.2 H};{exact ihm ds fs _ h.2 f hf cs x H}
theorem so (hk:∀ b,b < w.heap.size->w'.heap[b]?=w.heap[b]?) (gR:∀ b,b < w.heap.size->sp' b=true):∀ (fuel m:Nat) (D:BM) (t:eY) (cs:List eT) (x:DataW zzd×List MemPlace),Cr P m D t=true ->
  DataW.trod enc P w 0 (fun _=>true) held fuel t cs=some x->DataW.trod enc P w' 0 sp' held fuel t cs=some x:=by
 intro fuel;induction fuel with
 | zero=>intro m D t cs x _ h;simp[DataW.trod] at h
 | succ fuel ih =>
  intro m D t cs x hD h;cases m with
  | zero=>cases hD
  | succ m =>
   cases hu:P.underlying t with
   | none=>cases D<;>simp[Cr,hu] at hD
   | some d =>
    cases D with
    | bool =>
     cases d<;>simp[Cr,hu] at hD;obtain⟨b,rfl,rfl⟩:=DataW.trod_bool hu h;simp[DataW.trod,hu]
    | int k =>
     cases d<;>simp[Cr,hu] at hD;subst hD;obtain⟨n,rfl,rfl,hw⟩:=DataW.trod_int hu h;simp[DataW.trod,hu,hw]
    | str =>
     cases d<;>simp[Cr,hu] at hD;obtain⟨s,rfl,rfl,hw⟩:=DataW.trod_string hu h;simp[DataW.trod,hu,hw]
    | slice e =>
     cases d<;>simp[Cr,hu] at hD;rename_i et;obtain⟨⟨U,O⟩,h3⟩:=hD;rcases DataW.trod_slice hu h with ⟨rfl,rfl⟩ | ⟨a,len,cap,C0,rest,n,hn,rfl,_,_,hl,hm,hlen,_,_⟩;{simp[DataW.trod,hu]}
     ·unfold DataW.trod at h |-;simp only[hu] at h |-;rw[eH ⟨cX _,hl,hm⟩] at h |-
      have el:∀ i y,(w.cells? 0 (a.add (i*P.cellsOf et)) (P.cellsOf et)).bind (DataW.trod enc P w 0 (fun _=>true) held fuel et)=some y->(w'.cells? 0 (a.add (i*P.cellsOf et)) (P.cellsOf et)).bind (DataW.trod enc P w' 0 sp' held fuel et)=some y/\a.block < w.heap.size:=by
       intro i y hy;obtain⟨cs,iZ,H⟩:=co.1 hy;obtain⟨k1,k2⟩:=oI hk iZ;refine⟨co.2 ⟨cs,k1,ih m e et cs y U H⟩,?_⟩;have:=k2 (by omega)
       rwa [block_add] at this
      obtain⟨es,he,h⟩:=co.1 h;refine co.2 ⟨es,Mq _ he fun i _ y hy=>(el i y hy).1,?_⟩;obtain⟨rs,hr,rfl⟩:=bB.1 h;refine bB.2 ⟨rs,?_,rfl⟩;simp only[eF] at hr;cases hc:cap - len with
      | zero =>
       rw[hc] at hr;simp at hr;subst hr;split<;>simp
      | succ q =>
       have gI:a.block < w.heap.size:=by rw[hc,List.range_succ_eq_map,cH] at hr;simp only[dE,co] at hr;obtain⟨y,hy,_⟩:=hr;exact (el _ y (co.2 hy)).2
       rw[eH (gR _ gI),<-hc];exact Mq _ hr fun i _ y hy=>(el _ y hy).1
    | struct ds =>
     cases d<;>simp[Cr,hu] at hD;rename_i fields;obtain⟨U,O⟩:=hD;have key:=ZR ih m ds fields.toList 0 O;unfold DataW.trod at h |-;simp only[hu] at h |-;split at h;{rename_i lC;rw[eH lC];obtain⟨Z,H,rfl⟩:=bB.1 h;exact bB.2 ⟨Z,Mq _ H fun f hf y hy=>key f hf _ y hy,rfl⟩};{cases h}
def yC (P:eX) (m:Nat):List BM->List eY->Bool
 | [],[]=>true
 | D :: Ds,t :: ts=>Cr P m D t&&yC P m Ds ts
 | _,_=>false
theorem val_rep (hI:∀ b,b < w.heap.size->I b) {D:BM} {t:eY} {d:DataW zzd} (hD:Cr P m D t=true) (hv:Value.okWide P w .any base t v) (h:DataW.Trod enc P w 0 (fun _=>true) held t v d ps) :
  ∃ u:PV,Kx D u/\Aj w I lp none u v:=by
 obtain⟨fuel,h⟩:=h;obtain⟨u,U,O,h3,h4⟩:=Zw (lp:=lp) hI fuel m D t _ _ hD h;cases m with
 | zero=>cases hD
 | succ m =>
  cases hu:P.underlying t with
  | none=>cases D<;>simp[Cr,hu] at hD
  | some dd =>
   have one:(∀ x,v.cells.toList=[x]->v=x)->(∀ x:PV,u.cells=[x]->u=x)->(∃ x,u.cells=[x])->∃ u:PV,Kx D u/\Aj w I lp none u v:=by intro ho hp ⟨x,H⟩;have hux:=hp x H;rw[H] at O;obtain⟨y,hy,hr⟩:=repL1' O;rw[ho y hy];exact⟨u,U,by rw[hux];exact hr⟩
   have sc:(∀ A,v≠.agg A)->∀ x,v.cells.toList=[x]->v=x:=by intro hn x H;cases v<;>first | (simp[Value.cells] at H;exact H) | exact eQ rfl (hn _)
   cases D with
   | struct ds =>
    cases dd<;>simp[Cr,hu] at hD;obtain⟨cs,rfl,_⟩:=okWide_struct hu hv;obtain⟨A,rfl,kM⟩:=U;exact⟨_,⟨A,rfl,kM⟩,.agg _ _ h3 O⟩
   | bool =>
    cases dd<;>simp[Cr,hu] at hD;obtain⟨b,rfl⟩:=U;exact one (sc fun A e=>by subst e;simp[Value.okWide,hu,Cell.okWide,Cell.ok] at hv) (fun x H=>by simpa[PV.cells] using H) ⟨_,rfl⟩
   | int k =>
    cases dd<;>simp[Cr,hu] at hD;obtain⟨b,rfl,_⟩:=U;exact one (sc fun A e=>by subst e;simp[Value.okWide,hu,Cell.okWide,Cell.ok] at hv) (fun x H=>by simpa[PV.cells] using H) ⟨_,rfl⟩
   | str =>
    cases dd<;>simp[Cr,hu] at hD;obtain⟨b,rfl,_⟩:=U;exact one (sc fun A e=>by subst e;simp[Value.okWide,hu,Cell.okWide,Cell.ok] at hv) (fun x H=>by simpa[PV.cells] using H) ⟨_,rfl⟩
   | slice e =>
    cases dd<;>simp[Cr,hu] at hD;have hs:=sc fun A e=>by subst e;simp[Value.okWide,hu,Cell.okWide,Cell.ok] at hv
    rcases U with rfl | ⟨Z,rfl,_,_⟩;{exact one hs (fun x H=>by simpa[PV.cells] using H) ⟨_,rfl⟩};{exact one hs (fun x H=>by simpa[PV.cells] using H) ⟨_,rfl⟩}
theorem XY (hI:∀ b,b < w.heap.size->I b) {m base:Nat}:∀ (Ds:List BM) (ts:List eY) (A:List eT) (ds:List (DataW zzd)) (p:List MemPlace),yC P m Ds ts=true ->
  (∀ (j:Nat) t v,ts[j]?=some t->A[j]?=some v->Value.okWide P w .any base t v)->DataW.TrodAll enc P w 0 (fun _=>true) held ts A ds p->∃ us:fa,Oa Ds us/\Ae w I lp none us A
 | [],[],A,ds,p,_,_,h=>by
  obtain⟨rfl,rfl,rfl⟩:=trodAll_nil h;exact⟨[],rfl,.nil⟩
 | D :: Ds,t :: ts,A,ds,p,hD,hv,h=>by
  obtain⟨v,A,d,ds,p,q,rfl,rfl,rfl,U,O⟩:=trodAll_cons h;simp only[yC,bz] at hD;obtain⟨u,a,b⟩:=val_rep (lp:=lp) hI hD.1 (hv 0 t v rfl rfl) U;obtain⟨us,a',b'⟩:=XY hI Ds ts A ds q hD.2 (fun j t v ht hj=>hv (j+1) t v (by simpa using ht) (by simpa using hj)) O;exact⟨u :: us,⟨u,us,rfl,a,a'⟩,.cons _ _ _ _ b b'⟩
 | [],_ :: _,_,_,_,hD,_,_=>by cases hD
 | _ :: _,[],_,_,_,hD,_,_=>by cases hD
theorem W1 (hk:∀ b,b < w.heap.size->w'.heap[b]?=w.heap[b]?) (gR:∀ b,b < w.heap.size->sp' b=true) {m:Nat}:∀ (Ds:List BM) (ts:List eY) (A:List eT) (ds:List (DataW zzd)) (p:List MemPlace),yC P m Ds ts=true ->
  DataW.TrodAll enc P w 0 (fun _=>true) held ts A ds p->DataW.TrodAll enc P w' 0 sp' held ts A ds p
 | [],[],A,ds,p,_,h=>by
  obtain⟨rfl,rfl,rfl⟩:=trodAll_nil h;exact rfl
 | D :: Ds,t :: ts,A,ds,p,hD,h=>by
  obtain⟨v,A,d,ds,p,q,rfl,rfl,rfl,⟨fuel,U⟩,O⟩:=trodAll_cons h;simp only[yC,bz] at hD;exact⟨p,q,⟨fuel,so hk gR fuel m D t _ _ hD.1 U⟩,W1 hk gR Ds ts A ds q hD.2 O,rfl⟩
 | [],_ :: _,_,_,_,hD,_=>by cases hD
 | _ :: _,[],_,_,_,hD,_=>by cases hD
end
end Go.Ab

