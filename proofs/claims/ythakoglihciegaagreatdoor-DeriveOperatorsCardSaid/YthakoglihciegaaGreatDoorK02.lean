/- Part 2 of a proof: laws of a machine. -/
import Derived.Test.YthakoglihciegaaGreatDoorK01
import Derived.Laws.IdiomStrings
import Derived.MapKept
import Derived.Laws.Entries
import Derived.Laws.StructEq
import Derived.Orders
import Derived.RangeFuncNested
set_option linter.all false

namespace Go.Ab
variable{L':jr} {P:jd} {Rn:jl} {b:UInt8} {clock:Nat} {d:jg} {dst el et kt src t:je} {kg:Array MapEntry} {es:jh} {k z:W} {l:List MapEntry} {V:Nm} {r r1 r2:RX} {w':i7} {x:jb} {σ:Nm->jk}
section ops
variable {E:Type} {cx:Cx} {w0:i7} {I0 F0:Nat->Prop} {O0:Cw} {Hd:Nat->Option Obj} {R:Ch E} {e:E} {ds:List jf} {F:Nat->Prop} {lp:Nat->jj} {jH:List i8}
variable {I:Nat->Prop} {L:AK} {Z:St} {a:Act} {w:i7} {o:Oper} {out:AQ} {pq:AG}
theorem bQ (hs:SR lp I L Z a.tmps.toList jH w) (hf:Fr cx w0 I0 F0 O0 Hd R e ds I F L w) (ho:o.op=.convert src dst x) (U:rx cx.G x=some r)
  (hd1:cx.P.underlying src=some .string) (hd2:cx.P.underlying dst=some (.slice el)) (hd3:cx.P.underlying el=some (.int .u8))
  (h:exec (o.dst.getD 0) (Al Z.jC) Z.tmps (.k7 r)=some out):BP cx w0 I0 F0 O0 Hd R e ds F lp jH o a w (apply Z o.dst out):=by
 have A:=BM hs hf.wd U;simp only[exec] at h;split at h
 case h_2=>cases h
 rename_i s T;obtain⟨hk,h⟩:=Bx h;cases h;rw[T] at A;have oR:=FW A;have hz:(⟨s.toArray⟩:ByteArray).size=s.length:=by simp[ByteArray.size]
 have j9:=run_bytes_of_string (P:=cx.P) w src dst el ⟨s.toArray⟩ hd1 hd2 hd3;rw[hz] at j9;have oS:=grownCap_ge w s.length 0 el;generalize hc:grownCap w s.length 0 el=cap at *;have oz:(bytesRow ⟨s.toArray⟩ cap).toList=(s.map fun b=>Value.int .u8 (b.toNat:Int))++List.replicate (cap - s.length) (.int .u8 0):=by simp[bytesRow,hz]
 have hbs:(bytesRow ⟨s.toArray⟩ cap).size=cap:=by
  have:(bytesRow ⟨s.toArray⟩ cap).toList.length=cap:=by rw[oz];simp;omega
  simpa using this
 generalize rI:bytesRow ⟨s.toArray⟩ cap=row at *;generalize nD:(row.size,row.size+1)=fr at *;have w8:∀ b',b' < w.heap.size->(w.drew.alloc (.cells row el fr)).heap[b']?=w.heap[b']?:=fun b' lX=>by rw[Fq w.drew _ lX];rfl
 have na:SR lp (fun b=>I b\/b=w.heap.size) L Z a.tmps.toList jH (w.drew.alloc (.cells row el fr)) :=
  hs.keeps (fun _ h=>.inl h) (fun b hb=>w8 b (hf.sep.iB b hb)) fun V b C hn=>w8 b (hf.lB V b C hn).2.1
 refine⟨.slice (some ⟨w.heap.size,0,none⟩) s.length cap,w.drew.alloc (.cells row el fr),(fun b=>I b\/b=w.heap.size),L,.inl ?_,?_,?_⟩;{simp[execOp,ho,oR,j9]}
 ·refine na.wH o.dst ?_;have hbl2:(Ei s).length=s.length:=by simp[Ei]
  have htk:(row.toList.drop 0).take ((Ei s).length*1)=s.map fun b=>Value.int .u8 (b.toNat:Int):=by rw[eJ,oz,hbl2,Nat.mul_one,gk (by simp),dV (by simp)]
  have:=AC.sl (w:=w.drew.alloc (.cells row el fr)) (I:=fun b=>I b\/b=w.heap.size) (lp:=lp) (L:=some L) 1 (Ei s) false w.heap.size 0 cap row el fr (.inr rfl) (J4 w.drew _) (by rw[hbl2,hbs];omega)
   (fun y hy=>by obtain⟨b,_,rfl⟩:=dJ.1 hy;rfl) (by rw[hbl2];exact oS) (by simp)
   (by rw[htk];intro v hv;obtain⟨b,_,rfl⟩:=dJ.1 hv;rfl) (by rw[htk];exact VD s)
  rwa [hbl2] at this
 {refine hf.own rfl rfl rfl (by simp) (fun b hb _=>w8 b hb) (fun _ h=>.inl h) (fun b hb=>?_) (fun V b C hn=>?_) hf.inj;{rcases hb with hb | rfl;{exact .inl hb};{exact .inr ⟨by simp,.inl (dH _)⟩}};{have hl:=hf.lB V b C hn;refine⟨by simp;omega,fun hb=>?_,.inr ⟨V,C,hn⟩⟩;rcases hb with hb | rfl;{exact hl.2.2.1 hb};{omega}}}
theorem bc {x:W} (h:Pt x=some b):x=.int .u8 (b.toNat:Int):=by
 unfold Pt at h;split at h
 ·rename_i n;split at h
  ·rename_i hn;cases h;congr 1;have:n.toNat < 256:=by omega
   rw[UInt8.toNat_ofNat',gP this,Int.toNat_of_nonneg hn.1]
  {cases h}
 {cases h}
theorem af:∀ {H:jh} {s:ji},HE H=some s->H=Ei s:=by
 intro H;induction H with
 | nil=>intro s h;simp only[HE,dL] at h;subst h;rfl
 | cons x H ih =>
  intro s h;simp only[HE] at h;split at h;{rename_i b bs hb hbs;cases h;rw[bc hb,ih hbs];rfl};{cases h}
theorem sS {w:i7} {I:Nat->Prop} {lp:Nat->jj} {L:jr}:∀ {s:ji} {vs:List i8},Av w I lp L (jM (Ei s)) vs->vs=s.map fun b=>Value.int .u8 (b.toNat:Int):=by
 intro s;induction s with
 | nil=>intro vs h;cases h;rfl
 | cons b s ih =>
  intro vs h;have O:Av w I lp L (.int .u8 (b.toNat:Int) :: jM (Ei s)) vs:=h;cases O with
  | cons _ v _ vs h3 hs=>rw[EP h3,ih hs];rfl
theorem bS (hs:SR lp I L Z a.tmps.toList jH w) (hf:Fr cx w0 I0 F0 O0 Hd R e ds I F L w) {x:jb} (ho:o.op=.convert src dst x) (U:rx cx.G x=some r)
  (hd1:cx.P.underlying src=some (.slice el)) (hd2:cx.P.underlying dst=some .string) (hd3:cx.P.underlying el=some (.int .u8))
  (h:exec (o.dst.getD 0) (Al Z.jC) Z.tmps (.ofBytes r)=some out):BP cx w0 I0 F0 O0 Hd R e ds F lp jH o a w (apply Z o.dst out):=by
 have A:=BM hs hf.wd U;simp only[exec] at h;split at h
 case h_2=>cases h
 rename_i H lM;split at h
 case h_2=>cases h
 rename_i s hbs;cases h;obtain⟨hns,ou⟩:=Bx lM;have qM:=af hbs;subst qM;refine B8 hs hf (v':=.string ⟨s.toArray⟩) ?_ (.refl w) (.str s)
 have rI:∀ (b off cap:Nat) (c:Array i8) (E':je) (fr:Nat×Nat),w.heap[b]?=some (.cells c E' fr)->off+s.length<=c.size->Av w I lp none (jM (Ei s)) ((c.toList.drop off).take s.length) ->
   (convert src dst (.slice (some ⟨b,off,none⟩) s.length cap)).run cx.P w=.ok (.string ⟨s.toArray⟩) w:=by
  intro b off cap c E' fr hb hle jS;refine run_convert_bytes_back w src dst el ⟨b,off,none⟩ cap s hd1 hd3 hd2 fun j hj=>?_;have he:=sS jS;rw[JC,OI hb];have:((c.toList.drop off).take s.length)[j]?=some (.int .u8 (s[j].toNat:Int)):=by rw[he];simp[hj]
  rw[gj hj,gx] at this;simpa using this
 have oQ:s=[]->∀ (ad:Option Addr) (cap:Nat),(convert src dst (.slice ad 0 cap)).run cx.P w=.ok (.string ⟨s.toArray⟩) w:=by
  rintro rfl ad cap;cases ad with
  | none=>rw[run_convert_bytes_string w src dst el none 0 cap hd1 hd3 hd2];simp[Conv.bytesToString];rfl
  | some ad=>exact run_convert_bytes_back w src dst el ad cap [] hd1 hd3 hd2 fun j hj=>by simp at hj
 have key:(convert src dst (a.eval x)).run cx.P w=.ok (.string ⟨s.toArray⟩) w:=by
  unfold elems at ou;split at ou
  ·rename_i k H full T;obtain⟨_,qN⟩:=Bx ou;have qN:H=Ei s:=by simpa using qN
   subst qN;rw[T] at A;rcases KG A with ⟨b,off,cap,c,E',fr,hv,g1,g2,g3,g4,g5,g6,g7,g8⟩ | ⟨hn,ad,cap,hv,_⟩
   ·have oz:(Ei s).length=s.length:=by simp[Ei]
    rw[oz] at hv g3 g8
    have kF:s.length*k=s.length:=by
     have w7:=g8.length;cases s with
     | nil=>simp
     | cons b0 s=>have:=g4 (.int .u8 (b0.toNat:Int)) (by simp[Ei]);rw[<-this];simp[W.cells]
    rw[kF] at g3 g8;rw[hv];exact rI b off cap c E' fr g2 g3 g8
   {rw[hv];exact oQ (by simpa[Ei] using hn) ad cap}
  ·rename_i V k off n T;split at ou
   case h_2=>cases ou
   rename_i nx kt H kD;obtain⟨hk,qN⟩:=Bx ou;simp only[dF,iL,iK] at hk;obtain⟨⟨rfl,rfl⟩,hle⟩:=hk;have qN:(H.drop off).take n=Ei s:=by simpa using qN
   have oz:(Ei s).length=s.length:=by simp[Ei]
   have hns:n=s.length:=by rw[<-oz,<-qN];simp;omega
   obtain⟨p,hp,ha⟩:=hs.ob V _ kD;rw[T] at A;rcases Ks A with ⟨b,C,cap,hL,hv,hC,hn⟩ | ⟨hL,hv,rfl,rfl⟩
   ·rw[hL] at hp;cases hp;obtain⟨c,E',hb,hC',hxs',nJ,kn,jS⟩:=ha;have:=(jS.drop (off*1)).take (n*1);rw[<-Mw nJ,<-Ka (fun x A=>nJ x (e8 A)),qN,fD,eU] at this;have hmin:min (n*1) (H.length*1 - off*1)=s.length:=by omega
    rw[hmin,Nat.mul_one] at this;rw[hv,hns,Nat.mul_one];exact rI b off cap c E' (0,0) hb (by omega) this
   {rw[hv];exact oQ (fK.1 hns.symm) none 0}
  ·rename_i T;have qN:[]=Ei s:=by simpa using ou
   rw[T] at A;rw[G9 A];exact oQ (by cases s with | nil=>rfl | cons b s=>simp[Ei] at qN) none 0
  {rename_i s' T;rw[T] at hns;simp[RP] at hns};{cases ou}
 simp[execOp,ho,key]
theorem SZ (h:HQ (EQ P kt) k=true):∃ d,P.underlying kt=some d /\
  (((∃ kk,d=.int kk)/\∃ j n,k=.int j n)\/(d=.string/\∃ s,k=.str s)\/(d=.bool/\∃ b,k=.bool b)):=by
 cases hu:P.underlying kt with
 | none=>simp[EQ,hu,HQ] at h
 | some d =>
  cases d with
  | struct fs =>
   simp only[EQ,hu] at h;split at h;{split at h<;>simp[HQ] at h};{simp[HQ] at h}
  | int q =>
   simp only[EQ,hu] at h;cases k<;>simp[HQ] at h;exact⟨_,rfl,.inl ⟨⟨_,rfl⟩,_,_,rfl⟩⟩
  | string =>
   simp only[EQ,hu] at h;cases k<;>simp[HQ] at h;exact⟨_,rfl,.inr (.inl ⟨rfl,_,rfl⟩)⟩
  | bool =>
   simp only[EQ,hu] at h;cases k<;>simp[HQ] at h;exact⟨_,rfl,.inr (.inr ⟨rfl,_,rfl⟩)⟩
  | _=>simp[EQ,hu,HQ] at h
def J2 (d:jg) (k:W):Prop:=((∃ kk,d=.int kk)/\∃ j n,k=.int j n)\/(d=.string/\∃ s,k=.str s)\/(d=.bool/\∃ b,k=.bool b)
theorem J2.names (h:J2 d k):k.names=[]:=by rcases h with ⟨_,_,_,rfl⟩ | ⟨_,_,rfl⟩ | ⟨_,_,rfl⟩<;>rfl
theorem P2 {w:i7} {I:Nat->Prop} {lp:Nat->jj} {L:jr} {x:W} {kv xv:i8} (hd:J2 d k) (hk:AC w I lp L k kv) (A:AC w I lp L' x xv) {r:Bool} (h:JX k x=some r) :
  Instr.sameNow d kv xv=some r/\(r=true->xv=kv):=by
 rcases hd with ⟨⟨kk,rfl⟩,j,n,rfl⟩ | ⟨rfl,s,rfl⟩ | ⟨rfl,b,rfl⟩
 ·cases x<;>simp only[JX] at h<;>first | contradiction | skip
  obtain⟨U,O⟩:=Bx h;have U:=beq_iff_eq.1 U;subst U;cases O;rw[EP hk,EP A];refine⟨by simp[Instr.sameNow],fun hb=>by rw[beq_iff_eq.1 hb]⟩
 ·cases x<;>simp only[JX] at h<;>first | contradiction | skip
  rename_i s';cases h;rw[FW hk,FW A]
  have hb:((⟨s.toArray⟩:ByteArray)==⟨s'.toArray⟩)=(s==s'):=by
   cases hc:(s==s') with
   | true=>rw[beq_iff_eq.1 hc];exact (MapKept.bytes_beq _ _).2 rfl
   | false =>
    cases hb:((⟨s.toArray⟩:ByteArray)==⟨s'.toArray⟩) with
    | false=>rfl
    | true =>
     have:=(MapKept.bytes_beq _ _).1 hb;have:s=s':=by simpa using this
     rw[this] at hc;simp at hc
  exact⟨by simp only[Instr.sameNow,hb],fun hb=>by rw[beq_iff_eq.1 hb]⟩
 ·cases x<;>simp only[JX] at h<;>first | contradiction | skip
  rename_i b';cases h;rw[Gi hk,Gi A];exact⟨by simp[Instr.sameNow],fun hb=>by rw[beq_iff_eq.1 hb]⟩
theorem Vr {w:i7} {I:Nat->Prop} {lp:Nat->jj} {L:jr} {x y:W} (h:Av w I lp L (x :: y :: es) (GT l)) :
  ∃ en l',l=en :: l'/\AC w I lp L x en.key/\AC w I lp L y en.val/\Av w I lp L es (GT l'):=by
 cases l with
 | nil=>cases h
 | cons en l' =>
  cases h with
  | cons _ _ _ _ U O=>cases O with
   | cons _ _ _ _ O h3=>exact⟨en,l',rfl,U,O,h3⟩
theorem cy {w:i7} {I:Nat->Prop} {lp:Nat->jj} {L:jr} {kv:i8} (hd:J2 d k) (hk:AC w I lp L' k kv):∀ (n:Nat) (es:jh) (l:List MapEntry) (i:Nat) (r:jx),es.length<=n ->
  Av w I lp L es (GT l)->Ed k es=some r ->
  (r=none/\Instr.findNow d kv l i=some none)\/∃ j v x,r=some x/\AC w I lp L x v/\Instr.findNow d kv l i=some (some (j,v)):=by
 intro n;induction n with
 | zero =>
  intro es l i r hn h hf;cases es with
  | cons x es=>simp at hn
  | nil =>
   simp only[Ed,dL] at hf;subst hf;cases l with
   | nil=>exact .inl ⟨rfl,rfl⟩
   | cons en l=>cases h
 | succ n ih =>
  intro es l i r hn h hf
  match es,hf,h,hn with
  | [],hf,h,hn =>
   simp only[Ed,dL] at hf;subst hf;cases l with
   | nil=>exact .inl ⟨rfl,rfl⟩
   | cons en l=>cases h
  | [x],hf,h,hn=>simp[Ed] at hf
  | x :: y :: es,hf,h,hn =>
   obtain⟨en,l',rfl,U,O,h3⟩:=Vr h;simp only[Ed] at hf;split at hf;{rename_i qI;obtain⟨s1,_⟩:=P2 hd hk U qI;cases hf;exact .inr ⟨i,en.val,y,rfl,O,by simp[Instr.findNow,s1]⟩};{rename_i qI;obtain⟨s1,_⟩:=P2 hd hk U qI;simp only[eS] at hn;rcases ih es l' (i+1) r (by omega) h3 hf with ⟨q1,q2⟩ | ⟨j,v,x,q1,q2,q3⟩;{exact .inl ⟨q1,by simp[Instr.findNow,s1,q2]⟩};{exact .inr ⟨j,v,x,q1,q2,by simp[Instr.findNow,s1,q3]⟩}};{cases hf}
theorem sT {w:i7} {I:Nat->Prop} {lp:Nat->jj} {L:jr} {v:W} {kv vv:i8} (hd:J2 d k) (hk:AC w I lp L k kv) (hv:AC w I lp L v vv):∀ (n:Nat) (es:jh) (l:List MapEntry) (i:Nat) (nH:jh),es.length<=n ->
  Av w I lp L es (GT l)->HU k v es=some nH ->
  (Instr.findNow d kv l i=some none/\∀ b,Av w I lp L nH (GT (l++[{key:=kv,val:=vv,born:=b}]))) \/
  ∃ j en,Instr.findNow d kv l i=some (some (i+j,en.val))/\l[j]?=some en/\en.key=kv/\Av w I lp L nH (GT (l.modify j fun e=>{e with key:=kv,val:=vv})):=by
 intro n;induction n with
 | zero =>
  intro es l i nH hn h hf;cases es with
  | cons x es=>simp at hn
  | nil =>
   simp only[HU,dL] at hf;subst hf;cases l with
   | nil=>exact .inl ⟨rfl,fun b=>.cons _ _ _ _ hk (.cons _ _ _ _ hv .nil)⟩
   | cons en l=>cases h
 | succ n ih =>
  intro es l i nH hn h hf
  match es,hf,h,hn with
  | [],hf,h,hn =>
   simp only[HU,dL] at hf;subst hf;cases l with
   | nil=>exact .inl ⟨rfl,fun b=>.cons _ _ _ _ hk (.cons _ _ _ _ hv .nil)⟩
   | cons en l=>cases h
  | [x],hf,h,hn=>simp[HU] at hf
  | x :: y :: es,hf,h,hn =>
   obtain⟨en,l',rfl,U,O,h3⟩:=Vr h;simp only[HU] at hf;split at hf;{rename_i qI;obtain⟨s1,s2⟩:=P2 hd hk U qI;cases hf;refine .inr ⟨0,en,by simp[Instr.findNow,s1],rfl,s2 rfl,?_⟩;rw[List.modify_zero_cons];exact .cons _ _ _ _ hk (.cons _ _ _ _ hv h3)}
   ·rename_i qI;obtain⟨s1,_⟩:=P2 hd hk U qI;obtain⟨es2,hes2,rfl⟩:=dG.1 hf;simp only[eS] at hn;rcases ih es l' (i+1) es2 (by omega) h3 hes2 with ⟨q1,q2⟩ | ⟨j,en',q1,q2,q3,q4⟩;{exact .inl ⟨by simp[Instr.findNow,s1,q1],fun b=>.cons _ _ _ _ U (.cons _ _ _ _ O (q2 b))⟩}
    {refine .inr ⟨j+1,en',by simp[Instr.findNow,s1,q1];omega,by simpa using q2,q3,?_⟩;rw[List.modify_succ_cons];exact .cons _ _ _ _ U (.cons _ _ _ _ O q4)}
   {cases hf}
theorem xa {w:i7} {b:Nat} (hb:w.heap[b]?=some (.map kg clock)) (ob:Obj) :
  (setObj b ob).run P w=.ok () {w with heap:=w.heap.setIfInBounds b ob}:=MapKept.run_setObj_map ob hb
theorem Ro {kv:i8} {kk:jc} (hd:J2 d k) {w:i7} {I:Nat->Prop} {lp:Nat->jj} {L:jr} (hk:AC w I lp L k kv) (hu:P.underlying kt=some d) (b:Bool) (n:Nat) :
  (Instr.checkKey b (n+1) kt kv).run P w'=.ok () w':=by
 unfold Instr.checkKey;simp only[Sem.run_bind,run_underlying hu,Result.andThen];rcases hd with ⟨⟨kk,rfl⟩,j,m,rfl⟩ | ⟨rfl,s,rfl⟩ | ⟨rfl,b,rfl⟩<;>rfl
theorem sU {kv:i8} (hd:J2 d k) {w:i7} {I:Nat->Prop} {lp:Nat->jj} {L:jr} (hk:AC w I lp L k kv):(Instr.keyThatStays kv kv).run P w'=.ok kv w':=by rcases hd with ⟨⟨kk,rfl⟩,j,m,rfl⟩ | ⟨rfl,s,rfl⟩ | ⟨rfl,b,rfl⟩;{rw[EP hk];simp[Instr.keyThatStays,Instr.sameBits]};{rw[FW hk];simp[Instr.keyThatStays,Instr.sameBits,MapKept.bytes_beq]};{rw[Gi hk];simp[Instr.keyThatStays,Instr.sameBits]}
theorem bN (σ:List jp) {a b:Nm} (h:a≠b) (o p:Ob):Bv (Bv σ a o) b p=Bv (Bv σ b p) a o:=by
 obtain⟨a1,a2⟩:=a;obtain⟨b1,b2⟩:=b;unfold Bv;simp only
 by_cases hab:a1=b1
 ·subst hab;have O:a2≠b2:=fun e=>h (by rw[e]);cases hl:σ[a1]? with
  | none=>simp[hl]
  | some l =>
   have jP:=(dU.1 hl).1;simp only[fS jP,List.set_set];rw[gV _ _ O]
 ·cases ha:σ[a1]? with
  | none =>
   cases hb:σ[b1]? with
   | none=>simp[ha,hb]
   | some l' =>
    simp only[hb];rw[eB (eH hab),ha]
  | some l =>
   simp only
   rw[eB hab];cases hb:σ[b1]? with
   | none=>simp[ha]
   | some l' =>
    simp only
    rw[eB (eH hab),ha];simp only
    rw[gV _ _ hab]
theorem cq (hn:V ∉ Rn) (Z:St) (es:jh):DF σ Rn {Z with jC:=Bv Z.jC V (.map es)}={DF σ Rn Z with jC:=Bv (DF σ Rn Z).jC V (.map es)}:=by
 unfold DF EK;simp only
 congr 1
 have hA:∀ f:Nm->Option jk,(Bv Z.jC V (.map es)).map (·.map (Ob.sub f))=Bv (Z.jC.map (·.map (Ob.sub f))) V (.map es):=by
  intro f;unfold Bv;rw[dT];cases hl:Z.jC[V.1]? with
  | none=>rfl
  | some l=>simp[fU,Ob.sub]
 rw[hA];generalize Z.jC.map _=jC;induction Rn generalizing jC with
 | nil=>rfl
 | cons r Rn ih =>
  rw[fT,fT,bN _ (fun e=>hn (by rw[e];exact d7)),ih fun h=>hn (dZ _ h)]
theorem aK (hn:V ∉ Rn) (Z:St) (h:Al Z.jC V=some (.map es)):Al (DF σ Rn Z).jC V=some (.map es):=by
 unfold DF EK;simp only
 have h0:Al (Z.jC.map (·.map (Ob.sub fun m=>if Rn.contains m=true then BX σ m else none))) V=some (.map es):=by rw[Gh,h];rfl
 generalize Z.jC.map _=jC at h0;clear h
 have key:∀ (R:jl) (jC:List jp),V ∉ R->Al jC V=some (.map es)->Al (R.foldl (fun jC V=>Bv jC V BO) jC) V=some (.map es):=by
  intro R;induction R with
  | nil=>intro jC _ h;exact h
  | cons r R ih =>
   intro jC hn h;rw[fT];refine ih _ (fun h=>hn (dZ _ h)) ?_;rw[It _ fun e=>hn (by rw[e];exact d7)];exact h
 exact key Rn jC hn h0
theorem VS (hs:SR lp I L Z a.tmps.toList jH w) (hf:Fr cx w0 I0 F0 O0 Hd R e ds I F L w) {x k v:jb} (ho:o.op=.insert t x k v\/o.op=.mapUpdate t x k v) (hu:cx.P.underlying t=some (.map kt et))
  {nH:jh} {kp u:W} (A:AC w I lp (some L) (.mp V) (a.eval x)) (kD:Al Z.jC V=some (.map es)) (nk:AC w I lp none kp (a.eval k)) (hv':AC w I lp none u (a.eval v)) (c1:HQ (EQ cx.P kt) kp=true) (o5:HU kp u es=some nH) :
  BP cx w0 I0 F0 O0 Hd R e ds F lp jH o a w (apply Z o.dst {v:=.undef,kA:=some (V,.map nH)}):=by
 obtain⟨d,hd,xc⟩:=SZ c1;obtain⟨b,C,hL,oR⟩:=Rp A;obtain⟨p,hp,ha⟩:=hs.ob V _ kD;rw[hL] at hp;cases hp;obtain⟨kg,clock,hb,jS⟩:=ha;have hg:(getObj b).run cx.P w=.ok (.map kg clock) w:=by simp[getObj,Sem.run,hb]
 have hwb:∀ (w':i7) (nK:Obj),w'={w with heap:=w.heap.setIfInBounds b nK}->(∀ b',b'≠b->w'.heap[b']?=w.heap[b']?)/\w'.heap[b]?=some nK/\w'.heap.size=w.heap.size:=by rintro w' nK rfl;obtain⟨q1,q2⟩:=MapKept.heap_set (o':=nK) hb;exact⟨q2,q1,by simp⟩
 have fin:∀ (l':Array MapEntry) (oA:Nat),Av w I lp none nH (GT l'.toList)->(Instr.mapUpdate t (a.eval x) (a.eval k) (a.eval v)).run cx.P w=.ok () {w with heap:=w.heap.setIfInBounds b (.map l' oA)} ->
   BP cx w0 I0 F0 O0 Hd R e ds F lp jH o a w (apply Z o.dst {v:=.undef,kA:=some (V,.map nH)}):=by
  intro l' oA se j9;obtain⟨q1,q2,q3⟩:=hwb _ (.map l' oA) rfl;have hkI:∀ b',I b'->({w with heap:=w.heap.setIfInBounds b (.map l' oA)}:i7).heap[b']?=w.heap[b']?:=fun b' lX=>q1 b' fun e=>(hf.lB V b C hL).2.2.1 (e ▸ lX)
  exact OG hs hf hL (w':={w with heap:=w.heap.setIfInBounds b (.map l' oA)}) (v':=undef) (.inr ⟨by rcases ho with ho | ho<;>simp[execOp,ho,j9],rfl⟩) rfl rfl rfl q3 q1
   ⟨l',oA,q2,Av.mono (fun _ h=>h) hkI (fun _ _ h=>h) se⟩ (.undef _)
 rcases sT xc nk hv' es.length es kg.toList 0 nH (dH _) jS o5 with ⟨f1,f2⟩ | ⟨j,en,f1,f2,f3,f4⟩
 {refine fin (kg.push {key:=a.eval k,val:=a.eval v,born:=clock}) (clock+1) (by simpa using f2 clock) ?_;simp[Instr.mapUpdate,run_underlying hu,oR,hg,Ro (kk:=.i64) xc nk hd,MapKept.run_findKey hd f1,xa hb]}
 ·refine fin (kg.modify j fun e=>{e with key:=a.eval k,val:=a.eval v}) clock (by simpa using f4) ?_;rw[eu] at f1;have hj:kg[j]?=some en:=by simpa using f2
  simp[Instr.mapUpdate,run_underlying hu,oR,hg,Ro (kk:=.i64) xc nk hd,MapKept.run_findKey hd f1,xa hb,hj,f3,sU xc nk]
theorem W5 (hs:SR lp I L Z a.tmps.toList jH w) (hf:Fr cx w0 I0 F0 O0 Hd R e ds I F L w) {x k v:jb} (ho:o.op=.insert t x k v\/o.op=.mapUpdate t x k v) (hu:cx.P.underlying t=some (.map kt et)) {r3:RX}
  (U:rx cx.G x=some r1) (O:rx cx.G k=some r2) (h3:rx cx.G v=some r3)
  (h:exec (o.dst.getD 0) (Al Z.jC) Z.tmps (.insert (EQ cx.P kt) r1 r2 r3)=some out):BP cx w0 I0 F0 O0 Hd R e ds F lp jH o a w (apply Z o.dst out):=by
 have A:=BM hs hf.wd U;have hk:=BM hs hf.wd O;have hv:=BM hs hf.wd h3;simp only[exec] at h;split at h
 case h_2=>cases h
 rename_i V T;rw[T] at A;split at h
 case h_2=>cases h
 rename_i es kD;split at h
 case h_2=>cases h
 rename_i nH o5;obtain⟨hc,h⟩:=Bx h;cases h;simp only[dF] at hc;obtain⟨⟨c1,c2⟩,c3⟩:=hc;have o9:AC w I lp none (r2.ev Z.tmps) (a.eval k):=by obtain⟨d,hd,xc⟩:=SZ c1;exact hk.shut (J2.names (d:=d) xc)
 cases hS:(r3.ev Z.tmps).names.isEmpty with
 | true =>
  rw[hS] at o5;simp only[iH] at o5;have:=VS hs hf ho hu A kD o9 (hv.shut (eZ.1 hS)) c1 o5;simpa[hS] using this
 | false =>
  rw[hS] at o5 c3 c2;simp only[dE,iG,eQ,dF,fO] at o5 c3 c2;obtain⟨hR,hn⟩:=c3;generalize xd:Bn (Al Z.jC) A7 (r3.ev Z.tmps).names=Rn at hR hn;have hn:V ∉ Rn:=by intro h;rw[fw.2 h] at hn;cases hn
  have hv1:=PT hs hR (.cons _ _ _ _ hv .nil) (fun m hm=>by rw[<-xd];exact FT _ _ m (by simpa[AU] using hm))
  have rJ:AC w (ku I L Rn) lp none ((r3.ev Z.tmps).sub (BX (Al Z.jC))) (a.eval v):=by
   cases hv1 with
   | cons _ _ _ _ h _=>exact h
  have w9:AC w (ku I L Rn) lp (some (Ia L Rn)) (.mp V) (a.eval x):=by obtain⟨b,C,hL,oR⟩:=Rp A;rw[oR];exact .mp V b C (by simp[Ia,hn,hL])
  have nL:AC w (ku I L Rn) lp none (r2.ev Z.tmps) (a.eval k):=AC.mono (fun _ hb=>.inl hb) (fun _ _=>rfl) (fun _ _ h=>h) o9;have:=VS (hs.freeze hR) (hf.freeze Rn) ho hu w9 (aK hn Z kD) nL rJ c1 o5
  have jW:Rn≠[]:=by
   intro e0;cases hm:(r3.ev Z.tmps).names with
   | nil=>rw[hm] at hS;simp at hS
   | cons m ms =>
    have k9:m∈Rn:=by rw[<-xd];exact FT A7 _ m (by rw[hm];exact d7)
    rw[e0] at k9;cases k9
  have e1:apply Z o.dst {v:=.undef,kA:=some (V,.map nH),kj:=Rn}=apply (DF (Al Z.jC) Rn Z) o.dst {v:=.undef,kA:=some (V,.map nH)}:=by
   have hfp:=cq (σ:=Al Z.jC) hn Z nH;cases Rn with
   | nil=>exact iW rfl jW
   | cons r rs =>
    simp only[apply,List.isEmpty_cons,dE,iG,f8,iH];rw[hfp]
  simp only[dE,iG];rw[e1];exact this
theorem sV (hs:SR lp I L Z a.tmps.toList jH w) (hf:Fr cx w0 I0 F0 O0 Hd R e ds I F L w) {x k:jb} {ok:Bool} (ho:o.op=.lookup t x k ok) (hu:cx.P.underlying t=some (.map kt et)) (hz:Hf cx.P et=some z) 
  (U:rx cx.G x=some r1) (O:rx cx.G k=some r2)
  (h:exec (o.dst.getD 0) (Al Z.jC) Z.tmps (.lookup (EQ cx.P kt) z ok r1 r2)=some out):BP cx w0 I0 F0 O0 Hd R e ds F lp jH o a w (apply Z o.dst out):=by
 have A:=BM hs hf.wd U;have hk:=BM hs hf.wd O;obtain⟨zi,zv,hzi,sf,sM⟩:=P1 hz (w:=w) (I:=I) (lp:=lp) (L:=some L);simp only[exec] at h;split at h;·cases h
 rename_i es o5;split at h;·cases h
 rename_i r T;obtain⟨hc,h⟩:=Bx h;cases h;obtain⟨d,hd,xc⟩:=SZ hc;have nk:=hk.shut (J2.names (d:=d) xc);have qO:(zeroValue et).run cx.P w=.ok zv w:=by simp[zeroValue,typeInfo,hzi,sf]
 obtain⟨kg,hents,jS⟩:∃ kg:Array MapEntry,((∃ r clock,a.eval x=.map (some r)/\w.heap[r]?=some (.map kg clock))\/(a.eval x=.map none/\kg=#[]))/\Av w I lp none es (GT kg.toList):=by
  split at o5
  ·rename_i V hrx;rw[hrx] at A;split at o5
   case h_2=>cases o5
   rename_i es0 kD;cases o5;obtain⟨b,C,hL,oR⟩:=Rp A;obtain⟨p,hp,ha⟩:=hs.ob V _ kD;rw[hL] at hp;cases hp;obtain⟨kg,clock,hb,jS⟩:=ha;exact⟨kg,.inl ⟨b,clock,oR,hb⟩,jS⟩
  {rename_i es0 hrx;rw[hrx] at A;cases o5;obtain⟨r,kg,clock,oR,_,hb,jS⟩:=Yi A;exact⟨kg,.inl ⟨r,clock,oR,hb⟩,jS⟩};{rename_i hrx;rw[hrx] at A;cases o5;exact⟨#[],.inr ⟨Yh A,rfl⟩,.nil⟩};{cases o5}
 obtain⟨v,b,hfind,sd,rz⟩:∃ v b,(∃ ans,Instr.findNow d (a.eval k) kg.toList 0=some ans/\((ans=none/\v=zv/\b=false)\/∃ j,ans=some (j,v)/\b=true))/\AC w I lp (some L) (r.getD z) v/\r.isSome=b:=by
  rcases cy xc nk es.length es kg.toList 0 r (dH _) jS T with ⟨q1,q2⟩ | ⟨j,v,x,q1,q2,q3⟩
  {subst q1;exact⟨zv,false,⟨_,q2,.inl ⟨rfl,rfl,rfl⟩⟩,sM,rfl⟩};{subst q1;exact⟨v,true,⟨_,q3,.inr ⟨j,rfl,rfl⟩⟩,q2.lift _,rfl⟩}
 refine B8 hs hf (v':=if ok then .tuple #[v,.bool b] else v) ?_ (.refl w) ?_
 ·obtain⟨ans,f1,f2⟩:=hfind;rcases hents with ⟨rb,clock,oR,hb⟩ | ⟨oR,rfl⟩
  ·have hg:(getObj rb).run cx.P w=.ok (.map kg clock) w:=by simp[getObj,Sem.run,hb]
   rcases f2 with ⟨rfl,rfl,rfl⟩ | ⟨j,rfl,rfl⟩<;>cases ok <;>
    simp[execOp,ho,Instr.lookup,run_underlying hu,oR,hg,Ro (kk:=.i64) xc nk hd,MapKept.run_findKey hd f1,qO]
  ·rcases f2 with ⟨rfl,rfl,rfl⟩ | ⟨j,rfl,rfl⟩<;>cases ok <;>
    simp[execOp,ho,Instr.lookup,run_underlying hu,oR,Ro (kk:=.i64) xc nk hd,MapKept.run_findKey hd (l:=[]) f1,qO]
 {cases ok;{simpa using sd};{simp only[iH];exact .jE _ _ (.cons _ _ _ _ sd (.cons _ _ _ _ (by rw[rz];exact .bool b) .nil))}}
theorem op_iter (hs:SR lp I L Z a.tmps.toList jH w) (hf:Fr cx w0 I0 F0 O0 Hd R e ds I F L w) {x:jb} (ho:o.op=.range t x) (hu:cx.P.underlying t=some .string) {r:RX} (U:rx cx.G x=some r) {d:Nat} (hd:o.dst=some d) (k8:Z.jC[d]?=some [])
  (h:exec (o.dst.getD 0) (Al Z.jC) Z.tmps (.iter r)=some out):BP cx w0 I0 F0 O0 Hd R e ds F lp jH o a w (apply Z o.dst out):=by
 have A:=BM hs hf.wd U;simp only[exec,hd,eN] at h;split at h
 case h_2=>cases h
 rename_i s T;rw[T] at A;cases h
 have:=QN hs hf hd k8 (.refl w) (C:=0) (v:=.it (d,0)) (ob:=.jT s 0) (v':=.pointer (some ⟨w.heap.size,0,none⟩)) (obj:=.stringIter ⟨s.toArray⟩ 0) (by
  simp[execOp,ho,Instr.range,run_underlying hu,FW A]) (fun L' _=>J4 w _) (fun L' hL=>.it _ _ _ hL)
 simpa[hd] using this
theorem op_next (hs:SR lp I L Z a.tmps.toList jH w) (hf:Fr cx w0 I0 F0 O0 Hd R e ds I F L w) {x:jb} (ho:o.op=.next x true) {r:RX} (U:rx cx.G x=some r)
  (h:exec (o.dst.getD 0) (Al Z.jC) Z.tmps (.next r)=some out):BP cx w0 I0 F0 O0 Hd R e ds F lp jH o a w (apply Z o.dst out):=by
 have A:=BM hs hf.wd U;simp only[exec] at h;split at h
 case h_2=>cases h
 rename_i V T;rw[T] at A;split at h
 case h_2=>cases h
 rename_i s pos kD;obtain⟨b,C,hL,oR⟩:=inv_it A;obtain⟨p,hp,ha⟩:=hs.ob V _ kD;rw[hL] at hp;cases hp;have hb:w.heap[b]?=some (.stringIter ⟨s.toArray⟩ pos):=ha;have hg:(getObj b).run cx.P w=.ok (.stringIter ⟨s.toArray⟩ pos) w:=by simp[getObj,Sem.run,hb]
 have hz:(⟨s.toArray⟩:ByteArray).size=s.length:=by simp[ByteArray.size]
 split at h
 ·rename_i jP;cases h;have pc:∀ nK,(setObj b nK).run cx.P w=.ok () {w with heap:=w.heap.setIfInBounds b nK}:=fun nK=>by simp[setObj,Sem.run,hb]
  obtain⟨q1,q2⟩:=MapKept.heap_set (o':=.stringIter ⟨s.toArray⟩ (pos+(Utf8.decode ⟨s.toArray⟩ pos).2)) hb
  refine OG hs hf hL (v':=.tuple #[.bool true,.int .i64 pos,.int .i32 (Utf8.decode ⟨s.toArray⟩ pos).1]) (w':={w with heap:=w.heap.setIfInBounds b (.stringIter ⟨s.toArray⟩ (pos+(Utf8.decode ⟨s.toArray⟩ pos).2))})
   (.inl ?_) rfl rfl rfl (by simp) q2 q1 (.jE _ _ (.cons _ _ _ _ (.bool _) (.cons _ _ _ _ (.int _ _) (.cons _ _ _ _ (.int _ _) .nil))))
  have lf:pos < (⟨s.toArray⟩:ByteArray).size:=by rw[hz];exact jP
  simp only[execOp,ho,oR,Instr.next,Sem.run_bind,hg,Result.andThen_ok,iJ lf,pc,Sem.run_pure,goInt]
 ·rename_i jP;cases h;have lf:¬ pos < (⟨s.toArray⟩:ByteArray).size:=by rw[hz];exact jP
  refine B8 hs hf (v':=.tuple #[.bool false]) ?_ (.refl w) (.jE _ _ (.cons _ _ _ _ (.bool _) .nil));simp only[execOp,ho,oR,Instr.next,Sem.run_bind,hg,Result.andThen_ok,iI lf,Sem.run_pure]
theorem bR (hs:SR lp I L Z a.tmps.toList jH w) (hf:Fr cx w0 I0 F0 O0 Hd R e ds I F L w) {x:jb} {t0:je} {ok:Bool} (ho:o.op=.typeAssert x t0 t ok) {d:jg} (hu:cx.P.underlying t=some d) (hd:∀ ms,d≠.interface ms) (hz:Hf cx.P t=some z)
  {r:RX} (U:rx cx.G x=some r) (h:exec (o.dst.getD 0) (Al Z.jC) Z.tmps (.kJ t z ok r)=some out):BP cx w0 I0 F0 O0 Hd R e ds F lp jH o a w (apply Z o.dst out):=by
 have A:=BM hs hf.wd U;obtain⟨zi,zv,hzi,sf,sM⟩:=P1 hz (w:=w) (I:=I) (lp:=lp) (L:=some L);have qO:(zeroValue t).run cx.P w=.ok zv w:=by simp[zeroValue,typeInfo,hzi,sf]
 simp only[exec] at h;split at h
 ·rename_i u y T;rw[T] at A;obtain⟨yv,oR,hy⟩:=MG A;split at h
  ·rename_i hut;subst hut;cases h;refine B8 hs hf (v':=if ok then .tuple #[yv,.bool true] else yv) ?_ (.refl w) ?_
   ·cases d<;>first
     | exact iW rfl (hd _)
     |(cases ok<;>simp[execOp,ho,oR,Instr.typeAssert,run_underlying hu])
   {cases ok;{simpa using hy};{exact .jE _ _ (.cons _ _ _ _ hy (.cons _ _ _ _ (.bool _) .nil))}}
  ·rename_i hut;obtain⟨hk,h⟩:=Bx h;subst hk;cases h;refine B8 hs hf (v':=.tuple #[zv,.bool false]) ?_ (.refl w) (.jE _ _ (.cons _ _ _ _ sM (.cons _ _ _ _ (.bool _) .nil)))
   cases d<;>first
    | exact iW rfl (hd _)
    | simp[execOp,ho,oR,Instr.typeAssert,run_underlying hu,hut,qO]
 ·rename_i T;rw[T] at A;have oR:=JB A;obtain⟨hk,h⟩:=Bx h;subst hk;cases h;refine B8 hs hf (v':=.tuple #[zv,.bool false]) ?_ (.refl w) (.jE _ _ (.cons _ _ _ _ sM (.cons _ _ _ _ (.bool _) .nil)))
  cases d<;>first
   | exact iW rfl (hd _)
   | simp[execOp,ho,oR,Instr.typeAssert,run_underlying hu,qO]
 {cases h}
end ops
end Go.Ab


namespace Go.Ab
variable{b nc:Bool} {fl:je} {i:Nat} {k:jc} {op:BinOp} {v:i8} {w':i7} {x:jb}
theorem bm:∀ (x y:ji),Ly x y=Op.bytesLess x y:=by
 intro x;induction x with
 | nil=>intro y;cases y<;>rfl
 | cons a x ih=>intro y;cases y with
  | nil=>rfl
  | cons b y=>simp only[Ly,Op.bytesLess,ih]
theorem ba (P:jd) (t:je):match EQ P t with
  | .num=>∃ k,P.underlying t=some (.int k)
  | .str=>P.underlying t=some .string
  | .bool=>P.underlying t=some .bool
  | .iface=>∃ ms,P.underlying t=some (.interface ms)
  | .slice=>∃ e,P.underlying t=some (.slice e)
  | .map=>∃ k e,P.underlying t=some (.map k e)
  | .func=>∃ a b c,P.underlying t=some (.func a b c)
  | .ptr=>∃ e,P.underlying t=some (.pointer e)
  | .plain l=>∃ fs,P.underlying t=some (.struct fs)/\LC P 0 fs.toList=some l/\P.stoodInHeld t=false/\P.eqGuardType P.depth t=false
  | .other=>True:=by
 cases hu:P.underlying t with
 | none=>simp[EQ,hu]
 | some d =>
  cases d with
  | struct fs =>
   simp only[EQ,hu];cases hp:LC P 0 fs.toList with
   | none=>trivial
   | some l =>
    simp only
    by_cases hc:P.stoodInHeld t=false/\P.eqGuardType P.depth t=false;{rw[iJ hc];exact⟨fs,rfl,hp,hc.1,hc.2⟩};{rw[iI hc];trivial}
  | _=>simp[EQ,hu]
section eqs
variable {P:jd} {w:i7} (d:Nat) {t:je}
theorem eqIn_ii {ms} (hu:P.underlying t=some (.interface ms)):(Op.equalIn (d+1) t .nilIface .nilIface).run P w=.ok true w:=by simp[Op.equalIn,run_underlying hu]
theorem Zj {ms} (hu:P.underlying t=some (.interface ms)) (u:je) (v:i8):(Op.equalIn (d+1) t .nilIface (.iface u v)).run P w=.ok false w:=by simp[Op.equalIn,run_underlying hu]
theorem Zg {ms} (hu:P.underlying t=some (.interface ms)) (u:je) (v:i8):(Op.equalIn (d+1) t (.iface u v) .nilIface).run P w=.ok false w:=by simp[Op.equalIn,run_underlying hu]
theorem eqIn_ff {x y z} (hu:P.underlying t=some (.func x y z)):(Op.equalIn (d+1) t .nilFunc .nilFunc).run P w=.ok true w:=by simp[Op.equalIn,run_underlying hu]
theorem eqIn_fv {x y z} (hu:P.underlying t=some (.func x y z)) (f:Fn) (u v:Array i8):(Op.equalIn (d+1) t .nilFunc (.func f u v)).run P w=.ok false w:=by simp[Op.equalIn,run_underlying hu]
theorem eqIn_vf {x y z} (hu:P.underlying t=some (.func x y z)) (f:Fn) (u v:Array i8):(Op.equalIn (d+1) t (.func f u v) .nilFunc).run P w=.ok false w:=by simp[Op.equalIn,run_underlying hu]
theorem Zi {e} (hu:P.underlying t=some (.slice e)) (b:Option Addr) (n c:Nat):(Op.equalIn (d+1) t (.slice none 0 0) (.slice b n c)).run P w=.ok b.isNone w:=by simp[Op.equalIn,run_underlying hu]
theorem eqIn_sn {e} (hu:P.underlying t=some (.slice e)) (b:Addr) (n c:Nat):(Op.equalIn (d+1) t (.slice (some b) n c) (.slice none 0 0)).run P w=.ok false w:=by simp[Op.equalIn,run_underlying hu]
theorem UE {e} (hu:P.underlying t=some (.pointer e)) (b:Option Addr):(Op.equalIn (d+1) t (.pointer none) (.pointer b)).run P w=.ok b.isNone w:=by simp[Op.equalIn,run_underlying hu]
theorem Zh {e} (hu:P.underlying t=some (.pointer e)) (b:Addr):(Op.equalIn (d+1) t (.pointer (some b)) (.pointer none)).run P w=.ok false w:=by simp[Op.equalIn,run_underlying hu]
theorem Zk (hu:P.underlying t=some .bool) (a b:Bool):(Op.equalIn (d+1) t (.bool a) (.bool b)).run P w=.ok (a==b) w:=by simp[Op.equalIn,run_underlying hu]
end eqs
theorem X0 {P:jd} {w:i7} {t:je} (ha:(isAgg t).run P w=.ok false w) {H:Array i8} (h:H[i]?=some v):(part t H i).run P w=.ok v w:=by unfold part;simp[ha,h]
theorem Xq {P:jd} {w:i7} {t:je} {d:jg} (hu:P.underlying t=some d) (hd:Mr d=false):(isAgg t).run P w=.ok false w:=by cases d<;>simp[Mr] at hd<;>simp[isAgg,run_underlying hu]
theorem ab {P:jd} {w:i7} {I:Nat->Prop} {lp:Nat->jj} {L:jr} {xv yv:Array i8} (d:Nat):∀ (fs:List Field) (i:Nat) (l:jm) (H ys:jh) (b:Bool),LC P i fs=some l->JI l H ys=some b ->
  Av w I lp L H (xv.toList.drop i)->Av w I lp L ys (yv.toList.drop i)->(Op.eqFields (d+1) xv yv fs).run P w'=.ok b w':=by
 intro fs;induction fs with
 | nil =>
  intro i l H ys b hp he _ _;cases hp;cases H<;>cases ys<;>simp[JI] at he;subst he;simp[Op.eqFields]
 | cons f fs ih =>
  intro i l H ys b hp he A hy;unfold LC at hp;split at hp
  case isFalse=>cases hp
  rename_i hf;obtain⟨nC,rK⟩:=hf
  have xe:∀ {zs:jh} {zv:Array i8} {z:W} {zs':jh},zs=z :: zs'->Av w I lp L zs (zv.toList.drop i)->∃ v,zv[i]?=some v/\AC w I lp L z v/\Av w I lp L zs' (zv.toList.drop (i+1)):=by
   intro zs zv z zs' hz T;subst hz;cases hd:zv.toList.drop i with
   | nil=>rw[hd] at T;cases T
   | cons v vs =>
    rw[hd] at T;cases T with
    | cons _ _ _ _ U O =>
     have e1:zv.toList[i]?=some v:=by have:=iP (·[0]?) hd;simpa using this
     refine⟨v,by simpa using e1,U,?_⟩;have e2:zv.toList.drop (i+1)=vs:=by have:=iP (List.drop 1) hd;simpa using this
     rw[e2];exact O
  have hnm':f.name ≠ "_":=rK
  have step:∀ {v u:i8} {r:Bool} {dsc:jg},P.underlying f.type=some dsc->Mr dsc=false->xv[i]?=some v->yv[i]?=some u->(Op.equalIn (d+1) f.type v u).run P w'=.ok r w' ->
    (Op.eqFields (d+1) xv yv (f :: fs)).run P w'=if r=true then (Op.eqFields (d+1) xv yv fs).run P w' else .ok false w':=by
   intro v u r dsc hu hd U O h3;simp only[Op.eqFields,hnm',iX,iV,iH,Sem.run_bind,nC,X0 (Xq hu hd) U,X0 (Xq hu hd) O,h3,Result.andThen_ok];cases r<;>simp
  cases hu:P.underlying f.type with
  | none=>simp[hu] at hp
  | some dsc =>
   cases hq:LC P (i+1) fs with
   | none=>cases dsc<;>simp[hu,hq] at hp
   | some l' =>
    cases dsc<;>simp[hu,hq] at hp
    all_goals subst hp
    all_goals cases H with
     | nil=>simp[JI] at he
     | cons x H=>?_
    all_goals cases ys with
     | nil=>cases x<;>simp[JI] at he
     | cons y ys=>?_
    all_goals cases x<;>cases y<;>simp only[JI,reduceCtorEq] at he
    all_goals obtain⟨v,hv,hvr,nn⟩:=xe rfl A
    all_goals obtain⟨u,lH,hur,hy'⟩:=xe rfl hy
    {rw[Gi hvr] at hv;rw[Gi hur] at lH;rw[step hu rfl hv lH (Zk d hu _ _)];split at he;{rename_i pd;rw[iJ pd];exact ih _ _ _ _ _ hq he nn hy'};{rename_i pd;cases he;rw[iI (by rw[pd];simp)]}};{obtain⟨hk,qN⟩:=Bx he;clear he;rw[EP hvr] at hv;rw[EP hur] at lH;have nk:=eq_of_beq hk;subst nk;rw[step hu rfl hv lH (run_equalIn_int w' d _ _ _ _ _ hu)];split at qN;{rename_i pd;rw[iJ pd];exact ih _ _ _ _ _ hq qN nn hy'};{rename_i pd;cases qN;rw[iI (by rw[pd];simp)]}};{rw[FW hvr] at hv;rw[FW hur] at lH;rw[step hu rfl hv lH (run_equalIn_string w' d _ _ _ hu)];simp only[ByteArray.toList_eq] at he |-;split at he;{rename_i pd;rw[iJ (by simpa using pd)];exact ih _ _ _ _ _ hq he nn hy'};{rename_i pd;cases he;rw[iI (by simpa using pd)]}}
section ops
variable {E:Type} {cx:Cx} {w0:i7} {I0 F0:Nat->Prop} {O0:Cw} {Hd:Nat->Option Obj} {R:Ch E} {e:E} {ds:List jf} {F:Nat->Prop} {lp:Nat->jj} {jH:List i8}
variable {I:Nat->Prop} {L:AK} {Z:St} {a:Act} {w:i7} {o:Oper} {out:AQ} {pq:AG}
theorem Y8 (h:isC x=true):∃ v,x=.const v:=by cases x<;>simp[isC] at h;exact⟨_,rfl⟩
theorem Zf {P:jd} {w:i7} {I:Nat->Prop} {lp:Nat->jj} {L:AK} {t:je} {X Y:jb} {x y:W} {xv yv:i8} (A:AC w I lp (some L) x xv) (hy:AC w I lp (some L) y yv) 
  (hc:nc=true->(isC X||isC Y)=true) (h:KY (EQ P t) nc x y=some b) (op:BinOp) :
  (Op.equal t xv yv).run P w'=.ok b w'/\(eqGuard op t X Y xv yv).run P w'=.ok () w'/\binOp .eql t xv yv=(do pure (.bool (<-Op.equal t xv yv)))/\binOp .neq t xv yv=(do pure (.bool (!(<-Op.equal t xv yv)))):=by
 have hu:=ba P t;generalize k8:EQ P t=c at h hu;unfold KY at h;split at h
 all_goals first
  | contradiction
  | skip
 ·obtain⟨ms,hu⟩:=hu;obtain⟨lY,h⟩:=Bx h;cases h;rw[JB A,JB hy];refine⟨?_,?_,by simp[binOp],by simp[binOp]⟩;{exact eqIn_ii 9999 hu}
  ·rcases Bool.or_eq_true_iff.1 (hc lY) with h | h
   {obtain⟨v,rfl⟩:=Y8 h;rw[eqGuard_nil_constL];rfl};{obtain⟨v,rfl⟩:=Y8 h;rw[eqGuard_nil_constR];rfl}
 {obtain⟨ms,hu⟩:=hu;cases h;obtain⟨yv',rfl,_⟩:=MG hy;rw[JB A];refine⟨?_,by rw[eqGuard_nil_iface];rfl,by simp[binOp],by simp[binOp]⟩;exact Zj 9999 hu _ _};{obtain⟨ms,hu⟩:=hu;cases h;obtain⟨xv',rfl,_⟩:=MG A;rw[JB hy];refine⟨?_,by rw[eqGuard_at_iface];rfl,by simp[binOp],by simp[binOp]⟩;exact Zg 9999 hu _ _};{obtain⟨ms,hu⟩:=hu;cases h;obtain⟨yv',rfl,_⟩:=Yj hy;rw[JB A];refine⟨?_,by rw[eqGuard_nil_iface];rfl,by simp[binOp],by simp[binOp]⟩;exact Zj 9999 hu _ _};{obtain⟨ms,hu⟩:=hu;cases h;obtain⟨xv',rfl,_⟩:=Yj A;rw[JB hy];refine⟨?_,by rw[eqGuard_at_iface];rfl,by simp[binOp],by simp[binOp]⟩;exact Zg 9999 hu _ _};{obtain⟨_,_,_,hu⟩:=hu;cases h;rw[QJ A,QJ hy];refine⟨?_,by rw[eqGuard_at_nilFunc];rfl,by simp[binOp],by simp[binOp]⟩;exact eqIn_ff 9999 hu};{obtain⟨_,_,_,hu⟩:=hu;cases h;obtain⟨us,vs,rfl,_,_⟩:=LT hy;rw[QJ A];refine⟨?_,by rw[eqGuard_at_nilFunc];rfl,by simp[binOp],by simp[binOp]⟩;exact eqIn_fv 9999 hu _ _ _};{obtain⟨_,_,_,hu⟩:=hu;cases h;obtain⟨us,vs,rfl,_,_⟩:=LT A;rw[QJ hy];refine⟨?_,by rw[eqGuard_at_func];rfl,by simp[binOp],by simp[binOp]⟩;exact eqIn_vf 9999 hu _ _ _};{obtain⟨_,hu⟩:=hu;cases h;rw[G9 A,G9 hy];refine⟨?_,by rw[eqGuard_at_slice];rfl,by simp[binOp],by simp[binOp]⟩;exact Zi 9999 hu _ _ _}
 ·obtain⟨_,hu⟩:=hu;cases h;rw[G9 A];rcases KG hy with ⟨b,off,cap,c,E',fr,rfl,_⟩ | ⟨hn,_⟩
  {refine⟨?_,by rw[eqGuard_at_slice];rfl,by simp[binOp],by simp[binOp]⟩;exact Zi 9999 hu _ _ _};{simp at hn}
 ·obtain⟨_,hu⟩:=hu;cases h;rw[G9 hy];rcases KG A with ⟨b,off,cap,c,E',fr,rfl,_⟩ | ⟨hn,_⟩
  {refine⟨?_,by rw[eqGuard_at_slice];rfl,by simp[binOp],by simp[binOp]⟩;exact eqIn_sn 9999 hu _ _ _};{simp at hn}
 {obtain⟨_,hu⟩:=hu;cases h;rw[Lv A,Lv hy];refine⟨?_,by rw[eqGuard_at_pointer];rfl,by simp[binOp],by simp[binOp]⟩;exact UE 9999 hu _};{obtain⟨_,hu⟩:=hu;cases h;obtain⟨b,C,hL,rfl⟩:=GK hy;rw[Lv A];refine⟨?_,by rw[eqGuard_at_pointer];rfl,by simp[binOp],by simp[binOp]⟩;exact UE 9999 hu _};{obtain⟨_,hu⟩:=hu;cases h;obtain⟨b,qH,c,E',fr,rfl,_⟩:=M5 hy;rw[Lv A];refine⟨?_,by rw[eqGuard_at_pointer];rfl,by simp[binOp],by simp[binOp]⟩;exact UE 9999 hu _};{obtain⟨_,hu⟩:=hu;cases h;obtain⟨b,C,hL,rfl⟩:=GK A;rw[Lv hy];refine⟨?_,by rw[eqGuard_at_pointer];rfl,by simp[binOp],by simp[binOp]⟩;exact Zh 9999 hu _};{obtain⟨_,hu⟩:=hu;cases h;obtain⟨b,qH,c,E',fr,rfl,_⟩:=M5 A;rw[Lv hy];refine⟨?_,by rw[eqGuard_at_pointer];rfl,by simp[binOp],by simp[binOp]⟩;exact Zh 9999 hu _};{cases h;rw[Gi A,Gi hy];refine⟨?_,by rw[eqGuard_at_bool];rfl,by simp[binOp],by simp[binOp]⟩;exact Zk 9999 hu _ _}
 ·obtain⟨fs,hu,hp,lr,hgt⟩:=hu;obtain⟨us,rfl,_,hxr⟩:=Q2 A;obtain⟨vs,rfl,_,hyr⟩:=Q2 hy;refine⟨?_,run_eqGuard_agg w' op t X Y us vs hgt,by simp[binOp],by simp[binOp]⟩;have hfs:P.fieldsOf t=fs:=by simp[Program.fieldsOf,hu]
  show (Op.equalIn (9999+1) t (.agg us) (.agg vs)).run P w'=_;rw[run_equalIn_struct w' 9999 t us vs (by rw[hfs];exact hu) lr,hfs];exact ab 9998 fs.toList 0 _ _ _ b hp h (by simpa using hxr) (by simpa using hyr)
theorem dB {P:jd} {w:i7} {x y:Int} {t:je} {v:W} (oL:op≠.shl/\op≠.shr) (h:Gx op k x y=some v) :
  ∃ u,(binOp op t (.int k x) (.int k y)).run P w=.ok u w/\∀ (w:i7) (I:Nat->Prop) (lp:Nat->jj) (L:jr),AC w I lp L v u:=by
 have ari:∀ op,(op=.add\/op=.sub\/op=.mul)->binOp op t (.int k x) (.int k y)=Op.intArith op k x y:=by rintro op (rfl | rfl | rfl)<;>simp[binOp]
 have bits:∀ op,(op=.and\/op=.or\/op=.xor\/op=.andNot)->binOp op t (.int k x) (.int k y)=Op.intBits op k x y:=by rintro op (rfl | rfl | rfl | rfl)<;>simp[binOp]
 have cmp:∀ op,(op=.eql\/op=.neq\/op=.lss\/op=.leq\/op=.gtr\/op=.geq)->binOp op t (.int k x) (.int k y)=Op.intCmp op x y:=by rintro op (rfl | rfl | rfl | rfl | rfl | rfl)<;>simp[binOp]
 cases op<;>simp only[Gx,KJ,ed,fV] at h
 case quo =>
  obtain⟨hk,h⟩:=Bx h;cases h;have:¬ y=0:=by simpa using hk
  exact⟨_,by simp[binOp,Op.intDiv,this],fun _ _ _ _=>.int _ _⟩
 case rem =>
  obtain⟨hk,h⟩:=Bx h;cases h;have:¬ y=0:=by simpa using hk
  exact⟨_,by simp[binOp,Op.intDiv,this],fun _ _ _ _=>.int _ _⟩
 case shl=>exact iW rfl oL.1
 case shr=>exact iW rfl oL.2
 case add=>cases h;rw[ari _ (by simp)];exact⟨_,rfl,fun _ _ _ _=>.int _ _⟩
 case sub=>cases h;rw[ari _ (by simp)];exact⟨_,rfl,fun _ _ _ _=>.int _ _⟩
 case mul=>cases h;rw[ari _ (by simp)];exact⟨_,rfl,fun _ _ _ _=>.int _ _⟩
 case and=>cases h;rw[bits _ (by simp)];exact⟨_,rfl,fun _ _ _ _=>.int _ _⟩
 case or=>cases h;rw[bits _ (by simp)];exact⟨_,rfl,fun _ _ _ _=>.int _ _⟩
 case xor=>cases h;rw[bits _ (by simp)];exact⟨_,rfl,fun _ _ _ _=>.int _ _⟩
 case andNot=>cases h;rw[bits _ (by simp)];exact⟨_,rfl,fun _ _ _ _=>.int _ _⟩
 case eql=>cases h;rw[cmp _ (by simp)];exact⟨_,rfl,fun _ _ _ _=>.bool _⟩
 case neq=>cases h;rw[cmp _ (by simp)];exact⟨_,rfl,fun _ _ _ _=>.bool _⟩
 case lss=>cases h;rw[cmp _ (by simp)];exact⟨_,rfl,fun _ _ _ _=>.bool _⟩
 case leq=>cases h;rw[cmp _ (by simp)];exact⟨_,rfl,fun _ _ _ _=>.bool _⟩
 case gtr=>cases h;rw[cmp _ (by simp)];exact⟨_,rfl,fun _ _ _ _=>.bool _⟩
 case geq=>cases h;rw[cmp _ (by simp)];exact⟨_,rfl,fun _ _ _ _=>.bool _⟩
theorem dA {P:jd} {w:i7} {x y:ji} {t:je} {v:W} (h:L4 op x y=some v) :
  ∃ u,(binOp op t (.string ⟨x.toArray⟩) (.string ⟨y.toArray⟩)).run P w=.ok u w/\∀ (w:i7) (I:Nat->Prop) (lp:Nat->jj) (L:jr),AC w I lp L v u:=by
 have hb:∀ op,binOp op t (.string ⟨x.toArray⟩) (.string ⟨y.toArray⟩)=Op.stringOp op ⟨x.toArray⟩ ⟨y.toArray⟩:=fun op=>by cases op<;>simp[binOp]
 rw[hb];cases op<;>simp only[L4] at h
 case add =>
  obtain⟨hk,h⟩:=Bx h;cases h;have hk:=iY hk;unfold U6 at hk;refine⟨.string ⟨(x++y).toArray⟩,?_,fun _ _ _ _=>.str _⟩;rw[run_string_add_sum (P:=P) (w:=w) ⟨x.toArray⟩ ⟨y.toArray⟩ (by simpa[ByteArray.size] using hk),ByteArray.mk_append_mk]
 all_goals first
  |(cases h;exact⟨_,by simp only[Op.stringOp,ByteArray.toList_mk,bm];rfl,fun _ _ _ _=>.bool _⟩)
  |(simp at h)
theorem op_bin (hs:SR lp I L Z a.tmps.toList jH w) (hf:Fr cx w0 I0 F0 O0 Hd R e ds I F L w) {t:je} {x y:jb} (ho:o.op=.binOp op t x y fl) {r1 r2:RX} (U:rx cx.G x=some r1) (O:rx cx.G y=some r2)
  (h:exec (o.dst.getD 0) (Al Z.jC) Z.tmps (.bin op (EQ cx.P t) (isC x||isC y) r1 r2)=some out):BP cx w0 I0 F0 O0 Hd R e ds F lp jH o a w (apply Z o.dst out):=by
 have A:=BM hs hf.wd U;have hy:=BM hs hf.wd O;simp only[exec] at h;obtain⟨v,hv,rfl⟩:=dG.1 h
 suffices hsuf:∃ u,(do eqGuard op t x y (a.eval x) (a.eval y);binOp op t (a.eval x) (a.eval y):Sem i8).run cx.P w=.ok u w/\AC w I lp (some L) v u by
  obtain⟨u,g1,g2⟩:=hsuf;refine B8 hs hf (v':=u) ?_ (.refl w) g2;simp only[execOp,ho];rw[Sem.run_bind,g1];rfl
 unfold EZ at hv;split at hv;{rename_i k n k' m vR mL;rw[vR] at A;rw[mL] at hy;rw[EP A,EP hy,eqGuard_at_int];split at hv;{obtain⟨hk,rJ⟩:=Bx hv;cases rJ;have hk:=iY hk;refine⟨_,?_,.int _ _⟩;simp[binOp,Op.shift,show ¬ m < 0 by omega]};{obtain⟨hk,rJ⟩:=Bx hv;cases rJ;have hk:=iY hk;refine⟨_,?_,.int _ _⟩;simp[binOp,Op.shift,show ¬ m < 0 by omega]};{rename_i n1 n2;obtain⟨hk,rJ⟩:=Bx hv;have hk:=beq_iff_eq.1 hk;subst hk;obtain⟨u,g1,g2⟩:=dB (P:=cx.P) (w:=w) (t:=t) ⟨fun e=>n1 e,fun e=>n2 e⟩ rJ;exact⟨u,by simpa using g1,g2 _ _ _ _⟩}};{rename_i s1 s2 vR mL;rw[vR] at A;rw[mL] at hy;rw[FW A,FW hy,eqGuard_at_string];obtain⟨u,g1,g2⟩:=dA (P:=cx.P) (w:=w) (t:=t) hv;exact⟨u,by simpa using g1,g2 _ _ _ _⟩};{split at hv;{obtain⟨b,hb,rfl⟩:=dG.1 hv;obtain⟨g1,g2,g3,_⟩:=Zf (w':=w) (X:=x) (Y:=y) A hy (fun h=>h) hb .eql;exact⟨.bool b,by simp[g2,g3,g1],.bool b⟩};{obtain⟨b,hb,rfl⟩:=dG.1 hv;obtain⟨g1,g2,_,g3⟩:=Zf (w':=w) (X:=x) (Y:=y) A hy (fun h=>h) hb .neq;exact⟨.bool (!b),by simp[g2,g3,g1],.bool _⟩};{cases hv}}
end ops
end Go.Ab


namespace Go.Ab
variable{α:Type} {G:FR} {r1:RX} {l:List α}
theorem YO {H:List jb} {r2:RX} (h:E6 G H=some [r1,r2]):∃ x y,H=[x,y]/\rx G x=some r1/\rx G y=some r2:=by
 match H,h with
 | [],h=>simp[E6] at h
 | [x],h=>simp only[E6] at h;split at h<;>simp_all
 | [x,y],h =>
  simp only[E6] at h;split at h;{rename_i a b U O;split at O;{rename_i a' b' h3 h4;cases h4;cases O;cases h;exact⟨x,y,rfl,U,h3⟩};{cases O}};{cases h}
 | x :: y :: z :: zs,h =>
  simp only[E6] at h;split at h
  ·rename_i a b U O;split at O
   ·rename_i a' b' h3 h4;split at h4;·cases h4;cases O;cases h
    {cases h4}
   {cases O}
  {cases h}
theorem rxs_one {H:List jb} (h:E6 G H=some [r1]):∃ x,H=[x]/\rx G x=some r1:=by
 match H,h with
 | [],h=>simp[E6] at h
 | [x],h=>simp only[E6] at h;split at h<;>simp_all
 | x :: y :: zs,h =>
  simp only[E6] at h;split at h
  ·rename_i a b U O;split at O;·cases O;cases h
   {cases O}
  {cases h}
theorem S2 {H:Array α} (h:H.toList=l):H=l.toArray:=by rw[<-h,fE]
section ops
variable {E:Type} {cx:Cx} {w0:i7} {I0 F0:Nat->Prop} {O0:Cw} {Hd:Nat->Option Obj} {R:Ch E} {e:E} {ds:List jf} {F:Nat->Prop} {lp:Nat->jj} {jH:List i8}
variable {I:Nat->Prop} {L:AK} {Z:St} {a:Act} {w:i7} {o:Oper} {out:AQ} {pq:AG}
theorem sW (hs:SR lp I L Z a.tmps.toList jH w) (hf:Fr cx w0 I0 F0 O0 Hd R e ds I F L w) (hc:Cr cx.P cx.G o=some pq) (hm:Ma pq=true->∃ d,o.dst=some d/\Z.jC[d]?=some [])
  (hn:FY pq=false) (h:exec (o.dst.getD 0) (Al Z.jC) Z.tmps pq=some out):BP cx w0 I0 F0 O0 Hd R e ds F lp jH o a w (apply Z o.dst out):=by
 cases ho:o.op with
 | move x =>
  simp only[Cr,ho,dG] at hc;obtain⟨r,T,rfl⟩:=hc;cases h;exact wI hs hf (.inl ho) T
 | assign x =>
  simp only[Cr,ho,dG] at hc;obtain⟨r,T,rfl⟩:=hc;cases h;exact wI hs hf (.inr ho) T
 | pick c x y =>
  simp only[Cr,ho] at hc;split at hc;{rename_i c' x' y' U O h3;cases hc;exact op_pick hs hf ho U O h3 h};{cases hc}
 | alloc t =>
  simp only[Cr,ho] at hc;split at hc;{rename_i z hz;cases hc;obtain⟨d,hd,k8⟩:=hm rfl;simp only[exec,hd,eN] at h;cases h;have:=wM hs hf ho hz hd k8;simpa[hd] using this};{cases hc}
 | box t x =>
  simp only[Cr,ho,dG] at hc;obtain⟨r,T,rfl⟩:=hc;obtain⟨d,hd,k8⟩:=hm rfl;exact op_box hs hf ho T hd k8 h
 | build t ps =>
  simp only[Cr,ho] at hc;split at hc;{rename_i fs z hu hz;split at hc;{rename_i rs rz;split at hc;{rename_i hfs;cases hc;exact wQ hs hf ho hu hz hfs rz h};{cases hc}};{cases hc}};{cases hc}
 | buildSlice t len ps =>
  simp only[Cr,ho] at hc;split at hc;{rename_i k qb z rs he rz;split at hc;{rename_i hl;cases hc;obtain⟨d,hd,k8⟩:=hm rfl;exact op_mkSl hs hf ho he rz hl.1 hl.2 hd k8 h};{cases hc}};{cases hc}
 | load t x =>
  simp only[Cr,ho] at hc;split at hc;{rename_i n ag r lP T;cases hc;exact op_load hs hf ho lP T h};{cases hc}
 | store t x y =>
  simp only[Cr,ho] at hc;split at hc;{rename_i n ag r s lP T kV;cases hc;exact wJ hs hf ho lP T kV h};{cases hc}
 | nilCheck x =>
  simp only[Cr,ho,dG] at hc;obtain⟨r,T,rfl⟩:=hc;exact wN hs hf ho T h
 | binOp op t x y yt =>
  simp only[Cr,ho] at hc;split at hc;{rename_i r s T kV;cases hc;exact op_bin hs hf ho T kV h};{cases hc}
 | unOp op t x =>
  simp only[Cr,ho,dG] at hc;obtain⟨r,T,rfl⟩:=hc;exact op_un hs hf ho T h
 | convert src dst x =>
  simp only[Cr,ho] at hc;split at hc;{rename_i k0 k r qj l9 T;cases hc;exact op_conv hs hf ho T qj l9 h};{rename_i k0 r qj l9 T;cases hc;exact sK hs hf ho T qj l9 h};{rename_i r qj l9 T;cases hc;exact wO hs hf ho T qj l9 h};{rename_i el r qj l9 T;split at hc;{rename_i hu3;cases hc;exact bQ hs hf ho T qj l9 hu3 h};{cases hc}};{rename_i el r qj l9 T;split at hc;{rename_i hu3;cases hc;exact bS hs hf ho T qj l9 hu3 h};{cases hc}};{cases hc}
 | makeInterface t x =>
  simp only[Cr,ho] at hc;split at hc;·cases hc
  {rename_i d mu hu;obtain⟨r,T,rfl⟩:=dG.1 hc;cases h;exact op_mkI hs hf ho T hu fun ms e=>mu ms e};{cases hc}
 | makeFunc fn first cap =>
  cases fn with
  | func f =>
   simp only[Cr,ho] at hc;split at hc;{rename_i hfi;obtain⟨rs,rz,rfl⟩:=dG.1 hc;cases h;exact op_mkF hs hf ho (fnNum_k hfi _) (wG hfi _) rz};{cases hc}
  | _=>simp[Cr,ho] at hc
 | makeMap t r =>
  simp only[Cr,ho] at hc;cases r with
  | none =>
   simp only[dL] at hc;subst hc;obtain⟨d,hd,k8⟩:=hm rfl;simp only[exec,hd,eN] at h;cases h;have:=wT hs hf ho hd k8;simpa[hd] using this
  | some r=>simp at hc
 | insert t m k v =>
  simp only[Cr,ho] at hc;split at hc
  ·rename_i kt et m' k' v' hu U O h3;split at hc;·cases hc;exact W5 hs hf (.inl ho) hu U O h3 h
   {cases hc}
  {cases hc}
 | mapUpdate t m k v =>
  simp only[Cr,ho] at hc;split at hc
  ·rename_i kt et m' k' v' hu U O h3;split at hc;·cases hc;exact W5 hs hf (.inr ho) hu U O h3 h
   {cases hc}
  {cases hc}
 | lookup t m k ok =>
  simp only[Cr,ho] at hc;split at hc
  ·rename_i kt et hu;split at hc
   ·rename_i z m' k' hz U O;split at hc;·cases hc;exact sV hs hf ho hu hz U O h
    {cases hc}
   {cases hc}
  {cases hc}
 | makeSlice t l c =>
  simp only[Cr,ho] at hc;split at hc;{rename_i k qb z l' c' he U O;cases hc;obtain⟨d,hd,k8⟩:=hm rfl;exact op_mkS hs hf ho he U O hd k8 h};{cases hc}
 | slice t x lo hi mx =>
  simp only[Cr,ho] at hc;split at hc
  ·rename_i x' lo' oJ mx' U O h3 h4;split at hc
   ·rename_i hu;split at hc
    ·rename_i hmx;cases hc
     have:mx=none:=by
      cases mx with
      | none=>rfl
      | some m =>
       simp only[vQ,dG] at h4;obtain⟨y,_,rfl⟩:=h4;simp at hmx
     subst this;exact az hs hf ho hu U O h3 h
    {cases hc}
   {rename_i el hu;split at hc;{rename_i k qb z he;cases hc;exact wW hs hf ho he U O h3 h4 h};{cases hc}};{cases hc}
  {cases hc}
 | fieldAddr t x f =>
  simp only[Cr,ho] at hc;split at hc
  ·rename_i fs x' hu U;split at hc
   ·rename_i fd hfd;split at hc
    ·rename_i i hi;split at hc;·cases hc
     {rename_i hz;cases hc;exact ZW hs hf ho hu hfd hi hz U h}
    {cases hc}
   {cases hc}
  {cases hc}
 | field t x f =>
  simp only[Cr,ho] at hc;split at hc;{rename_i fs x' hu U;split at hc;{rename_i fd hfd;split at hc;{rename_i n ag lP;cases hc;exact wV hs hf ho hu hfd lP U h};{cases hc}};{cases hc}};{cases hc}
 | indexAddr t x i =>
  simp only[Cr,ho] at hc;split at hc;{rename_i el x' i' hu U O;split at hc;{rename_i k qb z he;cases hc;exact bT hs hf ho he U O h};{cases hc}};{rename_i n el x' i' hu U O;split at hc;{rename_i inf hi;cases hc;exact aA hs hf ho hu hi U O h};{cases hc}};{cases hc}
 | index t x i =>
  simp only[Cr,ho] at hc;split at hc;{rename_i x' i' hu U O;cases hc;exact sO hs hf ho hu U O h};{cases hc}
 | extract x j =>
  simp only[Cr,ho,dG] at hc;obtain⟨r,T,rfl⟩:=hc;exact bU hs hf ho T h
 | range t x =>
  simp only[Cr,ho] at hc;split at hc;{rename_i x' hu U;cases hc;obtain⟨d,hd,k8⟩:=hm rfl;exact op_iter hs hf ho hu U hd k8 h};{cases hc}
 | next x b =>
  cases b with
  | false=>simp[Cr,ho] at hc
  | true =>
   simp only[Cr,ho,dG] at hc;obtain⟨r,T,rfl⟩:=hc;exact op_next hs hf ho T h
 | typeAssert x t0 t ok =>
  simp only[Cr,ho] at hc;split at hc;·cases hc
  {rename_i d mu hu;split at hc;{rename_i z x' hz U;cases hc;exact bR hs hf ho hu (fun ms e=>mu ms e) hz U h};{cases hc}};{cases hc}
 | call c =>
  simp only[Cr,ho] at hc;split at hc;·cases hc
  ·rename_i as has;split at hc;{rename_i f ko;obtain⟨f',_,rfl⟩:=dG.1 hc;simp[FY] at hn}
   ·rename_i ko;split at hc
    ·rename_i t x xe
     obtain⟨x0,hx0,T⟩:=rxs_one has;have oe:=S2 hx0;split at hc;{rename_i hu;cases hc;exact U0 hs hf ho ko xe oe hu (.inl ⟨rfl,rfl⟩) T h};{rename_i el hu;cases hc;exact U0 hs hf ho ko xe oe hu (.inr (.inl ⟨_,rfl,rfl⟩)) T h};{rename_i k el hu;cases hc;exact U0 hs hf ho ko xe oe hu (.inr (.inr ⟨_,_,rfl,rfl⟩)) T h};·cases hc
    {cases hc}
   {rename_i ko;split at hc;{rename_i t u s x xe hau;obtain⟨x0,y0,hx0,vR,mL⟩:=YO has;have oe:=S2 hx0;split at hc;{rename_i k qb z e' el he hu l9;cases hc;obtain⟨d,hd,k8⟩:=hm rfl;exact W6 hs hf ho ko xe hau oe he l9 hu (.inr ⟨_,rfl⟩) vR mL hd k8 h};{rename_i k qb z el he hu l9;cases hc;obtain⟨d,hd,k8⟩:=hm rfl;exact W6 hs hf ho ko xe hau oe he l9 hu (.inl rfl) vR mL hd k8 h};{cases hc}};{cases hc}}
   ·rename_i ko;split at hc
    ·rename_i t d s xe
     obtain⟨x0,y0,hx0,vR,mL⟩:=YO has;have oe:=S2 hx0;split at hc;{rename_i k qb z he;cases hc;exact op_copy hs hf ho ko xe oe he vR mL h};{cases hc}
    {cases hc}
   {rename_i ko;cases hc;exact W4 hs hf ho (mx:=false) ko has h};{rename_i ko;cases hc;exact W4 hs hf ho (mx:=true) ko has h};{cases hc}
 | _=>simp[Cr,ho] at hc
end ops
end Go.Ab


namespace Go.Ab
variable{α:Type} {F2 I1:Nat->Prop} {M:Bp} {P:jd} {Q:Exit->Act->i7->Prop} {Rn S:jl} {args jX fst tmps:Array i8} {b d dep l n n0:Nat} {c:Call} {f g:ja} {fo:jb} {next:Act->i7->Prop} {obs:jp} {p:Option (Nat×Nat)} {ps:List (Option (Nat×Nat))} {r:W} {ro:jj} {st':St} {us:List i8} {v:i8} {vs:jh} {x:Next}
def EO (ro:jj):Fence:={fn:=fun _=>True,depth:=none,alive:=false,round:=ro}
theorem V0 {w:i7} {R:Ending->i7->Prop} (h:CallsIn Fence.wide n P f args w R):CallsIn (EO ro) n P f args w R:=h
theorem ao {assign body:Code} {w:i7} {R:Ending->i7->Prop} (h:RoundIn Fence.wide n P l f tmps assign body w R) :
  RoundIn (EO ro) n P l f tmps assign body w R:=h
section yl
variable {w w':i7} {I I':Nat->Prop} {lp mT:Nat->jj}
mutual
theorem AC.qk {L:jr} {x:W} {v:i8}:AC w I lp L x v->x.kf=false->AC w I mT L x v
 | .undef v,_=>.undef v
 | .bool b,_=>.bool b
 | .int k n,_=>.int k n
 | .str s,_=>.str s
 | .jD,_=>.jD
 | .kB,_=>.kB
 | .jV,_=>.jV
 | .jK,_=>.jK
 | .kL,_=>.kL
 | .po k full a cap hf,_=>.po k full a cap hf
 | .sl k H full b off cap c E fr U O h3 h4 h5 h6 h8 h7,e=>.sl k H full b off cap c E fr U O h3 h4 h5 h6 h8 (Av.qk h7 (SV H (by simpa[W.kf] using e)))
 | .ptr cs o b off c E fr U O h3 h4 h8 h5,e=>.ptr cs o b off c E fr U O h3 h4 h8 (h5.qk (by simpa[W.kf] using e))
 | .agg cs vs U h,e=>.agg cs vs U (h.qk (by simpa[W.kf] using e))
 | .iface t x v h,e=>.iface t x v (h.qk (by simpa[W.kf] using e))
 | .fn f cs us vs hk h,e=>.fn f cs us vs hk (h.qk (by simpa[W.kf] using e))
 | .ke d l h,e=>by simp[W.kf] at e
 | .jE H vs h,e=>.jE H vs (h.qk (by simpa[W.kf] using e))
 | .ki es r kg clock U O h3,e=>.ki es r kg clock U O (h3.qk (by simpa[W.kf] using e))
 | .j8 g t x c E fr U O h3,e=>.j8 g t x c E fr U O h3
 | .ref V o b C h,_=>.ref V o b C h
 | .jQ V k i o b C h,_=>.jQ V k i o b C h
 | .arr V k o n cap b C h hC hn,_=>.arr V k o n cap b C h hC hn
 | .l6 V k h,_=>.l6 V k h
 | .mp V b C h,_=>.mp V b C h
 | .it V b C h,_=>.it V b C h
theorem Av.qk {L:jr} {H:jh} {vs:List i8}:Av w I lp L H vs->BV H=false->Av w I mT L H vs
 | .nil,_=>.nil
 | .cons x v H vs h hs,e=>.cons x v H vs (h.qk (by simpa[BV] using (fP.1 e).1)) (hs.qk (fP.1 e).2)
theorem SV:∀ (H:jh),BV H=false->BV (jM H)=false
 | [],_=>rfl
 | x :: H,e=>by
  have h:=fP.1 e;have A:BV x.cells=false:=by cases x<;>simp_all [W.cells,BV,W.kf]
  have hs:=SV H h.2
  have happ:∀ (ys zs:jh),BV ys=false->BV zs=false->BV (ys++zs)=false:=by
   intro ys;induction ys with
   | nil=>intro zs _ hz;exact hz
   | cons y ys ih =>
    intro zs hy hz;have h:=fP.1 hy;exact fP.2 ⟨h.1,ih zs h.2 hz⟩
  exact happ _ _ A hs
end
mutual
theorem AC.free {L:jr} {x:W} {v:i8}:AC w I lp L x v->x.free=true->AC w' I' lp L x v
 | .undef v,_=>.undef v
 | .bool b,_=>.bool b
 | .int k n,_=>.int k n
 | .str s,_=>.str s
 | .jD,_=>.jD
 | .kB,_=>.kB
 | .jV,_=>.jV
 | .jK,_=>.jK
 | .kL,_=>.kL
 | .po k full a cap hf,e=>by simp[W.free] at e
 | .sl k H full b off cap c E fr U O h3 h4 h5 h6 h8 h7,e=>by simp[W.free] at e
 | .ptr cs o b off c E fr U O h3 h4 h8 h5,e=>by simp[W.free] at e
 | .agg cs vs U h,e=>.agg cs vs U (h.free (by simpa[W.free] using e))
 | .iface t x v h,e=>.iface t x v (h.free (by simpa[W.free] using e))
 | .fn f cs us vs hk h,e=>.fn f cs us vs hk (h.free (by simpa[W.free] using e))
 | .ke d l h,_=>.ke d l h
 | .jE H vs h,e=>.jE H vs (h.free (by simpa[W.free] using e))
 | .ki es r kg clock U O h3,e=>by simp[W.free] at e
 | .j8 g t x c E fr U O h3,e=>by simp[W.free] at e
 | .ref V o b C h,_=>.ref V o b C h
 | .jQ V k i o b C h,_=>.jQ V k i o b C h
 | .arr V k o n cap b C h hC hn,_=>.arr V k o n cap b C h hC hn
 | .l6 V k h,_=>.l6 V k h
 | .mp V b C h,_=>.mp V b C h
 | .it V b C h,_=>.it V b C h
theorem Av.free {L:jr} {H:jh} {vs:List i8}:Av w I lp L H vs->F7 H=true->Av w' I' lp L H vs
 | .nil,_=>.nil
 | .cons x v H vs h hs,e=>.cons x v H vs (h.free (by simpa[F7] using (gp.1 e).1)) (hs.free (gp.1 e).2)
end
theorem Z7:∀ (ys zs:jh),F7 ys=true->F7 zs=true->F7 (ys++zs)=true:=by
 intro ys;induction ys with
 | nil=>intro zs _ hz;exact hz
 | cons y ys ih =>
  intro zs hy hz;have h:=gp.1 hy;exact gp.2 ⟨h.1,ih zs h.2 hz⟩
theorem Z6:∀ (H:jh),F7 H=true->F7 (jM H)=true:=by
 intro H;induction H with
 | nil=>intro _;rfl
 | cons x H ih =>
  intro e;have h:=gp.1 e;refine Z7 _ _ ?_ (ih h.2);have A:=h.1;cases x<;>simp_all [W.cells,F7,W.free]
theorem BR.free {L:AK} {ob:Ob} (h:BR w I lp L ob p) (hf:ob.free=true):BR w I' lp L ob p:=by
 cases p with
 | none=>exact h
 | some p =>
  cases ob with
  | cells ty cs=>obtain⟨c,E,U,O,h4,h3⟩:=h;exact⟨c,E,U,O,h4,h3.free hf⟩
  | arr k kt H=>obtain⟨c,E,U,O,h3,h4,h6,h5⟩:=h;exact⟨c,E,U,O,h3,h4,h6,h5.free (Z6 _ hf)⟩
  | map es=>obtain⟨c,E,U,O⟩:=h;exact⟨c,E,U,O.free hf⟩
  | jT s pos=>exact h
end yl
theorem BR.ofArr {w:i7} {I:Nat->Prop} {lp:Nat->jj} {L L':AK} {ob:Ob} (h:BR w I lp L ob p) (ha:KT ob=true):BR w I lp L' ob p:=by cases ob<;>simp[KT] at ha;cases p<;>exact h
theorem TR {l:List α} {x:α} (h:l[d]?=some x):l.set d x=l:=by apply eO;intro i;by_cases hi:i=d;{subst hi;rw[fS (dU.1 h).1,h]};{rw[eB (eH hi)]}
def PD (ps:List (Option (Nat×Nat))):AK:=CZ (fun _=>none) 0 ps
structure Nb {E:Type} (cx:Cx) (R:Ch E) (lp:Nat->jj) (I F:Nat->Prop) (w:i7) (r:W) (obs:jp) (e:E) (v:i8) (w':i7) (I' F':Nat->Prop) (ps:List (Option (Nat×Nat))):Prop where
 ext:CI I F w I' F' w'
 sep:IF I' F' w'
 wd:cx.Wd I' w'
 re:R.rel e I' F' w'
 len:ps.length=obs.length
 ob:∀ (j:Nat) (ob:Ob) (p:Option (Nat×Nat)),obs[j]?=some ob->ps[j]?=some p->BR w' I' lp (PD ps) ob p
 new:∀ (j b C:Nat),ps[j]?=some (some (b,C))->w.heap.size<=b/\b < w'.heap.size/\¬ I' b/\¬ F' b
 inj:∀ (j j' b C C':Nat),ps[j]?=some (some (b,C))->ps[j']?=some (some (b,C'))->j=j'
 rep:AC w' I' lp (some (PD ps)) r v
 arr:obs.all KT=true
def YJ {E:Type} (cx:Cx) (R:Ch E) (lp:Nat->jj) (I F:Nat->Prop) (w:i7) (r:W) (obs:jp) (e:E):Ending->i7->Prop
 | .returned v,w'=>∃ I' F' ps,Nb cx R lp I F w r obs e v w' I' F' ps
 | _,_=>False
def Rw {E:Type} (cx:Cx) (lp:Nat->jj) (R:Ch E) (Ir qE:Nat->Prop) (wr:i7) (h:AA E):Prop :=
 ∀ (d:Nat) (args:jh) (e:E) (b:Bool) (e':E) (l:Nat),h d args e=some (b,e')->lp d=some l ->
  ∀ (vs:List i8) (I F:Nat->Prop) (w:i7),Av w I (fun _=>none) none args vs->CI Ir qE wr I F w->IF I F w->cx.Wd I w->R.rel e I F w ->
  YieldAt Fence.wide 0 cx.P l vs.toArray w fun
   | .returned v,w'=>v=.bool b/\∃ I' F',CI I F w I' F' w'/\IF I' F' w'/\cx.Wd I' w'/\R.rel e' I' F' w'
   | _,_=>False
def Dx (P:jd) (g:ja):Prop:=∃ fn,P.funcs[g]?=some fn/\(fn.name == "runtime.NumGoroutine")=false/\fn.body.isSome=true
def Fy (cx:Cx) (call:Ik):Prop :=
 ∀ (E:Type) (h:AA E) (R:Ch E) (dep:Nat) (lp:Nat->jj) (Ir qE:Nat->Prop) (wr:i7) (g:ja) (args:jh) (e:E) (r:W) (obs:jp) (e':E),
  call E h dep g args e=some (r,obs,e')->Rw cx lp R Ir qE wr h->(∀ d l,lp d=some l->d < dep) ->
  Dx cx.P g/\∀ (I F:Nat->Prop) (w:i7) (vs:List i8),CI Ir qE wr I F w->IF I F w->cx.Wd I w->R.rel e I F w->Av w I lp none args vs ->
   CallsIn Fence.wide 0 cx.P g vs.toArray w (YJ cx R lp I F w r obs e')
def GC (j4:List i8) (dst:jj) (v:i8):List i8 :=
 match dst with
 | some d=>j4.set d v
 | none=>j4
def xf (cx:Cx) (g:ja) (Z:St) (vs:jh) (out:AQ):Prop :=
  ∀ (E:Type) (w0:i7) (I0 F0:Nat->Prop) (O0:Cw) (Hd:Nat->Option Obj) (R:Ch E) (e:E) (ds:List jf) (I F:Nat->Prop) (lp:Nat->jj) (L:AK) (j4 jH us:List i8) (w:i7) (dst:jj),
   SR lp I L Z j4 jH w->Fr cx w0 I0 F0 O0 Hd R e ds I F L w->Av w I lp (some L) vs us->(∀ d,dst=some d->Z.jC[d]?=some []) ->
   ∃ v w',(callFunc g us.toArray).run cx.P w=.ok (.value v) w'/\∃ I' L',SR lp I' L' (apply Z dst {out with v:=out.v.jR (FK (dst.getD 0))}) (GC j4 dst v) jH w'/\Fr cx w0 I0 F0 O0 Hd R e ds I' F L' w'
def SpOK (cx:Cx) (sp:ja->(Nm->jk)->jh->js):Prop :=
 ∀ (g:ja) (Z:St) (vs:jh) (out:AQ),sp g (Al Z.jC) vs=some out->xf cx g Z vs out\/Dx cx.P g /\
  ∀ (E:Type) (w0:i7) (I0 F0:Nat->Prop) (O0:Cw) (Hd:Nat->Option Obj) (R:Ch E) (e:E) (ds:List jf) (I F:Nat->Prop) (lp:Nat->jj) (L:AK) (j4 jH us:List i8) (w:i7) (dst:jj),
   SR lp I L Z j4 jH w->Fr cx w0 I0 F0 O0 Hd R e ds I F L w->Av w I lp (some L) vs us->(∀ d,dst=some d->Z.jC[d]?=some []) ->
   CallsIn Fence.wide 0 cx.P g us.toArray w fun
    | .returned v,w'=>∃ I' L',SR lp I' L' (apply Z dst {out with v:=out.v.jR (FK (dst.getD 0))}) (GC j4 dst v) jH w'/\Fr cx w0 I0 F0 O0 Hd R e ds I' F L' w'
    | _,_=>False
def IoOK (cx:Cx) (io:ja->Nat->(Nm->jk)->jh->js):Prop :=
 ∀ (g:ja) (d0:Nat) (Z:St) (vs:jh) (out:AQ),io g d0 (Al Z.jC) vs=some out->Dx cx.P g /\
  ∀ (E:Type) (w0:i7) (I0 F0:Nat->Prop) (O0:Cw) (Hd:Nat->Option Obj) (R:Ch E) (e:E) (ds:List jf) (I F:Nat->Prop) (lp:Nat->jj) (L:AK) (j4 jH us:List i8) (w:i7) (dst:jj),
   SR lp I L Z j4 jH w->Fr cx w0 I0 F0 O0 Hd R e ds I F L w->Av w I lp (some L) vs us->(∀ d,dst=some d->d=d0/\Z.jC[d]?=some [])->(dst=none->out.new=[]\/out.slot.isSome=true) ->
   CallsIn Fence.wide 0 cx.P g us.toArray w fun
    | .returned v,w'=>∃ I' L',SR lp I' L' (apply Z dst out) (GC j4 dst v) jH w'/\Fr cx w0 I0 F0 O0 Hd R e ds I' F L' w'
    | _,_=>False
structure vS (cx:Cx) (M:Bp):Prop where
 sp:SpOK cx M.sp
 io:IoOK cx M.io
 flag:∀ g d σ vs out,M.io g d σ vs=some out->out.io=true
section frames
variable {E:Type} {cx:Cx} {w0:i7} {I0 F0:Nat->Prop} {O0:Cw} {Hd:Nat->Option Obj} {R:Ch E} {e e':E} {ds:List jf} {F F':Nat->Prop} {lp:Nat->jj} {jH j4:List i8}
variable {I I':Nat->Prop} {L:AK} {Z:St} {a:Act} {w w':i7} {o:Oper}
theorem Fr.offI (hf:Fr cx w0 I0 F0 O0 Hd R e ds I F L w) (A:CI I F w I' F' w') (U:b < w.heap.size) (O:¬ I b) (h3:¬ F b):¬ I' b/\¬ F' b/\w'.heap[b]?=w.heap[b]? :=
 ⟨fun h=>by rcases A.nh b h with h | h | h<;>first | exact O h | exact h3 h | omega,
  fun h=>by rcases A.nB b h with h | h<;>first | exact h3 h | omega,A.jG b U h3⟩
theorem Fr.called (hf:Fr cx w0 I0 F0 O0 Hd R e ds I F L w) (A:CI I F w I' F' w') (hi:IF I' F' w') (hw:cx.Wd I' w') (T:R.rel e' I' F' w'):Fr cx w0 I0 F0 O0 Hd R e' ds I' F' L w' where
 ext:=hf.ext.trans A
 sep:=hi
 oF:=hf.oF
 lB V b C hn:=by obtain⟨U,O,h3,h4⟩:=hf.lB V b C hn;obtain⟨g1,g2,_⟩:=hf.offI A O h3 h4;have:=A.size;exact⟨U,by omega,g1,g2⟩
 inj:=hf.inj
 wd:=hw
 re:=T
 qi:=hf.qi.move A.size fun D d1 d2 d3 d4 d5=>by obtain⟨g1,g2,g3⟩:=hf.offI A d1 d3 d4;exact⟨g3,g1,g2,d5⟩
 py b ob hb:=by obtain⟨d1,d2,d3,d4,d5⟩:=hf.py b ob hb;obtain⟨g1,g2,g3⟩:=hf.offI A d1 d2 d3;have:=A.size;exact⟨by omega,g1,g2,d4,g3.trans d5⟩
theorem SR.called (hs:SR lp I L Z j4 jH w) (hf:Fr cx w0 I0 F0 O0 Hd R e ds I F L w) (A:CI I F w I' F' w'):SR lp I' L Z j4 jH w' :=
 hs.keeps A.nA (fun b hb=>A.qG hf.sep b hb) fun V b C hn=>(hf.offI A (hf.lB V b C hn).2.1 (hf.lB V b C hn).2.2.1 (hf.lB V b C hn).2.2.2).2.2
theorem Fr.place (hf:Fr cx w0 I0 F0 O0 Hd R e ds I F L w) (hn0:w0.heap.size<=n0) (hp:∀ (j b C:Nat),ps[j]?=some (some (b,C))->n0<=b/\b < w.heap.size/\¬ I b/\¬ F b)
  (hL:∀ V b C,L V=some (some (b,C))->b < n0) (hm:∀ D,D∈ds.map (·.target)->∀ b,D=.collected b->b < n0) (hh:∀ b ob,Hd b=some ob->b < n0)
  (hi:∀ (j j' b C C':Nat),ps[j]?=some (some (b,C))->ps[j']?=some (some (b,C'))->j=j'):Fr cx w0 I0 F0 O0 Hd R e ds I F (CZ L d ps) w where
 ext:=hf.ext
 sep:=hf.sep
 oF:=hf.oF
 lB V b C hn:=by unfold CZ at hn;split at hn;{obtain⟨U,O,h3,h4⟩:=hp _ _ _ hn;exact⟨.inl (by omega),O,h3,h4⟩};{exact hf.lB V b C hn}
 inj V kR b C C' hn kW:=by unfold CZ at hn kW;split at hn<;>split at kW;{rename_i e1 e2;exact Prod.ext (e1.trans e2.symm) (hi _ _ _ _ _ hn kW)};{have:=hp _ _ _ hn;have:=hL kR b C' kW;omega};{have:=hp _ _ _ kW;have:=hL V b C hn;omega};{exact hf.inj V kR b C C' hn kW}
 wd:=hf.wd
 re:=hf.re
 qi:=by
  have key:∀ ds rs,Ee w0.heap.size I F L w ds rs->(∀ D,D∈ds.map (·.target)->∀ b,D=.collected b->b < n0)->Ee w0.heap.size I F (CZ L d ps) w ds rs:=by
   intro ds rs h;induction h with
   | nil=>intro _;exact .nil
   | call d' ds rs hd _ ih=>intro hm;exact .call d' ds rs hd (ih fun D' nP b hb=>hm D' (by simp at nP |-;exact .inr nP) b hb)
   | cons D ds rs U O h3 h4 h5 h6 h7 _ ih =>
    intro hm;refine .cons D ds rs U O h3 h4 (fun V C hn=>?_) h6 h7 (ih fun D' nP b hb=>hm D' (by simp at nP |-;exact .inr nP) b hb);unfold CZ at hn;split at hn;{have U:=(hp _ _ _ hn).1;have O:=hm (.collected D) (by simp) D rfl;omega};{exact h5 V C hn}
  exact key ds _ hf.qi hm
 py b ob hb:=by obtain⟨d1,d2,d3,d4,d5⟩:=hf.py b ob hb;refine⟨d1,d2,d3,fun V C hn=>?_,d5⟩;unfold CZ at hn;split at hn;{have:=(hp _ _ _ hn).1;have:=hh b ob hb;omega};{exact d4 V C hn}
theorem Ee.lt {lo:Nat} {I F:Nat->Prop} {L:AK} {w:i7} {ds rs:List jf} (h:Ee lo I F L w ds rs):∀ D,D∈ds.map (·.target)->∀ b,D=.collected b->b < w.heap.size:=by
 induction h with
 | nil=>intro D hD;simp at hD
 | call d ds rs hd _ ih =>
  intro D' nP b hb;simp only[dI,dM] at nP;rcases nP with rfl | nP;{exact iW hb (hd b)};{exact ih D' nP b hb}
 | cons D ds rs U O h3 h4 h5 h6 h7 _ ih =>
  intro D' nP b hb;simp only[dI,dM] at nP;rcases nP with rfl | nP;·cases hb;exact O
  {exact ih D' nP b hb}
theorem taken (hs:SR lp I L Z a.tmps.toList jH w) (hf:Fr cx w0 I0 F0 O0 Hd R e ds I F L w) (hc:Nb cx R lp I F w r obs e' v w' I' F' ps)
  (hd:∀ d,o.dst=some d->Z.jC[d]?=some []) :
  ∃ L',SR lp I' L' (apply Z o.dst {v:=r.jR (FK (o.dst.getD 0)),new:=obs}) (a.put o.dst v).tmps.toList jH w'/\Fr cx w0 I0 F0 O0 Hd R e' ds I' F' L' w':=by
 have nj:=hs.called hf hc.ext;have lV:=hf.called hc.ext hc.sep hc.wd hc.re;rw[I6];cases rL:o.dst with
 | none=>exact⟨L,nj,lV⟩
 | some d =>
  have k8:=hd d rL;have jP:∀ V b C,L V=some (some (b,C))->b < w.heap.size:=fun V b C hn=>(hf.lB V b C hn).2.1;have mM:∀ V p,PD ps V=some p->CZ L d ps (FK d V)=some p:=by intro V p hp;unfold PD CZ at hp;unfold CZ FK;split at hp;{simpa using hp};·cases hp
  refine⟨CZ L d ps,?_,lV.place (n0:=w.heap.size) hf.ext.size hc.new jP (hf.qi.lt) (fun b ob hb=>(hf.py b ob hb).1) hc.inj⟩;have lh:=nj.news k8 obs ps hc.len fun j ob p U O=>(hc.ob j ob p U O).ofArr (d6.1 hc.arr ob (d9 U));have pc:(if obs.isEmpty then Z.jC else Z.jC.set d obs)=Z.jC.set d obs:=by split;{rename_i he;rw[eZ] at he;subst he;exact (TR k8).symm};{rfl}
  show SR lp I' (CZ L d ps) {tmps:=Z.tmps.set d (r.jR (FK d)),jC:=if obs.isEmpty then Z.jC else Z.jC.set d obs,jG:=Z.jG} (a.tmps.toList.set d v) jH w';rw[pc];exact lh.put d (hc.rep.rename mM)
def Pw (cx:Cx) (w0:i7) (I0 F0:Nat->Prop) (O0:Cw) (Hd:Nat->Option Obj) (R:Ch E) (lp:Nat->jj) (jH:List i8) (o:Oper) (a:Act) (w:i7) (st':St) (e':E):Prop :=
 ∀ (ro:jj) (next:Act->i7->Prop) (Q:Exit->Act->i7->Prop),
  (∀ v' w' I' F' L',SR lp I' L' st' (a.put o.dst v').tmps.toList jH w'->Fr cx w0 I0 F0 O0 Hd R e' a.defers I' F' L' w'->next (a.put o.dst v') w')->o.wpIn (EO ro) 0 cx.P a w next Q
theorem xg (mu:∀ c,o.op≠.defer c) (h:o.uponIn (EO ro) 0 cx.P a next Q ((execOp a.eval o).run cx.P w)):o.wpIn (EO ro) 0 cx.P a w next Q :=
 ⟨fun _ _=>trivial,by rw[Oper.semAt_plain _ _ _ mu];exact h⟩
theorem WT (mu:∀ c,o.op≠.defer c) (h:BP cx w0 I0 F0 O0 Hd R e a.defers F lp jH o a w st'):Pw cx w0 I0 F0 O0 Hd R lp jH o a w st' e:=by intro ro next Q hK;obtain⟨v',w',I',L',T,hs,hf⟩:=h;refine xg mu ?_;rcases T with T | ⟨T,rfl⟩;{rw[T];exact hK v' w' I' F L' hs hf};{rw[T];exact hK undef w' I' F L' hs hf}
theorem sX {f:jb} (ho:o.op=.call c) (ko:c.callee=.value f) (hv:a.eval f=.func (.func g) fst jX) (he:Dx cx.P g) :
  (execOp a.eval o).run cx.P w=.ok (.enter g (fst++(c.args.map a.eval)++jX)) w:=by
 obtain⟨fn,oT,lQ,mj⟩:=he;have hb:¬ fn.body=none:=by intro h;rw[h] at mj;cases mj
 have lQ:¬ fn.name = "runtime.NumGoroutine":=by intro h;rw[h] at lQ;simp at lQ
 simp[execOp,ho,resolve,ko,hv,Deferred.ofValue,invoke,callFunc,oT,lQ,hb]
theorem sY {f:jb} (ho:o.op=.call c) (ko:c.callee=.value f) (hv:a.eval f=.func (.func g) fst jX) :
  (execOp a.eval o).run cx.P w=(callFunc g (fst++(c.args.map a.eval)++jX)).run cx.P w:=by
 simp[execOp,ho,resolve,ko,hv,Deferred.ofValue,invoke]
theorem bD {f:jb} (ho:o.op=.call c) (ko:c.callee=.value f) (hv:a.eval f=.func (.yield l) #[] #[]) {w':i7} (hy:(Instr.yield l (c.args.map a.eval)).run cx.P w=.ok x w') :
  (execOp a.eval o).run cx.P w=.ok x w':=by
 simp[execOp,ho,resolve,ko,hv,Deferred.ofValue,invoke,hy]
theorem CallsIn.og {F:Fence} {f:ja} {w:i7} {R R':Ending->i7->Prop} (h:CallsIn F n P f args w R) (T:∀ e w',R e w'->R' e w'):CallsIn F n P f args w R' :=
 ⟨h.1,fun cs sj=>let ⟨e,w',fr,r,s,x⟩:=h.2 cs sj;⟨e,w',fr,T _ _ r,s,x⟩⟩
theorem Mx {f:jb} (ho:o.op=.call c) (ko:c.callee=.value f) (hv:a.eval f=.func (.func g) fst jX) (he:Dx cx.P g) 
  (h:CallsIn Fence.wide 0 cx.P g (fst++(c.args.map a.eval)++jX) w fun
   | .returned v,w'=>∃ I' F' L',SR lp I' L' st' (a.put o.dst v).tmps.toList jH w'/\Fr cx w0 I0 F0 O0 Hd R e' a.defers I' F' L' w'
   | _,_=>False):Pw cx w0 I0 F0 O0 Hd R lp jH o a w st' e':=by
 intro ro next Q hK;refine xg (fun c' e=>by rw[ho] at e;cases e) ?_;rw[sX ho ko hv he,Oper.uponIn_enter];refine⟨fun h=>by simp[EO] at h,V0 (CallsIn.og h fun e w' T=>?_)⟩;cases e with
 | returned v=>obtain⟨I',F',L',U,O⟩:=T;exact hK v w' I' F' L' U O
 | panicked chain=>exact T.elim
 | outgrown=>exact T.elim
theorem V8 {f:jb} (ho:o.op=.call c) (ko:c.callee=.value f) (hv:a.eval f=.func (.yield l) #[] #[]) 
  (h:YieldAt Fence.wide 0 cx.P l (c.args.map a.eval) w fun
   | .returned v,w'=>∃ I' F' L',SR lp I' L' st' (a.put o.dst v).tmps.toList jH w'/\Fr cx w0 I0 F0 O0 Hd R e' a.defers I' F' L' w'
   | _,_=>False):Pw cx w0 I0 F0 O0 Hd R lp jH o a w st' e':=by
 intro ro next Q hK;refine xg (fun c' e=>by rw[ho] at e;cases e) ?_;obtain⟨fn,tmps,assign,body,hy,ql⟩:=h;rw[bD ho ko hv hy,Oper.uponIn_round];refine⟨fun h=>by simp[EO] at h,ao (RoundIn.mono ql fun e w' T=>?_)⟩;cases e with
 | returned v=>obtain⟨I',F',L',U,O⟩:=T;exact hK v w' I' F' L' U O
 | panicked chain=>exact T.elim
 | outgrown=>exact T.elim
def Fa:Ch Unit:=⟨fun _ _ _ _=>True,fun _ _ _ _ _ _ _ _ _ _=>trivial⟩
theorem Qp (cx:Cx) (lp:Nat->jj) (Ir qE:Nat->Prop) (wr:i7):Rw cx lp Fa Ir qE wr AI:=by intro d args e b e' l h;simp[AI] at h
theorem WJ (hM:Fy cx M.call) (hs:SR lp I L Z a.tmps.toList jH w) (hf:Fr cx w0 I0 F0 O0 Hd R e ds I F L w) (hI1:IF I1 (fun _=>False) w) (hw1:cx.Wd I1 w)
  (jS:Av w I1 lp none vs us) (hy:BV vs=false) (hc:M.call Unit AI 0 g vs ()=some (r,obs,())) :
  Dx cx.P g/\CallsIn Fence.wide 0 cx.P g us.toArray w fun
   | .returned v,w'=>∃ I' F' ps,Nb cx Fa lp I1 (fun _=>False) w r obs () v w' I' F' ps
   | _,_=>False:=by
 obtain⟨U,O⟩:=hM Unit AI Fa 0 (fun _=>none) I1 (fun _=>False) w g vs () r obs () hc (Qp cx _ _ _ _) (fun d l h=>by cases h);refine⟨U,CallsIn.og (O I1 (fun _=>False) w us (CI.refl _ _ _) hI1 hw1 trivial (jS.qk hy)) fun e w' T=>?_⟩;cases e with
 | returned v =>
  obtain⟨I',F',ps,lu⟩:=T;have hl:sJ (fun _=>none) lp:=fun d l h=>by cases h
  exact⟨I',F',ps,lu.ext,lu.sep,lu.wd,lu.re,lu.len,fun j ob p U O=>(lu.ob j ob p U O).mono (fun _ h=>h) (fun _ _=>rfl) hl (fun _ _ _=>rfl),lu.new,lu.inj,AC.mono (fun _ h=>h) (fun _ _=>rfl) hl lu.rep,lu.arr⟩
 | panicked chain=>exact T.elim
 | outgrown=>exact T.elim
theorem Fr.quiet (hf:Fr cx w0 I0 F0 O0 Hd R e ds I F L w) (A:CI I (fun _=>False) w I' F2 w') (hi:∀ b,I' b->b < w'.heap.size) (hw:cx.Wd I' w'):CI I F w I' F w'/\IF I' F w'/\R.rel e I' F w':=by have hk:∀ b,b < w.heap.size->w'.heap[b]?=w.heap[b]?:=fun b hb=>A.jG b hb fun h=>h;refine⟨⟨A.os,A.tape,A.output,A.size,fun b hb _=>hk b hb,A.nA,fun b hb=>?_,fun b hb=>.inl hb⟩,⟨hi,fun b hb=>⟨fm (hf.sep.fB b hb).1 A.size,fun h=>?_⟩⟩,?_⟩;{rcases A.nh b hb with h | h | h;{exact .inl h};{exact h.elim};{exact .inr (.inr h)}};{rcases A.nh b h with h | h | h;{exact (hf.sep.fB b hb).2 h};{exact h};{have:=(hf.sep.fB b hb).1;omega}};{refine R.mZ e I I' F w w' hf.re A.nA (fun b hb=>hk b ?_) A.size;rcases hb with hb | hb;{exact hf.sep.iB b hb};{exact (hf.sep.fB b hb).1}}
theorem WD (hM:Fy cx M.call) (hs:SR lp I L Z a.tmps.toList jH w) (hf:Fr cx w0 I0 F0 O0 Hd R e a.defers I F L w) {f:jb} (ho:o.op=.call c) (ko:c.callee=.value f) 
  (hv:a.eval f=.func (.func g) fst jX) (jS:Av w I lp none vs (fst++(c.args.map a.eval)++jX).toList) (hy:BV vs=false) (hc:M.call Unit AI 0 g vs ()=some (r,obs,()))
  (hd:∀ d,o.dst=some d->Z.jC[d]?=some []) :
  Dx cx.P g/\CallsIn Fence.wide 0 cx.P g (fst++(c.args.map a.eval)++jX) w fun
   | .returned v,w'=>∃ I' F' L',SR lp I' L' (apply Z o.dst {v:=r.jR (FK (o.dst.getD 0)),new:=obs}) (a.put o.dst v).tmps.toList jH w'/\Fr cx w0 I0 F0 O0 Hd R e a.defers I' F' L' w'
   | _,_=>False:=by
 obtain⟨U,O⟩:=WJ hM hs hf (I1:=I) ⟨hf.sep.iB,fun b hb=>hb.elim⟩ hf.wd jS hy hc;rw[fE] at O;refine⟨U,CallsIn.og O fun en w' T=>?_⟩;cases en with
 | returned v =>
  obtain⟨I',F2,ps,lu⟩:=T;obtain⟨q1,q2,q3⟩:=hf.quiet lu.ext (fun b hb=>lu.sep.iB b hb) lu.wd;have hce2:Nb cx R lp I F w r obs e v w' I' F ps:=⟨q1,q2,lu.wd,q3,lu.len,lu.ob,fun j b C hj=>by obtain⟨n1,n2,n3,n4⟩:=lu.new j b C hj;exact⟨n1,n2,n3,fun hb=>by have:=(hf.sep.fB b hb).1;omega⟩,lu.inj,lu.rep,lu.arr⟩;obtain⟨L',g1,g2⟩:=taken hs hf hce2 hd;exact⟨I',F,L',g1,g2⟩
 | panicked chain=>exact T.elim
 | outgrown=>exact T.elim
theorem sZ (hM:Fy cx M.call) (hs:SR lp I L Z a.tmps.toList jH w) (hf:Fr cx w0 I0 F0 O0 Hd R e a.defers I F L w) {f:jb} (ho:o.op=.call c) (ko:c.callee=.value f) 
  (hv:a.eval f=.func (.func g) fst jX) (jS:Av w (ku I L Rn) lp none vs (fst++(c.args.map a.eval)++jX).toList) (hy:BV vs=false) (hc:M.call Unit AI 0 g vs ()=some (r,obs,()))
  (nD:r.free=true) (sg:obs.all Ob.free=true) (hd:∀ d,o.dst=some d->Z.jC[d]?=some []) :
  Dx cx.P g/\CallsIn Fence.wide 0 cx.P g (fst++(c.args.map a.eval)++jX) w fun
   | .returned v,w'=>∃ I' F' L',SR lp I' L' (apply Z o.dst {v:=r.jR (FK (o.dst.getD 0)),new:=obs}) (a.put o.dst v).tmps.toList jH w'/\Fr cx w0 I0 F0 O0 Hd R e a.defers I' F' L' w'
   | _,_=>False:=by
 have nQ:=hf.freeze Rn;obtain⟨U,O⟩:=WJ hM hs hf (I1:=ku I L Rn) ⟨nQ.sep.iB,fun b hb=>hb.elim⟩ nQ.wd jS hy hc;rw[fE] at O;refine⟨U,CallsIn.og O fun en w' T=>?_⟩;cases en with
 | returned v =>
  obtain⟨I',F2,ps,lu⟩:=T;have hk:∀ b,b < w.heap.size->w'.heap[b]?=w.heap[b]?:=fun b hb=>lu.ext.jG b hb fun h=>h;have hIk:∀ b,I b->w'.heap[b]?=w.heap[b]?:=fun b hb=>hk b (hf.sep.iB b hb);have hwd:cx.Wd I w':=cx.mZ I I w w' hf.wd (fun _ h=>h) hIk lu.ext.size;have qm:CI I (fun _=>False) w I (fun _=>False) w':=⟨lu.ext.os,lu.ext.tape,lu.ext.output,lu.ext.size,fun b hb _=>hk b hb,fun _ h=>h,fun _ h=>.inl h,fun _ h=>h.elim⟩;obtain⟨q1,q2,q3⟩:=hf.quiet qm (fun b hb=>fm (hf.sep.iB b hb) lu.ext.size) hwd;have hce2:Nb cx R lp I F w r obs e v w' I F ps:=⟨q1,q2,hwd,q3,lu.len,fun j ob p hj hp=>(lu.ob j ob p hj hp).free (d6.1 sg ob (d9 hj)),fun j b C hj=>by obtain⟨n1,n2,n3,n4⟩:=lu.new j b C hj;exact⟨n1,n2,fun hb=>by have:=hf.sep.iB b hb;omega,fun hb=>by have:=(hf.sep.fB b hb).1;omega⟩,lu.inj,lu.rep.free nD,lu.arr⟩;obtain⟨L',g1,g2⟩:=taken hs hf hce2 hd;exact⟨I,F,L',g1,g2⟩
 | panicked chain=>exact T.elim
 | outgrown=>exact T.elim
structure Ref {E:Type} (cx:Cx) (lp:Nat->jj) (R:Ch E) (h:AA E) (dep:Nat) (w0:i7) (I0 F0:Nat->Prop):Prop where
 hand:∃ Ir qE wr,Rw cx lp R Ir qE wr h/\CI Ir qE wr I0 F0 w0
 dep:∀ d l,lp d=some l->d < dep
theorem Z4 (h:Z.jC[d]?=some []):(DF (Al Z.jC) Rn Z).jC[d]?=some []:=by
 have key:∀ (R:jl) (σ:List jp),σ[d]?=some []->(R.foldl (fun jC V=>Bv jC V BO) σ)[d]?=some []:=by
  intro R;induction R with
  | nil=>intro σ h;exact h
  | cons r R ih =>
   intro σ h;refine ih _ ?_;show (Bv σ r BO)[d]?=some [];unfold Bv;split;{rename_i l hl;by_cases hrd:r.1=d;{rw[hrd] at hl;rw[h] at hl;cases hl;rw[hrd,fS (dU.1 h).1];rfl};{rw[eB hrd];exact h}};{exact h}
 refine key _ _ ?_;simp[EK,h]
theorem XJ (jW:Rn≠[]) (dst:jj) (v:W) (obs:jp) :
  apply Z dst {v,new:=obs,kj:=Rn}=apply (DF (Al Z.jC) Rn Z) dst {v,new:=obs}:=by
 cases Rn with
 | nil=>exact iW rfl jW
 | cons r rs=>simp[apply]
theorem XU (h:S.isEmpty=false):Bn (Al Z.jC) A7 S≠[]:=by
 intro e0;cases S with
 | nil=>simp at h
 | cons m ms =>
  have:m∈Bn (Al Z.jC) A7 (m :: ms):=FT A7 _ m d7;rw[e0] at this;cases this
theorem s6 {h:AA E} (hM:Fy cx M.call) (kG:vS cx M) (jY:Ref cx lp R h dep w0 I0 F0) (hs:SR lp I L Z a.tmps.toList jH w) (hf:Fr cx w0 I0 F0 O0 Hd R e a.defers I F L w)
  (ho:o.op=.call c) (ko:c.callee=.value fo) {f:RX} {args:jz} (U:rx cx.G fo=some f) (O:E6 cx.G c.args.toList=some args)
  (hd:∀ d,o.dst=some d->Z.jC[d]?=some []) {out:AQ} (A:D3 M h dep (o.dst.getD 0) (Al Z.jC) Z.tmps f args e=some (out,e')) (qP:LD o.dst out=true) :
  Pw cx w0 I0 F0 O0 Hd R lp jH o a w (apply Z o.dst out) e':=by
 have rM:=BM hs hf.wd U;have kX:=Q5 hs hf.wd O;have lj:(c.args.toList.map a.eval).toArray=c.args.map a.eval:=by rw[<-hT,fE]
 unfold D3 at A;split at A
 ·rename_i d T;rw[T] at rM;obtain⟨l,hv,hl⟩:=Za rM;obtain⟨Ir,qE,wr,hand,hxr⟩:=jY.hand;simp only at A;split at A
  ·rename_i hS;rw[eZ] at hS;obtain⟨hy,A⟩:=Bx A;split at A
   ·rename_i b e1 hh;cases A;refine V8 ho ko hv ?_;have hy':BV (args.map (RX.ev Z.tmps))=false:=by simpa using hy
    have k8:=(kX.shut hS).qk (mT:=fun _=>none) hy';have:=hand d _ e b e' l hh hl _ I F w k8 (hxr.trans hf.ext) hf.sep hf.wd hf.re;obtain⟨fn,tmps,assign,body,q1,q2⟩:=this;refine⟨fn,tmps,assign,body,by rw[<-lj];exact q1,RoundIn.mono q2 fun en w' hq=>?_⟩;cases en with
    | returned v =>
     obtain⟨rfl,I',F',p1,p2,p3,p4⟩:=hq;exact⟨I',F',L,(hs.called hf p1).wH o.dst (.bool b),hf.called p1 p2 p3 p4⟩
    | panicked chain=>exact hq.elim
    | outgrown=>exact hq.elim
   {cases A}
  ·rename_i hS;obtain⟨hk,A⟩:=Bx A;simp only[dF,fO] at hk;split at A
   ·rename_i b e1 hh;cases A;have hS:(AU (args.map (RX.ev Z.tmps))).isEmpty=false:=by simpa using hS
    have jW:=XU (Z:=Z) hS;have k8:=(PT hs hk.2 kX fun V hn=>FT _ _ V hn).qk (mT:=fun _=>none) hk.1;have na:=hs.freeze hk.2;have nQ:=hf.freeze (Bn (Al Z.jC) A7 (AU (args.map (RX.ev Z.tmps))));refine V8 ho ko hv ?_;have:=hand d _ e b e' l hh hl _ _ F w k8 (hxr.trans nQ.ext) nQ.sep nQ.wd nQ.re;obtain⟨fn,tmps,assign,body,q1,q2⟩:=this;refine⟨fn,tmps,assign,body,by rw[<-lj];exact q1,RoundIn.mono q2 fun en w' hq=>?_⟩;cases en with
    | returned v =>
     obtain⟨rfl,I',F',p1,p2,p3,p4⟩:=hq;rw[XJ jW];exact⟨I',F',_,(na.called nQ p1).wH o.dst (.bool b),nQ.called p1 p2 p3 p4⟩
    | panicked chain=>exact hq.elim
    | outgrown=>exact hq.elim
   {cases A}
 ·rename_i g cap T;rw[T] at rM;obtain⟨fst,jX,hv,hfk,pa⟩:=LT rM;have kE:Av w I lp (some L) (BI g (args.map (RX.ev Z.tmps)) cap) (fst++(c.args.map a.eval)++jX).toList:=by simpa[eL] using Tc hfk pa kX
  simp only at A;generalize BI g (args.map (RX.ev Z.tmps)) cap=vall at A kE;generalize Ba g=g0 at A hv;split at A
  ·rename_i out1 xi;cases A;rcases kG.sp g0 Z _ _ xi with q2 | ⟨q1,q2⟩
   {obtain⟨v',w',j9,I',L',p1,p2⟩:=q2 E w0 I0 F0 O0 Hd R e a.defers I F lp L a.tmps.toList jH _ w o.dst hs hf kE hd;rw[fE] at j9;exact WT (fun c' e=>by rw[ho] at e;cases e) ⟨v',w',I',L',.inl (by rw[sY ho ko hv];exact j9),by rw[I6];exact p1,p2⟩};refine Mx ho ko hv q1 ?_;have:=q2 E w0 I0 F0 O0 Hd R e a.defers I F lp L a.tmps.toList jH _ w o.dst hs hf kE hd;rw[fE] at this;refine CallsIn.og this fun en w' hq=>?_;cases en with
   | returned v =>
    obtain⟨I',L',p1,p2⟩:=hq;refine⟨I',F,L',?_,p2⟩;rw[I6];exact p1
   | panicked chain=>exact hq.elim
   | outgrown=>exact hq.elim
  ·rename_i xi;split at A
   ·rename_i lF;split at A
    case h_2=>cases A
    rename_i out1 xi;cases A;obtain⟨q1,q2⟩:=kG.io g0 _ Z _ _ xi;refine Mx ho ko hv q1 ?_;have rF:=kG.flag _ _ _ _ _ xi;have:=q2 E w0 I0 F0 O0 Hd R e a.defers I F lp L a.tmps.toList jH _ w o.dst hs hf kE (fun d oU=>⟨by rw[oU];rfl,hd d oU⟩) (fun hn=>by simp only[LD,rF,hn,dK,ic,eQ,gq,eZ] at qP;exact qP);rw[fE] at this;refine CallsIn.og this fun en w' hq=>?_;cases en with
    | returned v =>
     obtain⟨I',L',p1,p2⟩:=hq;refine⟨I',F,L',?_,p2⟩;rw[I6];exact p1
    | panicked chain=>exact hq.elim
    | outgrown=>exact hq.elim
   rename_i lF;split at A
   ·rename_i hS;rw[eZ] at hS;have k8:=kE.shut hS;split at A
    ·rename_i hy;split at A
     ·rename_i r obs e1 hc;cases A;obtain⟨Ir,qE,wr,hand,hxr⟩:=jY.hand;obtain⟨q1,q2⟩:=hM E h R dep lp Ir qE wr g0 _ e r obs e' hc hand jY.dep;refine Mx ho ko hv q1 ?_;have:=q2 I F w _ (hxr.trans hf.ext) hf.sep hf.wd hf.re k8;rw[fE] at this;refine CallsIn.og this fun en w' hq=>?_;cases en with
      | returned v =>
       obtain⟨I',F',ps,lu⟩:=hq;obtain⟨L',g1,g2⟩:=taken hs hf lu hd;exact⟨I',F',L',g1,g2⟩
      | panicked chain=>exact hq.elim
      | outgrown=>exact hq.elim
     {cases A}
    {rename_i hy;split at A;{rename_i r obs u hc;cases A;obtain⟨q1,q2⟩:=WD hM hs hf ho ko hv k8 (by simpa using hy) hc hd;exact Mx ho ko hv q1 q2};{cases A}}
   ·rename_i hS;obtain⟨hk,A⟩:=Bx A;simp only[dF,fO] at hk;have k8:=PT hs hk.2 kE fun V hn=>FT _ _ V hn;split at A
    ·rename_i r obs u hc;cases A;by_cases mv:(r.free&&obs.all Ob.free&&!M.kr g0)=true;{rw[iJ mv];rw[dF,dF] at mv;replace mv:=mv.1;obtain⟨q1,q2⟩:=sZ hM hs hf ho ko hv k8 hk.1 hc mv.1 mv.2 hd;exact Mx ho ko hv q1 q2}
     ·rw[iI mv];have hS:(AU vall).isEmpty=false:=by simpa using hS
      have jW:=XU (Z:=Z) hS;have na:=hs.freeze hk.2;have nQ:=hf.freeze (Bn (Al Z.jC) A7 (AU vall));rw[XJ jW];obtain⟨q1,q2⟩:=WD hM na nQ ho ko hv k8 hk.1 hc (fun d hdd=>Z4 (hd d hdd));exact Mx ho ko hv q1 q2
    {cases A}
 {cases A}
end frames
end Go.Ab


namespace Go.Ab
variable{D:Nm->Prop} {G:FR} {L':AK} {P:jd} {Q:Exit->Act->i7->Prop} {args:jz} {b:Bool} {ds:List jf} {f:RX} {id:Nat} {l':jm} {oI:List jp} {ops:Array Oper} {ro:jj} {j5:jv} {jU:St}
theorem s7 {o:Oper} (h:Cr P G o=some (.call f args)) :
  ∃ c fo,o.op=.call c/\c.callee=.value fo/\rx G fo=some f/\E6 G c.args.toList=some args:=by
 cases ho:o.op with
 | call c =>
  simp only[Cr,ho] at h;split at h;·cases h
  ·rename_i as has;split at h;{rename_i fo ko;obtain⟨f',hf,he⟩:=dG.1 h;cases he;exact⟨c,fo,rfl,ko,hf,has⟩}
   all_goals (repeat' split at h)<;>first | contradiction | cases h
 | _ =>
  exfalso;simp only[Cr,ho] at h
  repeat' split at h
  all_goals first
   | contradiction
   |(cases h;done)
   |(simp[dG] at h;done)
section ops
variable {E:Type} {cx:Cx} {w0:i7} {I0 F0:Nat->Prop} {O0:Cw} {Hd:Nat->Option Obj} {R:Ch E} {e e':E} {F F':Nat->Prop} {lp:Nat->jj} {jH j4:List i8}
variable {I I':Nat->Prop} {L:AK} {Z st':St} {a:Act} {w w':i7} {o:Oper} {M:Bp} {h:AA E} {dep:Nat}
theorem step_op (hM:Fy cx M.call) (kG:vS cx M) (jY:Ref cx lp R h dep w0 I0 F0) (hs:SR lp I L Z a.tmps.toList jH w) (hf:Fr cx w0 I0 F0 O0 Hd R e a.defers I F L w) {out:AQ}
  (A:Ej M h dep (Dy cx.P cx.G o) Z e=some (out,e')):Pw cx w0 I0 F0 O0 Hd R lp jH o a w (apply Z o.dst out) e':=by
 unfold Ej at A;obtain⟨nD,A⟩:=Bx A;cases hc:Cr cx.P cx.G o with
 | none=>simp[Dy,hc,wB,exec] at A
 | some pq =>
  have oL:(Dy cx.P cx.G o).op=pq:=by simp[Dy,hc,wB]
  have hds:(Dy cx.P cx.G o).dst=o.dst:=rfl
  have xj:Ma pq=true->(∀ d,o.dst=some d->Z.jC[d]?=some [])/\(FY pq=false->∃ d,o.dst=some d):=by
   intro hmk;unfold Gm at nD;rw[oL,hmk,hds] at nD;simp only[iH] at nD;constructor;{intro d hd;rw[hd] at nD;simp only at nD;split at nD;{assumption};·cases nD}
   ·intro hnc;cases hd:o.dst with
    | some d=>exact⟨d,rfl⟩
    | none =>
     rw[hd] at nD;cases pq<;>simp[FY] at hnc nD
  rw[oL,hds] at A;cases xk:FY pq with
  | true =>
   cases pq<;>simp[FY] at xk;rename_i f args;obtain⟨c,fo,ho,ko,U,O⟩:=s7 hc;obtain⟨A,qP⟩:=SI A;exact s6 hM kG jY hs hf ho ko U O (xj rfl).1 A qP
  | false =>
   have nn:exec (o.dst.getD 0) (Al Z.jC) Z.tmps pq=some out/\e'=e:=by cases pq<;>simp[FY] at xk<;>(simp only at A;split at A<;>simp_all)
   obtain⟨nn,rfl⟩:=nn;refine WT ?_ (sW hs hf hc (fun hmk=>?_) xk nn);{intro c hd;simp[Cr,hd] at hc};{obtain⟨g1,g2⟩:=xj hmk;obtain⟨d,hd⟩:=g2 xk;exact⟨d,hd,g1 d hd⟩}
theorem SR.qQ (hs:SR lp I L Z j4 jH w) [DecidablePred D] (nR:∀ V,Al oI V=if D V then none else (Al Z.jC V).map (Ob.sub fun m=>if D m then some none else none)) :
  SR lp I (fun V=>if D V then none else L V) {tmps:=Bf (fun m=>if D m then some none else none) Z.tmps,jC:=oI,jG:=Bf (fun m=>if D m then some none else none) Z.jG} j4 jH w:=by
 have np:Fj w I lp L (some fun V=>if D V then none else L V) (fun _=>True) (fun m=>if D m then some none else none):=by intro m q _ hq;by_cases hm:D m;{simp[hm]};{simp[hm,hq]}
 refine hs.subst (w':=w) (fun _ h=>h) (fun _ _=>rfl) np ?_ ?_;{intro V ob hl;rw[nR] at hl;by_cases hd:D V;{simp[hd] at hl};{simp only[hd,iG] at hl |-;obtain⟨p9,pr,rfl⟩:=dG.1 hl;obtain⟨p,hp,ha⟩:=hs.ob V p9 pr;exact⟨p,hp,ha.subst (fun _ h=>h) (fun _ _=>rfl) np (fun _ _=>trivial) fun _ _ _=>rfl⟩}};{intro V hl;rw[nR] at hl;by_cases hd:D V;{simp[hd]};{simp only[hd,iG] at hl |-;exact hs.mf V (by simpa using hl)}}
theorem Fr.qQ (hf:Fr cx w0 I0 F0 O0 Hd R e ds I F L w) (hL:∀ V p,L' V=some p->L V=some p):Fr cx w0 I0 F0 O0 Hd R e ds I F L' w :=
 hf.own rfl rfl rfl (dH _) (fun _ _ _=>rfl) (fun _ h=>h) (fun _ h=>.inl h)
  (fun V b C hn=>⟨(hf.lB V b C (hL _ _ hn)).2.1,(hf.lB V b C (hL _ _ hn)).2.2.1,.inr ⟨V,C,hL _ _ hn⟩⟩)
  (fun V kR b C C' U O=>hf.inj V kR b C C' (hL _ _ U) (hL _ _ O))
theorem OH (H:jm) (hs:SR lp I L Z j4 jH w) (hf:Fr cx w0 I0 F0 O0 Hd R e ds I F L w):∃ L',SR lp I L' (FQ H Z) j4 jH w/\Fr cx w0 I0 F0 O0 Hd R e ds I F L' w:=by
 unfold FQ;split;{exact⟨L,hs,hf⟩}
 ·refine⟨fun V=>if H.contains V.1=true then none else L V,?_,hf.qQ fun V p hn=>?_⟩
  ·have:=hs.qQ (D:=fun V=>H.contains V.1=true) (oI:=(Z.jC.map (·.map (Ob.sub fun m=>if H.contains m.1=true then some none else none))).zipIdx.map fun x=>if H.contains x.2=true then [] else x.1) (by
    intro V;unfold Al;rw[dT,fG,dT];cases h0:Z.jC[V.1]? with
    | none=>simp
    | some l =>
     simp only[ed,eu];by_cases hd:H.contains V.1=true
     ·simp only[hd,iH];rfl
     ·simp only[hd];simp)
   exact this
  ·change (if H.contains V.1=true then none else L V)=some p at hn;split at hn;·cases hn
   {exact hn}
theorem XL (hs:SR lp I L Z a.tmps.toList jH w) (h:Ew (ops.toList.map (Dy cx.P cx.G)) (Dy cx.P cx.G o) Z.tmps=some b):Region.wanted o (yielded ops a.tmps)=b:=by
 unfold Ew at h;have hg:(Dy cx.P cx.G o).guard=o.guard:=rfl;rw[hg] at h;unfold Region.wanted;cases hgu:o.guard with
 | none=>rw[hgu] at h;simpa using h
 | some jw =>
  obtain⟨j,want⟩:=jw;rw[hgu] at h;simp only[dT,gi] at h;cases hj:ops[j]? with
  | none=>rw[hj] at h;simp at h
  | some p =>
   rw[hj] at h;simp only[ed] at h;have hpd:(Dy cx.P cx.G p).dst=p.dst:=rfl;rw[hpd] at h;cases hd:p.dst with
   | none=>rw[hd] at h;simp at h
   | some d =>
    rw[hd] at h;simp only at h;cases A:Z.tmps[d]? with
    | none=>rw[dO,A] at h;simp at h
    | some x =>
     obtain⟨v,hv,T⟩:=hs.tm.get A;rw[gi] at hv;rw[dO,A] at h;simp only[eN] at h;show (yielded ops a.tmps j==some want)=b;split at h
     ·rename_i b';cases h;have hy:yielded ops a.tmps j=some b':=by simp[yielded,hj,hd,hv,Gi T]
      rw[hy];cases b'<;>cases want<;>rfl
     ·cases h;obtain⟨vs,rfl,_⟩:=Zb T;have hy:yielded ops a.tmps j=none:=by simp[yielded,hj,hd,hv]
      rw[hy];rfl
     {cases h}
inductive Jo (M:Bp) {E:Type} (h:AA E) (dep:Nat) (j5:jv):jm->St->E->St->E->Prop
 | nil (Z:St) (e:E):Jo M h dep j5 [] Z e Z e
 | cons (i:Nat) (rest:jm) (o:A8) (Z xn jU:St) (e e1 e2:E) (ho:j5[i]?=some o) (hs:stepG M h dep j5 o Z e=some (xn,e1)) (T:Jo M h dep j5 rest xn e1 jU e2):Jo M h dep j5 (i :: rest) Z e jU e2
theorem Wi (a:Act) (dst:jj) (v:i8):(a.put dst v).defers=a.defers:=by cases dst<;>rfl
theorem S3 (hM:Fy cx M.call) (kG:vS cx M) (jY:Ref cx lp R h dep w0 I0 F0):∀ {l:jm} {Z jU:St} {e e2:E},Jo M h dep (ops.toList.map (Dy cx.P cx.G)) l Z e jU e2 ->
  ∀ {a:Act} {w:i7} {I F:Nat->Prop} {L:AK},SR lp I L Z a.tmps.toList jH w->Fr cx w0 I0 F0 O0 Hd R e a.defers I F L w ->
  (∀ a' w' I' F' L',SR lp I' L' jU a'.tmps.toList jH w'->Fr cx w0 I0 F0 O0 Hd R e2 a'.defers I' F' L' w'->wpOpsIn (EO ro) 0 cx.P ops Q l' a' w')->wpOpsIn (EO ro) 0 cx.P ops Q (l++l') a w:=by
 intro l Z jU e e2 j9;induction j9 with
 | nil Z e=>intro a w I F L hs hf hQ;exact hQ a w I F L hs hf
 | cons i rest ro' Z xn jU e e1 e2 ho oM _ ih =>
  intro a w I F L hs hf hQ;simp only[dT,gi,dG] at ho;obtain⟨o,ho,rfl⟩:=ho;simp only[fW,wpOpsIn,ho];unfold stepG at oM;split at oM;{rename_i hw;rw[XL hs hw];simp only[iH];unfold Ku at oM;split at oM;{rename_i out lG kd;cases oM;exact step_op hM kG jY hs hf kd ro _ Q fun v' w' I' F' L' g1 g2=>ih g1 (by rw[Wi];exact g2) hQ};{cases oM}};{rename_i hw;rw[XL hs hw];cases oM;refine⟨fun _ _=>trivial,?_⟩;exact ih (hs.wH o.dst (.jE [] #[] .nil)) (by rw[Wi];exact hf) hQ};{cases oM}
theorem VJ:∀ (k:Nat) {Z jU:St} {e e2:E},FJ M h dep j5 (j5.drop k) Z e=some (jU,e2)->Jo M h dep j5 ((List.range j5.length).drop k) Z e jU e2:=by
 have key:∀ (n k:Nat) {Z jU:St} {e e2:E},j5.length - k=n->FJ M h dep j5 (j5.drop k) Z e=some (jU,e2)->Jo M h dep j5 ((List.range j5.length).drop k) Z e jU e2:=by
  intro n;induction n with
  | zero =>
   intro k Z jU e e2 hn T;rw[eP (by omega)] at T;rw[eP (by simp;omega)];simp only[FJ,dL,eC] at T;obtain⟨rfl,rfl⟩:=T;exact .nil Z e
  | succ n ih =>
   intro k Z jU e e2 hn T;have hk:k < j5.length:=by omega
   rw[eX hk] at T;rw[eX (by simpa using hk)];simp only[FJ] at T;split at T;{rename_i xn e1 nj;rw[ij];exact .cons k _ j5[k] Z xn jU e e1 e2 (dQ hk) nj (ih (k+1) (by omega) T)};{cases T}
 intro k Z jU e e2 T;exact key _ k rfl T
theorem ZV (hM:Fy cx M.call) (kG:vS cx M) (jY:Ref cx lp R h dep w0 I0 F0) {e2:E}
  (T:FJ M h dep (ops.toList.map (Dy cx.P cx.G)) (ops.toList.map (Dy cx.P cx.G)) (FQ (DB (ops.toList.map (Dy cx.P cx.G))) Z) e=some (jU,e2))
  (hs:SR lp I L Z a.tmps.toList jH w) (hf:Fr cx w0 I0 F0 O0 Hd R e a.defers I F L w)
  (hQ:∀ a' w' I' F' L',SR lp I' L' jU a'.tmps.toList jH w'->Fr cx w0 I0 F0 O0 Hd R e2 a'.defers I' F' L' w'->Q .normal a' w'):(Code.region id ops false).wpIn (EO ro) 0 cx.P Q a w:=by
 obtain⟨L',kV,kK⟩:=OH (DB (ops.toList.map (Dy cx.P cx.G))) hs hf;refine wpIn_region ?_;have:=VJ 0 (by simpa using T);simp only[eJ,dY,fL] at this;have:=S3 (l':=[]) (Q:=Q) (ro:=ro) hM kG jY this kV kK hQ
 rwa [ft] at this
end ops
end Go.Ab


namespace Go.Ab
variable{E α:Type} {M:Bp} {R S l:jl} {args:jz} {b:Bool} {c:TC} {dst k:Nat} {v x:W} {h:AA E} {y:α}
def Ag (R:jl) (σ σ':Nm->jk):Prop:=∀ V∈R,σ V=σ' V
mutual
theorem W.sub_congr {f g:Nm->Option jk}:∀ (x:W),(∀ V∈x.names,f V=g V)->x.sub f=x.sub g
 | .agg cs,h=>by simp only[W.sub];rw[Kc cs (by simpa[W.names] using h)]
 | .iface t x,h=>by simp only[W.sub];rw[W.sub_congr x (by simpa[W.names] using h)]
 | .fn k cap,h=>by simp only[W.sub];rw[Kc cap (by simpa[W.names] using h)]
 | .jE H,h=>by simp only[W.sub];rw[Kc H (by simpa[W.names] using h)]
 | .ref V o,h=>by simp only[W.sub,h V (by simp[W.names])]
 | .jQ V k i o,h=>by simp only[W.sub,h V (by simp[W.names])]
 | .arr V k o n,h=>by simp only[W.sub,h V (by simp[W.names])]
 | .mp V,h=>by simp only[W.sub,h V (by simp[W.names])]
 | .it V,h=>by simp only[W.sub,h V (by simp[W.names])]
 | .undef,_=>rfl
 | .bool _,_=>rfl
 | .int _ _,_=>rfl
 | .str _,_=>rfl
 | .jD,_=>rfl
 | .kB,_=>rfl
 | .jV,_=>rfl
 | .jK,_=>rfl
 | .kL,_=>rfl
 | .sl _ _ _,_=>rfl
 | .ptr _ _,_=>rfl
 | .ke _,_=>rfl
 | .ki _,_=>rfl
 | .j8 _ _,_=>rfl
theorem Kc {f g:Nm->Option jk}:∀ (H:jh),(∀ V∈AU H,f V=g V)->Bf f H=Bf g H
 | [],_=>rfl
 | x :: H,h=>by
  simp only[Bf];rw[W.sub_congr x (fun V hn=>h V (ec _ hn)),Kc H fun V hn=>h V (eh _ hn)]
end
theorem Ob.sub_congr {f g:Nm->Option jk} (o:Ob) (h:∀ V∈o.names,f V=g V):o.sub f=o.sub g:=by
 cases o with
 | cells ty cs=>simp only[Ob.sub];rw[Kc cs h]
 | arr k kt H=>rfl
 | map es=>rfl
 | jT s p=>rfl
mutual
theorem lN:∀ (x:W),x.sub (fun _=>none)=x
 | .agg cs=>by simp[W.sub,kT cs]
 | .iface t x=>by simp[W.sub,lN x]
 | .fn g cap=>by simp[W.sub,kT cap]
 | .jE H=>by simp[W.sub,kT H]
 | .undef | .bool _ | .int _ _ | .str _ | .jD | .kB | .jV | .jK | .kL | .sl _ _ _ | .ptr _ _ | .ke _ | .ki _ | .j8 _ _ | .ref _ _ | .jQ _ _ _ _ | .arr _ _ _ _ | .mp _ | .it _=>by simp[W.sub]
theorem kT:∀ (H:jh),Bf (fun _=>none) H=H
 | []=>rfl
 | x :: H=>by simp[Bf,lN x,kT H]
end
theorem Ob.lN (o:Ob):o.sub (fun _=>none)=o:=by cases o<;>simp[Ob.sub,kT]
def RD (σ:Nm->jk) (l:jl):jl:=l.flatMap fun V=>((σ V).map Ob.names).getD []
theorem My (σ:Nm->jk) (d:Nat) (l:jl):Bn σ (d+1) l=l++Bn σ d (RD σ l):=rfl
theorem S5 {σ:Nm->jk}:∀ (d:Nat) (l:jl) (V:Nm),V∈l->V∈Bn σ d l
 | 0,_,_,h=>h
 | _+1,_,_,h=>ec _ h
theorem Mz {σ:Nm->jk}:∀ (d:Nat) (l l':jl),(∀ V∈l,V∈l')->∀ V∈Bn σ d l,V∈Bn σ d l':=by
 intro d;induction d with
 | zero=>intro l l' h;exact h
 | succ d ih =>
  intro l l' h V hn;rw[My] at hn |-;rcases dX.1 hn with hn | hn;{exact ec _ (h V hn)}
  {refine eh _ (ih _ _ (fun m hm=>?_) V hn);obtain⟨k,hk,hm⟩:=fH.1 hm;exact fH.2 ⟨k,h k hk,hm⟩}
theorem bX {σ σ':Nm->jk} (h:Ag l σ σ'):RD σ l=RD σ' l:=by
 unfold RD;induction l with
 | nil=>rfl
 | cons x l ih=>rw[fg,fg,h x d7,ih fun V hn=>h V (dZ _ hn)]
theorem NY {σ σ':Nm->jk}:∀ (d:Nat) (l:jl),Ag (Bn σ d l) σ σ'->Bn σ d l=Bn σ' d l:=by
 intro d;induction d with
 | zero=>intro l _;rfl
 | succ d ih =>
  intro l h;rw[My] at h;have U:Ag l σ σ':=fun V hn=>h V (ec _ hn);rw[My,My,<-bX U,ih _ fun V hn=>h V (eh _ hn)]
theorem ZR {σ σ':Nm->jk}:∀ (d:Nat) (o:Ob),Ag (Bn σ d o.names) σ σ'->Je σ (d+1) o=Je σ' (d+1) o:=by
 intro d;induction d with
 | zero =>
  intro o h;simp only[Je];exact Ob.sub_congr o fun V hn=>by rw[h V hn]
 | succ d ih =>
  intro o h;rw[Je,Je];refine Ob.sub_congr o fun V hn=>?_;have U:=h V (S5 _ _ _ hn);rw[<-U];cases ho:σ V with
  | none=>rfl
  | some ob =>
   simp only[ed];rw[ih ob fun m hm=>h m ?_];rw[My];refine eh _ (Mz d _ _ (fun k hk=>fH.2 ⟨V,hn,by simpa[ho] using hk⟩) m hm)
theorem NX {σ σ':Nm->jk} (h:Ag (Bn σ A7 S) σ σ'):∀ V∈S,BX σ V=BX σ' V:=by
 intro V hn;have U:=h V (S5 _ _ _ hn);unfold BX;rw[<-U];cases ho:σ V with
 | none=>rfl
 | some ob =>
  simp only[ed];rw[show A7=2+1 from rfl,ZR 2 ob fun m hm=>h m ?_];rw[show A7=2+1 from rfl,My];exact eh _ (Mz 2 _ _ (fun k hk=>fH.2 ⟨V,hn,by simpa[ho] using hk⟩) m hm)
theorem SM {σ σ':Nm->jk} (h:Ag R σ σ'):D9 σ R=D9 σ' R:=by
 unfold D9
 have:∀ (l:jl),Ag l σ σ'->(l.all fun V=>(((σ V).map Ob.names).getD []).all fun m=>R.contains m)=(l.all fun V=>(((σ' V).map Ob.names).getD []).all fun m=>R.contains m):=by
  intro l;induction l with
  | nil=>intro _;rfl
  | cons x l ih=>intro h;rw[e9,e9,h x d7,ih fun V hn=>h V (dZ _ hn)]
 exact this R h
theorem Es {x:Option α} (h:AN b x=some y):b=true/\x=some y:=by cases b;{simp[AN] at h};{exact⟨rfl,by simpa[AN] using h⟩}
theorem Vw {H:jh} (h:x∈H):∀ V∈x.names,V∈AU H:=by
 induction H with
 | nil=>cases h
 | cons y ys ih =>
  intro V hn;rcases dM.1 h with rfl | h;{exact ec _ hn};{exact eh _ (ih h V hn)}
theorem IY {tm pe:jh} {H:jz} (h:∀ x∈H,x.ev tm=x.ev pe):H.map (RX.ev tm)=H.map (RX.ev pe):=eD h
theorem cB {tm pe:jh}:∀ (ps:List (Nat×Nat×RX)) (z:jh),(∀ x∈ps.map (·.2.2),x.ev tm=x.ev pe)->ET tm z ps=ET pe z ps:=by
 intro ps;induction ps with
 | nil=>intro z _;rfl
 | cons p ps ih =>
  obtain⟨off,n,x⟩:=p;intro z h;simp only[ET];rw[h x (by simp),ih _ fun y hy=>h y (by simp at hy |-;exact .inr hy)]
theorem Oo {tm pe:jh} {x:jB} (h:∀ y∈x.toList,y.ev tm=y.ev pe):CH tm x=CH pe x:=by
 cases x with
 | none=>rfl
 | some y=>simp only[CH];rw[h y (by simp)]
section
variable {σ σ':Nm->jk} {tm pe:jh}
theorem PX (h:∀ V∈v.names,σ V=σ' V):elems σ k v=elems σ' k v:=by
 cases v<;>first | rfl | skip
 rename_i V k' o n;simp only[elems];rw[h V (by simp[W.names])]
theorem s8 (h:∀ V∈v.names,σ V=σ' V):JW σ c v=JW σ' c v:=by
 cases v<;>cases c<;>first | rfl | skip
 rename_i V;simp only[JW];rw[h V (by simp[W.names])]
theorem WA (op:AG) (A:∀ x∈op.H,x.ev tm=x.ev pe) (hσ:Ag (Bn σ A7 (AU (op.H.map (RX.ev tm)))) σ σ'):exec dst σ tm op=exec dst σ' pe op:=by
 have hn:∀ x∈op.H,∀ V∈(x.ev tm).names,σ V=σ' V:=fun x A V hn=>hσ V (S5 _ _ _ (Vw (List.mem_map_of_mem A) V hn));cases op with
 | mov x=>simp only[exec];rw[A x (by simp[AG.H])]
 | pick c a b=>simp only[exec];rw[A c (by simp[AG.H]),A a (by simp[AG.H]),A b (by simp[AG.H])]
 | box x=>simp only[exec];rw[A x (by simp[AG.H])]
 | alloc z=>rfl
 | build z ps=>simp only[exec];rw[cB ps z (by simpa[AG.H] using A)]
 | nO k ps =>
  have U:=IY (H:=ps) A;simp only[AG.H] at hσ;simp only[exec];rw[<-U];have O:=NY _ _ hσ;rw[<-O,<-SM hσ,Kc (f:=BX σ) (g:=BX σ') _ (NX hσ)]
 | load n ag x =>
  have U:=hn x (by simp[AG.H]);simp only[exec];rw[<-A x (by simp[AG.H])];cases hv:x.ev tm<;>first | rfl | skip
  all_goals (rw[hv] at U;(try simp only);rw[U _ (by simp[W.names])])
 | store n x v =>
  have U:=hn x (by simp[AG.H]);simp only[exec];rw[<-A x (by simp[AG.H]),<-A v (by simp[AG.H])];cases hv:x.ev tm<;>first | rfl | skip
  all_goals (rw[hv] at U;(try simp only);rw[U _ (by simp[W.names])])
 | nilck x=>simp only[exec];rw[A x (by simp[AG.H])]
 | bin op c nc x y=>simp only[exec];rw[A x (by simp[AG.H]),A y (by simp[AG.H])]
 | un op x=>simp only[exec];rw[A x (by simp[AG.H])]
 | conv k x=>simp only[exec];rw[A x (by simp[AG.H])]
 | k7 x=>simp only[exec];rw[A x (by simp[AG.H])]
 | ofBytes x =>
  simp only[exec];rw[<-A x (by simp[AG.H]),PX (hn x (by simp[AG.H]))]
 | lK x=>simp only[exec];rw[A x (by simp[AG.H])]
 | mq x=>simp only[exec];rw[A x (by simp[AG.H])]
 | mkI t x=>simp only[exec];rw[A x (by simp[AG.H])]
 | mkF f cap=>simp only[exec];rw[IY (H:=cap) A]
 | mkMap=>rfl
 | insert c x k v =>
  have U:=hn x (by simp[AG.H]);simp only[exec];rw[<-A x (by simp[AG.H]),<-A k (by simp[AG.H]),<-A v (by simp[AG.H])];have rJ:Ag (Bn σ A7 (v.ev tm).names) σ σ':=fun V hn=>hσ V (Mz _ _ _ (fun m hm=>by simp[AG.H,AU,hm]) V hn);have lP:D9 σ (if (v.ev tm).names.isEmpty=true then [] else Bn σ A7 (v.ev tm).names)=D9 σ' (if (v.ev tm).names.isEmpty=true then [] else Bn σ A7 (v.ev tm).names):=by split;{rfl};{exact SM rJ}
  rw[<-NY _ _ rJ,lP,W.sub_congr (f:=BX σ) (g:=BX σ') (v.ev tm) (NX rJ)];cases hv:x.ev tm<;>first | rfl | skip
  all_goals (rw[hv] at U;(try simp only);rw[U _ (by simp[W.names])])
 | lookup c z ok x k =>
  have U:=hn x (by simp[AG.H]);simp only[exec];rw[<-A x (by simp[AG.H]),<-A k (by simp[AG.H])];cases hv:x.ev tm<;>first | rfl | skip
  all_goals (rw[hv] at U;(try simp only);rw[U _ (by simp[W.names])])
 | r8 k z l c=>simp only[exec];rw[A l (by simp[AG.H]),A c (by simp[AG.H])]
 | slice k x lo hi mx =>
  simp only[AG.H] at A;simp only[exec];rw[A x (by simp),Oo (x:=lo) fun y hy=>A y (by simp at hy |-;simp[hy]),Oo (x:=hi) fun y hy=>A y (by simp at hy |-;simp[hy]),Oo (x:=mx) fun y hy=>A y (by simp at hy |-;simp[hy])]
 | kq x lo hi =>
  simp only[AG.H] at A;simp only[exec];rw[A x (by simp),Oo (x:=lo) fun y hy=>A y (by simp at hy |-;simp[hy]),Oo (x:=hi) fun y hy=>A y (by simp at hy |-;simp[hy])]
 | fieldAddr off x=>simp only[exec];rw[A x (by simp[AG.H])]
 | field off n ag x=>simp only[exec];rw[A x (by simp[AG.H])]
 | jJ k x i=>simp only[exec];rw[A x (by simp[AG.H]),A i (by simp[AG.H])]
 | kM k len x i=>simp only[exec];rw[A x (by simp[AG.H]),A i (by simp[AG.H])]
 | lL x i=>simp only[exec];rw[A x (by simp[AG.H]),A i (by simp[AG.H])]
 | extract j x=>simp only[exec];rw[A x (by simp[AG.H])]
 | len c x =>
  simp only[exec];rw[<-A x (by simp[AG.H]),s8 (hn x (by simp[AG.H]))]
 | append k ty s x =>
  have U:=hn s (by simp[AG.H]);simp only[exec];rw[<-A x (by simp[AG.H]),<-A s (by simp[AG.H]),PX (hn x (by simp[AG.H]))];cases hv:s.ev tm with
  | arr V k' o n =>
   rw[hv] at U;have:=U V (by simp[W.names]);cases elems σ' k (x.ev tm) with
   | none=>rfl
   | some ys=>show (match σ V with | some (.arr nx kt H)=>_ | _=>none)=_;rw[this];rfl
  | sl k' H full=>cases full<;>rfl
  | _=>rfl
 | copy k d s =>
  have U:=hn d (by simp[AG.H]);simp only[exec];rw[<-A s (by simp[AG.H]),<-A d (by simp[AG.H]),PX (hn s (by simp[AG.H]))];cases hv:d.ev tm<;>first | rfl | skip
  all_goals (rw[hv] at U;(try simp only);try rw[U _ (by simp[W.names])])
 | j6 mx H=>simp only[exec];rw[IY (H:=H) A]
 | call f args=>rfl
 | iter x=>simp only[exec];rw[A x (by simp[AG.H])]
 | next x =>
  have U:=hn x (by simp[AG.H]);simp only[exec];rw[<-A x (by simp[AG.H])];cases hv:x.ev tm<;>first | rfl | skip
  all_goals (rw[hv] at U;(try simp only);rw[U _ (by simp[W.names])])
 | kJ t z ok x=>simp only[exec];rw[A x (by simp[AG.H])]
 | bad=>rfl
theorem cE (op:AG) (hb:IR op=true) (A:∀ x∈op.H,x.ev tm=x.ev pe):exec dst σ tm op=exec dst σ' pe op:=by
 cases op<;>simp only[IR] at hb<;>first | (cases hb;done) | skip
 case mov x=>simp only[exec];rw[A x (by simp[AG.H])]
 case pick c a b=>simp only[exec];rw[A c (by simp[AG.H]),A a (by simp[AG.H]),A b (by simp[AG.H])]
 case nilck x=>simp only[exec];rw[A x (by simp[AG.H])]
 case mkI t x=>simp only[exec];rw[A x (by simp[AG.H])]
 case mkF f cap=>simp only[exec];rw[IY (H:=cap) A]
 case fieldAddr off x=>simp only[exec];rw[A x (by simp[AG.H])]
 case extract j x=>simp only[exec];rw[A x (by simp[AG.H])]
theorem s9 (op:AG) (hb:Gu op=true) (A:∀ x∈op.H,x.ev tm=x.ev pe) (td:Ag (AU (op.H.map (RX.ev tm))) σ σ'):exec dst σ tm op=exec dst σ' pe op:=by
 cases op<;>simp only[Gu] at hb<;>first | (cases hb;done) | skip
 case load n ag x =>
  have qM:=A x (by simp[AG.H]);have h:∀ V∈(x.ev tm).names,σ V=σ' V:=fun V hn=>td V (by simpa[AG.H,AU] using hn);simp only[exec,<-qM];cases jL:x.ev tm with
  | ref V o=>simp only[h V (by rw[jL];simp[W.names])]
  | jQ V k i o=>simp only[h V (by rw[jL];simp[W.names])]
  | _=>rfl
def Ra (sp:ja->(Nm->jk)->jh->js):Prop:=∀ (g:ja) (σ σ':Nm->jk) (vs:jh),Ag (Bn σ A7 (AU vs)) σ σ'->sp g σ vs=sp g σ' vs
def Zy (io:ja->Nat->(Nm->jk)->jh->js):Prop:=∀ (g:ja) (d:Nat) (σ σ':Nm->jk) (vs:jh) (out:AQ),Ag (Bn σ A7 (AU vs)) σ σ'->io g d σ vs=some out->(De out=true\/Ft out=true)->io g d σ' vs=some out
structure Hq (M:Bp):Prop where
 sp:Ra M.sp
 io:Zy M.io
theorem Qo:∀ {H:jh},BV H=false↔∀ x∈H,x.kf=false
 | []=>by simp[BV]
 | x :: H=>by simp[BV,Qo (H:=H)]
theorem P6 {V:Nm}:∀ {H:jh},V∈AU H↔∃ x∈H,V∈x.names
 | []=>by simp[AU]
 | x :: H=>by simp[AU,P6 (H:=H)]
theorem Td {f:ja} {vs cap:jh} {x:W} (h:x∈BI f vs cap):x∈vs\/x∈cap:=by
 unfold BI at h;split at h;{exact dX.1 h}
 ·rcases dX.1 h with h | h;{exact .inr (eE h)}
  {rcases dX.1 h with h | h;{exact .inl h};{exact .inr (e8 h)}}
theorem dx (hM:Hq M) {dep:Nat} {f:RX} {e e1:E} {out:AQ} (A:∀ x∈(f :: args),x.ev tm=x.ev pe) (hσ:Ag (Bn σ A7 (AU ((f :: args).map (RX.ev tm)))) σ σ')
  (hy:BV ((f :: args).map (RX.ev tm))=false) (lr:De out=true\/Ft out=true) (hc:D3 M h dep dst σ tm f args e=some (out,e1)):e1=e/\∀ e2:E,D3 M h dep dst σ' pe f args e2=some (out,e2):=by
 have hf:=A f d7;have ha:=IY (H:=args) fun x h=>A x (dZ _ h);have hyf:(f.ev tm).kf=false:=(fP.1 hy).1;have hya:BV (args.map (RX.ev tm))=false:=(fP.1 hy).2;unfold D3 at hc |-;rw[<-hf,<-ha];cases hv:f.ev tm with
 | ke d=>rw[hv] at hyf;simp[W.kf] at hyf
 | fn g cap =>
  rw[hv] at hc hyf;simp only[W.kf] at hyf;have hyv:BV (BI g (args.map (RX.ev tm)) cap)=false:=Qo.2 fun x A=>(Td A).elim (Qo.1 hya x) (Qo.1 hyf x)
  have np:∀ V∈AU (BI g (args.map (RX.ev tm)) cap),V∈AU ((f :: args).map (RX.ev tm)):=by
   intro V hn;obtain⟨x,A,hn⟩:=P6.1 hn;rcases Td A with h | h;{exact eh _ (P6.2 ⟨x,h,hn⟩)}
   {refine ec _ ?_;rw[hv];simp only[W.names];exact P6.2 ⟨x,h,hn⟩}
  have hσ2:Ag (Bn σ A7 (AU (BI g (args.map (RX.ev tm)) cap))) σ σ':=fun V hn=>hσ V (Mz _ _ _ np V hn);simp only at hc |-;rw[<-hM.sp (Ba g) σ σ' _ hσ2,<-NY _ _ hσ2,<-SM hσ2,<-Kc (f:=BX σ) (g:=BX σ') _ (NX hσ2)];split at hc
  {rename_i out1 kG;cases hc;exact⟨rfl,fun e2=>by simp⟩};{rename_i kG;split at hc;{rename_i lF;simp only[lF,iH];split at hc;{rename_i out1 ho;cases hc;exact⟨rfl,fun e2=>by simp[hM.io (Ba g) dst σ σ' _ _ hσ2 ho lr]⟩};{cases hc}};rename_i lF;simp only[lF,dE,iG];rw[hyv] at hc |-;simp only[dE,iG] at hc |-;split at hc;{rename_i hS;split at hc;{rename_i r obs u nM;cases hc;exact⟨rfl,fun e2=>by simp[hS,nM]⟩};{cases hc}};{rename_i hS;obtain⟨hk,rG⟩:=Es hc;split at rG;{rename_i r obs u nM;cases rG;exact⟨rfl,fun e2=>by simp[hS,hk,nM,AN]⟩};{cases rG}}}
 | _=>rw[hv] at hc;simp at hc
end
end Go.Ab


namespace Go.Ab
variable{Q:Exit->Act->i7->Prop} {S:jl} {acc:List (Nat×Nat)} {ag:Bool} {c l ord:jm} {cs tm pe:jh} {ds:List jf} {dst ro:jj} {f:Nm->Option jk} {g:W->W} {i id j s y:Nat} {ia ib info:DP} {k:Option Nm} {n new:jp} {V:Nm} {oa:AQ} {jC:List jp} {op:AG} {jU:St} {u:Option (Nm×Ob)} {v:W} {x:RX} {σ σ':Nm->jk}
section swap
variable {M:Bp} {E:Type} {h:AA E} {dep:Nat} {j5:jv}
theorem QF {o:A8} {Z:St} {e e1:E} {out:AQ} (A:Cv M h dep j5 i o Z e=some (out,e1,info)):info.dst=o.dst:=by
 unfold Cv at A;split at A
 ·split at A;·cases A;rfl
  {cases A}
 {cases A;rfl};{cases A}
theorem te (op:AG):FY op=true->∃ f args,op=.call f args:=by cases op<;>simp[FY]
theorem N6 (h:∀ s∈l,tm.getD s .undef=pe.getD s .undef):(l.flatMap fun s=>(pe.getD s .undef).names)=l.flatMap fun s=>(tm.getD s .undef).names:=by rw[ik,ik,eD fun s hs=>by rw[<-h s hs]]
theorem aP (h:∀ x∈op.H,x.ev tm=x.ev pe):Ih op tm=Ih op pe:=by
 cases op<;>try rfl
 rename_i f args;unfold Ih;simp only
 rw[h f (by simp[AG.H]),IY (H:=args) fun x A=>h x (by simp[AG.H,A])]
theorem Hu (hM:Hq M) {o:A8} {Z st':St} {e e1:E} {out:AQ} (A:Cv M h dep j5 i o Z e=some (out,e1,info)) (hc:info.cls=.quiet\/info.cls=.turns)
  (U:∀ s∈info.reads,Z.tmps.getD s .undef=st'.tmps.getD s .undef) (O:∀ V∈info.rn,Al Z.jC V=Al st'.jC V) (h3:Gm o st'=Gm o Z) :
  (De out=true\/Ft out=true)/\e1=e/\∀ e2:E,Cv M h dep j5 i o st' e2=some (out,e2,info):=by
 have hw:(∀ s∈G5 j5 o,Z.tmps.getD s .undef=st'.tmps.getD s .undef)->Ew j5 o st'.tmps=Ew j5 o Z.tmps:=by
  intro hg;unfold Ew G5 at *;cases hgu:o.guard with
  | none=>rfl
  | some jw =>
   obtain⟨j,want⟩:=jw;rw[hgu] at hg;simp only at hg |-;cases hj:j5[j]? with
   | none=>rfl
   | some p =>
    rw[hj] at hg;simp only at hg |-;cases hd:p.dst with
    | none=>rfl
    | some d =>
     rw[hd] at hg;simp only
     rw[hg d (by simp)]
 unfold Cv at A;split at A
 ·rename_i vT;split at A
  ·rename_i qR lG kd;cases A;simp only[HL] at U O hc
   have hyn0:(FY o.op&&BV (o.op.H.map (RX.ev Z.tmps)))=false:=by
    cases hb:(FY o.op&&BV (o.op.H.map (RX.ev Z.tmps))) with
    | false=>rfl
    | true =>
     cases hy:Ih o.op Z.tmps<;>simp[hb,hy] at hc
   have hyn:FY o.op=true->BV (o.op.H.map (RX.ev Z.tmps))=false:=fun h=>by rw[h] at hyn0;simpa using hyn0
   have lr:De out=true\/Ft out=true:=by
    rw[hyn0] at hc;cases hb:De out with
    | true=>exact .inl rfl
    | false =>
     cases wK:Ft out with
     | true=>exact .inr rfl
     | false=>rw[hb,wK] at hc;simp at hc
   have lM:∀ x∈o.op.H,x.ev Z.tmps=x.ev st'.tmps:=by
    intro x A;cases x with
    | c v=>rfl
    | t s=>exact U s (ec _ (gW.2 ⟨.t s,A,rfl⟩))
   have nD:=h3;have hwt':=hw fun s hs=>U s (eh _ hs);have lZ:(IR o.op&&De out)=false->Ag (Bn (Al Z.jC) (Kj o.op (De out)) (AU (o.op.H.map (RX.ev Z.tmps))++out.kj)) (Al Z.jC) (Al st'.jC):=fun hb=>by unfold GB at O;rw[iI (by rw[hb];simp)] at O;exact O
   have hrn:GB o st' out=GB o Z out:=by
    unfold GB;rw[<-IY lM];cases hb:(IR o.op&&De out) with
    | true=>rfl
    | false=>rw[<-NY _ _ (lZ hb)]
   have sd:KU (Al st'.jC) (GB o Z out)=KU (Al Z.jC) (GB o Z out):=by unfold KU;rw[ik,ik,eD fun V hn=>by rw[<-O V hn]]
   have hinfo:HL j5 i o st' out=HL j5 i o Z out:=by unfold HL;rw[hrn,sd,<-aP lM,<-IY lM,N6 U]
   have h2s:(IR o.op&&De out)=false->Ag (Bn (Al Z.jC) (Kj o.op (De out)) (AU (o.op.H.map (RX.ev Z.tmps)))) (Al Z.jC) (Al st'.jC):=fun hb V hn =>
    lZ hb V (Mz _ _ _ (fun m hm=>ec _ hm) V hn)
   unfold Ej at kd;obtain⟨hf,kd⟩:=Bx kd
   have key:e1=e/\∀ e2:E,Ej M h dep o st' e2=some (out,e2):=by
    unfold Ej;rw[nD,hf];cases xk:FY o.op with
    | true =>
     obtain⟨f,args,oL⟩:=te _ xk;have hyn:=hyn xk;rw[oL] at kd lM h2s hyn;rw[oL];obtain⟨kd,qP⟩:=SI kd;obtain⟨g1,g2⟩:=dx (σ:=Al Z.jC) (σ':=Al st'.jC) (tm:=Z.tmps) (pe:=st'.tmps) hM lM (h2s rfl) hyn lr kd;exact⟨g1,fun e2=>by simp[AN,g2 e2,qP]⟩
    | false =>
     have sn:exec (o.dst.getD 0) (Al Z.jC) Z.tmps o.op=some out/\e1=e:=by cases oL:o.op<;>rw[oL] at kd xk<;>simp[FY] at xk<;>(simp only at kd;split at kd<;>simp_all)
     have hcg:exec (o.dst.getD 0) (Al Z.jC) Z.tmps o.op=exec (o.dst.getD 0) (Al st'.jC) st'.tmps o.op:=by
      cases hb:(IR o.op&&De out) with
      | true=>exact cE o.op (by revert hb;cases IR o.op<;>simp) lM
      | false =>
       have h2q:=h2s hb;unfold Kj at h2q;cases hl:(Gu o.op&&De out) with
       | true =>
        rw[iJ hl] at h2q;exact s9 o.op (by revert hl;cases Gu o.op<;>simp) lM h2q
       | false =>
        rw[iI (by rw[hl];simp)] at h2q;exact WA o.op lM h2q
     rw[sn.1] at hcg;refine⟨sn.2,fun e2=>?_⟩;cases oL:o.op<;>rw[oL] at hcg xk<;>simp[FY] at xk<;>simp[AN,<-hcg]
   refine⟨lr,key.1,fun e2=>?_⟩;unfold Cv;rw[hwt',vT];simp only[key.2 e2,hinfo]
  {cases A}
 {rename_i vT;cases A;refine⟨.inl rfl,rfl,fun e2=>?_⟩;unfold Cv;rw[hw fun s hs=>U s hs,vT,N6 U]};{cases A}
theorem P0 {Z:St} {out:AQ} (hs:De out=true):apply Z dst out=match dst with
  | some d=>{Z with tmps:=Z.tmps.set d out.v,jC:=if out.new.isEmpty then Z.jC else Z.jC.set d out.new}
  | none=>Z:=by
 unfold De at hs;simp only[dF,il,eZ] at hs;obtain⟨⟨⟨⟨⟨U,O⟩,h3⟩,h4⟩,h5⟩,h6⟩:=hs;unfold apply;rw[U,O,h3,h4,h5,h6];cases dst<;>simp
theorem Kd {Z:St} {out:AQ} (hs:De out=true) (h:s ∉ dst.toList):(apply Z dst out).tmps.getD s .undef=Z.tmps.getD s .undef:=by
 rw[P0 hs];cases dst with
 | none=>rfl
 | some d =>
  have jW:d≠s:=fun e=>h (by simp[e]);simp only[dO,eB jW]
theorem Ke {Z:St} {out:AQ} (hs:De out=true) (h:V.1 ∉ dst.toList):Al (apply Z dst out).jC V=Al Z.jC V:=by
 rw[P0 hs];cases dst with
 | none=>rfl
 | some d =>
  have jW:V.1≠d:=fun e=>h (by simp[e]);simp only
  split;{rfl};{exact G1 _ jW}
theorem Yp {o:A8} {Z st':St} (h:∀ d,o.dst=some d->((st'.jC[d]?).map List.isEmpty=(Z.jC[d]?).map List.isEmpty)):Gm o st'=Gm o Z:=by
 unfold Gm;cases hm:Ma o.op with
 | false=>rfl
 | true =>
  simp only[iH];cases hd:o.dst with
  | none=>rfl
  | some d =>
   have:=h d hd;simp only
   cases U:st'.jC[d]? with
   | none=>rw[U] at this;cases O:Z.jC[d]? with
    | none=>rfl
    | some l=>rw[O] at this;cases this
   | some l'=>rw[U] at this;cases O:Z.jC[d]? with
    | none=>rw[O] at this;cases this
    | some l =>
     rw[O] at this;simp only[ed,dL] at this;cases l<;>cases l'<;>simp_all
theorem J8 {Z:St} {out:AQ} (hs:De out=true) {o:A8} (h:∀ d,o.dst=some d->d ∉ dst.toList):Gm o (apply Z dst out)=Gm o Z:=by
 refine Yp fun d' oU=>?_;have h:=h d' oU;rw[P0 hs];cases dst with
 | none=>rfl
 | some d =>
  have jW:d≠d':=fun e=>h (by simp[e]);simp only
  split;{rfl};{rw[eB jW]}
def DN (u:Option (Nm×Ob)) (Z:St):St :=
 match u with
 | some (V,ob)=>{Z with jC:=Bv Z.jC V ob}
 | none=>Z
def Gc (σ:Nm->jk) (R:jl) (Z:St):St:=if R.isEmpty then Z else DF σ R Z
def EW (k:Option Nm) (Z:St):St :=
 match k with
 | some V=>EK (fun m=>if m=V then some none else none) Z
 | none=>Z
def zs (o:AQ):jl:=o.kj++o.kill.toList
def DX (dst:jj) (v:W) (new:jp) (Z:St):St :=
 match dst with
 | some d=>{Z with tmps:=Z.tmps.set d v,jC:=if new.isEmpty then Z.jC else Z.jC.set d new}
 | none=>Z
theorem G2 {Z:St} {out:AQ} (hs:De out=true):apply Z dst out=DX dst out.v out.new Z:=by rw[P0 hs];cases dst<;>rfl
theorem Kb {Z:St} {out:AQ} (hs:Ft out=true):apply Z dst out=DX dst out.v out.new (Gc (Al Z.jC) out.kj (EW out.kill (DN out.kA Z))):=by unfold Ft at hs;simp only[dF,il,eZ] at hs;obtain⟨⟨⟨O,h3⟩,h4⟩,_⟩:=hs;unfold apply;rw[O,h3,h4];unfold Gc;cases hu:out.kA<;>cases hk:out.kill<;>cases dst<;>cases hf:out.kj<;>simp[DX,DN,EW]
theorem Qe {d d':jj} (h:∀ x∈d'.toList,x ∉ d.toList) (v v':W) (n n':jp) (Z:St):DX d v n (DX d' v' n' Z)=DX d' v' n' (DX d v n Z):=by
 cases d with
 | none=>rfl
 | some x =>
  cases d' with
  | none=>rfl
  | some y =>
   have jW:x≠y:=fun e=>h y (by simp) (by simp[e]);simp only[DX,St.mk.injEq];refine⟨gV _ _ jW.symm,?_,trivial⟩;split<;>split<;>simp_all [gV]
theorem W0 {o:Ob} {d:Nat} (h:V.1≠d):Bv (jC.set d new) V o=(Bv jC V o).set d new:=by
 unfold Bv;rw[eB (eH h)];cases hg:jC[V.1]? with
 | none=>rfl
 | some l=>simp only;rw[gV _ _ (eH h)]
theorem tf {d:jj} (h:∀ p,u=some p->p.1.1 ∉ d.toList) (v:W) (n:jp) (Z:St):DN u (DX d v n Z)=DX d v n (DN u Z):=by
 cases u with
 | none=>rfl
 | some p =>
  obtain⟨V,ob⟩:=p;cases d with
  | none=>rfl
  | some d =>
   have jW:V.1≠d:=fun e=>h _ rfl (by simp[e]);simp only[DN,DX,St.mk.injEq,true_and,and_true];split;{rfl};{exact W0 jW}
theorem xp {d:Nat}:∀ (R:jl) (jC:List jp),(∀ V∈R,V.1≠d)->R.foldl (fun jC V=>Bv jC V BO) (jC.set d new)=(R.foldl (fun jC V=>Bv jC V BO) jC).set d new:=by
 intro R;induction R with
 | nil=>intro jC _;rfl
 | cons V R ih =>
  intro jC h;simp only[fT];rw[W0 (h V d7),ih _ fun m hm=>h m (dZ _ hm)]
theorem Nc (x:W) (h:∀ V∈x.names,f V=none):x.sub f=x:=by rw[W.sub_congr (f:=f) (g:=fun _=>none) x h];exact lN x
theorem tg {R:jl} {d:jj} (hσ:∀ V∈R,BX σ' V=BX σ V) (h:∀ V∈R,V.1 ∉ d.toList) (hv:R≠[]->∀ V∈v.names,V ∉ R) (hn:R≠[]->∀ o∈n,∀ V∈o.names,V ∉ R) (Z:St) :
  Gc σ' R (DX d v n Z)=DX d v n (Gc σ R Z):=by
 unfold Gc;by_cases hR:R=[];{subst hR;rfl};have hE:R.isEmpty=false:=by cases R<;>simp_all
 have hf:(fun m=>if R.contains m then BX σ' m else none)=(fun m=>if R.contains m then BX σ m else none):=by funext m;by_cases hm:R.contains m=true;{rw[iJ hm,iJ hm,hσ m (by simpa using hm)]};{rw[iI hm,iI hm]}
 simp only[hE,dE,iG];unfold DF;rw[hf];generalize hg:(fun m=>if R.contains m then BX σ m else none)=f;have oT:∀ V,V ∉ R->f V=none:=fun V h=>by rw[<-hg];simp only;rw[iI (by simpa using h)]
 cases d with
 | none=>rfl
 | some d =>
  have h':∀ V∈R,V.1≠d:=fun V hm e=>h V hm (by simp[e]);have mG:v.sub f=v:=Nc v fun V hm=>oT V (hv hR V hm)
  have hns:n.map (Ob.sub f)=n:=by
   have:∀ o∈n,Ob.sub f o=o:=fun o ho=>by rw[Ob.sub_congr (f:=f) (g:=fun _=>none) o fun V hm=>oT V (hn hR o ho V hm)];exact Ob.lN o
   exact (eD this).trans (List.map_id' n)
  have htm:Bf f (Z.tmps.set d v)=(Bf f Z.tmps).set d v:=by
   have key:∀ (l:jh),Bf f l=l.map (W.sub f):=by
    intro l;induction l with
    | nil=>rfl
    | cons x l ih=>simp only[Bf,dI,ih]
   rw[key,key,fU,mG]
  simp only[DX,EK,St.mk.injEq,and_true];refine⟨htm,?_⟩;split;{rfl};{rw[fU,hns];exact xp R _ h'}
theorem Ow (f:Nm->Option jk):∀ (l:jh),Bf f l=l.map (W.sub f)
 | []=>rfl
 | x :: l=>by simp only[Bf,dI,Ow f l]
theorem xq (h:∀ o∈n,∀ V∈o.names,f V=none):n.map (Ob.sub f)=n:=by
 have:∀ o∈n,Ob.sub f o=o:=fun o ho=>by rw[Ob.sub_congr (f:=f) (g:=fun _=>none) o fun V hm=>h o ho V hm];exact Ob.lN o
 exact (eD this).trans (List.map_id' n)
theorem cg {d:jj} (hv:∀ V∈v.names,V ∉ k.toList) (hn:∀ o∈n,∀ V∈o.names,V ∉ k.toList) (Z:St):EW k (DX d v n Z)=DX d v n (EW k Z):=by
 cases k with
 | none=>rfl
 | some V =>
  cases d with
  | none=>rfl
  | some d =>
   have hf:∀ m,m ∉ (some V).toList->(if m=V then some none else none:Option jk)=none:=fun m hm=>iI fun e=>hm (by simp[e]);simp only[EW,DX,EK,St.mk.injEq,and_true];refine⟨by rw[Ow,Ow,fU,Nc v fun m hm=>hf m (hv m hm)],?_⟩;split;{rfl};{rw[fU,xq fun o ho m hm=>hf m (hn o ho m hm)]}
theorem O7 {out:AQ} (hz:zs out=[]):out.kj=[]/\out.kill=none:=by unfold zs at hz;obtain⟨U,O⟩:=List.append_eq_nil_iff.1 hz;exact⟨U,by cases hk:out.kill with | none=>rfl | some k=>rw[hk] at O;cases O⟩
theorem V5 {Z:St} {out:AQ} (hs:Ft out=true) (hz:zs out=[]) (h:s ∉ dst.toList):(apply Z dst out).tmps.getD s .undef=Z.tmps.getD s .undef:=by
 rw[Kb hs,(O7 hz).1,(O7 hz).2];have:(DN out.kA Z).tmps=Z.tmps:=by cases out.kA<;>rfl
 cases dst with
 | none=>simp only[DX,Gc,EW,f8,iH];rw[this]
 | some d =>
  have jW:d≠s:=fun e=>h (by simp[e]);simp only[DX,Gc,EW,f8,iH,this,dO,eB jW]
theorem outD_vn {o:A8} {Z:St} {e e1:E} {out:AQ} (A:Cv M h dep j5 i o Z e=some (out,e1,info)):info.vn=info.reads.flatMap fun s=>(Z.tmps.getD s .undef).names:=by
 unfold Cv at A;split at A
 ·split at A;·cases A;rfl
  {cases A}
 {cases A;rfl};{cases A}
theorem ZK {Z:St} {out:AQ} (hs:Ft out=true) (h:s ∉ dst.toList) (hn:∀ V∈(Z.tmps.getD s .undef).names,V ∉ zs out):(apply Z dst out).tmps.getD s .undef=Z.tmps.getD s .undef:=by
 rw[Kb hs];have hu:(DN out.kA Z).tmps=Z.tmps:=by cases out.kA<;>rfl
 have key:∀ (f:Nm->Option jk) (l:jh),(Bf f l).getD s .undef=(l.getD s .undef).sub f:=by intro f l;rw[Ow,dO,dO,dT];cases l[s]?<;>rfl
 have hk:(EW out.kill (DN out.kA Z)).tmps.getD s .undef=Z.tmps.getD s .undef:=by
  cases hq:out.kill with
  | none=>exact iP (fun l=>l.getD s .undef) hu
  | some k =>
   show (Bf _ (DN out.kA Z).tmps).getD s .undef=_;rw[hu,key];exact Nc _ fun V hm=>iI fun e=>hn V hm (by unfold zs;rw[hq];simp[e])
 have hf:∀ σ,(Gc σ out.kj (EW out.kill (DN out.kA Z))).tmps.getD s .undef=Z.tmps.getD s .undef:=by intro σ;unfold Gc;split;{exact hk};{unfold DF;show (Bf _ (EW out.kill (DN out.kA Z)).tmps).getD s .undef=_;rw[key,hk];exact Nc _ fun V hm=>by have:=hn V hm;rw[iI (by unfold zs at this;simp at this |-;exact this.1)]}
 cases dst with
 | none=>simp only[DX];exact hf _
 | some d =>
  have jW:d≠s:=fun e=>h (by simp[e]);simp only[DX];rw[dO,eB jW,<-dO];exact hf _
theorem V6 {Z:St} {out:AQ} (hs:Ft out=true) (hz:zs out=[]) (ht:V ∉ Gg out) (h:V.1 ∉ dst.toList):Al (apply Z dst out).jC V=Al Z.jC V:=by
 rw[Kb hs,(O7 hz).1,(O7 hz).2]
 have:Al (DN out.kA Z).jC V=Al Z.jC V:=by
  unfold Gg at ht;cases hu:out.kA with
  | none=>rfl
  | some p =>
   obtain⟨m,ob⟩:=p;rw[hu] at ht;simp only[ep] at ht;exact It ob ht
 cases dst with
 | none=>simp only[DX,Gc,EW,f8,iH];exact this
 | some d =>
  have jW:V.1≠d:=fun e=>h (by simp[e]);simp only[DX,Gc,EW,f8,iH];split;{exact this};{rw[G1 _ jW];exact this}
theorem ZL {Z:St} {out:AQ} (hs:Ft out=true) (ht:V ∉ Gg out++zs out) (h:V.1 ∉ dst.toList) (hn:∀ ob,Al Z.jC V=some ob->∀ m∈ob.names,m ∉ zs out) :
  Al (apply Z dst out).jC V=Al Z.jC V:=by
 rw[Kb hs]
 have hu:Al (DN out.kA Z).jC V=Al Z.jC V:=by
  cases hq:out.kA with
  | none=>rfl
  | some p =>
   obtain⟨m,ob⟩:=p;exact It ob fun e=>ht (ec _ (by unfold Gg;rw[hq];simp[e]))
 have np:∀ {σ:List jp} {f:Nm->Option jk},Al σ V=Al Z.jC V->(∀ m,m ∉ zs out->f m=none)->Al (σ.map (·.map (Ob.sub f))) V=Al Z.jC V:=by
  intro σ f hσ hf;rw[Gh,hσ];cases hq:Al Z.jC V with
  | none=>rfl
  | some ob =>
   simp only[ed,dL];rw[Ob.sub_congr (f:=f) (g:=fun _=>none) ob fun m hm=>hf m (hn ob hq m hm)];exact Ob.lN ob
 have hk:Al (EW out.kill (DN out.kA Z)).jC V=Al Z.jC V:=by
  cases hq:out.kill with
  | none=>exact hu
  | some k=>exact np hu fun m hm=>iI fun e=>hm (by unfold zs;rw[hq];simp[e])
 have hf:Al (Gc (Al Z.jC) out.kj (EW out.kill (DN out.kA Z))).jC V=Al Z.jC V:=by
  unfold Gc;split;{exact hk}
  ·unfold DF;simp only
   rw[Qk,iI fun hm=>ht (eh _ (ec _ hm))];exact np hk fun m hm=>iI fun e=>hm (ec _ (by simpa using e))
 cases dst with
 | none=>exact hf
 | some d =>
  have jW:V.1≠d:=fun e=>h (by simp[e]);simp only[DX];split;{exact hf};{rw[G1 _ jW];exact hf}
theorem outD_rv {o:A8} {Z:St} {e e1:E} {out:AQ} (A:Cv M h dep j5 i o Z e=some (out,e1,info)):info.rv=if Gu o.op then [] else KU (Al Z.jC) info.rn:=by
 unfold Cv at A;split at A
 ·split at A;·cases A;rfl
  {cases A}
 {cases A;show ([]:jl)=_;cases Gu o.op<;>rfl};{cases A}
def G6 (g:W->W):Ob->Ob
 | .cells ty cs=>.cells ty (cs.map g)
 | o=>o
def Ml (g:W->W) (S:jl):Prop:=∀ v:W,(∀ m∈v.names,m∈S)->g v=v
theorem th (hg:Ml g S) {o n:Nat} (h:Ci cs o n ag=some v) (hv:∀ m∈v.names,m∈S):Ci (cs.map g) o n ag=some v:=by
 unfold Ci at h |-;cases ag with
 | true =>
  simp only[iH] at h |-;obtain⟨U,O⟩:=Bx h;cases O;simp only[iK] at U;have e:((cs.map g).drop o).take n=(cs.drop o).take n:=by rw[<-List.map_drop,<-List.map_take];refine (eD fun x A=>hg x fun m hm=>hv m ?_).trans (List.map_id' _);rw[W.names];exact Vw A m hm
  rw[e];simp[AN,U]
 | false =>
  simp only[dE,iG] at h |-;rw[dT,h];exact iP some (hg v hv)
theorem ZD {d:Nat} {n:Nat} {out:AQ} (h:exec d σ tm (.load n ag x)=some out) (hσ:∀ V∈(x.ev tm).names,∃ g,Ml g out.v.names/\σ' V=(σ V).map (G6 g)):exec d σ' tm (.load n ag x)=some out:=by
 simp only[exec] at h |-;cases A:x.ev tm with
 | ref V o =>
  rw[A] at h hσ;simp only at h |-;obtain⟨g,hg,hs⟩:=hσ V (by simp[W.names]);rw[hs];cases hq:σ V with
  | none=>rw[hq] at h;cases h
  | some ob =>
   rw[hq] at h;cases ob with
   | cells ty cs =>
    simp only[ed,G6] at h |-;obtain⟨v,hv,rfl⟩:=dG.1 h;rw[th hg hv fun m hm=>hm];rfl
   | arr k kt H=>cases h
   | map es=>cases h
   | jT s pos=>cases h
 | jQ V k i o =>
  rw[A] at h hσ;simp only at h |-;obtain⟨g,hg,hs⟩:=hσ V (by simp[W.names]);rw[hs];cases hq:σ V with
  | none=>rw[hq] at h;cases h
  | some ob =>
   rw[hq] at h;cases ob with
   | cells ty cs=>cases h
   | arr k kt H=>exact h
   | map es=>cases h
   | jT s pos=>cases h
 | _=>rw[A] at h;exact h
theorem ti {o:A8} {Z st':St} {e e1:E} {out:AQ} (A:Cv M h dep j5 i o Z e=some (out,e1,info)) (hl:Gu o.op=true)
  (U:∀ s∈info.reads,Z.tmps.getD s .undef=st'.tmps.getD s .undef) (O:∀ V∈info.rn,∃ g,Ml g info.on/\Al st'.jC V=(Al Z.jC V).map (G6 g)) :
  ∀ e2:E,Cv M h dep j5 i o st' e2=some (out,e2,info):=by
 intro e2;obtain⟨dst,op,gu⟩:=o;cases op<;>simp only[Gu,dE] at hl;rename_i n ag x
 have hw:(∀ s∈G5 j5 ⟨dst,.load n ag x,gu⟩,Z.tmps.getD s .undef=st'.tmps.getD s .undef)->Ew j5 ⟨dst,.load n ag x,gu⟩ st'.tmps=Ew j5 ⟨dst,.load n ag x,gu⟩ Z.tmps:=by
  intro hg;unfold Ew G5 at *;cases hgu:gu with
  | none=>rfl
  | some jw =>
   obtain⟨j,want⟩:=jw;rw[hgu] at hg;simp only at hg |-;cases hj:j5[j]? with
   | none=>rfl
   | some p =>
    rw[hj] at hg;simp only at hg |-;cases hd:p.dst with
    | none=>rfl
    | some d =>
     rw[hd] at hg;simp only
     rw[hg d (by simp)]
 unfold Cv at A |-;cases vT:Ew j5 ⟨dst,.load n ag x,gu⟩ Z.tmps with
 | none=>rw[vT] at A;cases A
 | some b =>
  rw[vT] at A;cases b with
  | false =>
   simp only at A;cases A;rw[hw fun s hs=>U s hs,vT];simp only[dL,eC,true_and];congr 1;exact N6 U
  | true =>
   simp only at A;cases kd:Ej M h dep ⟨dst,.load n ag x,gu⟩ Z e with
   | none=>rw[kd] at A;cases A
   | some q =>
    obtain⟨qR,e'⟩:=q;rw[kd] at A;simp only at A;obtain⟨rfl,rfl,rfl⟩:qR=out/\e'=e1/\HL j5 i ⟨dst,.load n ag x,gu⟩ Z qR=info:=by simp only[dL,eC] at A;exact A
    have qM:x.ev Z.tmps=x.ev st'.tmps:=by
     cases x with
     | c v=>rfl
     | t s=>exact U s (ec _ (gW.2 ⟨.t s,by simp[AG.H],rfl⟩))
    unfold Ej at kd;obtain⟨_,kd⟩:=Bx kd;simp only at kd;cases hex:exec (dst.getD 0) (Al Z.jC) Z.tmps (.load n ag x) with
    | none=>rw[hex] at kd;cases kd
    | some o2 =>
     rw[hex] at kd;simp only[dL,eC] at kd;obtain⟨rfl,rfl⟩:=kd;have so:De o2=true:=by simp only[exec] at hex;split at hex;{split at hex;{obtain⟨v,_,rfl⟩:=dG.1 hex;rfl};·cases hex};{obtain⟨v,_,rfl⟩:=dG.1 hex;rfl};{split at hex;{split at hex;{obtain⟨_,hex⟩:=Bx hex;obtain⟨v,_,rfl⟩:=dG.1 hex;rfl};{cases hex}};{cases hex}};{cases hex}
     have vU:o2.kj=[]:=by unfold De at so;simp only[dF,eZ] at so;exact so.1.1.1.2
     have hrn:∀ s:St,GB ⟨dst,.load n ag x,gu⟩ s o2=(x.ev s.tmps).names:=by intro s;unfold GB;rw[iI (by simp[IR])];simp[Kj,Gu,so,Bn,AG.H,AU,vU]
     have hσ:∀ V∈(x.ev Z.tmps).names,∃ g,Ml g o2.v.names/\Al st'.jC V=(Al Z.jC V).map (G6 g):=by intro V hn;obtain⟨g,hg,hq⟩:=O V (by show V∈GB ⟨dst,.load n ag x,gu⟩ Z o2;rw[hrn];exact hn);exact⟨g,fun v hv=>hg v fun m hm=>ec _ (hv m hm),hq⟩
     have hex2:=ZD hex hσ;have hexd:exec (dst.getD 0) (Al st'.jC) st'.tmps (.load n ag x)=some o2:=by rw[<-hex2];simp only[exec,qM]
     have hout2:Ej M h dep ⟨dst,.load n ag x,gu⟩ st' e2=some (o2,e2):=by unfold Ej;simp[Gm,Ma,AN,hexd]
     rw[hw fun s hs=>U s (eh _ hs),vT];simp only[hout2,dL,eC,true_and];unfold HL;simp only[hrn,Gu,iH,<-qM];congr 1;exact N6 U
theorem ZE {Z:St} {out:AQ} (hs:Ft out=true) (ht:V ∉ Gg out++zs out) (h:V.1 ∉ dst.toList) (hS:∀ m∈S,m ∉ zs out) :
  ∃ g,Ml g S/\Al (apply Z dst out).jC V=(Al Z.jC V).map (G6 g):=by
 rw[Kb hs]
 have hu:Al (DN out.kA Z).jC V=Al Z.jC V:=by
  cases hq:out.kA with
  | none=>rfl
  | some p =>
   obtain⟨m,ob⟩:=p;exact It ob fun e=>ht (ec _ (by unfold Gg;rw[hq];simp[e]))
 have pB:∀ (f:Nm->Option jk) (x:jk),x.map (Ob.sub f)=x.map (G6 (W.sub f)):=by
  intro f x;cases x with
  | none=>rfl
  | some ob=>cases ob<;>simp[Ob.sub,G6,Ow]
 have hcomp:∀ (g g':W->W) (x:jk),(x.map (G6 g)).map (G6 g')=x.map (G6 (g'∘g)):=by
  intro g g' x;cases x with
  | none=>rfl
  | some ob=>cases ob<;>simp[G6]
 have hk:∃ g,Ml g S/\Al (EW out.kill (DN out.kA Z)).jC V=(Al Z.jC V).map (G6 g):=by
  cases hq:out.kill with
  | none =>
   refine⟨id,fun v _=>rfl,?_⟩;show Al (DN out.kA Z).jC V=_;rw[hu];cases Al Z.jC V with
   | none=>rfl
   | some ob=>cases ob<;>simp[G6]
  | some k =>
   refine⟨W.sub fun m=>if m=k then some none else none,fun v hv=>Nc v fun m hm=>iI fun e=>hS m (hv m hm) (by unfold zs;rw[hq,e];simp),?_⟩;show Al ((DN out.kA Z).jC.map _) V=_;rw[Gh,hu,pB]
 obtain⟨g,hg,hk⟩:=hk
 have hf:∃ g,Ml g S/\Al (Gc (Al Z.jC) out.kj (EW out.kill (DN out.kA Z))).jC V=(Al Z.jC V).map (G6 g):=by
  unfold Gc;split;{exact⟨g,hg,hk⟩}
  ·unfold DF;simp only
   rw[Qk,iI fun hm=>ht (eh _ (ec _ hm))];refine⟨W.sub (fun m=>if out.kj.contains m then BX (Al Z.jC) m else none)∘g,fun v hv=>?_,?_⟩;{show W.sub _ (g v)=v;rw[hg v hv];exact Nc v fun m hm=>iI fun e=>hS m (hv m hm) (ec _ (by simpa using e))};{show Al ((EW out.kill (DN out.kA Z)).jC.map _) V=_;rw[Gh,hk,pB,hcomp]}
 obtain⟨g2,hg2,hf⟩:=hf;refine⟨g2,hg2,?_⟩;cases dst with
 | none=>exact hf
 | some d =>
  have jW:V.1≠d:=fun e=>h (by simp[e]);simp only[DX];split;{exact hf};{rw[G1 _ jW];exact hf}
theorem xr {d:Nat}:∀ (R:jl) (jC:List jp),(∀ V∈R,V.1≠d)->(R.foldl (fun jC V=>Bv jC V BO) jC)[d]?=jC[d]?:=by
 intro R;induction R with
 | nil=>intro jC _;rfl
 | cons V R ih =>
  intro jC h;simp only[fT];rw[ih _ fun m hm=>h m (dZ _ hm)];unfold Bv;cases jC[V.1]? with
  | none=>rfl
  | some l=>simp only;rw[eB (h V d7)]
theorem SJ {Z:St} {out:AQ} (hs:Ft out=true) {o:A8} (h:∀ d,o.dst=some d->d ∉ dst.toList) (ht:∀ V∈Gg out++zs out,V.1 ∉ o.dst.toList):Gm o (apply Z dst out)=Gm o Z:=by
 refine Yp fun d' oU=>?_;have h:=h d' oU;rw[Kb hs]
 have U:((DN out.kA Z).jC[d']?)=Z.jC[d']?:=by
  cases hu:out.kA with
  | none=>rfl
  | some p =>
   obtain⟨m,ob⟩:=p;have:m.1≠d':=fun e=>ht m (ec _ (by unfold Gg;rw[hu];simp)) (by rw[oU,e];simp);simp only[DN];unfold Bv;cases Z.jC[m.1]? with
   | none=>rfl
   | some l=>simp only;rw[eB this]
 have hk:((EW out.kill (DN out.kA Z)).jC[d']?).map List.isEmpty=(Z.jC[d']?).map List.isEmpty:=by
  cases out.kill with
  | none=>show ((DN out.kA Z).jC[d']?).map List.isEmpty=_;rw[U]
  | some k =>
   simp only[EW,EK];rw[dT,U];cases Z.jC[d']? with
   | none=>rfl
   | some l=>cases l<;>rfl
 have O:((Gc (Al Z.jC) out.kj (EW out.kill (DN out.kA Z))).jC[d']?).map List.isEmpty=(Z.jC[d']?).map List.isEmpty:=by
  unfold Gc;split;{exact hk}
  ·unfold DF;simp only
   rw[xr _ _ fun V hn e=>ht V (eh _ (ec _ hn)) (by rw[oU,e];simp)];simp only[EK];rw[dT,<-hk];cases (EW out.kill (DN out.kA Z)).jC[d']? with
   | none=>rfl
   | some l=>cases l<;>rfl
 cases dst with
 | none=>exact O
 | some d =>
  have jW:d≠d':=fun e=>h (by simp[e]);simp only[DX];split;{exact O};{rw[eB jW];exact O}
theorem IZ {a b:jm} (h:I7 a b=true):∀ x∈b,x ∉ a:=by intro x A ha;have:=d6.1 h x ha;simp at this;exact this A
theorem Qh {o:A8} {Z:St} {e e1:E} {out:AQ} (A:Cv M h dep j5 i o Z e=some (out,e1,info)) :
  (info.cls=.quiet->De out=true)/\(info.cls=.turns->Ft out=true/\info.tch=Gg out++zs out/\info.kj=!(zs out).isEmpty/\∀ V∈Bn (Al Z.jC) A7 out.kj,V∈info.rn) /\
   (∀ V∈out.v.names,V∈info.on)/\(∀ ob∈out.new,∀ V∈ob.names,V∈info.on):=by
 unfold Cv at A;split at A
 ·split at A
  ·rename_i qR lG kd;cases A;unfold HL;simp only
   refine⟨fun hc=>?_,fun hc=>?_,fun V hn=>ec _ hn,fun ob ho V hn=>eh _ (fH.2 ⟨ob,ho,hn⟩)⟩;{split at hc;{split at hc<;>cases hc};{split at hc;{assumption};{split at hc<;>cases hc}}}
   ·split at hc;{split at hc<;>cases hc}
    ·split at hc;·cases hc
     {rename_i hns;split at hc;{rename_i ht;refine⟨ht,rfl,rfl,fun V hn=>?_⟩;unfold GB;rw[iI (by simp[hns])];rw[show Kj o.op (De out)=A7 by unfold Kj;rw[iI (by simp[hns])]];exact Mz _ _ _ (fun m hm=>eh _ hm) V hn};{cases hc}}
  {cases A}
 {cases A;exact⟨fun _=>rfl,fun hc=>by (cases hc),fun V hn=>by (simp[W.names,AU] at hn),fun ob ho=>by (cases ho)⟩};{cases A}
theorem Zs {Z:St} {dq dt:jj} {oq ot:AQ} (hq:De oq=true) (ht:Ft ot=true) (hd:∀ x∈dt.toList,x ∉ dq.toList) (oU:∀ x∈dq.toList,x ∉ dt.toList)
  (qn:∀ V∈Gg ot++zs ot,V.1 ∉ dq.toList) (hσ:∀ V∈ot.kj,BX (Al (apply Z dq oq).jC) V=BX (Al Z.jC) V)
  (hv:zs ot≠[]->∀ V∈oq.v.names,V ∉ zs ot) (hn:zs ot≠[]->∀ o∈oq.new,∀ V∈o.names,V ∉ zs ot):apply (apply Z dq oq) dt ot=apply (apply Z dt ot) dq oq:=by
 rw[Kb (Z:=apply Z dq oq) ht,G2 (Z:=apply Z dt ot) hq,Kb ht];rw[G2 hq] at hσ |-;have hz:∀ {V},V∈ot.kj\/V∈ot.kill.toList->zs ot≠[]/\V∈zs ot:=fun {V} h=>by have hm:V∈zs ot:=dX.2 h;exact⟨fun e=>by (rw[e] at hm;cases hm),hm⟩
 have jW:ot.kj≠[]->zs ot≠[]:=fun h e=>h (O7 e).1
 rw[tf (fun p hp=>qn p.1 (ec _ (by unfold Gg;rw[hp];simp))),
  cg (fun V hm hk=>hv (hz (.inr hk)).1 V hm (hz (.inr hk)).2) (fun o ho V hm hk=>hn (hz (.inr hk)).1 o ho V hm (hz (.inr hk)).2),
  tg hσ (fun V hm=>qn V (eh _ (ec _ hm))) (fun h V hm hf=>hv (jW h) V hm (ec _ hf)) (fun h o ho V hm hf=>hn (jW h) o ho V hm (ec _ hf)),
  Qe fun x A=>oU x A]
theorem swapD0 (hM:Hq M) {a b:A8} {Z:St} {e ea eb:E} {ob:AQ} (U:Cv M h dep j5 i a Z e=some (oa,ea,ia)) (O:Cv M h dep j5 j b (apply Z a.dst oa) ea=some (ob,eb,ib))
  (hi:(I7 ia.dst.toList (ib.reads++ib.dst.toList)&&I7 ib.dst.toList ia.reads&&I7 ia.dst.toList (ib.rn.map (·.1))&&I7 ib.dst.toList (ia.rn.map (·.1))&&Vf ia ib)=true):ea=e/\eb=e/\Cv M h dep j5 j b Z e=some (ob,e,ib)/\Cv M h dep j5 i a (apply Z b.dst ob) e=some (oa,e,ia)/\apply (apply Z a.dst oa) b.dst ob=apply (apply Z b.dst ob) a.dst oa:=by
 have da:=QF U;have db:=QF O;obtain⟨fa1,fa2,fa3,fa4⟩:=Qh U;obtain⟨fb1,fb2,fb3,fb4⟩:=Qh O;simp only[dF] at hi;obtain⟨⟨⟨⟨g1,g2⟩,g3⟩,g4⟩,hC⟩:=hi;rw[da] at g1 g3;rw[db] at g1 g2 g4;have g1:=IZ g1;have g2:=IZ g2;have g3:=IZ g3;have g4:=IZ g4;have gd:∀ x∈b.dst.toList,x ∉ a.dst.toList:=fun x A=>g1 x (eh _ A);have gd':∀ x∈a.dst.toList,x ∉ b.dst.toList:=fun x A nn=>gd x nn A;have gb:∀ d,b.dst=some d->d ∉ a.dst.toList:=fun d hd=>gd d (by rw[hd];simp);have ga:∀ d,a.dst=some d->d ∉ b.dst.toList:=fun d hd=>gd' d (by rw[hd];simp);have ny:∀ (l:jl) (t:jl),(l.all fun V=>!t.contains V)=true->∀ V∈l,V ∉ t:=fun l t hl V hm ht=>by have:=d6.1 hl V hm;simp at this;exact this ht
 unfold Vf at hC;split at hC
 ·
  rename_i ca cb;have sa:=fa1 ca;have sb:=fb1 cb;obtain⟨_,ea',_⟩:=Hu hM (st':=Z) U (by rw[ca];simp) (fun _ _=>rfl) (fun _ _=>rfl) rfl;subst ea'
  obtain⟨_,eb',mb⟩:=Hu hM (st':=Z) O (by rw[cb];simp) (fun s hs=>Kd sa (g1 s (ec _ hs))) (fun V hn=>Ke sa (g3 V.1 (dJ.2 ⟨V,hn,rfl⟩)))
   (J8 sa gb).symm
  subst eb'
  obtain⟨_,_,ma⟩:=Hu hM (st':=apply Z b.dst ob) U (by rw[ca];simp) (fun s hs=>(Kd sb (g2 s hs)).symm) (fun V hn=>(Ke sb (g4 V.1 (dJ.2 ⟨V,hn,rfl⟩))).symm)
   (J8 sb ga)
  refine⟨rfl,rfl,mb _,ma _,?_⟩;rw[G2 sa,G2 sb,G2 sb,G2 sa];exact Qe gd' _ _ _ _ _
 ·
  rename_i ca cb;have sa:=fa1 ca;obtain⟨sb,tb,zb,rb⟩:=fb2 cb;unfold Rq at hC;simp only[dF,gq] at hC;obtain⟨⟨c1,c2⟩,c3⟩:=hC;have c1:=ny _ _ c1;rw[da] at c2;have c2:=IZ c2;rw[tb] at c1 c2;have qn:∀ V∈Gg ob++zs ob,V.1 ∉ a.dst.toList:=fun V hm=>c2 V.1 (dJ.2 ⟨V,hm,rfl⟩);obtain⟨_,ea',_⟩:=Hu hM (st':=Z) U (by rw[ca];simp) (fun _ _=>rfl) (fun _ _=>rfl) rfl;subst ea'
  obtain⟨_,eb',mb⟩:=Hu hM (st':=Z) O (by rw[cb];simp) (fun s hs=>Kd sa (g1 s (ec _ hs))) (fun V hn=>Ke sa (g3 V.1 (dJ.2 ⟨V,hn,rfl⟩)))
   (J8 sa gb).symm
  subst eb'
  have hz:zs ob=[]\/((∀ s∈ia.reads,∀ V∈(Z.tmps.getD s .undef).names,V ∉ zs ob)/\(Gu a.op=false->∀ V∈ia.rn,∀ x,Al Z.jC V=some x->∀ m∈x.names,m ∉ zs ob)/\∀ V∈ia.on,V ∉ zs ob):=by
   rcases c3 with c3 | c3
   {rw[zb] at c3;exact .inl (by simpa using c3)};{obtain⟨⟨c5,c4⟩,c6⟩:=c3;simp only[iH] at c4 c5;refine .inr ⟨fun s hs V hn hf=>?_,fun hnl V hn x A m hm hf=>?_,fun V hn hf=>?_⟩;{have:=ny _ _ c4 V (by rw[outD_vn U];exact fH.2 ⟨s,hs,hn⟩);rw[tb] at this;exact this (eh _ hf)};{have:=ny _ _ c5 m (by rw[outD_rv U,hnl];exact fH.2 ⟨V,hn,by rw[A];exact hm⟩);rw[tb] at this;exact this (eh _ hf)};{have:=ny _ _ c6 V hn;rw[tb] at this;exact this (eh _ hf)}}
  have rN:∀ s∈ia.reads,Z.tmps.getD s .undef=(apply Z b.dst ob).tmps.getD s .undef:=fun s hs=>by rcases hz with hz | hz;{exact (V5 sb hz (g2 s hs)).symm};{exact (ZK sb (g2 s hs) (hz.1 s hs)).symm}
  have ma:∀ e2:E,Cv M h dep j5 i a (apply Z b.dst ob) e2=some (oa,e2,ia):=by
   rcases hz with hz | hz;{exact (Hu hM (st':=apply Z b.dst ob) U (by rw[ca];simp) rN (fun V hn=>(V6 sb hz (fun hu=>c1 V hn (ec _ hu)) (g4 V.1 (dJ.2 ⟨V,hn,rfl⟩))).symm) (SJ sb ga qn)).2.2}
   ·cases hl:Gu a.op with
    | false=>exact (Hu hM (st':=apply Z b.dst ob) U (by rw[ca];simp) rN (fun V hn=>(ZL sb (c1 V hn) (g4 V.1 (dJ.2 ⟨V,hn,rfl⟩)) (hz.2.1 hl V hn)).symm) (SJ sb ga qn)).2.2
    | true=>exact ti U hl rN fun V hn=>ZE sb (c1 V hn) (g4 V.1 (dJ.2 ⟨V,hn,rfl⟩)) hz.2.2
  refine⟨rfl,rfl,mb _,ma _,Zs sa sb gd gd' qn (fun V hm=>?_) (fun jW V hn=>?_) fun jW o ho V hn=>?_⟩;{exact NX (S:=ob.kj) (fun m hm=>Ke sa (g3 m.1 (dJ.2 ⟨m,rb m hm,rfl⟩))) V hm};{rcases hz with hz | hz;{exact iW hz jW};{exact hz.2.2 V (fa3 V hn)}};{rcases hz with hz | hz;{exact iW hz jW};{exact hz.2.2 V (fa4 o ho V hn)}}
 ·
  rename_i ca cb;have sb:=fb1 cb;obtain⟨sa,ta,za,ra⟩:=fa2 ca;unfold Rq at hC;simp only[dF,gq] at hC;obtain⟨⟨c1,c2⟩,c3⟩:=hC;have c1:=ny _ _ c1;rw[db] at c2;have c2:=IZ c2;rw[ta] at c1 c2;have qn:∀ V∈Gg oa++zs oa,V.1 ∉ b.dst.toList:=fun V hm=>c2 V.1 (dJ.2 ⟨V,hm,rfl⟩)
  have hz:zs oa=[]\/(ib.reads=[]/\ib.rn=[]/\∀ V∈ib.on,V ∉ zs oa):=by
   rcases c3 with c3 | c3
   {rw[za] at c3;exact .inl (by simpa using c3)};{obtain⟨⟨c5,c4⟩,c6⟩:=c3;refine .inr ⟨by simpa using c4,by simpa using c5,fun V hn hf=>?_⟩;have:=ny _ _ c6 V hn;rw[ta] at this;exact this (eh _ hf)}
  obtain⟨_,ea',_⟩:=Hu hM (st':=Z) U (by rw[ca];simp) (fun _ _=>rfl) (fun _ _=>rfl) rfl;subst ea'
  obtain⟨_,eb',mb⟩:=Hu hM (st':=Z) O (by rw[cb];simp)
   (fun s hs=>by
    rcases hz with hz | hz;·exact V5 sa hz (g1 s (ec _ hs))
    ·rw[hz.1] at hs;cases hs)
   (fun V hn=>by
    rcases hz with hz | hz;·exact V6 sa hz (fun hu=>c1 V hn (ec _ hu)) (g3 V.1 (dJ.2 ⟨V,hn,rfl⟩))
    ·rw[hz.2.1] at hn;cases hn)
   (SJ sa gb qn).symm
  subst eb'
  obtain⟨_,_,ma⟩:=Hu hM (st':=apply Z b.dst ob) U (by rw[ca];simp) (fun s hs=>(Kd sb (g2 s hs)).symm) (fun V hn=>(Ke sb (g4 V.1 (dJ.2 ⟨V,hn,rfl⟩))).symm)
   (J8 sb ga)
  refine⟨rfl,rfl,mb _,ma _,(Zs sb sa gd' gd qn (fun V hm=>?_) (fun jW V hn=>?_) fun jW o ho V hn=>?_).symm⟩;{exact (NX (S:=oa.kj) (fun m hm=>(Ke sb (g4 m.1 (dJ.2 ⟨m,ra m hm,rfl⟩))).symm) V hm).symm};{rcases hz with hz | hz;{exact iW hz jW};{exact hz.2.2 V (fb3 V hn)}};{rcases hz with hz | hz;{exact iW hz jW};{exact hz.2.2 V (fb4 o ho V hn)}}
 {cases hC}
theorem TW {o:A8} {Z st':St} {e e1:E} {out:AQ} (A:Cv M h dep j5 i o Z e=some (out,e1,info)) (hc:info.cls=.calls) (U:∀ s∈info.reads,Z.tmps.getD s .undef=st'.tmps.getD s .undef) (h3:Gm o st'=Gm o Z) :
  De out=true/\Cv M h dep j5 i o st' e=some (out,e1,info):=by
 obtain⟨dst,op,gu⟩:=o;unfold Cv at A |-
 have hw:(∀ s∈G5 j5 ⟨dst,op,gu⟩,Z.tmps.getD s .undef=st'.tmps.getD s .undef)->Ew j5 ⟨dst,op,gu⟩ st'.tmps=Ew j5 ⟨dst,op,gu⟩ Z.tmps:=by
  intro hg;unfold Ew G5 at *;cases hgu:gu with
  | none=>rfl
  | some jw =>
   obtain⟨j,want⟩:=jw;rw[hgu] at hg;simp only at hg |-;cases hj:j5[j]? with
   | none=>rfl
   | some p =>
    rw[hj] at hg;simp only at hg |-;cases hd:p.dst with
    | none=>rfl
    | some d =>
     rw[hd] at hg;simp only
     rw[hg d (by simp)]
 cases vT:Ew j5 ⟨dst,op,gu⟩ Z.tmps with
 | none=>rw[vT] at A;cases A
 | some b =>
  rw[vT] at A;cases b with
  | false=>simp only at A;cases A;cases hc
  | true =>
   simp only at A;cases kd:Ej M h dep ⟨dst,op,gu⟩ Z e with
   | none=>rw[kd] at A;cases A
   | some q =>
    obtain⟨qR,e'⟩:=q;rw[kd] at A;simp only at A;obtain⟨rfl,rfl,rfl⟩:qR=out/\e'=e1/\HL j5 i ⟨dst,op,gu⟩ Z qR=info:=by simp only[dL,eC] at A;exact A
    have sR:Ih op Z.tmps=true:=by
     simp only[HL] at hc;split at hc;{split at hc;{assumption};·cases hc}
     ·split at hc;·cases hc
      {split at hc<;>cases hc}
    unfold Ih at sR;split at sR
    case h_2=>cases sR
    rename_i f args;split at sR
    case h_2=>cases sR
    rename_i d hf
    have xt:∀ x∈f :: args,x.ev Z.tmps=x.ev st'.tmps:=by
     intro x hxm;cases x with
     | c v=>rfl
     | t s=>exact U s (ec _ (gW.2 ⟨.t s,by simpa[AG.H] using hxm,rfl⟩))
    have pC:=xt f d7;have hae:=IY (H:=args) fun x hxm=>xt x (dZ _ hxm);have hae2:=IY (H:=f :: args) xt;unfold Ej at kd;obtain⟨nD,kd⟩:=Bx kd;simp only at kd;obtain⟨nM,qP⟩:=SI kd;have qo:=nM;unfold D3 at qo;simp only[hf,sR,iH] at qo;obtain⟨hny,pf⟩:=Bx qo;clear qo;cases hh:h d (args.map (RX.ev Z.tmps)) e with
    | none=>rw[hh] at pf;cases pf
    | some q =>
     obtain⟨bb,ee⟩:=q;rw[hh] at pf;simp only[dL,eC] at pf;obtain⟨rfl,rfl⟩:=pf;refine⟨rfl,?_⟩;have hcall':D3 M h dep (dst.getD 0) (Al st'.jC) st'.tmps f args e=some ({v:=.bool bb},ee):=by unfold D3;simp only[<-pC,<-hae,hf,sR,iH,hny,AN,hh]
     have sn:Ej M h dep ⟨dst,.call f args,gu⟩ st' e=some ({v:=.bool bb},ee):=by unfold Ej;rw[h3,nD];simp only[AN,iH,hcall',qP]
     rw[hw fun s hs=>U s (eh _ hs),vT];simp only[sn,dL,eC,true_and];have oT:(f.ev Z.tmps).names=[]:=by rw[hf];rfl
     have oQ:AU ((f :: args).map (RX.ev Z.tmps))=[]:=by rw[dI];simp only[AU,oT,eM];exact eZ.1 sR
     have hrn:∀ s:St,AU ((f :: args).map (RX.ev s.tmps))=[]->GB ⟨dst,.call f args,gu⟩ s {v:=.bool bb}=[]:=by
      intro s hs;unfold GB;rw[iI (by simp[IR])];have:(AG.call f args).H=f :: args:=rfl;rw[this,hs];simp only[ft]
      have:∀ (σ:Nm->jk) (k:Nat),Bn σ k []=[]:=by
       intro σ k;induction k with
       | zero=>rfl
       | succ k ih=>simp[Bn,ih]
      exact this _ _
     unfold HL;rw[hrn Z oQ,hrn st' (by rw[<-hae2];exact oQ)];have hy2:Ih (.call f args) st'.tmps=Ih (.call f args) Z.tmps:=by unfold Ih;simp only[<-pC,<-hae]
     have e2:(AG.call f args).H=f :: args:=rfl;simp only[hy2,e2,<-hae2,Gu,KU,im];congr 1;exact N6 U
theorem swapD (hM:Hq M) {a b:A8} {Z:St} {e ea eb:E} {ob:AQ} (U:Cv M h dep j5 i a Z e=some (oa,ea,ia)) (O:Cv M h dep j5 j b (apply Z a.dst oa) ea=some (ob,eb,ib))
  (hi:JY ia ib=true):∃ em,Cv M h dep j5 j b Z e=some (ob,em,ib)/\Cv M h dep j5 i a (apply Z b.dst ob) em=some (oa,eb,ia)/\apply (apply Z a.dst oa) b.dst ob=apply (apply Z b.dst ob) a.dst oa:=by
 unfold JY at hi;obtain⟨hd,hor⟩:=gp.1 hi;rcases Bool.or_eq_true_iff.1 hor with hC | hY
 {obtain⟨rfl,rfl,q1,q2,q3⟩:=swapD0 hM U O (by rw[hd,hC];rfl);exact⟨_,q1,q2,q3⟩};{have da:=QF U;have db:=QF O;obtain⟨fa1,_,_,_⟩:=Qh U;obtain⟨fb1,_,_,_⟩:=Qh O;simp only[dF] at hd;obtain⟨⟨⟨g1,g2⟩,g3⟩,g4⟩:=hd;rw[da] at g1 g3;rw[db] at g1 g2 g4;have g1:=IZ g1;have g2:=IZ g2;have g3:=IZ g3;have g4:=IZ g4;have gd:∀ x∈b.dst.toList,x ∉ a.dst.toList:=fun x A=>g1 x (eh _ A);have gd':∀ x∈a.dst.toList,x ∉ b.dst.toList:=fun x A nn=>gd x nn A;have gb:∀ d,b.dst=some d->d ∉ a.dst.toList:=fun d hd=>gd d (by rw[hd];simp);have ga:∀ d,a.dst=some d->d ∉ b.dst.toList:=fun d hd=>gd' d (by rw[hd];simp);unfold wy at hY;split at hY;{rename_i ca cb;have sa:=fa1 ca;obtain⟨_,ea',ma0⟩:=Hu hM (st':=Z) U (.inl ca) (fun _ _=>rfl) (fun _ _=>rfl) rfl;subst ea';obtain⟨sb,mb⟩:=TW (st':=Z) O cb (fun s hs=>Kd sa (g1 s (ec _ hs))) (J8 sa gb).symm;obtain⟨_,_,ma⟩:=Hu hM (st':=apply Z b.dst ob) U (.inl ca) (fun s hs=>(Kd sb (g2 s hs)).symm) (fun V hn=>(Ke sb (g4 V.1 (dJ.2 ⟨V,hn,rfl⟩))).symm) (J8 sb ga);refine⟨eb,mb,ma _,?_⟩;rw[G2 sa,G2 sb,G2 sb,G2 sa];exact Qe gd' _ _ _ _ _};{rename_i ca cb;have sb:=fb1 cb;obtain⟨sa,ma0⟩:=TW (st':=Z) U ca (fun _ _=>rfl) rfl;obtain⟨_,eb',mb⟩:=Hu hM (st':=Z) O (.inl cb) (fun s hs=>Kd sa (g1 s (ec _ hs))) (fun V hn=>Ke sa (g3 V.1 (dJ.2 ⟨V,hn,rfl⟩))) (J8 sa gb).symm;subst eb';obtain⟨_,ma⟩:=TW (st':=apply Z b.dst ob) U ca (fun s hs=>(Kd sb (g2 s hs)).symm) (J8 sb ga);refine⟨e,mb _,ma,?_⟩;rw[G2 sa,G2 sb,G2 sb,G2 sa];exact Qe gd' _ _ _ _ _};{cases hY}}
abbrev Mm:=Nat×Nat×DP
inductive Mk (M:Bp) {E:Type} (h:AA E) (dep:Nat) (j5:jv):List Mm->St->E->St->E->Prop
 | nil (Z:St) (e:E):Mk M h dep j5 [] Z e Z e
 | cons (t:Mm) (rest:List Mm) (o:A8) (Z jU:St) (out:AQ) (e e1 e2:E) (ho:j5[t.1]?=some o) (hs:Cv M h dep j5 t.1 o Z e=some (out,e1,t.2.2)) (T:Mk M h dep j5 rest (apply Z o.dst out) e1 jU e2) :
   Mk M h dep j5 (t :: rest) Z e jU e2
theorem an (hM:Hq M) {t:Mm}:∀ {s1 s2:List Mm} {Z jU:St} {e e2:E},Mk M h dep j5 (s1++t :: s2) Z e jU e2->(∀ y∈s1,JY y.2.2 t.2.2=true)->Mk M h dep j5 (t :: (s1++s2)) Z e jU e2:=by
 intro s1;induction s1 with
 | nil=>intro s2 Z jU e e2 T _;exact T
 | cons y s1 ih =>
  intro s2 Z jU e e2 T hi;cases T with
  | cons _ _ oy _ _ outy _ e1 _ hoy hsy T =>
   have:=ih T fun z hz=>hi z (dZ _ hz);cases this with
   | cons _ _ ot _ _ outt _ e3 _ hot lr mL =>
    obtain⟨em,q3,q4,q5⟩:=swapD hM hsy lr (hi y d7);refine .cons t _ ot Z jU outt _ _ e2 hot q3 (.cons y _ oy _ jU outy _ _ e2 hoy q4 ?_);rw[<-q5];exact mL
theorem ZM {o:A8} {Z:St} {e e1:E} {out:AQ} (A:Cv M h dep j5 i o Z e=some (out,e1,info)):stepG M h dep j5 o Z e=some (apply Z o.dst out,e1):=by unfold Cv at A;unfold stepG;split at A;{split at A;{rename_i o2 e2 ho;cases A;simp[Ku,ho]};{cases A}};{cases A;rfl};{cases A}
theorem tj (hM:Hq M):∀ (l:jm) (L:List Mm) {Z jU:St} {e e2:E},Mk M h dep j5 L Z e jU e2->L.Pairwise (fun y x=>x.2.1.testBit y.1=true\/JY y.2.2 x.2.2=true)->l.Perm (L.map (·.1))->l.Nodup ->
  (∀ l1 x l2,l=l1++x :: l2->∀ t∈L,t.1=x->∀ y∈L,t.2.1.testBit y.1=true->y.1∈l1)->Jo M h dep j5 l Z e jU e2:=by
 intro l;induction l with
 | nil =>
  intro L Z jU e e2 T _ hp _ _;have:L=[]:=by simpa using hp.symm.eq_nil
  subst this;cases T;exact .nil _ _
 | cons x l ih =>
  intro L Z jU e e2 T hpw hp mu xu;have A:x∈L.map (·.1):=hp.mem_iff.1 d7;obtain⟨t,ht,tk⟩:=dJ.1 A;obtain⟨s1,s2,rfl⟩:=List.append_of_mem ht
  have hind:∀ y∈s1,JY y.2.2 t.2.2=true:=by
   intro y hy;rcases (List.pairwise_append.1 hpw).2.2 y hy t d7 with h | h
   {have:=xu [] x l rfl t ht tk y (ec _ hy) h;cases this};{exact h}
  have mL:=an hM T hind;cases mL with
  | cons _ _ o _ _ out _ e1 _ ho hs rA =>
   rw[tk] at ho hs;refine .cons x l o Z _ jU e e1 e2 ho (ZM hs) (ih (s1++s2) rA ?_ ?_ (gB.1 mu).2 ?_);{obtain⟨p1,p2,p3⟩:=List.pairwise_append.1 hpw;exact List.pairwise_append.2 ⟨p1,(fc.1 p2).2,fun y hy z hz=>p3 y hy z (dZ _ hz)⟩}
   ·have U:(x :: l).Perm (x :: (s1++s2).map (·.1)):=by refine hp.trans ?_;rw[fk,dI,fk,tk];exact List.perm_middle
    exact U.cons_inv
   ·intro l1 z l2 hl t' vV htz y hy hb;have k9:∀ {q},q∈s1++s2->q∈s1++t :: s2:=fun {q} hq=>by rcases dX.1 hq with hq | hq;{exact ec _ hq};{exact eh _ (dZ _ hq)}
    have:=xu (x :: l1) z l2 (by rw[hl];rfl) t' (k9 vV) htz y (k9 hy) hb;rcases dM.1 this with hyx | h
    ·exfalso;have U:(x :: l).Perm (x :: (s1++s2).map (·.1)):=by refine hp.trans ?_;rw[fk,dI,fk,tk];exact List.perm_middle
     have O:=(U.cons_inv).mem_iff.2 (dJ.2 ⟨y,hy,rfl⟩);rw[hyx] at O;exact (gB.1 mu).1 O
    {exact h}
theorem bG:∀ (l:List (Nat×Nat)) (infos:List DP) {Z jU:St} {e e2:E},Io M h dep j5 l infos Z e=some (jU,e2) ->
  ∃ L:List Mm,L.map (fun t=>(t.1,t.2.1))=l/\Mk M h dep j5 L Z e jU e2/\L.Pairwise (fun y x=>x.2.1.testBit y.1=true\/JY y.2.2 x.2.2=true) /\
   ∀ j∈infos,∀ x∈L,x.2.1.testBit j.i=true\/JY j x.2.2=true:=by
 intro l;induction l with
 | nil =>
  intro infos Z jU e e2 T;simp only[Io,dL,eC] at T;obtain⟨rfl,rfl⟩:=T;exact⟨[],rfl,.nil _ _,.nil,fun _ _ x A=>by cases A⟩
 | cons p l ih =>
  obtain⟨i,qF⟩:=p;intro infos Z jU e e2 T;simp only[Io] at T;split at T
  case h_2=>cases T
  rename_i o ho;split at T
  case h_2=>cases T
  rename_i xn e1 info hs;obtain⟨hk,T⟩:=Bx T;obtain⟨L,U,O,h3,h4⟩:=ih (info :: infos) T;unfold Nv at hs;split at hs
  case h_2=>cases hs
  rename_i out lG info' kd;cases hs
  have hii:info.i=i:=by
   unfold Cv at kd;split at kd
   ·split at kd;·cases kd;rfl
    {cases kd}
   {cases kd;rfl};{cases kd}
  refine⟨(i,qF,info) :: L,by simp[U],.cons (i,qF,info) L o Z jU out e e1 e2 ho kd O,fc.2 ⟨fun x A=>?_,h3⟩,fun j hj x A=>?_⟩
  ·have:=h4 info d7 x A
   rwa [hii] at this
  ·rcases dM.1 A with rfl | A
   {have:=d6.1 hk j hj;simpa using this};{exact h4 j (dZ _ hj) x A}
end swap
inductive Anc (ops:Array Oper):Nat->Nat->Prop
 | base (i:Nat) (o:Oper) (e:Edge) (ho:ops[i]?=some o) (he:e∈o.after) (hb:Region.binds .any e=true):Anc ops i e.on
 | step (i y:Nat) (o:Oper) (e:Edge) (ho:ops[i]?=some o) (he:e∈o.after) (hb:Region.binds .any e=true) (h:Anc ops e.on y):Anc ops i y
inductive HY (ops:Array Oper):jm->Prop
 | nil:HY ops []
 | cons (i:Nat) (acc:jm) (h:∀ o,ops[i]?=some o->∀ e∈o.after,Region.binds .any e=true->e.on∈acc) (T:HY ops acc):HY ops (i :: acc)
section order
variable {ops:Array Oper}
theorem HY.ng {l1 l2:jm} (h:HY ops (l1++l2)):HY ops l2:=by
 induction l1 with
 | nil=>exact h
 | cons x l1 ih=>cases h with | cons _ _ _ T=>exact ih T
theorem WM {x:Nat} (ha:Anc ops x y):∀ {l1 l2:jm},HY ops (l1++x :: l2)->y∈l2:=by
 induction ha with
 | base i o e ho he hb=>intro l1 l2 h;cases h.ng with | cons _ _ U _=>exact U o ho e he hb
 | step i y o e ho he hb _ ih =>
  intro l1 l2 h;cases h.ng with
  | cons _ _ U T =>
   have hm:=U o ho e he hb;obtain⟨s1,s2,rfl⟩:=List.append_of_mem hm;exact eh _ (dZ _ (ih T))
theorem Vp {k b:Nat} (h:acc.lookup k=some b):(k,b)∈acc:=by
 induction acc with
 | nil=>simp at h
 | cons p acc ih =>
  obtain⟨k',b'⟩:=p;rw[gX] at h;by_cases hk:(k==k')=true;{rw[hk] at h;cases h;rw[beq_iff_eq.1 hk];exact d7};{rw[gY] at hk;rw[hk] at h;exact dZ _ (ih h)}
theorem ZO {k:Nat} (h:k∈acc.map (·.1)):(acc.lookup k).isSome=true:=by
 induction acc with
 | nil=>simp at h
 | cons p acc ih =>
  obtain⟨k',b'⟩:=p;rw[gX];by_cases hk:(k==k')=true;{rw[hk];rfl};{rw[gY] at hk;rw[hk];refine ih ?_;rw[dI,dM] at h;rcases h with h | h;{rw[h] at hk;simp at hk};{exact h}}
theorem ah:∀ {es:List Edge},(M9 acc es).testBit y=true->∃ e∈es,Region.binds .any e=true/\(y=e.on\/∃ b,(e.on,b)∈acc/\b.testBit y=true):=by
 intro es;induction es with
 | nil=>intro h;simp[M9] at h
 | cons e es ih =>
  intro h;simp only[M9] at h;by_cases hb:Region.binds .any e=true
  ·rw[iJ hb] at h;rw[Nat.testBit_or,Nat.testBit_or,gq,gq] at h;rcases h with (h | h) | h
   {refine⟨e,d7,hb,.inl ?_⟩;rw[Nat.testBit_two_pow] at h;exact (iY h).symm}
   ·refine⟨e,d7,hb,.inr ?_⟩;cases hl:acc.lookup e.on with
    | none=>rw[hl] at h;simp at h
    | some b=>rw[hl] at h;exact⟨b,Vp hl,h⟩
   {obtain⟨e',he',r⟩:=ih h;exact⟨e',dZ _ he',r⟩}
  {rw[iI hb] at h;obtain⟨e',he',r⟩:=ih h;exact⟨e',dZ _ he',r⟩}
theorem W9 (h:l.Nodup):l.reverse.Nodup:=by unfold List.Nodup at *;rw[List.pairwise_reverse];exact h.imp fun jW e=>jW e.symm
theorem Vl:∀ {m:jm},l.Nodup->(∀ x∈l,x∈m)->l.length<=m.length:=by
 induction l with
 | nil=>intro m _ _;exact fp _
 | cons x l ih =>
  intro m mu hs;obtain⟨m1,m2,rfl⟩:=List.append_of_mem (hs x d7);have A:=(gB.1 mu).1
  have:=ih (m:=m1++m2) (gB.1 mu).2 fun y hy=>by
   have hm:=hs y (dZ _ hy);rcases dX.1 hm with hm | hm;{exact ec _ hm}
   {rcases dM.1 hm with rfl | hm;{exact iW hy A};{exact eh _ hm}}
  simp only[eA,eS] at this |-;omega
theorem dC:∀ (c:jm) (acc:List (Nat×Nat)) (r:List (Nat×Nat)),NS ops c acc=some r->HY ops (acc.map (·.1))->(acc.map (·.1)).Nodup->(∀ i∈acc.map (·.1),i < ops.size)->(∀ p∈acc,∀ y,p.2.testBit y=true->Anc ops p.1 y) ->
  HY ops (r.map (·.1)).reverse/\(r.map (·.1)).Nodup/\(∀ i∈r.map (·.1),i < ops.size)/\r.length=ops.size/\∀ p∈r,∀ y,p.2.testBit y=true->Anc ops p.1 y:=by
 intro c;induction c with
 | nil =>
  intro acc r h U O h3 h4;simp only[NS] at h;split at h;{rename_i hl;cases h;refine⟨by rw[List.map_reverse,List.reverse_reverse];exact U,by rw[List.map_reverse];exact W9 O,fun i hi=>h3 i (by rw[List.map_reverse,ip] at hi;exact hi),by rw[List.length_reverse];exact hl,fun p hp=>h4 p (ip.1 hp)⟩};{cases h}
 | cons i c ih =>
  intro acc r h U O h3 h4;simp only[NS] at h;split at h
  case h_2=>cases h
  rename_i o ho;split at h
  case isFalse=>cases h
  rename_i hk;obtain⟨kF,nL⟩:=hk;have hedge:∀ e∈o.after,Region.binds .any e=true->e.on∈acc.map (·.1):=by intro e he hb;have:=d6.1 nL e (by simpa using he);rw[hb] at this;simp only[dK,eQ] at this;obtain⟨b,lX⟩:=fZ.1 this;exact dJ.2 ⟨(e.on,b),Vp lX,rfl⟩
  refine ih _ r h ?_ ?_ ?_ ?_;{refine .cons i _ (fun o' rB e he hb=>?_) U;rw[ho] at rB;cases rB;exact hedge e he hb};{refine gB.2 ⟨fun hm=>?_,O⟩;have:=ZO hm;rw[il.1 kF] at this;cases this};{intro k hk;rcases dM.1 hk with rfl | hk;{exact (gJ.1 ho).1};{exact h3 k hk}}
  ·intro p hp y hy;rcases dM.1 hp with rfl | hp
   ·obtain⟨e,he,hb,T⟩:=ah hy;have he':e∈o.after:=by simpa using he
    rcases T with rfl | ⟨b,hm,hbit⟩;{exact .base i o e ho he' hb};{exact .step i y o e ho he' hb (h4 _ hm y hbit)}
   {exact h4 p hp y hy}
theorem Wj {n:Nat} (U:l.Nodup) (O:∀ i∈l,i < n) (h3:l.length=n):l.Perm (List.range n):=by
 refine (List.perm_ext_iff_of_nodup U List.nodup_range).2 fun a=>⟨fun ha=>fI.2 (O a ha),fun ha=>?_⟩
 exact fh fun hn=>by
  have:=Vl (l:=a :: l) (m:=List.range n) (gB.2 ⟨hn,U⟩) fun x A=>by rcases dM.1 A with rfl | A;{exact ha};{exact fI.2 (O x A)}
  simp at this;omega
theorem ZY (ry:HY ops c.reverse) (rG:c.Perm (List.range ops.size)):∀ (fuel t:Nat) (listed:Array Bool) (acc:jm),
  listed.size=ops.size->(∀ k,k < ops.size->(listed.getD k false=true↔k∈acc))->acc.Nodup->(∀ k∈acc,k < ops.size)->acc.length+fuel=ops.size->HY ops acc ->
  ∃ l,Region.linearise.go .any ops fuel t listed acc=l/\HY ops l.reverse/\l.Nodup/\(∀ k∈l,k < ops.size)/\l.length=ops.size:=by
 intro fuel;induction fuel with
 | zero =>
  intro t listed acc _ _ mu jP hlen xu;exact⟨acc.reverse,rfl,by rwa [List.reverse_reverse],W9 mu,fun k hk=>jP k (ip.1 hk),by rw[List.length_reverse];omega⟩
 | succ fuel ih =>
  intro t listed acc kS hl mu jP hlen xu;have gd:∀ k,k < ops.size->listed.getD k true=listed.getD k false:=fun k hk=>by simp[kS,hk]
  have hready:Region.ready .any ops listed≠[]:=by
   have hex:∃ c1 i c2,c=c1++i :: c2/\(∀ x∈c1,x∈acc)/\i ∉ acc:=by
    have jW:∃ k∈c,k ∉ acc:=fh fun ny=>by have kE:∀ k∈c,k∈acc:=fun k hk=>fh fun h=>ny ⟨k,hk,h⟩;have:=Vl (l:=List.range ops.size) (m:=acc) List.nodup_range fun x A=>kE x (rG.mem_iff.2 A);simp at this;omega
    clear ry rG;induction c with
    | nil=>obtain⟨k,hk,_⟩:=jW;cases hk
    | cons x c ihc =>
     by_cases A:x∈acc
     ·obtain⟨k,hk,hka⟩:=jW;rcases dM.1 hk with rfl | hk;{exact iW A hka}
      {obtain⟨c1,i,c2,rfl,U,O⟩:=ihc ⟨k,hk,hka⟩;exact⟨x :: c1,i,c2,rfl,fun y hy=>(dM.1 hy).elim (fun e=>e ▸ A) (U y),O⟩}
     {exact⟨[],x,c,rfl,fun y hy=>(by cases hy),A⟩}
   obtain⟨c1,i,c2,rfl,U,O⟩:=hex;have nb:i < ops.size:=fI.1 (rG.mem_iff.1 (eh _ d7))
   have k9:i∈Region.ready .any ops listed:=by
    refine mem_ready.2 ⟨?_,ops[i],Array.getElem?_eq_getElem nb,fun e he hb=>?_⟩
    ·rw[gd i nb];cases hb:listed.getD i false with
     | false=>rfl
     | true=>exact iW ((hl i nb).1 hb) O
    ·have ho:HY ops (c2.reverse++i :: c1.reverse):=by simpa using ry
     have hon:e.on∈c1:=by simpa using WM (.base i ops[i] e (Array.getElem?_eq_getElem nb) he hb) ho
     have tl:=U _ hon;exact (hl e.on (jP _ tl)).2 tl
   intro h0;rw[h0] at k9;cases k9
  simp only[Region.linearise.go]
  change ∃ l,(match (Region.ready .any ops listed)[t%(Region.ready .any ops listed).length]? with
   | some i=>Region.linearise.go .any ops fuel (t / (Region.ready .any ops listed).length) (listed.setIfInBounds i true) (i :: acc)
   | none=>acc.reverse)=l/\_
  have n6:t%(Region.ready .any ops listed).length < (Region.ready .any ops listed).length:=gn _ (List.length_pos_iff.2 hready);rw[dQ n6];simp only
  have him:=eW n6;generalize (Region.ready .any ops listed)[t%(Region.ready .any ops listed).length]=i at him |-;obtain⟨hi1,o,ho,hi2⟩:=mem_ready.1 him;have nb:i < ops.size:=(gJ.1 ho).1;have hia:i ∉ acc:=fun hm=>by have:=(hl i nb).2 hm;rw[<-gd i nb,hi1] at this;cases this
  refine ih _ _ _ (by simpa using kS) (fun k hk=>?_) (gB.2 ⟨hia,mu⟩) (fun k hk=>?_) (by simp only[eS];omega) (.cons i acc (fun o' rB e he hb=>?_) xu)
  ·by_cases hki:k=i
   {subst hki;simp[kS,hk]};{have:(listed.setIfInBounds i true).getD k false=listed.getD k false:=getD_set_ne false (eH hki);rw[this,hl k hk];simp[hki]}
  {rcases dM.1 hk with rfl | hk;{exact nb};{exact jP k hk}}
  ·rw[ho] at rB;cases rB;have:=hi2 e he hb;have hon:e.on < ops.size:=by rcases Nat.lt_or_ge e.on listed.size with h | h;{omega};{simp[iq h] at this}
   exact (hl e.on hon).1 this
end order
section draw
variable {E:Type} {cx:Cx} {w0:i7} {I0 F0:Nat->Prop} {O0:Cw} {Hd:Nat->Option Obj} {R:Ch E} {e e':E} {F F':Nat->Prop} {lp:Nat->jj} {jH j4:List i8}
variable {I I':Nat->Prop} {L:AK} {Z st':St} {a:Act} {w w':i7} {o:Oper} {M:Bp} {h:AA E} {dep:Nat}
theorem Fr.drew (hf:Fr cx w0 I0 F0 O0 Hd R e ds I F L w):Fr cx w0 I0 F0 O0 Hd R e ds I F L w.drew :=
 hf.same ⟨rfl,rfl,rfl,rfl⟩
theorem aw {ops:Array Oper} (hM:Fy cx M.call) (kG:vS cx M) (mg:Hq M) (jY:Ref cx lp R h dep w0 I0 F0) {e2:E} {l:List (Nat×Nat)}
  (hb:NS ops ord []=some l) (T:Io M h dep (ops.toList.map (Dy cx.P cx.G)) l [] (FQ (DB (ops.toList.map (Dy cx.P cx.G))) Z) e=some (jU,e2))
  (hs:SR lp I L Z a.tmps.toList jH w) (hf:Fr cx w0 I0 F0 O0 Hd R e a.defers I F L w)
  (hQ:∀ a' w' I' F' L',SR lp I' L' jU a'.tmps.toList jH w'->Fr cx w0 I0 F0 O0 Hd R e2 a'.defers I' F' L' w'->Q .normal a' w'):(Code.region id ops true).wpIn (EO ro) 0 cx.P Q a w:=by
 obtain⟨b1,b2,b3,b4,b5⟩:=dC ord [] l hb .nil List.nodup_nil (fun i hi=>by cases hi) (fun p hp=>by cases hp);have hcp:(l.map (·.1)).Perm (List.range ops.size):=Wj b2 b3 (by rw[dY];exact b4);obtain⟨L',kV,kK⟩:=OH (DB (ops.toList.map (Dy cx.P cx.G))) hs hf;obtain⟨items,i1,i2,i3,_⟩:=bG l [] T;refine wpIn_region_draw fun t=>?_;simp only[Region.schedule,cx.mixed,fJ,iH];obtain⟨sch,s1,s2,s3,s4,s5⟩:=ZY b1 hcp ops.size t (Array.replicate ops.size false) [] (by simp) (fun k hk=>by simp[hk]) List.nodup_nil (fun k hk=>by cases hk) (by simp) .nil;have hsch:Region.linearise .any ops t=sch:=s1;rw[hsch];have pB:items.map (·.1)=l.map (·.1):=by rw[<-i1,eo];rfl
 have hG:=tj mg sch items i2 i3 (by rw[pB];exact (Wj s3 s4 s5).trans hcp.symm) s3 (fun l1 x l2 hl t' ht tk y hy hbit=>by
  have hp:(t'.1,t'.2.1)∈l:=by rw[<-i1];exact dJ.2 ⟨t',ht,rfl⟩
  have hanc:=b5 _ hp y.1 hbit;simp only at hanc;rw[tk] at hanc;rw[hl] at s2;simp only[List.reverse_append,List.reverse_cons,eL,List.singleton_append] at s2;simpa using WM hanc s2)
 rw[<-ft sch];exact S3 (l':=[]) hM kG jY hG (kV.same ⟨rfl,rfl,rfl,rfl⟩) kK.drew hQ
end draw
end Go.Ab


namespace Go.Ab
variable{cs:jh} {f:Nm->Nm} {l:jp} {m V:Nm} {p:Option (Nat×Nat)} {t ty:Nat}
section
variable {E:Type} {cx:Cx} {w0:i7} {I0 F0:Nat->Prop} {O0:Cw} {Hd:Nat->Option Obj} {R:Ch E} {e:E} {F:Nat->Prop} {lp:Nat->jj} {jH j4:List i8}
variable {I:Nat->Prop} {L:AK} {Z:St} {w:i7} {ds:List jf}
theorem VB (h:LF Z t=true):Z.jC[t]?=some []:=by unfold LF at h;split at h;{assumption};·cases h
theorem Wo (h:Z.jC[t]?=some []) (j:Nat):Al Z.jC (t,j)=none:=by unfold Al;rw[h];rfl
theorem BR.jR {ob:Ob} {L L':AK} (h:BR w I lp L ob p) (hf:∀ V p,L V=some p->L' (f V)=some p):BR w I lp L' (ob.jR f) p:=by
 cases p with
 | none=>obtain⟨k,kt,rfl⟩:=h;exact⟨k,kt,rfl⟩
 | some p =>
  cases ob with
  | cells ty cs=>obtain⟨c,E,U,O,h4,h3⟩:=h;exact⟨c,E,U,O,h4,h3.rename hf⟩
  | arr k kt H=>exact h
  | map es=>exact h
  | jT s pos=>exact h
def Jc (L:AK) (t:Nat) (V:Nm):AK:=fun m=>if m=(t,0) then L V else if m=V then some none else L m
theorem tn (t:Nat) (hs:SR lp I L Z j4 jH w) (hf:Fr cx w0 I0 F0 O0 Hd R e ds I F L w):∃ L',SR lp I L' (LB t Z) j4 jH w/\Fr cx w0 I0 F0 O0 Hd R e ds I F L' w:=by
 unfold LB;split
 case h_2=>exact⟨L,hs,hf⟩
 rename_i V k o n A;split
 case isFalse=>exact⟨L,hs,hf⟩
 rename_i hc;obtain⟨jW,hem⟩:=hc;have k8:=VB hem;split
 case h_2=>exact⟨L,hs,hf⟩
 rename_i ob kD;obtain⟨p,hp,ha⟩:=hs.ob V ob kD;have ny:L (t,0)=none:=hs.mf _ (Wo k8 0);have oN:V.1≠t:=by intro U;unfold Al at kD;rw[U,k8] at kD;simp at kD
 have mM:∀ m q,L m=some q->Jc L t V (if m=V then (t,0) else m)=some q:=by
  intro m q hq;unfold Jc;by_cases hm:m=V;{subst hm;simp[hq]}
  ·have hmt:m≠(t,0):=fun h=>by rw[h,ny] at hq;cases hq
   simp[hm,hmt,hq]
 have mc:∀ m b C,Jc L t V m=some (some (b,C))->∃ m',L m'=some (some (b,C))/\(m=(t,0)/\m'=V\/m≠(t,0)/\m≠V/\m'=m):=by
  intro m b C hm;unfold Jc at hm;split at hm;{rename_i U;exact⟨V,hm,.inl ⟨U,rfl⟩⟩}
  ·rename_i U;split at hm;·cases hm
   {rename_i O;exact⟨m,hm,.inr ⟨U,O,rfl⟩⟩}
 refine⟨Jc L t V,⟨hs.tm.rename mM,hs.kp.rename mM,?_,?_⟩,?_⟩
 ·intro m nK hl;have jP:t < (Bv (Z.jC.map (·.map (Ob.jR fun m=>if m=V then (t,0) else m))) V BO).length:=by have U:=(dU.1 k8).1;unfold Bv;split<;>simp<;>exact U
  by_cases U:m.1=t
  ·obtain⟨a,j⟩:=m;simp only at U;subst U;rw[HZ _ jP] at hl;cases j with
   | succ j=>simp at hl
   | zero =>
    simp only[dP,dL] at hl;subst hl;exact⟨p,by simp[Jc,hp],ha.jR mM⟩
  ·rw[G1 _ U] at hl;have h1':m≠(t,0):=fun h=>U (by rw[h]);by_cases O:m=V
   ·subst O;have:Al (Z.jC.map (·.map (Ob.jR fun m'=>if m'=m then (t,0) else m'))) m=some (ob.jR fun m'=>if m'=m then (t,0) else m'):=by rw[Gh,kD];rfl
    rw[Ld BO this] at hl;cases hl;exact⟨none,by simp[Jc,h1'],⟨0,0,rfl⟩⟩
   {rw[It BO O,Gh] at hl;obtain⟨p9,pr,rfl⟩:=dG.1 hl;obtain⟨q,hq,hb⟩:=hs.ob m p9 pr;exact⟨q,by simp[Jc,h1',O,hq],hb.jR mM⟩}
 ·intro m hl;have jP:t < (Bv (Z.jC.map (·.map (Ob.jR fun m=>if m=V then (t,0) else m))) V BO).length:=by have U:=(dU.1 k8).1;unfold Bv;split<;>simp<;>exact U
  by_cases U:m.1=t
  ·obtain⟨a,j⟩:=m;simp only at U;subst U;rw[HZ _ jP] at hl;cases j with
   | zero=>simp at hl
   | succ j =>
    have O:((a,j+1):Nm)≠V:=fun h=>oN (by rw[<-h]);simp only[Jc,O,iG];have h3:((a,j+1):Nm)≠(a,0):=fun h=>by simp at h
    simp only[h3,iG];exact hs.mf _ (Wo k8 _)
  ·rw[G1 _ U] at hl;have h1':m≠(t,0):=fun h=>U (by rw[h]);have O:m≠V:=fun h=>by subst h;have:=(J6 BO).1 hl;rw[Gh,kD] at this;cases this
   have:=(J6 BO).1 hl;rw[Gh] at this;simp only[Jc,h1',O,iG];exact hs.mf m (by simpa using this)
 {refine hf.own rfl rfl rfl (dH _) (fun _ _ _=>rfl) (fun _ h=>h) (fun _ h=>.inl h) (fun m b C hm=>?_) (fun m m' b C C' U O=>?_);{obtain⟨m',oY,_⟩:=mc m b C hm;exact⟨(hf.lB m' b C oY).2.1,(hf.lB m' b C oY).2.2.1,.inr ⟨m',C,oY⟩⟩};{obtain⟨x,oZ,w9⟩:=mc m b C U;obtain⟨y,hy1,hy2⟩:=mc m' b C' O;have hxy:=hf.inj x y b C C' oZ hy1;rcases w9 with ⟨rfl,rfl⟩ | ⟨g1,g2,rfl⟩<;>rcases hy2 with ⟨rfl,rfl⟩ | ⟨g3,g4,rfl⟩;{rfl};{exact iW hxy.symm g4};{exact iW hxy g2};{exact hxy}}}
theorem co {i k:Nat} (kD:Al Z.jC V=some (.cells ty cs)) (hi:cs[i]?=some .jD) (hs:SR lp I L Z j4 jH w) (hf:Fr cx w0 I0 F0 O0 Hd R e ds I F L w) :
  ∃ L',SR lp I L' {Z with jC:=Z.jC.set V.1 ((Z.jC.getD V.1 []).set V.2 (.cells ty (cs.set i (.arr (V.1,(Z.jC.getD V.1 []).length) k 0 0)))++[.arr k 0 []])} j4 jH w/\Fr cx w0 I0 F0 O0 Hd R e ds I F L' w:=by
 obtain⟨d,j⟩:=V;simp only
 cases hl:Z.jC[d]? with
 | none=>unfold Al at kD;simp only[hl] at kD;cases kD
 | some l =>
  have mV:∀ j,Al Z.jC (d,j)=l[j]?:=fun j=>by unfold Al;simp only[hl]
  have qP:Z.jC.getD d []=l:=by rw[dO,hl];rfl
  have jP:=(dU.1 hl).1;rw[qP];rw[mV] at kD;have hj:=(dU.1 kD).1;have mv:L (d,l.length)=none:=hs.mf _ (by rw[mV];simp)
  let L':AK:=fun t=>if t=(d,l.length) then some none else L t
  have hle:NT L L':=by
   intro t p hp;have:t≠(d,l.length):=fun h=>by rw[h,mv] at hp;cases hp
   simp only[L',this,iG];exact hp
  refine⟨L',⟨hs.tm.lJ hle,hs.kp.lJ hle,fun t ob ht=>?_,fun t ht=>?_⟩,?_⟩
  ·simp only at ht;by_cases U:t.1=d
   ·obtain⟨a,b⟩:=t;simp only at U;subst U;rw[HZ _ jP] at ht;by_cases hb:b < l.length
    ·rw[fu (by simpa using hb)] at ht;have jW:((a,b):Nm)≠(a,l.length):=fun h=>by have:=iP Prod.snd h;simp at this;omega
     by_cases hbj:b=j
     ·subst hbj;rw[fS hb] at ht;cases ht;obtain⟨p,hp,ha⟩:=hs.ob (a,b) _ (by rw[mV];exact kD);refine⟨p,by simp only[L',jW,iG];exact hp,?_⟩;cases p with
      | none=>obtain⟨k',kt',h⟩:=ha;cases h
      | some p =>
       obtain⟨b0,C⟩:=p;obtain⟨c,E',q1,q2,q3,q4⟩:=ha;refine⟨c,E',q1,q2,q3,?_⟩;have q5:=q4.lJ hle;obtain⟨v,hv,T⟩:=q5.get hi;have hvv:=G9 T;subst hvv;have:=q5.set i (x:=.arr (a,l.length) k 0 0) (v:=.slice none 0 0) (.l6 _ k (by simp[L']))
       rwa [TR hv] at this
     {rw[eB (eH hbj)] at ht;obtain⟨p,hp,ha⟩:=hs.ob (a,b) ob (by rw[mV];exact ht);exact⟨p,by simp only[L',jW,iG];exact hp,ha.lJ hle⟩}
    ·rw[fN (by simpa using hb)] at ht;simp only[gz] at ht;have wK:b=l.length:=by have:=(dU.1 ht).1;simp at this;omega
     subst wK;simp at ht;subst ht;exact⟨none,by simp[L'],⟨k,_,rfl⟩⟩
   {rw[G1 _ U] at ht;obtain⟨p,hp,ha⟩:=hs.ob t ob ht;have jW:t≠(d,l.length):=fun h=>U (by rw[h]);exact⟨p,by simp only[L',jW,iG];exact hp,ha.lJ hle⟩}
  ·simp only at ht;by_cases U:t.1=d
   ·obtain⟨a,b⟩:=t;simp only at U;subst U;rw[HZ _ jP] at ht;have hb:l.length < b:=by have:=eI.1 ht;simp at this;omega
    have jW:((a,b):Nm)≠(a,l.length):=fun h=>by have:=iP Prod.snd h;simp at this;omega
    simp only[L',jW,iG];exact hs.mf _ (by rw[mV];exact eI.2 (by omega))
   {rw[G1 _ U] at ht;have jW:t≠(d,l.length):=fun h=>U (by rw[h]);simp only[L',jW,iG];exact hs.mf t ht}
  ·have mc:∀ t b C,L' t=some (some (b,C))->L t=some (some (b,C)):=by
    intro t b C ht;simp only[L'] at ht;split at ht;·cases ht
    {exact ht}
   exact hf.own rfl rfl rfl (dH _) (fun _ _ _=>rfl) (fun _ h=>h) (fun _ h=>.inl h) (fun t b C ht=>by have:=mc t b C ht;exact⟨(hf.lB t b C this).2.1,(hf.lB t b C this).2.2.1,.inr ⟨t,C,this⟩⟩) fun t t' b C C' U O=>hf.inj t t' b C C' (mc _ _ _ U) (mc _ _ _ O)
theorem aS {d len:Nat} {ob:Ob} (hl:Z.jC[d]?=some l) (hlen:l.length=len) (hmd:m.1≠d) (kD:Al Z.jC m=some ob) (hs:SR lp I L Z j4 jH w) (hf:Fr cx w0 I0 F0 O0 Hd R e ds I F L w) :
  let f:Nm->Nm:=fun x=>if x=m then (d,len) else x
  let jC:=Bv (Z.jC.map (·.map (Ob.jR f))) m BO
  ∃ L',SR lp I L' {tmps:=BE f Z.tmps,jC:=jC.set d (jC.getD d []++[ob.jR f]),jG:=BE f Z.jG} j4 jH w/\Fr cx w0 I0 F0 O0 Hd R e ds I F L' w:=by
 intro f jC;obtain⟨p,hp,ha⟩:=hs.ob m ob kD;have mV:∀ j,Al Z.jC (d,j)=l[j]?:=fun j=>by unfold Al;simp only[hl]
 have mv:L (d,len)=none:=hs.mf _ (by rw[mV];simp[hlen]);have jW:m≠(d,len):=fun h=>hmd (by rw[h])
 let L':AK:=fun t=>if t=(d,len) then L m else if t=m then some none else L t
 have mM:∀ x q,L x=some q->L' (f x)=some q:=by
  intro x q hq;simp only[L',f];by_cases A:x=m;{subst A;simp[hq]}
  ·have hxt:x≠(d,len):=fun h=>by rw[h,mv] at hq;cases hq
   simp[A,hxt,hq]
 have mc:∀ x b C,L' x=some (some (b,C))->∃ x',L x'=some (some (b,C))/\(x=(d,len)/\x'=m\/x≠(d,len)/\x≠m/\x'=x):=by
  intro x b C A;simp only[L'] at A;split at A;{rename_i U;exact⟨m,A,.inl ⟨U,rfl⟩⟩}
  ·rename_i U;split at A;·cases A
   {rename_i O;exact⟨x,A,.inr ⟨U,O,rfl⟩⟩}
 have hobd:jC[d]?=some (l.map (Ob.jR f)):=by simp only[jC];unfold Bv;split;{rename_i l' r9;rw[eB hmd,dT,hl];rfl};{rw[dT,hl];rfl}
 have jP:d < jC.length:=(dU.1 hobd).1;have qP:jC.getD d []=l.map (Ob.jR f):=by rw[dO,hobd];rfl
 have xw:Al (Z.jC.map (·.map (Ob.jR f))) m=some (ob.jR f):=by rw[Gh,kD];rfl
 refine⟨L',⟨hs.tm.rename mM,hs.kp.rename mM,?_,?_⟩,?_⟩
 ·intro t nK ht;simp only at ht;rw[qP] at ht;by_cases U:t.1=d
  ·obtain⟨a,j⟩:=t;simp only at U;subst U;rw[HZ _ jP] at ht;by_cases hj:j < l.length
   ·rw[fu (by simpa using hj),dT] at ht;obtain⟨p9,h0,rfl⟩:=dG.1 ht;obtain⟨q,hq,hb⟩:=hs.ob (a,j) p9 (by rw[mV];exact h0);have O:((a,j):Nm)≠(a,len):=fun h=>by have:=iP Prod.snd h;simp at this;omega
    have h3:((a,j):Nm)≠m:=fun h=>hmd (by rw[<-h]);exact⟨q,by simp only[L',O,h3,iG];exact hq,hb.jR mM⟩
   ·rw[fN (by simpa using hj)] at ht;simp only[dY] at ht;have hj2:j=len:=by have:=(dU.1 ht).1;simp at this;omega
    subst hj2;rw[hlen] at ht;simp at ht;subst ht;exact⟨p,by simp[L',hp],ha.jR mM⟩
  {rw[G1 _ U] at ht;have O:t≠(d,len):=fun h=>U (by rw[h]);by_cases h3:t=m;{subst h3;rw[Ld BO xw] at ht;cases ht;exact⟨none,by simp[L',O],⟨0,0,rfl⟩⟩};{rw[It BO h3,Gh] at ht;obtain⟨p9,h0,rfl⟩:=dG.1 ht;obtain⟨q,hq,hb⟩:=hs.ob t p9 h0;exact⟨q,by simp[L',O,h3,hq],hb.jR mM⟩}}
 ·intro t ht;simp only at ht;rw[qP] at ht;by_cases U:t.1=d
  ·obtain⟨a,j⟩:=t;simp only at U;subst U;rw[HZ _ jP] at ht;have hj:l.length < j:=by have:=eI.1 ht;simp at this;omega
   have O:((a,j):Nm)≠(a,len):=fun h=>by have:=iP Prod.snd h;simp at this;omega
   have h3:((a,j):Nm)≠m:=fun h=>hmd (by rw[<-h]);simp only[L',O,h3,iG];exact hs.mf _ (by rw[mV];exact eI.2 (by omega))
  ·rw[G1 _ U] at ht;have O:t≠(d,len):=fun h=>U (by rw[h]);have h3:t≠m:=fun h=>by subst h;have:=(J6 BO).1 ht;rw[xw] at this;cases this
   have:=(J6 BO).1 ht;rw[Gh] at this;simp only[L',O,h3,iG];exact hs.mf t (by simpa using this)
 {refine hf.own rfl rfl rfl (dH _) (fun _ _ _=>rfl) (fun _ h=>h) (fun _ h=>.inl h) (fun x b C A=>?_) (fun x x' b C C' U O=>?_);{obtain⟨x',nn,_⟩:=mc x b C A;exact⟨(hf.lB x' b C nn).2.1,(hf.lB x' b C nn).2.2.1,.inr ⟨x',C,nn⟩⟩};{obtain⟨y,hy1,hy2⟩:=mc x b C U;obtain⟨z,sf,hz2⟩:=mc x' b C' O;have hyz:=hf.inj y z b C C' hy1 sf;rcases hy2 with ⟨rfl,rfl⟩ | ⟨g1,g2,rfl⟩<;>rcases hz2 with ⟨rfl,rfl⟩ | ⟨g3,g4,rfl⟩;{rfl};{exact iW hyz.symm g4};{exact iW hyz g2};{exact hyz}}}
theorem xx (x off k:Nat) (hs:SR lp I L Z j4 jH w) (hf:Fr cx w0 I0 F0 O0 Hd R e ds I F L w):∃ L',SR lp I L' (PJ x off k Z) j4 jH w/\Fr cx w0 I0 F0 O0 Hd R e ds I F L' w:=by
 unfold PJ;split
 case h_2=>exact⟨L,hs,hf⟩
 rename_i V o A;split
 case h_2=>exact⟨L,hs,hf⟩
 rename_i cs kD;unfold OE;simp only
 split;{rename_i hi;exact co kD hi hs hf}
 ·rename_i m k' o' n' hi;split
  case isFalse=>exact⟨L,hs,hf⟩
  rename_i hm;split
  case h_2=>exact⟨L,hs,hf⟩
  rename_i ob l7;cases hl:Z.jC[V.1]? with
  | none=>unfold Al at kD;rw[hl] at kD;cases kD
  | some l =>
   have qP:Z.jC.getD V.1 []=l:=by rw[dO,hl];rfl
   rw[qP];exact aS hl rfl hm l7 hs hf
 {exact⟨L,hs,hf⟩}
theorem grow_ok (t k:Nat) (hs:SR lp I L Z j4 jH w) (hf:Fr cx w0 I0 F0 O0 Hd R e ds I F L w):∃ L',SR lp I L' (Md t k Z) j4 jH w/\Fr cx w0 I0 F0 O0 Hd R e ds I F L' w:=by
 unfold Md;split;{exact xx _ _ _ hs hf};split
 case h_2=>exact⟨L,hs,hf⟩
 rename_i A;split
 case isFalse=>exact⟨L,hs,hf⟩
 rename_i hem;have k8:=VB hem
 have hn:=hs.news k8 [.arr k 0 []] [none] rfl (by
  intro j ob p U O;cases j with
  | zero=>simp at U O;subst U;subst O;exact⟨k,_,rfl⟩
  | succ j=>simp at U)
 have lM:Z.tmps[t]?=some .jD:=by
  cases h:Z.tmps[t]? with
  | none=>rw[dO,h] at A;simp at A
  | some x=>rw[dO,h] at A;simp at A;rw[A]
 obtain⟨v,hv,T⟩:=hs.tm.get lM;have hvv:=G9 T;subst hvv;have hp:=hn.put t (v:=.arr (t,0) k 0 0) (v':=.slice none 0 0) (.l6 _ k (by simp[CZ]));rw[TR hv] at hp;refine⟨CZ L t [none],hp,?_⟩;refine Fr.news hf k8 rfl rfl rfl (dH _) (fun _ _=>rfl) ?_ ?_
 ·intro j b C hj;cases j with
  | zero=>simp at hj
  | succ j=>simp at hj
 ·intro j j' b C C' U _;cases j with
  | zero=>simp at U
  | succ j=>simp at U
theorem xz (kN:jm) (grow:List (Nat×Nat)) (hs:SR lp I L Z j4 jH w) (hf:Fr cx w0 I0 F0 O0 Hd R e ds I F L w):∃ L',SR lp I L' (RC kN grow Z) j4 jH w/\Fr cx w0 I0 F0 O0 Hd R e ds I F L' w:=by
 have U:∀ (kN:jm) (Z:St) (L:AK),SR lp I L Z j4 jH w->Fr cx w0 I0 F0 O0 Hd R e ds I F L w->∃ L',SR lp I L' (kN.foldl (fun Z t=>LB t Z) Z) j4 jH w/\Fr cx w0 I0 F0 O0 Hd R e ds I F L' w:=by
  intro kN;induction kN with
  | nil=>intro Z L hs hf;exact⟨L,hs,hf⟩
  | cons t kN ih =>
   intro Z L hs hf;obtain⟨L',kV,kK⟩:=tn t hs hf;exact ih _ L' kV kK
 have O:∀ (grow:List (Nat×Nat)) (Z:St) (L:AK),SR lp I L Z j4 jH w->Fr cx w0 I0 F0 O0 Hd R e ds I F L w->∃ L',SR lp I L' (grow.foldl (fun Z (t,k)=>Md t k Z) Z) j4 jH w/\Fr cx w0 I0 F0 O0 Hd R e ds I F L' w:=by
  intro grow;induction grow with
  | nil=>intro Z L hs hf;exact⟨L,hs,hf⟩
  | cons t grow ih =>
   intro Z L hs hf;obtain⟨L',kV,kK⟩:=grow_ok t.1 t.2 hs hf;exact ih _ L' kV kK
 obtain⟨L1,nj,lV⟩:=U kN Z L hs hf;exact O grow _ L1 nj lV
theorem bh (H:jm) {L:jr}:∀ (k:Nat) {ys:jh} {vs:List i8},Av w I lp L ys vs->Av w I lp L ((ys.zipIdx k).map fun (v,i)=>if H.contains i then .undef else v) vs:=by
 intro k ys;induction ys generalizing k with
 | nil=>intro vs h;cases h;exact .nil
 | cons y ys ih =>
  intro vs h;cases h with
  | cons _ v _ vs h hs =>
   rw[hO,dI];refine .cons _ _ _ _ ?_ (ih (k+1) hs);simp only
   split;{exact .undef v};{exact h}
theorem bi (H:jm) (hs:SR lp I L Z j4 jH w):SR lp I L (Lw H Z) j4 jH w:={hs with tm:=bh H 0 hs.tm}
theorem tp (H:jm) {L:jr}:∀ (k:Nat) {ys:jh} {vs:List i8},Av w I lp L ys vs->Av w I lp L ((ys.zipIdx k).map fun (v,i)=>if H.contains i then v else .undef) vs:=by
 intro k ys;induction ys generalizing k with
 | nil=>intro vs h;cases h;exact .nil
 | cons y ys ih =>
  intro vs h;cases h with
  | cons _ v _ vs h hs =>
   rw[hO,dI];refine .cons _ _ _ _ ?_ (ih (k+1) hs);simp only
   split;{exact h};{exact .undef v}
theorem aO (H:jm) (hs:SR lp I L Z j4 jH w):SR lp I L (Lu H Z) j4 jH w:={hs with tm:=tp H 0 hs.tm}
theorem QQ (BO:Option jm) (hs:SR lp I L Z j4 jH w) (hf:Fr cx w0 I0 F0 O0 Hd R e ds I F L w):∃ L',SR lp I L' (Il BO Z) j4 jH w/\Fr cx w0 I0 F0 O0 Hd R e ds I F L' w:=by unfold Il;split;{exact⟨L,hs,hf⟩};{exact OH _ (aO _ hs) hf}
theorem Zo (H:jm) (hs:SR lp I L Z j4 jH w) (hf:Fr cx w0 I0 F0 O0 Hd R e ds I F L w):∃ L',SR lp I L' (drop H Z) j4 jH w/\Fr cx w0 I0 F0 O0 Hd R e ds I F L' w:=by unfold drop;exact OH _ (bi H hs) hf
theorem Yy {R:jl} {d m:Nat} (h:(d,m)∈R):∀ {n},m < n->m < IQ R d n
 | n+1,hn=>by
  unfold IQ;split;{exact hn};{rename_i hc;have jW:m≠n:=fun e=>hc (by rw[<-e];exact fw.2 h);exact Yy h (by omega)}
theorem Um (hs:SR lp I L Z j4 jH w) (hf:Fr cx w0 I0 F0 O0 Hd R e ds I F L w):∃ L',SR lp I L' (trim Z) j4 jH w/\Fr cx w0 I0 F0 O0 Hd R e ds I F L' w:=by
 obtain⟨zze,zzb,K⟩:=Z;unfold trim;simp only
 generalize hR:(AU zze++AU K++zzb.flatMap fun l=>l.flatMap Ob.names)=Rn
 let D:Nm->Prop:=fun V=>(Al zzb V).isSome=true/\IQ Rn V.1 (zzb.getD V.1 []).length<=V.2
 have ny:∀ V∈Rn,¬ D V:=by
  rintro V hn ⟨U,O⟩
  have hl:V.2 < (zzb.getD V.1 []).length:=by
   unfold Al at U;cases hq:zzb[V.1]? with
   | none=>rw[hq] at U;cases U
   | some l =>
    rw[hq] at U;rw[dO,hq];obtain⟨x,A⟩:=fZ.1 U;exact (dU.1 A).1
  have:=Yy (R:=Rn) (d:=V.1) (m:=V.2) hn hl;omega
 have np:∀ H:jh,(∀ V∈AU H,V∈Rn)->Bf (fun m=>if D m then some none else none) H=H:=by intro H A;rw[Kc (g:=fun _=>none) H fun V hn=>iI (ny V (A V hn)),kT]
 have qp:∀ V ob,Al zzb V=some ob->ob.sub (fun m=>if D m then some none else none)=ob:=by
  intro V ob hl;cases ob with
  | cells ty cs =>
   show Ob.cells ty _=_;rw[np cs fun m hm=>?_];rw[<-hR];refine eh _ (fH.2 ?_);unfold Al at hl;cases hq:zzb[V.1]? with
   | none=>rw[hq] at hl;cases hl
   | some l =>
    rw[hq] at hl;exact⟨l,d9 hq,fH.2 ⟨_,d9 hl,hm⟩⟩
  | arr k kt H=>rfl
  | map es=>rfl
  | jT s pos=>rfl
 have hl:=hs.qQ (D:=D) (oI:=zzb.zipIdx.map fun x=>x.1.take (IQ Rn x.2 x.1.length)) (by
  intro V
  have hrhs:(Al zzb V).map (Ob.sub fun m=>if D m then some none else none)=Al zzb V:=by
   cases hq:Al zzb V with
   | none=>rfl
   | some ob=>simp only[ed];rw[qp V ob hq]
  simp only
  rw[hrhs];by_cases hd:D V
  ·rw[iJ hd];obtain⟨U,O⟩:=hd;unfold Al;rw[dT,fG];cases hq:zzb[V.1]? with
   | none=>rfl
   | some l =>
    rw[dO,hq] at O;simp only[ed,eu,eN] at O |-;exact ew (by rw[eV];omega)
  ·rw[iI hd];unfold Al;rw[dT,fG];cases hq:zzb[V.1]? with
   | none=>rfl
   | some l =>
    simp only[ed,eu];rw[List.getElem?_take];split;·rfl
    ·rename_i hc;cases A:l[V.2]? with
     | none=>rfl
     | some x =>
      exfalso;refine hd ⟨?_,?_⟩;·unfold Al;rw[hq];simp[A]
      ·rw[dO,hq];simp only[eN];omega)
 rw[np zze fun V hn=>by rw[<-hR];simp[hn],np K fun V hn=>by rw[<-hR];simp[hn]] at hl;refine⟨_,hl,hf.qQ fun V p hn=>?_⟩;split at hn;·cases hn
 {exact hn}
theorem OR (kN:jm) (grow:List (Nat×Nat)) (hs:SR lp I L Z j4 jH w) (hf:Fr cx w0 I0 F0 O0 Hd R e ds I F L w):∃ L',SR lp I L' (norm kN grow Z) j4 jH w/\Fr cx w0 I0 F0 O0 Hd R e ds I F L' w:=by obtain⟨L1,nj,lV⟩:=xz kN grow hs hf;exact Zo _ nj lV
end
end Go.Ab


namespace Go.Ab
variable{l:Nat} {ps:Array Nat} {rb:BJ} {rc:Loop} {st':St} {v:i8}
def Eg:Ex->Exit
 | .normal=>.normal
 | .exit id=>if id < Do then .exit id else .goto (id - Do)
 | .ret=>.ret
def LQ:Ex->Option Code
 | .normal=>none
 | .exit id=>some (if id < Do then .exit id else .goto (id - Do))
 | .ret=>some .ret
def Fv (cx:Cx) (M:Bp) (fuel:Nat) (r:BJ) (c:Code):Prop :=
 ∀ (E:Type) (h:AA E) (dep:Nat) (R:Ch E) (lp:Nat->jj) (w0:i7) (I0 F0:Nat->Prop) (O0:Cw) (Hd:Nat->Option Obj) (jH:List i8) (ro:jj) (Z:St) (e:E) (x:Ex) (jU:St) (e2:E),
  AT M fuel r h dep Z e=some (x,jU,e2)->Ref cx lp R h dep w0 I0 F0->(∀ l0,ro=some l0->∃ r0,Hd l0=some (.loop r0)) ->
  ∀ (a:Act) (w:i7) (I F:Nat->Prop) (L:AK) (Q:Exit->Act->i7->Prop),SR lp I L Z a.tmps.toList jH w->Fr cx w0 I0 F0 O0 Hd R e a.defers I F L w ->
   (∀ a' w' I' F' L',SR lp I' L' jU a'.tmps.toList jH w'->Fr cx w0 I0 F0 O0 Hd R e2 a'.defers I' F' L' w'->Q (Eg x) a' w')->c.wpIn (EO ro) 0 cx.P Q a w
def KN (cx:Cx) (dd:E5) (M:Bp) (fuel:Nat) (c:Code):Prop :=
 ∀ (E:Type) (h:AA E) (dep:Nat) (R:Ch E) (lp:Nat->jj) (w0:i7) (I0 F0:Nat->Prop) (O0:Cw) (Hd:Nat->Option Obj) (jH:List i8) (ro:jj) (Z:St) (e:E) (x:Ex) (jU:St) (e2:E),
  AT M fuel (B6 cx.P cx.G dd c) h dep Z e=some (x,jU,e2)->Ref cx lp R h dep w0 I0 F0->(∀ l0,ro=some l0->∃ r0,Hd l0=some (.loop r0)) ->
  ∀ (a:Act) (w:i7) (I F:Nat->Prop) (L:AK) (Q:Exit->Act->i7->Prop),SR lp I L Z a.tmps.toList jH w->Fr cx w0 I0 F0 O0 Hd R e a.defers I F L w ->
   (∀ a' w' I' F' L',SR lp I' L' jU a'.tmps.toList jH w'->Fr cx w0 I0 F0 O0 Hd R e2 a'.defers I' F' L' w'->Q (Eg x) a' w')->c.wpIn (EO ro) 0 cx.P Q a w
section
variable {E:Type} {cx:Cx} {w0:i7} {I0 F0:Nat->Prop} {O0:Cw} {Hd:Nat->Option Obj} {R:Ch E} {e:E} {F:Nat->Prop} {lp:Nat->jj} {jH j4:List i8}
variable {I:Nat->Prop} {L:AK} {Z:St} {w:i7} {ds:List jf}
theorem cr (hs:SR lp I L Z j4 jH w) (hf:Fr cx w0 I0 F0 O0 Hd R e ds I F L w) {x y:W} (A:AC w I lp (some L) x v) (h:LE Z x=some (y,st')) :
  ∃ I' L',SR lp I' L' st' j4 jH w/\Fr cx w0 I0 F0 O0 Hd R e ds I' F L' w/\AC w I' lp none y v:=by
 unfold LE at h;split at h;{rename_i hn;cases h;exact⟨I,L,hs,hf,A.shut (eZ.1 hn)⟩};{obtain⟨hR,h⟩:=Bx h;cases h;exact⟨_,_,hs.freeze hR,hf.freeze _,bA hs hR A fun V hn=>FT _ _ V hn⟩}
def G0 (L:AK) (b:Nat):Prop:=∃ V C,L V=some (some (b,C))
def Co (rc:Loop) (p:Option Ex):Loop :=
 match p with
 | none=>{rc with state:=.ready,pending:=none}
 | some x=>{rc with state:=.done,pending:=LQ x}
def xA (w0:i7) (O0:Cw) (R:Ch E) (lp:Nat->jj) (l:Nat) (rc:Loop) (tm jH:List i8):Ch (Hs E) where
 rel:=fun r I F w=>∃ L Fo,SR lp I L r.1 tm jH w/\(∀ b,F b↔Fo b\/G0 L b\/b=l)/\(∀ b,G0 L b->¬ Fo b/\b≠l/\(w0.heap.size<=b\/O0 b))/\¬ Fo l /\
  (∀ V kR b C C',L V=some (some (b,C))->L kR=some (some (b,C'))->V=kR)/\w.heap[l]?=some (.loop (Co rc r.2.1))/\R.rel r.2.2 I Fo w
 mZ:=by
  rintro r I I' F w w' ⟨L,Fo,U,O,h3,h4,h5,h6,h7⟩ hI hk kS
  exact⟨L,Fo,U.keeps hI (fun b hb=>hk b (.inl hb)) (fun V b C hn=>hk b (.inr ((O b).2 (.inr (.inl ⟨V,C,hn⟩))))),O,h3,h4,h5,
   (hk l (.inr ((O l).2 (.inr (.inr rfl))))).trans h6,R.mZ r.2.2 I I' Fo w w' h7 hI (fun b hb=>hk b (hb.imp id fun hf=>(O b).2 (.inl hf))) kS⟩
theorem CI.less {I F I' F' F2:Nat->Prop} {w w':i7} (h:CI I F w I' F' w') (hF:∀ b,F2 b->F' b):CI I F w I' F2 w' :=
 ⟨h.os,h.tape,h.output,h.size,h.jG,h.nA,h.nh,fun b hb=>h.nB b (hF b hb)⟩
theorem Fr.pD (hf:Fr cx w0 I0 F0 O0 Hd R e ds I F L w) {ob nK:Obj} (hl:Hd l=some ob) (hF0:w0.heap.size<=l\/F0 l) (hds:∀ D,D∈ds.map (·.target)->D≠.collected l) :
  Fr cx w0 I0 F0 O0 (fun b=>if b=l then some nK else Hd b) R e ds I F L (w.putObj l nK):=by
 obtain⟨d1,d2,d3,d4,d5⟩:=hf.py l ob hl;have hk:∀ b,b≠l->(w.putObj l nK).heap[b]?=w.heap[b]?:=fun b hb=>World.putObj_heap_other hb;have kS:(w.putObj l nK).heap.size=w.heap.size:=World.putObj_size
 refine⟨⟨hf.ext.os,hf.ext.tape,hf.ext.output,by rw[kS];exact hf.ext.size,fun b hb hF=>?_,hf.ext.nA,hf.ext.nh,hf.ext.nB⟩,⟨fun b hb=>by rw[kS];exact hf.sep.iB b hb,fun b hb=>⟨by rw[kS];exact (hf.sep.fB b hb).1,(hf.sep.fB b hb).2⟩⟩,hf.oF,
  fun V b C hn=>⟨(hf.lB V b C hn).1,by rw[kS];exact (hf.lB V b C hn).2.1,(hf.lB V b C hn).2.2⟩,hf.inj,?_,?_,?_,?_⟩
 ·have jW:b≠l:=fun e=>by subst e;exact hF0.elim (fun h=>by omega) hF
  exact (hk b jW).trans (hf.ext.jG b hb hF)
 {exact cx.mZ I I w _ hf.wd (fun _ h=>h) (fun b hb=>hk b fun e=>d2 (e ▸ hb)) (by rw[kS];exact dH _)};{exact R.mZ e I I F w _ hf.re (fun _ h=>h) (fun b hb=>hk b fun e=>hb.elim (fun h=>d2 (e ▸ h)) fun h=>d3 (e ▸ h)) (by rw[kS];exact dH _)}
 ·have key:∀ ds rs,Ee w0.heap.size I F L w ds rs->(∀ D,D∈ds.map (·.target)->D≠.collected l)->Ee w0.heap.size I F L (w.putObj l nK) ds rs:=by
   intro ds rs h;induction h with
   | nil=>intro _;exact .nil
   | call d ds rs hd _ ih=>intro jW;exact .call d ds rs hd (ih fun D' nP=>jW D' (by simp at nP |-;exact .inr nP))
   | cons D ds rs U O h3 h4 h5 h6 h7 _ ih =>
    intro jW;have hD:D≠l:=fun e=>jW (.collected D) (by simp) (by rw[e]);exact .cons D ds rs U (by rw[kS];exact O) h3 h4 h5 ((hk D hD).trans h6) h7 (ih fun D' nP=>jW D' (by simp at nP |-;exact .inr nP))
  exact key ds _ hf.qi hds
 {intro b ob2 hb;by_cases oz:b=l;{subst oz;simp only[iH,dL] at hb;subst hb;exact⟨by rw[kS];exact d1,d2,d3,d4,World.putObj_heap_same d1⟩};{simp only[oz,iG] at hb;obtain⟨g1,g2,g3,g4,g5⟩:=hf.py b ob2 hb;exact⟨by rw[kS];exact g1,g2,g3,g4,(hk b oz).trans g5⟩}}
theorem SR.pD {I:Nat->Prop} (hs:SR lp I L Z j4 jH w) (nK:Obj) (hI:¬ I l) (hL:∀ V C,L V≠some (some (l,C))):SR lp I L Z j4 jH (w.putObj l nK) :=
 hs.keeps (fun _ h=>h) (fun b hb=>World.putObj_heap_other fun e=>hI (e ▸ hb)) fun V b C hn=>World.putObj_heap_other fun e=>hL V C (e ▸ hn)
theorem tq {w:i7} {I:Nat->Prop} {lp:Nat->jj} {L:jr}:∀ (ps:jm) (vs:jh) (us:List i8) (tm:jh) (tv:Array i8),Av w I lp L vs us->Av w I lp L tm tv.toList->vs.length=ps.length ->
  Av w I lp L (Ie ps vs tm) ((ps.zip us).foldl (fun (tmps:Array i8) (x:Nat×i8)=>tmps.setIfInBounds x.1 x.2) tv).toList:=by
 intro ps;induction ps with
 | nil=>intro vs us tm tv hv ht _;cases vs<;>exact ht
 | cons p ps ih =>
  intro vs us tm tv hv ht hl;cases hv with
  | nil=>simp at hl
  | cons v u vs us h hs =>
   simp only[Ie,List.zip_cons_cons,fT];refine ih vs us _ _ hs ?_ (by simpa using hl);rw[iE];exact ht.set p h
end
def UX (M:Bp) (fuel:Nat) {E:Type} (h:AA E) (dep:Nat) (ps:jm) (assign body:BJ):AA (Hs E):=fun l args r =>
 if l=dep then
  match r with
  |(s,none,e) =>
   if args.length=ps.length then
    match AT M fuel assign h (dep+1) {s with tmps:=Ie ps args s.tmps,jG:=s.tmps++s.jG} e with
    | some (.normal,s',e)=>match AT M fuel body h (dep+1) s' e with
     | some (x,s',e)=>some (x==.normal,({s' with tmps:=s'.jG.take s.tmps.length,jG:=s'.jG.drop s.tmps.length},(if x=.normal then none else some x),e))
     | none=>none
    | _=>none
   else none
  | _=>none
 else
  match r with
  |(s,p,e)=>match h l args e with
   | some (b,e)=>some (b,(s,p,e))
   | none=>none
theorem aW (M:Bp) (fuel:Nat) (f:RX) (ps:jm) (assign body:BJ) {E:Type} (h:AA E) (dep:Nat) (Z:St) (e:E) :
  AT M fuel (.rangeFunc f ps assign body) h dep Z e=(match LE Z (f.ev Z.tmps) with
   | some (.fn g cap,Z)=>match M.call (Hs E) (UX M fuel h dep ps assign body) (dep+1) (Ba g) (BI g [.ke dep] cap) (Z,none,e) with
    | some (_,_,s,p,e)=>some (p.getD .normal,s,e)
    | none=>none
   | _=>none):=rfl
section round
variable {E:Type} {cx:Cx} {w0:i7} {I0 F0:Nat->Prop} {O0:Cw} {Hd:Nat->Option Obj} {R:Ch E} {lp:Nat->jj} {jH:List i8}
variable {w1:i7} {I1 F1:Nat->Prop} {dd:E5} {M:Bp} {fuel:Nat} {h:AA E} {dep:Nat}
theorem xB (jY:Ref cx lp R h dep w0 I0 F0) (oZ:CI I0 F0 w0 I1 F1 w1) {assign body:Code} (vW:rc.params=ps) (hra:rc.assign=assign) (hrb:rc.body=body)
  (pr:w0.heap.size<=l) (hca:KN cx dd M fuel assign) (hcb:Fv cx M fuel rb body) :
  Rw cx (fun d=>if d=dep then some l else lp d) (xA w0 O0 R lp l rc rc.tmps.toList jH) I1 F1 w1 (UX M fuel h dep ps.toList (B6 cx.P cx.G dd assign) rb):=by
 obtain⟨Ir,qE,wr,hand,hxr⟩:=jY.hand;rintro d args ⟨s,p,e⟩ b r' l' hh r9 vs I F w jS A rO hwd ⟨L,Fo,g1,g2,g3,g4,g5,g6,g7⟩;simp only at g1 g6 g7;have hFl:F l:=(g2 l).2 (.inr (.inr rfl));have hlw:=(rO.fB l hFl).1;have hIl:=(rO.fB l hFl).2;have hLl:∀ V C,L V≠some (some (l,C)):=fun V C hn=>(g3 l ⟨V,C,hn⟩).2.1 rfl;have hxo:CI Ir qE wr I Fo w:=(hxr.trans (oZ.trans A)).less fun b hb=>(g2 b).2 (.inl hb);have xC:IF I Fo w:=⟨rO.iB,fun b hb=>rO.fB b ((g2 b).2 (.inl hb))⟩;have tr:∀ V b C,L V=some (some (b,C))->b < w.heap.size/\¬ I b/\¬ Fo b/\b≠l:=fun V b C hn=>by have hb:G0 L b:=⟨V,C,hn⟩;have hF:=rO.fB b ((g2 b).2 (.inr (.inl hb)));exact⟨hF.1,hF.2,(g3 b hb).1,(g3 b hb).2.1⟩
 unfold UX at hh;by_cases hd:d=dep
 ·subst hd;simp only[iH,dL] at r9 hh;subst r9;cases p with
  | some x=>simp at hh
  | none =>
   simp only at hh;split at hh
   case isFalse=>cases hh
   rename_i hlen;split at hh
   case h_2=>cases hh
   rename_i s1 e1 hev1;split at hh
   case h_2=>cases hh
   rename_i x s2 e2 hev2;cases hh;have kX:vs.toArray.size=rc.params.size:=by have:=jS.length;rw[vW];simp only[gH];have O:ps.toList.length=ps.size:=fL;omega
   have hrec:w.heap[l]?=some (.loop (Co rc none)):=g6;refine⟨_,_,_,_,run_yield hrec (by simpa[Co] using kX),?_⟩;refine roundIn_of_wpIn trivial ?_
   have qS:SR lp I L {s with tmps:=Ie ps.toList args s.tmps,jG:=s.tmps++s.jG}
     ((((Co rc none).params.zip vs.toArray).foldl (fun tmps (x:Nat×i8)=>tmps.setIfInBounds x.1 x.2) (Co rc none).tmps)).toList (rc.tmps.toList++jH) w:=by
    refine⟨?_,g1.tm.append g1.kp,g1.ob,g1.mf⟩;have:=tq ps.toList args vs s.tmps rc.tmps (Av.mono (fun _ h=>h) (fun _ _=>rfl) (fun d l h=>by cases h) (jS.lift (some L))) g1.tm (by simpa using hlen);have hfold:(((Co rc none).params.zip vs.toArray).foldl (fun tmps (x:Nat×i8)=>tmps.setIfInBounds x.1 x.2) (Co rc none).tmps)=(ps.toList.zip vs).foldl (fun (tmps:Array i8) (x:Nat×i8)=>tmps.setIfInBounds x.1 x.2) rc.tmps:=by simp only[Co,vW];rw[<-Array.foldl_toList,Array.toList_zip]
    rw[hfold];exact this
   have tt:Fr cx w I F ⟨G0 L,[]⟩ (fun b=>if b=l then some (.loop (Co rc none)) else none) R e [] I Fo L w:=by
    refine⟨⟨rfl,rfl,rfl,dH _,fun _ _ _=>rfl,fun _ h=>h,fun _ h=>.inl h,fun b hb=>.inl ((g2 b).2 (.inl hb))⟩,xC,fun b hb=>(g2 b).2 (.inr (.inl hb)),fun V b C hn=>?_,g5,hwd,g7,.nil,fun b ob hb=>?_⟩;{obtain⟨q1,q2,q3,q4⟩:=tr V b C hn;exact⟨.inr ⟨V,C,hn⟩,q1,q2,q3⟩}
    ·by_cases oz:b=l
     {subst oz;simp only[iH,dL] at hb;subst hb;exact⟨hlw,hIl,g4,hLl,hrec⟩};{simp[oz] at hb}
   have href':Ref cx lp R h (d+1) w I F:=⟨⟨Ir,qE,wr,hand,hxr.trans (oZ.trans A)⟩,fun d' l' oU=>Nat.lt_succ_of_lt (jY.dep d' l' oU)⟩;have hca':=hca E h (d+1) R lp w I F ⟨G0 L,[]⟩ (fun b=>if b=l then some (.loop (Co rc none)) else none) (rc.tmps.toList++jH) (some l) _ e .normal s1 e1 hev1 href' (fun l0 he=>by cases he;exact⟨Co rc none,by simp⟩);have hasn:(Co rc none).assign=assign:=hra;have hbdy:(Co rc none).body=body:=hrb;rw[hasn,hbdy];refine hca' {tmps:=_,defers:=[]} w I Fo L _ qS tt ?_;rintro a1 w2 I2 F2 L2 na nQ;have hheld:=nQ.py l (.loop (Co rc none)) (by simp);obtain⟨k1,k2,k3,k4,k5⟩:=hheld
   have oS:∀ {I F:Nat->Prop} {L:AK} {w':i7} {ds rs:List jf},Ee w.heap.size I F L w' ds rs->∀ D,D∈ds.map (·.target)->D≠.collected l:=by
    intro I F L w' ds rs hm;induction hm with
    | nil=>intro D hD;simp at hD
    | call d' ds rs hd _ ih =>
     intro D' nP;simp only[dI,dM] at nP;rcases nP with rfl | nP;{exact hd l};{exact ih D' nP}
    | cons D ds rs U _ _ _ _ _ _ _ ih =>
     intro D' nP;simp only[dI,dM] at nP;rcases nP with rfl | nP;{intro he;cases he;omega};{exact ih D' nP}
   refine⟨_,run_beginRound k5 rfl,?_⟩;have hf2':=nQ.pD (nK:=.loop {Co rc none with state:=.busy}) (l:=l) (ob:=.loop (Co rc none)) (by simp) (.inr hFl) (oS nQ.qi);have hs2':=na.pD (.loop {Co rc none with state:=.busy}) k2 k4;refine hcb E h (d+1) R lp w I F ⟨G0 L,[]⟩ (fun b=>if b=l then some (.loop {Co rc none with state:=.busy}) else if b=l then some (.loop (Co rc none)) else none) (rc.tmps.toList++jH) (some l) _ e1 x s2 e2 hev2 href' (fun l0 he=>by cases he;exact⟨{Co rc none with state:=.busy},by simp⟩) a1 _ I2 F2 L2 _ hs2' hf2' ?_;rintro a2 w3 I3 F3 L3 hs3 hf3;have hheld3:=hf3.py l (.loop {Co rc none with state:=.busy}) (by simp);obtain⟨m1,m2,m3,m4,m5⟩:=hheld3;have oh:=run_endRound (P:=cx.P) (LQ x) m5;have hrc:({({Co rc none with state:=.busy}:Loop) with state:=if (LQ x).isNone then .ready else .done,pending:=LQ x}:Loop)=Co rc (if x=.normal then none else some x):=by cases x<;>rfl
   rw[hrc] at oh;have pt:=hf3.pD (nK:=.loop (Co rc (if x=.normal then none else some x))) (l:=l) (ob:=.loop {Co rc none with state:=.busy}) (by simp) (.inr hFl) (oS hf3.qi);have hs4:=hs3.pD (.loop (Co rc (if x=.normal then none else some x))) m2 m4;generalize hw4:w3.putObj l (.loop (Co rc (if x=.normal then none else some x)))=w4 at *;have hl4:=pt.py l (.loop (Co rc (if x=.normal then none else some x))) (by simp);obtain⟨n1,n2,n3,n4,n5⟩:=hl4
   have sq:(.bool (LQ x).isNone:i8)=.bool (x==.normal)/\∃ I' F',CI I F w I' F' w4/\IF I' F' w4/\cx.Wd I' w4 /\
     (xA w0 O0 R lp l rc rc.tmps.toList jH).rel ({s2 with tmps:=s2.jG.take s.tmps.length,jG:=s2.jG.drop s.tmps.length},(if x=.normal then none else some x),e2) I' F' w4:=by
    refine⟨by cases x<;>rfl,I3,(fun b=>F3 b\/G0 L3 b\/b=l),⟨pt.ext.os,pt.ext.tape,pt.ext.output,pt.ext.size,pt.ext.jG,pt.ext.nA,pt.ext.nh,fun b hb=>?_⟩,⟨pt.sep.iB,fun b hb=>?_⟩,pt.wd,L3,F3,⟨?_,?_,hs4.ob,hs4.mf⟩,fun b=>Iff.rfl,fun b hb=>?_,n3,pt.inj,n5,pt.re⟩;{rcases hb with hb | ⟨V,C,hb⟩ | rfl;{exact pt.ext.nB b hb};{exact (pt.lB V b C hb).1.elim .inr fun ho=>.inl (pt.oF b ho)};{exact .inl hFl}};{rcases hb with hb | ⟨V,C,hb⟩ | rfl;{exact pt.sep.fB b hb};{exact⟨(pt.lB V b C hb).2.1,(pt.lB V b C hb).2.2.1⟩};{exact⟨n1,n2⟩}}
    ·have:=hs4.kp.take s.tmps.length
     rwa [List.take_left' g1.tm.length.symm] at this
    ·have:=hs4.kp.drop s.tmps.length
     rwa [List.drop_left' g1.tm.length.symm] at this
    {obtain⟨V,C,hb⟩:=hb;refine⟨(pt.lB V b C hb).2.2.2,fun e=>n4 V C (e ▸ hb),?_⟩;have kS:=oZ.size;have hsz2:=A.size;rcases (pt.lB V b C hb).1 with U | U;{exact .inl (by omega)};{exact (g3 b U).2.2}}
   obtain⟨p1,p2⟩:=sq;cases x with
   | normal=>exact⟨_,_,oh,p1,p2⟩
   | exit id =>
    simp only[Eg];simp only[LQ] at oh p1;by_cases hid:id < Do;{simp only[hid,iH] at oh p1 |-;exact⟨_,_,oh,p1,p2⟩};{simp only[hid,iG] at oh p1 |-;exact⟨_,_,oh,p1,p2⟩}
   | ret=>exact⟨_,_,oh,p1,p2⟩
 ·simp only[hd,iG] at r9 hh;split at hh
  case h_2=>cases hh
  rename_i b1 e1 hhe;cases hh;obtain⟨fn,tmps,as,bd,q1,q2⟩:=hand d args e b e1 l' hhe r9 vs I Fo w jS hxo xC hwd g7;refine⟨fn,tmps,as,bd,q1,RoundIn.mono q2 fun en w' hq=>?_⟩;cases en with
  | panicked chain=>exact hq.elim
  | outgrown=>exact hq.elim
  | returned v =>
   obtain⟨rfl,I',Fo',r1,r2,r3,r4⟩:=hq
   have nC:∀ b,b < w.heap.size->¬ I b->¬ Fo b->¬ I' b/\¬ Fo' b/\w'.heap[b]?=w.heap[b]?:=fun b U O h3 =>
    ⟨fun h=>by rcases r1.nh b h with h | h | h<;>first | exact O h | exact h3 h | omega,fun h=>by rcases r1.nB b h with h | h<;>first | exact h3 h | omega,r1.jG b U h3⟩
   have kS:=r1.size
   refine⟨rfl,I',(fun b=>Fo' b\/G0 L b\/b=l),⟨r1.os,r1.tape,r1.output,r1.size,fun b hb hF=>r1.jG b hb fun h=>hF ((g2 b).2 (.inl h)),r1.nA,fun b hb=>?_,fun b hb=>?_⟩,⟨r2.iB,fun b hb=>?_⟩,r3,L,Fo',
    g1.keeps r1.nA (fun b hb=>r1.qG xC b hb) (fun V b C hn=>(nC b (tr V b C hn).1 (tr V b C hn).2.1 (tr V b C hn).2.2.1).2.2),fun b=>Iff.rfl,fun b hb=>?_,(nC l hlw hIl g4).2.1,g5,(nC l hlw hIl g4).2.2.trans g6,r4⟩
   {rcases r1.nh b hb with h | h | h;{exact .inl h};{exact .inr (.inl ((g2 b).2 (.inl h)))};{exact .inr (.inr h)}};{rcases hb with hb | hb | rfl;{exact (r1.nB b hb).imp (fun h=>(g2 b).2 (.inl h)) id};{exact .inl ((g2 b).2 (.inr (.inl hb)))};{exact .inl hFl}}
   ·rcases hb with hb | ⟨V,C,hb⟩ | rfl;{exact r2.fB b hb}
    {obtain⟨u1,u2,u3,_⟩:=tr V b C hb;exact⟨by omega,(nC b u1 u2 u3).1⟩};{exact⟨by omega,(nC b hlw hIl g4).1⟩}
   {obtain⟨V,C,hn⟩:=hb;obtain⟨u1,u2,u3,u4⟩:=tr V b C hn;exact⟨(nC b u1 u2 u3).2.1,u4,(g3 b ⟨V,C,hn⟩).2.2⟩}
end round
end Go.Ab


namespace Go.Ab
variable{Hd':Nat->Option Obj} {Q:Exit->Act->i7->Prop} {ds:List jf} {f:jb} {ps:Array Nat} {rb:BJ} {rf:RX} {ro:jj} {x:Ex}
section
variable {E:Type} {cx:Cx} {w0:i7} {I0 F0:Nat->Prop} {O0:Cw} {Hd:Nat->Option Obj} {R:Ch E} {e e2:E} {F:Nat->Prop} {lp:Nat->jj} {jH:List i8}
variable {I:Nat->Prop} {L:AK} {Z jU:St} {a:Act} {w:i7} {dd:E5} {M:Bp} {fuel:Nat} {h:AA E} {dep:Nat}
theorem Fr.hold (hf:Fr cx w0 I0 F0 O0 Hd' R e ds I F L w) (hh:∀ b ob,Hd b=some ob->Hd' b=some ob):Fr cx w0 I0 F0 O0 Hd R e ds I F L w :=
 {hf with py:=fun b ob hb=>hf.py b ob (hh b ob hb)}
theorem xD (ml:∀ l0,ro=some l0->∃ r0,Hd l0=some (.loop r0)) (hf:Fr cx w0 I0 F0 O0 Hd R e ds I F L w) (fn:ja) (tmps:Array i8) (ps:Array Tmp) (assign body:Code) :
  ∃ (l:Nat) (mark:List jf) (w1:i7) (rc:Loop),(Instr.enterLoop fn tmps ps assign body ro).run cx.P w=.ok (l,mark) w1/\rc.params=ps/\rc.assign=assign/\rc.body=body/\rc.tmps=tmps /\
   w1.heap[l]?=some (.loop (Co rc none))/\w.heap.size<=l/\l < w1.heap.size/\w1.os=w.os/\w1.tape=w.tape/\w1.output=w.output/\w.heap.size<=w1.heap.size/\(∀ b,b < w.heap.size->w1.heap[b]?=w.heap[b]?) /\
   (mark=[]\/(mark=[{target:=.collected w.heap.size,args:=#[]}]/\w1.heap[w.heap.size]?=some (.deferred (some []))/\w.heap.size < l)):=by
 cases ro with
 | none =>
  refine⟨_,_,_,{state:=.ready,pending:=none,fn,tmps,params:=ps,assign,body,defers:=w.heap.size},run_enterLoop_outer fn tmps ps assign body,rfl,rfl,rfl,rfl,?_,by omega,by simp,rfl,rfl,rfl,by simp;omega,fun b hb=>?_,.inr ⟨rfl,?_,by omega⟩⟩;{have:=World.alloc_heap_new (w.alloc (.deferred (some []))) (.loop {state:=.ready,pending:=none,fn,tmps,params:=ps,assign,body,defers:=w.heap.size});simpa[Co] using this};{rw[Fq _ _ (by simp;omega),Fq _ _ hb]};{rw[Fq _ _ (by simp)];exact World.alloc_heap_new _ _}
 | some l0 =>
  obtain⟨r0,oK⟩:=ml l0 rfl;obtain⟨_,_,_,_,hh⟩:=hf.py l0 _ oK;refine⟨_,_,_,{state:=.ready,pending:=none,fn,tmps,params:=ps,assign,body,defers:=r0.defers},run_enterLoop_inner hh fn tmps ps assign body,rfl,rfl,rfl,rfl,?_,dH _,by simp,rfl,rfl,rfl,by simp,fun b hb=>Fq _ _ hb,.inl rfl⟩;have:=World.alloc_heap_new w (.loop {state:=.ready,pending:=none,fn,tmps,params:=ps,assign,body,defers:=r0.defers});simpa[Co] using this
theorem XV (hM:Fy cx M.call) (jY:Ref cx lp R h dep w0 I0 F0) (ml:∀ l0,ro=some l0->∃ r0,Hd l0=some (.loop r0)) {assign body:Code} (hca:KN cx dd M fuel assign) (hcb:Fv cx M fuel rb body)
  (hrx:rx cx.G f=some rf) (jL:AT M fuel (.rangeFunc rf ps.toList (B6 cx.P cx.G dd assign) rb) h dep Z e=some (x,jU,e2))
  (hs:SR lp I L Z a.tmps.toList jH w) (hf:Fr cx w0 I0 F0 O0 Hd R e a.defers I F L w) 
  (hQ:∀ a' w' I' F' L',SR lp I' L' jU a'.tmps.toList jH w'->Fr cx w0 I0 F0 O0 Hd R e2 a'.defers I' F' L' w'->Q (Eg x) a' w'):(Code.rangeFunc f ps assign body).wpIn (EO ro) 0 cx.P Q a w:=by
 rw[aW] at jL;split at jL
 case h_2=>cases jL
 rename_i g cap xn vU;split at jL
 case h_2=>cases jL
 rename_i r obs s p e3 nM;cases jL;obtain⟨I1,L1,nj,lV,jS⟩:=cr hs hf (BM hs hf.wd hrx) vU;obtain⟨fst,jX,rM,hfk,qT⟩:=LT jS;refine wpIn_rangeFunc fun fn _=>?_;obtain⟨l,mark,w1,rc,hent,c1,c2,c3,c4,c5,c6,c7,c8,c9,c10,c11,c12,c13⟩:=xD (ro:=ro) ml lV fn a.tmps ps assign body;have pg:∀ b,I1 b\/F b\/G0 L1 b->b < w.heap.size:=fun b hb=>by rcases hb with hb | hb | ⟨V,C,hb⟩;{exact lV.sep.iB b hb};{exact (lV.sep.fB b hb).1};{exact (lV.lB V b C hb).2.1}
 have hs1':SR lp I1 L1 xn a.tmps.toList jH w1:=nj.keeps (fun _ h=>h) (fun b hb=>c12 b (pg b (.inl hb))) fun V b C hn=>c12 b (pg b (.inr (.inr ⟨V,C,hn⟩)))
 have mN:Fr cx w0 I0 F0 O0 Hd R e a.defers I1 F L1 w1:=lV.own c8 c9 c10 c11 (fun b hb _=>c12 b hb) (fun _ h=>h) (fun _ h=>.inl h)
  (fun V b C hn=>⟨by have:=(lV.lB V b C hn).2.1;omega,(lV.lB V b C hn).2.2.1,.inr ⟨V,C,hn⟩⟩) lV.inj
 have pr:w0.heap.size<=l:=by have:=lV.ext.size;omega
 have oZ:CI I0 F0 w0 I1 (fun b=>F b\/G0 L1 b\/b=l) w1:=⟨mN.ext.os,mN.ext.tape,mN.ext.output,mN.ext.size,mN.ext.jG,mN.ext.nA,mN.ext.nh,fun b hb=>by
  rcases hb with hb | ⟨V,C,hb⟩ | rfl;·exact mN.ext.nB b hb
  ·exact (mN.lB V b C hb).1.elim .inr fun ho=>.inl (mN.oF b ho)
  ·exact .inr pr⟩
 have hhand:=xB (O0:=O0) (M:=M) (fuel:=fuel) (jH:=jH) jY oZ (l:=l) (rc:=rc) c1 c2 c3 pr hca hcb
 obtain⟨hen,hcon⟩:=hM (Hs E) _ _ (dep+1) (fun d=>if d=dep then some l else lp d) _ _ w1 (Ba g) (BI g [.ke dep] cap) (xn,none,e) r obs (jU,p,e2) nM hhand (fun d l' hd=>by
  by_cases hdd:d=dep
  ·omega
  ·simp only[hdd,iG] at hd;have:=jY.dep d l' hd;omega)
 have hll:sJ lp (fun d=>if d=dep then some l else lp d):=fun d l' hd=>by
  have:=jY.dep d l' hd;have jW:d≠dep:=by omega
  simp[jW,hd]
 have hIl:¬ I1 l:=fun hb=>by have:=lV.sep.iB l hb;omega
 have hFl:¬ F l:=fun hb=>by have:=(lV.sep.fB l hb).1;omega
 have hLl:¬ G0 L1 l:=fun hb=>by have:=pg l (.inr (.inr hb));omega
 have xE:=hcon I1 (fun b=>F b\/G0 L1 b\/b=l) w1 (fst.toList++([.func (.yield l) #[] #[]]++jX.toList)) (CI.refl _ _ _) ⟨mN.sep.iB,fun b hb=>by
   rcases hb with hb | ⟨V,C,hb⟩ | rfl;·exact mN.sep.fB b hb
   ·exact⟨(mN.lB V b C hb).2.1,(mN.lB V b C hb).2.2.1⟩
   ·exact⟨c7,hIl⟩⟩ mN.wd ⟨L1,F,by rw[c4];exact hs1',fun b=>Iff.rfl,fun b hb=>by
   obtain⟨V,C,hn⟩:=hb;exact⟨(mN.lB V b C hn).2.2.2,fun e=>hLl ⟨V,C,e ▸ hn⟩,(mN.lB V b C hn).1⟩,hFl,mN.inj,c5,mN.re⟩
  (Tc hfk (Av.mono (fun _ h=>h) (fun b hb=>c12 b (pg b (.inl hb))) hll qT) (.cons _ _ _ _ (.ke dep l (by simp)) .nil))
 refine⟨l,mark,w1,{target:=.fn (.func (Ba g)) jX,args:=fst++#[.func (.yield l) #[] #[]]},w1,Ba g,fst++#[.func (.yield l) #[] #[]]++jX,w1,hent,?_,fun _ _=>trivial,?_,fun h=>by simp[EO] at h,?_⟩;{have hfv':a.eval f=.func (.func (Ba g)) fst jX:=rM;have hcv:a.eval (.const (.func (.yield l) #[] #[]))=.func (.yield l) #[] #[]:=rfl;simp only[resolve,rangeCall,hfv',Deferred.ofValue];simp[hcv]}
 ·obtain⟨fn',oT,lQ,mj⟩:=hen;have hb:¬ fn'.body=none:=by intro h;rw[h] at mj;cases mj
  have lQ:¬ fn'.name = "runtime.NumGoroutine":=by intro h;rw[h] at lQ;simp at lQ
  simp[invoke,callFunc,oT,lQ,hb]
 ·have lj:(fst.toList++([Value.func (.yield l) #[] #[]]++jX.toList)).toArray=fst++#[.func (.yield l) #[] #[]]++jX:=by apply Array.ext';simp
  rw[lj] at xE;refine V0 (CallsIn.og xE fun en w3 T=>?_);cases en with
  | panicked chain=>exact T.elim
  | outgrown=>exact T.elim
  | returned v =>
   obtain⟨I',F',ps',lu⟩:=T;obtain⟨L',Fo,g1,g2,g3,g4,g5,g6,g7⟩:=lu.re;simp only at g1 g6 g7
   have nC:∀ b,b < w1.heap.size->¬ I1 b->¬ F b->¬ G0 L1 b->b≠l->¬ I' b/\¬ F' b/\w3.heap[b]?=w1.heap[b]?:=fun b U O h3 h4 h5=>by
    have hF:¬ (F b\/G0 L1 b\/b=l):=fun h=>by rcases h with h | h | h<;>first | exact h3 h | exact h4 h | exact h5 h
    exact⟨fun h=>by rcases lu.ext.nh b h with h | h | h<;>first | exact O h | exact hF h | omega,fun h=>by rcases lu.ext.nB b h with h | h<;>first | exact hF h | omega,lu.ext.jG b U hF⟩
   have hF'l:F' l:=(g2 l).2 (.inr (.inr rfl));have hLl':∀ V C,L' V≠some (some (l,C)):=fun V C hn=>(g3 l ⟨V,C,hn⟩).2.1 rfl;have qc:∀ b,¬ F' b->¬ Fo b/\∀ V C,L' V≠some (some (b,C)):=fun b hb=>⟨fun h=>hb ((g2 b).2 (.inl h)),fun V C hn=>hb ((g2 b).2 (.inr (.inl ⟨V,C,hn⟩)))⟩;have kS:=lu.ext.size
   have hmk:Ee w0.heap.size I' Fo L' w3 (mark++a.defers) O0.dfs:=by
    have hm0:Ee w0.heap.size I' Fo L' w3 a.defers O0.dfs:=lV.qi.move (by omega) fun D d1 d2 d3 d4 d5=>by obtain⟨q1,q2,q3⟩:=nC D (by omega) d3 d4 (fun ⟨V,C,hn⟩=>d5 V C hn) (by omega);exact⟨q3.trans (c12 D d1),q1,(qc D q2).1,(qc D q2).2⟩
    rcases c13 with rfl | ⟨rfl,k1,k2⟩;{exact hm0}
    {obtain⟨q1,q2,q3⟩:=nC w.heap.size (by omega) (fun h=>by have:=pg _ (.inl h);omega) (fun h=>by have:=pg _ (.inr (.inl h));omega) (fun h=>by have:=pg _ (.inr (.inr h));omega) (by omega);refine .cons w.heap.size _ _ lV.ext.size (by omega) q1 (qc _ q2).1 (qc _ q2).2 (q3.trans k1) (fun d hd he=>?_) hm0;have:=lV.qi.lt d.target (dJ.2 ⟨d,hd,rfl⟩) _ he;omega}
   have hmne:∀ D,D∈(mark++a.defers).map (·.target)->D≠.collected l:=by
    intro D hD he;rw[fk] at hD;rcases dX.1 hD with hD | hD
    ·rcases c13 with rfl | ⟨rfl,k1,k2⟩;{simp at hD}
     {simp only[dI,dW,ep] at hD;rw[hD] at he;cases he;omega}
    {have:=lV.qi.lt D hD l he;omega}
   have hf3:Fr cx w0 I0 F0 O0 (fun b=>if b=l then some (.loop (Co rc p)) else Hd b) R e2 (mark++a.defers) I' Fo L' w3:=by
    refine⟨(oZ.trans lu.ext).less fun b hb=>(g2 b).2 (.inl hb),⟨lu.sep.iB,fun b hb=>lu.sep.fB b ((g2 b).2 (.inl hb))⟩,lV.oF,fun V b C hn=>?_,g5,lu.wd,g7,hmk,fun b ob hb=>?_⟩;{have hb:G0 L' b:=⟨V,C,hn⟩;have hF:=lu.sep.fB b ((g2 b).2 (.inr (.inl hb)));exact⟨(g3 b hb).2.2,hF.1,hF.2,(g3 b hb).1⟩}
    ·by_cases oz:b=l
     {subst oz;simp only[iH,dL] at hb;subst hb;exact⟨(lu.sep.fB b hF'l).1,(lu.sep.fB b hF'l).2,g4,hLl',g6⟩};{simp only[oz,iG] at hb;obtain⟨d1,d2,d3,d4,d5⟩:=lV.py b ob hb;obtain⟨q1,q2,q3⟩:=nC b (by omega) d2 d3 (fun ⟨V,C,hn⟩=>d4 V C hn) oz;exact⟨by omega,q1,(qc b q2).1,(qc b q2).2,(q3.trans (c12 b d1)).trans d5⟩}
   have hbusy:(Co rc p).state≠.busy:=by cases p<;>simp[Co]
   have oh:=run_endLoop (P:=cx.P) g6 hbusy;have pt:=hf3.pD (nK:=.loop {Co rc p with state:=.exhausted}) (l:=l) (ob:=.loop (Co rc p)) (by simp) (.inl pr) hmne
   have hf5:Fr cx w0 I0 F0 O0 Hd R e2 (mark++a.defers) I' Fo L' (w3.putObj l (.loop {Co rc p with state:=.exhausted})):=pt.hold fun b ob hb=>by
    have jP:=(lV.py b ob hb).1;have oz:b≠l:=by omega
    simp[oz,hb]
   have hs5:SR lp I' L' jU a.tmps.toList jH (w3.putObj l (.loop {Co rc p with state:=.exhausted})):=by rw[c4] at g1;exact g1.pD _ (lu.sep.fB l hF'l).2 hLl'
   refine⟨(Co rc p).pending,_,oh,?_⟩;have hq:=hQ {a with defers:=mark++a.defers} _ I' Fo L' hs5 hf5;cases p with
   | none=>exact hq
   | some x =>
    cases x with
    | normal=>exact hq
    | exit id =>
     generalize w3.putObj l (.loop {Co rc (some (.exit id)) with state:=.exhausted})=wz at hq |-;simp only[eN,Eg] at hq;simp only[Co,LQ];by_cases hid:id < Do;{simp only[hid,iH] at hq |-;exact wpIn_exit hq};{simp only[hid,iG] at hq |-;exact wpIn_goto hq}
    | ret=>exact wpIn_ret hq
end
end Go.Ab


namespace Go.Ab
variable{E:Type} {F:Fence} {P:jd} {Q:Exit->Act->i7->Prop} {a:Act} {b:Frame} {c c1 c2:Code} {cs:List Frame} {dep l m n:Nat} {g:List (Nat×Nat)} {k:List Item} {r:BJ} {w:i7} {x:Ex} {e:E} {h:AA E}
theorem J7:step P (lone (b.atR a (.code (.scope c) :: k)) cs w)=.next (lone (b.atR a (.code c :: .inScope c :: k)) cs w) :=
 step_lone_go (by simp[Go.stepG,Go.stepG.exec,Frame.atR])
theorem Vn:step P (lone (b.atR a (.inScope c :: k)) cs w)=.next (lone (b.atR a k) cs w) :=
 step_lone_go (by simp[Go.stepG,Go.stepG.exec,Frame.atR])
def LL:Ex->Prop
 | .exit id=>id < Do
 | _=>True
theorem VF (A:LL x) (h:c.wpIn F n P (fun e a w=>e=Eg x/\Q e a w) a w):(Code.scope c).wpIn F n P Q a w:=by
 intro b k cs ml hb T;have h0:(lone (b.atR a (.code (.scope c) :: k)) cs w).fenced P F:=fenced_calm hb T rfl;obtain⟨e,a₁,w₁,⟨rfl,hq⟩,lj⟩:=h b (.inScope c :: k) cs ml hb T;cases x with
 | normal=>exact⟨.normal,a₁,w₁,hq,.head h0 J7 (StepsIn.trans lj (.one (fenced_calm hb T rfl) Vn))⟩
 | exit id =>
  simp only[LL] at A;simp only[Eg,A,iH] at hq lj;have A:exitTo id (.inScope c :: k)=exitTo id k:=by simp[exitTo]
  exact⟨.exit id,a₁,w₁,hq,fun k' hk=>.head h0 J7 (lj.1 k' (by rw[A];exact hk)),
   fun oV hk=>let ⟨k₁,U,O⟩:=lj.2 oV (by rw[A];exact hk);⟨k₁,U,.head h0 J7 O⟩⟩
 | ret=>exact⟨.ret,a₁,w₁,hq,.of_steps (.one h0 J7) lj⟩
theorem ZB {rest:Code} (hl:findLabel c l=some rest) (A:LL x)
  (h:c.wpIn F n P (fun e a w=>e=.goto l/\rest.wpIn F n P (fun e a w=>e=Eg x/\Q e a w) a w) a w):(Code.scope c).wpIn F n P Q a w:=by
 intro b k cs ml hb T;have h0:(lone (b.atR a (.code (.scope c) :: k)) cs w).fenced P F:=fenced_calm hb T rfl;have hg:gotoIn l (.inScope c :: k)=some (.code rest :: .inScope c :: k):=by simp[gotoIn,hl]
 obtain⟨e,a₁,w₁,⟨rfl,hq⟩,lj⟩:=h b (.inScope c :: k) cs ml hb T;have U:=lj.1 _ hg;obtain⟨e,a₂,w₂,⟨rfl,hq⟩,lj⟩:=hq b (.inScope c :: k) cs ml hb T;cases x with
 | normal=>exact⟨.normal,a₂,w₂,hq,.head h0 J7 (StepsIn.trans U (StepsIn.trans lj (.one (fenced_calm hb T rfl) Vn)))⟩
 | exit id =>
  simp only[LL] at A;simp only[Eg,A,iH] at hq lj;have A:exitTo id (.inScope c :: k)=exitTo id k:=by simp[exitTo]
  exact⟨.exit id,a₂,w₂,hq,fun k' hk=>.head h0 J7 (U.trans (lj.1 k' (by rw[A];exact hk))),
   fun oV hk=>let ⟨k₁,g1,g2⟩:=lj.2 oV (by rw[A];exact hk);⟨k₁,g1,.head h0 J7 (U.trans g2)⟩⟩
 | ret=>exact⟨.ret,a₂,w₂,hq,.of_steps (.head h0 J7 U) lj⟩
theorem VG (K:Nat->Act->i7->Prop) (round:∀ m a w,K m a w->∃ m',m=m'+1/\c.wpIn F n P (Exit.then (K m') Q) a w) (h:K m a w) :
  (Code.loop c).wpIn F n P Q a w:=by
 classical
 have least:∀ a w,(∃ m,K m a w)->∃ m,K m a w/\∀ j,K j a w->m<=j:=by
  intro a w ⟨m,hm⟩;induction m using Nat.strongRecOn with
  | _ m ih =>
   by_cases hj:∃ j,j < m/\K j a w;{obtain⟨j,hj1,hj2⟩:=hj;exact ih j hj1 hj2};{exact⟨m,hm,fun j hk=>Nat.le_of_not_lt fun jP=>hj ⟨j,jP,hk⟩⟩}
 refine wpIn_loop (fun a w=>∃ m,K m a w) (fun a w=>if h:∃ m,K m a w then Classical.choose (least a w h) else 0) ⟨m,h⟩ fun a w hk=>?_;obtain⟨q1,q2⟩:=Classical.choose_spec (least a w hk);obtain⟨m',oY,hwp⟩:=round _ a w q1;refine wpIn_mono hwp fun e a' w' hq=>?_;cases e<;>simp only[Exit.then] at hq |-<;>first | exact hq | skip
 refine⟨⟨m',hq⟩,?_⟩;have hex:∃ m,K m a' w':=⟨m',hq⟩;have hle:=(Classical.choose_spec (least a' w' hex)).2 m' hq;simp only[dif_pos hex,dif_pos hk];omega
section
variable {cx:Cx} {dd:E5} {M:Bp} {fuel:Nat}
def O6 (cx:Cx) (dd:E5) (M:Bp) (fuel:Nat) (c:Code):Prop :=
 ∀ (l:Nat) (y z:BJ),Fd l c (B6 cx.P cx.G dd c)=some (y,z)->Fv cx M fuel (.seq y z) c/\∃ rest,findLabel c l=some rest/\Fv cx M fuel z rest
theorem QU {r1 r2:BJ} (U:Fv cx M fuel r1 c1) (O:Fv cx M fuel r2 c2):Fv cx M fuel (.seq r1 r2) (.seq c1 c2):=by
 intro E h dep R lp w0 I0 F0 O0 Hd jH ro Z e x jU e2 jL jY ml a w I F L Q hs hf hQ;simp only[AT] at jL;refine wpIn_seq ?_;split at jL
 ·rename_i lR e3 g1
  exact U E h dep R lp w0 I0 F0 O0 Hd jH ro Z e .normal lR e3 g1 jY ml a w I F L _ hs hf fun a' w' I' F' L' kV kK =>
   O E h dep R lp w0 I0 F0 O0 Hd jH ro lR e3 x jU e2 jL jY ml a' w' I' F' L' Q kV kK hQ
 ·rename_i jW;refine U E h dep R lp w0 I0 F0 O0 Hd jH ro Z e x jU e2 jL jY ml a w I F L _ hs hf fun a' w' I' F' L' kV kK=>?_;have:=hQ a' w' I' F' L' kV kK;cases x with
  | normal=>exact (jW _ _ jL).elim
  | exit id =>
   simp only[Eg] at this |-;split<;>rename_i hid;{simp only[hid,iH] at this;exact this};{simp only[hid,iG] at this;exact this}
  | ret=>exact this
theorem bp (l:Nat):∀ c:Code,Fd l c (B6 cx.P cx.G dd c)=none->findLabel c l=none:=by
 intro c;induction c with
 | seq c1 c2 vX xF =>
  intro h;simp only[B6,Fd] at h;split at h;·cases h
  ·rename_i g1;split at h;·cases h
   {rename_i g2;simp[findLabel,vX g1,xF g2]}
 | label l' =>
  intro h;simp only[Fd] at h;split at h;·cases h
  {rename_i hl;simp[findLabel,hl]}
 | _=>intro _;simp[findLabel]
theorem VY {y z:BJ} {Z:St}:AT M fuel (.seq y (.seq z r)) h dep Z e=AT M fuel (.seq (.seq y z) r) h dep Z e:=by
 simp only[AT];cases AT M fuel y h dep Z e with
 | none=>rfl
 | some p =>
  obtain⟨x,s,e⟩:=p;cases x<;>rfl
theorem tu (U:KN cx dd M fuel c1) (s1:O6 cx dd M fuel c1) (O:KN cx dd M fuel c2) (s2:O6 cx dd M fuel c2):O6 cx dd M fuel (.seq c1 c2):=by
 intro l y z h;simp only[B6,Fd] at h;split at h;{rename_i x' y' g1;cases h;obtain⟨q1,rest,q2,q3⟩:=s1 l _ _ g1;refine⟨?_,.seq rest c2,by simp[findLabel,q2],QU q3 O⟩;have:=QU q1 O;intro E h dep R lp w0 I0 F0 O0 Hd jH ro Z e x jU e2 jL;rw[VY] at jL;exact this E h dep R lp w0 I0 F0 O0 Hd jH ro Z e x jU e2 jL}
 ·rename_i g1;split at h
  case h_2=>cases h
  rename_i x' y' g2;cases h;obtain⟨q1,rest,q2,q3⟩:=s2 l _ _ g2;refine⟨?_,rest,by simp[findLabel,bp l c1 g1,q2],q3⟩;have:=QU (cx:=cx) (M:=M) (fuel:=fuel) U q1;intro E h dep R lp w0 I0 F0 O0 Hd jH ro Z e x jU e2 jL;rw[<-VY] at jL;exact this E h dep R lp w0 I0 F0 O0 Hd jH ro Z e x jU e2 jL
theorem xG (h:KN cx dd M fuel c) (s:O6 cx dd M fuel c):KN cx dd M fuel (.scope c):=by
 have plain:∀ (r:BJ),Fv cx M fuel r c->Fv cx M fuel (.scope r) (.scope c):=by
  intro r h E hd dep R lp w0 I0 F0 O0 Hd jH ro Z e x jU e2 jL jY ml a w I F L Q hs hf hQ;simp only[AT] at jL
  have key:AT M fuel r hd dep Z e=some (x,jU,e2)/\LL x:=by
   split at jL;{rename_i id s3 e3 hq;split at jL;{rename_i hid;cases jL;exact⟨hq,hid⟩};·cases jL}
   ·rename_i jW;refine⟨jL,?_⟩;cases x with
    | exit id=>exact (jW _ _ _ jL).elim
    | _=>trivial
  exact VF key.2 (h E hd dep R lp w0 I0 F0 O0 Hd jH ro Z e x jU e2 key.1 jY ml a w I F L _ hs hf fun a' w' I' F' L' kV kK=>⟨rfl,hQ a' w' I' F' L' kV kK⟩)
 show Fv cx M fuel (Pd c (B6 cx.P cx.G dd c)) (.scope c);unfold Pd;split;{exact plain _ h};rename_i l hl;split
 case h_2=>exact plain _ h
 rename_i y z kG;obtain⟨q1,rest,q2,q3⟩:=s l y z kG;intro E hd dep R lp w0 I0 F0 O0 Hd jH ro Z e x jU e2 jL jY ml a w I F L Q hs hf hQ;cases hy:AT M fuel y hd dep Z e with
 | none=>simp[AT,hy] at jL
 | some p =>
  obtain⟨xy,sy,ey⟩:=p;by_cases hj:xy=.exit (Do+l)
  ·subst hj
   have hz:AT M fuel z hd dep sy ey=some (x,jU,e2)/\LL x:=by
    simp only[AT,hy,iH] at jL;split at jL;{rename_i id s3 e3 hq;split at jL;{rename_i hid;cases jL;exact⟨hq,hid⟩};·cases jL}
    ·rename_i jW;refine⟨jL,?_⟩;cases x with
     | exit id=>exact (jW _ _ _ jL).elim
     | _=>trivial
   have hyz:AT M fuel (.seq y z) hd dep Z e=some (.exit (Do+l),sy,ey):=by simp[AT,hy]
   refine ZB q2 hz.2 (q1 E hd dep R lp w0 I0 F0 O0 Hd jH ro Z e _ _ _ hyz jY ml a w I F L _ hs hf fun a' w' I' F' L' kV kK=>⟨?_,?_⟩)
   ·have:¬ Do+l < Do:=by omega
    simp[Eg,this]
   {exact q3 E hd dep R lp w0 I0 F0 O0 Hd jH ro sy ey x jU e2 hz.1 jY ml a' w' I' F' L' _ kV kK fun a2 w2 I2 F2 L2 na nQ=>⟨rfl,hQ a2 w2 I2 F2 L2 na nQ⟩}
  ·refine plain _ q1 E hd dep R lp w0 I0 F0 O0 Hd jH ro Z e x jU e2 ?_ jY ml a w I F L Q hs hf hQ;rw[<-jL];simp only[AT,hy];cases xy with
   | normal=>rfl
   | ret=>rfl
   | exit id =>
    have:id≠Do+l:=fun h=>hj (by rw[h]);simp[this]
theorem XR (h:Fv cx M fuel r c):Fv cx M fuel (.seq r (.norm g)) c:=by
 intro E hh dep R lp w0 I0 F0 O0 Hd jH ro Z e x jU e2 jL jY ml a w I F L Q hs hf hQ;simp only[AT] at jL;cases hq:AT M fuel r hh dep Z e with
 | none=>rw[hq] at jL;cases jL
 | some p =>
  obtain⟨y,s,e3⟩:=p;rw[hq] at jL;refine h E hh dep R lp w0 I0 F0 O0 Hd jH ro Z e y s e3 hq jY ml a w I F L Q hs hf fun a' w' I' F' L' kV kK=>?_;cases y with
  | normal =>
   cases jL;obtain⟨L1,nj,lV⟩:=Um kV kK;obtain⟨L2,na,nQ⟩:=OR [] g nj lV;exact hQ a' w' I' F' L2 na nQ
  | exit id=>cases jL;exact hQ a' w' I' F' L' kV kK
  | ret=>cases jL;exact hQ a' w' I' F' L' kV kK
theorem xH {l:Option jm} (h:Fv cx M fuel r c):Fv cx M fuel (.seq r (.region [] none l)) c:=by
 intro E hh dep R lp w0 I0 F0 O0 Hd jH ro Z e x jU e2 jL jY ml a w I F L Q hs hf hQ;simp only[AT] at jL;cases hq:AT M fuel r hh dep Z e with
 | none=>rw[hq] at jL;cases jL
 | some p =>
  obtain⟨y,s,e3⟩:=p;rw[hq] at jL;refine h E hh dep R lp w0 I0 F0 O0 Hd jH ro Z e y s e3 hq jY ml a w I F L Q hs hf fun a' w' I' F' L' kV kK=>?_;cases y with
  | normal =>
   cases jL;obtain⟨L1,nj,lV⟩:=QQ l kV kK;exact hQ a' w' I' F' L1 nj lV
  | exit id=>cases jL;exact hQ a' w' I' F' L' kV kK
  | ret=>cases jL;exact hQ a' w' I' F' L' kV kK
theorem xI {b:BJ} (p:Bool) (kN:jm) (grow:List (Nat×Nat)) (ih:Fv cx M fuel b c):Fv cx M fuel (RF p kN grow b) (.loop c):=by
 intro E h dep R lp w0 I0 F0 O0 Hd jH ro Z e x jU e2 jL jY ml a w I F L Q hs hf hQ
 let K (ds:jm) (m:Nat) (a:Act) (w:i7):Prop:=∃ Z e I F L,SR lp I L Z a.tmps.toList jH w/\Fr cx w0 I0 F0 O0 Hd R e a.defers I F L w/\Hb (fun (s:St×E)=>match AT M fuel b h dep s.1 s.2 with
  | some (.normal,Z,e)=>some (.inl (norm kN grow (drop ds Z),e))
  | some (x,Z,e)=>some (.inr (x,Z,e))
  | none=>none) m (Z,e)=some (x,jU,e2)
 have hzero:∀ ds a w,¬ K ds 0 a w:=by rintro ds a w ⟨Z,e,I,F,L,hs,hf,jS⟩;simp[Hb] at jS
 have ql:∀ ds m a w,K ds (m+1) a w->c.wpIn (EO ro) 0 cx.P (Exit.then (K ds m) Q) a w:=by
  rintro ds m a w ⟨Z,e,I,F,L,hs,hf,jS⟩;simp only[Hb] at jS;cases hb:AT M fuel b h dep Z e with
  | none=>rw[hb] at jS;simp at jS
  | some r =>
   obtain⟨xb,stb,eb⟩:=r;rw[hb] at jS;refine ih E h dep R lp w0 I0 F0 O0 Hd jH ro Z e xb stb eb hb jY ml a w I F L _ hs hf fun a' w' I' F' L' kV kK=>?_;cases xb with
   | normal =>
    simp only at jS;obtain⟨L2,na,nQ⟩:=Zo ds kV kK;obtain⟨L3,hs3,hf3⟩:=OR kN grow na nQ;exact⟨_,eb,I',F',L3,hs3,hf3,jS⟩
   | exit id =>
    simp only[dL,eC] at jS;obtain⟨rfl,rfl,rfl⟩:=jS;have:=hQ a' w' I' F' L' kV kK;simp only[Eg] at this |-;split<;>rename_i hid;{simp only[hid,iH] at this;exact this};{simp only[hid,iG] at this;exact this}
   | ret =>
    simp only[dL,eC] at jS;obtain⟨rfl,rfl,rfl⟩:=jS;exact hQ a' w' I' F' L' kV kK
 have hloop:∀ {Z:St} {e:E},AT M fuel (.loop kN grow b) h dep Z e=some (x,jU,e2)->∃ ds,∀ a w I F L,SR lp I L Z a.tmps.toList jH w->Fr cx w0 I0 F0 O0 Hd R e a.defers I F L w->K ds fuel a w:=by
  intro Z e jL;simp only[AT] at jL;split at jL
  case h_2=>cases jL
  rename_i x' lR e3 T;cases jL;refine⟨kC (norm kN grow Z),fun a w I F L hs hf=>?_⟩;obtain⟨L1,nj,lV⟩:=OR kN grow hs hf;exact⟨_,_,I,F,L1,nj,lV,T⟩
 cases p with
 | false =>
  obtain⟨ds,hk⟩:=hloop jL;refine VG (K ds) (fun m a w hm=>?_) (hk a w I F L hs hf);cases m with
  | zero=>exact (hzero ds a w hm).elim
  | succ m=>exact⟨m,rfl,ql ds m a w hm⟩
 | true =>
  simp only[RF,iH,AT] at jL;cases hb:AT M fuel b h dep Z e with
  | none=>rw[hb] at jL;cases jL
  | some r =>
   obtain⟨xb,stb,eb⟩:=r;rw[hb] at jL
   have key:∀ (ds:jm),(∀ a' w' I' F' L',SR lp I' L' stb a'.tmps.toList jH w'->Fr cx w0 I0 F0 O0 Hd R eb a'.defers I' F' L' w'->(Exit.then (K ds fuel) Q) (Eg xb) a' w')->(Code.loop c).wpIn (EO ro) 0 cx.P Q a w:=by
    intro ds hq;refine VG (fun m a' w'=>(m=fuel+1/\a'=a/\w'=w)\/(m<=fuel/\K ds m a' w')) (fun m a' w' hm=>?_) (.inl ⟨rfl,rfl,rfl⟩);rcases hm with ⟨rfl,rfl,rfl⟩ | ⟨hle,hm⟩
    {refine⟨fuel,rfl,ih E h dep R lp w0 I0 F0 O0 Hd jH ro Z e xb stb eb hb jY ml a' w' I F L _ hs hf fun a2 w2 I2 F2 L2 na nQ=>?_⟩;have:=hq a2 w2 I2 F2 L2 na nQ;revert this;cases Eg xb<;>intro this<;>first | exact this | exact .inr ⟨dH _,this⟩}
    ·cases m with
     | zero=>exact (hzero ds a' w' hm).elim
     | succ m =>
      refine⟨m,rfl,wpIn_mono (ql ds m a' w' hm) fun e2 a2 w2 O=>?_⟩;revert O;cases e2<;>intro O<;>first | exact O | exact .inr ⟨by omega,O⟩
   cases xb with
   | normal =>
    obtain⟨ds,hk⟩:=hloop jL;exact key ds hk
   | exit id =>
    cases jL;refine key [] fun a' w' I' F' L' kV kK=>?_;have:=hQ a' w' I' F' L' kV kK;simp only[Eg] at this |-;split<;>rename_i hid;{simp only[hid,iH] at this;exact this};{simp only[hid,iG] at this;exact this}
   | ret =>
    cases jL;exact key [] fun a' w' I' F' L' kV kK=>hQ a' w' I' F' L' kV kK
theorem xJ {g:Option (List (Nat×Nat))} (h:Fv cx M fuel r c):Fv cx M fuel (ND g r) c:=by
 cases g with
 | none=>exact h
 | some g=>exact XR h
theorem xK (hM:Fy cx M.call) (kG:vS cx M) (mg:Hq M):∀ c:Code,KN cx dd M fuel c/\O6 cx dd M fuel c:=by
 intro c;induction c with
 | skip =>
  refine⟨?_,fun l0 y z l8=>by simp[Fd] at l8⟩;intro E h dep R lp w0 I0 F0 O0 Hd jH ro Z e x jU e2 jL jY ml a w I F L Q hs hf hQ;simp only[B6,AT,dL,eC] at jL;obtain⟨rfl,rfl,rfl⟩:=jL;exact wpIn_skip (hQ a w I F L hs hf)
 | region id ops draw =>
  refine⟨?_,fun l0 y z l8=>by simp[Fd] at l8⟩;refine xJ (g:=(dd id).grow) ?_;intro E h dep R lp w0 I0 F0 O0 Hd jH ro Z e x jU e2 jL jY ml a w I F L Q hs hf hQ;cases draw with
  | false =>
   simp only[dE,iG,Rf] at jL;split at jL;{simp[AT] at jL};simp only[AT] at jL;split at jL;{rename_i lR e3 T;cases jL;exact ZV hM kG jY T hs hf fun a' w' I' F' L' kV kK=>let ⟨L2,U,O⟩:=QQ (dd id).lv kV kK;hQ a' w' I' F' L2 U O};{cases jL}
  | true =>
   simp only[iH] at jL;split at jL;{rename_i l hb;simp only[AT] at jL;split at jL;{rename_i lR e3 T;cases jL;exact aw hM kG mg jY hb T hs hf fun a' w' I' F' L' kV kK=>let ⟨L2,U,O⟩:=QQ (dd id).lv kV kK;hQ a' w' I' F' L2 U O};{cases jL}};{simp[AT] at jL}
 | seq c1 c2 vX xF=>exact⟨QU vX.1 xF.1,tu vX.1 vX.2 xF.1 xF.2⟩
 | cond c c1 c2 vX xF =>
  refine⟨?_,fun l0 y z l8=>by simp[Fd] at l8⟩;intro E h dep R lp w0 I0 F0 O0 Hd jH ro Z e x jU e2 jL jY ml a w I F L Q hs hf hQ;simp only[B6] at jL;split at jL;{rename_i rc hrc;simp only[AT] at jL;have hc:=BM hs hf.wd hrc;split at jL;{rename_i hb;rw[hb] at hc;exact wpIn_cond_true (Gi hc) (vX.1 E h dep R lp w0 I0 F0 O0 Hd jH ro Z e x jU e2 jL jY ml a w I F L Q hs hf hQ)};{rename_i hb;rw[hb] at hc;exact wpIn_cond_false (Gi hc) (xF.1 E h dep R lp w0 I0 F0 O0 Hd jH ro Z e x jU e2 jL jY ml a w I F L Q hs hf hQ)};{cases jL}};{simp[AT] at jL}
 | block id c ih =>
  refine⟨?_,fun l0 y z l8=>by simp[Fd] at l8⟩;intro E h dep R lp w0 I0 F0 O0 Hd jH ro Z e x jU e2 jL jY ml a w I F L Q hs hf hQ;simp only[B6] at jL;split at jL
  case isFalse=>simp[AT] at jL
  rename_i hidb;simp only[AT] at jL;refine wpIn_block ?_;split at jL;{rename_i oo lR e3 U;refine ih.1 E h dep R lp w0 I0 F0 O0 Hd jH ro Z e (.exit oo) lR e3 U jY ml a w I F L _ hs hf fun a' w' I' F' L' kV kK=>?_;by_cases hid:oo=id;{rw[iJ hid] at jL;cases jL;subst hid;simp only[Eg,hidb,Exit.inBlock,iH];exact hQ a' w' I' F' L' kV kK};{rw[iI hid] at jL;cases jL;have:=hQ a' w' I' F' L' kV kK;simp only[Eg] at this |-;split<;>rename_i xL;{simp only[xL,iH] at this;simp only[Exit.inBlock,hid,iG];exact this};{simp only[xL,iG] at this;exact this}}}
  ·rename_i jW;refine ih.1 E h dep R lp w0 I0 F0 O0 Hd jH ro Z e x jU e2 jL jY ml a w I F L _ hs hf fun a' w' I' F' L' kV kK=>?_;have:=hQ a' w' I' F' L' kV kK;cases x with
   | normal=>exact this
   | exit id=>exact (jW _ _ _ jL).elim
   | ret=>exact this
 | loop c ih =>
  refine⟨?_,fun l0 y z l8=>by simp[Fd] at l8⟩;exact xI _ _ _ ih.1
 | rangeFunc f ps assign body ov ow =>
  refine⟨?_,fun l0 y z l8=>by simp[Fd] at l8⟩;intro E h dep R lp w0 I0 F0 O0 Hd jH ro Z e x jU e2 jL jY ml a w I F L Q hs hf hQ;simp only[B6] at jL;split at jL;{rename_i rf hrf;unfold UY at jL;split at jL;{exact XV hM jY ml ov.1 ow.1 hrf jL hs hf hQ};{simp only[AT] at jL;obtain⟨L0,hs0,hf0⟩:=Um hs hf;obtain⟨L1,nj,lV⟩:=OR [] (Mf (IH (B6 cx.P cx.G dd body))) hs0 hf0;exact XV hM jY ml ov.1 (XR (xH ow.1)) hrf jL nj lV hQ}};{simp[AT] at jL}
 | exit id =>
  refine⟨?_,fun l0 y z l8=>by simp[Fd] at l8⟩;intro E h dep R lp w0 I0 F0 O0 Hd jH ro Z e x jU e2 jL jY ml a w I F L Q hs hf hQ;simp only[B6] at jL;split at jL
  case isFalse=>simp[AT] at jL
  rename_i hid;simp only[AT,dL,eC] at jL;obtain⟨rfl,rfl,rfl⟩:=jL;have:=hQ a w I F L hs hf;simp only[Eg,hid,iH] at this;exact wpIn_exit this
 | scope c ih=>exact⟨xG ih.1 ih.2,fun l y z h=>by simp[Fd] at h⟩
 | label l =>
  refine⟨?_,?_⟩
  rotate_left
  intro l0 y z l8;simp only[Fd] at l8;split at l8
  case isFalse=>cases l8
  rename_i hl;cases l8;have hk:Fv cx M fuel .skip .skip:=by intro E h dep R lp w0 I0 F0 O0 Hd jH ro Z e x jU e2 jL jY ml a w I F L Q hs hf hQ;simp only[AT,dL,eC] at jL;obtain⟨rfl,rfl,rfl⟩:=jL;exact wpIn_skip (hQ a w I F L hs hf)
  refine⟨?_,.skip,by simp[findLabel,hl],hk⟩;intro E h dep R lp w0 I0 F0 O0 Hd jH ro Z e x jU e2 jL jY ml a w I F L Q hs hf hQ;simp only[AT,dL,eC] at jL;obtain⟨rfl,rfl,rfl⟩:=jL;exact wpIn_label (hQ a w I F L hs hf);intro E h dep R lp w0 I0 F0 O0 Hd jH ro Z e x jU e2 jL jY ml a w I F L Q hs hf hQ;simp only[B6,AT,dL,eC] at jL;obtain⟨rfl,rfl,rfl⟩:=jL;exact wpIn_label (hQ a w I F L hs hf)
 | goto l =>
  refine⟨?_,fun l0 y z l8=>by simp[Fd] at l8⟩;intro E h dep R lp w0 I0 F0 O0 Hd jH ro Z e x jU e2 jL jY ml a w I F L Q hs hf hQ;simp only[B6,AT,dL,eC] at jL;obtain⟨rfl,rfl,rfl⟩:=jL;have hn:¬ Do+l < Do:=by omega
  have:=hQ a w I F L hs hf;simp only[Eg,hn,iG,gh] at this;exact wpIn_goto this
 | ret =>
  refine⟨?_,fun l0 y z l8=>by simp[Fd] at l8⟩;intro E h dep R lp w0 I0 F0 O0 Hd jH ro Z e x jU e2 jL jY ml a w I F L Q hs hf hQ;simp only[B6,AT,dL,eC] at jL;obtain⟨rfl,rfl,rfl⟩:=jL;exact wpIn_ret (hQ a w I F L hs hf)
 | refuse r =>
  refine⟨?_,fun l0 y z l8=>by simp[Fd] at l8⟩;intro E h dep R lp w0 I0 F0 O0 Hd jH ro Z e x jU e2 jL;simp[B6,AT] at jL
theorem UI (hM:Fy cx M.call) (kG:vS cx M) (mg:Hq M):∀ c:Code,KN cx dd M fuel c:=fun c=>(xK hM kG mg c).1
end
end Go.Ab


namespace Go.Ab
variable{M:Bp} {P:jd} {Rr:Ending->i7->Prop} {dd:ja->E5} {fn:Func} {g:ja} {obs:jp} {p:Option (Nat×Nat)} {rf:Au} {jO:ja->jt} {tmps:Array i8} {u:i8} {us:List i8} {vs:jh} {σ:Nm->jk}
section
variable {E:Type} {cx:Cx} {w0:i7} {I0 F0:Nat->Prop} {O0:Cw} {Hd:Nat->Option Obj} {R:Ch E} {e:E} {F:Nat->Prop} {lp:Nat->jj} {jH j4:List i8}
variable {I:Nat->Prop} {L:AK} {Z:St} {w:i7} {ds:List jf}
theorem xM (hs:SR lp I L Z j4 jH w):∀ (rv:List ResultVar) (rs:List IW) (vs:jh),M8 P rv=some rs->Gz Z rs=some vs ->
  ∃ us,(rv.mapM fun (r:ResultVar)=>(match r with
   | .tmp t=>pure (j4.toArray.getD t undef)
   | .cell a t=>do loadVar t (<-asAddr (j4.toArray.getD a undef)):Sem i8)).run P w=.ok us w/\Av w I lp (some L) vs us:=by
 intro rv;induction rv with
 | nil =>
  intro rs vs U O;simp only[M8,dL] at U;subst U;simp only[Gz,dL] at O;subst O;exact⟨[],rfl,.nil⟩
 | cons r rv ih =>
  intro rs vs U O;simp only[M8] at U;split at U
  case h_2=>cases U
  rename_i x H A lM;cases U;simp only[Gz] at O;split at O
  case h_2=>cases O
  rename_i v vs' hv mG;cases O;obtain⟨us,q1,q2⟩:=ih H vs' lM mG
  have key:∃ u,(match r with
   | .tmp t=>pure (j4.toArray.getD t undef)
   | .cell a t=>do loadVar t (<-asAddr (j4.toArray.getD a undef)):Sem i8).run P w=.ok u w/\AC w I lp (some L) v u:=by
   cases r with
   | tmp t =>
    simp only[dL] at A;subst A;simp only[Cu,dL] at hv;subst hv;refine⟨j4.toArray.getD t undef,rfl,?_⟩;rw[Ul];exact hs.tm.getD t undef
   | cell a t =>
    simp only[dG] at A;obtain⟨⟨n,ag⟩,lP,rfl⟩:=A;simp only[Cu] at hv;split at hv
    case h_2=>cases hv
    rename_i V o T;split at hv
    case h_2=>cases hv
    rename_i cs kD;have jS:=hs.tm.getD a undef;rw[T] at jS;obtain⟨b,C,hL,hbv⟩:=GK jS;obtain⟨p,hp,ha⟩:=hs.ob V _ kD;rw[hL] at hp;cases hp;obtain⟨c,E',hb,hC,kn,hrl⟩:=ha;obtain⟨u,hu,mF⟩:=OL hrl kn.1 hv;refine⟨u,?_,mF⟩
    have py:=PP (P:=P) lP (off:=o) hb (v:=u) (by
     cases ag;·simpa using hu
     ·simp only[iH] at hu |-;refine⟨by simpa using hu.1,?_⟩;rw[hu.2,NW,gh])
    show (do loadVar t (<-asAddr (j4.toArray.getD a undef)):Sem i8).run P w=_;rw[Ul];have hbv':j4.toArray.toList.getD a undef=.pointer (some ⟨b,o,none⟩):=hbv;rw[hbv'];simpa[Instr.loadAt,Instr.sureAddr,asAddr] using py
  obtain⟨u,k1,k2⟩:=key;refine⟨u :: us,?_,.cons _ _ _ _ k2 q2⟩;rw[fq,Sem.run_bind,k1,Result.andThen_ok,Sem.run_bind,q1,Result.andThen_ok];rfl
theorem YW (h:Av w I lp (some L) vs us):AC w I lp (some L) (Ig vs) (if h:us.toArray.size=1 then us.toArray[0] else .tuple us.toArray):=by
 match vs,us,h with
 | [],[],.nil=>exact .jE [] #[] .nil
 | [v],[u],.cons _ _ _ _ h .nil=>exact h
 | v :: v' :: vs,u :: u' :: us,h =>
  have:¬ (u :: u' :: us).toArray.size=1:=by simp
  rw[dif_neg this];exact .jE _ _ (by simpa using h)
theorem Xe:∀ (S:jl) (obs:jp),S.mapM σ=some obs->obs.length=S.length/\∀ (j:Nat) (V:Nm),S[j]?=some V->∃ ob,obs[j]?=some ob/\σ V=some ob:=by
 intro S;induction S with
 | nil=>intro obs h;simp at h;subst h;exact⟨rfl,fun j V h=>by simp at h⟩
 | cons x S ih =>
  intro obs h;rw[fq] at h;simp only[gw,eY,gF,dL] at h;obtain⟨ob,ho,rP,hos,rfl⟩:=h;obtain⟨q1,q2⟩:=ih rP hos;refine⟨by simp[q1],fun j V hj=>?_⟩;cases j with
  | zero=>simp at hj;subst hj;exact⟨ob,rfl,ho⟩
  | succ j=>simp at hj;obtain⟨o,U,O⟩:=q2 j V hj;exact⟨o,by simpa using U,O⟩
theorem bW:∀ {S:jl},EJ S=true->∀ (i j:Nat) (V:Nm),S[i]?=some V->S[j]?=some V->i=j:=by
 intro S;induction S with
 | nil=>intro _ i j V h;simp at h
 | cons x S ih =>
  intro h i j V hi hj;simp only[EJ,dF,fO] at h;obtain⟨U,O⟩:=h;have A:x ∉ S:=by simpa using U
  cases i with
  | zero =>
   cases j with
   | zero=>rfl
   | succ j=>simp at hi hj;subst hi;exact iW (d9 hj) A
  | succ i =>
   cases j with
   | zero=>simp at hi hj;subst hj;exact iW (d9 hi) A
   | succ j=>simp at hi hj;rw[ih O i j V hi hj]
theorem ck {ob:Ob} (h:KT ob=true):KT ob.bare=true:=by cases ob<;>first | exact h | rfl
theorem BR.bare {w:i7} {I:Nat->Prop} {lp:Nat->jj} {L:AK} {ob:Ob} (h:BR w I lp L ob p):BR w I lp L ob.bare p:=by
 cases p with
 | none=>obtain⟨k,kt,rfl⟩:=h;exact⟨k,0,rfl⟩
 | some p =>
  cases ob with
  | arr k kt H=>obtain⟨c,E,U,O,h3,h4⟩:=h;exact⟨c,E,U,O,⟨h3.1,.inl rfl⟩,h4⟩
  | cells ty cs=>exact h
  | map es=>exact h
  | jT s p=>exact h
theorem hand_ok {shut:Bool} (hs:SR lp I L Z j4 jH w) (hf:Fr cx w0 I0 F0 ⟨fun _=>False,[]⟩ Hd R e ds I F L w) {v v':W} (hv:AC w I lp (some L) v u) (h:Km shut Z v=some (v',obs)) :
  ∃ I' ps,Nb cx R lp I0 F0 w0 v' obs e u w I' F ps:=by
 simp only[Km] at h;generalize hS:(if (EJ (Jg shut v)&&(Jg shut v).all fun V=>!(Bn (Al Z.jC) A7 (v.names.filter fun V=>!(Jg shut v).contains V)).contains V)=true then Jg shut v else [])=S at h;generalize xd:Bn (Al Z.jC) A7 (v.names.filter fun V=>!S.contains V)=Rn at h;split at h
 case h_2=>cases h
 rename_i rP hm;obtain⟨hk,h⟩:=Bx h;cases h;simp only[dF] at hk;obtain⟨hR,lj⟩:=hk;obtain⟨m1,m2⟩:=Xe S rP hm;have hSnd:EJ S=true/\∀ V∈S,V ∉ Rn:=by by_cases hc:(EJ (Jg shut v)&&(Jg shut v).all fun V=>!(Bn (Al Z.jC) A7 (v.names.filter fun V=>!(Jg shut v).contains V)).contains V)=true;{rw[iJ hc] at hS;subst hS;rw[dF] at hc;refine⟨hc.1,fun V hn=>?_⟩;have:=d6.1 hc.2 V hn;rw[xd] at this;simpa using this};{rw[iI hc] at hS;subst hS;exact⟨rfl,fun V hn=>by cases hn⟩}
 obtain⟨mu,xN⟩:=hSnd;have mg:∀ (j:Nat) (V:Nm),S[j]?=some V->∃ p ob,L V=some p/\rP[j]?=some ob/\BR w I lp L ob p:=by intro j V hj;obtain⟨ob,U,O⟩:=m2 j V hj;obtain⟨p,hp,ha⟩:=hs.ob V ob O;exact⟨p,ob,hp,U,ha⟩
 refine⟨ku I L Rn,S.map (fun V=>(L V).getD none),?_⟩;have vU:=hf.freeze Rn;have vW:∀ (j:Nat) (p:Option (Nat×Nat)),(S.map fun V=>(L V).getD none)[j]?=some p->∃ V,S[j]?=some V/\L V=some p:=by intro j p hj;rw[dT,dG] at hj;obtain⟨V,U,O⟩:=hj;obtain⟨q,ob,hq,_,_⟩:=mg j V U;rw[hq] at O;simp only[eN] at O;subst O;exact⟨V,U,hq⟩
 refine⟨vU.ext,vU.sep,vU.wd,vU.re,by rw[dY,dY,m1],?_,?_,?_,?_,by rw[List.all_map];exact d6.2 fun ob ho=>ck (d6.1 lj ob ho)⟩;{intro j ob p hj hp;obtain⟨V,U,O⟩:=vW j p hp;obtain⟨q,nK,hq,ho,ha⟩:=mg j V U;rw[O] at hq;cases hq;rw[dT,ho] at hj;cases hj;have hj:=ho;refine BR.bare ?_;exact (ha.mono (I':=ku I L Rn) (fun _ h=>.inl h) (fun _ _=>rfl) (fun _ _ h=>h) fun _ _ _=>rfl).ofArr (d6.1 lj _ (d9 hj))};{intro j b C hj;obtain⟨V,U,O⟩:=vW j _ hj;obtain⟨g1,g2,g3,g4⟩:=hf.lB V b C O;refine⟨g1.elim id fun h=>h.elim,g2,?_,g4⟩;rintro (hb | ⟨kR,oY,C',qK⟩);{exact g3 hb};{have:=hf.inj V kR b C C' O qK;subst this;exact xN V (d9 U) oY}};{intro j j' b C C' U O;obtain⟨V,a1,a2⟩:=vW j _ U;obtain⟨kR,b1,b2⟩:=vW j' _ O;have:=hf.inj V kR b C C' a2 b2;subst this;exact bW mu j j' V a1 b1}
 ·have np:Fj w (ku I L Rn) lp L (some fun V=>if V∈S then L V else none) (fun V=>V∈S\/V∈Rn) (fun V=>if S.contains V then none else BX (Al Z.jC) V):=by
   intro V p hn hp;by_cases hm:V∈S
   ·have:S.contains V=true:=by simpa using hm
    simp only[this,iH];exact⟨_,rfl,by simp[hm,hp]⟩
   ·have:S.contains V=false:=by simpa using hm
    simp only[this,dE,iG];have:=Qy hs hR (none) V p (hn.resolve_left hm) hp;cases k8:BX (Al Z.jC) V with
    | none=>simp[BX] at k8
    | some q =>
     rw[k8] at this;cases q with
     | none=>trivial
     | some ob=>exact this
  have U:=AC.subst (I':=ku I L Rn) (fun b hb=>.inl hb) np hv (fun V hn=>by
   by_cases hm:V∈S
   ·exact .inl hm
   ·refine .inr ?_;rw[<-xd];exact FT _ _ _ (fX.2 ⟨hn,by simpa using hm⟩))
  refine AC.rename (fun V p hp=>?_) U;split at hp
  ·rename_i hm;have rQ:=List.idxOf_lt_length_of_mem hm;have kO:S[S.idxOf V]?=some V:=by rw[dQ rQ];simp
   simp[KP,PD,CZ,kO,hp]
  {cases hp}
theorem tw:∀ {ds:List jf} {w:i7} {lo:Nat} {I F:Nat->Prop} {L:AK},Ee lo I F L w ds []->(∀ w':i7,w'.os=w.os->w'.tape=w.tape->w'.output=w.output->w'.heap.size=w.heap.size ->
   (∀ b,(b < lo\/I b\/F b\/∃ V C,L V=some (some (b,C)))->w'.heap[b]?=w.heap[b]?)->∃ v,(results fn tmps).run P w'=.ok v w'/\Rr (.returned v) w') ->
  LeavesInM Fence.wide 0 P fn tmps Rr ds .returning w:=by
 intro ds;induction ds with
 | nil =>
  intro w lo I F L _ h;obtain⟨v,U,O⟩:=h w rfl rfl rfl rfl fun _ _=>rfl;exact⟨v,U,O⟩
 | cons d ds ih =>
  intro w lo I F L hm h;cases hm with
  | cons D _ _ U O h3 h4 h5 h6 h7 T =>
   refine⟨by simp,.inl ⟨D,_,rfl,run_takeDeferred h6,?_⟩⟩;have hk:∀ b,b≠D->(w.putObj D (.deferred none)).heap[b]?=w.heap[b]?:=fun b hb=>World.putObj_heap_other hb;have kS:(w.putObj D (.deferred none)).heap.size=w.heap.size:=World.putObj_size
   have oV:Ee lo I F L (w.putObj D (.deferred none)) ds []:=by
    have key:∀ ds rs,Ee lo I F L w ds rs->(∀ d∈ds,d.target≠.collected D)->Ee lo I F L (w.putObj D (.deferred none)) ds rs:=by
     intro ds rs hm;induction hm with
     | call d' ds rs hd _ ih=>intro jW;exact .call d' ds rs hd (ih fun d hd=>jW d (dZ _ hd))
     | nil=>intro _;exact .nil
     | cons D' ds rs g1 g2 g3 g4 g5 g6 g7 _ ih =>
      intro jW;have hDD:D'≠D:=fun e=>jW {target:=.collected D',args:=#[]} d7 (by rw[e]);exact .cons D' ds rs g1 (by rw[kS];exact g2) g3 g4 g5 ((hk D' hDD).trans g6) g7 (ih fun d hd=>jW d (dZ _ hd))
    exact key ds _ T h7
   refine ih oV fun w' e1 e2 e3 e4 e5=>h w' e1 e2 e3 (by rw[e4,kS]) fun b hb=>?_;have jW:b≠D:=by rintro rfl;rcases hb with hb | hb | hb | ⟨V,C,hb⟩;{omega};{exact h3 hb};{exact h4 hb};{exact h5 V C hb}
   exact (e5 b hb).trans (hk b jW)
end
def Mj (cx:Cx) (jO:ja->jt) (dd:ja->E5):Prop:=∀ f fn,jO f=some fn->Mg cx.P cx.G (dd f) f=some {fn with io:=false,shut:=false,kr:=false,gone:=[]}
theorem xO {cx:Cx} (nF:Mj cx jO dd) (hrf:jO g=some rf):∃ fn c,cx.P.funcs[g]?=some fn/\fn.body=some c/\M8 cx.P fn.results.toList=some rf.res/\¬ (fn.name == "runtime.NumGoroutine")=true/\rf.nt=fn.ntmps/\rf.code=B6 cx.P cx.G (dd g) c:=by
 have hcf:=nF g rf hrf;unfold Mg at hcf;split at hcf
 case h_2=>cases hcf
 rename_i fn oT;split at hcf
 case h_2=>cases hcf
 rename_i c rs mj xP;split at hcf
 case isTrue=>cases hcf
 rename_i lQ;obtain⟨nt,code,res,io⟩:=rf;simp only[dL,Au.mk.injEq,and_true] at hcf;obtain⟨rfl,rfl,rfl⟩:=hcf;exact⟨fn,c,oT,mj,xP,lQ,rfl,rfl⟩
theorem tz {cx:Cx} (hM:Fy cx M.call) (kG:vS cx M) (mg:Hq M) (nF:Mj cx jO dd) (n:Nat):Fy cx (JU M n jO):=by
  intro E h R dep lp Ir qE wr g args e r obs e' hc hand hdep;simp only[JU] at hc;split at hc;·cases hc
  rename_i rf hrf;obtain⟨fn,c,oT,mj,xP,lQ,oN,su⟩:=xO nF hrf;rw[oN,su] at hc;split at hc
  case h_2=>cases hc
  rename_i x jU e2 jL;refine⟨⟨fn,oT,by simpa using lQ,by rw[mj];rfl⟩,fun I F w vs A rO hwd rC jS=>?_⟩;have oh:x≠.normal->x=.ret\/∃ id,x=.exit id:=by cases x<;>simp
  have qM:∀ id,x≠.exit id:=by rintro id rfl;simp at hc
  have rG:(match Gz jU rf.res with
     | some vs=>match Km rf.shut jU (Ig vs) with
      | some (v,obs)=>some (v,obs,e2)
      | none=>none
     | none=>none)=some (r,obs,e'):=by
   cases x with
   | normal=>exact hc
   | ret=>exact hc
   | exit id=>exact iW rfl (qM id)
  split at rG
  case h_2=>cases rG
  rename_i rvs hrvs;split at rG
  case h_2=>cases rG
  rename_i v' rP hho;cases rG;refine callsIn_of_wp_marks oT mj trivial ?_;have hlen:=jS.length
  have qS:SR lp I (fun _=>none) {tmps:=args++List.replicate (fn.ntmps - args.length) .undef,jC:=List.replicate fn.ntmps [],jG:=[]} (vs.toArray++Array.replicate (fn.ntmps - vs.toArray.size) undef).toList [] w:=by
   refine⟨?_,.nil,fun V ob hl=>?_,fun V _=>rfl⟩;{have O:Av w I lp (some fun _=>none) (List.replicate (fn.ntmps - args.length) W.undef) (List.replicate (fn.ntmps - args.length) undef):=Av.kC _ _ (by simp);have:=(jS.lift (some fun _=>none)).append O;simpa[hlen] using this}
   ·exfalso
    have hnone:Al (List.replicate fn.ntmps []) V=none:=by
     unfold Al;cases hg:(List.replicate fn.ntmps ([]:jp))[V.1]? with
     | none=>rfl
     | some l =>
      have:=hZ (d9 hg);subst this;simp
    rw[hnone] at hl;cases hl
  have tt:Fr cx w I F ⟨fun _=>False,[]⟩ (fun _=>none) R e [] I F (fun _=>none) w :=
   ⟨CI.refl _ _ _,rO,fun b hb=>hb.elim,fun V b C hn=>(by cases hn),fun V kR b C C' hn=>(by cases hn),hwd,rC,.nil,fun b ob hb=>(by cases hb)⟩
  refine UI (dd:=dd g) (M:=M) hM kG mg c E h dep R lp w I F ⟨fun _=>False,[]⟩ (fun _=>none) [] none _ e x jU e' jL ⟨⟨Ir,qE,wr,hand,A⟩,hdep⟩ (fun l0 he=>by cases he) {tmps:=_,defers:=[]} w I F _ _ qS tt ?_;rintro a' w' I' F' L' kV kK
  have sq:LeavesInM Fence.wide 0 cx.P fn a'.tmps (YJ cx R lp I F w r obs e') a'.defers .returning w':=by
   refine tw kK.qi fun w2 e1 e3 e4 e5 e6=>?_;have hkI:∀ b,I' b->w2.heap[b]?=w'.heap[b]?:=fun b hb=>e6 b (.inr (.inl hb));have hkF:∀ b,F' b->w2.heap[b]?=w'.heap[b]?:=fun b hb=>e6 b (.inr (.inr (.inl hb)));have na:SR lp I' L' jU a'.tmps.toList [] w2:=kV.keeps (fun _ h=>h) hkI fun V b C hn=>e6 b (.inr (.inr (.inr ⟨V,C,hn⟩)))
   have nQ:Fr cx w I F ⟨fun _=>False,[]⟩ (fun _=>none) R e' [] I' F' L' w2:=by
    refine⟨⟨e1.trans kK.ext.os,e3.trans kK.ext.tape,e4.trans kK.ext.output,by rw[e5];exact kK.ext.size,fun b hb hF=>(e6 b (.inl hb)).trans (kK.ext.jG b hb hF),kK.ext.nA,kK.ext.nh,kK.ext.nB⟩,
     ⟨fun b hb=>by rw[e5];exact kK.sep.iB b hb,fun b hb=>⟨by rw[e5];exact (kK.sep.fB b hb).1,(kK.sep.fB b hb).2⟩⟩,fun b hb=>hb.elim,fun V b C hn=>?_,kK.inj,?_,?_,.nil,fun b ob hb=>by cases hb⟩
    {obtain⟨q1,q2,q3,q4⟩:=kK.lB V b C hn;exact⟨q1,by rw[e5];exact q2,q3,q4⟩};{exact cx.mZ I' I' w' w2 kK.wd (fun _ h=>h) hkI (by rw[e5];exact dH _)};{exact R.mZ e' I' I' F' w' w2 kK.re (fun _ h=>h) (fun b hb=>hb.elim (hkI b) (hkF b)) (by rw[e5];exact dH _)}
   obtain⟨us,q1,q2⟩:=xM na (P:=cx.P) fn.results.toList rf.res rvs xP hrvs;obtain⟨I3,ps,lu⟩:=hand_ok na nQ (YW q2) hho;refine⟨_,?_,⟨I3,F',ps,lu⟩⟩;unfold results;rw[Sem.run_bind,iC,Sem.run_map];rw[fE] at q1;exact (iP (fun r:Result (List i8)=>(r.andThen fun a w'=>Result.ok a.toArray w').andThen fun a w'=>Sem.run cx.P (pure (if h:a.size=1 then a[0] else Value.tuple a)) w') q1).trans rfl
  cases x with
  | normal=>exact sq
  | ret=>exact sq
  | exit id=>exact iW rfl (qM id)
end Go.Ab

