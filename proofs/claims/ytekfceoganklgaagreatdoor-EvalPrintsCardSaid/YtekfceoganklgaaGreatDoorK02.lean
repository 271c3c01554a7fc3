/- Part 2 of a proof: laws of a machine. -/
import Derived.Test.YtekfceoganklgaaGreatDoorK01
import Derived.Laws.IdiomStrings
import Derived.MapKept
import Derived.Laws.Entries
import Derived.Laws.StructEq
import Derived.Orders
import Derived.RangeFuncNested
set_option linter.all false

namespace Go.Ab
variable{L':l7} {P:lO} {Rn:lW} {b:UInt8} {clock:Nat} {d:lR} {dst el et kt src:lP} {nj:Array MapEntry} {es:lS} {f:Nm->Option lV} {k v z:PV} {l:List MapEntry} {J:Nm} {r r1 r2:RX} {w':lJ} {x:lM} {σ:Nm->lV}
section ops
variable {E:Type} {cx:Cx} {w0:lJ} {I0 F0:Nat->Prop} {O0:BE} {Hd:Nat->Option Obj} {R:Bs E} {e:E} {ds:List lQ} {F:Nat->Prop} {lp:Nat->lT} {ml:List lK}
variable {I:Nat->Prop} {L:As} {V:St} {a:Act} {w:lJ} {o:Oper} {out:Al} {r9:An}
theorem fy (hs:SR lp I L V a.tmps.toList ml w) (hf:Fr cx w0 I0 F0 O0 Hd R e ds I F L w) (ho:o.op=.convert src dst x) (U:rx cx.G x=some r)
  (hd1:cx.P.underlying src=some .string) (hd2:cx.P.underlying dst=some (.slice el)) (hd3:cx.P.underlying el=some (.int .u8))
  (h:exec (o.dst.getD 0) (Ac V.mi) V.tmps (.nS r)=some out):Bh cx w0 I0 F0 O0 Hd R e ds F lp ml o a w (apply V o.dst out):=by
 have O:=Be hs hf.wd U;simp only[exec] at h;split at h
 case h_2=>cases h
 rename_i s hr;obtain⟨hk,h⟩:=AQ h;cases h;rw[hr] at O;have qw:=Cu O;have hz:(⟨s.toArray⟩:ByteArray).size=s.length:=by simp[ByteArray.size]
 have ng:=run_bytes_of_string (P:=cx.P) w src dst el ⟨s.toArray⟩ hd1 hd2 hd3;rw[hz] at ng;have qx:=grownCap_ge w s.length 0 el;generalize hc:grownCap w s.length 0 el=cap at *;have qX:(bytesRow ⟨s.toArray⟩ cap).toList=(s.map fun b=>Value.int .u8 (b.toNat:Int))++List.replicate (cap - s.length) (.int .u8 0):=by simp[bytesRow,hz]
 have hbs:(bytesRow ⟨s.toArray⟩ cap).size=cap:=by
  have:(bytesRow ⟨s.toArray⟩ cap).toList.length=cap:=by rw[qX];simp;omega
  simpa using this
 generalize zA:bytesRow ⟨s.toArray⟩ cap=row at *;generalize qo:(row.size,row.size+1)=fr at *;have yy:∀ b',b' < w.heap.size->(w.drew.alloc (.cells row el fr)).heap[b']?=w.heap[b']?:=fun b' oT=>by rw[mv w.drew _ oT];rfl
 have pJ:SR lp (fun b=>I b\/b=w.heap.size) L V a.tmps.toList ml (w.drew.alloc (.cells row el fr)) :=
  hs.keeps (fun _ h=>.inl h) (fun b hb=>yy b (hf.sep.iB b hb)) fun J b C hn=>yy b (hf.lB J b C hn).2.1
 refine⟨.slice (some ⟨w.heap.size,0,none⟩) s.length cap,w.drew.alloc (.cells row el fr),(fun b=>I b\/b=w.heap.size),L,.inl ?_,?_,?_⟩;{simp[execOp,ho,qw,ng]}
 ·refine pJ.yZ o.dst ?_;have hbl2:(Cm s).length=s.length:=by simp[Cm]
  have htk:(row.toList.drop 0).take ((Cm s).length*1)=s.map fun b=>Value.int .u8 (b.toNat:Int):=by rw[j8,qX,hbl2,Nat.mul_one,kO (by simp),jb (by simp)]
  have:=Am.sl (w:=w.drew.alloc (.cells row el fr)) (I:=fun b=>I b\/b=w.heap.size) (lp:=lp) (L:=some L) 1 (Cm s) false w.heap.size 0 cap row el fr (.inr rfl) (LI w.drew _) (by rw[hbl2,hbs];omega)
   (fun y hy=>by obtain⟨b,_,rfl⟩:=ii.1 hy;rfl) (by rw[hbl2];exact qx) (by simp)
   (by rw[htk];intro v hv;obtain⟨b,_,rfl⟩:=ii.1 hv;rfl) (by rw[htk];exact WJ s)
  rwa [hbl2] at this
 {refine hf.own rfl rfl rfl (by simp) (fun b hb _=>yy b hb) (fun _ h=>.inl h) (fun b hb=>?_) (fun J b C hn=>?_) hf.inj;{rcases hb with hb | rfl;{exact .inl hb};{exact .inr ⟨by simp,.inl (ik _)⟩}};{have hl:=hf.lB J b C hn;refine⟨by simp;omega,fun hb=>?_,.inr ⟨J,C,hn⟩⟩;rcases hb with hb | rfl;{exact hl.2.2.1 hb};{omega}}}
theorem eL {x:PV} (h:KW x=some b):x=.int .u8 (b.toNat:Int):=by
 unfold KW at h;split at h
 ·rename_i n;split at h
  ·rename_i hn;cases h;congr 1;have:n.toNat < 256:=by omega
   rw[UInt8.toNat_ofNat',Nat.mod_eq_of_lt this,Int.toNat_of_nonneg hn.1]
  {cases h}
 {cases h}
theorem dP:∀ {Z:lS} {s:l4},Ef Z=some s->Z=Cm s:=by
 intro Z;induction Z with
 | nil=>intro s h;simp only[Ef,il] at h;subst h;rfl
 | cons x Z ih =>
  intro s h;simp only[Ef] at h;split at h;{rename_i b bs hb hbs;cases h;rw[eL hb,ih hbs];rfl};{cases h}
theorem vu {w:lJ} {I:Nat->Prop} {lp:Nat->lT} {L:l7}:∀ {s:l4} {A:List lK},Ai w I lp L (mr (Cm s)) A->A=s.map fun b=>Value.int .u8 (b.toNat:Int):=by
 intro s;induction s with
 | nil=>intro A h;cases h;rfl
 | cons b s ih =>
  intro A h;have H:Ai w I lp L (.int .u8 (b.toNat:Int) :: mr (Cm s)) A:=h;cases H with
  | cons _ v _ A h3 hs=>rw[CD h3,ih hs];rfl
theorem fA (hs:SR lp I L V a.tmps.toList ml w) (hf:Fr cx w0 I0 F0 O0 Hd R e ds I F L w) {x:lM} (ho:o.op=.convert src dst x) (U:rx cx.G x=some r)
  (hd1:cx.P.underlying src=some (.slice el)) (hd2:cx.P.underlying dst=some .string) (hd3:cx.P.underlying el=some (.int .u8))
  (h:exec (o.dst.getD 0) (Ac V.mi) V.tmps (.ofBytes r)=some out):Bh cx w0 I0 F0 O0 Hd R e ds F lp ml o a w (apply V o.dst out):=by
 have O:=Be hs hf.wd U;simp only[exec] at h;split at h
 case h_2=>cases h
 rename_i Z n6;split at h
 case h_2=>cases h
 rename_i s hbs;cases h;obtain⟨yz,qS⟩:=AQ n6;have rE:=dP hbs;subst rE;refine Bo hs hf (v':=.string ⟨s.toArray⟩) ?_ (.refl w) (.str s)
 have zA:∀ (b off cap:Nat) (c:Array lK) (E':lP) (fr:Nat×Nat),w.heap[b]?=some (.cells c E' fr)->off+s.length<=c.size->Ai w I lp none (mr (Cm s)) ((c.toList.drop off).take s.length) ->
   (convert src dst (.slice (some ⟨b,off,none⟩) s.length cap)).run cx.P w=.ok (.string ⟨s.toArray⟩) w:=by
  intro b off cap c E' fr hb hle mG;refine run_convert_bytes_back w src dst el ⟨b,off,none⟩ cap s hd1 hd3 hd2 fun j hj=>?_;have he:=vu mG;rw[Jr,Pn hb];have:((c.toList.drop off).take s.length)[j]?=some (.int .u8 (s[j].toNat:Int)):=by rw[he];simp[hj]
  rw[j4 hj,ku] at this;simpa using this
 have qL:s=[]->∀ (ad:Option Addr) (cap:Nat),(convert src dst (.slice ad 0 cap)).run cx.P w=.ok (.string ⟨s.toArray⟩) w:=by
  rintro rfl ad cap;cases ad with
  | none=>rw[run_convert_bytes_string w src dst el none 0 cap hd1 hd3 hd2];simp[Conv.bytesToString];rfl
  | some ad=>exact run_convert_bytes_back w src dst el ad cap [] hd1 hd3 hd2 fun j hj=>by simp at hj
 have key:(convert src dst (a.eval x)).run cx.P w=.ok (.string ⟨s.toArray⟩) w:=by
  unfold DD at qS;split at qS
  ·rename_i k Z full hr;obtain⟨_,uS⟩:=AQ qS;have uS:Z=Cm s:=by simpa using uS
   subst uS;rw[hr] at O;rcases IE O with ⟨b,off,cap,c,E',fr,hv,g1,g2,g3,g4,g5,g6,g7,g8⟩ | ⟨hn,ad,cap,hv,_⟩
   ·have qX:(Cm s).length=s.length:=by simp[Cm]
    rw[qX] at hv g3 g8
    have nA:s.length*k=s.length:=by
     have hln:=g8.length;cases s with
     | nil=>simp
     | cons b0 s=>have:=g4 (.int .u8 (b0.toNat:Int)) (by simp[Cm]);rw[<-this];simp[PV.cells]
    rw[nA] at g3 g8;rw[hv];exact zA b off cap c E' fr g2 g3 g8
   {rw[hv];exact qL (by simpa[Cm] using hn) ad cap}
  ·rename_i J k off n hr;split at qS
   case h_2=>cases qS
   rename_i qg kt Z nq;obtain⟨hk,uS⟩:=AQ qS;simp only[ie,ly,lw] at hk;obtain⟨⟨rfl,rfl⟩,hle⟩:=hk;have uS:(Z.drop off).take n=Cm s:=by simpa using uS
   have qX:(Cm s).length=s.length:=by simp[Cm]
   have yz:n=s.length:=by rw[<-qX,<-uS];simp;omega
   obtain⟨p,hp,ha⟩:=hs.ob J _ nq;rw[hr] at O;rcases G5 O with ⟨b,C,cap,hL,hv,hC,hn⟩ | ⟨hL,hv,rfl,rfl⟩
   ·rw[hL] at hp;cases hp;obtain⟨c,E',hb,hC',hxs',qe,nk,mG⟩:=ha;have:=(mG.drop (off*1)).take (n*1);rw[<-MT qe,<-Ke (fun x O=>qe x (jH O)),uS,jI,jg] at this;have hmin:min (n*1) (Z.length*1 - off*1)=s.length:=by omega
    rw[hmin,Nat.mul_one] at this;rw[hv,yz,Nat.mul_one];exact zA b off cap c E' (0,0) hb (by omega) this
   {rw[hv];exact qL (kN.1 yz.symm) none 0}
  ·rename_i hr;have uS:[]=Cm s:=by simpa using qS
   rw[hr] at O;rw[GF O];exact qL (by cases s with | nil=>rfl | cons b s=>simp[Cm] at uS) none 0
  {rename_i s' hr;rw[hr] at yz;simp[Qq] at yz};{cases qS}
 simp[execOp,ho,key]
theorem QN (h:GN (DK P kt) k=true):∃ d,P.underlying kt=some d /\
  (((∃ kk,d=.int kk)/\∃ j n,k=.int j n)\/(d=.string/\∃ s,k=.str s)\/(d=.bool/\∃ b,k=.bool b)):=by
 cases hu:P.underlying kt with
 | none=>simp[DK,hu,GN] at h
 | some d =>
  cases d with
  | struct fs =>
   simp only[DK,hu] at h;split at h;{split at h<;>simp[GN] at h};{simp[GN] at h}
  | int q =>
   simp only[DK,hu] at h;cases k<;>simp[GN] at h;exact⟨_,rfl,.inl ⟨⟨_,rfl⟩,_,_,rfl⟩⟩
  | string =>
   simp only[DK,hu] at h;cases k<;>simp[GN] at h;exact⟨_,rfl,.inr (.inl ⟨rfl,_,rfl⟩)⟩
  | bool =>
   simp only[DK,hu] at h;cases k<;>simp[GN] at h;exact⟨_,rfl,.inr (.inr ⟨rfl,_,rfl⟩)⟩
  | _=>simp[DK,hu,GN] at h
def Ji (d:lR) (k:PV):Prop:=((∃ kk,d=.int kk)/\∃ j n,k=.int j n)\/(d=.string/\∃ s,k=.str s)\/(d=.bool/\∃ b,k=.bool b)
theorem Ji.names (h:Ji d k):k.names=[]:=by rcases h with ⟨_,_,_,rfl⟩ | ⟨_,_,rfl⟩ | ⟨_,_,rfl⟩<;>rfl
theorem QP {w:lJ} {I:Nat->Prop} {lp:Nat->lT} {L:l7} {x:PV} {kv xv:lK} (hd:Ji d k) (hk:Am w I lp L k kv) (O:Am w I lp L' x xv) {r:Bool} (h:On k x=some r) :
  Instr.sameNow d kv xv=some r/\(r=true->xv=kv):=by
 rcases hd with ⟨⟨kk,rfl⟩,j,n,rfl⟩ | ⟨rfl,s,rfl⟩ | ⟨rfl,b,rfl⟩
 ·cases x<;>simp only[On] at h<;>first | contradiction | skip
  obtain⟨U,H⟩:=AQ h;have U:=beq_iff_eq.1 U;subst U;cases H;rw[CD hk,CD O];refine⟨by simp[Instr.sameNow],fun hb=>by rw[beq_iff_eq.1 hb]⟩
 ·cases x<;>simp only[On] at h<;>first | contradiction | skip
  rename_i s';cases h;rw[Cu hk,Cu O]
  have hb:((⟨s.toArray⟩:ByteArray)==⟨s'.toArray⟩)=(s==s'):=by
   cases hc:(s==s') with
   | true=>rw[beq_iff_eq.1 hc];exact (MapKept.bytes_beq _ _).2 rfl
   | false =>
    cases hb:((⟨s.toArray⟩:ByteArray)==⟨s'.toArray⟩) with
    | false=>rfl
    | true =>
     have:=(MapKept.bytes_beq _ _).1 hb;have:s=s':=by simpa using this
     rw[this] at hc;simp at hc
  exact⟨by simp only[Instr.sameNow,hb],fun hb=>by rw[beq_iff_eq.1 hb]⟩
 ·cases x<;>simp only[On] at h<;>first | contradiction | skip
  rename_i b';cases h;rw[Fd hk,Fd O];exact⟨by simp[Instr.sameNow],fun hb=>by rw[beq_iff_eq.1 hb]⟩
theorem Wq {w:lJ} {I:Nat->Prop} {lp:Nat->lT} {L:l7} {x y:PV} (h:Ai w I lp L (x :: y :: es) (FX l)) :
  ∃ en l',l=en :: l'/\Am w I lp L x en.key/\Am w I lp L y en.val/\Ai w I lp L es (FX l'):=by
 cases l with
 | nil=>cases h
 | cons en l' =>
  cases h with
  | cons _ _ _ _ U H=>cases H with
   | cons _ _ _ _ H h3=>exact⟨en,l',rfl,U,H,h3⟩
theorem gQ {w:lJ} {I:Nat->Prop} {lp:Nat->lT} {L:l7} {kv:lK} (hd:Ji d k) (hk:Am w I lp L' k kv):∀ (n:Nat) (es:lS) (l:List MapEntry) (i:Nat) (r:mc),es.length<=n ->
  Ai w I lp L es (FX l)->G8 k es=some r ->
  (r=none/\Instr.findNow d kv l i=some none)\/∃ j v x,r=some x/\Am w I lp L x v/\Instr.findNow d kv l i=some (some (j,v)):=by
 intro n;induction n with
 | zero =>
  intro es l i r hn h hf;cases es with
  | cons x es=>simp at hn
  | nil =>
   simp only[G8,il] at hf;subst hf;cases l with
   | nil=>exact .inl ⟨rfl,rfl⟩
   | cons en l=>cases h
 | succ n ih =>
  intro es l i r hn h hf
  match es,hf,h,hn with
  | [],hf,h,hn =>
   simp only[G8,il] at hf;subst hf;cases l with
   | nil=>exact .inl ⟨rfl,rfl⟩
   | cons en l=>cases h
  | [x],hf,h,hn=>simp[G8] at hf
  | x :: y :: es,hf,h,hn =>
   obtain⟨en,l',rfl,U,H,h3⟩:=Wq h;simp only[G8] at hf;split at hf;{rename_i tB;obtain⟨s1,_⟩:=QP hd hk U tB;cases hf;exact .inr ⟨i,en.val,y,rfl,H,by simp[Instr.findNow,s1]⟩};{rename_i tB;obtain⟨s1,_⟩:=QP hd hk U tB;simp only[iM] at hn;rcases ih es l' (i+1) r (by omega) h3 hf with ⟨q1,q2⟩ | ⟨j,v,x,q1,q2,q3⟩;{exact .inl ⟨q1,by simp[Instr.findNow,s1,q2]⟩};{exact .inr ⟨j,v,x,q1,q2,by simp[Instr.findNow,s1,q3]⟩}};{cases hf}
theorem vw {w:lJ} {I:Nat->Prop} {lp:Nat->lT} {L:l7} {kv vv:lK} (hd:Ji d k) (hk:Am w I lp L k kv) (hv:Am w I lp L v vv):∀ (n:Nat) (es:lS) (l:List MapEntry) (i:Nat) (pq:lS),es.length<=n ->
  Ai w I lp L es (FX l)->EP k v es=some pq ->
  (Instr.findNow d kv l i=some none/\∀ b,Ai w I lp L pq (FX (l++[{key:=kv,val:=vv,born:=b}]))) \/
  ∃ j en,Instr.findNow d kv l i=some (some (i+j,en.val))/\l[j]?=some en/\en.key=kv/\Ai w I lp L pq (FX (l.modify j fun e=>{e with key:=kv,val:=vv})):=by
 intro n;induction n with
 | zero =>
  intro es l i pq hn h hf;cases es with
  | cons x es=>simp at hn
  | nil =>
   simp only[EP,il] at hf;subst hf;cases l with
   | nil=>exact .inl ⟨rfl,fun b=>.cons _ _ _ _ hk (.cons _ _ _ _ hv .nil)⟩
   | cons en l=>cases h
 | succ n ih =>
  intro es l i pq hn h hf
  match es,hf,h,hn with
  | [],hf,h,hn =>
   simp only[EP,il] at hf;subst hf;cases l with
   | nil=>exact .inl ⟨rfl,fun b=>.cons _ _ _ _ hk (.cons _ _ _ _ hv .nil)⟩
   | cons en l=>cases h
  | [x],hf,h,hn=>simp[EP] at hf
  | x :: y :: es,hf,h,hn =>
   obtain⟨en,l',rfl,U,H,h3⟩:=Wq h;simp only[EP] at hf;split at hf;{rename_i tB;obtain⟨s1,s2⟩:=QP hd hk U tB;cases hf;refine .inr ⟨0,en,by simp[Instr.findNow,s1],rfl,s2 rfl,?_⟩;rw[List.modify_zero_cons];exact .cons _ _ _ _ hk (.cons _ _ _ _ hv h3)}
   ·rename_i tB;obtain⟨s1,_⟩:=QP hd hk U tB;obtain⟨es2,hes2,rfl⟩:=ij.1 hf;simp only[iM] at hn;rcases ih es l' (i+1) es2 (by omega) h3 hes2 with ⟨q1,q2⟩ | ⟨j,en',q1,q2,q3,q4⟩;{exact .inl ⟨by simp[Instr.findNow,s1,q1],fun b=>.cons _ _ _ _ U (.cons _ _ _ _ H (q2 b))⟩}
    {refine .inr ⟨j+1,en',by simp[Instr.findNow,s1,q1];omega,by simpa using q2,q3,?_⟩;rw[List.modify_succ_cons];exact .cons _ _ _ _ U (.cons _ _ _ _ H q4)}
   {cases hf}
theorem zB {w:lJ} {b:Nat} (hb:w.heap[b]?=some (.map nj clock)) (ob:Obj) :
  (setObj b ob).run P w=.ok () {w with heap:=w.heap.setIfInBounds b ob}:=MapKept.run_setObj_map ob hb
theorem SC {kv:lK} {kk:lN} (hd:Ji d k) {w:lJ} {I:Nat->Prop} {lp:Nat->lT} {L:l7} (hk:Am w I lp L k kv) (hu:P.underlying kt=some d) (b:Bool) (n:Nat) :
  (Instr.checkKey b (n+1) kt kv).run P w'=.ok () w':=by
 unfold Instr.checkKey;simp only[Sem.run_bind,run_underlying hu,Result.andThen];rcases hd with ⟨⟨kk,rfl⟩,j,m,rfl⟩ | ⟨rfl,s,rfl⟩ | ⟨rfl,b,rfl⟩<;>rfl
theorem vx {kv:lK} (hd:Ji d k) {w:lJ} {I:Nat->Prop} {lp:Nat->lT} {L:l7} (hk:Am w I lp L k kv):(Instr.keyThatStays kv kv).run P w'=.ok kv w':=by rcases hd with ⟨⟨kk,rfl⟩,j,m,rfl⟩ | ⟨rfl,s,rfl⟩ | ⟨rfl,b,rfl⟩;{rw[CD hk];simp[Instr.keyThatStays,Instr.sameBits]};{rw[Cu hk];simp[Instr.keyThatStays,Instr.sameBits,MapKept.bytes_beq]};{rw[Fd hk];simp[Instr.keyThatStays,Instr.sameBits]}
theorem ft (σ:List lY) {a b:Nm} (h:a≠b) (o p:Ob):AR (AR σ a o) b p=AR (AR σ b p) a o:=by
 obtain⟨a1,a2⟩:=a;obtain⟨b1,b2⟩:=b;unfold AR;simp only
 by_cases zC:a1=b1
 ·subst zC;have H:a2≠b2:=fun e=>h (by rw[e]);cases hl:σ[a1]? with
  | none=>simp[hl]
  | some l =>
   have mL:=(ix.1 hl).1;simp only[jo mL,List.set_set];rw[jK _ _ H]
 ·cases ha:σ[a1]? with
  | none =>
   cases hb:σ[b1]? with
   | none=>simp[ha,hb]
   | some l' =>
    simp only[hb];rw[iI (iN zC),ha]
  | some l =>
   simp only
   rw[iI zC];cases hb:σ[b1]? with
   | none=>simp[ha]
   | some l' =>
    simp only
    rw[iI (iN zC),ha];simp only
    rw[jK _ _ zC]
mutual
theorem Yf {f:Nm->Option lV}:∀ (x:PV),x.names=[]->x.sub f=x
 | .agg cs,h=>by simp only[PV.sub];rw[OM cs (by simpa[PV.names] using h)]
 | .iface t x,h=>by simp only[PV.sub];rw[Yf x (by simpa[PV.names] using h)]
 | .fn g cap,h=>by simp only[PV.sub];rw[OM cap (by simpa[PV.names] using h)]
 | .mn Z,h=>by simp only[PV.sub];rw[OM Z (by simpa[PV.names] using h)]
 | .undef,_ | .bool _,_ | .int _ _,_ | .str _,_ | .mu,_ | .mJ,_ | .nn,_ | .mB,_ | .ni,_ | .sl _ _ _,_ | .ptr _ _,_ | .mF _,_ | .nb _,_ | .mY _ _,_=>by simp[PV.sub]
 | .ref _ _,h | .my _ _ _ _,h | .arr _ _ _ _,h | .mp _,h | .it _,h=>by simp[PV.names] at h
theorem OM {f:Nm->Option lV}:∀ (Z:lS),Ar Z=[]->AM f Z=Z
 | [],_=>rfl
 | x :: Z,h=>by
  simp only[Ar,kj] at h;simp only[AM];rw[Yf x h.1,OM Z h.2]
end
theorem Yg {Z:lS} (h:Ar Z=[]):AM f Z=Z:=OM Z h
mutual
theorem Tz {σ:Nm->lV}:∀ (x:PV),(x.sub (A7 σ)).names=[]
 | .agg cs=>by simp[PV.sub,PV.names,QD cs]
 | .iface t x=>by simp[PV.sub,PV.names,Tz x]
 | .fn g cap=>by simp[PV.sub,PV.names,QD cap]
 | .mn Z=>by simp[PV.sub,PV.names,QD Z]
 | .undef | .bool _ | .int _ _ | .str _ | .mu | .mJ | .nn | .mB | .ni | .sl _ _ _ | .ptr _ _ | .mF _ | .nb _ | .mY _ _=>by simp[PV.sub,PV.names]
 | .ref J o=>by simp only[PV.sub,A7];cases (σ J).map (FK σ AG) with
  | none=>rfl
  | some ob=>cases ob<;>simp only<;>first | rfl | (split<;>rfl)
 | .my J k i o=>by simp only[PV.sub,A7];cases (σ J).map (FK σ AG) with
  | none=>rfl
  | some ob=>cases ob<;>simp only<;>first | rfl | (split<;>first | rfl | (split<;>first | rfl | (split<;>rfl)))
 | .arr J k o n=>by simp only[PV.sub,A7];cases (σ J).map (FK σ AG) with
  | none=>rfl
  | some ob=>cases ob<;>simp only<;>first | rfl | (split<;>rfl)
 | .mp J=>by simp only[PV.sub,A7];cases (σ J).map (FK σ AG) with
  | none=>rfl
  | some ob=>cases ob<;>rfl
 | .it J=>by simp only[PV.sub,A7];cases (σ J).map (FK σ AG) with
  | none=>rfl
  | some ob=>rfl
theorem QD {σ:Nm->lV}:∀ (Z:lS),Ar (AM (A7 σ) Z)=[]
 | []=>rfl
 | x :: Z=>by simp[AM,Ar,Tz x,QD Z]
end
theorem fc:∀ (n:Nat) (es:lS) {pq:lS},es.length<=n->EP k v es=some pq->k.names=[]->v.names=[]->Ar es=[]->Ar pq=[]:=by
 intro n;induction n with
 | zero =>
  intro es pq hn h hk hv he;cases es with
  | cons x es=>simp at hn
  | nil=>simp only[EP,il] at h;subst h;simp[Ar,hk,hv]
 | succ n ih =>
  intro es pq hn h hk hv he
  match es,hn,h,he with
  | [],_,h,_=>simp only[EP,il] at h;subst h;simp[Ar,hk,hv]
  | [x],_,h,_=>simp[EP] at h
  | a :: u :: es,hn,h,he =>
   simp only[Ar,kj] at he;simp only[EP] at h;split at h;·cases h;simp[Ar,hk,hv,he.2.2]
   {obtain⟨es2,H,rfl⟩:=ij.1 h;simp only[iM] at hn;simp[Ar,he.1,he.2.1,ih es (by omega) H hk hv he.2.2]};{cases h}
theorem gM (hn:J ∉ Rn) (V:St) (es:lS) (he:Ar es=[]):B7 σ Rn {V with mi:=AR V.mi J (.map es)}={B7 σ Rn V with mi:=AR (B7 σ Rn V).mi J (.map es)}:=by
 unfold B7 CF;simp only
 congr 1
 have hA:∀ f:Nm->Option lV,(AR V.mi J (.map es)).map (·.map (Ob.sub f))=AR (V.mi.map (·.map (Ob.sub f))) J (.map es):=by
  intro f;unfold AR;rw[iC];cases hl:V.mi[J.1]? with
  | none=>rfl
  | some l=>simp[kf,Ob.sub,Yg he]
 rw[hA];generalize V.mi.map _=mi;induction Rn generalizing mi with
 | nil=>rfl
 | cons r Rn ih =>
  rw[jy,jy,ft _ (fun e=>hn (by rw[e];exact iw)),ih fun h=>hn (iA _ h)]
theorem ew (hn:J ∉ Rn) (V:St) (he:Ar es=[]) (h:Ac V.mi J=some (.map es)):Ac (B7 σ Rn V).mi J=some (.map es):=by
 unfold B7 CF;simp only
 have h0:Ac (V.mi.map (·.map (Ob.sub fun m=>if Rn.contains m=true then A7 σ m else none))) J=some (.map es):=by rw[Ee,h];simp[Ob.sub,Yg he]
 generalize V.mi.map _=mi at h0;clear h
 have key:∀ (R:lW) (mi:List lY),J ∉ R->Ac mi J=some (.map es)->Ac (R.foldl (fun mi J=>AR mi J AP) mi) J=some (.map es):=by
  intro R;induction R with
  | nil=>intro mi _ h;exact h
  | cons r R ih =>
   intro mi hn h;rw[jy];refine ih _ (fun h=>hn (iA _ h)) ?_;rw[FC _ fun e=>hn (by rw[e];exact iw)];exact h
 exact key Rn mi hn h0
theorem WW (hs:SR lp I L V a.tmps.toList ml w) (hf:Fr cx w0 I0 F0 O0 Hd R e ds I F L w) {t:lP} {x k v:lM} (ho:o.op=.insert t x k v\/o.op=.mapUpdate t x k v) (hu:cx.P.underlying t=some (.map kt et))
  {pq:lS} {kp u:PV} (O:Am w I lp (some L) (.mp J) (a.eval x)) (nq:Ac V.mi J=some (.map es)) (qv:Am w I lp none kp (a.eval k)) (hv':Am w I lp (some L) u (a.eval v)) (c1:GN (DK cx.P kt) kp=true) (qY:EP kp u es=some pq) :
  Bh cx w0 I0 F0 O0 Hd R e ds F lp ml o a w (apply V o.dst {v:=.undef,nf:=some (J,.map pq)}):=by
 obtain⟨d,hd,vy⟩:=QN c1;obtain⟨b,C,hL,qw⟩:=SD O;obtain⟨p,hp,ha⟩:=hs.ob J _ nq;rw[hL] at hp;cases hp;obtain⟨nj,clock,hb,mG⟩:=ha;have hg:(getObj b).run cx.P w=.ok (.map nj clock) w:=by simp[getObj,Sem.run,hb]
 have hwb:∀ (w':lJ) (qm:Obj),w'={w with heap:=w.heap.setIfInBounds b qm}->(∀ b',b'≠b->w'.heap[b']?=w.heap[b']?)/\w'.heap[b]?=some qm/\w'.heap.size=w.heap.size:=by rintro w' qm rfl;obtain⟨q1,q2⟩:=MapKept.heap_set (o':=qm) hb;exact⟨q2,q1,by simp⟩
 have fin:∀ (l':Array MapEntry) (qZ:Nat),Ai w I lp (some L) pq (FX l'.toList)->(Instr.mapUpdate t (a.eval x) (a.eval k) (a.eval v)).run cx.P w=.ok () {w with heap:=w.heap.setIfInBounds b (.map l' qZ)} ->
   Bh cx w0 I0 F0 O0 Hd R e ds F lp ml o a w (apply V o.dst {v:=.undef,nf:=some (J,.map pq)}):=by
  intro l' qZ uO ng;obtain⟨q1,q2,q3⟩:=hwb _ (.map l' qZ) rfl;have uR:∀ b',I b'->({w with heap:=w.heap.setIfInBounds b (.map l' qZ)}:lJ).heap[b']?=w.heap[b']?:=fun b' oT=>q1 b' fun e=>(hf.lB J b C hL).2.2.1 (e ▸ oT)
  exact Pk hs hf hL (w':={w with heap:=w.heap.setIfInBounds b (.map l' qZ)}) (v':=undef) (.inr ⟨by rcases ho with ho | ho<;>simp[execOp,ho,ng],rfl⟩) rfl rfl rfl q3 q1
   ⟨l',qZ,q2,Ai.mono (fun _ h=>h) uR (fun _ _ h=>h) uO⟩ (.undef _)
 rcases vw vy (qv.lift (some L)) hv' es.length es nj.toList 0 pq (ik _) mG qY with ⟨f1,f2⟩ | ⟨j,en,f1,f2,f3,f4⟩
 {refine fin (nj.push {key:=a.eval k,val:=a.eval v,born:=clock}) (clock+1) (by simpa using f2 clock) ?_;simp[Instr.mapUpdate,run_underlying hu,qw,hg,SC (kk:=.i64) vy qv hd,MapKept.run_findKey hd f1,zB hb]}
 ·refine fin (nj.modify j fun e=>{e with key:=a.eval k,val:=a.eval v}) clock (by simpa using f4) ?_;rw[iO] at f1;have hj:nj[j]?=some en:=by simpa using f2
  simp[Instr.mapUpdate,run_underlying hu,qw,hg,SC (kk:=.i64) vy qv hd,MapKept.run_findKey hd f1,zB hb,hj,f3,vx vy qv]
theorem YD (hs:SR lp I L V a.tmps.toList ml w) (hf:Fr cx w0 I0 F0 O0 Hd R e ds I F L w) {t:lP} {x k v:lM} (ho:o.op=.insert t x k v\/o.op=.mapUpdate t x k v) (hu:cx.P.underlying t=some (.map kt et)) {r3:RX}
  (U:rx cx.G x=some r1) (H:rx cx.G k=some r2) (h3:rx cx.G v=some r3)
  (h:exec (o.dst.getD 0) (Ac V.mi) V.tmps (.insert (DK cx.P kt) r1 r2 r3)=some out):Bh cx w0 I0 F0 O0 Hd R e ds F lp ml o a w (apply V o.dst out):=by
 have O:=Be hs hf.wd U;have hk:=Be hs hf.wd H;have hv:=Be hs hf.wd h3;simp only[exec] at h;split at h
 case h_2=>cases h
 rename_i J hr;rw[hr] at O;split at h
 case h_2=>cases h
 rename_i es nq;split at h
 case h_2=>cases h
 rename_i pq qY;obtain⟨hc,h⟩:=AQ h;cases h;simp only[ie] at hc;obtain⟨⟨c1,c2⟩,c3⟩:=hc;have sC:Am w I lp none (r2.ev V.tmps) (a.eval k):=by obtain⟨d,hd,vy⟩:=QN c1;exact hk.shut (Ji.names (d:=d) vy)
 generalize hSd:(if SP (r3.ev V.tmps)=true then [] else (r3.ev V.tmps).names)=S at qY c2 c3;cases hS:S.isEmpty with
 | true =>
  rw[hS] at qY;simp only[lq] at qY;have:=WW hs hf ho hu O nq sC hv c1 qY;simpa[hSd,hS] using this
 | false =>
  rw[hS] at qY c3 c2;simp only[iq,lm,j9,ie,jt] at qY c3 c2;have hSn:S=(r3.ev V.tmps).names:=by rw[<-hSd];split;{rename_i hb;rw[lu hb] at hSd;rw[<-hSd] at hS;simp at hS};{rfl}
  obtain⟨hR,hn,hesn⟩:=c3;have hesn:Ar es=[]:=iS.1 hesn;generalize rP:AI (Ac V.mi) AG S=Rn at hR hn;have hn:J ∉ Rn:=by intro h;rw[jl.2 h] at hn;cases hn
  have yA:=QH hs hR (.cons _ _ _ _ hv .nil) (fun m hm=>by rw[<-rP,hSn];exact DI _ _ m (by simpa[Ar] using hm))
  have qH:Am w (CW I L Rn) lp none ((r3.ev V.tmps).sub (A7 (Ac V.mi))) (a.eval v):=by
   cases yA with
   | cons _ _ _ _ h _=>exact h
  have hx2:Am w (CW I L Rn) lp (some (EJ L Rn)) (.mp J) (a.eval x):=by obtain⟨b,C,hL,qw⟩:=SD O;rw[qw];exact .mp J b C (by simp[EJ,hn,hL])
  have pX:Am w (CW I L Rn) lp none (r2.ev V.tmps) (a.eval k):=Am.mono (fun _ hb=>.inl hb) (fun _ _=>rfl) (fun _ _ h=>h) sC;have hkn:(r2.ev V.tmps).names=[]:=by obtain⟨d,hd,vy⟩:=QN c1;exact Ji.names (d:=d) vy
  have hesn2:Ar pq=[]:=fc _ es (ik _) qY hkn (Tz _) hesn;have:=WW (hs.freeze hR) (hf.freeze Rn) ho hu hx2 (ew hn V hesn nq) pX (qH.lift _) c1 qY
  have mP:Rn≠[]:=by
   intro e0;cases hm:S with
   | nil=>rw[hm] at hS;simp at hS
   | cons m ms =>
    have o6:m∈Rn:=by rw[<-rP];exact DI AG _ m (by rw[hm];exact iw)
    rw[e0] at o6;cases o6
  have e1:apply V o.dst {v:=.undef,nf:=some (J,.map pq),mX:=Rn}=apply (B7 (Ac V.mi) Rn V) o.dst {v:=.undef,nf:=some (J,.map pq)}:=by
   have hfp:=gM (σ:=Ac V.mi) hn V pq hesn2;cases Rn with
   | nil=>exact lH rfl mP
   | cons r rs =>
    simp only[apply,List.isEmpty_cons,iq,lm,jV,lq];rw[hfp]
  simp only[hSd,hS,iq,lm,rP];rw[e1];exact this
theorem vz (hs:SR lp I L V a.tmps.toList ml w) (hf:Fr cx w0 I0 F0 O0 Hd R e ds I F L w) {t:lP} {x k:lM} {ok:Bool} (ho:o.op=.lookup t x k ok) (hu:cx.P.underlying t=some (.map kt et)) (hz:Gg cx.P et=some z) 
  (U:rx cx.G x=some r1) (H:rx cx.G k=some r2)
  (h:exec (o.dst.getD 0) (Ac V.mi) V.tmps (.lookup (DK cx.P kt) z ok r1 r2)=some out):Bh cx w0 I0 F0 O0 Hd R e ds F lp ml o a w (apply V o.dst out):=by
 have O:=Be hs hf.wd U;have hk:=Be hs hf.wd H;obtain⟨zi,zv,hzi,vl,vp⟩:=QO hz (w:=w) (I:=I) (lp:=lp) (L:=some L);simp only[exec] at h;split at h;·cases h
 rename_i es qY;split at h;·cases h
 rename_i r hr;obtain⟨hc,h⟩:=AQ h;cases h;obtain⟨d,hd,vy⟩:=QN hc;have qv:=hk.shut (Ji.names (d:=d) vy);have tF:(zeroValue et).run cx.P w=.ok zv w:=by simp[zeroValue,typeInfo,hzi,vl]
 obtain⟨nj,hents,mG⟩:∃ nj:Array MapEntry,((∃ r clock,a.eval x=.map (some r)/\w.heap[r]?=some (.map nj clock))\/(a.eval x=.map none/\nj=#[]))/\Ai w I lp (some L) es (FX nj.toList):=by
  split at qY
  ·rename_i J hrx;rw[hrx] at O;split at qY
   case h_2=>cases qY
   rename_i es0 nq;cases qY;obtain⟨b,C,hL,qw⟩:=SD O;obtain⟨p,hp,ha⟩:=hs.ob J _ nq;rw[hL] at hp;cases hp;obtain⟨nj,clock,hb,mG⟩:=ha;exact⟨nj,.inl ⟨b,clock,qw,hb⟩,mG⟩
  {rename_i es0 hrx;rw[hrx] at O;cases qY;obtain⟨r,nj,clock,qw,_,hb,mG⟩:=Z1 O;exact⟨nj,.inl ⟨r,clock,qw,hb⟩,mG.lift _⟩};{rename_i hrx;rw[hrx] at O;cases qY;exact⟨#[],.inr ⟨Z0 O,rfl⟩,.nil⟩};{cases qY}
 obtain⟨v,b,hfind,tl,uj⟩:∃ v b,(∃ ans,Instr.findNow d (a.eval k) nj.toList 0=some ans/\((ans=none/\v=zv/\b=false)\/∃ j,ans=some (j,v)/\b=true))/\Am w I lp (some L) (r.getD z) v/\r.isSome=b:=by
  rcases gQ vy qv es.length es nj.toList 0 r (ik _) mG hr with ⟨q1,q2⟩ | ⟨j,v,x,q1,q2,q3⟩
  {subst q1;exact⟨zv,false,⟨_,q2,.inl ⟨rfl,rfl,rfl⟩⟩,vp,rfl⟩};{subst q1;exact⟨v,true,⟨_,q3,.inr ⟨j,rfl,rfl⟩⟩,q2,rfl⟩}
 refine Bo hs hf (v':=if ok then .tuple #[v,.bool b] else v) ?_ (.refl w) ?_
 ·obtain⟨ans,f1,f2⟩:=hfind;rcases hents with ⟨rb,clock,qw,hb⟩ | ⟨qw,rfl⟩
  ·have hg:(getObj rb).run cx.P w=.ok (.map nj clock) w:=by simp[getObj,Sem.run,hb]
   rcases f2 with ⟨rfl,rfl,rfl⟩ | ⟨j,rfl,rfl⟩<;>cases ok <;>
    simp[execOp,ho,Instr.lookup,run_underlying hu,qw,hg,SC (kk:=.i64) vy qv hd,MapKept.run_findKey hd f1,tF]
  ·rcases f2 with ⟨rfl,rfl,rfl⟩ | ⟨j,rfl,rfl⟩<;>cases ok <;>
    simp[execOp,ho,Instr.lookup,run_underlying hu,qw,SC (kk:=.i64) vy qv hd,MapKept.run_findKey hd (l:=[]) f1,tF]
 {cases ok;{simpa using tl};{simp only[lq];exact .mn _ _ (.cons _ _ _ _ tl (.cons _ _ _ _ (by rw[uj];exact .bool b) .nil))}}
theorem op_iter (hs:SR lp I L V a.tmps.toList ml w) (hf:Fr cx w0 I0 F0 O0 Hd R e ds I F L w) {t:lP} {x:lM} (ho:o.op=.range t x) (hu:cx.P.underlying t=some .string) {r:RX} (U:rx cx.G x=some r) {d:Nat} (hd:o.dst=some d) (oi:V.mi[d]?=some [])
  (h:exec (o.dst.getD 0) (Ac V.mi) V.tmps (.iter r)=some out):Bh cx w0 I0 F0 O0 Hd R e ds F lp ml o a w (apply V o.dst out):=by
 have O:=Be hs hf.wd U;simp only[exec,hd,iT] at h;split at h
 case h_2=>cases h
 rename_i s hr;rw[hr] at O;cases h
 have:=RO hs hf hd oi (.refl w) (C:=0) (v:=.it (d,0)) (ob:=.mD s 0) (v':=.pointer (some ⟨w.heap.size,0,none⟩)) (obj:=.stringIter ⟨s.toArray⟩ 0) (by
  simp[execOp,ho,Instr.range,run_underlying hu,Cu O]) (fun L' _=>LI w _) (fun L' hL=>.it _ _ _ hL)
 simpa[hd] using this
theorem op_next (hs:SR lp I L V a.tmps.toList ml w) (hf:Fr cx w0 I0 F0 O0 Hd R e ds I F L w) {x:lM} (ho:o.op=.next x true) {r:RX} (U:rx cx.G x=some r)
  (h:exec (o.dst.getD 0) (Ac V.mi) V.tmps (.next r)=some out):Bh cx w0 I0 F0 O0 Hd R e ds F lp ml o a w (apply V o.dst out):=by
 have O:=Be hs hf.wd U;simp only[exec] at h;split at h
 case h_2=>cases h
 rename_i J hr;rw[hr] at O;split at h
 case h_2=>cases h
 rename_i s pos nq;obtain⟨b,C,hL,qw⟩:=inv_it O;obtain⟨p,hp,ha⟩:=hs.ob J _ nq;rw[hL] at hp;cases hp;have hb:w.heap[b]?=some (.stringIter ⟨s.toArray⟩ pos):=ha;have hg:(getObj b).run cx.P w=.ok (.stringIter ⟨s.toArray⟩ pos) w:=by simp[getObj,Sem.run,hb]
 have hz:(⟨s.toArray⟩:ByteArray).size=s.length:=by simp[ByteArray.size]
 split at h
 ·rename_i mL;cases h;have sO:∀ qm,(setObj b qm).run cx.P w=.ok () {w with heap:=w.heap.setIfInBounds b qm}:=fun qm=>by simp[setObj,Sem.run,hb]
  obtain⟨q1,q2⟩:=MapKept.heap_set (o':=.stringIter ⟨s.toArray⟩ (pos+(Utf8.decode ⟨s.toArray⟩ pos).2)) hb
  refine Pk hs hf hL (v':=.tuple #[.bool true,.int .i64 pos,.int .i32 (Utf8.decode ⟨s.toArray⟩ pos).1]) (w':={w with heap:=w.heap.setIfInBounds b (.stringIter ⟨s.toArray⟩ (pos+(Utf8.decode ⟨s.toArray⟩ pos).2))})
   (.inl ?_) rfl rfl rfl (by simp) q2 q1 (.mn _ _ (.cons _ _ _ _ (.bool _) (.cons _ _ _ _ (.int _ _) (.cons _ _ _ _ (.int _ _) .nil))))
  have oj:pos < (⟨s.toArray⟩:ByteArray).size:=by rw[hz];exact mL
  simp only[execOp,ho,qw,Instr.next,Sem.run_bind,hg,Result.andThen_ok,lu oj,sO,Sem.run_pure,goInt]
 ·rename_i mL;cases h;have oj:¬ pos < (⟨s.toArray⟩:ByteArray).size:=by rw[hz];exact mL
  refine Bo hs hf (v':=.tuple #[.bool false]) ?_ (.refl w) (.mn _ _ (.cons _ _ _ _ (.bool _) .nil));simp only[execOp,ho,qw,Instr.next,Sem.run_bind,hg,Result.andThen_ok,lr oj,Sem.run_pure]
theorem fz (hs:SR lp I L V a.tmps.toList ml w) (hf:Fr cx w0 I0 F0 O0 Hd R e ds I F L w) {x:lM} {t0 t:lP} {ok:Bool} (ho:o.op=.typeAssert x t0 t ok) {d:lR} (hu:cx.P.underlying t=some d) (hd:∀ ms,d≠.interface ms) (hz:Gg cx.P t=some z)
  {r:RX} (U:rx cx.G x=some r) (h:exec (o.dst.getD 0) (Ac V.mi) V.tmps (.nJ t z ok r)=some out):Bh cx w0 I0 F0 O0 Hd R e ds F lp ml o a w (apply V o.dst out):=by
 have O:=Be hs hf.wd U;obtain⟨zi,zv,hzi,vl,vp⟩:=QO hz (w:=w) (I:=I) (lp:=lp) (L:=some L);have tF:(zeroValue t).run cx.P w=.ok zv w:=by simp[zeroValue,typeInfo,hzi,vl]
 simp only[exec] at h;split at h
 ·rename_i u y hr;rw[hr] at O;obtain⟨yv,qw,hy⟩:=Kj O;split at h
  ·rename_i hut;subst hut;cases h;refine Bo hs hf (v':=if ok then .tuple #[yv,.bool true] else yv) ?_ (.refl w) ?_
   ·cases d<;>first
     | exact lH rfl (hd _)
     |(cases ok<;>simp[execOp,ho,qw,Instr.typeAssert,run_underlying hu])
   {cases ok;{simpa using hy};{exact .mn _ _ (.cons _ _ _ _ hy (.cons _ _ _ _ (.bool _) .nil))}}
  ·rename_i hut;obtain⟨hk,h⟩:=AQ h;subst hk;cases h;refine Bo hs hf (v':=.tuple #[zv,.bool false]) ?_ (.refl w) (.mn _ _ (.cons _ _ _ _ vp (.cons _ _ _ _ (.bool _) .nil)))
   cases d<;>first
    | exact lH rfl (hd _)
    | simp[execOp,ho,qw,Instr.typeAssert,run_underlying hu,hut,tF]
 ·rename_i hr;rw[hr] at O;have qw:=Is O;obtain⟨hk,h⟩:=AQ h;subst hk;cases h;refine Bo hs hf (v':=.tuple #[zv,.bool false]) ?_ (.refl w) (.mn _ _ (.cons _ _ _ _ vp (.cons _ _ _ _ (.bool _) .nil)))
  cases d<;>first
   | exact lH rfl (hd _)
   | simp[execOp,ho,qw,Instr.typeAssert,run_underlying hu,tF]
 {cases h}
end ops
end Go.Ab


namespace Go.Ab
variable{b pU:Bool} {fl:lP} {i:Nat} {k:lN} {op:BinOp} {v:lK} {w':lJ} {x:lM}
theorem eU:∀ (x y:l4),L6 x y=Op.bytesLess x y:=by
 intro x;induction x with
 | nil=>intro y;cases y<;>rfl
 | cons a x ih=>intro y;cases y with
  | nil=>rfl
  | cons b y=>simp only[L6,Op.bytesLess,ih]
theorem eJ (P:lO) (t:lP):match DK P t with
  | .num=>∃ k,P.underlying t=some (.int k)
  | .str=>P.underlying t=some .string
  | .bool=>P.underlying t=some .bool
  | .iface=>∃ ms,P.underlying t=some (.interface ms)
  | .slice=>∃ e,P.underlying t=some (.slice e)
  | .map=>∃ k e,P.underlying t=some (.map k e)
  | .func=>∃ a b c,P.underlying t=some (.func a b c)
  | .ptr=>∃ e,P.underlying t=some (.pointer e)
  | .plain l=>∃ fs,P.underlying t=some (.struct fs)/\L7 P 0 fs.toList=some l/\P.stoodInHeld t=false/\P.eqGuardType P.depth t=false
  | .other=>True:=by
 cases hu:P.underlying t with
 | none=>simp[DK,hu]
 | some d =>
  cases d with
  | struct fs =>
   simp only[DK,hu];cases hp:L7 P 0 fs.toList with
   | none=>trivial
   | some l =>
    simp only
    by_cases hc:P.stoodInHeld t=false/\P.eqGuardType P.depth t=false;{rw[lu hc];exact⟨fs,rfl,hp,hc.1,hc.2⟩};{rw[lr hc];trivial}
  | _=>simp[DK,hu]
section eqs
variable {P:lO} {w:lJ} (d:Nat) {t:lP}
theorem eqIn_ii {ms} (hu:P.underlying t=some (.interface ms)):(Op.equalIn (d+1) t .nilIface .nilIface).run P w=.ok true w:=by simp[Op.equalIn,run_underlying hu]
theorem bC {ms} (hu:P.underlying t=some (.interface ms)) (u:lP) (v:lK):(Op.equalIn (d+1) t .nilIface (.iface u v)).run P w=.ok false w:=by simp[Op.equalIn,run_underlying hu]
theorem bz {ms} (hu:P.underlying t=some (.interface ms)) (u:lP) (v:lK):(Op.equalIn (d+1) t (.iface u v) .nilIface).run P w=.ok false w:=by simp[Op.equalIn,run_underlying hu]
theorem eqIn_ff {x y z} (hu:P.underlying t=some (.func x y z)):(Op.equalIn (d+1) t .nilFunc .nilFunc).run P w=.ok true w:=by simp[Op.equalIn,run_underlying hu]
theorem eqIn_fv {x y z} (hu:P.underlying t=some (.func x y z)) (f:Fn) (u v:Array lK):(Op.equalIn (d+1) t .nilFunc (.func f u v)).run P w=.ok false w:=by simp[Op.equalIn,run_underlying hu]
theorem eqIn_vf {x y z} (hu:P.underlying t=some (.func x y z)) (f:Fn) (u v:Array lK):(Op.equalIn (d+1) t (.func f u v) .nilFunc).run P w=.ok false w:=by simp[Op.equalIn,run_underlying hu]
theorem bB {e} (hu:P.underlying t=some (.slice e)) (b:Option Addr) (n c:Nat):(Op.equalIn (d+1) t (.slice none 0 0) (.slice b n c)).run P w=.ok b.isNone w:=by simp[Op.equalIn,run_underlying hu]
theorem eqIn_sn {e} (hu:P.underlying t=some (.slice e)) (b:Addr) (n c:Nat):(Op.equalIn (d+1) t (.slice (some b) n c) (.slice none 0 0)).run P w=.ok false w:=by simp[Op.equalIn,run_underlying hu]
theorem VA {e} (hu:P.underlying t=some (.pointer e)) (b:Option Addr):(Op.equalIn (d+1) t (.pointer none) (.pointer b)).run P w=.ok b.isNone w:=by simp[Op.equalIn,run_underlying hu]
theorem bA {e} (hu:P.underlying t=some (.pointer e)) (b:Addr):(Op.equalIn (d+1) t (.pointer (some b)) (.pointer none)).run P w=.ok false w:=by simp[Op.equalIn,run_underlying hu]
theorem bD (hu:P.underlying t=some .bool) (a b:Bool):(Op.equalIn (d+1) t (.bool a) (.bool b)).run P w=.ok (a==b) w:=by simp[Op.equalIn,run_underlying hu]
end eqs
theorem ZI {P:lO} {w:lJ} {t:lP} (ha:(isAgg t).run P w=.ok false w) {Z:Array lK} (h:Z[i]?=some v):(part t Z i).run P w=.ok v w:=by unfold part;simp[ha,h]
theorem YW {P:lO} {w:lJ} {t:lP} {d:lR} (hu:P.underlying t=some d) (hd:MP d=false):(isAgg t).run P w=.ok false w:=by cases d<;>simp[MP] at hd<;>simp[isAgg,run_underlying hu]
theorem dN {P:lO} {w:lJ} {I:Nat->Prop} {lp:Nat->lT} {L:l7} {xv yv:Array lK} (d:Nat):∀ (fs:List Field) (i:Nat) (l:lU) (Z ys:lS) (b:Bool),L7 P i fs=some l->Jy l Z ys=some b ->
  Ai w I lp L Z (xv.toList.drop i)->Ai w I lp L ys (yv.toList.drop i)->(Op.eqFields (d+1) xv yv fs).run P w'=.ok b w':=by
 intro fs;induction fs with
 | nil =>
  intro i l Z ys b hp he _ _;cases hp;cases Z<;>cases ys<;>simp[Jy] at he;subst he;simp[Op.eqFields]
 | cons f fs ih =>
  intro i l Z ys b hp he O hy;unfold L7 at hp;split at hp
  case isFalse=>cases hp
  rename_i hf;obtain⟨pz,sP⟩:=hf
  have zD:∀ {zs:lS} {zv:Array lK} {z:PV} {zs':lS},zs=z :: zs'->Ai w I lp L zs (zv.toList.drop i)->∃ v,zv[i]?=some v/\Am w I lp L z v/\Ai w I lp L zs' (zv.toList.drop (i+1)):=by
   intro zs zv z zs' hz hr;subst hz;cases hd:zv.toList.drop i with
   | nil=>rw[hd] at hr;cases hr
   | cons v A =>
    rw[hd] at hr;cases hr with
    | cons _ _ _ _ U H =>
     have e1:zv.toList[i]?=some v:=by have:=lD (·[0]?) hd;simpa using this
     refine⟨v,by simpa using e1,U,?_⟩;have e2:zv.toList.drop (i+1)=A:=by have:=lD (List.drop 1) hd;simpa using this
     rw[e2];exact H
  have hnm':f.name ≠ "_":=sP
  have step:∀ {v u:lK} {r:Bool} {dsc:lR},P.underlying f.type=some dsc->MP dsc=false->xv[i]?=some v->yv[i]?=some u->(Op.equalIn (d+1) f.type v u).run P w'=.ok r w' ->
    (Op.eqFields (d+1) xv yv (f :: fs)).run P w'=if r=true then (Op.eqFields (d+1) xv yv fs).run P w' else .ok false w':=by
   intro v u r dsc hu hd U H h3;simp only[Op.eqFields,hnm',ne_eq,lG,lq,Sem.run_bind,pz,ZI (YW hu hd) U,ZI (YW hu hd) H,h3,Result.andThen_ok];cases r<;>simp
  cases hu:P.underlying f.type with
  | none=>simp[hu] at hp
  | some dsc =>
   cases hq:L7 P (i+1) fs with
   | none=>cases dsc<;>simp[hu,hq] at hp
   | some l' =>
    cases dsc<;>simp[hu,hq] at hp
    all_goals subst hp
    all_goals cases Z with
     | nil=>simp[Jy] at he
     | cons x Z=>?_
    all_goals cases ys with
     | nil=>cases x<;>simp[Jy] at he
     | cons y ys=>?_
    all_goals cases x<;>cases y<;>simp only[Jy,reduceCtorEq] at he
    all_goals obtain⟨v,hv,hvr,p9⟩:=zD rfl O
    all_goals obtain⟨u,oC,hur,vA⟩:=zD rfl hy
    {rw[Fd hvr] at hv;rw[Fd hur] at oC;rw[step hu rfl hv oC (bD d hu _ _)];split at he;{rename_i sQ;rw[lu sQ];exact ih _ _ _ _ _ hq he p9 vA};{rename_i sQ;cases he;rw[lr (by rw[sQ];simp)]}};{obtain⟨hk,uS⟩:=AQ he;clear he;rw[CD hvr] at hv;rw[CD hur] at oC;have qv:=eq_of_beq hk;subst qv;rw[step hu rfl hv oC (run_equalIn_int w' d _ _ _ _ _ hu)];split at uS;{rename_i sQ;rw[lu sQ];exact ih _ _ _ _ _ hq uS p9 vA};{rename_i sQ;cases uS;rw[lr (by rw[sQ];simp)]}};{rw[Cu hvr] at hv;rw[Cu hur] at oC;rw[step hu rfl hv oC (run_equalIn_string w' d _ _ _ hu)];simp only[ByteArray.toList_eq] at he |-;split at he;{rename_i sQ;rw[lu (by simpa using sQ)];exact ih _ _ _ _ _ hq he p9 vA};{rename_i sQ;cases he;rw[lr (by simpa using sQ)]}}
section ops
variable {E:Type} {cx:Cx} {w0:lJ} {I0 F0:Nat->Prop} {O0:BE} {Hd:Nat->Option Obj} {R:Bs E} {e:E} {ds:List lQ} {F:Nat->Prop} {lp:Nat->lT} {ml:List lK}
variable {I:Nat->Prop} {L:As} {V:St} {a:Act} {w:lJ} {o:Oper} {out:Al} {r9:An}
theorem bl (h:isC x=true):∃ v,x=.const v:=by cases x<;>simp[isC] at h;exact⟨_,rfl⟩
theorem bx {P:lO} {w:lJ} {I:Nat->Prop} {lp:Nat->lT} {L:As} {t:lP} {X Y:lM} {x y:PV} {xv yv:lK} (O:Am w I lp (some L) x xv) (hy:Am w I lp (some L) y yv) 
  (hc:pU=true->(isC X||isC Y)=true) (h:Li (DK P t) pU x y=some b) (op:BinOp) :
  (Op.equal t xv yv).run P w'=.ok b w'/\(eqGuard op t X Y xv yv).run P w'=.ok () w'/\binOp .eql t xv yv=(do pure (.bool (<-Op.equal t xv yv)))/\binOp .neq t xv yv=(do pure (.bool (!(<-Op.equal t xv yv)))):=by
 have hu:=eJ P t;generalize oi:DK P t=c at h hu;unfold Li at h;split at h
 all_goals first
  | contradiction
  | skip
 ·obtain⟨ms,hu⟩:=hu;obtain⟨oJ,h⟩:=AQ h;cases h;rw[Is O,Is hy];refine⟨?_,?_,by simp[binOp],by simp[binOp]⟩;{exact eqIn_ii 9999 hu}
  ·rcases jW.1 (hc oJ) with h | h
   {obtain⟨v,rfl⟩:=bl h;rw[eqGuard_nil_constL];rfl};{obtain⟨v,rfl⟩:=bl h;rw[eqGuard_nil_constR];rfl}
 {obtain⟨ms,hu⟩:=hu;cases h;obtain⟨yv',rfl,_⟩:=Kj hy;rw[Is O];refine⟨?_,by rw[eqGuard_nil_iface];rfl,by simp[binOp],by simp[binOp]⟩;exact bC 9999 hu _ _};{obtain⟨ms,hu⟩:=hu;cases h;obtain⟨xv',rfl,_⟩:=Kj O;rw[Is hy];refine⟨?_,by rw[eqGuard_at_iface];rfl,by simp[binOp],by simp[binOp]⟩;exact bz 9999 hu _ _};{obtain⟨ms,hu⟩:=hu;cases h;obtain⟨yv',rfl,_⟩:=Z2 hy;rw[Is O];refine⟨?_,by rw[eqGuard_nil_iface];rfl,by simp[binOp],by simp[binOp]⟩;exact bC 9999 hu _ _};{obtain⟨ms,hu⟩:=hu;cases h;obtain⟨xv',rfl,_⟩:=Z2 O;rw[Is hy];refine⟨?_,by rw[eqGuard_at_iface];rfl,by simp[binOp],by simp[binOp]⟩;exact bz 9999 hu _ _};{obtain⟨_,_,_,hu⟩:=hu;cases h;rw[RJ O,RJ hy];refine⟨?_,by rw[eqGuard_at_nilFunc];rfl,by simp[binOp],by simp[binOp]⟩;exact eqIn_ff 9999 hu};{obtain⟨_,_,_,hu⟩:=hu;cases h;obtain⟨us,A,rfl,_,_⟩:=KO hy;rw[RJ O];refine⟨?_,by rw[eqGuard_at_nilFunc];rfl,by simp[binOp],by simp[binOp]⟩;exact eqIn_fv 9999 hu _ _ _};{obtain⟨_,_,_,hu⟩:=hu;cases h;obtain⟨us,A,rfl,_,_⟩:=KO O;rw[RJ hy];refine⟨?_,by rw[eqGuard_at_func];rfl,by simp[binOp],by simp[binOp]⟩;exact eqIn_vf 9999 hu _ _ _};{obtain⟨_,hu⟩:=hu;cases h;rw[GF O,GF hy];refine⟨?_,by rw[eqGuard_at_slice];rfl,by simp[binOp],by simp[binOp]⟩;exact bB 9999 hu _ _ _}
 ·obtain⟨_,hu⟩:=hu;cases h;rw[GF O];rcases IE hy with ⟨b,off,cap,c,E',fr,rfl,_⟩ | ⟨hn,_⟩
  {refine⟨?_,by rw[eqGuard_at_slice];rfl,by simp[binOp],by simp[binOp]⟩;exact bB 9999 hu _ _ _};{simp at hn}
 ·obtain⟨_,hu⟩:=hu;cases h;rw[GF hy];rcases IE O with ⟨b,off,cap,c,E',fr,rfl,_⟩ | ⟨hn,_⟩
  {refine⟨?_,by rw[eqGuard_at_slice];rfl,by simp[binOp],by simp[binOp]⟩;exact eqIn_sn 9999 hu _ _ _};{simp at hn}
 {obtain⟨_,hu⟩:=hu;cases h;rw[L4 O,L4 hy];refine⟨?_,by rw[eqGuard_at_pointer];rfl,by simp[binOp],by simp[binOp]⟩;exact VA 9999 hu _};{obtain⟨_,hu⟩:=hu;cases h;obtain⟨b,C,hL,rfl⟩:=FJ hy;rw[L4 O];refine⟨?_,by rw[eqGuard_at_pointer];rfl,by simp[binOp],by simp[binOp]⟩;exact VA 9999 hu _};{obtain⟨_,hu⟩:=hu;cases h;obtain⟨b,tA,c,E',fr,rfl,_⟩:=Nx hy;rw[L4 O];refine⟨?_,by rw[eqGuard_at_pointer];rfl,by simp[binOp],by simp[binOp]⟩;exact VA 9999 hu _};{obtain⟨_,hu⟩:=hu;cases h;obtain⟨b,C,hL,rfl⟩:=FJ O;rw[L4 hy];refine⟨?_,by rw[eqGuard_at_pointer];rfl,by simp[binOp],by simp[binOp]⟩;exact bA 9999 hu _};{obtain⟨_,hu⟩:=hu;cases h;obtain⟨b,tA,c,E',fr,rfl,_⟩:=Nx O;rw[L4 hy];refine⟨?_,by rw[eqGuard_at_pointer];rfl,by simp[binOp],by simp[binOp]⟩;exact bA 9999 hu _};{cases h;rw[Fd O,Fd hy];refine⟨?_,by rw[eqGuard_at_bool];rfl,by simp[binOp],by simp[binOp]⟩;exact bD 9999 hu _ _}
 ·obtain⟨fs,hu,hp,nK,hgt⟩:=hu;obtain⟨us,rfl,_,zE⟩:=Ny O;obtain⟨A,rfl,_,hyr⟩:=Ny hy;refine⟨?_,run_eqGuard_agg w' op t X Y us A hgt,by simp[binOp],by simp[binOp]⟩;have hfs:P.fieldsOf t=fs:=by simp[Program.fieldsOf,hu]
  show (Op.equalIn (9999+1) t (.agg us) (.agg A)).run P w'=_;rw[run_equalIn_struct w' 9999 t us A (by rw[hfs];exact hu) nK,hfs];exact dN 9998 fs.toList 0 _ _ _ b hp h (by simpa using zE) (by simpa using hyr)
theorem hJ {P:lO} {w:lJ} {x y:Int} {t:lP} {v:PV} (qk:op≠.shl/\op≠.shr) (h:Fj op k x y=some v) :
  ∃ u,(binOp op t (.int k x) (.int k y)).run P w=.ok u w/\∀ (w:lJ) (I:Nat->Prop) (lp:Nat->lT) (L:l7),Am w I lp L v u:=by
 have ari:∀ op,(op=.add\/op=.sub\/op=.mul)->binOp op t (.int k x) (.int k y)=Op.intArith op k x y:=by rintro op (rfl | rfl | rfl)<;>simp[binOp]
 have bits:∀ op,(op=.and\/op=.or\/op=.xor\/op=.andNot)->binOp op t (.int k x) (.int k y)=Op.intBits op k x y:=by rintro op (rfl | rfl | rfl | rfl)<;>simp[binOp]
 have cmp:∀ op,(op=.eql\/op=.neq\/op=.lss\/op=.leq\/op=.gtr\/op=.geq)->binOp op t (.int k x) (.int k y)=Op.intCmp op x y:=by rintro op (rfl | rfl | rfl | rfl | rfl | rfl)<;>simp[binOp]
 cases op<;>simp only[Fj,KT,iu,jL] at h
 case quo =>
  obtain⟨hk,h⟩:=AQ h;cases h;have:¬ y=0:=by simpa using hk
  exact⟨_,by simp[binOp,Op.intDiv,this],fun _ _ _ _=>.int _ _⟩
 case rem =>
  obtain⟨hk,h⟩:=AQ h;cases h;have:¬ y=0:=by simpa using hk
  exact⟨_,by simp[binOp,Op.intDiv,this],fun _ _ _ _=>.int _ _⟩
 case shl=>exact lH rfl qk.1
 case shr=>exact lH rfl qk.2
 case add=>cases h;rw[ari _ (by simp)];exact⟨_,rfl,fun _ _ _ _=>.int _ _⟩
 case sub=>cases h;rw[ari _ (by simp)];exact⟨_,rfl,fun _ _ _ _=>.int _ _⟩
 case mul=>cases h;rw[ari _ (by simp)];exact⟨_,rfl,fun _ _ _ _=>.int _ _⟩
 case and=>cases h;rw[bits _ (by simp)];exact⟨_,rfl,fun _ _ _ _=>.int _ _⟩
 case or=>cases h;rw[bits _ (by simp)];exact⟨_,rfl,fun _ _ _ _=>.int _ _⟩
 case xor=>cases h;rw[bits _ (by simp)];exact⟨_,rfl,fun _ _ _ _=>.int _ _⟩
 case andNot=>cases h;rw[bits _ (by simp)];exact⟨_,rfl,fun _ _ _ _=>.int _ _⟩
 case eql=>cases h;rw[cmp _ (by simp)];exact⟨_,rfl,fun _ _ _ _=>.bool _⟩
 case neq=>cases h;rw[cmp _ (by simp)];exact⟨_,rfl,fun _ _ _ _=>.bool _⟩
 case lss=>cases h;rw[cmp _ (by simp)];exact⟨_,rfl,fun _ _ _ _=>.bool _⟩
 case leq=>cases h;rw[cmp _ (by simp)];exact⟨_,rfl,fun _ _ _ _=>.bool _⟩
 case gtr=>cases h;rw[cmp _ (by simp)];exact⟨_,rfl,fun _ _ _ _=>.bool _⟩
 case geq=>cases h;rw[cmp _ (by simp)];exact⟨_,rfl,fun _ _ _ _=>.bool _⟩
theorem hH {P:lO} {w:lJ} {x y:l4} {t:lP} {v:PV} (h:KX op x y=some v) :
  ∃ u,(binOp op t (.string ⟨x.toArray⟩) (.string ⟨y.toArray⟩)).run P w=.ok u w/\∀ (w:lJ) (I:Nat->Prop) (lp:Nat->lT) (L:l7),Am w I lp L v u:=by
 have hb:∀ op,binOp op t (.string ⟨x.toArray⟩) (.string ⟨y.toArray⟩)=Op.stringOp op ⟨x.toArray⟩ ⟨y.toArray⟩:=fun op=>by cases op<;>simp[binOp]
 rw[hb];cases op<;>simp only[KX] at h
 case add =>
  obtain⟨hk,h⟩:=AQ h;cases h;have hk:=lI hk;unfold PP at hk;refine⟨.string ⟨(x++y).toArray⟩,?_,fun _ _ _ _=>.str _⟩;rw[run_string_add_sum (P:=P) (w:=w) ⟨x.toArray⟩ ⟨y.toArray⟩ (by simpa[ByteArray.size] using hk),ByteArray.mk_append_mk]
 all_goals first
  |(cases h;exact⟨_,by simp only[Op.stringOp,ByteArray.toList_mk,eU];rfl,fun _ _ _ _=>.bool _⟩)
  |(simp at h)
theorem op_bin (hs:SR lp I L V a.tmps.toList ml w) (hf:Fr cx w0 I0 F0 O0 Hd R e ds I F L w) {t:lP} {x y:lM} (ho:o.op=.binOp op t x y fl) {r1 r2:RX} (U:rx cx.G x=some r1) (H:rx cx.G y=some r2)
  (h:exec (o.dst.getD 0) (Ac V.mi) V.tmps (.bin op (DK cx.P t) (isC x||isC y) r1 r2)=some out):Bh cx w0 I0 F0 O0 Hd R e ds F lp ml o a w (apply V o.dst out):=by
 have O:=Be hs hf.wd U;have hy:=Be hs hf.wd H;simp only[exec] at h;obtain⟨v,hv,rfl⟩:=ij.1 h
 suffices hsuf:∃ u,(do eqGuard op t x y (a.eval x) (a.eval y);binOp op t (a.eval x) (a.eval y):Sem lK).run cx.P w=.ok u w/\Am w I lp (some L) v u by
  obtain⟨u,g1,g2⟩:=hsuf;refine Bo hs hf (v':=u) ?_ (.refl w) g2;simp only[execOp,ho];rw[Sem.run_bind,g1];rfl
 unfold DF at hv;split at hv;{rename_i k n k' m yB rH;rw[yB] at O;rw[rH] at hy;rw[CD O,CD hy,eqGuard_at_int];split at hv;{obtain⟨hk,qH⟩:=AQ hv;cases qH;have hk:=lI hk;refine⟨_,?_,.int _ _⟩;simp[binOp,Op.shift,show ¬ m < 0 by omega]};{obtain⟨hk,qH⟩:=AQ hv;cases qH;have hk:=lI hk;refine⟨_,?_,.int _ _⟩;simp[binOp,Op.shift,show ¬ m < 0 by omega]};{rename_i n1 n2;obtain⟨hk,qH⟩:=AQ hv;have hk:=beq_iff_eq.1 hk;subst hk;obtain⟨u,g1,g2⟩:=hJ (P:=cx.P) (w:=w) (t:=t) ⟨fun e=>n1 e,fun e=>n2 e⟩ qH;exact⟨u,by simpa using g1,g2 _ _ _ _⟩}};{rename_i s1 s2 yB rH;rw[yB] at O;rw[rH] at hy;rw[Cu O,Cu hy,eqGuard_at_string];obtain⟨u,g1,g2⟩:=hH (P:=cx.P) (w:=w) (t:=t) hv;exact⟨u,by simpa using g1,g2 _ _ _ _⟩};{split at hv;{obtain⟨b,hb,rfl⟩:=ij.1 hv;obtain⟨g1,g2,g3,_⟩:=bx (w':=w) (X:=x) (Y:=y) O hy (fun h=>h) hb .eql;exact⟨.bool b,by simp[g2,g3,g1],.bool b⟩};{obtain⟨b,hb,rfl⟩:=ij.1 hv;obtain⟨g1,g2,_,g3⟩:=bx (w':=w) (X:=x) (Y:=y) O hy (fun h=>h) hb .neq;exact⟨.bool (!b),by simp[g2,g3,g1],.bool _⟩};{cases hv}}
end ops
end Go.Ab


namespace Go.Ab
variable{α:Type} {G:EO} {r1:RX} {l:List α}
theorem aM {Z:List lM} {r2:RX} (h:DT G Z=some [r1,r2]):∃ x y,Z=[x,y]/\rx G x=some r1/\rx G y=some r2:=by
 match Z,h with
 | [],h=>simp[DT] at h
 | [x],h=>simp only[DT] at h;split at h<;>simp_all
 | [x,y],h =>
  simp only[DT] at h;split at h;{rename_i a b U H;split at H;{rename_i a' b' h3 h4;cases h4;cases H;cases h;exact⟨x,y,rfl,U,h3⟩};{cases H}};{cases h}
 | x :: y :: z :: zs,h =>
  simp only[DT] at h;split at h
  ·rename_i a b U H;split at H
   ·rename_i a' b' h3 h4;split at h4;·cases h4;cases H;cases h
    {cases h4}
   {cases H}
  {cases h}
theorem rxs_one {Z:List lM} (h:DT G Z=some [r1]):∃ x,Z=[x]/\rx G x=some r1:=by
 match Z,h with
 | [],h=>simp[DT] at h
 | [x],h=>simp only[DT] at h;split at h<;>simp_all
 | x :: y :: zs,h =>
  simp only[DT] at h;split at h
  ·rename_i a b U H;split at H;·cases H;cases h
   {cases H}
  {cases h}
theorem TT {Z:Array α} (h:Z.toList=l):Z=l.toArray:=by rw[<-h,jx]
section ops
variable {E:Type} {cx:Cx} {w0:lJ} {I0 F0:Nat->Prop} {O0:BE} {Hd:Nat->Option Obj} {R:Bs E} {e:E} {ds:List lQ} {F:Nat->Prop} {lp:Nat->lT} {ml:List lK}
variable {I:Nat->Prop} {L:As} {V:St} {a:Act} {w:lJ} {o:Oper} {out:Al} {r9:An}
theorem vB (hs:SR lp I L V a.tmps.toList ml w) (hf:Fr cx w0 I0 F0 O0 Hd R e ds I F L w) (hc:BH cx.P cx.G o=some r9) (hm:DO r9=true->∃ d,o.dst=some d/\V.mi[d]?=some [])
  (hn:C4 r9=false) (h:exec (o.dst.getD 0) (Ac V.mi) V.tmps r9=some out):Bh cx w0 I0 F0 O0 Hd R e ds F lp ml o a w (apply V o.dst out):=by
 cases ho:o.op with
 | move x =>
  simp only[BH,ho,ij] at hc;obtain⟨r,hr,rfl⟩:=hc;cases h;exact zc hs hf (.inl ho) hr
 | assign x =>
  simp only[BH,ho,ij] at hc;obtain⟨r,hr,rfl⟩:=hc;cases h;exact zc hs hf (.inr ho) hr
 | pick c x y =>
  simp only[BH,ho] at hc;split at hc;{rename_i c' x' y' U H h3;cases hc;exact op_pick hs hf ho U H h3 h};{cases hc}
 | alloc t =>
  simp only[BH,ho] at hc;split at hc;{rename_i z hz;cases hc;obtain⟨d,hd,oi⟩:=hm rfl;simp only[exec,hd,iT] at h;cases h;have:=zf hs hf ho hz hd oi;simpa[hd] using this};{cases hc}
 | box t x =>
  simp only[BH,ho,ij] at hc;obtain⟨r,hr,rfl⟩:=hc;obtain⟨d,hd,oi⟩:=hm rfl;exact op_box hs hf ho hr hd oi h
 | build t ps =>
  simp only[BH,ho] at hc;split at hc;{rename_i fs z hu hz;split at hc;{rename_i rs uj;split at hc;{rename_i hfs;cases hc;exact zk hs hf ho hu hz hfs uj h};{cases hc}};{cases hc}};{cases hc}
 | buildSlice t len ps =>
  simp only[BH,ho] at hc;split at hc;{rename_i k sE z rs he uj;split at hc;{rename_i hl;cases hc;obtain⟨d,hd,oi⟩:=hm rfl;exact op_mkSl hs hf ho he uj hl.1 hl.2 hd oi h};{cases hc}};{cases hc}
 | load t x =>
  simp only[BH,ho] at hc;split at hc;{rename_i n ag r oD hr;cases hc;exact op_load hs hf ho oD hr h};{cases hc}
 | store t x y =>
  simp only[BH,ho] at hc;split at hc;{rename_i n ag r s oD hr nT;cases hc;exact zd hs hf ho oD hr nT h};{cases hc}
 | nilCheck x =>
  simp only[BH,ho,ij] at hc;obtain⟨r,hr,rfl⟩:=hc;exact zg hs hf ho hr h
 | binOp op t x y yt =>
  simp only[BH,ho] at hc;split at hc;{rename_i r s hr nT;cases hc;exact op_bin hs hf ho hr nT h};{cases hc}
 | unOp op t x =>
  simp only[BH,ho,ij] at hc;obtain⟨r,hr,rfl⟩:=hc;exact op_un hs hf ho hr h
 | convert src dst x =>
  simp only[BH,ho] at hc;split at hc;{rename_i k0 k r sD oU hr;cases hc;exact op_conv hs hf ho hr sD oU h};{rename_i k0 r sD oU hr;cases hc;exact vm hs hf ho hr sD oU h};{rename_i r sD oU hr;cases hc;exact zh hs hf ho hr sD oU h};{rename_i el r sD oU hr;split at hc;{rename_i hu3;cases hc;exact fy hs hf ho hr sD oU hu3 h};{cases hc}};{rename_i el r sD oU hr;split at hc;{rename_i hu3;cases hc;exact fA hs hf ho hr sD oU hu3 h};{cases hc}};{cases hc}
 | makeInterface t x =>
  simp only[BH,ho] at hc;split at hc;·cases hc
  {rename_i d pj hu;obtain⟨r,hr,rfl⟩:=ij.1 hc;cases h;exact op_mkI hs hf ho hr hu fun ms e=>pj ms e};{cases hc}
 | makeFunc fn first cap =>
  cases fn with
  | func f =>
   simp only[BH,ho] at hc;split at hc;{rename_i tG;obtain⟨rs,uj,rfl⟩:=ij.1 hc;cases h;exact op_mkF hs hf ho (fnNum_k tG _) (yY tG _) uj};{cases hc}
  | _=>simp[BH,ho] at hc
 | makeMap t r =>
  simp only[BH,ho] at hc;cases r with
  | none =>
   simp only[il] at hc;subst hc;obtain⟨d,hd,oi⟩:=hm rfl;simp only[exec,hd,iT] at h;cases h;have:=zn hs hf ho hd oi;simpa[hd] using this
  | some r=>simp at hc
 | insert t m k v =>
  simp only[BH,ho] at hc;split at hc
  ·rename_i kt et m' k' v' hu U H h3;split at hc;·cases hc;exact YD hs hf (.inl ho) hu U H h3 h
   {cases hc}
  {cases hc}
 | mapUpdate t m k v =>
  simp only[BH,ho] at hc;split at hc
  ·rename_i kt et m' k' v' hu U H h3;split at hc;·cases hc;exact YD hs hf (.inr ho) hu U H h3 h
   {cases hc}
  {cases hc}
 | lookup t m k ok =>
  simp only[BH,ho] at hc;split at hc
  ·rename_i kt et hu;split at hc
   ·rename_i z m' k' hz U H;split at hc;·cases hc;exact vz hs hf ho hu hz U H h
    {cases hc}
   {cases hc}
  {cases hc}
 | makeSlice t l c =>
  simp only[BH,ho] at hc;split at hc;{rename_i k sE z l' c' he U H;cases hc;obtain⟨d,hd,oi⟩:=hm rfl;exact op_mkS hs hf ho he U H hd oi h};{cases hc}
 | slice t x lo hi mx =>
  simp only[BH,ho] at hc;split at hc
  ·rename_i x' lo' zq mx' U H h3 h4;split at hc
   ·rename_i hu;split at hc
    ·rename_i hmx;cases hc
     have:mx=none:=by
      cases mx with
      | none=>rfl
      | some m =>
       simp only[yw,ij] at h4;obtain⟨y,_,rfl⟩:=h4;simp at hmx
     subst this;exact eg hs hf ho hu U H h3 h
    {cases hc}
   {rename_i el hu;split at hc;{rename_i k sE z he;cases hc;exact zr hs hf ho he U H h3 h4 h};{cases hc}};{cases hc}
  {cases hc}
 | fieldAddr t x f =>
  simp only[BH,ho] at hc;split at hc
  ·rename_i fs x' hu U;split at hc
   ·rename_i fd hfd;split at hc
    ·rename_i i hi;split at hc;·cases hc
     {rename_i hz;cases hc;exact dz hs hf ho hu hfd hi hz U h}
    {cases hc}
   {cases hc}
  {cases hc}
 | field t x f =>
  simp only[BH,ho] at hc;split at hc;{rename_i fs x' hu U;split at hc;{rename_i fd hfd;split at hc;{rename_i n ag oD;cases hc;exact zp hs hf ho hu hfd oD U h};{cases hc}};{cases hc}};{cases hc}
 | indexAddr t x i =>
  simp only[BH,ho] at hc;split at hc;{rename_i el x' i' hu U H;split at hc;{rename_i k sE z he;cases hc;exact fC hs hf ho he U H h};{cases hc}};{rename_i n el x' i' hu U H;split at hc;{rename_i inf hi;cases hc;exact eh hs hf ho hu hi U H h};{cases hc}};{cases hc}
 | index t x i =>
  simp only[BH,ho] at hc;split at hc;{rename_i x' i' hu U H;cases hc;exact vr hs hf ho hu U H h};{cases hc}
 | extract x j =>
  simp only[BH,ho,ij] at hc;obtain⟨r,hr,rfl⟩:=hc;exact fD hs hf ho hr h
 | range t x =>
  simp only[BH,ho] at hc;split at hc;{rename_i x' hu U;cases hc;obtain⟨d,hd,oi⟩:=hm rfl;exact op_iter hs hf ho hu U hd oi h};{cases hc}
 | next x b =>
  cases b with
  | false=>simp[BH,ho] at hc
  | true =>
   simp only[BH,ho,ij] at hc;obtain⟨r,hr,rfl⟩:=hc;exact op_next hs hf ho hr h
 | typeAssert x t0 t ok =>
  simp only[BH,ho] at hc;split at hc;·cases hc
  {rename_i d pj hu;split at hc;{rename_i z x' hz U;cases hc;exact fz hs hf ho hu (fun ms e=>pj ms e) hz U h};{cases hc}};{cases hc}
 | call c =>
  simp only[BH,ho] at hc;split at hc;·cases hc
  ·rename_i as has;split at hc;{rename_i f nv;obtain⟨f',_,rfl⟩:=ij.1 hc;simp[C4] at hn}
   ·rename_i nv;split at hc
    ·rename_i t x zD
     obtain⟨x0,hx0,hr⟩:=rxs_one has;have qN:=TT hx0;split at hc;{rename_i hu;cases hc;exact VR hs hf ho nv zD qN hu (.inl ⟨rfl,rfl⟩) hr h};{rename_i el hu;cases hc;exact VR hs hf ho nv zD qN hu (.inr (.inl ⟨_,rfl,rfl⟩)) hr h};{rename_i k el hu;cases hc;exact VR hs hf ho nv zD qN hu (.inr (.inr ⟨_,_,rfl,rfl⟩)) hr h};·cases hc
    {cases hc}
   {rename_i nv;split at hc;{rename_i t u s x zD hau;obtain⟨x0,y0,hx0,yB,rH⟩:=aM has;have qN:=TT hx0;split at hc;{rename_i k sE z e' el he hu oU;cases hc;obtain⟨d,hd,oi⟩:=hm rfl;exact YE hs hf ho nv zD hau qN he oU hu (.inr ⟨_,rfl⟩) yB rH hd oi h};{rename_i k sE z el he hu oU;cases hc;obtain⟨d,hd,oi⟩:=hm rfl;exact YE hs hf ho nv zD hau qN he oU hu (.inl rfl) yB rH hd oi h};{cases hc}};{cases hc}}
   ·rename_i nv;split at hc
    ·rename_i t d s zD
     obtain⟨x0,y0,hx0,yB,rH⟩:=aM has;have qN:=TT hx0;split at hc;{rename_i k sE z he;cases hc;exact op_copy hs hf ho nv zD qN he yB rH h};{cases hc}
    {cases hc}
   {rename_i nv;cases hc;exact YC hs hf ho (mx:=false) nv has h};{rename_i nv;cases hc;exact YC hs hf ho (mx:=true) nv has h};{cases hc}
 | _=>simp[BH,ho] at hc
end ops
end Go.Ab


namespace Go.Ab
variable{α:Type} {F2 I1:Nat->Prop} {M:AK} {P:lO} {Q:Exit->Act->lJ->Prop} {Rn S:lW} {args mO fst tmps:Array lK} {b d dep l lo n n0:Nat} {c:Call} {f g:lL} {fo:lM} {next:Act->lJ->Prop} {obs:lY} {p:Option (Nat×Nat)} {ps:List (Option (Nat×Nat))} {r:PV} {ro:lT} {st':St} {us:List lK} {v:lK} {A:lS} {x:Next}
def De (ro:lT):Fence:={fn:=fun _=>True,depth:=none,alive:=false,round:=ro}
theorem TP {w:lJ} {R:Ending->lJ->Prop} (h:CallsIn Fence.wide n P f args w R):CallsIn (De ro) n P f args w R:=h
theorem d6 {assign body:Code} {w:lJ} {R:Ending->lJ->Prop} (h:RoundIn Fence.wide n P l f tmps assign body w R) :
  RoundIn (De ro) n P l f tmps assign body w R:=h
section yl
variable {w w':lJ} {I I':Nat->Prop} {lp pH:Nat->lT}
mutual
theorem Am.rz {L:l7} {x:PV} {v:lK}:Am w I lp L x v->x.mV=false->Am w I pH L x v
 | .undef v,_=>.undef v
 | .bool b,_=>.bool b
 | .int k n,_=>.int k n
 | .str s,_=>.str s
 | .mu,_=>.mu
 | .mJ,_=>.mJ
 | .nn,_=>.nn
 | .mB,_=>.mB
 | .ni,_=>.ni
 | .qR k full a cap hf,_=>.qR k full a cap hf
 | .sl k Z full b off cap c E fr U H h3 h4 h5 h6 h8 h7,e=>.sl k Z full b off cap c E fr U H h3 h4 h5 h6 h8 (Ai.rz h7 (OJ Z (by simpa[PV.mV] using e)))
 | .ptr cs o b off c E fr U H h3 h4 h8 h5,e=>.ptr cs o b off c E fr U H h3 h4 h8 (h5.rz (by simpa[PV.mV] using e))
 | .agg cs A U h,e=>.agg cs A U (h.rz (by simpa[PV.mV] using e))
 | .iface t x v h,e=>.iface t x v (h.rz (by simpa[PV.mV] using e))
 | .fn f cs us A hk h,e=>.fn f cs us A hk (h.rz (by simpa[PV.mV] using e))
 | .mF d l h,e=>by simp[PV.mV] at e
 | .mn Z A h,e=>.mn Z A (h.rz (by simpa[PV.mV] using e))
 | .nb es r nj clock U H h3,e=>.nb es r nj clock U H (h3.rz (by simpa[PV.mV] using e))
 | .mY g t x c E fr U H h3,e=>.mY g t x c E fr U H h3
 | .ref J o b C h,_=>.ref J o b C h
 | .my J k i o b C h,_=>.my J k i o b C h
 | .arr J k o n cap b C h hC hn,_=>.arr J k o n cap b C h hC hn
 | .oz J k h,_=>.oz J k h
 | .mp J b C h,_=>.mp J b C h
 | .it J b C h,_=>.it J b C h
theorem Ai.rz {L:l7} {Z:lS} {A:List lK}:Ai w I lp L Z A->A5 Z=false->Ai w I pH L Z A
 | .nil,_=>.nil
 | .cons x v Z A h hs,e=>.cons x v Z A (h.rz (by simpa[A5] using (jX.1 e).1)) (hs.rz (jX.1 e).2)
theorem OJ:∀ (Z:lS),A5 Z=false->A5 (mr Z)=false
 | [],_=>rfl
 | x :: Z,e=>by
  have h:=jX.1 e;have O:A5 x.cells=false:=by cases x<;>simp_all [PV.cells,A5,PV.mV]
  have hs:=OJ Z h.2
  have happ:∀ (ys zs:lS),A5 ys=false->A5 zs=false->A5 (ys++zs)=false:=by
   intro ys;induction ys with
   | nil=>intro zs _ hz;exact hz
   | cons y ys ih =>
    intro zs hy hz;have h:=jX.1 hy;exact jX.2 ⟨h.1,ih zs h.2 hz⟩
  exact happ _ _ O hs
end
mutual
theorem Am.free {L:l7} {x:PV} {v:lK}:Am w I lp L x v->x.free=true->Am w' I' lp L x v
 | .undef v,_=>.undef v
 | .bool b,_=>.bool b
 | .int k n,_=>.int k n
 | .str s,_=>.str s
 | .mu,_=>.mu
 | .mJ,_=>.mJ
 | .nn,_=>.nn
 | .mB,_=>.mB
 | .ni,_=>.ni
 | .qR k full a cap hf,e=>by simp[PV.free] at e
 | .sl k Z full b off cap c E fr U H h3 h4 h5 h6 h8 h7,e=>by simp[PV.free] at e
 | .ptr cs o b off c E fr U H h3 h4 h8 h5,e=>by simp[PV.free] at e
 | .agg cs A U h,e=>.agg cs A U (h.free (by simpa[PV.free] using e))
 | .iface t x v h,e=>.iface t x v (h.free (by simpa[PV.free] using e))
 | .fn f cs us A hk h,e=>.fn f cs us A hk (h.free (by simpa[PV.free] using e))
 | .mF d l h,_=>.mF d l h
 | .mn Z A h,e=>.mn Z A (h.free (by simpa[PV.free] using e))
 | .nb es r nj clock U H h3,e=>by simp[PV.free] at e
 | .mY g t x c E fr U H h3,e=>by simp[PV.free] at e
 | .ref J o b C h,_=>.ref J o b C h
 | .my J k i o b C h,_=>.my J k i o b C h
 | .arr J k o n cap b C h hC hn,_=>.arr J k o n cap b C h hC hn
 | .oz J k h,_=>.oz J k h
 | .mp J b C h,_=>.mp J b C h
 | .it J b C h,_=>.it J b C h
theorem Ai.free {L:l7} {Z:lS} {A:List lK}:Ai w I lp L Z A->FW Z=true->Ai w' I' lp L Z A
 | .nil,_=>.nil
 | .cons x v Z A h hs,e=>.cons x v Z A (h.free (by simpa[FW] using (jB.1 e).1)) (hs.free (jB.1 e).2)
end
theorem dJ:∀ (ys zs:lS),FW ys=true->FW zs=true->FW (ys++zs)=true:=by
 intro ys;induction ys with
 | nil=>intro zs _ hz;exact hz
 | cons y ys ih =>
  intro zs hy hz;have h:=jB.1 hy;exact jB.2 ⟨h.1,ih zs h.2 hz⟩
theorem dI:∀ (Z:lS),FW Z=true->FW (mr Z)=true:=by
 intro Z;induction Z with
 | nil=>intro _;rfl
 | cons x Z ih =>
  intro e;have h:=jB.1 e;refine dJ _ _ ?_ (ih h.2);have O:=h.1;cases x<;>simp_all [PV.cells,FW,PV.free]
theorem Ba.free {L:As} {ob:Ob} (h:Ba w I lp L ob p) (hf:ob.free=true):Ba w I' lp L ob p:=by
 cases p with
 | none=>exact h
 | some p =>
  cases ob with
  | cells ty cs=>obtain⟨c,E,U,H,h4,h3⟩:=h;exact⟨c,E,U,H,h4,h3.free hf⟩
  | arr k kt Z=>obtain⟨c,E,U,H,h3,h4,h6,h5⟩:=h;exact⟨c,E,U,H,h3,h4,h6,h5.free (dI _ hf)⟩
  | map es=>obtain⟨c,E,U,H⟩:=h;exact⟨c,E,U,H.free hf⟩
  | mD s pos=>exact h
end yl
theorem Ba.ofArr {w:lJ} {I:Nat->Prop} {lp:Nat->lT} {L L':As} {ob:Ob} (h:Ba w I lp L ob p) (ha:JU ob=true):Ba w I lp L' ob p:=by cases ob<;>simp[JU] at ha;cases p<;>exact h
theorem UM {l:List α} {x:α} (h:l[d]?=some x):l.set d x=l:=by apply jc;intro i;by_cases hi:i=d;{subst hi;rw[jo (ix.1 h).1,h]};{rw[iI (iN hi)]}
def Qj (ps:List (Option (Nat×Nat))):As:=Ck (fun _=>none) 0 ps
structure NG {E:Type} (cx:Cx) (R:Bs E) (lp:Nat->lT) (I F:Nat->Prop) (w:lJ) (r:PV) (obs:lY) (e:E) (v:lK) (w':lJ) (I' F':Nat->Prop) (ps:List (Option (Nat×Nat))):Prop where
 ext:BS I F w I' F' w'
 sep:IF I' F' w'
 wd:cx.Wd I' w'
 re:R.rel e I' F' w'
 len:ps.length=obs.length
 ob:∀ (j:Nat) (ob:Ob) (p:Option (Nat×Nat)),obs[j]?=some ob->ps[j]?=some p->Ba w' I' lp (Qj ps) ob p
 new:∀ (j b C:Nat),ps[j]?=some (some (b,C))->w.heap.size<=b/\b < w'.heap.size/\¬ I' b/\¬ F' b
 inj:∀ (j j' b C C':Nat),ps[j]?=some (some (b,C))->ps[j']?=some (some (b,C'))->j=j'
 rep:Am w' I' lp (some (Qj ps)) r v
 arr:obs.all JU=true
def aD {E:Type} (cx:Cx) (R:Bs E) (lp:Nat->lT) (I F:Nat->Prop) (w:lJ) (r:PV) (obs:lY) (e:E):Ending->lJ->Prop
 | .returned v,w'=>∃ I' F' ps,NG cx R lp I F w r obs e v w' I' F' ps
 | _,_=>False
def zF {E:Type} (cx:Cx) (R:Bs E) (Ir rQ:Nat->Prop) (wr:lJ) (args:lS) (e:E) (b:Bool) (e':E) (l:Nat):Prop :=
 ∀ (A:List lK) (I F:Nat->Prop) (w:lJ),Ai w I (fun _=>none) none args A->BS Ir rQ wr I F w->IF I F w->cx.Wd I w->R.rel e I F w ->
  YieldAt Fence.wide 0 cx.P l A.toArray w fun
   | .returned v,w'=>v=.bool b/\∃ I' F',BS I F w I' F' w'/\IF I' F' w'/\cx.Wd I' w'/\R.rel e' I' F' w'
   | _,_=>False
def P5 {E:Type} (cx:Cx) (lp:Nat->lT) (R:Bs E) (Ir rQ:Nat->Prop) (wr:lJ) (h:AF E):Prop :=
 ∀ (d:Nat) (args:lS) (e:E) (b:Bool) (e':E) (l:Nat),h d args e=some (b,e')->lp d=some l->∃ l',l=2*l'/\zF cx R Ir rQ wr args e b e' l'
def Bw (P:lO) (g:lL):Prop:=∃ fn,P.funcs[g]?=some fn/\(fn.name == "runtime.NumGoroutine")=false/\fn.body.isSome=true
def D4 (cx:Cx) (call:Ha):Prop :=
 ∀ (E:Type) (h:AF E) (R:Bs E) (dep:Nat) (lp:Nat->lT) (Ir rQ:Nat->Prop) (wr:lJ) (g:lL) (args:lS) (e:E) (r:PV) (obs:lY) (e':E),
  call E h dep g args e=some (r,obs,e')->P5 cx lp R Ir rQ wr h->(∀ d l,lp d=some l->d < dep) ->
  Bw cx.P g/\∀ (I F:Nat->Prop) (w:lJ) (A:List lK),BS Ir rQ wr I F w->IF I F w->cx.Wd I w->R.rel e I F w->Ai w I lp none args A ->
   CallsIn Fence.wide 0 cx.P g A.toArray w (aD cx R lp I F w r obs e')
def F5 (mN:List lK) (dst:lT) (v:lK):List lK :=
 match dst with
 | some d=>mN.set d v
 | none=>mN
def To (cx:Cx) (g:lL) (V:St) (A:lS) (out:Al):Prop :=
  ∀ (E:Type) (w0:lJ) (I0 F0:Nat->Prop) (O0:BE) (Hd:Nat->Option Obj) (R:Bs E) (e:E) (ds:List lQ) (I F:Nat->Prop) (lp:Nat->lT) (L:As) (mN ml us:List lK) (w:lJ) (dst:lT),
   SR lp I L V mN ml w->Fr cx w0 I0 F0 O0 Hd R e ds I F L w->Ai w I lp (some L) A us->(∀ d,dst=some d->V.mi[d]?=some []) ->
   ∃ v w',(callFunc g us.toArray).run cx.P w=.ok (.value v) w'/\∃ I' L',SR lp I' L' (apply V dst {out with v:=out.v.mz (EW (dst.getD 0))}) (F5 mN dst v) ml w'/\Fr cx w0 I0 F0 O0 Hd R e ds I' F L' w'
def SpOK (cx:Cx) (sp:lL->(Nm->lV)->lS->l5):Prop :=
 ∀ (g:lL) (V:St) (A:lS) (out:Al),sp g (Ac V.mi) A=some out->To cx g V A out\/Bw cx.P g /\
  ∀ (E:Type) (w0:lJ) (I0 F0:Nat->Prop) (O0:BE) (Hd:Nat->Option Obj) (R:Bs E) (e:E) (ds:List lQ) (I F:Nat->Prop) (lp:Nat->lT) (L:As) (mN ml us:List lK) (w:lJ) (dst:lT),
   SR lp I L V mN ml w->Fr cx w0 I0 F0 O0 Hd R e ds I F L w->Ai w I lp (some L) A us->(∀ d,dst=some d->V.mi[d]?=some []) ->
   CallsIn Fence.wide 0 cx.P g us.toArray w fun
    | .returned v,w'=>∃ I' L',SR lp I' L' (apply V dst {out with v:=out.v.mz (EW (dst.getD 0))}) (F5 mN dst v) ml w'/\Fr cx w0 I0 F0 O0 Hd R e ds I' F L' w'
    | _,_=>False
def IoOK (cx:Cx) (io:lL->Nat->(Nm->lV)->lS->l5):Prop :=
 ∀ (g:lL) (d0:Nat) (V:St) (A:lS) (out:Al),io g d0 (Ac V.mi) A=some out->Bw cx.P g /\
  ∀ (E:Type) (w0:lJ) (I0 F0:Nat->Prop) (O0:BE) (Hd:Nat->Option Obj) (R:Bs E) (e:E) (ds:List lQ) (I F:Nat->Prop) (lp:Nat->lT) (L:As) (mN ml us:List lK) (w:lJ) (dst:lT),
   SR lp I L V mN ml w->Fr cx w0 I0 F0 O0 Hd R e ds I F L w->Ai w I lp (some L) A us->(∀ d,dst=some d->d=d0/\V.mi[d]?=some [])->(dst=none->out.new=[]\/out.slot.isSome=true) ->
   CallsIn Fence.wide 0 cx.P g us.toArray w fun
    | .returned v,w'=>∃ I' L',SR lp I' L' (apply V dst out) (F5 mN dst v) ml w'/\Fr cx w0 I0 F0 O0 Hd R e ds I' F L' w'
    | _,_=>False
def zG (cx:Cx) (tk:(E:Type)->AF E->Nat->lL->lY->lS->E->Option (St×E)):Prop :=
 ∀ (E:Type) (h:AF E) (dep:Nat) (g:lL) (ins:lY) (A:lS) (e:E) (mM:St) (e2:E),tk E h dep g ins A e=some (mM,e2)->Bw cx.P g /\
  ∃ (gone:lU) (nt:Nat),A.length<=nt/\ins.length<=nt/\0 < nt /\
   ∀ (R:Bs E) (lp:Nat->lT) (w:lJ) (I F0 F zzd:Nat->Prop) (L:As) (us wv:List lK),P5 cx lp R I F0 w h->(∀ d l,lp d=some l->d < dep)->us.length=A.length ->
    SR lp I L (EQ gone nt ins A) (us++List.replicate (nt - us.length) undef) wv w->Fr cx w I F0 ⟨zzd,[]⟩ (fun _=>none) R e [] I F L w ->
    CallsIn Fence.wide 0 cx.P g us.toArray w fun
     | .returned _,w'=>∃ mN I' F' L',SR lp I' L' mM mN wv w'/\Fr cx w I F0 ⟨zzd,[]⟩ (fun _=>none) R e2 [] I' F' L' w'
     | _,_=>False
structure GC (cx:Cx) (M:AK):Prop where
 sp:SpOK cx M.sp
 io:IoOK cx M.io
 flag:∀ g d σ A out,M.io g d σ A=some out->out.io=true
 tk:zG cx M.tk
section frames
variable {E:Type} {cx:Cx} {w0:lJ} {I0 F0:Nat->Prop} {O0:BE} {Hd:Nat->Option Obj} {R:Bs E} {e e':E} {ds:List lQ} {F F':Nat->Prop} {lp:Nat->lT} {ml mN:List lK}
variable {I I':Nat->Prop} {L:As} {V:St} {a:Act} {w w':lJ} {o:Oper}
theorem Fr.offI (hf:Fr cx w0 I0 F0 O0 Hd R e ds I F L w) (O:BS I F w I' F' w') (U:b < w.heap.size) (H:¬ I b) (h3:¬ F b):¬ I' b/\¬ F' b/\w'.heap[b]?=w.heap[b]? :=
 ⟨fun h=>by rcases O.py b h with h | h | h<;>first | exact H h | exact h3 h | omega,
  fun h=>by rcases O.pL b h with h | h<;>first | exact h3 h | omega,O.mj b U h3⟩
theorem Fr.called (hf:Fr cx w0 I0 F0 O0 Hd R e ds I F L w) (O:BS I F w I' F' w') (hi:IF I' F' w') (hw:cx.Wd I' w') (hr:R.rel e' I' F' w'):Fr cx w0 I0 F0 O0 Hd R e' ds I' F' L w' where
 ext:=hf.ext.trans O
 sep:=hi
 oF:=hf.oF
 lB J b C hn:=by obtain⟨U,H,h3,h4⟩:=hf.lB J b C hn;obtain⟨g1,g2,_⟩:=hf.offI O H h3 h4;have:=O.size;exact⟨U,by omega,g1,g2⟩
 inj:=hf.inj
 wd:=hw
 re:=hr
 rq:=hf.rq.move O.size fun D d1 d2 d3 d4 d5=>by obtain⟨g1,g2,g3⟩:=hf.offI O d1 d3 d4;exact⟨g3,g1,g2,d5⟩
 ry b ob hb:=by obtain⟨d1,d2,d3,d4,d5⟩:=hf.ry b ob hb;obtain⟨g1,g2,g3⟩:=hf.offI O d1 d2 d3;have:=O.size;exact⟨by omega,g1,g2,d4,g3.trans d5⟩
theorem SR.called (hs:SR lp I L V mN ml w) (hf:Fr cx w0 I0 F0 O0 Hd R e ds I F L w) (O:BS I F w I' F' w'):SR lp I' L V mN ml w' :=
 hs.keeps O.pV (fun b hb=>O.tz hf.sep b hb) fun J b C hn=>(hf.offI O (hf.lB J b C hn).2.1 (hf.lB J b C hn).2.2.1 (hf.lB J b C hn).2.2.2).2.2
theorem Fr.place (hf:Fr cx w0 I0 F0 O0 Hd R e ds I F L w) (hn0:w0.heap.size<=n0) (hp:∀ (j b C:Nat),ps[j]?=some (some (b,C))->n0<=b/\b < w.heap.size/\¬ I b/\¬ F b)
  (hL:∀ J b C,L J=some (some (b,C))->b < n0) (hm:∀ D,D∈ds.map (·.target)->∀ b,D=.collected b->b < n0) (hh:∀ b ob,Hd b=some ob->b < n0)
  (hi:∀ (j j' b C C':Nat),ps[j]?=some (some (b,C))->ps[j']?=some (some (b,C'))->j=j'):Fr cx w0 I0 F0 O0 Hd R e ds I F (Ck L d ps) w where
 ext:=hf.ext
 sep:=hf.sep
 oF:=hf.oF
 lB J b C hn:=by unfold Ck at hn;split at hn;{obtain⟨U,H,h3,h4⟩:=hp _ _ _ hn;exact⟨.inl (by omega),H,h3,h4⟩};{exact hf.lB J b C hn}
 inj J nr b C C' hn nO:=by unfold Ck at hn nO;split at hn<;>split at nO;{rename_i e1 e2;exact Prod.ext (e1.trans e2.symm) (hi _ _ _ _ _ hn nO)};{have:=hp _ _ _ hn;have:=hL nr b C' nO;omega};{have:=hp _ _ _ nO;have:=hL J b C hn;omega};{exact hf.inj J nr b C C' hn nO}
 wd:=hf.wd
 re:=hf.re
 rq:=by
  have key:∀ ds rs,Cg w0.heap.size I F L w ds rs->(∀ D,D∈ds.map (·.target)->∀ b,D=.collected b->b < n0)->Cg w0.heap.size I F (Ck L d ps) w ds rs:=by
   intro ds rs h;induction h with
   | nil=>intro _;exact .nil
   | call d' ds rs hd _ ih=>intro hm;exact .call d' ds rs hd (ih fun D' qy b hb=>hm D' (by simp at qy |-;exact .inr qy) b hb)
   | cons D ds rs U H h3 h4 h5 h6 h7 _ ih =>
    intro hm;refine .cons D ds rs U H h3 h4 (fun J C hn=>?_) h6 h7 (ih fun D' qy b hb=>hm D' (by simp at qy |-;exact .inr qy) b hb);unfold Ck at hn;split at hn;{have U:=(hp _ _ _ hn).1;have H:=hm (.collected D) (by simp) D rfl;omega};{exact h5 J C hn}
  exact key ds _ hf.rq hm
 ry b ob hb:=by obtain⟨d1,d2,d3,d4,d5⟩:=hf.ry b ob hb;refine⟨d1,d2,d3,fun J C hn=>?_,d5⟩;unfold Ck at hn;split at hn;{have:=(hp _ _ _ hn).1;have:=hh b ob hb;omega};{exact d4 J C hn}
theorem Cg.lt {I F:Nat->Prop} {L:As} {w:lJ} {ds rs:List lQ} (h:Cg lo I F L w ds rs):∀ D,D∈ds.map (·.target)->∀ b,D=.collected b->b < w.heap.size:=by
 induction h with
 | nil=>intro D hD;simp at hD
 | call d ds rs hd _ ih =>
  intro D' qy b hb;simp only[iE,im] at qy;rcases qy with rfl | qy;{exact lH hb (hd b)};{exact ih D' qy b hb}
 | cons D ds rs U H h3 h4 h5 h6 h7 _ ih =>
  intro D' qy b hb;simp only[iE,im] at qy;rcases qy with rfl | qy;·cases hb;exact H
  {exact ih D' qy b hb}
theorem taken (hs:SR lp I L V a.tmps.toList ml w) (hf:Fr cx w0 I0 F0 O0 Hd R e ds I F L w) (hc:NG cx R lp I F w r obs e' v w' I' F' ps)
  (hd:∀ d,o.dst=some d->V.mi[d]?=some []) :
  ∃ L',SR lp I' L' (apply V o.dst {v:=r.mz (EW (o.dst.getD 0)),new:=obs}) (a.put o.dst v).tmps.toList ml w'/\Fr cx w0 I0 F0 O0 Hd R e' ds I' F' L' w':=by
 have pI:=hs.called hf hc.ext;have oM:=hf.called hc.ext hc.sep hc.wd hc.re;rw[Ik];cases ur:o.dst with
 | none=>exact⟨L,pI,oM⟩
 | some d =>
  have oi:=hd d ur;have mL:∀ J b C,L J=some (some (b,C))->b < w.heap.size:=fun J b C hn=>(hf.lB J b C hn).2.1;have pf:∀ J p,Qj ps J=some p->Ck L d ps (EW d J)=some p:=by intro J p hp;unfold Qj Ck at hp;unfold Ck EW;split at hp;{simpa using hp};·cases hp
  refine⟨Ck L d ps,?_,oM.place (n0:=w.heap.size) hf.ext.size hc.new mL (hf.rq.lt) (fun b ob hb=>(hf.ry b ob hb).1) hc.inj⟩;have nP:=pI.news oi obs ps hc.len fun j ob p U H=>(hc.ob j ob p U H).ofArr (iy.1 hc.arr ob (iz U));have sO:(if obs.isEmpty then V.mi else V.mi.set d obs)=V.mi.set d obs:=by split;{rename_i he;rw[iS] at he;subst he;exact (UM oi).symm};{rfl}
  show SR lp I' (Ck L d ps) {tmps:=V.tmps.set d (r.mz (EW d)),mi:=if obs.isEmpty then V.mi else V.mi.set d obs,mj:=V.mj} (a.tmps.toList.set d v) ml w';rw[sO];exact nP.put d (hc.rep.rename pf)
def P3 (cx:Cx) (w0:lJ) (I0 F0:Nat->Prop) (O0:BE) (Hd:Nat->Option Obj) (R:Bs E) (lp:Nat->lT) (ml:List lK) (o:Oper) (a:Act) (w:lJ) (st':St) (e':E):Prop :=
 ∀ (ro:lT) (next:Act->lJ->Prop) (Q:Exit->Act->lJ->Prop),
  (∀ v' w' I' F' L',SR lp I' L' st' (a.put o.dst v').tmps.toList ml w'->Fr cx w0 I0 F0 O0 Hd R e' a.defers I' F' L' w'->next (a.put o.dst v') w')->o.wpIn (De ro) 0 cx.P a w next Q
theorem zH (pj:∀ c,o.op≠.defer c) (h:o.uponIn (De ro) 0 cx.P a next Q ((execOp a.eval o).run cx.P w)):o.wpIn (De ro) 0 cx.P a w next Q :=
 ⟨fun _ _=>trivial,by rw[Oper.semAt_plain _ _ _ pj];exact h⟩
theorem Yj (pj:∀ c,o.op≠.defer c) (h:Bh cx w0 I0 F0 O0 Hd R e a.defers F lp ml o a w st'):P3 cx w0 I0 F0 O0 Hd R lp ml o a w st' e:=by intro ro next Q hK;obtain⟨v',w',I',L',hr,hs,hf⟩:=h;refine zH pj ?_;rcases hr with hr | ⟨hr,rfl⟩;{rw[hr];exact hK v' w' I' F L' hs hf};{rw[hr];exact hK undef w' I' F L' hs hf}
theorem vC {f:lM} (ho:o.op=.call c) (nv:c.callee=.value f) (hv:a.eval f=.func (.func g) fst mO) (he:Bw cx.P g) :
  (execOp a.eval o).run cx.P w=.ok (.enter g (fst++(c.args.map a.eval)++mO)) w:=by
 obtain⟨fn,pY,nU,om⟩:=he;have hb:¬ fn.body=none:=by intro h;rw[h] at om;cases om
 have nU:¬ fn.name = "runtime.NumGoroutine":=by intro h;rw[h] at nU;simp at nU
 simp[execOp,ho,resolve,nv,hv,Deferred.ofValue,invoke,callFunc,pY,nU,hb]
theorem vD {f:lM} (ho:o.op=.call c) (nv:c.callee=.value f) (hv:a.eval f=.func (.func g) fst mO) :
  (execOp a.eval o).run cx.P w=(callFunc g (fst++(c.args.map a.eval)++mO)).run cx.P w:=by
 simp[execOp,ho,resolve,nv,hv,Deferred.ofValue,invoke]
theorem fe {f:lM} (ho:o.op=.call c) (nv:c.callee=.value f) (hv:a.eval f=.func (.yield l) #[] #[]) {w':lJ} (hy:(Instr.yield l (c.args.map a.eval)).run cx.P w=.ok x w') :
  (execOp a.eval o).run cx.P w=.ok x w':=by
 simp[execOp,ho,resolve,nv,hv,Deferred.ofValue,invoke,hy]
theorem CallsIn.qp {F:Fence} {f:lL} {w:lJ} {R R':Ending->lJ->Prop} (h:CallsIn F n P f args w R) (hr:∀ e w',R e w'->R' e w'):CallsIn F n P f args w R' :=
 ⟨h.1,fun cs uT=>let ⟨e,w',fr,r,s,x⟩:=h.2 cs uT;⟨e,w',fr,hr _ _ r,s,x⟩⟩
theorem MU {f:lM} (ho:o.op=.call c) (nv:c.callee=.value f) (hv:a.eval f=.func (.func g) fst mO) (he:Bw cx.P g) 
  (h:CallsIn Fence.wide 0 cx.P g (fst++(c.args.map a.eval)++mO) w fun
   | .returned v,w'=>∃ I' F' L',SR lp I' L' st' (a.put o.dst v).tmps.toList ml w'/\Fr cx w0 I0 F0 O0 Hd R e' a.defers I' F' L' w'
   | _,_=>False):P3 cx w0 I0 F0 O0 Hd R lp ml o a w st' e':=by
 intro ro next Q hK;refine zH (fun c' e=>by rw[ho] at e;cases e) ?_;rw[vC ho nv hv he,Oper.uponIn_enter];refine⟨fun h=>by simp[De] at h,TP (CallsIn.qp h fun e w' hr=>?_)⟩;cases e with
 | returned v=>obtain⟨I',F',L',U,H⟩:=hr;exact hK v w' I' F' L' U H
 | panicked chain=>exact hr.elim
 | outgrown=>exact hr.elim
theorem Xd {f:lM} (ho:o.op=.call c) (nv:c.callee=.value f) (hv:a.eval f=.func (.yield l) #[] #[]) 
  (h:YieldAt Fence.wide 0 cx.P l (c.args.map a.eval) w fun
   | .returned v,w'=>∃ I' F' L',SR lp I' L' st' (a.put o.dst v).tmps.toList ml w'/\Fr cx w0 I0 F0 O0 Hd R e' a.defers I' F' L' w'
   | _,_=>False):P3 cx w0 I0 F0 O0 Hd R lp ml o a w st' e':=by
 intro ro next Q hK;refine zH (fun c' e=>by rw[ho] at e;cases e) ?_;obtain⟨fn,tmps,assign,body,hy,sR⟩:=h;rw[fe ho nv hv hy,Oper.uponIn_round];refine⟨fun h=>by simp[De] at h,d6 (RoundIn.mono sR fun e w' hr=>?_)⟩;cases e with
 | returned v=>obtain⟨I',F',L',U,H⟩:=hr;exact hK v w' I' F' L' U H
 | panicked chain=>exact hr.elim
 | outgrown=>exact hr.elim
def DW:Bs Unit:=⟨fun _ _ _ _=>True,fun _ _ _ _ _ _ _ _ _ _=>trivial⟩
theorem Rh (cx:Cx) (lp:Nat->lT) (Ir rQ:Nat->Prop) (wr:lJ):P5 cx lp DW Ir rQ wr AL:=by intro d args e b e' l h;simp[AL] at h
theorem X5 (hM:D4 cx M.call) (hs:SR lp I L V a.tmps.toList ml w) (hf:Fr cx w0 I0 F0 O0 Hd R e ds I F L w) (hI1:IF I1 (fun _=>False) w) (hw1:cx.Wd I1 w)
  (mG:Ai w I1 lp none A us) (hy:A5 A=false) (hc:M.call Unit AL 0 g A ()=some (r,obs,())) :
  Bw cx.P g/\CallsIn Fence.wide 0 cx.P g us.toArray w fun
   | .returned v,w'=>∃ I' F' ps,NG cx DW lp I1 (fun _=>False) w r obs () v w' I' F' ps
   | _,_=>False:=by
 obtain⟨U,H⟩:=hM Unit AL DW 0 (fun _=>none) I1 (fun _=>False) w g A () r obs () hc (Rh cx _ _ _ _) (fun d l h=>by cases h);refine⟨U,CallsIn.qp (H I1 (fun _=>False) w us (BS.refl _ _ _) hI1 hw1 trivial (mG.rz hy)) fun e w' hr=>?_⟩;cases e with
 | returned v =>
  obtain⟨I',F',ps,ov⟩:=hr;have hl:Ib (fun _=>none) lp:=fun d l h=>by cases h
  exact⟨I',F',ps,ov.ext,ov.sep,ov.wd,ov.re,ov.len,fun j ob p U H=>(ov.ob j ob p U H).mono (fun _ h=>h) (fun _ _=>rfl) hl (fun _ _ _=>rfl),ov.new,ov.inj,Am.mono (fun _ h=>h) (fun _ _=>rfl) hl ov.rep,ov.arr⟩
 | panicked chain=>exact hr.elim
 | outgrown=>exact hr.elim
theorem Fr.quiet (hf:Fr cx w0 I0 F0 O0 Hd R e ds I F L w) (O:BS I (fun _=>False) w I' F2 w') (hi:∀ b,I' b->b < w'.heap.size) (hw:cx.Wd I' w'):BS I F w I' F w'/\IF I' F w'/\R.rel e I' F w':=by have hk:∀ b,b < w.heap.size->w'.heap[b]?=w.heap[b]?:=fun b hb=>O.mj b hb fun h=>h;refine⟨⟨O.os,O.tape,O.output,O.size,fun b hb _=>hk b hb,O.pV,fun b hb=>?_,fun b hb=>.inl hb⟩,⟨hi,fun b hb=>⟨jO (hf.sep.fB b hb).1 O.size,fun h=>?_⟩⟩,?_⟩;{rcases O.py b hb with h | h | h;{exact .inl h};{exact h.elim};{exact .inr (.inr h)}};{rcases O.py b h with h | h | h;{exact (hf.sep.fB b hb).2 h};{exact h};{have:=(hf.sep.fB b hb).1;omega}};{refine R.pW e I I' F w w' hf.re O.pV (fun b hb=>hk b ?_) O.size;rcases hb with hb | hb;{exact hf.sep.iB b hb};{exact (hf.sep.fB b hb).1}}
theorem XY (hM:D4 cx M.call) (hs:SR lp I L V a.tmps.toList ml w) (hf:Fr cx w0 I0 F0 O0 Hd R e a.defers I F L w) {f:lM} (ho:o.op=.call c) (nv:c.callee=.value f) 
  (hv:a.eval f=.func (.func g) fst mO) (mG:Ai w I lp none A (fst++(c.args.map a.eval)++mO).toList) (hy:A5 A=false) (hc:M.call Unit AL 0 g A ()=some (r,obs,()))
  (hd:∀ d,o.dst=some d->V.mi[d]?=some []) :
  Bw cx.P g/\CallsIn Fence.wide 0 cx.P g (fst++(c.args.map a.eval)++mO) w fun
   | .returned v,w'=>∃ I' F' L',SR lp I' L' (apply V o.dst {v:=r.mz (EW (o.dst.getD 0)),new:=obs}) (a.put o.dst v).tmps.toList ml w'/\Fr cx w0 I0 F0 O0 Hd R e a.defers I' F' L' w'
   | _,_=>False:=by
 obtain⟨U,H⟩:=X5 hM hs hf (I1:=I) ⟨hf.sep.iB,fun b hb=>hb.elim⟩ hf.wd mG hy hc;rw[jx] at H;refine⟨U,CallsIn.qp H fun en w' hr=>?_⟩;cases en with
 | returned v =>
  obtain⟨I',F2,ps,ov⟩:=hr;obtain⟨q1,q2,q3⟩:=hf.quiet ov.ext (fun b hb=>ov.sep.iB b hb) ov.wd;have hce2:NG cx R lp I F w r obs e v w' I' F ps:=⟨q1,q2,ov.wd,q3,ov.len,ov.ob,fun j b C hj=>by obtain⟨n1,n2,n3,n4⟩:=ov.new j b C hj;exact⟨n1,n2,n3,fun hb=>by have:=(hf.sep.fB b hb).1;omega⟩,ov.inj,ov.rep,ov.arr⟩;obtain⟨L',g1,g2⟩:=taken hs hf hce2 hd;exact⟨I',F,L',g1,g2⟩
 | panicked chain=>exact hr.elim
 | outgrown=>exact hr.elim
theorem vF (hM:D4 cx M.call) (hs:SR lp I L V a.tmps.toList ml w) (hf:Fr cx w0 I0 F0 O0 Hd R e a.defers I F L w) {f:lM} (ho:o.op=.call c) (nv:c.callee=.value f) 
  (hv:a.eval f=.func (.func g) fst mO) (mG:Ai w (CW I L Rn) lp none A (fst++(c.args.map a.eval)++mO).toList) (hy:A5 A=false) (hc:M.call Unit AL 0 g A ()=some (r,obs,()))
  (qo:r.free=true) (ui:obs.all Ob.free=true) (hd:∀ d,o.dst=some d->V.mi[d]?=some []) :
  Bw cx.P g/\CallsIn Fence.wide 0 cx.P g (fst++(c.args.map a.eval)++mO) w fun
   | .returned v,w'=>∃ I' F' L',SR lp I' L' (apply V o.dst {v:=r.mz (EW (o.dst.getD 0)),new:=obs}) (a.put o.dst v).tmps.toList ml w'/\Fr cx w0 I0 F0 O0 Hd R e a.defers I' F' L' w'
   | _,_=>False:=by
 have ql:=hf.freeze Rn;obtain⟨U,H⟩:=X5 hM hs hf (I1:=CW I L Rn) ⟨ql.sep.iB,fun b hb=>hb.elim⟩ ql.wd mG hy hc;rw[jx] at H;refine⟨U,CallsIn.qp H fun en w' hr=>?_⟩;cases en with
 | returned v =>
  obtain⟨I',F2,ps,ov⟩:=hr;have hk:∀ b,b < w.heap.size->w'.heap[b]?=w.heap[b]?:=fun b hb=>ov.ext.mj b hb fun h=>h;have hIk:∀ b,I b->w'.heap[b]?=w.heap[b]?:=fun b hb=>hk b (hf.sep.iB b hb);have hwd:cx.Wd I w':=cx.pW I I w w' hf.wd (fun _ h=>h) hIk ov.ext.size;have sS:BS I (fun _=>False) w I (fun _=>False) w':=⟨ov.ext.os,ov.ext.tape,ov.ext.output,ov.ext.size,fun b hb _=>hk b hb,fun _ h=>h,fun _ h=>.inl h,fun _ h=>h.elim⟩;obtain⟨q1,q2,q3⟩:=hf.quiet sS (fun b hb=>jO (hf.sep.iB b hb) ov.ext.size) hwd;have hce2:NG cx R lp I F w r obs e v w' I F ps:=⟨q1,q2,hwd,q3,ov.len,fun j ob p hj hp=>(ov.ob j ob p hj hp).free (iy.1 ui ob (iz hj)),fun j b C hj=>by obtain⟨n1,n2,n3,n4⟩:=ov.new j b C hj;exact⟨n1,n2,fun hb=>by have:=hf.sep.iB b hb;omega,fun hb=>by have:=(hf.sep.fB b hb).1;omega⟩,ov.inj,ov.rep.free qo,ov.arr⟩;obtain⟨L',g1,g2⟩:=taken hs hf hce2 hd;exact⟨I,F,L',g1,g2⟩
 | panicked chain=>exact hr.elim
 | outgrown=>exact hr.elim
structure GB {E:Type} (cx:Cx) (lp:Nat->lT) (R:Bs E) (h:AF E) (dep:Nat) (w0:lJ) (I0 F0:Nat->Prop):Prop where
 hand:∃ Ir rQ wr,P5 cx lp R Ir rQ wr h/\BS Ir rQ wr I0 F0 w0
 dep:∀ d l,lp d=some l->d < dep
theorem WC (h:V.mi[d]?=some []):(B7 (Ac V.mi) Rn V).mi[d]?=some []:=by
 have key:∀ (R:lW) (σ:List lY),σ[d]?=some []->(R.foldl (fun mi J=>AR mi J AP) σ)[d]?=some []:=by
  intro R;induction R with
  | nil=>intro σ h;exact h
  | cons r R ih =>
   intro σ h;refine ih _ ?_;show (AR σ r AP)[d]?=some [];unfold AR;split;{rename_i l hl;by_cases hrd:r.1=d;{rw[hrd] at hl;rw[h] at hl;cases hl;rw[hrd,jo (ix.1 h).1];rfl};{rw[iI hrd];exact h}};{exact h}
 refine key _ _ ?_;simp[CF,h]
theorem Zk (mP:Rn≠[]) (dst:lT) (v:PV) (obs:lY) :
  apply V dst {v,new:=obs,mX:=Rn}=apply (B7 (Ac V.mi) Rn V) dst {v,new:=obs}:=by
 cases Rn with
 | nil=>exact lH rfl mP
 | cons r rs=>simp[apply]
theorem ZD (h:S.isEmpty=false):AI (Ac V.mi) AG S≠[]:=by
 intro e0;cases S with
 | nil=>simp at h
 | cons m ms =>
  have:m∈AI (Ac V.mi) AG (m :: ms):=DI AG _ m iw;rw[e0] at this;cases this
theorem vG {h:AF E} (hM:D4 cx M.call) (ny:GC cx M) (mS:GB cx lp R h dep w0 I0 F0) (hs:SR lp I L V a.tmps.toList ml w) (hf:Fr cx w0 I0 F0 O0 Hd R e a.defers I F L w)
  (ho:o.op=.call c) (nv:c.callee=.value fo) {f:RX} {args:md} (U:rx cx.G fo=some f) (H:DT cx.G c.args.toList=some args)
  (hd:∀ d,o.dst=some d->V.mi[d]?=some []) {out:Al} (O:Cj M h dep (o.dst.getD 0) (Ac V.mi) V.tmps f args e=some (out,e')) (se:Jv o.dst out=true) :
  P3 cx w0 I0 F0 O0 Hd R lp ml o a w (apply V o.dst out) e':=by
 have tH:=Be hs hf.wd U;have nD:=R6 hs hf.wd H;have n7:(c.args.toList.map a.eval).toArray=c.args.map a.eval:=by rw[<-kW,jx]
 unfold Cj at O;split at O
 ·rename_i d hr;rw[hr] at tH;obtain⟨l,hv,hl⟩:=bm tH;obtain⟨Ir,rQ,wr,hand,zE⟩:=mS.hand;simp only at O;split at O
  ·rename_i hS;rw[iS] at hS;obtain⟨hy,O⟩:=AQ O;split at O
   ·rename_i b e1 hh;cases O;obtain⟨l',rfl,hand⟩:=hand d _ e b e' l hh hl;rw[RR] at hv;refine Xd ho nv hv ?_;have vA:A5 (args.map (RX.ev V.tmps))=false:=by simpa using hy
    have oi:=(nD.shut hS).rz (pH:=fun _=>none) vA;have:=hand _ I F w oi (zE.trans hf.ext) hf.sep hf.wd hf.re;obtain⟨fn,tmps,assign,body,q1,q2⟩:=this;refine⟨fn,tmps,assign,body,by rw[<-n7];exact q1,RoundIn.mono q2 fun en w' hq=>?_⟩;cases en with
    | returned v =>
     obtain⟨rfl,I',F',p1,p2,p3,p4⟩:=hq;exact⟨I',F',L,(hs.called hf p1).yZ o.dst (.bool b),hf.called p1 p2 p3 p4⟩
    | panicked chain=>exact hq.elim
    | outgrown=>exact hq.elim
   {cases O}
  ·rename_i hS;obtain⟨hk,O⟩:=AQ O;simp only[ie,jt] at hk;split at O
   ·rename_i b e1 hh;cases O;have hS:(Ar (args.map (RX.ev V.tmps))).isEmpty=false:=by simpa using hS
    have mP:=ZD (V:=V) hS;have oi:=(QH hs hk.2 nD fun J hn=>DI _ _ J hn).rz (pH:=fun _=>none) hk.1;have pJ:=hs.freeze hk.2;have ql:=hf.freeze (AI (Ac V.mi) AG (Ar (args.map (RX.ev V.tmps))));obtain⟨l',rfl,hand⟩:=hand d _ e b e' l hh hl;rw[RR] at hv;refine Xd ho nv hv ?_;have:=hand _ _ F w oi (zE.trans ql.ext) ql.sep ql.wd ql.re;obtain⟨fn,tmps,assign,body,q1,q2⟩:=this;refine⟨fn,tmps,assign,body,by rw[<-n7];exact q1,RoundIn.mono q2 fun en w' hq=>?_⟩;cases en with
    | returned v =>
     obtain⟨rfl,I',F',p1,p2,p3,p4⟩:=hq;rw[Zk mP];exact⟨I',F',_,(pJ.called ql p1).yZ o.dst (.bool b),ql.called p1 p2 p3 p4⟩
    | panicked chain=>exact hq.elim
    | outgrown=>exact hq.elim
   {cases O}
 ·rename_i g cap hr;rw[hr] at tH;obtain⟨fst,mO,hv,hfk,qJ⟩:=KO tH;have nX:Ai w I lp (some L) (Bc g (args.map (RX.ev V.tmps)) cap) (fst++(c.args.map a.eval)++mO).toList:=by simpa[iX] using Q0 hfk qJ nD
  simp only at O;generalize Bc g (args.map (RX.ev V.tmps)) cap=vall at O nX;generalize AO g=g0 at O hv;split at O
  ·rename_i out1 zI;cases O;rcases ny.sp g0 V _ _ zI with q2 | ⟨q1,q2⟩
   {obtain⟨v',w',ng,I',L',p1,p2⟩:=q2 E w0 I0 F0 O0 Hd R e a.defers I F lp L a.tmps.toList ml _ w o.dst hs hf nX hd;rw[jx] at ng;exact Yj (fun c' e=>by rw[ho] at e;cases e) ⟨v',w',I',L',.inl (by rw[vD ho nv hv];exact ng),by rw[Ik];exact p1,p2⟩};refine MU ho nv hv q1 ?_;have:=q2 E w0 I0 F0 O0 Hd R e a.defers I F lp L a.tmps.toList ml _ w o.dst hs hf nX hd;rw[jx] at this;refine CallsIn.qp this fun en w' hq=>?_;cases en with
   | returned v =>
    obtain⟨I',L',p1,p2⟩:=hq;refine⟨I',F,L',?_,p2⟩;rw[Ik];exact p1
   | panicked chain=>exact hq.elim
   | outgrown=>exact hq.elim
  ·rename_i zI;split at O
   ·rename_i oV;split at O
    case h_2=>cases O
    rename_i out1 zI;cases O;obtain⟨q1,q2⟩:=ny.io g0 _ V _ _ zI;refine MU ho nv hv q1 ?_;have uP:=ny.flag _ _ _ _ _ zI;have:=q2 E w0 I0 F0 O0 Hd R e a.defers I F lp L a.tmps.toList ml _ w o.dst hs hf nX (fun d qq=>⟨by rw[qq];rfl,hd d qq⟩) (fun hn=>by simp only[Jv,uP,hn,jC,kX,j9,kg,iS] at se;exact se);rw[jx] at this;refine CallsIn.qp this fun en w' hq=>?_;cases en with
    | returned v =>
     obtain⟨I',L',p1,p2⟩:=hq;refine⟨I',F,L',?_,p2⟩;rw[Ik];exact p1
    | panicked chain=>exact hq.elim
    | outgrown=>exact hq.elim
   rename_i oV;split at O
   ·rename_i hS;rw[iS] at hS;have oi:=nX.shut hS;split at O
    ·rename_i hy;split at O
     ·rename_i r obs e1 hc;cases O;obtain⟨Ir,rQ,wr,hand,zE⟩:=mS.hand;obtain⟨q1,q2⟩:=hM E h R dep lp Ir rQ wr g0 _ e r obs e' hc hand mS.dep;refine MU ho nv hv q1 ?_;have:=q2 I F w _ (zE.trans hf.ext) hf.sep hf.wd hf.re oi;rw[jx] at this;refine CallsIn.qp this fun en w' hq=>?_;cases en with
      | returned v =>
       obtain⟨I',F',ps,ov⟩:=hq;obtain⟨L',g1,g2⟩:=taken hs hf ov hd;exact⟨I',F',L',g1,g2⟩
      | panicked chain=>exact hq.elim
      | outgrown=>exact hq.elim
     {cases O}
    {rename_i hy;split at O;{rename_i r obs u hc;cases O;obtain⟨q1,q2⟩:=XY hM hs hf ho nv hv oi (by simpa using hy) hc hd;exact MU ho nv hv q1 q2};{cases O}}
   ·rename_i hS;obtain⟨hk,O⟩:=AQ O;simp only[ie,jt] at hk;have oi:=QH hs hk.2 nX fun J hn=>DI _ _ J hn;split at O
    ·rename_i r obs u hc;cases O;by_cases qa:(r.free&&obs.all Ob.free&&!M.nC g0)=true;{rw[lu qa];rw[ie,ie] at qa;replace qa:=qa.1;obtain⟨q1,q2⟩:=vF hM hs hf ho nv hv oi hk.1 hc qa.1 qa.2 hd;exact MU ho nv hv q1 q2}
     ·rw[lr qa];have hS:(Ar vall).isEmpty=false:=by simpa using hS
      have mP:=ZD (V:=V) hS;have pJ:=hs.freeze hk.2;have ql:=hf.freeze (AI (Ac V.mi) AG (Ar vall));rw[Zk mP];obtain⟨q1,q2⟩:=XY hM pJ ql ho nv hv oi hk.1 hc (fun d uU=>WC (hd d uU));exact MU ho nv hv q1 q2
    {cases O}
 {cases O}
end frames
end Go.Ab


namespace Go.Ab
variable{D:Nm->Prop} {G:EO} {L':As} {P:lO} {Q:Exit->Act->lJ->Prop} {args:md} {b:Bool} {ds:List lQ} {f:RX} {id:Nat} {l':lU} {rp:List lY} {ops:Array Oper} {ro:lT} {mH:l8} {mM:St}
theorem vH {o:Oper} (h:BH P G o=some (.call f args)) :
  ∃ c fo,o.op=.call c/\c.callee=.value fo/\rx G fo=some f/\DT G c.args.toList=some args:=by
 cases ho:o.op with
 | call c =>
  simp only[BH,ho] at h;split at h;·cases h
  ·rename_i as has;split at h;{rename_i fo nv;obtain⟨f',hf,he⟩:=ij.1 h;cases he;exact⟨c,fo,rfl,nv,hf,has⟩}
   all_goals (repeat' split at h)<;>first | contradiction | cases h
 | _ =>
  exfalso;simp only[BH,ho] at h
  repeat' split at h
  all_goals first
   | contradiction
   |(cases h;done)
   |(simp[ij] at h;done)
section ops
variable {E:Type} {cx:Cx} {w0:lJ} {I0 F0:Nat->Prop} {O0:BE} {Hd:Nat->Option Obj} {R:Bs E} {e e':E} {F F':Nat->Prop} {lp:Nat->lT} {ml mN:List lK}
variable {I I':Nat->Prop} {L:As} {V st':St} {a:Act} {w w':lJ} {o:Oper} {M:AK} {h:AF E} {dep:Nat}
theorem step_op (hM:D4 cx M.call) (ny:GC cx M) (mS:GB cx lp R h dep w0 I0 F0) (hs:SR lp I L V a.tmps.toList ml w) (hf:Fr cx w0 I0 F0 O0 Hd R e a.defers I F L w) {out:Al}
  (O:By M h dep (Cw cx.P cx.G o) V e=some (out,e')):P3 cx w0 I0 F0 O0 Hd R lp ml o a w (apply V o.dst out) e':=by
 unfold By at O;obtain⟨qo,O⟩:=AQ O;cases hc:BH cx.P cx.G o with
 | none=>simp[Cw,hc,yR,exec] at O
 | some r9 =>
  have qk:(Cw cx.P cx.G o).op=r9:=by simp[Cw,hc,yR]
  have hds:(Cw cx.P cx.G o).dst=o.dst:=rfl
  have zJ:DO r9=true->(∀ d,o.dst=some d->V.mi[d]?=some [])/\(C4 r9=false->∃ d,o.dst=some d):=by
   intro hmk;unfold Ce at qo;rw[qk,hmk,hds] at qo;simp only[lq] at qo;constructor;{intro d hd;rw[hd] at qo;simp only at qo;split at qo;{assumption};·cases qo}
   ·intro hnc;cases hd:o.dst with
    | some d=>exact⟨d,rfl⟩
    | none =>
     rw[hd] at qo;cases r9<;>simp[C4] at hnc qo
  rw[qk,hds] at O;cases tn:C4 r9 with
  | true =>
   cases r9<;>simp[C4] at tn;rename_i f args;obtain⟨c,fo,ho,nv,U,H⟩:=vH hc;obtain⟨O,se⟩:=QF O;exact vG hM ny mS hs hf ho nv U H (zJ rfl).1 O se
  | false =>
   have p9:exec (o.dst.getD 0) (Ac V.mi) V.tmps r9=some out/\e'=e:=by cases r9<;>simp[C4] at tn<;>(simp only at O;split at O<;>simp_all)
   obtain⟨p9,rfl⟩:=p9;refine Yj ?_ (vB hs hf hc (fun hmk=>?_) tn p9);{intro c hd;simp[BH,hd] at hc};{obtain⟨g1,g2⟩:=zJ hmk;obtain⟨d,hd⟩:=g2 tn;exact⟨d,hd,g1 d hd⟩}
theorem SR.tI (hs:SR lp I L V mN ml w) [DecidablePred D] (oN:∀ J,Ac rp J=if D J then none else (Ac V.mi J).map (Ob.sub fun m=>if D m then some none else none)) :
  SR lp I (fun J=>if D J then none else L J) {tmps:=AM (fun m=>if D m then some none else none) V.tmps,mi:=rp,mj:=AM (fun m=>if D m then some none else none) V.mj} mN ml w:=by
 have pA:DR w I lp L (some fun J=>if D J then none else L J) (fun _=>True) (fun m=>if D m then some none else none):=by intro m q _ hq;by_cases hm:D m;{simp[hm]};{simp[hm,hq]}
 refine hs.subst (w':=w) (fun _ h=>h) (fun _ _=>rfl) pA ?_ ?_;{intro J ob hl;rw[oN] at hl;by_cases hd:D J;{simp[hd] at hl};{simp only[hd,lm] at hl |-;obtain⟨oZ,rG,rfl⟩:=ij.1 hl;obtain⟨p,hp,ha⟩:=hs.ob J oZ rG;exact⟨p,hp,ha.subst (fun _ h=>h) (fun _ _=>rfl) pA (fun _ _=>trivial) fun _ _ _=>rfl⟩}};{intro J hl;rw[oN] at hl;by_cases hd:D J;{simp[hd]};{simp only[hd,lm] at hl |-;exact hs.pR J (by simpa using hl)}}
theorem Fr.tI (hf:Fr cx w0 I0 F0 O0 Hd R e ds I F L w) (hL:∀ J p,L' J=some p->L J=some p):Fr cx w0 I0 F0 O0 Hd R e ds I F L' w :=
 hf.own rfl rfl rfl (ik _) (fun _ _ _=>rfl) (fun _ h=>h) (fun _ h=>.inl h)
  (fun J b C hn=>⟨(hf.lB J b C (hL _ _ hn)).2.1,(hf.lB J b C (hL _ _ hn)).2.2.1,.inr ⟨J,C,hL _ _ hn⟩⟩)
  (fun J nr b C C' U H=>hf.inj J nr b C C' (hL _ _ U) (hL _ _ H))
theorem Pm (Z:lU) (hs:SR lp I L V mN ml w) (hf:Fr cx w0 I0 F0 O0 Hd R e ds I F L w):∃ L',SR lp I L' (Cf Z V) mN ml w/\Fr cx w0 I0 F0 O0 Hd R e ds I F L' w:=by
 unfold Cf;split;{exact⟨L,hs,hf⟩}
 ·refine⟨fun J=>if Z.contains J.1=true then none else L J,?_,hf.tI fun J p hn=>?_⟩
  ·have:=hs.tI (D:=fun J=>Z.contains J.1=true) (rp:=(V.mi.map (·.map (Ob.sub fun m=>if Z.contains m.1=true then some none else none))).zipIdx.map fun x=>if Z.contains x.2=true then [] else x.1) (by
    intro J;unfold Ac;rw[iC,jD,iC];cases h0:V.mi[J.1]? with
    | none=>simp
    | some l =>
     simp only[iu,iO];by_cases hd:Z.contains J.1=true
     ·simp only[hd,lq];rfl
     ·simp only[hd];simp)
   exact this
  ·change (if Z.contains J.1=true then none else L J)=some p at hn;split at hn;·cases hn
   {exact hn}
theorem Zm (hs:SR lp I L V a.tmps.toList ml w) (h:BO (ops.toList.map (Cw cx.P cx.G)) (Cw cx.P cx.G o) V.tmps=some b):Region.wanted o (yielded ops a.tmps)=b:=by
 unfold BO at h;have hg:(Cw cx.P cx.G o).guard=o.guard:=rfl;rw[hg] at h;unfold Region.wanted;cases yC:o.guard with
 | none=>rw[yC] at h;simpa using h
 | some jw =>
  obtain⟨j,want⟩:=jw;rw[yC] at h;simp only[iC,j3] at h;cases hj:ops[j]? with
  | none=>rw[hj] at h;simp at h
  | some p =>
   rw[hj] at h;simp only[iu] at h;have hpd:(Cw cx.P cx.G p).dst=p.dst:=rfl;rw[hpd] at h;cases hd:p.dst with
   | none=>rw[hd] at h;simp at h
   | some d =>
    rw[hd] at h;simp only at h;cases O:V.tmps[d]? with
    | none=>rw[ip,O] at h;simp at h
    | some x =>
     obtain⟨v,hv,hr⟩:=hs.tm.get O;rw[j3] at hv;rw[ip,O] at h;simp only[iT] at h;show (yielded ops a.tmps j==some want)=b;split at h
     ·rename_i b';cases h;have hy:yielded ops a.tmps j=some b':=by simp[yielded,hj,hd,hv,Fd hr]
      rw[hy];cases b'<;>cases want<;>rfl
     ·cases h;obtain⟨A,rfl,_⟩:=bn hr;have hy:yielded ops a.tmps j=none:=by simp[yielded,hj,hd,hv]
      rw[hy];rfl
     {cases h}
inductive IS (M:AK) {E:Type} (h:AF E) (dep:Nat) (mH:l8):lU->St->E->St->E->Prop
 | nil (V:St) (e:E):IS M h dep mH [] V e V e
 | cons (i:Nat) (rest:lU) (o:AD) (V uu mM:St) (e e1 e2:E) (ho:mH[i]?=some o) (hs:stepG M h dep mH o V e=some (uu,e1)) (hr:IS M h dep mH rest uu e1 mM e2):IS M h dep mH (i :: rest) V e mM e2
theorem Xp (a:Act) (dst:lT) (v:lK):(a.put dst v).defers=a.defers:=by cases dst<;>rfl
theorem TU (hM:D4 cx M.call) (ny:GC cx M) (mS:GB cx lp R h dep w0 I0 F0):∀ {l:lU} {V mM:St} {e e2:E},IS M h dep (ops.toList.map (Cw cx.P cx.G)) l V e mM e2 ->
  ∀ {a:Act} {w:lJ} {I F:Nat->Prop} {L:As},SR lp I L V a.tmps.toList ml w->Fr cx w0 I0 F0 O0 Hd R e a.defers I F L w ->
  (∀ a' w' I' F' L',SR lp I' L' mM a'.tmps.toList ml w'->Fr cx w0 I0 F0 O0 Hd R e2 a'.defers I' F' L' w'->wpOpsIn (De ro) 0 cx.P ops Q l' a' w')->wpOpsIn (De ro) 0 cx.P ops Q (l++l') a w:=by
 intro l V mM e e2 ng;induction ng with
 | nil V e=>intro a w I F L hs hf hQ;exact hQ a w I F L hs hf
 | cons i rest ro' V uu mM e e1 e2 ho pB _ ih =>
  intro a w I F L hs hf hQ;simp only[iC,j3,ij] at ho;obtain⟨o,ho,rfl⟩:=ho;simp only[ki,wpOpsIn,ho];unfold stepG at pB;split at pB;{rename_i hw;rw[Zm hs hw];simp only[lq];unfold IA at pB;split at pB;{rename_i out nW mC;cases pB;exact step_op hM ny mS hs hf mC ro _ Q fun v' w' I' F' L' g1 g2=>ih g1 (by rw[Xp];exact g2) hQ};{cases pB}};{rename_i hw;rw[Zm hs hw];cases pB;refine⟨fun _ _=>trivial,?_⟩;exact ih (hs.yZ o.dst (.mn [] #[] .nil)) (by rw[Xp];exact hf) hQ};{cases pB}
theorem WO:∀ (k:Nat) {V mM:St} {e e2:E},Dy M h dep mH (mH.drop k) V e=some (mM,e2)->IS M h dep mH ((List.range mH.length).drop k) V e mM e2:=by
 have key:∀ (n k:Nat) {V mM:St} {e e2:E},mH.length - k=n->Dy M h dep mH (mH.drop k) V e=some (mM,e2)->IS M h dep mH ((List.range mH.length).drop k) V e mM e2:=by
  intro n;induction n with
  | zero =>
   intro k V mM e e2 hn hr;rw[j7 (by omega)] at hr;rw[j7 (by simp;omega)];simp only[Dy,il,iP] at hr;obtain⟨rfl,rfl⟩:=hr;exact .nil V e
  | succ n ih =>
   intro k V mM e e2 hn hr;have hk:k < mH.length:=by omega
   rw[ko hk] at hr;rw[ko (by simpa using hk)];simp only[Dy] at hr;split at hr;{rename_i uu e1 pI;rw[List.getElem_range];exact .cons k _ mH[k] V uu mM e e1 e2 (iG hk) pI (ih (k+1) (by omega) hr)};{cases hr}
 intro k V mM e e2 hr;exact key _ k rfl hr
theorem dy (hM:D4 cx M.call) (ny:GC cx M) (mS:GB cx lp R h dep w0 I0 F0) {e2:E}
  (hr:Dy M h dep (ops.toList.map (Cw cx.P cx.G)) (ops.toList.map (Cw cx.P cx.G)) (Cf (BI (ops.toList.map (Cw cx.P cx.G))) V) e=some (mM,e2))
  (hs:SR lp I L V a.tmps.toList ml w) (hf:Fr cx w0 I0 F0 O0 Hd R e a.defers I F L w)
  (hQ:∀ a' w' I' F' L',SR lp I' L' mM a'.tmps.toList ml w'->Fr cx w0 I0 F0 O0 Hd R e2 a'.defers I' F' L' w'->Q .normal a' w'):(Code.region id ops false).wpIn (De ro) 0 cx.P Q a w:=by
 obtain⟨L',nT,nx⟩:=Pm (BI (ops.toList.map (Cw cx.P cx.G))) hs hf;refine wpIn_region ?_;have:=WO 0 (by simpa using hr);simp only[j8,iW,jQ] at this;have:=TU (l':=[]) (Q:=Q) (ro:=ro) hM ny mS this nT nx hQ
 rwa [j6] at this
end ops
end Go.Ab


namespace Go.Ab
variable{E α:Type} {M:AK} {R S l:lW} {args:md} {b:Bool} {c:TC} {dst k:Nat} {v x:PV} {h:AF E} {y:α}
def Ag (R:lW) (σ σ':Nm->lV):Prop:=∀ J∈R,σ J=σ' J
mutual
theorem PV.sub_congr {f g:Nm->Option lV}:∀ (x:PV),(∀ J∈x.names,f J=g J)->x.sub f=x.sub g
 | .agg cs,h=>by simp only[PV.sub];rw[Jk cs (by simpa[PV.names] using h)]
 | .iface t x,h=>by simp only[PV.sub];rw[PV.sub_congr x (by simpa[PV.names] using h)]
 | .fn k cap,h=>by simp only[PV.sub];rw[Jk cap (by simpa[PV.names] using h)]
 | .mn Z,h=>by simp only[PV.sub];rw[Jk Z (by simpa[PV.names] using h)]
 | .ref J o,h=>by simp only[PV.sub,h J (by simp[PV.names])]
 | .my J k i o,h=>by simp only[PV.sub,h J (by simp[PV.names])]
 | .arr J k o n,h=>by simp only[PV.sub,h J (by simp[PV.names])]
 | .mp J,h=>by simp only[PV.sub,h J (by simp[PV.names])]
 | .it J,h=>by simp only[PV.sub,h J (by simp[PV.names])]
 | .undef,_=>rfl
 | .bool _,_=>rfl
 | .int _ _,_=>rfl
 | .str _,_=>rfl
 | .mu,_=>rfl
 | .mJ,_=>rfl
 | .nn,_=>rfl
 | .mB,_=>rfl
 | .ni,_=>rfl
 | .sl _ _ _,_=>rfl
 | .ptr _ _,_=>rfl
 | .mF _,_=>rfl
 | .nb _,_=>rfl
 | .mY _ _,_=>rfl
theorem Jk {f g:Nm->Option lV}:∀ (Z:lS),(∀ J∈Ar Z,f J=g J)->AM f Z=AM g Z
 | [],_=>rfl
 | x :: Z,h=>by
  simp only[AM];rw[PV.sub_congr x (fun J hn=>h J (iF _ hn)),Jk Z fun J hn=>h J (iJ _ hn)]
end
theorem Ob.sub_congr {f g:Nm->Option lV} (o:Ob) (h:∀ J∈o.names,f J=g J):o.sub f=o.sub g:=by
 cases o with
 | cells ty cs=>simp only[Ob.sub];rw[Jk cs h]
 | arr k kt Z=>rfl
 | map es=>simp only[Ob.sub];rw[Jk es h]
 | mD s p=>rfl
mutual
theorem oG:∀ (x:PV),x.sub (fun _=>none)=x
 | .agg cs=>by simp[PV.sub,nV cs]
 | .iface t x=>by simp[PV.sub,oG x]
 | .fn g cap=>by simp[PV.sub,nV cap]
 | .mn Z=>by simp[PV.sub,nV Z]
 | .undef | .bool _ | .int _ _ | .str _ | .mu | .mJ | .nn | .mB | .ni | .sl _ _ _ | .ptr _ _ | .mF _ | .nb _ | .mY _ _ | .ref _ _ | .my _ _ _ _ | .arr _ _ _ _ | .mp _ | .it _=>by simp[PV.sub]
theorem nV:∀ (Z:lS),AM (fun _=>none) Z=Z
 | []=>rfl
 | x :: Z=>by simp[AM,oG x,nV Z]
end
theorem Ob.oG (o:Ob):o.sub (fun _=>none)=o:=by cases o<;>simp[Ob.sub,nV]
def S3 (σ:Nm->lV) (l:lW):lW:=l.flatMap fun J=>((σ J).map Ob.names).getD []
theorem MW (σ:Nm->lV) (d:Nat) (l:lW):AI σ (d+1) l=l++AI σ d (S3 σ l):=rfl
theorem TW {σ:Nm->lV}:∀ (d:Nat) (l:lW) (J:Nm),J∈l->J∈AI σ d l
 | 0,_,_,h=>h
 | _+1,_,_,h=>iF _ h
theorem Kg {σ:Nm->lV}:∀ (d:Nat) (l l':lW),(∀ J∈l,J∈l')->∀ J∈AI σ d l,J∈AI σ d l':=by
 intro d;induction d with
 | zero=>intro l l' h;exact h
 | succ d ih =>
  intro l l' h J hn;rw[MW] at hn |-;rcases iH.1 hn with hn | hn;{exact iF _ (h J hn)}
  {refine iJ _ (ih _ _ (fun m hm=>?_) J hn);obtain⟨k,hk,hm⟩:=ji.1 hm;exact ji.2 ⟨k,h k hk,hm⟩}
theorem fG {σ σ':Nm->lV} (h:Ag l σ σ'):S3 σ l=S3 σ' l:=by
 unfold S3;induction l with
 | nil=>rfl
 | cons x l ih=>rw[jJ,jJ,h x iw,ih fun J hn=>h J (iA _ hn)]
theorem LL {σ σ':Nm->lV}:∀ (d:Nat) (l:lW),Ag (AI σ d l) σ σ'->AI σ d l=AI σ' d l:=by
 intro d;induction d with
 | zero=>intro l _;rfl
 | succ d ih =>
  intro l h;rw[MW] at h;have U:Ag l σ σ':=fun J hn=>h J (iF _ hn);rw[MW,MW,<-fG U,ih _ fun J hn=>h J (iJ _ hn)]
theorem dv {σ σ':Nm->lV}:∀ (d:Nat) (o:Ob),Ag (AI σ d o.names) σ σ'->FK σ (d+1) o=FK σ' (d+1) o:=by
 intro d;induction d with
 | zero =>
  intro o h;simp only[FK];exact Ob.sub_congr o fun J hn=>by rw[h J hn]
 | succ d ih =>
  intro o h;rw[FK,FK];refine Ob.sub_congr o fun J hn=>?_;have U:=h J (TW _ _ _ hn);rw[<-U];cases ho:σ J with
  | none=>rfl
  | some ob =>
   simp only[iu];rw[ih ob fun m hm=>h m ?_];rw[MW];refine iJ _ (Kg d _ _ (fun k hk=>ji.2 ⟨J,hn,by simpa[ho] using hk⟩) m hm)
theorem OG {σ σ':Nm->lV} (h:Ag (AI σ AG S) σ σ'):∀ J∈S,A7 σ J=A7 σ' J:=by
 intro J hn;have U:=h J (TW _ _ _ hn);unfold A7;rw[<-U];cases ho:σ J with
 | none=>rfl
 | some ob =>
  simp only[iu];rw[show AG=2+1 from rfl,dv 2 ob fun m hm=>h m ?_];rw[show AG=2+1 from rfl,MW];exact iJ _ (Kg 2 _ _ (fun k hk=>ji.2 ⟨J,hn,by simpa[ho] using hk⟩) m hm)
theorem TE {σ σ':Nm->lV} (h:Ag R σ σ'):B3 σ R=B3 σ' R:=by
 unfold B3
 have:∀ (l:lW),Ag l σ σ'->(l.all fun J=>(((σ J).map Ob.names).getD []).all fun m=>R.contains m)=(l.all fun J=>(((σ' J).map Ob.names).getD []).all fun m=>R.contains m):=by
  intro l;induction l with
  | nil=>intro _;rfl
  | cons x l ih=>intro h;rw[jp,jp,h x iw,ih fun J hn=>h J (iA _ hn)]
 exact this R h
theorem Dh {x:Option α} (h:Av b x=some y):b=true/\x=some y:=by cases b;{simp[Av] at h};{exact⟨rfl,by simpa[Av] using h⟩}
theorem Wx {Z:lS} (h:x∈Z):∀ J∈x.names,J∈Ar Z:=by
 induction Z with
 | nil=>cases h
 | cons y ys ih =>
  intro J hn;rcases im.1 h with rfl | h;{exact iF _ hn};{exact iJ _ (ih h J hn)}
theorem GU {tm qs:lS} {Z:md} (h:∀ x∈Z,x.ev tm=x.ev qs):Z.map (RX.ev tm)=Z.map (RX.ev qs):=iV h
theorem gT {tm qs:lS}:∀ (ps:List (Nat×Nat×RX)) (z:lS),(∀ x∈ps.map (·.2.2),x.ev tm=x.ev qs)->EK tm z ps=EK qs z ps:=by
 intro ps;induction ps with
 | nil=>intro z _;rfl
 | cons p ps ih =>
  obtain⟨off,n,x⟩:=p;intro z h;simp only[EK];rw[h x (by simp),ih _ fun y hy=>h y (by simp at hy |-;exact .inr hy)]
theorem Kk {tm qs:lS} {x:mh} (h:∀ y∈x.toList,y.ev tm=y.ev qs):Cz tm x=Cz qs x:=by
 cases x with
 | none=>rfl
 | some y=>simp only[Cz];rw[h y (by simp)]
section
variable {σ σ':Nm->lV} {tm qs:lS}
theorem QK (h:∀ J∈v.names,σ J=σ' J):DD σ k v=DD σ' k v:=by
 cases v<;>first | rfl | skip
 rename_i J k' o n;simp only[DD];rw[h J (by simp[PV.names])]
theorem vI (h:∀ J∈v.names,σ J=σ' J):JS σ c v=JS σ' c v:=by
 cases v<;>cases c<;>first | rfl | skip
 rename_i J;simp only[JS];rw[h J (by simp[PV.names])]
theorem T3 (op:An) (O:∀ x∈op.Z,x.ev tm=x.ev qs) (hσ:Ag (AI σ AG (Ar (op.Z.map (RX.ev tm)))) σ σ'):exec dst σ tm op=exec dst σ' qs op:=by
 have hn:∀ x∈op.Z,∀ J∈(x.ev tm).names,σ J=σ' J:=fun x O J hn=>hσ J (TW _ _ _ (Wx (List.mem_map_of_mem O) J hn));cases op with
 | mov x=>simp only[exec];rw[O x (by simp[An.Z])]
 | pick c a b=>simp only[exec];rw[O c (by simp[An.Z]),O a (by simp[An.Z]),O b (by simp[An.Z])]
 | box x=>simp only[exec];rw[O x (by simp[An.Z])]
 | alloc z=>rfl
 | build z ps=>simp only[exec];rw[gT ps z (by simpa[An.Z] using O)]
 | qf k ps =>
  have U:=GU (Z:=ps) O;simp only[An.Z] at hσ;simp only[exec];rw[<-U];have H:=LL _ _ hσ;rw[<-H,<-TE hσ,Jk (f:=A7 σ) (g:=A7 σ') _ (OG hσ)]
 | load n ag x =>
  have U:=hn x (by simp[An.Z]);simp only[exec];rw[<-O x (by simp[An.Z])];cases hv:x.ev tm<;>first | rfl | skip
  all_goals (rw[hv] at U;(try simp only);rw[U _ (by simp[PV.names])])
 | store n x v =>
  have U:=hn x (by simp[An.Z]);simp only[exec];rw[<-O x (by simp[An.Z]),<-O v (by simp[An.Z])];cases hv:x.ev tm<;>first | rfl | skip
  all_goals (rw[hv] at U;(try simp only);rw[U _ (by simp[PV.names])])
 | nilck x=>simp only[exec];rw[O x (by simp[An.Z])]
 | bin op c pU x y=>simp only[exec];rw[O x (by simp[An.Z]),O y (by simp[An.Z])]
 | un op x=>simp only[exec];rw[O x (by simp[An.Z])]
 | conv k x=>simp only[exec];rw[O x (by simp[An.Z])]
 | nS x=>simp only[exec];rw[O x (by simp[An.Z])]
 | ofBytes x =>
  simp only[exec];rw[<-O x (by simp[An.Z]),QK (hn x (by simp[An.Z]))]
 | oe x=>simp only[exec];rw[O x (by simp[An.Z])]
 | pt x=>simp only[exec];rw[O x (by simp[An.Z])]
 | mkI t x=>simp only[exec];rw[O x (by simp[An.Z])]
 | mkF f cap=>simp only[exec];rw[GU (Z:=cap) O]
 | mkMap=>rfl
 | insert c x k v =>
  have U:=hn x (by simp[An.Z]);simp only[exec];rw[<-O x (by simp[An.Z]),<-O k (by simp[An.Z]),<-O v (by simp[An.Z])];have qH:Ag (AI σ AG (v.ev tm).names) σ σ':=fun J hn=>hσ J (Kg _ _ _ (fun m hm=>by simp[An.Z,Ar,hm]) J hn);generalize hS:(if SP (v.ev tm)=true then [] else (v.ev tm).names)=S;have hSub:S=[]\/S=(v.ev tm).names:=by rw[<-hS];split;{exact .inl rfl};{exact .inr rfl}
  have oD:B3 σ (if S.isEmpty=true then [] else AI σ AG S)=B3 σ' (if S.isEmpty=true then [] else AI σ AG S):=by split;{rfl};{rename_i mP;rcases hSub with e | e;{rw[e] at mP;simp at mP};{rw[e];exact TE qH}}
  have sF:(if S.isEmpty=true then [] else AI σ AG S)=(if S.isEmpty=true then [] else AI σ' AG S):=by split;{rfl};{rename_i mP;rcases hSub with e | e;{rw[e] at mP;simp at mP};{rw[e];exact LL _ _ qH}}
  rw[<-sF,oD,PV.sub_congr (f:=A7 σ) (g:=A7 σ') (v.ev tm) (OG qH)];cases hv:x.ev tm<;>first | rfl | skip
  all_goals (rw[hv] at U;(try simp only);rw[U _ (by simp[PV.names])])
 | lookup c z ok x k =>
  have U:=hn x (by simp[An.Z]);simp only[exec];rw[<-O x (by simp[An.Z]),<-O k (by simp[An.Z])];cases hv:x.ev tm<;>first | rfl | skip
  all_goals (rw[hv] at U;(try simp only);rw[U _ (by simp[PV.names])])
 | uN k z l c=>simp only[exec];rw[O l (by simp[An.Z]),O c (by simp[An.Z])]
 | slice k x lo hi mx =>
  simp only[An.Z] at O;simp only[exec];rw[O x (by simp),Kk (x:=lo) fun y hy=>O y (by simp at hy |-;simp[hy]),Kk (x:=hi) fun y hy=>O y (by simp at hy |-;simp[hy]),Kk (x:=mx) fun y hy=>O y (by simp at hy |-;simp[hy])]
 | nB x lo hi =>
  simp only[An.Z] at O;simp only[exec];rw[O x (by simp),Kk (x:=lo) fun y hy=>O y (by simp at hy |-;simp[hy]),Kk (x:=hi) fun y hy=>O y (by simp at hy |-;simp[hy])]
 | fieldAddr off x=>simp only[exec];rw[O x (by simp[An.Z])]
 | field off n ag x=>simp only[exec];rw[O x (by simp[An.Z])]
 | mw k x i=>simp only[exec];rw[O x (by simp[An.Z]),O i (by simp[An.Z])]
 | nL k len x i=>simp only[exec];rw[O x (by simp[An.Z]),O i (by simp[An.Z])]
 | oE x i=>simp only[exec];rw[O x (by simp[An.Z]),O i (by simp[An.Z])]
 | extract j x=>simp only[exec];rw[O x (by simp[An.Z])]
 | len c x =>
  simp only[exec];rw[<-O x (by simp[An.Z]),vI (hn x (by simp[An.Z]))]
 | append k ty s x =>
  have U:=hn s (by simp[An.Z]);simp only[exec];rw[<-O x (by simp[An.Z]),<-O s (by simp[An.Z]),QK (hn x (by simp[An.Z]))];cases hv:s.ev tm with
  | arr J k' o n =>
   rw[hv] at U;have:=U J (by simp[PV.names]);cases DD σ' k (x.ev tm) with
   | none=>rfl
   | some ys=>show (match σ J with | some (.arr qg kt Z)=>_ | _=>none)=_;rw[this];rfl
  | sl k' Z full=>cases full<;>rfl
  | _=>rfl
 | copy k d s =>
  have U:=hn d (by simp[An.Z]);simp only[exec];rw[<-O s (by simp[An.Z]),<-O d (by simp[An.Z]),QK (hn s (by simp[An.Z]))];cases hv:d.ev tm with
  | arr J k' o n =>
   rw[hv] at U;simp only
   rw[U _ (by simp[PV.names])]
  | sl k' Z full=>cases Z<;>rfl
  | _=>rfl
 | nQ mx Z=>simp only[exec];rw[GU (Z:=Z) O]
 | call f args=>rfl
 | iter x=>simp only[exec];rw[O x (by simp[An.Z])]
 | next x =>
  have U:=hn x (by simp[An.Z]);simp only[exec];rw[<-O x (by simp[An.Z])];cases hv:x.ev tm<;>first | rfl | skip
  all_goals (rw[hv] at U;(try simp only);rw[U _ (by simp[PV.names])])
 | nJ t z ok x=>simp only[exec];rw[O x (by simp[An.Z])]
 | bad=>rfl
theorem XV (op:An) (hb:D7 op=true) (O:∀ x∈op.Z,x.ev tm=x.ev qs):exec dst σ tm op=exec dst σ' qs op:=by
 cases op<;>simp only[D7] at hb<;>first | (cases hb;done) | skip
 case mov x=>simp only[exec];rw[O x (by simp[An.Z])]
 case pick c a b=>simp only[exec];rw[O c (by simp[An.Z]),O a (by simp[An.Z]),O b (by simp[An.Z])]
 case nilck x=>simp only[exec];rw[O x (by simp[An.Z])]
 case mkI t x=>simp only[exec];rw[O x (by simp[An.Z])]
 case mkF f cap=>simp only[exec];rw[GU (Z:=cap) O]
 case fieldAddr off x=>simp only[exec];rw[O x (by simp[An.Z])]
 case extract j x=>simp only[exec];rw[O x (by simp[An.Z])]
 case slice k x lo hi mx =>
  simp only[An.Z] at O;simp only[exec];rw[O x (by simp),Kk (x:=lo) fun y hy=>O y (by simp at hy |-;simp[hy]),Kk (x:=hi) fun y hy=>O y (by simp at hy |-;simp[hy]),Kk (x:=mx) fun y hy=>O y (by simp at hy |-;simp[hy])]
theorem Y7 (op:An) (hb:Eg op=true) (O:∀ x∈op.Z,x.ev tm=x.ev qs) (uv:Ag (Ar (op.Z.map (RX.ev tm))) σ σ'):exec dst σ tm op=exec dst σ' qs op:=by
 cases op<;>simp only[Eg] at hb<;>first | (cases hb;done) | skip
 case load n ag x =>
  have rE:=O x (by simp[An.Z]);have h:∀ J∈(x.ev tm).names,σ J=σ' J:=fun J hn=>uv J (by simpa[An.Z,Ar] using hn);simp only[exec,<-rE];cases mo:x.ev tm with
  | ref J o=>simp only[h J (by rw[mo];simp[PV.names])]
  | my J k i o=>simp only[h J (by rw[mo];simp[PV.names])]
  | _=>rfl
theorem XT (op:An) (hb:HB op=true) (O:∀ x∈op.Z,x.ev tm=x.ev qs) (uv:Ag (Ar (op.Z.map (RX.ev tm))) σ σ'):exec dst σ tm op=exec dst σ' qs op:=by
 cases op<;>simp only[HB] at hb<;>first | (cases hb;done) | skip
 case store n x v =>
  have rE:=O x (by simp[An.Z]);have hve:=O v (by simp[An.Z]);have h:∀ J∈(x.ev tm).names,σ J=σ' J:=fun J hn=>uv J (by simp[An.Z,Ar,hn]);simp only[exec,<-rE,<-hve];cases mo:x.ev tm with
  | ref J o=>simp only[h J (by rw[mo];simp[PV.names])]
  | my J k i o=>simp only[h J (by rw[mo];simp[PV.names])]
  | _=>rfl
def Sc (sp:lL->(Nm->lV)->lS->l5):Prop:=∀ (g:lL) (σ σ':Nm->lV) (A:lS),Ag (AI σ AG (Ar A)) σ σ'->sp g σ A=sp g σ' A
def P4 (σ σ':Nm->lV) (out:Al):Prop:=(Bb out=true\/CM out=true)\/(out.mX=[]/\∀ r,out.slot=some r->∀ j,(σ (r,j)).isNone=(σ' (r,j)).isNone)
def Sd (io:lL->Nat->(Nm->lV)->lS->l5):Prop:=∀ (g:lL) (d:Nat) (σ σ':Nm->lV) (A:lS) (out:Al),Ag (AI σ AG (Ar A)) σ σ'->io g d σ A=some out->P4 σ σ' out->io g d σ' A=some out
structure E8 (M:AK):Prop where
 sp:Sc M.sp
 io:Sd M.io
theorem Rg:∀ {Z:lS},A5 Z=false↔∀ x∈Z,x.mV=false
 | []=>by simp[A5]
 | x :: Z=>by simp[A5,Rg (Z:=Z)]
theorem OQ {J:Nm}:∀ {Z:lS},J∈Ar Z↔∃ x∈Z,J∈x.names
 | []=>by simp[Ar]
 | x :: Z=>by simp[Ar,OQ (Z:=Z)]
theorem T0 {f:lL} {A cap:lS} {x:PV} (h:x∈Bc f A cap):x∈A\/x∈cap:=by
 unfold Bc at h;split at h;{exact iH.1 h}
 ·rcases iH.1 h with h | h;{exact .inr (ja h)}
  {rcases iH.1 h with h | h;{exact .inl h};{exact .inr (jH h)}}
theorem X6 (hM:E8 M) {dep:Nat} {f:RX} {e e1:E} {out:Al} (O:∀ x∈(f :: args),x.ev tm=x.ev qs) (hσ:Ag (AI σ AG (Ar ((f :: args).map (RX.ev tm)))) σ σ')
  (hy:A5 ((f :: args).map (RX.ev tm))=false) (nK:P4 σ σ' out) (hc:Cj M h dep dst σ tm f args e=some (out,e1)):e1=e/\∀ e2:E,Cj M h dep dst σ' qs f args e2=some (out,e2):=by
 have hf:=O f iw;have ha:=GU (Z:=args) fun x h=>O x (iA _ h);have hyf:(f.ev tm).mV=false:=(jX.1 hy).1;have hya:A5 (args.map (RX.ev tm))=false:=(jX.1 hy).2;unfold Cj at hc |-;rw[<-hf,<-ha];cases hv:f.ev tm with
 | mF d=>rw[hv] at hyf;simp[PV.mV] at hyf
 | fn g cap =>
  rw[hv] at hc hyf;simp only[PV.mV] at hyf;have hyv:A5 (Bc g (args.map (RX.ev tm)) cap)=false:=Rg.2 fun x O=>(T0 O).elim (Rg.1 hya x) (Rg.1 hyf x)
  have pA:∀ J∈Ar (Bc g (args.map (RX.ev tm)) cap),J∈Ar ((f :: args).map (RX.ev tm)):=by
   intro J hn;obtain⟨x,O,hn⟩:=OQ.1 hn;rcases T0 O with h | h;{exact iJ _ (OQ.2 ⟨x,h,hn⟩)}
   {refine iF _ ?_;rw[hv];simp only[PV.names];exact OQ.2 ⟨x,h,hn⟩}
  have hσ2:Ag (AI σ AG (Ar (Bc g (args.map (RX.ev tm)) cap))) σ σ':=fun J hn=>hσ J (Kg _ _ _ pA J hn);simp only at hc |-;rw[<-hM.sp (AO g) σ σ' _ hσ2,<-LL _ _ hσ2,<-TE hσ2,<-Jk (f:=A7 σ) (g:=A7 σ') _ (OG hσ2)];split at hc
  {rename_i out1 ny;cases hc;exact⟨rfl,fun e2=>by simp⟩};{rename_i ny;split at hc;{rename_i oV;simp only[oV,lq];split at hc;{rename_i out1 ho;cases hc;exact⟨rfl,fun e2=>by simp[hM.io (AO g) dst σ σ' _ _ hσ2 ho nK]⟩};{cases hc}};rename_i oV;simp only[oV,iq,lm];rw[hyv] at hc |-;simp only[iq,lm] at hc |-;split at hc;{rename_i hS;split at hc;{rename_i r obs u pC;cases hc;exact⟨rfl,fun e2=>by simp[hS,pC]⟩};{cases hc}};{rename_i hS;obtain⟨hk,uq⟩:=Dh hc;split at uq;{rename_i r obs u pC;cases uq;exact⟨rfl,fun e2=>by simp[hS,hk,pC,Av]⟩};{cases uq}}}
 | _=>rw[hv] at hc;simp at hc
end
end Go.Ab


namespace Go.Ab
variable{Q:Exit->Act->lJ->Prop} {S:lW} {acc:List (Nat×Nat)} {ag:Bool} {args:md} {c l ord:lU} {cs tm qs:lS} {d' da db dst ro:lT} {ds:List lQ} {f x:RX} {g:PV->PV} {i id j n s y:Nat} {ia ib info:Bk} {k:Option Nm} {ln:Nat->Nat} {new:lY} {J:Nm} {oa:Al} {oZ:Ob} {mi:List lY} {op:An} {mM:St} {u:Option (Nm×Ob)} {v:PV} {σ σ':Nm->lV}
section swap
variable {M:AK} {E:Type} {h:AF E} {dep:Nat} {mH:l8}
theorem Nh {o:AD} {V:St} {e e1:E} {out:Al} (O:A3 M h dep mH i o V e=some (out,e1,info)):info.dst=o.dst:=by
 unfold A3 at O;split at O
 ·split at O;·cases O;rfl
  {cases O}
 {cases O;rfl};{cases O}
theorem X9 (op:An):C4 op=true->∃ f args,op=.call f args:=by cases op<;>simp[C4]
theorem Kh (h:∀ s∈l,tm.getD s .undef=qs.getD s .undef):(l.flatMap fun s=>(qs.getD s .undef).names)=l.flatMap fun s=>(tm.getD s .undef).names:=by rw[kJ,kJ,iV fun s hs=>by rw[<-h s hs]]
theorem WV (h:∀ x∈op.Z,x.ev tm=x.ev qs):FU op tm=FU op qs:=by
 cases op<;>try rfl
 rename_i f args;unfold FU;simp only
 rw[h f (by simp[An.Z]),GU (Z:=args) fun x O=>h x (by simp[An.Z,O])]
theorem XC (h:∀ x∈op.Z,x.ev tm=x.ev qs):Hl op tm v=Hl op qs v:=by
 cases op<;>try rfl
 rename_i n ag x;unfold Hl;simp only
 rw[h x (by simp[An.Z])]
theorem Xe (h:∀ x∈op.Z,x.ev tm=x.ev qs):I5 dst op tm=I5 dst op qs:=by
 cases op<;>cases dst<;>try rfl
 rename_i n x v;unfold I5;simp only
 rw[h x (by simp[An.Z])]
theorem Yk:I5 dst (.load n ag x) tm=none:=by cases dst<;>rfl
theorem vJ:I5 dst (.call f args) tm=none:=by cases dst<;>rfl
theorem ZJ {out:Al} (h:Bb out=true\/CM out=true):out.slot=none:=by rcases h with h | h;{unfold Bb at h;simp only[ie,jY] at h;exact h.2};{unfold CM at h;simp only[ie,jY] at h;exact h.1.2}
theorem ES (hM:E8 M) {o:AD} {V st':St} {e e1:E} {out:Al} (O:A3 M h dep mH i o V e=some (out,e1,info)) (hc:info.cls=.quiet\/info.cls=.turns)
  (U:∀ s∈info.reads,V.tmps.getD s .undef=st'.tmps.getD s .undef) (H:∀ J∈info.rn,Ac V.mi J=Ac st'.mi J) (h3:Ce o st'=Ce o V) :
  (Bb out=true\/CM out=true)/\e1=e/\∀ e2:E,A3 M h dep mH i o st' e2=some (out,e2,info):=by
 have hw:(∀ s∈CB mH o,V.tmps.getD s .undef=st'.tmps.getD s .undef)->BO mH o st'.tmps=BO mH o V.tmps:=by
  intro hg;unfold BO CB at *;cases yC:o.guard with
  | none=>rfl
  | some jw =>
   obtain⟨j,want⟩:=jw;rw[yC] at hg;simp only at hg |-;cases hj:mH[j]? with
   | none=>rfl
   | some p =>
    rw[hj] at hg;simp only at hg |-;cases hd:p.dst with
    | none=>rfl
    | some d =>
     rw[hd] at hg;simp only
     rw[hg d (by simp)]
 unfold A3 at O;split at O
 ·rename_i rR;split at O
  ·rename_i rF nW mC;cases O;simp only[CN] at U H hc
   have uw:(C4 o.op&&A5 (o.op.Z.map (RX.ev V.tmps)))=false:=by
    cases hb:(C4 o.op&&A5 (o.op.Z.map (RX.ev V.tmps))) with
    | false=>rfl
    | true =>
     cases hy:FU o.op V.tmps<;>simp[hb,hy] at hc
   have hyn:C4 o.op=true->A5 (o.op.Z.map (RX.ev V.tmps))=false:=fun h=>by rw[h] at uw;simpa using uw
   have nK:Bb out=true\/CM out=true:=by
    rw[uw] at hc;cases hb:Bb out with
    | true=>exact .inl rfl
    | false =>
     cases vk:CM out with
     | true=>exact .inr rfl
     | false=>rw[hb,vk] at hc;cases hb3:FR out<;>simp[hb3] at hc
   have n6:∀ x∈o.op.Z,x.ev V.tmps=x.ev st'.tmps:=by
    intro x O;cases x with
    | c v=>rfl
    | t s=>exact U s (iF _ (kz.2 ⟨.t s,O,rfl⟩))
   have qo:=h3;have hwt':=hw fun s hs=>U s (iJ _ hs);have oH:(D7 o.op&&Bb out)=false->Ag (AI (Ac V.mi) (FG o.op (Bb out)) (Ar (o.op.Z.map (RX.ev V.tmps))++out.mX)) (Ac V.mi) (Ac st'.mi):=fun hb=>by unfold CI at H;rw[lr (by rw[hb];simp)] at H;exact H
   have tJ:CI o st' out=CI o V out:=by
    unfold CI;rw[<-GU n6];cases hb:(D7 o.op&&Bb out) with
    | true=>rfl
    | false=>rw[<-LL _ _ (oH hb)]
   have tl:Gk (Ac st'.mi) (CI o V out)=Gk (Ac V.mi) (CI o V out):=by unfold Gk;rw[kJ,kJ,iV fun J hn=>by rw[<-H J hn]]
   have hup:out.nh=[]:=by rcases nK with hs | hs;{unfold Bb at hs;simp only[ie,iS] at hs;exact hs.1.2};{unfold CM at hs;simp only[ie,iS] at hs;exact hs.1.1.2}
   have zK:CN mH i o st' out=CN mH i o V out:=by unfold CN;rw[tJ,tl,<-WV n6,<-GU n6,Kh U,<-XC n6,hup,<-Xe n6,ZJ nK];rfl
   have h2s:(D7 o.op&&Bb out)=false->Ag (AI (Ac V.mi) (FG o.op (Bb out)) (Ar (o.op.Z.map (RX.ev V.tmps)))) (Ac V.mi) (Ac st'.mi):=fun hb J hn =>
    oH hb J (Kg _ _ _ (fun m hm=>iF _ hm) J hn)
   unfold By at mC;obtain⟨hf,mC⟩:=AQ mC
   have key:e1=e/\∀ e2:E,By M h dep o st' e2=some (out,e2):=by
    unfold By;rw[qo,hf];cases tn:C4 o.op with
    | true =>
     obtain⟨f,args,qk⟩:=X9 _ tn;have hyn:=hyn tn;rw[qk] at mC n6 h2s hyn;rw[qk];obtain⟨mC,se⟩:=QF mC;obtain⟨g1,g2⟩:=X6 (σ:=Ac V.mi) (σ':=Ac st'.mi) (tm:=V.tmps) (qs:=st'.tmps) hM n6 (h2s rfl) hyn (.inl nK) mC;exact⟨g1,fun e2=>by simp[Av,g2 e2,se]⟩
    | false =>
     have rS:exec (o.dst.getD 0) (Ac V.mi) V.tmps o.op=some out/\e1=e:=by cases qk:o.op<;>rw[qk] at mC tn<;>simp[C4] at tn<;>(simp only at mC;split at mC<;>simp_all)
     have hcg:exec (o.dst.getD 0) (Ac V.mi) V.tmps o.op=exec (o.dst.getD 0) (Ac st'.mi) st'.tmps o.op:=by
      cases hb:(D7 o.op&&Bb out) with
      | true=>exact XV o.op (by revert hb;cases D7 o.op<;>simp) n6
      | false =>
       have ux:=h2s hb;unfold FG at ux;cases rT:HB o.op with
       | true =>
        rw[lu (by rw[rT];rfl)] at ux;exact XT o.op rT n6 ux
       | false =>
       cases hl:(Eg o.op&&Bb out) with
       | true =>
        rw[lu (by rw[hl];simp)] at ux;exact Y7 o.op (by revert hl;cases Eg o.op<;>simp) n6 ux
       | false =>
        rw[lr (by rw[hl,rT];simp)] at ux;exact T3 o.op n6 ux
     rw[rS.1] at hcg;refine⟨rS.2,fun e2=>?_⟩;cases qk:o.op<;>rw[qk] at hcg tn<;>simp[C4] at tn<;>simp[Av,<-hcg]
   refine⟨nK,key.1,fun e2=>?_⟩;unfold A3;rw[hwt',rR];simp only[key.2 e2,zK]
  {cases O}
 {rename_i rR;cases O;refine⟨.inl rfl,rfl,fun e2=>?_⟩;unfold A3;rw[hw fun s hs=>U s hs,rR,Kh U]};{cases O}
theorem YI (mi:List lY) (r j:Nat):Ac mi (r,j)=(mi.getD r [])[j]?:=by unfold Ac;rw[ip];cases mi[r]?<;>rfl
theorem Xt (hM:E8 M) {o:AD} {V st':St} {e e1:E} {out:Al} (O:A3 M h dep mH i o V e=some (out,e1,info)) (hc:info.cls=.quiet\/info.cls=.turns\/info.cls=.ios)
  (U:∀ s∈info.reads,V.tmps.getD s .undef=st'.tmps.getD s .undef) (H:∀ J∈info.rn,Ac V.mi J=Ac st'.mi J) (h3:Ce o st'=Ce o V)
  (h4:(∀ p∈out.nh,Ac V.mi p.1=Ac st'.mi p.1)/\∀ r,out.slot=some r->st'.mi.getD r []=V.mi.getD r []) :
  e1=e/\∀ e2:E,A3 M h dep mH i o st' e2=some (out,e2,info):=by
 have hw:(∀ s∈CB mH o,V.tmps.getD s .undef=st'.tmps.getD s .undef)->BO mH o st'.tmps=BO mH o V.tmps:=by
  intro hg;unfold BO CB at *;cases yC:o.guard with
  | none=>rfl
  | some jw =>
   obtain⟨j,want⟩:=jw;rw[yC] at hg;simp only at hg |-;cases hj:mH[j]? with
   | none=>rfl
   | some p =>
    rw[hj] at hg;simp only at hg |-;cases hd:p.dst with
    | none=>rfl
    | some d =>
     rw[hd] at hg;simp only
     rw[hg d (by simp)]
 unfold A3 at O;split at O
 ·rename_i rR;split at O
  ·rename_i rF nW mC;cases O;simp only[CN] at U H hc
   have uw:(C4 o.op&&A5 (o.op.Z.map (RX.ev V.tmps)))=false:=by
    cases hb:(C4 o.op&&A5 (o.op.Z.map (RX.ev V.tmps))) with
    | false=>rfl
    | true =>
     cases hy:FU o.op V.tmps<;>simp[hb,hy] at hc
   have hyn:C4 o.op=true->A5 (o.op.Z.map (RX.ev V.tmps))=false:=fun h=>by rw[h] at uw;simpa using uw
   have nK:P4 (Ac V.mi) (Ac st'.mi) out:=by
    rw[uw] at hc;cases hb:Bb out with
    | true=>exact .inl (.inl hb)
    | false =>
     cases vk:CM out with
     | true=>exact .inl (.inr vk)
     | false =>
      cases hb3:FR out with
      | false=>rw[hb,vk,hb3] at hc;simp at hc
      | true =>
       unfold FR at hb3;simp only[ie,iS] at hb3;exact .inr ⟨hb3.1.2,fun r hr j=>by rw[YI,YI,h4.2 r hr]⟩
   have n6:∀ x∈o.op.Z,x.ev V.tmps=x.ev st'.tmps:=by
    intro x O;cases x with
    | c v=>rfl
    | t s=>exact U s (iF _ (kz.2 ⟨.t s,O,rfl⟩))
   have qo:=h3;have hwt':=hw fun s hs=>U s (iJ _ hs);have oH:(D7 o.op&&Bb out)=false->Ag (AI (Ac V.mi) (FG o.op (Bb out)) (Ar (o.op.Z.map (RX.ev V.tmps))++out.mX)) (Ac V.mi) (Ac st'.mi):=fun hb=>by unfold CI at H;rw[lr (by rw[hb];simp)] at H;exact H
   have tJ:CI o st' out=CI o V out:=by
    unfold CI;rw[<-GU n6];cases hb:(D7 o.op&&Bb out) with
    | true=>rfl
    | false=>rw[<-LL _ _ (oH hb)]
   have tl:Gk (Ac st'.mi) (CI o V out)=Gk (Ac V.mi) (CI o V out):=by unfold Gk;rw[kJ,kJ,iV fun J hn=>by rw[<-H J hn]]
   have hup:out.nh.map (fun p=>(p.1,Ac st'.mi p.1))=out.nh.map (fun p=>(p.1,Ac V.mi p.1)):=iV fun p hp=>by rw[h4.1 p hp]
   have sn:out.slot.map (fun r=>(r,(st'.mi.getD r []).length))=out.slot.map (fun r=>(r,(V.mi.getD r []).length)):=by
    cases hs:out.slot with
    | none=>rfl
    | some r=>simp only[iu];rw[h4.2 r hs]
   have zK:CN mH i o st' out=CN mH i o V out:=by unfold CN;rw[tJ,tl,<-WV n6,<-GU n6,Kh U,<-XC n6,hup,<-Xe n6,sn]
   have h2s:(D7 o.op&&Bb out)=false->Ag (AI (Ac V.mi) (FG o.op (Bb out)) (Ar (o.op.Z.map (RX.ev V.tmps)))) (Ac V.mi) (Ac st'.mi):=fun hb J hn =>
    oH hb J (Kg _ _ _ (fun m hm=>iF _ hm) J hn)
   unfold By at mC;obtain⟨hf,mC⟩:=AQ mC
   have key:e1=e/\∀ e2:E,By M h dep o st' e2=some (out,e2):=by
    unfold By;rw[qo,hf];cases tn:C4 o.op with
    | true =>
     obtain⟨f,args,qk⟩:=X9 _ tn;have hyn:=hyn tn;rw[qk] at mC n6 h2s hyn;rw[qk];obtain⟨mC,se⟩:=QF mC;obtain⟨g1,g2⟩:=X6 (σ:=Ac V.mi) (σ':=Ac st'.mi) (tm:=V.tmps) (qs:=st'.tmps) hM n6 (h2s rfl) hyn nK mC;exact⟨g1,fun e2=>by simp[Av,g2 e2,se]⟩
    | false =>
     have rS:exec (o.dst.getD 0) (Ac V.mi) V.tmps o.op=some out/\e1=e:=by cases qk:o.op<;>rw[qk] at mC tn<;>simp[C4] at tn<;>(simp only at mC;split at mC<;>simp_all)
     have hcg:exec (o.dst.getD 0) (Ac V.mi) V.tmps o.op=exec (o.dst.getD 0) (Ac st'.mi) st'.tmps o.op:=by
      cases hb:(D7 o.op&&Bb out) with
      | true=>exact XV o.op (by revert hb;cases D7 o.op<;>simp) n6
      | false =>
       have ux:=h2s hb;unfold FG at ux;cases rT:HB o.op with
       | true =>
        rw[lu (by rw[rT];rfl)] at ux;exact XT o.op rT n6 ux
       | false =>
       cases hl:(Eg o.op&&Bb out) with
       | true =>
        rw[lu (by rw[hl];simp)] at ux;exact Y7 o.op (by revert hl;cases Eg o.op<;>simp) n6 ux
       | false =>
        rw[lr (by rw[hl,rT];simp)] at ux;exact T3 o.op n6 ux
     rw[rS.1] at hcg;refine⟨rS.2,fun e2=>?_⟩;cases qk:o.op<;>rw[qk] at hcg tn<;>simp[C4] at tn<;>simp[Av,<-hcg]
   refine⟨key.1,fun e2=>?_⟩;unfold A3;rw[hwt',rR];simp only[key.2 e2,zK]
  {cases O}
 {rename_i rR;cases O;refine⟨rfl,fun e2=>?_⟩;unfold A3;rw[hw fun s hs=>U s hs,rR,Kh U]};{cases O}
theorem OL {V:St} {out:Al} (hs:Bb out=true):apply V dst out=match dst with
  | some d=>{V with tmps:=V.tmps.set d out.v,mi:=if out.new.isEmpty then V.mi else V.mi.set d out.new}
  | none=>V:=by
 unfold Bb at hs;simp only[ie,jY,iS] at hs;obtain⟨⟨⟨⟨⟨U,H⟩,h3⟩,h4⟩,h5⟩,h6⟩:=hs;unfold apply;rw[U,H,h3,h4,h5,h6];cases dst<;>simp
theorem Ij {V:St} {out:Al} (hs:Bb out=true) (h:s ∉ dst.toList):(apply V dst out).tmps.getD s .undef=V.tmps.getD s .undef:=by
 rw[OL hs];cases dst with
 | none=>rfl
 | some d =>
  have mP:d≠s:=fun e=>h (by simp[e]);simp only[ip,iI mP]
theorem GV {V:St} {out:Al} (hs:Bb out=true) (h:J.1 ∉ dst.toList):Ac (apply V dst out).mi J=Ac V.mi J:=by
 rw[OL hs];cases dst with
 | none=>rfl
 | some d =>
  have mP:J.1≠d:=fun e=>h (by simp[e]);simp only
  split;{rfl};{exact EA _ mP}
theorem RL {o:AD} {V st':St} (h:∀ d,o.dst=some d->((st'.mi[d]?).map List.isEmpty=(V.mi[d]?).map List.isEmpty)):Ce o st'=Ce o V:=by
 unfold Ce;cases hm:DO o.op with
 | false=>rfl
 | true =>
  simp only[lq];cases hd:o.dst with
  | none=>rfl
  | some d =>
   have:=h d hd;simp only
   cases U:st'.mi[d]? with
   | none=>rw[U] at this;cases H:V.mi[d]? with
    | none=>rfl
    | some l=>rw[H] at this;cases this
   | some l'=>rw[U] at this;cases H:V.mi[d]? with
    | none=>rw[H] at this;cases this
    | some l =>
     rw[H] at this;simp only[iu,il] at this;cases l<;>cases l'<;>simp_all
theorem Ig {V:St} {out:Al} (hs:Bb out=true) {o:AD} (h:∀ d,o.dst=some d->d ∉ dst.toList):Ce o (apply V dst out)=Ce o V:=by
 refine RL fun d' qq=>?_;have h:=h d' qq;rw[OL hs];cases dst with
 | none=>rfl
 | some d =>
  have mP:d≠d':=fun e=>h (by simp[e]);simp only
  split;{rfl};{rw[iI mP]}
def CH (u:Option (Nm×Ob)) (V:St):St :=
 match u with
 | some (J,ob)=>{V with mi:=AR V.mi J ob}
 | none=>V
def E7 (σ:Nm->lV) (R:lW) (V:St):St:=if R.isEmpty then V else B7 σ R V
def DP (k:Option Nm) (V:St):St :=
 match k with
 | some J=>CF (fun m=>if m=J then some none else none) V
 | none=>V
def zs (o:Al):lW:=o.mX++o.kill.toList
def Cr (dst:lT) (v:PV) (new:lY) (V:St):St :=
 match dst with
 | some d=>{V with tmps:=V.tmps.set d v,mi:=if new.isEmpty then V.mi else V.mi.set d new}
 | none=>V
theorem EB {V:St} {out:Al} (hs:Bb out=true):apply V dst out=Cr dst out.v out.new V:=by rw[OL hs];cases dst<;>rfl
theorem Kf {V:St} {out:Al} (hs:CM out=true):apply V dst out=Cr dst out.v out.new (E7 (Ac V.mi) out.mX (DP out.kill (CH out.nf V))):=by unfold CM at hs;simp only[ie,jY,iS] at hs;obtain⟨⟨⟨H,h3⟩,h4⟩,_⟩:=hs;unfold apply;rw[H,h3,h4];unfold E7;cases hu:out.nf<;>cases hk:out.kill<;>cases dst<;>cases hf:out.mX<;>simp[Cr,CH,DP]
theorem Q6 {d:lT} (h:∀ x∈d'.toList,x ∉ d.toList) (v v':PV) (n n':lY) (V:St):Cr d v n (Cr d' v' n' V)=Cr d' v' n' (Cr d v n V):=by
 cases d with
 | none=>rfl
 | some x =>
  cases d' with
  | none=>rfl
  | some y =>
   have mP:x≠y:=fun e=>h y (by simp) (by simp[e]);simp only[Cr,St.mk.injEq];refine⟨jK _ _ mP.symm,?_,trivial⟩;split<;>split<;>simp_all [jK]
theorem Yw {o:Ob} {d:Nat} (h:J.1≠d):AR (mi.set d new) J o=(AR mi J o).set d new:=by
 unfold AR;rw[iI (iN h)];cases hg:mi[J.1]? with
 | none=>rfl
 | some l=>simp only;rw[jK _ _ (iN h)]
theorem vK {d:lT} (h:∀ p,u=some p->p.1.1 ∉ d.toList) (v:PV) (n:lY) (V:St):CH u (Cr d v n V)=Cr d v n (CH u V):=by
 cases u with
 | none=>rfl
 | some p =>
  obtain⟨J,ob⟩:=p;cases d with
  | none=>rfl
  | some d =>
   have mP:J.1≠d:=fun e=>h _ rfl (by simp[e]);simp only[CH,Cr,St.mk.injEq,true_and,and_true];split;{rfl};{exact Yw mP}
theorem zL {d:Nat}:∀ (R:lW) (mi:List lY),(∀ J∈R,J.1≠d)->R.foldl (fun mi J=>AR mi J AP) (mi.set d new)=(R.foldl (fun mi J=>AR mi J AP) mi).set d new:=by
 intro R;induction R with
 | nil=>intro mi _;rfl
 | cons J R ih =>
  intro mi h;simp only[jy];rw[Yw (h J iw),ih _ fun m hm=>h m (iA _ hm)]
theorem NH (x:PV) {f:Nm->Option lV} (h:∀ J∈x.names,f J=none):x.sub f=x:=by rw[PV.sub_congr (f:=f) (g:=fun _=>none) x h];exact oG x
theorem vL {R:lW} {d:lT} {n:lY} (hσ:∀ J∈R,A7 σ' J=A7 σ J) (h:∀ J∈R,J.1 ∉ d.toList) (hv:R≠[]->∀ J∈v.names,J ∉ R) (hn:R≠[]->∀ o∈n,∀ J∈o.names,J ∉ R) (V:St) :
  E7 σ' R (Cr d v n V)=Cr d v n (E7 σ R V):=by
 unfold E7;by_cases hR:R=[];{subst hR;rfl};have hE:R.isEmpty=false:=by cases R<;>simp_all
 have hf:(fun m=>if R.contains m then A7 σ' m else none)=(fun m=>if R.contains m then A7 σ m else none):=by funext m;by_cases hm:R.contains m=true;{rw[lu hm,lu hm,hσ m (by simpa using hm)]};{rw[lr hm,lr hm]}
 simp only[hE,iq,lm];unfold B7;rw[hf];generalize hg:(fun m=>if R.contains m then A7 σ m else none)=f;have pY:∀ J,J ∉ R->f J=none:=fun J h=>by rw[<-hg];simp only;rw[lr (by simpa using h)]
 cases d with
 | none=>rfl
 | some d =>
  have h':∀ J∈R,J.1≠d:=fun J hm e=>h J hm (by simp[e]);have qz:v.sub f=v:=NH v fun J hm=>pY J (hv hR J hm)
  have yz:n.map (Ob.sub f)=n:=by
   have:∀ o∈n,Ob.sub f o=o:=fun o ho=>by rw[Ob.sub_congr (f:=f) (g:=fun _=>none) o fun J hm=>pY J (hn hR o ho J hm)];exact Ob.oG o
   exact (iV this).trans (List.map_id' n)
  have htm:AM f (V.tmps.set d v)=(AM f V.tmps).set d v:=by
   have key:∀ (l:lS),AM f l=l.map (PV.sub f):=by
    intro l;induction l with
    | nil=>rfl
    | cons x l ih=>simp only[AM,iE,ih]
   rw[key,key,kf,qz]
  simp only[Cr,CF,St.mk.injEq,and_true];refine⟨htm,?_⟩;split;{rfl};{rw[kf,yz];exact zL R _ h'}
theorem O9 (f:Nm->Option lV):∀ (l:lS),AM f l=l.map (PV.sub f)
 | []=>rfl
 | x :: l=>by simp only[AM,iE,O9 f l]
theorem zM {n:lY} {f:Nm->Option lV} (h:∀ o∈n,∀ J∈o.names,f J=none):n.map (Ob.sub f)=n:=by
 have:∀ o∈n,Ob.sub f o=o:=fun o ho=>by rw[Ob.sub_congr (f:=f) (g:=fun _=>none) o fun J hm=>h o ho J hm];exact Ob.oG o
 exact (iV this).trans (List.map_id' n)
theorem fY {d:lT} {n:lY} (hv:∀ J∈v.names,J ∉ k.toList) (hn:∀ o∈n,∀ J∈o.names,J ∉ k.toList) (V:St):DP k (Cr d v n V)=Cr d v n (DP k V):=by
 cases k with
 | none=>rfl
 | some J =>
  cases d with
  | none=>rfl
  | some d =>
   have hf:∀ m,m ∉ (some J).toList->(if m=J then some none else none:Option lV)=none:=fun m hm=>lr fun e=>hm (by simp[e]);simp only[DP,Cr,CF,St.mk.injEq,and_true];refine⟨by rw[O9,O9,kf,NH v fun m hm=>hf m (hv m hm)],?_⟩;split;{rfl};{rw[kf,zM fun o ho m hm=>hf m (hn o ho m hm)]}
theorem PG {out:Al} (hz:zs out=[]):out.mX=[]/\out.kill=none:=by unfold zs at hz;obtain⟨U,H⟩:=kj.1 hz;exact⟨U,by cases hk:out.kill with | none=>rfl | some k=>rw[hk] at H;cases H⟩
theorem W9 {V:St} {out:Al} (hs:CM out=true) (hz:zs out=[]) (h:s ∉ dst.toList):(apply V dst out).tmps.getD s .undef=V.tmps.getD s .undef:=by
 rw[Kf hs,(PG hz).1,(PG hz).2];have:(CH out.nf V).tmps=V.tmps:=by cases out.nf<;>rfl
 cases dst with
 | none=>simp only[Cr,E7,DP,jV,lq];rw[this]
 | some d =>
  have mP:d≠s:=fun e=>h (by simp[e]);simp only[Cr,E7,DP,jV,lq,this,ip,iI mP]
theorem outD_vn {o:AD} {V:St} {e e1:E} {out:Al} (O:A3 M h dep mH i o V e=some (out,e1,info)):info.vn=info.reads.flatMap fun s=>(V.tmps.getD s .undef).names:=by
 unfold A3 at O;split at O
 ·split at O;·cases O;rfl
  {cases O}
 {cases O;rfl};{cases O}
theorem di {V:St} {out:Al} (hs:CM out=true) (h:s ∉ dst.toList) (hn:∀ J∈(V.tmps.getD s .undef).names,J ∉ zs out):(apply V dst out).tmps.getD s .undef=V.tmps.getD s .undef:=by
 rw[Kf hs];have hu:(CH out.nf V).tmps=V.tmps:=by cases out.nf<;>rfl
 have key:∀ (f:Nm->Option lV) (l:lS),(AM f l).getD s .undef=(l.getD s .undef).sub f:=by intro f l;rw[O9,ip,ip,iC];cases l[s]?<;>rfl
 have hk:(DP out.kill (CH out.nf V)).tmps.getD s .undef=V.tmps.getD s .undef:=by
  cases hq:out.kill with
  | none=>exact lD (fun l=>l.getD s .undef) hu
  | some k =>
   show (AM _ (CH out.nf V).tmps).getD s .undef=_;rw[hu,key];exact NH _ fun J hm=>lr fun e=>hn J hm (by unfold zs;rw[hq];simp[e])
 have hf:∀ σ,(E7 σ out.mX (DP out.kill (CH out.nf V))).tmps.getD s .undef=V.tmps.getD s .undef:=by intro σ;unfold E7;split;{exact hk};{unfold B7;show (AM _ (DP out.kill (CH out.nf V)).tmps).getD s .undef=_;rw[key,hk];exact NH _ fun J hm=>by have:=hn J hm;rw[lr (by unfold zs at this;simp at this |-;exact this.1)]}
 cases dst with
 | none=>simp only[Cr];exact hf _
 | some d =>
  have mP:d≠s:=fun e=>h (by simp[e]);simp only[Cr];rw[ip,iI mP,<-ip];exact hf _
theorem Xa {V:St} {out:Al} (hs:CM out=true) (hz:zs out=[]) (ht:J ∉ EE out) (h:J.1 ∉ dst.toList):Ac (apply V dst out).mi J=Ac V.mi J:=by
 rw[Kf hs,(PG hz).1,(PG hz).2]
 have:Ac (CH out.nf V).mi J=Ac V.mi J:=by
  unfold EE at ht;cases hu:out.nf with
  | none=>rfl
  | some p =>
   obtain⟨m,ob⟩:=p;rw[hu] at ht;simp only[iU] at ht;exact FC ob ht
 cases dst with
 | none=>simp only[Cr,E7,DP,jV,lq];exact this
 | some d =>
  have mP:J.1≠d:=fun e=>h (by simp[e]);simp only[Cr,E7,DP,jV,lq];split;{exact this};{rw[EA _ mP];exact this}
theorem dj {V:St} {out:Al} (hs:CM out=true) (ht:J ∉ EE out++zs out) (h:J.1 ∉ dst.toList) (hn:∀ ob,Ac V.mi J=some ob->∀ m∈ob.names,m ∉ zs out) :
  Ac (apply V dst out).mi J=Ac V.mi J:=by
 rw[Kf hs]
 have hu:Ac (CH out.nf V).mi J=Ac V.mi J:=by
  cases hq:out.nf with
  | none=>rfl
  | some p =>
   obtain⟨m,ob⟩:=p;exact FC ob fun e=>ht (iF _ (by unfold EE;rw[hq];simp[e]))
 have pA:∀ {σ:List lY} {f:Nm->Option lV},Ac σ J=Ac V.mi J->(∀ m,m ∉ zs out->f m=none)->Ac (σ.map (·.map (Ob.sub f))) J=Ac V.mi J:=by
  intro σ f hσ hf;rw[Ee,hσ];cases hq:Ac V.mi J with
  | none=>rfl
  | some ob =>
   simp only[iu,il];rw[Ob.sub_congr (f:=f) (g:=fun _=>none) ob fun m hm=>hf m (hn ob hq m hm)];exact Ob.oG ob
 have hk:Ac (DP out.kill (CH out.nf V)).mi J=Ac V.mi J:=by
  cases hq:out.kill with
  | none=>exact hu
  | some k=>exact pA hu fun m hm=>lr fun e=>hm (by unfold zs;rw[hq];simp[e])
 have hf:Ac (E7 (Ac V.mi) out.mX (DP out.kill (CH out.nf V))).mi J=Ac V.mi J:=by
  unfold E7;split;{exact hk}
  ·unfold B7;simp only
   rw[OZ,lr fun hm=>ht (iJ _ (iF _ hm))];exact pA hk fun m hm=>lr fun e=>hm (iF _ (by simpa using e))
 cases dst with
 | none=>exact hf
 | some d =>
  have mP:J.1≠d:=fun e=>h (by simp[e]);simp only[Cr];split;{exact hf};{rw[EA _ mP];exact hf}
theorem Yi {o:AD} {V:St} {e e1:E} {out:Al} (mC:By M h dep o V e=some (out,e1)) (hs:HB o.op=true):∃ p,out={v:=.undef,nf:=some p}:=by
 obtain⟨dst,op,gu⟩:=o;cases op<;>simp only[HB,iq] at hs;rename_i n x v;unfold By at mC;obtain⟨_,mC⟩:=AQ mC;simp only at mC;split at mC
 case h_2=>cases mC
 rename_i o2 hex;cases mC;simp only[exec] at hex;split at hex;{split at hex;{obtain⟨_,hex⟩:=AQ hex;cases hex;exact⟨_,rfl⟩};·cases hex};{split at hex;{split at hex;{obtain⟨_,hex⟩:=AQ hex;cases hex;exact⟨_,rfl⟩};{obtain⟨_,hex⟩:=AQ hex;cases hex;exact⟨_,rfl⟩};·cases hex};{cases hex}};{cases hex}
theorem Yt (σ:Nm->lV):∀ d:Nat,AI σ d []=[]
 | 0=>rfl
 | d+1=>by simp[AI,Yt σ d]
theorem outD_rv {o:AD} {V:St} {e e1:E} {out:Al} (O:A3 M h dep mH i o V e=some (out,e1,info)):info.rv=if KR o.op then [] else Gk (Ac V.mi) info.rn:=by
 unfold A3 at O;split at O
 ·split at O;·cases O;rfl
  {cases O}
 {cases O;show ([]:lW)=_;cases KR o.op<;>rfl};{cases O}
def Gd (g:PV->PV):Ob->Ob
 | .cells ty cs=>.cells ty (cs.map g)
 | .map es=>.map (es.map g)
 | o=>o
def ME (g:PV->PV) (S:lW):Prop:=∀ v:PV,(∀ m∈v.names,m∈S)->g v=v
theorem vM (hg:ME g S) {o n:Nat} (h:Cd cs o n ag=some v) (hv:∀ m∈v.names,m∈S):Cd (cs.map g) o n ag=some v:=by
 unfold Cd at h |-;cases ag with
 | true =>
  simp only[lq] at h |-;obtain⟨U,H⟩:=AQ h;cases H;simp only[lw] at U;have e:((cs.map g).drop o).take n=(cs.drop o).take n:=by rw[<-List.map_drop,<-List.map_take];refine (iV fun x O=>hg x fun m hm=>hv m ?_).trans (List.map_id' _);rw[PV.names];exact Wx O m hm
  rw[e];simp[Av,U]
 | false =>
  simp only[iq,lm] at h |-;rw[iC,h];exact lD some (hg v hv)
theorem cZ {d:Nat} {n:Nat} {out:Al} (h:exec d σ tm (.load n ag x)=some out) (hσ:∀ J∈(x.ev tm).names,∃ g,ME g out.v.names/\σ' J=(σ J).map (Gd g)):exec d σ' tm (.load n ag x)=some out:=by
 simp only[exec] at h |-;cases O:x.ev tm with
 | ref J o =>
  rw[O] at h hσ;simp only at h |-;obtain⟨g,hg,hs⟩:=hσ J (by simp[PV.names]);rw[hs];cases hq:σ J with
  | none=>rw[hq] at h;cases h
  | some ob =>
   rw[hq] at h;cases ob with
   | cells ty cs =>
    simp only[iu,Gd] at h |-;obtain⟨v,hv,rfl⟩:=ij.1 h;rw[vM hg hv fun m hm=>hm];rfl
   | arr k kt Z=>cases h
   | map es=>cases h
   | mD s pos=>cases h
 | my J k i o =>
  rw[O] at h hσ;simp only at h |-;obtain⟨g,hg,hs⟩:=hσ J (by simp[PV.names]);rw[hs];cases hq:σ J with
  | none=>rw[hq] at h;cases h
  | some ob =>
   rw[hq] at h;cases ob with
   | cells ty cs=>cases h
   | arr k kt Z=>exact h
   | map es=>cases h
   | mD s pos=>cases h
 | _=>rw[O] at h;exact h
theorem zN {o:AD} {V:St} {e e1:E} {out:Al} (O:A3 M h dep mH i o V e=some (out,e1,info)) (hc:Bb out=true) (hl:Eg o.op=false):info.rv=Gk (Ac V.mi) info.rn:=by
 have h0:=outD_rv O;cases hs:HB o.op with
 | false=>rw[h0];simp[KR,hl,hs]
 | true =>
  unfold A3 at O;split at O;{split at O;{rename_i rF e' mC;cases O;obtain⟨p,rfl⟩:=Yi mC hs;simp[Bb] at hc};{cases O}};{cases O;rfl};{cases O}
theorem vN {o:AD} {V st':St} {e e1:E} {out:Al} (O:A3 M h dep mH i o V e=some (out,e1,info)) (hl:Eg o.op=true)
  (U:∀ s∈info.reads,V.tmps.getD s .undef=st'.tmps.getD s .undef) (H:∀ J∈info.rn,∃ g,ME g info.on/\Ac st'.mi J=(Ac V.mi J).map (Gd g)) :
  ∀ e2:E,A3 M h dep mH i o st' e2=some (out,e2,info):=by
 intro e2;obtain⟨dst,op,gu⟩:=o;cases op<;>simp only[Eg,iq] at hl;rename_i n ag x
 have hw:(∀ s∈CB mH ⟨dst,.load n ag x,gu⟩,V.tmps.getD s .undef=st'.tmps.getD s .undef)->BO mH ⟨dst,.load n ag x,gu⟩ st'.tmps=BO mH ⟨dst,.load n ag x,gu⟩ V.tmps:=by
  intro hg;unfold BO CB at *;cases yC:gu with
  | none=>rfl
  | some jw =>
   obtain⟨j,want⟩:=jw;rw[yC] at hg;simp only at hg |-;cases hj:mH[j]? with
   | none=>rfl
   | some p =>
    rw[hj] at hg;simp only at hg |-;cases hd:p.dst with
    | none=>rfl
    | some d =>
     rw[hd] at hg;simp only
     rw[hg d (by simp)]
 unfold A3 at O |-;cases rR:BO mH ⟨dst,.load n ag x,gu⟩ V.tmps with
 | none=>rw[rR] at O;cases O
 | some b =>
  rw[rR] at O;cases b with
  | false =>
   simp only at O;cases O;rw[hw fun s hs=>U s hs,rR];simp only[il,iP,true_and];congr 1;exact Kh U
  | true =>
   simp only at O;cases mC:By M h dep ⟨dst,.load n ag x,gu⟩ V e with
   | none=>rw[mC] at O;cases O
   | some q =>
    obtain⟨rF,e'⟩:=q;rw[mC] at O;simp only at O;obtain⟨rfl,rfl,rfl⟩:rF=out/\e'=e1/\CN mH i ⟨dst,.load n ag x,gu⟩ V rF=info:=by simp only[il,iP] at O;exact O
    have rE:x.ev V.tmps=x.ev st'.tmps:=by
     cases x with
     | c v=>rfl
     | t s=>exact U s (iF _ (kz.2 ⟨.t s,by simp[An.Z],rfl⟩))
    unfold By at mC;obtain⟨_,mC⟩:=AQ mC;simp only at mC;cases hex:exec (dst.getD 0) (Ac V.mi) V.tmps (.load n ag x) with
    | none=>rw[hex] at mC;cases mC
    | some o2 =>
     rw[hex] at mC;simp only[il,iP] at mC;obtain⟨rfl,rfl⟩:=mC;have rA:Bb o2=true:=by simp only[exec] at hex;split at hex;{split at hex;{obtain⟨v,_,rfl⟩:=ij.1 hex;rfl};·cases hex};{obtain⟨v,_,rfl⟩:=ij.1 hex;rfl};{split at hex;{split at hex;{obtain⟨_,hex⟩:=AQ hex;obtain⟨v,_,rfl⟩:=ij.1 hex;rfl};{cases hex}};{cases hex}};{cases hex}
     have tq:o2.mX=[]:=by unfold Bb at rA;simp only[ie,iS] at rA;exact rA.1.1.1.2
     have tJ:∀ s:St,CI ⟨dst,.load n ag x,gu⟩ s o2=(x.ev s.tmps).names:=by intro s;unfold CI;rw[lr (by simp[D7])];simp[FG,Eg,rA,AI,An.Z,Ar,tq]
     have hσ:∀ J∈(x.ev V.tmps).names,∃ g,ME g o2.v.names/\Ac st'.mi J=(Ac V.mi J).map (Gd g):=by intro J hn;obtain⟨g,hg,hq⟩:=H J (by show J∈CI ⟨dst,.load n ag x,gu⟩ V o2;rw[tJ];exact hn);exact⟨g,fun v hv=>hg v fun m hm=>iF _ (hv m hm),hq⟩
     have hex2:=cZ hex hσ;have hexd:exec (dst.getD 0) (Ac st'.mi) st'.tmps (.load n ag x)=some o2:=by rw[<-hex2];simp only[exec,rE]
     have rU:By M h dep ⟨dst,.load n ag x,gu⟩ st' e2=some (o2,e2):=by unfold By;simp[Ce,DO,Av,hexd]
     rw[hw fun s hs=>U s (iJ _ hs),rR];simp only[rU,il,iP,true_and];have hup:o2.nh=[]:=by unfold Bb at rA;simp only[ie,iS] at rA;exact rA.1.2
     unfold CN;simp only[tJ,Eg,lq,<-rE,hup,Hl,jj,Yk,ZJ (.inl rA),jL];congr 1;exact Kh U
theorem dc {V:St} {out:Al} (hs:CM out=true) (ht:J ∉ EE out++zs out) (h:J.1 ∉ dst.toList) (hS:∀ m∈S,m ∉ zs out) :
  ∃ g,ME g S/\Ac (apply V dst out).mi J=(Ac V.mi J).map (Gd g):=by
 rw[Kf hs]
 have hu:Ac (CH out.nf V).mi J=Ac V.mi J:=by
  cases hq:out.nf with
  | none=>rfl
  | some p =>
   obtain⟨m,ob⟩:=p;exact FC ob fun e=>ht (iF _ (by unfold EE;rw[hq];simp[e]))
 have sq:∀ (f:Nm->Option lV) (x:lV),x.map (Ob.sub f)=x.map (Gd (PV.sub f)):=by
  intro f x;cases x with
  | none=>rfl
  | some ob=>cases ob<;>simp[Ob.sub,Gd,O9]
 have hcomp:∀ (g g':PV->PV) (x:lV),(x.map (Gd g)).map (Gd g')=x.map (Gd (g'∘g)):=by
  intro g g' x;cases x with
  | none=>rfl
  | some ob=>cases ob<;>simp[Gd]
 have hk:∃ g,ME g S/\Ac (DP out.kill (CH out.nf V)).mi J=(Ac V.mi J).map (Gd g):=by
  cases hq:out.kill with
  | none =>
   refine⟨id,fun v _=>rfl,?_⟩;show Ac (CH out.nf V).mi J=_;rw[hu];cases Ac V.mi J with
   | none=>rfl
   | some ob=>cases ob<;>simp[Gd]
  | some k =>
   refine⟨PV.sub fun m=>if m=k then some none else none,fun v hv=>NH v fun m hm=>lr fun e=>hS m (hv m hm) (by unfold zs;rw[hq,e];simp),?_⟩;show Ac ((CH out.nf V).mi.map _) J=_;rw[Ee,hu,sq]
 obtain⟨g,hg,hk⟩:=hk
 have hf:∃ g,ME g S/\Ac (E7 (Ac V.mi) out.mX (DP out.kill (CH out.nf V))).mi J=(Ac V.mi J).map (Gd g):=by
  unfold E7;split;{exact⟨g,hg,hk⟩}
  ·unfold B7;simp only
   rw[OZ,lr fun hm=>ht (iJ _ (iF _ hm))];refine⟨PV.sub (fun m=>if out.mX.contains m then A7 (Ac V.mi) m else none)∘g,fun v hv=>?_,?_⟩;{show PV.sub _ (g v)=v;rw[hg v hv];exact NH v fun m hm=>lr fun e=>hS m (hv m hm) (iF _ (by simpa using e))};{show Ac ((DP out.kill (CH out.nf V)).mi.map _) J=_;rw[Ee,hk,sq,hcomp]}
 obtain⟨g2,hg2,hf⟩:=hf;refine⟨g2,hg2,?_⟩;cases dst with
 | none=>exact hf
 | some d =>
  have mP:J.1≠d:=fun e=>h (by simp[e]);simp only[Cr];split;{exact hf};{rw[EA _ mP];exact hf}
theorem zO {d:Nat}:∀ (R:lW) (mi:List lY),(∀ J∈R,J.1≠d)->(R.foldl (fun mi J=>AR mi J AP) mi)[d]?=mi[d]?:=by
 intro R;induction R with
 | nil=>intro mi _;rfl
 | cons J R ih =>
  intro mi h;simp only[jy];rw[ih _ fun m hm=>h m (iA _ hm)];unfold AR;cases mi[J.1]? with
  | none=>rfl
  | some l=>simp only;rw[iI (h J iw)]
theorem TA {V:St} {out:Al} (hs:CM out=true) {o:AD} (h:∀ d,o.dst=some d->d ∉ dst.toList) (ht:∀ J∈EE out++zs out,J.1 ∉ o.dst.toList):Ce o (apply V dst out)=Ce o V:=by
 refine RL fun d' qq=>?_;have h:=h d' qq;rw[Kf hs]
 have U:((CH out.nf V).mi[d']?)=V.mi[d']?:=by
  cases hu:out.nf with
  | none=>rfl
  | some p =>
   obtain⟨m,ob⟩:=p;have:m.1≠d':=fun e=>ht m (iF _ (by unfold EE;rw[hu];simp)) (by rw[qq,e];simp);simp only[CH];unfold AR;cases V.mi[m.1]? with
   | none=>rfl
   | some l=>simp only;rw[iI this]
 have hk:((DP out.kill (CH out.nf V)).mi[d']?).map List.isEmpty=(V.mi[d']?).map List.isEmpty:=by
  cases out.kill with
  | none=>show ((CH out.nf V).mi[d']?).map List.isEmpty=_;rw[U]
  | some k =>
   simp only[DP,CF];rw[iC,U];cases V.mi[d']? with
   | none=>rfl
   | some l=>cases l<;>rfl
 have H:((E7 (Ac V.mi) out.mX (DP out.kill (CH out.nf V))).mi[d']?).map List.isEmpty=(V.mi[d']?).map List.isEmpty:=by
  unfold E7;split;{exact hk}
  ·unfold B7;simp only
   rw[zO _ _ fun J hn e=>ht J (iJ _ (iF _ hn)) (by rw[qq,e];simp)];simp only[CF];rw[iC,<-hk];cases (DP out.kill (CH out.nf V)).mi[d']? with
   | none=>rfl
   | some l=>cases l<;>rfl
 cases dst with
 | none=>exact H
 | some d =>
  have mP:d≠d':=fun e=>h (by simp[e]);simp only[Cr];split;{exact H};{rw[iI mP];exact H}
theorem Gb {a b:lU} (h:Gc a b=true):∀ x∈b,x ∉ a:=by intro x O ha;have:=iy.1 h x ha;simp at this;exact this O
theorem M5 {o:AD} {V:St} {e e1:E} {out:Al} (O:A3 M h dep mH i o V e=some (out,e1,info)) :
  (info.cls=.quiet->Bb out=true)/\(info.cls=.turns->CM out=true/\info.tch=EE out++zs out/\info.mX=!(zs out).isEmpty/\∀ J∈AI (Ac V.mi) AG out.mX,J∈info.rn) /\
   (∀ J∈out.v.names,J∈info.on)/\(∀ ob∈out.new,∀ J∈ob.names,J∈info.on):=by
 unfold A3 at O;split at O
 ·split at O
  ·rename_i rF nW mC;cases O;unfold CN;simp only
   refine⟨fun hc=>?_,fun hc=>?_,fun J hn=>iF _ hn,fun ob ho J hn=>iJ _ (ji.2 ⟨ob,ho,hn⟩)⟩
   ·split at hc;{split at hc<;>cases hc}
    ·split at hc;{assumption}
     ·split at hc;·cases hc
      {split at hc<;>cases hc}
   ·split at hc;{split at hc<;>cases hc}
    ·split at hc;·cases hc
     ·rename_i yz;split at hc
      ·rename_i ht;refine⟨ht,rfl,rfl,fun J hn=>?_⟩;unfold CI;rw[lr (by simp[yz])];cases qA:HB o.op with
       | true =>
        obtain⟨p,rfl⟩:=Yi mC qA;rw[Yt] at hn;cases hn
       | false =>
        rw[show FG o.op (Bb out)=AG by unfold FG;rw[lr (by simp[yz,qA])]];exact Kg _ _ _ (fun m hm=>iJ _ hm) J hn
      {split at hc<;>cases hc}
  {cases O}
 {cases O;exact⟨fun _=>rfl,fun hc=>by (cases hc),fun J hn=>by (simp[PV.names,Ar] at hn),fun ob ho=>by (cases ho)⟩};{cases O}
theorem bK {V:St} {dq dt:lT} {oq ot:Al} (hq:Bb oq=true) (ht:CM ot=true) (hd:∀ x∈dt.toList,x ∉ dq.toList) (qq:∀ x∈dq.toList,x ∉ dt.toList)
  (sT:∀ J∈EE ot++zs ot,J.1 ∉ dq.toList) (hσ:∀ J∈ot.mX,A7 (Ac (apply V dq oq).mi) J=A7 (Ac V.mi) J)
  (hv:zs ot≠[]->∀ J∈oq.v.names,J ∉ zs ot) (hn:zs ot≠[]->∀ o∈oq.new,∀ J∈o.names,J ∉ zs ot):apply (apply V dq oq) dt ot=apply (apply V dt ot) dq oq:=by
 rw[Kf (V:=apply V dq oq) ht,EB (V:=apply V dt ot) hq,Kf ht];rw[EB hq] at hσ |-;have hz:∀ {J},J∈ot.mX\/J∈ot.kill.toList->zs ot≠[]/\J∈zs ot:=fun {J} h=>by have hm:J∈zs ot:=iH.2 h;exact⟨fun e=>by (rw[e] at hm;cases hm),hm⟩
 have mP:ot.mX≠[]->zs ot≠[]:=fun h e=>h (PG e).1
 rw[vK (fun p hp=>sT p.1 (iF _ (by unfold EE;rw[hp];simp))),
  fY (fun J hm hk=>hv (hz (.inr hk)).1 J hm (hz (.inr hk)).2) (fun o ho J hm hk=>hn (hz (.inr hk)).1 o ho J hm (hz (.inr hk)).2),
  vL hσ (fun J hm=>sT J (iJ _ (iF _ hm))) (fun h J hm hf=>hv (mP h) J hm (iF _ hf)) (fun h o ho J hm hf=>hn (mP h) o ho J hm (iF _ hf)),
  Q6 fun x O=>qq x O]
theorem swapD0 (hM:E8 M) {a b:AD} {V:St} {e ea eb:E} {ob:Al} (U:A3 M h dep mH i a V e=some (oa,ea,ia)) (H:A3 M h dep mH j b (apply V a.dst oa) ea=some (ob,eb,ib))
  (hi:(Gc ia.dst.toList (ib.reads++ib.dst.toList)&&Gc ib.dst.toList ia.reads&&Gc ia.dst.toList (ib.rn.map (·.1))&&Gc ib.dst.toList (ia.rn.map (·.1))&&V8 ia ib)=true):ea=e/\eb=e/\A3 M h dep mH j b V e=some (ob,e,ib)/\A3 M h dep mH i a (apply V b.dst ob) e=some (oa,e,ia)/\apply (apply V a.dst oa) b.dst ob=apply (apply V b.dst ob) a.dst oa:=by
 have da:=Nh U;have db:=Nh H;obtain⟨fa1,fa2,fa3,fa4⟩:=M5 U;obtain⟨fb1,fb2,fb3,fb4⟩:=M5 H;simp only[ie] at hi;obtain⟨⟨⟨⟨g1,g2⟩,g3⟩,g4⟩,hC⟩:=hi;rw[da] at g1 g3;rw[db] at g1 g2 g4;have g1:=Gb g1;have g2:=Gb g2;have g3:=Gb g3;have g4:=Gb g4;have gd:∀ x∈b.dst.toList,x ∉ a.dst.toList:=fun x O=>g1 x (iJ _ O);have zP:∀ x∈a.dst.toList,x ∉ b.dst.toList:=fun x O p9=>gd x p9 O;have gb:∀ d,b.dst=some d->d ∉ a.dst.toList:=fun d hd=>gd d (by rw[hd];simp);have ga:∀ d,a.dst=some d->d ∉ b.dst.toList:=fun d hd=>zP d (by rw[hd];simp);have sU:∀ (l:lW) (t:lW),(l.all fun J=>!t.contains J)=true->∀ J∈l,J ∉ t:=fun l t hl J hm ht=>by have:=iy.1 hl J hm;simp at this;exact this ht
 unfold V8 at hC;split at hC
 ·
  rename_i ca cb;have sa:=fa1 ca;have sb:=fb1 cb;obtain⟨_,ea',_⟩:=ES hM (st':=V) U (by rw[ca];simp) (fun _ _=>rfl) (fun _ _=>rfl) rfl;subst ea'
  obtain⟨_,eb',mb⟩:=ES hM (st':=V) H (by rw[cb];simp) (fun s hs=>Ij sa (g1 s (iF _ hs))) (fun J hn=>GV sa (g3 J.1 (ii.2 ⟨J,hn,rfl⟩)))
   (Ig sa gb).symm
  subst eb'
  obtain⟨_,_,ma⟩:=ES hM (st':=apply V b.dst ob) U (by rw[ca];simp) (fun s hs=>(Ij sb (g2 s hs)).symm) (fun J hn=>(GV sb (g4 J.1 (ii.2 ⟨J,hn,rfl⟩))).symm)
   (Ig sb ga)
  refine⟨rfl,rfl,mb _,ma _,?_⟩;rw[EB sa,EB sb,EB sb,EB sa];exact Q6 zP _ _ _ _ _
 ·
  rename_i ca cb;have sa:=fa1 ca;obtain⟨sb,tb,zb,rb⟩:=fb2 cb;unfold SE at hC;simp only[ie,kg] at hC;obtain⟨⟨c1,c2⟩,c3⟩:=hC;have c1:=sU _ _ c1;rw[da] at c2;have c2:=Gb c2;rw[tb] at c1 c2;have sT:∀ J∈EE ob++zs ob,J.1 ∉ a.dst.toList:=fun J hm=>c2 J.1 (ii.2 ⟨J,hm,rfl⟩);obtain⟨_,ea',_⟩:=ES hM (st':=V) U (by rw[ca];simp) (fun _ _=>rfl) (fun _ _=>rfl) rfl;subst ea'
  obtain⟨_,eb',mb⟩:=ES hM (st':=V) H (by rw[cb];simp) (fun s hs=>Ij sa (g1 s (iF _ hs))) (fun J hn=>GV sa (g3 J.1 (ii.2 ⟨J,hn,rfl⟩)))
   (Ig sa gb).symm
  subst eb'
  have hz:zs ob=[]\/((∀ s∈ia.reads,∀ J∈(V.tmps.getD s .undef).names,J ∉ zs ob)/\(Eg a.op=false->∀ J∈ia.rn,∀ x,Ac V.mi J=some x->∀ m∈x.names,m ∉ zs ob)/\∀ J∈ia.on,J ∉ zs ob):=by
   rcases c3 with c3 | c3
   {rw[zb] at c3;exact .inl (by simpa using c3)};{obtain⟨⟨c5,c4⟩,c6⟩:=c3;simp only[lq] at c4 c5;refine .inr ⟨fun s hs J hn hf=>?_,fun zz J hn x O m hm hf=>?_,fun J hn hf=>?_⟩;{have:=sU _ _ c4 J (by rw[outD_vn U];exact ji.2 ⟨s,hs,hn⟩);rw[tb] at this;exact this (iJ _ hf)};{have:=sU _ _ c5 m (by rw[zN U sa zz];exact ji.2 ⟨J,hn,by rw[O];exact hm⟩);rw[tb] at this;exact this (iJ _ hf)};{have:=sU _ _ c6 J hn;rw[tb] at this;exact this (iJ _ hf)}}
  have uy:∀ s∈ia.reads,V.tmps.getD s .undef=(apply V b.dst ob).tmps.getD s .undef:=fun s hs=>by rcases hz with hz | hz;{exact (W9 sb hz (g2 s hs)).symm};{exact (di sb (g2 s hs) (hz.1 s hs)).symm}
  have ma:∀ e2:E,A3 M h dep mH i a (apply V b.dst ob) e2=some (oa,e2,ia):=by
   rcases hz with hz | hz;{exact (ES hM (st':=apply V b.dst ob) U (by rw[ca];simp) uy (fun J hn=>(Xa sb hz (fun hu=>c1 J hn (iF _ hu)) (g4 J.1 (ii.2 ⟨J,hn,rfl⟩))).symm) (TA sb ga sT)).2.2}
   ·cases hl:Eg a.op with
    | false=>exact (ES hM (st':=apply V b.dst ob) U (by rw[ca];simp) uy (fun J hn=>(dj sb (c1 J hn) (g4 J.1 (ii.2 ⟨J,hn,rfl⟩)) (hz.2.1 hl J hn)).symm) (TA sb ga sT)).2.2
    | true=>exact vN U hl uy fun J hn=>dc sb (c1 J hn) (g4 J.1 (ii.2 ⟨J,hn,rfl⟩)) hz.2.2
  refine⟨rfl,rfl,mb _,ma _,bK sa sb gd zP sT (fun J hm=>?_) (fun mP J hn=>?_) fun mP o ho J hn=>?_⟩;{exact OG (S:=ob.mX) (fun m hm=>GV sa (g3 m.1 (ii.2 ⟨m,rb m hm,rfl⟩))) J hm};{rcases hz with hz | hz;{exact lH hz mP};{exact hz.2.2 J (fa3 J hn)}};{rcases hz with hz | hz;{exact lH hz mP};{exact hz.2.2 J (fa4 o ho J hn)}}
 ·
  rename_i ca cb;have sb:=fb1 cb;obtain⟨sa,ta,za,ra⟩:=fa2 ca;unfold SE at hC;simp only[ie,kg] at hC;obtain⟨⟨c1,c2⟩,c3⟩:=hC;have c1:=sU _ _ c1;rw[db] at c2;have c2:=Gb c2;rw[ta] at c1 c2;have sT:∀ J∈EE oa++zs oa,J.1 ∉ b.dst.toList:=fun J hm=>c2 J.1 (ii.2 ⟨J,hm,rfl⟩)
  have hz:zs oa=[]\/(ib.reads=[]/\ib.rn=[]/\∀ J∈ib.on,J ∉ zs oa):=by
   rcases c3 with c3 | c3
   {rw[za] at c3;exact .inl (by simpa using c3)};{obtain⟨⟨c5,c4⟩,c6⟩:=c3;refine .inr ⟨by simpa using c4,by simpa using c5,fun J hn hf=>?_⟩;have:=sU _ _ c6 J hn;rw[ta] at this;exact this (iJ _ hf)}
  obtain⟨_,ea',_⟩:=ES hM (st':=V) U (by rw[ca];simp) (fun _ _=>rfl) (fun _ _=>rfl) rfl;subst ea'
  obtain⟨_,eb',mb⟩:=ES hM (st':=V) H (by rw[cb];simp)
   (fun s hs=>by
    rcases hz with hz | hz;·exact W9 sa hz (g1 s (iF _ hs))
    ·rw[hz.1] at hs;cases hs)
   (fun J hn=>by
    rcases hz with hz | hz;·exact Xa sa hz (fun hu=>c1 J hn (iF _ hu)) (g3 J.1 (ii.2 ⟨J,hn,rfl⟩))
    ·rw[hz.2.1] at hn;cases hn)
   (TA sa gb sT).symm
  subst eb'
  obtain⟨_,_,ma⟩:=ES hM (st':=apply V b.dst ob) U (by rw[ca];simp) (fun s hs=>(Ij sb (g2 s hs)).symm) (fun J hn=>(GV sb (g4 J.1 (ii.2 ⟨J,hn,rfl⟩))).symm)
   (Ig sb ga)
  refine⟨rfl,rfl,mb _,ma _,(bK sb sa zP gd sT (fun J hm=>?_) (fun mP J hn=>?_) fun mP o ho J hn=>?_).symm⟩;{exact (OG (S:=oa.mX) (fun m hm=>(GV sb (g4 m.1 (ii.2 ⟨m,ra m hm,rfl⟩))).symm) J hm).symm};{rcases hz with hz | hz;{exact lH hz mP};{exact hz.2.2 J (fb3 J hn)}};{rcases hz with hz | hz;{exact lH hz mP};{exact hz.2.2 J (fb4 o ho J hn)}}
 {cases hC}
theorem UT {o:AD} {V st':St} {e e1:E} {out:Al} (O:A3 M h dep mH i o V e=some (out,e1,info)) (hc:info.cls=.calls) (U:∀ s∈info.reads,V.tmps.getD s .undef=st'.tmps.getD s .undef) (h3:Ce o st'=Ce o V) :
  Bb out=true/\A3 M h dep mH i o st' e=some (out,e1,info):=by
 obtain⟨dst,op,gu⟩:=o;unfold A3 at O |-
 have hw:(∀ s∈CB mH ⟨dst,op,gu⟩,V.tmps.getD s .undef=st'.tmps.getD s .undef)->BO mH ⟨dst,op,gu⟩ st'.tmps=BO mH ⟨dst,op,gu⟩ V.tmps:=by
  intro hg;unfold BO CB at *;cases yC:gu with
  | none=>rfl
  | some jw =>
   obtain⟨j,want⟩:=jw;rw[yC] at hg;simp only at hg |-;cases hj:mH[j]? with
   | none=>rfl
   | some p =>
    rw[hj] at hg;simp only at hg |-;cases hd:p.dst with
    | none=>rfl
    | some d =>
     rw[hd] at hg;simp only
     rw[hg d (by simp)]
 cases rR:BO mH ⟨dst,op,gu⟩ V.tmps with
 | none=>rw[rR] at O;cases O
 | some b =>
  rw[rR] at O;cases b with
  | false=>simp only at O;cases O;cases hc
  | true =>
   simp only at O;cases mC:By M h dep ⟨dst,op,gu⟩ V e with
   | none=>rw[mC] at O;cases O
   | some q =>
    obtain⟨rF,e'⟩:=q;rw[mC] at O;simp only at O;obtain⟨rfl,rfl,rfl⟩:rF=out/\e'=e1/\CN mH i ⟨dst,op,gu⟩ V rF=info:=by simp only[il,iP] at O;exact O
    have hyl:FU op V.tmps=true:=by
     simp only[CN] at hc;split at hc;{split at hc;{assumption};·cases hc}
     ·split at hc;·cases hc
      ·split at hc;·cases hc
       {split at hc<;>cases hc}
    unfold FU at hyl;split at hyl
    case h_2=>cases hyl
    rename_i f args;split at hyl
    case h_2=>cases hyl
    rename_i d hf
    have zQ:∀ x∈f :: args,x.ev V.tmps=x.ev st'.tmps:=by
     intro x hxm;cases x with
     | c v=>rfl
     | t s=>exact U s (iF _ (kz.2 ⟨.t s,by simpa[An.Z] using hxm,rfl⟩))
    have rV:=zQ f iw;have hae:=GU (Z:=args) fun x hxm=>zQ x (iA _ hxm);have hae2:=GU (Z:=f :: args) zQ;unfold By at mC;obtain⟨qo,mC⟩:=AQ mC;simp only at mC;obtain⟨pC,se⟩:=QF mC;have sV:=pC;unfold Cj at sV;simp only[hf,hyl,lq] at sV;obtain⟨hny,rW⟩:=AQ sV;clear sV;cases hh:h d (args.map (RX.ev V.tmps)) e with
    | none=>rw[hh] at rW;cases rW
    | some q =>
     obtain⟨bb,ee⟩:=q;rw[hh] at rW;simp only[il,iP] at rW;obtain⟨rfl,rfl⟩:=rW;refine⟨rfl,?_⟩;have hcall':Cj M h dep (dst.getD 0) (Ac st'.mi) st'.tmps f args e=some ({v:=.bool bb},ee):=by unfold Cj;simp only[<-rV,<-hae,hf,hyl,lq,hny,Av,hh]
     have rS:By M h dep ⟨dst,.call f args,gu⟩ st' e=some ({v:=.bool bb},ee):=by unfold By;rw[h3,qo];simp only[Av,lq,hcall',se]
     rw[hw fun s hs=>U s (iJ _ hs),rR];simp only[rS,il,iP,true_and];have pY:(f.ev V.tmps).names=[]:=by rw[hf];rfl
     have qL:Ar ((f :: args).map (RX.ev V.tmps))=[]:=by rw[iE];simp only[Ar,pY,jz];exact iS.1 hyl
     have tJ:∀ s:St,Ar ((f :: args).map (RX.ev s.tmps))=[]->CI ⟨dst,.call f args,gu⟩ s {v:=.bool bb}=[]:=by
      intro s hs;unfold CI;rw[lr (by simp[D7])];have:(An.call f args).Z=f :: args:=rfl;rw[this,hs];simp only[j6]
      have:∀ (σ:Nm->lV) (k:Nat),AI σ k []=[]:=by
       intro σ k;induction k with
       | zero=>rfl
       | succ k ih=>simp[AI,ih]
      exact this _ _
     unfold CN;rw[tJ V qL,tJ st' (by rw[<-hae2];exact qL)];have hy2:FU (.call f args) st'.tmps=FU (.call f args) V.tmps:=by unfold FU;simp only[<-rV,<-hae]
     have e2:(An.call f args).Z=f :: args:=rfl;simp only[hy2,e2,<-hae2,Eg,Gk,List.flatMap_nil,Hl,jj,vJ,jL];congr 1;exact Kh U
def KN (dst:lT) (o:Al) (mi:List lY):List lY :=
 let mi:=if o.nh.isEmpty then mi else Bp o.nh mi
 let mi:=match o.slot with
  | some r=>mi.set r (mi.getD r []++o.new)
  | none=>mi
 match dst with
 | some d=>if o.slot.isSome||o.new.isEmpty then mi else mi.set d o.new
 | none=>mi
def HV (dst:lT) (v:PV) (tm:lS):lS:=match dst with
 | some d=>tm.set d v
 | none=>tm
theorem Jq {V:St} {out:Al} (hs:FR out=true):apply V dst out={tmps:=HV dst out.v V.tmps,mj:=V.mj,mi:=KN dst out V.mi}:=by unfold FR at hs;simp only[ie,iS,jY] at hs;obtain⟨⟨⟨U,H⟩,h3⟩,h4⟩:=hs;unfold apply KN HV;rw[U,H,h3,h4];cases dst<;>cases out.slot<;>cases hu:out.nh<;>simp
theorem Nq {V:St} {out:Al} (hs:Bb out=true) (hn:out.new=[]):apply V dst out={V with tmps:=HV dst out.v V.tmps}:=by rw[OL hs,hn];cases dst<;>rfl
theorem Zr (h:s ∉ dst.toList):(HV dst v tm).getD s .undef=tm.getD s .undef:=by
 cases dst with
 | none=>rfl
 | some d =>
  have:d≠s:=fun e=>h (by simp[e]);simp only[HV,ip,iI this]
theorem vO {d:lT} (h:∀ x∈d'.toList,x ∉ d.toList) (v v':PV) (tm:lS):HV d v (HV d' v' tm)=HV d' v' (HV d v tm):=by
 cases d with
 | none=>rfl
 | some a =>
  cases d' with
  | none=>rfl
  | some b =>
   have:b≠a:=fun e=>h b (by simp) (by simp[e]);simp only[HV];exact jK _ _ this
theorem comm_io {V:St} {ob:Al} (ha:Bb oa=true) (hn:oa.new=[]) (hb:FR ob=true) (hd:∀ x∈da.toList,x ∉ db.toList):apply (apply V da oa) db ob=apply (apply V db ob) da oa:=by rw[Nq ha hn,Jq hb,Jq hb,Nq ha hn];simp only[vO hd]
theorem vP:∀ (l:List (Nm×Ob)) (mi:List lY) (oZ:Ob),Ac mi J=some oZ->∃ sG,Ac (Bp l mi) J=some sG/\((J,sG)∈l\/(sG=oZ/\∀ p∈l,p.1≠J)):=by
 intro l;induction l with
 | nil=>intro mi oZ h;exact⟨oZ,h,.inr ⟨rfl,fun _ h=>by cases h⟩⟩
 | cons p l ih =>
  obtain⟨m,o⟩:=p;intro mi oZ h;by_cases hm:m=J;{subst hm;obtain⟨sG,q1,q2⟩:=ih (AR mi m o) o (Ka o h);refine⟨sG,q1,.inl ?_⟩;rcases q2 with q2 | ⟨rfl,_⟩;{exact iA _ q2};{exact iw}}
  ·obtain⟨sG,q1,q2⟩:=ih (AR mi m o) oZ (by rw[FC o fun e=>hm e.symm];exact h);refine⟨sG,q1,?_⟩;rcases q2 with q2 | ⟨q2,q3⟩;{exact .inl (iA _ q2)}
   {refine .inr ⟨q2,fun p hp=>?_⟩;rcases im.1 hp with rfl | hp;{exact hm};{exact q3 p hp}}
theorem look_io {V:St} {out:Al} (hs:FR out=true) (h0:Ac V.mi J=some oZ) (hd:J.1 ∉ dst.toList) (hm:∃ p∈out.nh,p.1=J):∃ sG,Ac (apply V dst out).mi J=some sG/\(J,sG)∈out.nh:=by
 rw[Jq hs];obtain⟨sG,q1,q2⟩:=vP out.nh V.mi oZ h0;have su:(J,sG)∈out.nh:=by rcases q2 with q2 | ⟨_,q3⟩;{exact q2};{obtain⟨p,hp,he⟩:=hm;exact lH he (q3 p hp)}
 refine⟨sG,?_,su⟩
 have U:Ac (if out.nh.isEmpty then V.mi else Bp out.nh V.mi) J=some sG:=by
  cases hu:out.nh with
  | nil=>rw[hu] at su;cases su
  | cons p l=>rw[hu] at q1;exact q1
 unfold KN;simp only
 generalize (if out.nh.isEmpty then V.mi else Bp out.nh V.mi)=mi at U |-
 have H:Ac (match out.slot with
  | some r=>mi.set r (mi.getD r []++out.new)
  | none=>mi) J=some sG:=by
  cases out.slot with
  | none=>exact U
  | some r =>
   simp only
   unfold Ac at U |-;by_cases hr:r=J.1
   ·subst hr;cases hl:mi[J.1]? with
    | none=>rw[hl] at U;cases U
    | some l =>
     rw[hl] at U;have mL:=(ix.1 hl).1;rw[jo mL,ip,hl];simp only at U;simp only[iT];rw[jd (ix.1 U).1];exact U
   {rw[iI hr];exact U}
 cases dst with
 | none=>exact H
 | some d =>
  simp only
  split;{exact H};{have:d≠J.1:=fun e=>hd (by simp[e]);unfold Ac at H |-;rw[iI this];exact H}
theorem zR:∀ {u v:PV},yM u v=true->u=v:=by intro u v h;unfold yM at h;split at h;{simp only[lw] at h;obtain⟨rfl,rfl,rfl,rfl⟩:=h;rfl};{simp only[lw] at h;obtain⟨rfl,rfl⟩:=h;rfl};{simp only[lw] at h;obtain⟨rfl,rfl⟩:=h;rfl};{rfl};{rfl};·cases h
theorem vQ {l:Nm×Nat×Nat×Bool×PV} {ob:Ob} (h:Qs l ob=true):∃ ty cs,ob=.cells ty cs/\Cd cs l.2.1 l.2.2.1 l.2.2.2.1=some l.2.2.2.2:=by unfold Qs at h;split at h;{rename_i ty cs;split at h;{rename_i u hu;exact⟨_,_,rfl,by rw[hu,zR h]⟩};·cases h};{cases h}
theorem ZK {o:AD} {V:St} {e e1:E} {out:Al} (O:A3 M h dep mH i o V e=some (out,e1,info)) :
  (info.nw=true->out.new=[]/\DO o.op=false)/\(info.cls=.ios->FR out=true/\info.pr=out.nh.map (fun p=>(p.1,Ac V.mi p.1))/\info.aft=out.nh/\info.sl=out.slot.map fun r=>(r,(V.mi.getD r []).length))/\(∀ s∈Jt o.op.Z++CB mH o,info.cls=.ios->s∈info.reads):=by
 unfold A3 at O;split at O
 ·split at O
  ·cases O;unfold CN;refine⟨fun hn=>?_,fun hc=>⟨?_,rfl,rfl,rfl⟩,fun s hs _=>hs⟩
   all_goals simp only at *
   {simp only[ie,iS,jt] at hn;exact hn}
   ·split at hc;{split at hc<;>cases hc}
    ·split at hc;·cases hc
     ·split at hc;·cases hc
      {split at hc;{assumption};·cases hc}
  {cases O}
 {cases O;exact⟨fun hn=>⟨rfl,by simpa using hn⟩,fun hc=>(by cases hc),fun _ _ hc=>(by cases hc)⟩};{cases O}
theorem Z6 {o:AD} (hm:DO o.op=false) (V st':St):Ce o st'=Ce o V:=by unfold Ce;rw[hm];rfl
theorem UU {o:AD} {V st':St} {e e1:E} {out:Al} (O:A3 M h dep mH i o V e=some (out,e1,info)) {l:Nm×Nat×Nat×Bool×PV} (hl:info.ld=some l)
  (U:∀ s∈info.reads,V.tmps.getD s .undef=st'.tmps.getD s .undef) (H:∃ ob,Ac st'.mi l.1=some ob/\Qs l ob=true):(∃ ob,Ac V.mi l.1=some ob)/\info.rn=[l.1]/\∀ e2:E,A3 M h dep mH i o st' e2=some (out,e2,info):=by
 obtain⟨dst,op,gu⟩:=o
 have hw:(∀ s∈CB mH ⟨dst,op,gu⟩,V.tmps.getD s .undef=st'.tmps.getD s .undef)->BO mH ⟨dst,op,gu⟩ st'.tmps=BO mH ⟨dst,op,gu⟩ V.tmps:=by
  intro hg;unfold BO CB at *;cases yC:gu with
  | none=>rfl
  | some jw =>
   obtain⟨j,want⟩:=jw;rw[yC] at hg;simp only at hg |-;cases hj:mH[j]? with
   | none=>rfl
   | some p =>
    rw[hj] at hg;simp only at hg |-;cases hd:p.dst with
    | none=>rfl
    | some d =>
     rw[hd] at hg;simp only
     rw[hg d (by simp)]
 unfold A3 at O;split at O
 case h_2=>cases O;cases hl
 case h_3=>cases O
 rename_i rR;split at O
 case h_2=>cases O
 rename_i rF e' mC;cases O;simp only[CN] at hl U;unfold Hl at hl;split at hl
 case h_2=>cases hl
 rename_i n ag x;split at hl
 case h_2=>cases hl
 rename_i J k qw;cases hl;obtain⟨ob,oI,hgo⟩:=H;simp only at oI;obtain⟨ty,cs,rfl,hsel⟩:=vQ hgo;simp only at hsel
 have rE:x.ev V.tmps=x.ev st'.tmps:=by
  cases x with
  | c v=>rfl
  | t s=>exact U s (iF _ (kz.2 ⟨.t s,by simp[An.Z],rfl⟩))
 unfold By at mC;obtain⟨_,mC⟩:=AQ mC;simp only at mC;cases hex:exec (dst.getD 0) (Ac V.mi) V.tmps (.load n ag x) with
 | none=>rw[hex] at mC;cases mC
 | some o2 =>
  rw[hex] at mC;simp only[il,iP] at mC;obtain⟨rfl,rfl⟩:=mC;simp only[exec,qw] at hex;split at hex
  case h_2=>cases hex
  rename_i ty0 cs0 nq;obtain⟨v,hv,rfl⟩:=ij.1 hex;simp only at hsel;have tJ:∀ s:St,x.ev s.tmps=.ref J k->CI ⟨dst,.load n ag x,gu⟩ s {v}=[J]:=by intro s hs;unfold CI;rw[lr (by simp[D7])];have nK:Bb {v}=true:=rfl;simp[FG,Eg,nK,AI,An.Z,Ar,hs,PV.names]
  refine⟨⟨_,nq⟩,tJ V qw,fun e2=>?_⟩;have hexd:exec (dst.getD 0) (Ac st'.mi) st'.tmps (.load n ag x)=some {v}:=by simp only[exec,<-rE,qw,oI,hsel,iu]
  have rU:By M h dep ⟨dst,.load n ag x,gu⟩ st' e2=some ({v},e2):=by unfold By;simp[Ce,DO,Av,hexd]
  unfold A3;rw[hw fun s hs=>U s (iJ _ hs),rR];simp only[rU,il,iP,true_and];unfold CN;simp only[tJ V qw,tJ st' (by rw[<-rE];exact qw),Eg,lq,<-rE,Hl,jj,Yk,jL];congr 1;exact Kh U
theorem Yv {d:Nat}:∀ (l:List (Nm×Ob)) (mi:List lY),(∀ p∈l,p.1.1≠d)->(Bp l mi)[d]?=mi[d]?
 | [],_,_=>rfl
 |(m,o) :: l,mi,h=>by
  have U:m.1≠d:=h (m,o) iw;simp only[Bp];rw[Yv l _ fun p hp=>h p (iA _ hp)];unfold AR;split;{exact iI U};{rfl}
theorem Xq {d:Nat} {n:lY}:∀ (l:List (Nm×Ob)) (mi:List lY),(∀ p∈l,p.1.1≠d)->Bp l (mi.set d n)=(Bp l mi).set d n
 | [],_,_=>rfl
 |(m,o) :: l,mi,h=>by
  have U:m.1≠d:=h (m,o) iw;simp only[Bp];rw[<-Xq l _ fun p hp=>h p (iA _ hp)];congr 1;unfold AR;rw[iI (iN U)];split;{exact (jK _ _ U).symm};{rfl}
theorem Xr {r:Nat}:∀ (l:List (Nm×Ob)) (mi:List lY),((Bp l mi).getD r []).length=(mi.getD r []).length
 | [],_=>rfl
 |(m,o) :: l,mi=>by
  simp only[Bp];rw[Xr l];unfold AR;split;{rename_i l0 h0;by_cases e:m.1=r;{subst e;have mL:=(ix.1 h0).1;simp[ip,jo mL,h0]};{simp[ip,iI e]}};{rfl}
theorem Wn {J:Nm}:∀ (l:List (Nm×Ob)) (mi:List lY),(∀ p∈l,p.1≠J)->Ac (Bp l mi) J=Ac mi J
 | [],_,_=>rfl
 |(m,o) :: l,mi,h=>by
  simp only[Bp];rw[Wn l _ fun p hp=>h p (iA _ hp)];exact FC o fun e=>h (m,o) iw e.symm
theorem Q9 (o:Al) (mi:List lY):(if o.nh.isEmpty then mi else Bp o.nh mi)=Bp o.nh mi:=by cases o.nh<;>rfl
theorem Wy {V:St} {out:Al} (hs:FR out=true) (hd:J.1 ∉ dst.toList) (hu:∀ p∈out.nh,p.1≠J) (sn:∀ r,out.slot=some r->J.1=r->J.2 < (V.mi.getD r []).length) :
  Ac (apply V dst out).mi J=Ac V.mi J:=by
 rw[Jq hs];unfold KN;simp only
 rw[Q9];have U:=Wn out.nh V.mi hu
 have H:Ac (match out.slot with
  | some r=>(Bp out.nh V.mi).set r ((Bp out.nh V.mi).getD r []++out.new)
  | none=>Bp out.nh V.mi) J=Ac V.mi J:=by
  cases hr:out.slot with
  | none=>exact U
  | some r =>
   simp only
   rw[<-U];by_cases e:J.1=r
   ·have mL:=sn r hr e;rw[<-Xr out.nh] at mL;generalize Bp out.nh V.mi=mi at mL |-;subst e;have hl:J.1 < mi.length:=by rcases ka J.1 mi.length with h | h;{exact h};{rw[ip,i6 h] at mL;simp at mL}
    unfold Ac;rw[jo hl];rw[iG hl];simp only
    rw[ip,iG hl] at mL |-;simp only[iT] at mL |-;exact jd mL
   {exact EA _ e}
 cases dst with
 | none=>exact H
 | some d =>
  simp only
  split;{exact H};{rw[EA _ fun e=>hd (by simp[e])];exact H}
theorem io_at {V:St} {out:Al} (hs:FR out=true) {d:Nat} (hd:d ∉ dst.toList) (hu:∀ p∈out.nh,p.1.1≠d) (sn:∀ r,out.slot=some r->r≠d):(apply V dst out).mi[d]?=V.mi[d]?:=by
 rw[Jq hs];unfold KN;simp only
 rw[Q9];have U:=Yv out.nh V.mi hu
 have H:(match out.slot with
  | some r=>(Bp out.nh V.mi).set r ((Bp out.nh V.mi).getD r []++out.new)
  | none=>Bp out.nh V.mi)[d]?=V.mi[d]?:=by
  cases hr:out.slot with
  | none=>exact U
  | some r=>simp only;rw[iI (sn r hr)];exact U
 cases dst with
 | none=>exact H
 | some x =>
  have O:x≠d:=fun e=>hd (by simp[e]);simp only
  split;{exact H};{rw[iI O];exact H}
def OA (da:lT) (oa ob:Al):Prop:=oa.new=[]\/((∀ p∈ob.nh,p.1.1 ∉ da.toList)/\∀ r,ob.slot=some r->r ∉ da.toList)
theorem gJ {d:Nat} {n:lY} {ob:Al} (mi:List lY) (hu:∀ p∈ob.nh,p.1.1≠d) (sn:∀ r,ob.slot=some r->r≠d) (hd:∀ x,db=some x->x≠d):KN db ob (mi.set d n)=(KN db ob mi).set d n:=by
 unfold KN;simp only
 rw[Q9,Q9,Xq _ _ hu];generalize Bp ob.nh mi=os
 have H:(match ob.slot with
  | some r=>(os.set d n).set r ((os.set d n).getD r []++ob.new)
  | none=>os.set d n)=(match ob.slot with
  | some r=>os.set r (os.getD r []++ob.new)
  | none=>os).set d n:=by
  cases hr:ob.slot with
  | none=>rfl
  | some r =>
   have:=sn r hr;simp only
   rw[jK _ _ (iN this)];congr 2;rw[ip,ip,iI (iN this)]
 rw[H];cases db with
 | none=>rfl
 | some x =>
  simp only
  split;{rfl};{exact jK _ _ (iN (hd x rfl))}
theorem an {V:St} {ob:Al} (ha:Bb oa=true) (hn:OA da oa ob) (hb:FR ob=true) (hd:∀ x∈da.toList,x ∉ db.toList):apply (apply V da oa) db ob=apply (apply V db ob) da oa:=by
 rcases hn with hn | ⟨n1,n2⟩;{exact comm_io ha hn hb hd};rw[EB ha,EB ha,Jq hb,Jq hb];cases da with
 | none=>rfl
 | some d =>
  have O:∀ x,db=some x->x≠d:=fun x e e2=>hd d (by simp) (by simp[e,e2]);have u1:∀ p∈ob.nh,p.1.1≠d:=fun p hp e=>n1 p hp (by simp[e]);have u2:∀ r,ob.slot=some r->r≠d:=fun r hr e=>n2 r hr (by simp[e]);simp only[Cr,St.mk.injEq,and_true];refine⟨?_,?_⟩
  ·cases db with
   | none=>rfl
   | some x=>simp only[HV];exact jK _ _ (iN (O x rfl))
  {split;{rfl};{exact gJ _ u1 u2 O}}
theorem RQ {a b:Bk} {ob:Al} (hda:a.dst=da) (hn:(a.nw||PX a b)=true) (nP:a.nw=true->oa.new=[]) (hb:b.pr=ob.nh.map fun p=>(p.1,σ p.1)) (hs:b.sl=ob.slot.map fun r=>(r,ln r)):OA da oa ob:=by
 rcases jW.1 hn with h | h;{exact .inl (nP h)}
 {refine .inr ⟨fun p hp hd=>?_,fun r hr hd=>?_⟩;{have U:=iy.1 h p.1.1 (by rw[hda];exact hd);obtain⟨U,_⟩:=jB.1 U;have:=iy.1 U (p.1,σ p.1) (by rw[hb];exact ii.2 ⟨p,hp,rfl⟩);simp at this};{have U:=iy.1 h r (by rw[hda];exact hd);obtain⟨_,U⟩:=jB.1 U;rw[hs,hr] at U;simp at U}}
theorem YY {a b:Bk} {ob:Al} (h:V5 a b=true) (hb:b.pr=ob.nh.map fun p=>(p.1,σ p.1)) (hs:b.sl=ob.slot.map fun r=>(r,ln r)) (hn:J∈a.rn):(∀ p∈ob.nh,p.1≠J)/\∀ r,ob.slot=some r->J.1=r->J.2 < ln r:=by have U:=iy.1 h J hn;obtain⟨U,H⟩:=jB.1 U;refine⟨fun p hp e=>?_,fun r hr e=>?_⟩;{have:=iy.1 U (p.1,σ p.1) (by rw[hb];exact ii.2 ⟨p,hp,rfl⟩);simp[e] at this};{rw[hs,hr] at H;simpa[e] using H}
theorem swapI (hM:E8 M) {a b:AD} {V:St} {e ea eb:E} {ob:Al} (U:A3 M h dep mH i a V e=some (oa,ea,ia)) (H:A3 M h dep mH j b (apply V a.dst oa) ea=some (ob,eb,ib))
  (hd:(Gc ia.dst.toList (ib.reads++ib.dst.toList)&&Gc ib.dst.toList ia.reads&&Gc ia.dst.toList (ib.rn.map (·.1))&&Gc ib.dst.toList (ia.rn.map (·.1)))=true) (hi:V7 ia ib=true) :
  ∃ em,A3 M h dep mH j b V e=some (ob,em,ib)/\A3 M h dep mH i a (apply V b.dst ob) em=some (oa,eb,ia)/\apply (apply V a.dst oa) b.dst ob=apply (apply V b.dst ob) a.dst oa:=by
 have da:=Nh U;have db:=Nh H;obtain⟨fa1,_,_,_⟩:=M5 U;obtain⟨fb1,_,_,_⟩:=M5 H;obtain⟨na1,na2,na3⟩:=ZK U;obtain⟨nb1,nb2,nb3⟩:=ZK H;simp only[ie] at hd;obtain⟨⟨⟨g1,g2⟩,g3⟩,g4⟩:=hd;rw[da] at g1 g3;rw[db] at g1 g2 g4;have g1:=Gb g1;have g2:=Gb g2;have g3:=Gb g3;have g4:=Gb g4;have gd:∀ x∈b.dst.toList,x ∉ a.dst.toList:=fun x O=>g1 x (iJ _ O);have zP:∀ x∈a.dst.toList,x ∉ b.dst.toList:=fun x O p9=>gd x p9 O;have gb:∀ d,b.dst=some d->d ∉ a.dst.toList:=fun d hd=>gd d (by rw[hd];simp);have ga:∀ d,a.dst=some d->d ∉ b.dst.toList:=fun d hd=>zP d (by rw[hd];simp);unfold V7 at hi;split at hi
 ·rename_i ca cb;obtain⟨hnw,hor⟩:=jB.1 hi;obtain⟨sb,sW,haft,sn⟩:=nb2 cb;have sa:=fa1 ca;obtain⟨_,ea',ma0⟩:=ES hM (st':=V) U (.inl ca) (fun _ _=>rfl) (fun _ _=>rfl) rfl;subst ea';have ap:OA a.dst oa ob:=RQ da hnw (fun h=>(na1 h).1) sW sn;have hA:∀ J:Nm,oa.new=[]\/J.1 ∉ a.dst.toList->Ac (apply V a.dst oa).mi J=Ac V.mi J:=fun J hq=>by rcases hq with hq | hq;{rw[Nq sa hq]};{exact GV sa hq}
  have hB:∀ r:Nat,oa.new=[]\/r ∉ a.dst.toList->V.mi.getD r []=(apply V a.dst oa).mi.getD r []:=fun r hq=>by
   rcases hq with hq | hq;{rw[Nq sa hq]}
   ·rw[EB sa];cases hda:a.dst with
    | none=>rfl
    | some d =>
     simp only[Cr];split;{rfl};{have:d≠r:=fun e=>hq (by rw[hda];simp[e]);rw[ip,ip,iI this]}
  obtain⟨ee,mb⟩:=Xt hM (st':=V) H (.inr (.inr cb)) (fun s hs=>Ij sa (g1 s (iF _ hs))) (fun J hn=>GV sa (g3 J.1 (ii.2 ⟨J,hn,rfl⟩))) (Ig sa gb).symm
   ⟨fun p hp=>hA p.1 (ap.imp id fun q=>q.1 p hp),fun r hr=>hB r (ap.imp id fun q=>q.2 r hr)⟩
  subst ee;have zS:∀ s∈ia.reads,V.tmps.getD s .undef=(apply V b.dst ob).tmps.getD s .undef:=fun s hs=>by rw[Jq sb];exact (Zr (g2 s hs)).symm
  have qo:Ce a (apply V b.dst ob)=Ce a V:=by
   rcases jW.1 hnw with hq | hq;{exact Z6 (na1 hq).2 _ _}
   ·refine RL fun d uU=>?_;have hap:OA a.dst {oa with new:=[AP]} ob:=RQ da (a:={ia with nw:=false}) (b:=ib) (by simpa[PX] using hq) (fun h=>by cases h) sW sn;rcases hap with e | ⟨q1,q2⟩;·cases e
    {exact lD (Option.map List.isEmpty) (io_at sb (ga d uU) (fun p hp e=>q1 p hp (by rw[uU];simp[e])) fun r hr e=>q2 r hr (by rw[uU];simp[e]))}
  refine⟨_,mb _,?_,an sa ap sb zP⟩;rcases jW.1 hor with hU | hL
  ·refine (ES hM (st':=apply V b.dst ob) U (.inl ca) zS (fun J hn=>?_) qo).2.2 _;obtain⟨u1,u2⟩:=YY hU sW sn hn;refine (Wy sb (g4 J.1 (ii.2 ⟨J,hn,rfl⟩)) u1 fun r hr er=>?_).symm;have:=u2 r hr er;rcases ap with q | q
   ·rwa [<-hB r (.inl q)] at this
   ·rwa [<-hB r (.inr (q.2 r hr))] at this
  ·unfold SF at hL;split at hL
   case h_2=>cases hL
   rename_i l hl;simp only[ie] at hL;obtain⟨k1,k2,k3⟩:=hL;rw[haft] at k1 k2;obtain⟨p,hp,zT⟩:=List.any_eq_true.1 k1;have zT:=lI zT;have nq:Ac (apply V a.dst oa).mi l.1=Ac V.mi l.1:=hA l.1 (ap.imp id fun q=>by rw[<-zT];exact q.1 p hp);have tJ:ia.rn=[l.1]/\∃ oZ,Ac V.mi l.1=some oZ:=by have hq:=iy.1 k3 (p.1,Ac (apply V a.dst oa).mi p.1) (by rw[sW];exact ii.2 ⟨p,hp,rfl⟩);simp only[zT,lz,jC,j9] at hq;rw[nq] at hq;split at hq;{rename_i oZ h0;exact⟨(UU (st':=V) U hl (fun _ _=>rfl) ⟨oZ,h0,hq⟩).2.1,oZ,h0⟩};{cases hq}
   obtain⟨tJ,oZ,h0⟩:=tJ;obtain⟨sG,q1,q2⟩:=look_io sb h0 (g4 l.1.1 (by rw[tJ];simp)) ⟨p,hp,zT⟩;have hg:=iy.1 k2 (l.1,sG) q2;simp only[lz,jC,j9] at hg;exact (UU U hl zS ⟨sG,q1,hg⟩).2.2 _
 ·rename_i ca cb;obtain⟨hnw,hor⟩:=jB.1 hi;obtain⟨sa,sW,haft,sn⟩:=na2 ca;have sb:=fb1 cb;obtain⟨_,eb',mb0⟩:=ES hM (st':=apply V a.dst oa) H (.inl cb) (fun _ _=>rfl) (fun _ _=>rfl) rfl;subst eb';have ap:OA b.dst ob oa:=RQ db hnw (fun h=>(nb1 h).1) sW sn;have zS:∀ s∈ib.reads,(apply V a.dst oa).tmps.getD s .undef=V.tmps.getD s .undef:=fun s hs=>by rw[Jq sa];exact Zr (g1 s (iF _ hs))
  have qo:Ce b V=Ce b (apply V a.dst oa):=by
   rcases jW.1 hnw with hq | hq;{exact Z6 (nb1 hq).2 _ _}
   ·refine (RL fun d uU=>?_).symm;have hap:OA b.dst {ob with new:=[AP]} oa:=RQ db (a:={ib with nw:=false}) (b:=ia) (by simpa[PX] using hq) (fun h=>by cases h) sW sn;rcases hap with e | ⟨q1,q2⟩;·cases e
    {exact lD (Option.map List.isEmpty) (io_at sa (gb d uU) (fun p hp e=>q1 p hp (by rw[uU];simp[e])) fun r hr e=>q2 r hr (by rw[uU];simp[e]))}
  have mb:A3 M h dep mH j b V e=some (ob,e,ib):=by
   rcases jW.1 hor with hU | hL
   {refine (ES hM (st':=V) H (.inl cb) zS (fun J hn=>?_) qo).2.2 e;obtain⟨u1,u2⟩:=YY hU sW sn hn;exact Wy sa (g3 J.1 (ii.2 ⟨J,hn,rfl⟩)) u1 u2}
   ·unfold SF at hL;split at hL
    case h_2=>cases hL
    rename_i l hl;simp only[ie] at hL;obtain⟨k1,k2,k3⟩:=hL;rw[haft] at k1;obtain⟨p,hp,zT⟩:=List.any_eq_true.1 k1;have zT:=lI zT;have hq:=iy.1 k3 (p.1,Ac V.mi p.1) (by rw[sW];exact ii.2 ⟨p,hp,rfl⟩);simp only[zT,lz,jC,j9] at hq;split at hq;{rename_i oZ h0;exact (UU H hl zS ⟨oZ,h0,hq⟩).2.2 e};{cases hq}
  have hA:∀ J:Nm,ob.new=[]\/J.1 ∉ b.dst.toList->Ac V.mi J=Ac (apply V b.dst ob).mi J:=fun J hq=>by rcases hq with hq | hq;{rw[Nq sb hq]};{exact (GV sb hq).symm}
  have hB:∀ r:Nat,ob.new=[]\/r ∉ b.dst.toList->(apply V b.dst ob).mi.getD r []=V.mi.getD r []:=fun r hq=>by
   rcases hq with hq | hq;{rw[Nq sb hq]}
   ·rw[EB sb];cases hdb:b.dst with
    | none=>rfl
    | some d =>
     simp only[Cr];split;{rfl};{have:d≠r:=fun e=>hq (by rw[hdb];simp[e]);rw[ip,ip,iI this]}
  obtain⟨ee,ma⟩:=Xt hM (st':=apply V b.dst ob) U (.inr (.inr ca)) (fun s hs=>(Ij sb (g2 s hs)).symm) (fun J hn=>(GV sb (g4 J.1 (ii.2 ⟨J,hn,rfl⟩))).symm) (Ig sb ga)
   ⟨fun p hp=>hA p.1 (ap.imp id fun q=>q.1 p hp),fun r hr=>hB r (ap.imp id fun q=>q.2 r hr)⟩
  subst ee;exact⟨_,mb,ma _,(an sb ap sa gd).symm⟩
 {cases hi}
theorem QT {o:AD} {V st':St} {e e1:E} {out:Al} (O:A3 M h dep mH i o V e=some (out,e1,info)) {x:Nm} (hs:info.V=some x) (ht:st'.tmps=V.tmps) (hl:Ac st'.mi x=Ac V.mi x) :
  o.dst=none/\(∃ obx,out={v:=.undef,nf:=some (x,obx)})/\e1=e/\∀ e2:E,A3 M h dep mH i o st' e2=some (out,e2,info):=by
 obtain⟨dst,op,gu⟩:=o;unfold A3 at O;split at O
 case h_2=>cases O;cases hs
 case h_3=>cases O
 rename_i rR;split at O
 case h_2=>cases O
 rename_i rF e' mC;cases O;simp only[CN] at hs;unfold I5 at hs;split at hs
 case h_2=>cases hs
 rename_i n tx tv;have hex:exec 0 (Ac V.mi) V.tmps (.store n tx tv)=some out/\e1=e:=by unfold By at mC;obtain⟨_,mC⟩:=AQ mC;simp only[Option.getD_none] at mC;split at mC;{rename_i o2 ho;cases mC;exact⟨ho,rfl⟩};·cases mC
 obtain⟨hex,rfl⟩:=hex;have zU:∃ obx,out={v:=.undef,nf:=some (x,obx)}:=by simp only[exec] at hex;split at hs;{rename_i J k mo;cases hs;rw[mo] at hex;simp only at hex;split at hex;{obtain⟨_,hex⟩:=AQ hex;cases hex;exact⟨_,rfl⟩};·cases hex};{rename_i J k i o mo;cases hs;rw[mo] at hex;simp only at hex;split at hex;{split at hex;{obtain⟨_,hex⟩:=AQ hex;cases hex;exact⟨_,rfl⟩};{obtain⟨_,hex⟩:=AQ hex;cases hex;exact⟨_,rfl⟩};·cases hex};{cases hex}};{cases hs}
 refine⟨rfl,zU,rfl,fun e2=>?_⟩;obtain⟨obx,rfl⟩:=zU;have hex2:exec 0 (Ac st'.mi) st'.tmps (.store n tx tv)=some {v:=.undef,nf:=some (x,obx)}:=by rw[<-hex];simp only[exec,ht];split at hs;{rename_i J k mo;cases hs;simp only[hl]};{rename_i J k i o mo;cases hs;simp only[hl]};{cases hs}
 have rU:By M h dep ⟨none,.store n tx tv,gu⟩ st' e2=some ({v:=.undef,nf:=some (x,obx)},e2):=by unfold By;simp[Ce,DO,Av,hex2]
 unfold A3;rw[ht,rR];simp only[rU,il,iP,true_and];unfold CN CI;simp only[ht,D7,FG,HB,KR,Eg,jM,Bool.true_or,Bool.or_true,lq,iq,lm,AI,Hl,jj,jL]
theorem ef (σ:List lY) {a b:Nm} (h:a≠b) (o p:Ob):AR (AR σ a o) b p=AR (AR σ b p) a o:=by
 obtain⟨a1,a2⟩:=a;obtain⟨b1,b2⟩:=b;unfold AR;simp only
 by_cases zC:a1=b1
 ·subst zC;have H:a2≠b2:=fun e=>h (by rw[e]);cases hl:σ[a1]? with
  | none=>simp[hl]
  | some l =>
   have mL:=(ix.1 hl).1;simp only[jo mL,List.set_set];rw[jK _ _ H]
 ·cases ha:σ[a1]? with
  | none =>
   cases hb:σ[b1]? with
   | none=>simp[ha,hb]
   | some l' =>
    simp only[hb];rw[iI (iN zC),ha]
  | some l =>
   simp only
   rw[iI zC];cases hb:σ[b1]? with
   | none=>simp[ha]
   | some l' =>
    simp only
    rw[iI (iN zC),ha];simp only
    rw[jK _ _ zC]
theorem W5 (V:St) (x:Nm) (ob:Ob):apply V none {v:=.undef,nf:=some (x,ob)}={V with mi:=AR V.mi x ob}:=rfl
theorem swapS {a b:AD} {V:St} {e ea eb:E} {ob:Al} (U:A3 M h dep mH i a V e=some (oa,ea,ia)) (H:A3 M h dep mH j b (apply V a.dst oa) ea=some (ob,eb,ib)) (hS:V6 ia ib=true) :
  ∃ em,A3 M h dep mH j b V e=some (ob,em,ib)/\A3 M h dep mH i a (apply V b.dst ob) em=some (oa,eb,ia)/\apply (apply V a.dst oa) b.dst ob=apply (apply V b.dst ob) a.dst oa:=by
 unfold V6 at hS;split at hS
 case h_2=>cases hS
 rename_i x y O hy;have hxy:x≠y:=by simpa using hS
 obtain⟨d1,⟨ox,rfl⟩,rfl,_⟩:=QT (st':=V) U O rfl rfl;obtain⟨d2,⟨oy,rfl⟩,rfl,_⟩:=QT (st':=apply V a.dst {v:=.undef,nf:=some (x,ox)}) H hy rfl rfl;rw[d1] at H |-;rw[d2];rw[W5] at H |-;obtain⟨_,_,_,m2⟩:=QT (st':=V) H hy rfl (FC ox (iN hxy)).symm;obtain⟨_,_,_,m1⟩:=QT (st':=apply V none {v:=.undef,nf:=some (y,oy)}) U O rfl (FC oy hxy);refine⟨_,m2 _,m1 _,?_⟩;simp only[W5];rw[ef _ hxy]
theorem swapD (hM:E8 M) {a b:AD} {V:St} {e ea eb:E} {ob:Al} (U:A3 M h dep mH i a V e=some (oa,ea,ia)) (H:A3 M h dep mH j b (apply V a.dst oa) ea=some (ob,eb,ib))
  (hi:HS ia ib=true):∃ em,A3 M h dep mH j b V e=some (ob,em,ib)/\A3 M h dep mH i a (apply V b.dst ob) em=some (oa,eb,ia)/\apply (apply V a.dst oa) b.dst ob=apply (apply V b.dst ob) a.dst oa:=by
 unfold HS at hi;obtain⟨hd,hor⟩:=jB.1 hi;rcases jW.1 hor with hC | hYI
 {obtain⟨rfl,rfl,q1,q2,q3⟩:=swapD0 hM U H (by rw[hd,hC];rfl);exact⟨_,q1,q2,q3⟩};rcases jW.1 hYI with hY | hI
 case inr =>
  rcases jW.1 hI with hI | hS;{exact swapI hM U H hd hI};{exact swapS U H hS}
 {have da:=Nh U;have db:=Nh H;obtain⟨fa1,_,_,_⟩:=M5 U;obtain⟨fb1,_,_,_⟩:=M5 H;simp only[ie] at hd;obtain⟨⟨⟨g1,g2⟩,g3⟩,g4⟩:=hd;rw[da] at g1 g3;rw[db] at g1 g2 g4;have g1:=Gb g1;have g2:=Gb g2;have g3:=Gb g3;have g4:=Gb g4;have gd:∀ x∈b.dst.toList,x ∉ a.dst.toList:=fun x O=>g1 x (iJ _ O);have zP:∀ x∈a.dst.toList,x ∉ b.dst.toList:=fun x O p9=>gd x p9 O;have gb:∀ d,b.dst=some d->d ∉ a.dst.toList:=fun d hd=>gd d (by rw[hd];simp);have ga:∀ d,a.dst=some d->d ∉ b.dst.toList:=fun d hd=>zP d (by rw[hd];simp);unfold yN at hY;split at hY;{rename_i ca cb;have sa:=fa1 ca;obtain⟨_,ea',ma0⟩:=ES hM (st':=V) U (.inl ca) (fun _ _=>rfl) (fun _ _=>rfl) rfl;subst ea';obtain⟨sb,mb⟩:=UT (st':=V) H cb (fun s hs=>Ij sa (g1 s (iF _ hs))) (Ig sa gb).symm;obtain⟨_,_,ma⟩:=ES hM (st':=apply V b.dst ob) U (.inl ca) (fun s hs=>(Ij sb (g2 s hs)).symm) (fun J hn=>(GV sb (g4 J.1 (ii.2 ⟨J,hn,rfl⟩))).symm) (Ig sb ga);refine⟨eb,mb,ma _,?_⟩;rw[EB sa,EB sb,EB sb,EB sa];exact Q6 zP _ _ _ _ _};{rename_i ca cb;have sb:=fb1 cb;obtain⟨sa,ma0⟩:=UT (st':=V) U ca (fun _ _=>rfl) rfl;obtain⟨_,eb',mb⟩:=ES hM (st':=V) H (.inl cb) (fun s hs=>Ij sa (g1 s (iF _ hs))) (fun J hn=>GV sa (g3 J.1 (ii.2 ⟨J,hn,rfl⟩))) (Ig sa gb).symm;subst eb';obtain⟨_,ma⟩:=UT (st':=apply V b.dst ob) U ca (fun s hs=>(Ij sb (g2 s hs)).symm) (Ig sb ga);refine⟨e,mb _,ma,?_⟩;rw[EB sa,EB sb,EB sb,EB sa];exact Q6 zP _ _ _ _ _};{cases hY}}
abbrev MG:=Nat×Nat×Bk
inductive MC (M:AK) {E:Type} (h:AF E) (dep:Nat) (mH:l8):List MG->St->E->St->E->Prop
 | nil (V:St) (e:E):MC M h dep mH [] V e V e
 | cons (t:MG) (rest:List MG) (o:AD) (V mM:St) (out:Al) (e e1 e2:E) (ho:mH[t.1]?=some o) (hs:A3 M h dep mH t.1 o V e=some (out,e1,t.2.2)) (hr:MC M h dep mH rest (apply V o.dst out) e1 mM e2) :
   MC M h dep mH (t :: rest) V e mM e2
theorem dX (hM:E8 M) {t:MG}:∀ {s1 s2:List MG} {V mM:St} {e e2:E},MC M h dep mH (s1++t :: s2) V e mM e2->(∀ y∈s1,HS y.2.2 t.2.2=true)->MC M h dep mH (t :: (s1++s2)) V e mM e2:=by
 intro s1;induction s1 with
 | nil=>intro s2 V mM e e2 hr _;exact hr
 | cons y s1 ih =>
  intro s2 V mM e e2 hr hi;cases hr with
  | cons _ _ oy _ _ outy _ e1 _ hoy hsy hr =>
   have:=ih hr fun z hz=>hi z (iA _ hz);cases this with
   | cons _ _ ot _ _ outt _ e3 _ hot nK rH =>
    obtain⟨em,q3,q4,q5⟩:=swapD hM hsy nK (hi y iw);refine .cons t _ ot V mM outt _ _ e2 hot q3 (.cons y _ oy _ mM outy _ _ e2 hoy q4 ?_);rw[<-q5];exact rH
theorem dk {o:AD} {V:St} {e e1:E} {out:Al} (O:A3 M h dep mH i o V e=some (out,e1,info)):stepG M h dep mH o V e=some (apply V o.dst out,e1):=by unfold A3 at O;unfold stepG;split at O;{split at O;{rename_i o2 e2 ho;cases O;simp[IA,ho]};{cases O}};{cases O;rfl};{cases O}
theorem vR (hM:E8 M):∀ (l:lU) (L:List MG) {V mM:St} {e e2:E},MC M h dep mH L V e mM e2->L.Pairwise (fun y x=>x.2.1.testBit y.1=true\/HS y.2.2 x.2.2=true)->l.Perm (L.map (·.1))->l.Nodup ->
  (∀ l1 x l2,l=l1++x :: l2->∀ t∈L,t.1=x->∀ y∈L,t.2.1.testBit y.1=true->y.1∈l1)->IS M h dep mH l V e mM e2:=by
 intro l;induction l with
 | nil =>
  intro L V mM e e2 hr _ hp _ _;have:L=[]:=by simpa using hp.symm.eq_nil
  subst this;cases hr;exact .nil _ _
 | cons x l ih =>
  intro L V mM e e2 hr hpw hp pj zV;have O:x∈L.map (·.1):=hp.mem_iff.1 iw;obtain⟨t,ht,htx⟩:=ii.1 O;obtain⟨s1,s2,rfl⟩:=List.append_of_mem ht
  have hind:∀ y∈s1,HS y.2.2 t.2.2=true:=by
   intro y hy;rcases (List.pairwise_append.1 hpw).2.2 y hy t iw with h | h
   {have:=zV [] x l rfl t ht htx y (iF _ hy) h;cases this};{exact h}
  have rH:=dX hM hr hind;cases rH with
  | cons _ _ o _ _ out _ e1 _ ho hs uk =>
   rw[htx] at ho hs;refine .cons x l o V _ mM e e1 e2 ho (dk hs) (ih (s1++s2) uk ?_ ?_ (kA.1 pj).2 ?_);{obtain⟨p1,p2,p3⟩:=List.pairwise_append.1 hpw;exact List.pairwise_append.2 ⟨p1,(jm.1 p2).2,fun y hy z hz=>p3 y hy z (iA _ hz)⟩}
   ·have U:(x :: l).Perm (x :: (s1++s2).map (·.1)):=by refine hp.trans ?_;rw[jE,iE,jE,htx];exact List.perm_middle
    exact U.cons_inv
   ·intro l1 z l2 hl t' uV htz y hy hb;have o6:∀ {q},q∈s1++s2->q∈s1++t :: s2:=fun {q} hq=>by rcases iH.1 hq with hq | hq;{exact iF _ hq};{exact iJ _ (iA _ hq)}
    have:=zV (x :: l1) z l2 (by rw[hl];rfl) t' (o6 uV) htz y (o6 hy) hb;rcases im.1 this with hyx | h
    ·exfalso;have U:(x :: l).Perm (x :: (s1++s2).map (·.1)):=by refine hp.trans ?_;rw[jE,iE,jE,htx];exact List.perm_middle
     have H:=(U.cons_inv).mem_iff.2 (ii.2 ⟨y,hy,rfl⟩);rw[hyx] at H;exact (kA.1 pj).1 H
    {exact h}
theorem fh:∀ (l:List (Nat×Nat)) (infos:List Bk) {V mM:St} {e e2:E},FA M h dep mH l infos V e=some (mM,e2) ->
  ∃ L:List MG,L.map (fun t=>(t.1,t.2.1))=l/\MC M h dep mH L V e mM e2/\L.Pairwise (fun y x=>x.2.1.testBit y.1=true\/HS y.2.2 x.2.2=true) /\
   ∀ j∈infos,∀ x∈L,x.2.1.testBit j.i=true\/HS j x.2.2=true:=by
 intro l;induction l with
 | nil =>
  intro infos V mM e e2 hr;simp only[FA,il,iP] at hr;obtain⟨rfl,rfl⟩:=hr;exact⟨[],rfl,.nil _ _,.nil,fun _ _ x O=>by cases O⟩
 | cons p l ih =>
  obtain⟨i,pr⟩:=p;intro infos V mM e e2 hr;simp only[FA] at hr;split at hr
  case h_2=>cases hr
  rename_i o ho;split at hr
  case h_2=>cases hr
  rename_i uu e1 info hs;obtain⟨hk,hr⟩:=AQ hr;obtain⟨L,U,H,h3,h4⟩:=ih (info :: infos) hr;unfold IL at hs;split at hs
  case h_2=>cases hs
  rename_i out nW info' mC;cases hs
  have hii:info.i=i:=by
   unfold A3 at mC;split at mC
   ·split at mC;·cases mC;rfl
    {cases mC}
   {cases mC;rfl};{cases mC}
  refine⟨(i,pr,info) :: L,by simp[U],.cons (i,pr,info) L o V mM out e e1 e2 ho mC H,jm.2 ⟨fun x O=>?_,h3⟩,fun j hj x O=>?_⟩
  ·have:=h4 info iw x O
   rwa [hii] at this
  ·rcases im.1 O with rfl | O
   {have:=iy.1 hk j hj;simpa using this};{exact h4 j (iA _ hj) x O}
end swap
inductive Anc (ops:Array Oper):Nat->Nat->Prop
 | base (i:Nat) (o:Oper) (e:Edge) (ho:ops[i]?=some o) (he:e∈o.after) (hb:Region.binds .any e=true):Anc ops i e.on
 | step (i y:Nat) (o:Oper) (e:Edge) (ho:ops[i]?=some o) (he:e∈o.after) (hb:Region.binds .any e=true) (h:Anc ops e.on y):Anc ops i y
inductive GT (ops:Array Oper):lU->Prop
 | nil:GT ops []
 | cons (i:Nat) (acc:lU) (h:∀ o,ops[i]?=some o->∀ e∈o.after,Region.binds .any e=true->e.on∈acc) (hr:GT ops acc):GT ops (i :: acc)
section order
variable {ops:Array Oper}
theorem GT.p6 {l1 l2:lU} (h:GT ops (l1++l2)):GT ops l2:=by
 induction l1 with
 | nil=>exact h
 | cons x l1 ih=>cases h with | cons _ _ _ hr=>exact ih hr
theorem X8 {x:Nat} (ha:Anc ops x y):∀ {l1 l2:lU},GT ops (l1++x :: l2)->y∈l2:=by
 induction ha with
 | base i o e ho he hb=>intro l1 l2 h;cases h.p6 with | cons _ _ U _=>exact U o ho e he hb
 | step i y o e ho he hb _ ih =>
  intro l1 l2 h;cases h.p6 with
  | cons _ _ U hr =>
   have hm:=U o ho e he hb;obtain⟨s1,s2,rfl⟩:=List.append_of_mem hm;exact iJ _ (iA _ (ih hr))
theorem Wp {k b:Nat} (h:acc.lookup k=some b):(k,b)∈acc:=by
 induction acc with
 | nil=>simp at h
 | cons p acc ih =>
  obtain⟨k',b'⟩:=p;rw[kQ] at h;by_cases hk:(k==k')=true;{rw[hk] at h;cases h;rw[beq_iff_eq.1 hk];exact iw};{rw[Bool.not_eq_true] at hk;rw[hk] at h;exact iA _ (ih h)}
theorem dm {k:Nat} (h:k∈acc.map (·.1)):(acc.lookup k).isSome=true:=by
 induction acc with
 | nil=>simp at h
 | cons p acc ih =>
  obtain⟨k',b'⟩:=p;rw[kQ];by_cases hk:(k==k')=true;{rw[hk];rfl};{rw[Bool.not_eq_true] at hk;rw[hk];refine ih ?_;rw[iE,im] at h;rcases h with h | h;{rw[h] at hk;simp at hk};{exact h}}
theorem dQ:∀ {es:List Edge},(NE acc es).testBit y=true->∃ e∈es,Region.binds .any e=true/\(y=e.on\/∃ b,(e.on,b)∈acc/\b.testBit y=true):=by
 intro es;induction es with
 | nil=>intro h;simp[NE] at h
 | cons e es ih =>
  intro h;simp only[NE] at h;by_cases hb:Region.binds .any e=true
  ·rw[lu hb] at h;rw[Nat.testBit_or,Nat.testBit_or,kg,kg] at h;rcases h with (h | h) | h
   {refine⟨e,iw,hb,.inl ?_⟩;rw[Nat.testBit_two_pow] at h;exact (lI h).symm}
   ·refine⟨e,iw,hb,.inr ?_⟩;cases hl:acc.lookup e.on with
    | none=>rw[hl] at h;simp at h
    | some b=>rw[hl] at h;exact⟨b,Wp hl,h⟩
   {obtain⟨e',he',r⟩:=ih h;exact⟨e',iA _ he',r⟩}
  {rw[lr hb] at h;obtain⟨e',he',r⟩:=ih h;exact⟨e',iA _ he',r⟩}
theorem YG {l:lU} (h:l.Nodup):l.reverse.Nodup:=by unfold List.Nodup at *;rw[List.pairwise_reverse];exact h.imp fun mP e=>mP e.symm
theorem Wk {l:lU}:∀ {m:lU},l.Nodup->(∀ x∈l,x∈m)->l.length<=m.length:=by
 induction l with
 | nil=>intro m _ _;exact jP _
 | cons x l ih =>
  intro m pj hs;obtain⟨m1,m2,rfl⟩:=List.append_of_mem (hs x iw);have O:=(kA.1 pj).1
  have:=ih (m:=m1++m2) (kA.1 pj).2 fun y hy=>by
   have hm:=hs y (iA _ hy);rcases iH.1 hm with hm | hm;{exact iF _ hm}
   {rcases im.1 hm with rfl | hm;{exact lH hy O};{exact iJ _ hm}}
  simp only[iQ,iM] at this |-;omega
theorem hT:∀ (c:lU) (acc:List (Nat×Nat)) (r:List (Nat×Nat)),Oy ops c acc=some r->GT ops (acc.map (·.1))->(acc.map (·.1)).Nodup->(∀ i∈acc.map (·.1),i < ops.size)->(∀ p∈acc,∀ y,p.2.testBit y=true->Anc ops p.1 y) ->
  GT ops (r.map (·.1)).reverse/\(r.map (·.1)).Nodup/\(∀ i∈r.map (·.1),i < ops.size)/\r.length=ops.size/\∀ p∈r,∀ y,p.2.testBit y=true->Anc ops p.1 y:=by
 intro c;induction c with
 | nil =>
  intro acc r h U H h3 h4;simp only[Oy] at h;split at h;{rename_i hl;cases h;refine⟨by rw[List.map_reverse,List.reverse_reverse];exact U,by rw[List.map_reverse];exact YG H,fun i hi=>h3 i (by rw[List.map_reverse,List.mem_reverse] at hi;exact hi),by rw[List.length_reverse];exact hl,fun p hp=>h4 p (List.mem_reverse.1 hp)⟩};{cases h}
 | cons i c ih =>
  intro acc r h U H h3 h4;simp only[Oy] at h;split at h
  case h_2=>cases h
  rename_i o ho;split at h
  case isFalse=>cases h
  rename_i hk;obtain⟨nA,pX⟩:=hk;have hedge:∀ e∈o.after,Region.binds .any e=true->e.on∈acc.map (·.1):=by intro e he hb;have:=iy.1 pX e (by simpa using he);rw[hb] at this;simp only[jC,j9] at this;obtain⟨b,oT⟩:=jR.1 this;exact ii.2 ⟨(e.on,b),Wp oT,rfl⟩
  refine ih _ r h ?_ ?_ ?_ ?_;{refine .cons i _ (fun o' sf e he hb=>?_) U;rw[ho] at sf;cases sf;exact hedge e he hb};{refine kA.2 ⟨fun hm=>?_,H⟩;have:=dm hm;rw[jY.1 nA] at this;cases this};{intro k hk;rcases im.1 hk with rfl | hk;{exact (kB.1 ho).1};{exact h3 k hk}}
  ·intro p hp y hy;rcases im.1 hp with rfl | hp
   ·obtain⟨e,he,hb,hr⟩:=dQ hy;have he':e∈o.after:=by simpa using he
    rcases hr with rfl | ⟨b,hm,hbit⟩;{exact .base i o e ho he' hb};{exact .step i y o e ho he' hb (h4 _ hm y hbit)}
   {exact h4 p hp y hy}
theorem Xs {l:lU} {n:Nat} (U:l.Nodup) (H:∀ i∈l,i < n) (h3:l.length=n):l.Perm (List.range n):=by
 refine (List.perm_ext_iff_of_nodup U List.nodup_range).2 fun a=>⟨fun ha=>jS.2 (H a ha),fun ha=>?_⟩
 exact kb fun hn=>by
  have:=Wk (l:=a :: l) (m:=List.range n) (kA.2 ⟨hn,U⟩) fun x O=>by rcases im.1 O with rfl | O;{exact ha};{exact jS.2 (H x O)}
  simp at this;omega
theorem dB (uo:GT ops c.reverse) (uq:c.Perm (List.range ops.size)):∀ (fuel t:Nat) (listed:Array Bool) (acc:lU),
  listed.size=ops.size->(∀ k,k < ops.size->(listed.getD k false=true↔k∈acc))->acc.Nodup->(∀ k∈acc,k < ops.size)->acc.length+fuel=ops.size->GT ops acc ->
  ∃ l,Region.linearise.go .any ops fuel t listed acc=l/\GT ops l.reverse/\l.Nodup/\(∀ k∈l,k < ops.size)/\l.length=ops.size:=by
 intro fuel;induction fuel with
 | zero =>
  intro t listed acc _ _ pj mL hlen zV;exact⟨acc.reverse,rfl,by rwa [List.reverse_reverse],YG pj,fun k hk=>mL k (List.mem_reverse.1 hk),by rw[List.length_reverse];omega⟩
 | succ fuel ih =>
  intro t listed acc oL hl pj mL hlen zV;have gd:∀ k,k < ops.size->listed.getD k true=listed.getD k false:=fun k hk=>by simp[oL,hk]
  have hready:Region.ready .any ops listed≠[]:=by
   have hex:∃ c1 i c2,c=c1++i :: c2/\(∀ x∈c1,x∈acc)/\i ∉ acc:=by
    have mP:∃ k∈c,k ∉ acc:=kb fun sU=>by have nX:∀ k∈c,k∈acc:=fun k hk=>kb fun h=>sU ⟨k,hk,h⟩;have:=Wk (l:=List.range ops.size) (m:=acc) List.nodup_range fun x O=>nX x (uq.mem_iff.2 O);simp at this;omega
    clear uo uq;induction c with
    | nil=>obtain⟨k,hk,_⟩:=mP;cases hk
    | cons x c ihc =>
     by_cases O:x∈acc
     ·obtain⟨k,hk,hka⟩:=mP;rcases im.1 hk with rfl | hk;{exact lH O hka}
      {obtain⟨c1,i,c2,rfl,U,H⟩:=ihc ⟨k,hk,hka⟩;exact⟨x :: c1,i,c2,rfl,fun y hy=>(im.1 hy).elim (fun e=>e ▸ O) (U y),H⟩}
     {exact⟨[],x,c,rfl,fun y hy=>(by cases hy),O⟩}
   obtain⟨c1,i,c2,rfl,U,H⟩:=hex;have su:i < ops.size:=jS.1 (uq.mem_iff.1 (iJ _ iw))
   have o6:i∈Region.ready .any ops listed:=by
    refine mem_ready.2 ⟨?_,ops[i],Array.getElem?_eq_getElem su,fun e he hb=>?_⟩
    ·rw[gd i su];cases hb:listed.getD i false with
     | false=>rfl
     | true=>exact lH ((hl i su).1 hb) H
    ·have ho:GT ops (c2.reverse++i :: c1.reverse):=by simpa using uo
     have hon:e.on∈c1:=by simpa using X8 (.base i ops[i] e (Array.getElem?_eq_getElem su) he hb) ho
     have hacc:=U _ hon;exact (hl e.on (mL _ hacc)).2 hacc
   intro h0;rw[h0] at o6;cases o6
  simp only[Region.linearise.go]
  change ∃ l,(match (Region.ready .any ops listed)[t%(Region.ready .any ops listed).length]? with
   | some i=>Region.linearise.go .any ops fuel (t / (Region.ready .any ops listed).length) (listed.setIfInBounds i true) (i :: acc)
   | none=>acc.reverse)=l/\_
  have pM:t%(Region.ready .any ops listed).length < (Region.ready .any ops listed).length:=Nat.mod_lt _ (kG.2 hready);rw[iG pM];simp only
  have him:=jF pM;generalize (Region.ready .any ops listed)[t%(Region.ready .any ops listed).length]=i at him |-;obtain⟨hi1,o,ho,hi2⟩:=mem_ready.1 him;have su:i < ops.size:=(kB.1 ho).1;have hia:i ∉ acc:=fun hm=>by have:=(hl i su).2 hm;rw[<-gd i su,hi1] at this;cases this
  refine ih _ _ _ (by simpa using oL) (fun k hk=>?_) (kA.2 ⟨hia,pj⟩) (fun k hk=>?_) (by simp only[iM];omega) (.cons i acc (fun o' sf e he hb=>?_) zV)
  ·by_cases sX:k=i
   {subst sX;simp[oL,hk]};{have:(listed.setIfInBounds i true).getD k false=listed.getD k false:=getD_set_ne false (iN sX);rw[this,hl k hk];simp[sX]}
  {rcases im.1 hk with rfl | hk;{exact su};{exact mL k hk}}
  ·rw[ho] at sf;cases sf;have:=hi2 e he hb;have hon:e.on < ops.size:=by rcases ka e.on listed.size with h | h;{omega};{simp[kC h] at this}
   exact (hl e.on hon).1 this
end order
section draw
variable {E:Type} {cx:Cx} {w0:lJ} {I0 F0:Nat->Prop} {O0:BE} {Hd:Nat->Option Obj} {R:Bs E} {e e':E} {F F':Nat->Prop} {lp:Nat->lT} {ml mN:List lK}
variable {I I':Nat->Prop} {L:As} {V st':St} {a:Act} {w w':lJ} {o:Oper} {M:AK} {h:AF E} {dep:Nat}
theorem Fr.drew (hf:Fr cx w0 I0 F0 O0 Hd R e ds I F L w):Fr cx w0 I0 F0 O0 Hd R e ds I F L w.drew :=
 hf.same ⟨rfl,rfl,rfl,rfl⟩
theorem ec {ops:Array Oper} (hM:D4 cx M.call) (ny:GC cx M) (oW:E8 M) (mS:GB cx lp R h dep w0 I0 F0) {e2:E} {l:List (Nat×Nat)}
  (hb:Oy ops ord []=some l) (hr:FA M h dep (ops.toList.map (Cw cx.P cx.G)) l [] (Cf (BI (ops.toList.map (Cw cx.P cx.G))) V) e=some (mM,e2))
  (hs:SR lp I L V a.tmps.toList ml w) (hf:Fr cx w0 I0 F0 O0 Hd R e a.defers I F L w)
  (hQ:∀ a' w' I' F' L',SR lp I' L' mM a'.tmps.toList ml w'->Fr cx w0 I0 F0 O0 Hd R e2 a'.defers I' F' L' w'->Q .normal a' w'):(Code.region id ops true).wpIn (De ro) 0 cx.P Q a w:=by
 obtain⟨b1,b2,b3,b4,b5⟩:=hT ord [] l hb .nil List.nodup_nil (fun i hi=>by cases hi) (fun p hp=>by cases hp);have hcp:(l.map (·.1)).Perm (List.range ops.size):=Xs b2 b3 (by rw[iW];exact b4);obtain⟨L',nT,nx⟩:=Pm (BI (ops.toList.map (Cw cx.P cx.G))) hs hf;obtain⟨items,i1,i2,i3,_⟩:=fh l [] hr;refine wpIn_region_draw fun t=>?_;simp only[Region.schedule,cx.mixed,Bool.true_or,lq];obtain⟨sch,s1,s2,s3,s4,s5⟩:=dB b1 hcp ops.size t (Array.replicate ops.size false) [] (by simp) (fun k hk=>by simp[hk]) List.nodup_nil (fun k hk=>by cases hk) (by simp) .nil;have hsch:Region.linearise .any ops t=sch:=s1;rw[hsch];have sq:items.map (·.1)=l.map (·.1):=by rw[<-i1,iK];rfl
 have hG:=vR oW sch items i2 i3 (by rw[sq];exact (Xs s3 s4 s5).trans hcp.symm) s3 (fun l1 x l2 hl t' ht htx y hy hbit=>by
  have hp:(t'.1,t'.2.1)∈l:=by rw[<-i1];exact ii.2 ⟨t',ht,rfl⟩
  have hanc:=b5 _ hp y.1 hbit;simp only at hanc;rw[htx] at hanc;rw[hl] at s2;simp only[List.reverse_append,List.reverse_cons,iX,List.singleton_append] at s2;simpa using X8 hanc s2)
 rw[<-j6 sch];exact TU (l':=[]) hM ny mS hG (nT.same ⟨rfl,rfl,rfl,rfl⟩) nx.drew hQ
end draw
end Go.Ab


namespace Go.Ab
variable{cs:lS} {f:Nm->Nm} {l:lY} {m J:Nm} {p:Option (Nat×Nat)} {ty:Nat}
section
variable {E:Type} {cx:Cx} {w0:lJ} {I0 F0:Nat->Prop} {O0:BE} {Hd:Nat->Option Obj} {R:Bs E} {e:E} {F:Nat->Prop} {lp:Nat->lT} {ml mN:List lK}
variable {I:Nat->Prop} {L:As} {V:St} {w:lJ} {ds:List lQ}
theorem WG {t:Nat} (h:Ma V t=true):V.mi[t]?=some []:=by unfold Ma at h;split at h;{assumption};·cases h
theorem Xz {t:Nat} (h:V.mi[t]?=some []) (j:Nat):Ac V.mi (t,j)=none:=by unfold Ac;rw[h];rfl
theorem Ba.mz {ob:Ob} {L L':As} (h:Ba w I lp L ob p) (hf:∀ J p,L J=some p->L' (f J)=some p):Ba w I lp L' (ob.mz f) p:=by
 cases p with
 | none=>obtain⟨k,kt,rfl⟩:=h;exact⟨k,kt,rfl⟩
 | some p =>
  cases ob with
  | cells ty cs=>obtain⟨c,E,U,H,h4,h3⟩:=h;exact⟨c,E,U,H,h4,h3.rename hf⟩
  | arr k kt Z=>exact h
  | map es=>obtain⟨c,E,U,H⟩:=h;exact⟨c,E,U,H.rename hf⟩
  | mD s pos=>exact h
def It (L:As) (t:Nat) (J:Nm):As:=fun m=>if m=(t,0) then L J else if m=J then some none else L m
theorem vS (t:Nat) (hs:SR lp I L V mN ml w) (hf:Fr cx w0 I0 F0 O0 Hd R e ds I F L w):∃ L',SR lp I L' (G3 t V) mN ml w/\Fr cx w0 I0 F0 O0 Hd R e ds I F L' w:=by
 unfold G3;split
 case h_2=>exact⟨L,hs,hf⟩
 rename_i J k o n O;split
 case isFalse=>exact⟨L,hs,hf⟩
 rename_i hc;obtain⟨mP,hem⟩:=hc;have oi:=WG hem;split
 case h_2=>exact⟨L,hs,hf⟩
 rename_i ob nq;obtain⟨p,hp,ha⟩:=hs.ob J ob nq;have sU:L (t,0)=none:=hs.pR _ (Xz oi 0);have qU:J.1≠t:=by intro U;unfold Ac at nq;rw[U,oi] at nq;simp at nq
 have pf:∀ m q,L m=some q->It L t J (if m=J then (t,0) else m)=some q:=by
  intro m q hq;unfold It;by_cases hm:m=J;{subst hm;simp[hq]}
  ·have hmt:m≠(t,0):=fun h=>by rw[h,sU] at hq;cases hq
   simp[hm,hmt,hq]
 have oK:∀ m b C,It L t J m=some (some (b,C))->∃ m',L m'=some (some (b,C))/\(m=(t,0)/\m'=J\/m≠(t,0)/\m≠J/\m'=m):=by
  intro m b C hm;unfold It at hm;split at hm;{rename_i U;exact⟨J,hm,.inl ⟨U,rfl⟩⟩}
  ·rename_i U;split at hm;·cases hm
   {rename_i H;exact⟨m,hm,.inr ⟨U,H,rfl⟩⟩}
 refine⟨It L t J,⟨hs.tm.rename pf,hs.kp.rename pf,?_,?_⟩,?_⟩
 ·intro m qm hl;have mL:t < (AR (V.mi.map (·.map (Ob.mz fun m=>if m=J then (t,0) else m))) J AP).length:=by have U:=(ix.1 oi).1;unfold AR;split<;>simp<;>exact U
  by_cases U:m.1=t
  ·obtain⟨a,j⟩:=m;simp only at U;subst U;rw[Fc _ mL] at hl;cases j with
   | succ j=>simp at hl
   | zero =>
    simp only[List.getElem?_cons_zero,il] at hl;subst hl;exact⟨p,by simp[It,hp],ha.mz pf⟩
  ·rw[EA _ U] at hl;have h1':m≠(t,0):=fun h=>U (by rw[h]);by_cases H:m=J
   ·subst H;have:Ac (V.mi.map (·.map (Ob.mz fun m'=>if m'=m then (t,0) else m'))) m=some (ob.mz fun m'=>if m'=m then (t,0) else m'):=by rw[Ee,nq];rfl
    rw[Ka AP this] at hl;cases hl;exact⟨none,by simp[It,h1'],⟨0,0,rfl⟩⟩
   {rw[FC AP H,Ee] at hl;obtain⟨oZ,rG,rfl⟩:=ij.1 hl;obtain⟨q,hq,hb⟩:=hs.ob m oZ rG;exact⟨q,by simp[It,h1',H,hq],hb.mz pf⟩}
 ·intro m hl;have mL:t < (AR (V.mi.map (·.map (Ob.mz fun m=>if m=J then (t,0) else m))) J AP).length:=by have U:=(ix.1 oi).1;unfold AR;split<;>simp<;>exact U
  by_cases U:m.1=t
  ·obtain⟨a,j⟩:=m;simp only at U;subst U;rw[Fc _ mL] at hl;cases j with
   | zero=>simp at hl
   | succ j =>
    have H:((a,j+1):Nm)≠J:=fun h=>qU (by rw[<-h]);simp only[It,H,lm];have h3:((a,j+1):Nm)≠(a,0):=fun h=>by simp at h
    simp only[h3,lm];exact hs.pR _ (Xz oi _)
  ·rw[EA _ U] at hl;have h1':m≠(t,0):=fun h=>U (by rw[h]);have H:m≠J:=fun h=>by subst h;have:=(Kb AP).1 hl;rw[Ee,nq] at this;cases this
   have:=(Kb AP).1 hl;rw[Ee] at this;simp only[It,h1',H,lm];exact hs.pR m (by simpa using this)
 {refine hf.own rfl rfl rfl (ik _) (fun _ _ _=>rfl) (fun _ h=>h) (fun _ h=>.inl h) (fun m b C hm=>?_) (fun m m' b C C' U H=>?_);{obtain⟨m',qn,_⟩:=oK m b C hm;exact⟨(hf.lB m' b C qn).2.1,(hf.lB m' b C qn).2.2.1,.inr ⟨m',C,qn⟩⟩};{obtain⟨x,sd,hx2⟩:=oK m b C U;obtain⟨y,hy1,hy2⟩:=oK m' b C' H;have hxy:=hf.inj x y b C C' sd hy1;rcases hx2 with ⟨rfl,rfl⟩ | ⟨g1,g2,rfl⟩<;>rcases hy2 with ⟨rfl,rfl⟩ | ⟨g3,g4,rfl⟩;{rfl};{exact lH hxy.symm g4};{exact lH hxy g2};{exact hxy}}}
theorem gL {i k:Nat} (nq:Ac V.mi J=some (.cells ty cs)) (hi:cs[i]?=some .mu) (hs:SR lp I L V mN ml w) (hf:Fr cx w0 I0 F0 O0 Hd R e ds I F L w) :
  ∃ L',SR lp I L' {V with mi:=V.mi.set J.1 ((V.mi.getD J.1 []).set J.2 (.cells ty (cs.set i (.arr (J.1,(V.mi.getD J.1 []).length) k 0 0)))++[.arr k 0 []])} mN ml w/\Fr cx w0 I0 F0 O0 Hd R e ds I F L' w:=by
 obtain⟨d,j⟩:=J;simp only
 cases hl:V.mi[d]? with
 | none=>unfold Ac at nq;simp only[hl] at nq;cases nq
 | some l =>
  have pT:∀ j,Ac V.mi (d,j)=l[j]?:=fun j=>by unfold Ac;simp only[hl]
  have se:V.mi.getD d []=l:=by rw[ip,hl];rfl
  have mL:=(ix.1 hl).1;rw[se];rw[pT] at nq;have hj:=(ix.1 nq).1;have qa:L (d,l.length)=none:=hs.pR _ (by rw[pT];simp)
  let L':As:=fun t=>if t=(d,l.length) then some none else L t
  have hle:MD L L':=by
   intro t p hp;have:t≠(d,l.length):=fun h=>by rw[h,qa] at hp;cases hp
   simp only[L',this,lm];exact hp
  refine⟨L',⟨hs.tm.oc hle,hs.kp.oc hle,fun t ob ht=>?_,fun t ht=>?_⟩,?_⟩
  ·simp only at ht;by_cases U:t.1=d
   ·obtain⟨a,b⟩:=t;simp only at U;subst U;rw[Fc _ mL] at ht;by_cases hb:b < l.length
    ·rw[jd (by simpa using hb)] at ht;have mP:((a,b):Nm)≠(a,l.length):=fun h=>by have:=lD Prod.snd h;simp at this;omega
     by_cases hbj:b=j
     ·subst hbj;rw[jo hb] at ht;cases ht;obtain⟨p,hp,ha⟩:=hs.ob (a,b) _ (by rw[pT];exact nq);refine⟨p,by simp only[L',mP,lm];exact hp,?_⟩;cases p with
      | none=>obtain⟨k',kt',h⟩:=ha;cases h
      | some p =>
       obtain⟨b0,C⟩:=p;obtain⟨c,E',q1,q2,q3,q4⟩:=ha;refine⟨c,E',q1,q2,q3,?_⟩;have q5:=q4.oc hle;obtain⟨v,hv,hr⟩:=q5.get hi;have hvv:=GF hr;subst hvv;have:=q5.set i (x:=.arr (a,l.length) k 0 0) (v:=.slice none 0 0) (.oz _ k (by simp[L']))
       rwa [UM hv] at this
     {rw[iI (iN hbj)] at ht;obtain⟨p,hp,ha⟩:=hs.ob (a,b) ob (by rw[pT];exact ht);exact⟨p,by simp only[L',mP,lm];exact hp,ha.oc hle⟩}
    ·rw[js (by simpa using hb)] at ht;simp only[List.length_set] at ht;have vk:b=l.length:=by have:=(ix.1 ht).1;simp at this;omega
     subst vk;simp at ht;subst ht;exact⟨none,by simp[L'],⟨k,_,rfl⟩⟩
   {rw[EA _ U] at ht;obtain⟨p,hp,ha⟩:=hs.ob t ob ht;have mP:t≠(d,l.length):=fun h=>U (by rw[h]);exact⟨p,by simp only[L',mP,lm];exact hp,ha.oc hle⟩}
  ·simp only at ht;by_cases U:t.1=d
   ·obtain⟨a,b⟩:=t;simp only at U;subst U;rw[Fc _ mL] at ht;have hb:l.length < b:=by have:=iR.1 ht;simp at this;omega
    have mP:((a,b):Nm)≠(a,l.length):=fun h=>by have:=lD Prod.snd h;simp at this;omega
    simp only[L',mP,lm];exact hs.pR _ (by rw[pT];exact iR.2 (by omega))
   {rw[EA _ U] at ht;have mP:t≠(d,l.length):=fun h=>U (by rw[h]);simp only[L',mP,lm];exact hs.pR t ht}
  ·have oK:∀ t b C,L' t=some (some (b,C))->L t=some (some (b,C)):=by
    intro t b C ht;simp only[L'] at ht;split at ht;·cases ht
    {exact ht}
   exact hf.own rfl rfl rfl (ik _) (fun _ _ _=>rfl) (fun _ h=>h) (fun _ h=>.inl h) (fun t b C ht=>by have:=oK t b C ht;exact⟨(hf.lB t b C this).2.1,(hf.lB t b C this).2.2.1,.inr ⟨t,C,this⟩⟩) fun t t' b C C' U H=>hf.inj t t' b C C' (oK _ _ _ U) (oK _ _ _ H)
theorem eC {d len:Nat} {ob:Ob} (hl:V.mi[d]?=some l) (hlen:l.length=len) (hmd:m.1≠d) (nq:Ac V.mi m=some ob) (hs:SR lp I L V mN ml w) (hf:Fr cx w0 I0 F0 O0 Hd R e ds I F L w) :
  let f:Nm->Nm:=fun x=>if x=m then (d,len) else x
  let mi:=AR (V.mi.map (·.map (Ob.mz f))) m AP
  ∃ L',SR lp I L' {tmps:=AY f V.tmps,mi:=mi.set d (mi.getD d []++[ob.mz f]),mj:=AY f V.mj} mN ml w/\Fr cx w0 I0 F0 O0 Hd R e ds I F L' w:=by
 intro f mi;obtain⟨p,hp,ha⟩:=hs.ob m ob nq;have pT:∀ j,Ac V.mi (d,j)=l[j]?:=fun j=>by unfold Ac;simp only[hl]
 have qa:L (d,len)=none:=hs.pR _ (by rw[pT];simp[hlen]);have mP:m≠(d,len):=fun h=>hmd (by rw[h])
 let L':As:=fun t=>if t=(d,len) then L m else if t=m then some none else L t
 have pf:∀ x q,L x=some q->L' (f x)=some q:=by
  intro x q hq;simp only[L',f];by_cases O:x=m;{subst O;simp[hq]}
  ·have hxt:x≠(d,len):=fun h=>by rw[h,qa] at hq;cases hq
   simp[O,hxt,hq]
 have oK:∀ x b C,L' x=some (some (b,C))->∃ x',L x'=some (some (b,C))/\(x=(d,len)/\x'=m\/x≠(d,len)/\x≠m/\x'=x):=by
  intro x b C O;simp only[L'] at O;split at O;{rename_i U;exact⟨m,O,.inl ⟨U,rfl⟩⟩}
  ·rename_i U;split at O;·cases O
   {rename_i H;exact⟨x,O,.inr ⟨U,H,rfl⟩⟩}
 have hobd:mi[d]?=some (l.map (Ob.mz f)):=by simp only[mi];unfold AR;split;{rename_i l' si;rw[iI hmd,iC,hl];rfl};{rw[iC,hl];rfl}
 have mL:d < mi.length:=(ix.1 hobd).1;have se:mi.getD d []=l.map (Ob.mz f):=by rw[ip,hobd];rfl
 have tr:Ac (V.mi.map (·.map (Ob.mz f))) m=some (ob.mz f):=by rw[Ee,nq];rfl
 refine⟨L',⟨hs.tm.rename pf,hs.kp.rename pf,?_,?_⟩,?_⟩
 ·intro t qm ht;simp only at ht;rw[se] at ht;by_cases U:t.1=d
  ·obtain⟨a,j⟩:=t;simp only at U;subst U;rw[Fc _ mL] at ht;by_cases hj:j < l.length
   ·rw[jd (by simpa using hj),iC] at ht;obtain⟨oZ,h0,rfl⟩:=ij.1 ht;obtain⟨q,hq,hb⟩:=hs.ob (a,j) oZ (by rw[pT];exact h0);have H:((a,j):Nm)≠(a,len):=fun h=>by have:=lD Prod.snd h;simp at this;omega
    have h3:((a,j):Nm)≠m:=fun h=>hmd (by rw[<-h]);exact⟨q,by simp only[L',H,h3,lm];exact hq,hb.mz pf⟩
   ·rw[js (by simpa using hj)] at ht;simp only[iW] at ht;have hj2:j=len:=by have:=(ix.1 ht).1;simp at this;omega
    subst hj2;rw[hlen] at ht;simp at ht;subst ht;exact⟨p,by simp[L',hp],ha.mz pf⟩
  {rw[EA _ U] at ht;have H:t≠(d,len):=fun h=>U (by rw[h]);by_cases h3:t=m;{subst h3;rw[Ka AP tr] at ht;cases ht;exact⟨none,by simp[L',H],⟨0,0,rfl⟩⟩};{rw[FC AP h3,Ee] at ht;obtain⟨oZ,h0,rfl⟩:=ij.1 ht;obtain⟨q,hq,hb⟩:=hs.ob t oZ h0;exact⟨q,by simp[L',H,h3,hq],hb.mz pf⟩}}
 ·intro t ht;simp only at ht;rw[se] at ht;by_cases U:t.1=d
  ·obtain⟨a,j⟩:=t;simp only at U;subst U;rw[Fc _ mL] at ht;have hj:l.length < j:=by have:=iR.1 ht;simp at this;omega
   have H:((a,j):Nm)≠(a,len):=fun h=>by have:=lD Prod.snd h;simp at this;omega
   have h3:((a,j):Nm)≠m:=fun h=>hmd (by rw[<-h]);simp only[L',H,h3,lm];exact hs.pR _ (by rw[pT];exact iR.2 (by omega))
  ·rw[EA _ U] at ht;have H:t≠(d,len):=fun h=>U (by rw[h]);have h3:t≠m:=fun h=>by subst h;have:=(Kb AP).1 ht;rw[tr] at this;cases this
   have:=(Kb AP).1 ht;rw[Ee] at this;simp only[L',H,h3,lm];exact hs.pR t (by simpa using this)
 {refine hf.own rfl rfl rfl (ik _) (fun _ _ _=>rfl) (fun _ h=>h) (fun _ h=>.inl h) (fun x b C O=>?_) (fun x x' b C C' U H=>?_);{obtain⟨x',p9,_⟩:=oK x b C O;exact⟨(hf.lB x' b C p9).2.1,(hf.lB x' b C p9).2.2.1,.inr ⟨x',C,p9⟩⟩};{obtain⟨y,hy1,hy2⟩:=oK x b C U;obtain⟨z,vl,hz2⟩:=oK x' b C' H;have hyz:=hf.inj y z b C C' hy1 vl;rcases hy2 with ⟨rfl,rfl⟩ | ⟨g1,g2,rfl⟩<;>rcases hz2 with ⟨rfl,rfl⟩ | ⟨g3,g4,rfl⟩;{rfl};{exact lH hyz.symm g4};{exact lH hyz g2};{exact hyz}}}
theorem zW (x off k:Nat) (hs:SR lp I L V mN ml w) (hf:Fr cx w0 I0 F0 O0 Hd R e ds I F L w):∃ L',SR lp I L' (Oq x off k V) mN ml w/\Fr cx w0 I0 F0 O0 Hd R e ds I F L' w:=by
 unfold Oq;split
 case h_2=>exact⟨L,hs,hf⟩
 rename_i J o O;split
 case h_2=>exact⟨L,hs,hf⟩
 rename_i cs nq;unfold Nn;simp only
 split;{rename_i hi;exact gL nq hi hs hf}
 ·rename_i m k' o' n' hi;split
  case isFalse=>exact⟨L,hs,hf⟩
  rename_i hm;split
  case h_2=>exact⟨L,hs,hf⟩
  rename_i ob oI;cases hl:V.mi[J.1]? with
  | none=>unfold Ac at nq;rw[hl] at nq;cases nq
  | some l =>
   have se:V.mi.getD J.1 []=l:=by rw[ip,hl];rfl
   rw[se];exact eC hl rfl hm oI hs hf
 {exact⟨L,hs,hf⟩}
theorem grow_ok (t k:Nat) (hs:SR lp I L V mN ml w) (hf:Fr cx w0 I0 F0 O0 Hd R e ds I F L w):∃ L',SR lp I L' (GO t k V) mN ml w/\Fr cx w0 I0 F0 O0 Hd R e ds I F L' w:=by
 unfold GO;split;{exact zW _ _ _ hs hf};split
 case h_2=>exact⟨L,hs,hf⟩
 rename_i O;split
 case isFalse=>exact⟨L,hs,hf⟩
 rename_i hem;have oi:=WG hem
 have hn:=hs.news oi [.arr k 0 []] [none] rfl (by
  intro j ob p U H;cases j with
  | zero=>simp at U H;subst U;subst H;exact⟨k,_,rfl⟩
  | succ j=>simp at U)
 have n6:V.tmps[t]?=some .mu:=by
  cases h:V.tmps[t]? with
  | none=>rw[ip,h] at O;simp at O
  | some x=>rw[ip,h] at O;simp at O;rw[O]
 obtain⟨v,hv,hr⟩:=hs.tm.get n6;have hvv:=GF hr;subst hvv;have hp:=hn.put t (v:=.arr (t,0) k 0 0) (v':=.slice none 0 0) (.oz _ k (by simp[Ck]));rw[UM hv] at hp;refine⟨Ck L t [none],hp,?_⟩;refine Fr.news hf oi rfl rfl rfl (ik _) (fun _ _=>rfl) ?_ ?_
 ·intro j b C hj;cases j with
  | zero=>simp at hj
  | succ j=>simp at hj
 ·intro j j' b C C' U _;cases j with
  | zero=>simp at U
  | succ j=>simp at U
theorem zX (mT:lU) (grow:List (Nat×Nat)) (hs:SR lp I L V mN ml w) (hf:Fr cx w0 I0 F0 O0 Hd R e ds I F L w):∃ L',SR lp I L' (JR mT grow V) mN ml w/\Fr cx w0 I0 F0 O0 Hd R e ds I F L' w:=by
 have U:∀ (mT:lU) (V:St) (L:As),SR lp I L V mN ml w->Fr cx w0 I0 F0 O0 Hd R e ds I F L w->∃ L',SR lp I L' (mT.foldl (fun V t=>G3 t V) V) mN ml w/\Fr cx w0 I0 F0 O0 Hd R e ds I F L' w:=by
  intro mT;induction mT with
  | nil=>intro V L hs hf;exact⟨L,hs,hf⟩
  | cons t mT ih =>
   intro V L hs hf;obtain⟨L',nT,nx⟩:=vS t hs hf;exact ih _ L' nT nx
 have H:∀ (grow:List (Nat×Nat)) (V:St) (L:As),SR lp I L V mN ml w->Fr cx w0 I0 F0 O0 Hd R e ds I F L w->∃ L',SR lp I L' (grow.foldl (fun V (t,k)=>GO t k V) V) mN ml w/\Fr cx w0 I0 F0 O0 Hd R e ds I F L' w:=by
  intro grow;induction grow with
  | nil=>intro V L hs hf;exact⟨L,hs,hf⟩
  | cons t grow ih =>
   intro V L hs hf;obtain⟨L',nT,nx⟩:=grow_ok t.1 t.2 hs hf;exact ih _ L' nT nx
 obtain⟨L1,pI,oM⟩:=U mT V L hs hf;exact H grow _ L1 pI oM
theorem eQ (Z:lU) {L:l7}:∀ (k:Nat) {ys:lS} {A:List lK},Ai w I lp L ys A->Ai w I lp L ((ys.zipIdx k).map fun (v,i)=>if Z.contains i then .undef else v) A:=by
 intro k ys;induction ys generalizing k with
 | nil=>intro A h;cases h;exact .nil
 | cons y ys ih =>
  intro A h;cases h with
  | cons _ v _ A h hs =>
   rw[ky,iE];refine .cons _ _ _ _ ?_ (ih (k+1) hs);simp only
   split;{exact .undef v};{exact h}
theorem eR (Z:lU) (hs:SR lp I L V mN ml w):SR lp I L (GG Z V) mN ml w:={hs with tm:=eQ Z 0 hs.tm}
theorem vT (Z:lU) {L:l7}:∀ (k:Nat) {ys:lS} {A:List lK},Ai w I lp L ys A->Ai w I lp L ((ys.zipIdx k).map fun (v,i)=>if Z.contains i then v else .undef) A:=by
 intro k ys;induction ys generalizing k with
 | nil=>intro A h;cases h;exact .nil
 | cons y ys ih =>
  intro A h;cases h with
  | cons _ v _ A h hs =>
   rw[ky,iE];refine .cons _ _ _ _ ?_ (ih (k+1) hs);simp only
   split;{exact h};{exact .undef v}
theorem eB (Z:lU) (hs:SR lp I L V mN ml w):SR lp I L (GE Z V) mN ml w:={hs with tm:=vT Z 0 hs.tm}
theorem RS (AP:Option lU) (hs:SR lp I L V mN ml w) (hf:Fr cx w0 I0 F0 O0 Hd R e ds I F L w):∃ L',SR lp I L' (Fz AP V) mN ml w/\Fr cx w0 I0 F0 O0 Hd R e ds I F L' w:=by unfold Fz;split;{exact⟨L,hs,hf⟩};{exact Pm _ (eB _ hs) hf}
theorem bF (Z:lU) (hs:SR lp I L V mN ml w) (hf:Fr cx w0 I0 F0 O0 Hd R e ds I F L w):∃ L',SR lp I L' (drop Z V) mN ml w/\Fr cx w0 I0 F0 O0 Hd R e ds I F L' w:=by unfold drop;exact Pm _ (eR Z hs) hf
theorem ak {R:lW} {d m:Nat} (h:(d,m)∈R):∀ {n},m < n->m < HU R d n
 | n+1,hn=>by
  unfold HU;split;{exact hn};{rename_i hc;have mP:m≠n:=fun e=>hc (by rw[<-e];exact jl.2 h);exact ak h (by omega)}
theorem Vg (hs:SR lp I L V mN ml w) (hf:Fr cx w0 I0 F0 O0 Hd R e ds I F L w):∃ L',SR lp I L' (trim V) mN ml w/\Fr cx w0 I0 F0 O0 Hd R e ds I F L' w:=by
 obtain⟨T,zzd,K⟩:=V;unfold trim;simp only
 generalize hR:(Ar T++Ar K++zzd.flatMap fun l=>l.flatMap Ob.names)=Rn
 let D:Nm->Prop:=fun J=>(Ac zzd J).isSome=true/\HU Rn J.1 (zzd.getD J.1 []).length<=J.2
 have sU:∀ J∈Rn,¬ D J:=by
  rintro J hn ⟨U,H⟩
  have hl:J.2 < (zzd.getD J.1 []).length:=by
   unfold Ac at U;cases hq:zzd[J.1]? with
   | none=>rw[hq] at U;cases U
   | some l =>
    rw[hq] at U;rw[ip,hq];obtain⟨x,O⟩:=jR.1 U;exact (ix.1 O).1
  have:=ak (R:=Rn) (d:=J.1) (m:=J.2) hn hl;omega
 have pA:∀ Z:lS,(∀ J∈Ar Z,J∈Rn)->AM (fun m=>if D m then some none else none) Z=Z:=by intro Z O;rw[Jk (g:=fun _=>none) Z fun J hn=>lr (sU J (O J hn)),nV]
 have sY:∀ J ob,Ac zzd J=some ob->ob.sub (fun m=>if D m then some none else none)=ob:=by
  intro J ob hl;cases ob with
  | cells ty cs =>
   show Ob.cells ty _=_;rw[pA cs fun m hm=>?_];rw[<-hR];refine iJ _ (ji.2 ?_);unfold Ac at hl;cases hq:zzd[J.1]? with
   | none=>rw[hq] at hl;cases hl
   | some l =>
    rw[hq] at hl;exact⟨l,iz hq,ji.2 ⟨_,iz hl,hm⟩⟩
  | arr k kt Z=>rfl
  | map es =>
   show Ob.map _=_;rw[pA es fun m hm=>?_];rw[<-hR];refine iJ _ (ji.2 ?_);unfold Ac at hl;cases hq:zzd[J.1]? with
   | none=>rw[hq] at hl;cases hl
   | some l =>
    rw[hq] at hl;exact⟨l,iz hq,ji.2 ⟨_,iz hl,hm⟩⟩
  | mD s pos=>rfl
 have hl:=hs.tI (D:=D) (rp:=zzd.zipIdx.map fun x=>x.1.take (HU Rn x.2 x.1.length)) (by
  intro J
  have hrhs:(Ac zzd J).map (Ob.sub fun m=>if D m then some none else none)=Ac zzd J:=by
   cases hq:Ac zzd J with
   | none=>rfl
   | some ob=>simp only[iu];rw[sY J ob hq]
  simp only
  rw[hrhs];by_cases hd:D J
  ·rw[lu hd];obtain⟨U,H⟩:=hd;unfold Ac;rw[iC,jD];cases hq:zzd[J.1]? with
   | none=>rfl
   | some l =>
    rw[ip,hq] at H;simp only[iu,iO,iT] at H |-;exact i6 (by rw[j5];omega)
  ·rw[lr hd];unfold Ac;rw[iC,jD];cases hq:zzd[J.1]? with
   | none=>rfl
   | some l =>
    simp only[iu,iO];rw[List.getElem?_take];split;·rfl
    ·rename_i hc;cases O:l[J.2]? with
     | none=>rfl
     | some x =>
      exfalso;refine hd ⟨?_,?_⟩;·unfold Ac;rw[hq];simp[O]
      ·rw[ip,hq];simp only[iT];omega)
 rw[pA T fun J hn=>by rw[<-hR];simp[hn],pA K fun J hn=>by rw[<-hR];simp[hn]] at hl;refine⟨_,hl,hf.tI fun J p hn=>?_⟩;split at hn;·cases hn
 {exact hn}
theorem Pu (mT:lU) (grow:List (Nat×Nat)) (hs:SR lp I L V mN ml w) (hf:Fr cx w0 I0 F0 O0 Hd R e ds I F L w):∃ L',SR lp I L' (norm mT grow V) mN ml w/\Fr cx w0 I0 F0 O0 Hd R e ds I F L' w:=by obtain⟨L1,pI,oM⟩:=zX mT grow hs hf;exact bF _ pI oM
end
end Go.Ab


namespace Go.Ab
variable{l:Nat} {ps:Array Nat} {rb:A1} {rc:Loop} {st':St} {v:lK}
def CJ:Ex->Exit
 | .normal=>.normal
 | .exit id=>if id < B4 then .exit id else .goto (id - B4)
 | .ret=>.ret
def KM:Ex->Option Code
 | .normal=>none
 | .exit id=>some (if id < B4 then .exit id else .goto (id - B4))
 | .ret=>some .ret
def DX (cx:Cx) (M:AK) (fuel:Nat) (r:A1) (c:Code):Prop :=
 ∀ (E:Type) (h:AF E) (dep:Nat) (R:Bs E) (lp:Nat->lT) (w0:lJ) (I0 F0:Nat->Prop) (O0:BE) (Hd:Nat->Option Obj) (ml:List lK) (ro:lT) (V:St) (e:E) (x:Ex) (mM:St) (e2:E),
  Az M fuel r h dep V e=some (x,mM,e2)->GB cx lp R h dep w0 I0 F0->(∀ l0,ro=some l0->∃ r0,Hd l0=some (.loop r0)) ->
  ∀ (a:Act) (w:lJ) (I F:Nat->Prop) (L:As) (Q:Exit->Act->lJ->Prop),SR lp I L V a.tmps.toList ml w->Fr cx w0 I0 F0 O0 Hd R e a.defers I F L w ->
   (∀ a' w' I' F' L',SR lp I' L' mM a'.tmps.toList ml w'->Fr cx w0 I0 F0 O0 Hd R e2 a'.defers I' F' L' w'->Q (CJ x) a' w')->c.wpIn (De ro) 0 cx.P Q a w
def JH (cx:Cx) (dd:DH) (M:AK) (fuel:Nat) (c:Code):Prop :=
 ∀ (E:Type) (h:AF E) (dep:Nat) (R:Bs E) (lp:Nat->lT) (w0:lJ) (I0 F0:Nat->Prop) (O0:BE) (Hd:Nat->Option Obj) (ml:List lK) (ro:lT) (V:St) (e:E) (x:Ex) (mM:St) (e2:E),
  Az M fuel (Bq cx.P cx.G dd c) h dep V e=some (x,mM,e2)->GB cx lp R h dep w0 I0 F0->(∀ l0,ro=some l0->∃ r0,Hd l0=some (.loop r0)) ->
  ∀ (a:Act) (w:lJ) (I F:Nat->Prop) (L:As) (Q:Exit->Act->lJ->Prop),SR lp I L V a.tmps.toList ml w->Fr cx w0 I0 F0 O0 Hd R e a.defers I F L w ->
   (∀ a' w' I' F' L',SR lp I' L' mM a'.tmps.toList ml w'->Fr cx w0 I0 F0 O0 Hd R e2 a'.defers I' F' L' w'->Q (CJ x) a' w')->c.wpIn (De ro) 0 cx.P Q a w
section
variable {E:Type} {cx:Cx} {w0:lJ} {I0 F0:Nat->Prop} {O0:BE} {Hd:Nat->Option Obj} {R:Bs E} {e:E} {F:Nat->Prop} {lp:Nat->lT} {ml mN:List lK}
variable {I:Nat->Prop} {L:As} {V:St} {w:lJ} {ds:List lQ}
theorem gN (hs:SR lp I L V mN ml w) (hf:Fr cx w0 I0 F0 O0 Hd R e ds I F L w) {x y:PV} (O:Am w I lp (some L) x v) (h:KA V x=some (y,st')) :
  ∃ I' L',SR lp I' L' st' mN ml w/\Fr cx w0 I0 F0 O0 Hd R e ds I' F L' w/\Am w I' lp none y v:=by
 unfold KA at h;split at h;{rename_i hn;cases h;exact⟨I,L,hs,hf,O.shut (iS.1 hn)⟩};{obtain⟨hR,h⟩:=AQ h;cases h;exact⟨_,_,hs.freeze hR,hf.freeze _,Xj hs hR O fun J hn=>DI _ _ J hn⟩}
def CA (L:As) (b:Nat):Prop:=∃ J C,L J=some (some (b,C))
def Bf (rc:Loop) (p:Option Ex):Loop :=
 match p with
 | none=>{rc with state:=.ready,pending:=none}
 | some x=>{rc with state:=.done,pending:=KM x}
def Sn (w0:lJ) (O0:BE) (R:Bs E) (lp:Nat->lT) (l:Nat) (rc:Loop) (tm ml:List lK):Bs (DU E) where
 rel:=fun r I F w=>∃ L Fo,SR lp I L r.1 tm ml w/\(∀ b,F b↔Fo b\/CA L b\/b=l)/\(∀ b,CA L b->¬ Fo b/\b≠l/\(w0.heap.size<=b\/O0 b))/\¬ Fo l /\
  (∀ J nr b C C',L J=some (some (b,C))->L nr=some (some (b,C'))->J=nr)/\w.heap[l]?=some (.loop (Bf rc r.2.1))/\R.rel r.2.2 I Fo w
 pW:=by
  rintro r I I' F w w' ⟨L,Fo,U,H,h3,h4,h5,h6,h7⟩ hI hk oL
  exact⟨L,Fo,U.keeps hI (fun b hb=>hk b (.inl hb)) (fun J b C hn=>hk b (.inr ((H b).2 (.inr (.inl ⟨J,C,hn⟩))))),H,h3,h4,h5,
   (hk l (.inr ((H l).2 (.inr (.inr rfl))))).trans h6,R.pW r.2.2 I I' Fo w w' h7 hI (fun b hb=>hk b (hb.imp id fun hf=>(H b).2 (.inl hf))) oL⟩
theorem BS.less {I F I' F' F2:Nat->Prop} {w w':lJ} (h:BS I F w I' F' w') (hF:∀ b,F2 b->F' b):BS I F w I' F2 w' :=
 ⟨h.os,h.tape,h.output,h.size,h.mj,h.pV,h.py,fun b hb=>h.pL b (hF b hb)⟩
theorem Fr.q7 (hf:Fr cx w0 I0 F0 O0 Hd R e ds I F L w) {ob qm:Obj} (hl:Hd l=some ob) (hF0:w0.heap.size<=l\/F0 l) (hds:∀ D,D∈ds.map (·.target)->D≠.collected l) :
  Fr cx w0 I0 F0 O0 (fun b=>if b=l then some qm else Hd b) R e ds I F L (w.putObj l qm):=by
 obtain⟨d1,d2,d3,d4,d5⟩:=hf.ry l ob hl;have hk:∀ b,b≠l->(w.putObj l qm).heap[b]?=w.heap[b]?:=fun b hb=>World.putObj_heap_other hb;have oL:(w.putObj l qm).heap.size=w.heap.size:=World.putObj_size
 refine⟨⟨hf.ext.os,hf.ext.tape,hf.ext.output,by rw[oL];exact hf.ext.size,fun b hb hF=>?_,hf.ext.pV,hf.ext.py,hf.ext.pL⟩,⟨fun b hb=>by rw[oL];exact hf.sep.iB b hb,fun b hb=>⟨by rw[oL];exact (hf.sep.fB b hb).1,(hf.sep.fB b hb).2⟩⟩,hf.oF,
  fun J b C hn=>⟨(hf.lB J b C hn).1,by rw[oL];exact (hf.lB J b C hn).2.1,(hf.lB J b C hn).2.2⟩,hf.inj,?_,?_,?_,?_⟩
 ·have mP:b≠l:=fun e=>by subst e;exact hF0.elim (fun h=>by omega) hF
  exact (hk b mP).trans (hf.ext.mj b hb hF)
 {exact cx.pW I I w _ hf.wd (fun _ h=>h) (fun b hb=>hk b fun e=>d2 (e ▸ hb)) (by rw[oL];exact ik _)};{exact R.pW e I I F w _ hf.re (fun _ h=>h) (fun b hb=>hk b fun e=>hb.elim (fun h=>d2 (e ▸ h)) fun h=>d3 (e ▸ h)) (by rw[oL];exact ik _)}
 ·have key:∀ ds rs,Cg w0.heap.size I F L w ds rs->(∀ D,D∈ds.map (·.target)->D≠.collected l)->Cg w0.heap.size I F L (w.putObj l qm) ds rs:=by
   intro ds rs h;induction h with
   | nil=>intro _;exact .nil
   | call d ds rs hd _ ih=>intro mP;exact .call d ds rs hd (ih fun D' qy=>mP D' (by simp at qy |-;exact .inr qy))
   | cons D ds rs U H h3 h4 h5 h6 h7 _ ih =>
    intro mP;have hD:D≠l:=fun e=>mP (.collected D) (by simp) (by rw[e]);exact .cons D ds rs U (by rw[oL];exact H) h3 h4 h5 ((hk D hD).trans h6) h7 (ih fun D' qy=>mP D' (by simp at qy |-;exact .inr qy))
  exact key ds _ hf.rq hds
 {intro b ob2 hb;by_cases qX:b=l;{subst qX;simp only[lq,il] at hb;subst hb;exact⟨by rw[oL];exact d1,d2,d3,d4,World.putObj_heap_same d1⟩};{simp only[qX,lm] at hb;obtain⟨g1,g2,g3,g4,g5⟩:=hf.ry b ob2 hb;exact⟨by rw[oL];exact g1,g2,g3,g4,(hk b qX).trans g5⟩}}
theorem SR.q7 {I:Nat->Prop} (hs:SR lp I L V mN ml w) (qm:Obj) (hI:¬ I l) (hL:∀ J C,L J≠some (some (l,C))):SR lp I L V mN ml (w.putObj l qm) :=
 hs.keeps (fun _ h=>h) (fun b hb=>World.putObj_heap_other fun e=>hI (e ▸ hb)) fun J b C hn=>World.putObj_heap_other fun e=>hL J C (e ▸ hn)
theorem vU {w:lJ} {I:Nat->Prop} {lp:Nat->lT} {L:l7}:∀ (ps:lU) (A:lS) (us:List lK) (tm:lS) (tv:Array lK),Ai w I lp L A us->Ai w I lp L tm tv.toList->A.length=ps.length ->
  Ai w I lp L (GM ps A tm) ((ps.zip us).foldl (fun (tmps:Array lK) (x:Nat×lK)=>tmps.setIfInBounds x.1 x.2) tv).toList:=by
 intro ps;induction ps with
 | nil=>intro A us tm tv hv ht _;cases A<;>exact ht
 | cons p ps ih =>
  intro A us tm tv hv ht hl;cases hv with
  | nil=>simp at hl
  | cons v u A us h hs =>
   simp only[GM,List.zip_cons_cons,jy];refine ih A us _ _ hs ?_ (by simpa using hl);rw[kR];exact ht.set p h
end
def NL (M:AK) (fuel:Nat) {E:Type} (h:AF E) (dep:Nat) (ps:lU) (assign body:A1):AF (DU E):=fun l args r =>
 if l=dep then
  match r with
  |(s,none,e) =>
   if args.length=ps.length then
    match Az M fuel assign h (dep+1) {s with tmps:=GM ps args s.tmps,mj:=s.tmps++s.mj} e with
    | some (.normal,s',e)=>match Az M fuel body h (dep+1) s' e with
     | some (x,s',e)=>some (x==.normal,({s' with tmps:=s'.mj.take s.tmps.length,mj:=s'.mj.drop s.tmps.length},(if x=.normal then none else some x),e))
     | none=>none
    | _=>none
   else none
  | _=>none
 else
  match r with
  |(s,p,e)=>match h l args e with
   | some (b,e)=>some (b,(s,p,e))
   | none=>none
theorem eG (M:AK) (fuel:Nat) (f:RX) (ps:lU) (assign body:A1) {E:Type} (h:AF E) (dep:Nat) (V:St) (e:E) :
  Az M fuel (.rangeFunc f ps assign body) h dep V e=(if JT M (f.ev V.tmps) then Ju M (fun h dep=>NL M fuel h dep ps assign body) h dep (f.ev V.tmps) V e else match KA V (f.ev V.tmps) with
   | some (.fn g cap,V)=>match M.call (DU E) (NL M fuel h dep ps assign body) (dep+1) (AO g) (Bc g [.mF dep] cap) (V,none,e) with
    | some (_,_,s,p,e)=>some (p.getD .normal,s,e)
    | none=>none
   | _=>none):=rfl
section round
variable {E:Type} {cx:Cx} {w0:lJ} {I0 F0:Nat->Prop} {O0:BE} {Hd:Nat->Option Obj} {R:Bs E} {lp:Nat->lT} {ml:List lK}
variable {w1:lJ} {I1 F1:Nat->Prop} {dd:DH} {M:AK} {fuel:Nat} {h:AF E} {dep:Nat}
theorem ZB (mS:GB cx lp R h dep w0 I0 F0) (sd:BS I0 F0 w0 I1 F1 w1) {assign body:Code} (yD:rc.params=ps) (hra:rc.assign=assign) (hrb:rc.body=body)
  (rG:w0.heap.size<=l) (hca:JH cx dd M fuel assign) (hcb:DX cx M fuel rb body) :
  P5 cx (fun d=>if d=dep then some (2*l) else lp d) (Sn w0 O0 R lp l rc rc.tmps.toList ml) I1 F1 w1 (NL M fuel h dep ps.toList (Bq cx.P cx.G dd assign) rb):=by
 obtain⟨Ir,rQ,wr,hand,zE⟩:=mS.hand;rintro d args ⟨s,p,e⟩ b r' l' hh si
 have key:∃ l2,l'=2*l2/\(d=dep->l2=l)/\(d≠dep->∀ e1,h d args e=some (b,e1)->zF cx R Ir rQ wr args e b e1 l2):=by
  by_cases hd:d=dep;{simp only[hd,lq,il] at si;exact⟨l,si.symm,fun _=>rfl,fun h=>lH hd h⟩}
  ·have hh2:=hh;unfold NL at hh2;simp only[hd,lm] at si hh2;split at hh2
   case h_2=>cases hh2
   rename_i b1 e1 hhe;cases hh2;obtain⟨l2,e2,ha⟩:=hand d args e b e1 l' hhe si;exact⟨l2,e2,fun h=>lH h hd,fun _ nW he'=>by rw[hhe] at he';cases he';exact ha⟩
 obtain⟨l2,rfl,kl,kh⟩:=key;refine⟨l2,rfl,?_⟩;clear si;rintro A I F w mG O uz hwd ⟨L,Fo,g1,g2,g3,g4,g5,g6,g7⟩;simp only at g1 g6 g7;have hFl:F l:=(g2 l).2 (.inr (.inr rfl));have hlw:=(uz.fB l hFl).1;have hIl:=(uz.fB l hFl).2;have hLl:∀ J C,L J≠some (some (l,C)):=fun J C hn=>(g3 l ⟨J,C,hn⟩).2.1 rfl;have hxo:BS Ir rQ wr I Fo w:=(zE.trans (sd.trans O)).less fun b hb=>(g2 b).2 (.inl hb);have zY:IF I Fo w:=⟨uz.iB,fun b hb=>uz.fB b ((g2 b).2 (.inl hb))⟩;have tK:∀ J b C,L J=some (some (b,C))->b < w.heap.size/\¬ I b/\¬ Fo b/\b≠l:=fun J b C hn=>by have hb:CA L b:=⟨J,C,hn⟩;have hF:=uz.fB b ((g2 b).2 (.inr (.inl hb)));exact⟨hF.1,hF.2,(g3 b hb).1,(g3 b hb).2.1⟩
 unfold NL at hh;by_cases hd:d=dep
 ·subst hd;simp only[lq] at hh;rw[kl rfl];cases p with
  | some x=>simp at hh
  | none =>
   simp only at hh;split at hh
   case isFalse=>cases hh
   rename_i hlen;split at hh
   case h_2=>cases hh
   rename_i s1 e1 hev1;split at hh
   case h_2=>cases hh
   rename_i x s2 e2 hev2;cases hh;have nD:A.toArray.size=rc.params.size:=by have:=mG.length;rw[yD];simp only[kH];have H:ps.toList.length=ps.size:=jQ;omega
   have hrec:w.heap[l]?=some (.loop (Bf rc none)):=g6;refine⟨_,_,_,_,run_yield hrec (by simpa[Bf] using nD),?_⟩;refine roundIn_of_wpIn trivial ?_
   have qA:SR lp I L {s with tmps:=GM ps.toList args s.tmps,mj:=s.tmps++s.mj}
     ((((Bf rc none).params.zip A.toArray).foldl (fun tmps (x:Nat×lK)=>tmps.setIfInBounds x.1 x.2) (Bf rc none).tmps)).toList (rc.tmps.toList++ml) w:=by
    refine⟨?_,g1.tm.append g1.kp,g1.ob,g1.pR⟩;have:=vU ps.toList args A s.tmps rc.tmps (Ai.mono (fun _ h=>h) (fun _ _=>rfl) (fun d l h=>by cases h) (mG.lift (some L))) g1.tm (by simpa using hlen);have hfold:(((Bf rc none).params.zip A.toArray).foldl (fun tmps (x:Nat×lK)=>tmps.setIfInBounds x.1 x.2) (Bf rc none).tmps)=(ps.toList.zip A).foldl (fun (tmps:Array lK) (x:Nat×lK)=>tmps.setIfInBounds x.1 x.2) rc.tmps:=by simp only[Bf,yD];rw[<-Array.foldl_toList,Array.toList_zip]
    rw[hfold];exact this
   have tL:Fr cx w I F ⟨CA L,[]⟩ (fun b=>if b=l then some (.loop (Bf rc none)) else none) R e [] I Fo L w:=by
    refine⟨⟨rfl,rfl,rfl,ik _,fun _ _ _=>rfl,fun _ h=>h,fun _ h=>.inl h,fun b hb=>.inl ((g2 b).2 (.inl hb))⟩,zY,fun b hb=>(g2 b).2 (.inr (.inl hb)),fun J b C hn=>?_,g5,hwd,g7,.nil,fun b ob hb=>?_⟩;{obtain⟨q1,q2,q3,q4⟩:=tK J b C hn;exact⟨.inr ⟨J,C,hn⟩,q1,q2,q3⟩}
    ·by_cases qX:b=l
     {subst qX;simp only[lq,il] at hb;subst hb;exact⟨hlw,hIl,g4,hLl,hrec⟩};{simp[qX] at hb}
   have href':GB cx lp R h (d+1) w I F:=⟨⟨Ir,rQ,wr,hand,zE.trans (sd.trans O)⟩,fun d' l' qq=>Nat.lt_succ_of_lt (mS.dep d' l' qq)⟩;have hca':=hca E h (d+1) R lp w I F ⟨CA L,[]⟩ (fun b=>if b=l then some (.loop (Bf rc none)) else none) (rc.tmps.toList++ml) (some l) _ e .normal s1 e1 hev1 href' (fun l0 he=>by cases he;exact⟨Bf rc none,by simp⟩);have hasn:(Bf rc none).assign=assign:=hra;have hbdy:(Bf rc none).body=body:=hrb;rw[hasn,hbdy];refine hca' {tmps:=_,defers:=[]} w I Fo L _ qA tL ?_;rintro a1 w2 I2 F2 L2 pJ ql;have hheld:=ql.ry l (.loop (Bf rc none)) (by simp);obtain⟨k1,k2,k3,k4,k5⟩:=hheld
   have qx:∀ {I F:Nat->Prop} {L:As} {w':lJ} {ds rs:List lQ},Cg w.heap.size I F L w' ds rs->∀ D,D∈ds.map (·.target)->D≠.collected l:=by
    intro I F L w' ds rs hm;induction hm with
    | nil=>intro D hD;simp at hD
    | call d' ds rs hd _ ih =>
     intro D' qy;simp only[iE,im] at qy;rcases qy with rfl | qy;{exact hd l};{exact ih D' qy}
    | cons D ds rs U _ _ _ _ _ _ _ ih =>
     intro D' qy;simp only[iE,im] at qy;rcases qy with rfl | qy;{intro he;cases he;omega};{exact ih D' qy}
   refine⟨_,run_beginRound k5 rfl,?_⟩;have hf2':=ql.q7 (qm:=.loop {Bf rc none with state:=.busy}) (l:=l) (ob:=.loop (Bf rc none)) (by simp) (.inr hFl) (qx ql.rq);have hs2':=pJ.q7 (.loop {Bf rc none with state:=.busy}) k2 k4;refine hcb E h (d+1) R lp w I F ⟨CA L,[]⟩ (fun b=>if b=l then some (.loop {Bf rc none with state:=.busy}) else if b=l then some (.loop (Bf rc none)) else none) (rc.tmps.toList++ml) (some l) _ e1 x s2 e2 hev2 href' (fun l0 he=>by cases he;exact⟨{Bf rc none with state:=.busy},by simp⟩) a1 _ I2 F2 L2 _ hs2' hf2' ?_;rintro a2 w3 I3 F3 L3 zZ z1;have hheld3:=z1.ry l (.loop {Bf rc none with state:=.busy}) (by simp);obtain⟨m1,m2,m3,m4,m5⟩:=hheld3;have oX:=run_endRound (P:=cx.P) (KM x) m5;have hrc:({({Bf rc none with state:=.busy}:Loop) with state:=if (KM x).isNone then .ready else .done,pending:=KM x}:Loop)=Bf rc (if x=.normal then none else some x):=by cases x<;>rfl
   rw[hrc] at oX;have rI:=z1.q7 (qm:=.loop (Bf rc (if x=.normal then none else some x))) (l:=l) (ob:=.loop {Bf rc none with state:=.busy}) (by simp) (.inr hFl) (qx z1.rq);have hs4:=zZ.q7 (.loop (Bf rc (if x=.normal then none else some x))) m2 m4;generalize hw4:w3.putObj l (.loop (Bf rc (if x=.normal then none else some x)))=w4 at *;have hl4:=rI.ry l (.loop (Bf rc (if x=.normal then none else some x))) (by simp);obtain⟨n1,n2,n3,n4,n5⟩:=hl4
   have rX:(.bool (KM x).isNone:lK)=.bool (x==.normal)/\∃ I' F',BS I F w I' F' w4/\IF I' F' w4/\cx.Wd I' w4 /\
     (Sn w0 O0 R lp l rc rc.tmps.toList ml).rel ({s2 with tmps:=s2.mj.take s.tmps.length,mj:=s2.mj.drop s.tmps.length},(if x=.normal then none else some x),e2) I' F' w4:=by
    refine⟨by cases x<;>rfl,I3,(fun b=>F3 b\/CA L3 b\/b=l),⟨rI.ext.os,rI.ext.tape,rI.ext.output,rI.ext.size,rI.ext.mj,rI.ext.pV,rI.ext.py,fun b hb=>?_⟩,⟨rI.sep.iB,fun b hb=>?_⟩,rI.wd,L3,F3,⟨?_,?_,hs4.ob,hs4.pR⟩,fun b=>Iff.rfl,fun b hb=>?_,n3,rI.inj,n5,rI.re⟩;{rcases hb with hb | ⟨J,C,hb⟩ | rfl;{exact rI.ext.pL b hb};{exact (rI.lB J b C hb).1.elim .inr fun ho=>.inl (rI.oF b ho)};{exact .inl hFl}};{rcases hb with hb | ⟨J,C,hb⟩ | rfl;{exact rI.sep.fB b hb};{exact⟨(rI.lB J b C hb).2.1,(rI.lB J b C hb).2.2.1⟩};{exact⟨n1,n2⟩}}
    ·have:=hs4.kp.take s.tmps.length
     rwa [List.take_left' g1.tm.length.symm] at this
    ·have:=hs4.kp.drop s.tmps.length
     rwa [List.drop_left' g1.tm.length.symm] at this
    {obtain⟨J,C,hb⟩:=hb;refine⟨(rI.lB J b C hb).2.2.2,fun e=>n4 J C (e ▸ hb),?_⟩;have oL:=sd.size;have hsz2:=O.size;rcases (rI.lB J b C hb).1 with U | U;{exact .inl (by omega)};{exact (g3 b U).2.2}}
   obtain⟨p1,p2⟩:=rX;cases x with
   | normal=>exact⟨_,_,oX,p1,p2⟩
   | exit id =>
    simp only[CJ];simp only[KM] at oX p1;by_cases hid:id < B4;{simp only[hid,lq] at oX p1 |-;exact⟨_,_,oX,p1,p2⟩};{simp only[hid,lm] at oX p1 |-;exact⟨_,_,oX,p1,p2⟩}
   | ret=>exact⟨_,_,oX,p1,p2⟩
 ·simp only[hd,lm] at hh;split at hh
  case h_2=>cases hh
  rename_i b1 e1 hhe;cases hh;obtain⟨fn,tmps,as,bd,q1,q2⟩:=kh hd e1 hhe A I Fo w mG hxo zY hwd g7;refine⟨fn,tmps,as,bd,q1,RoundIn.mono q2 fun en w' hq=>?_⟩;cases en with
  | panicked chain=>exact hq.elim
  | outgrown=>exact hq.elim
  | returned v =>
   obtain⟨rfl,I',Fo',r1,r2,r3,r4⟩:=hq
   have pz:∀ b,b < w.heap.size->¬ I b->¬ Fo b->¬ I' b/\¬ Fo' b/\w'.heap[b]?=w.heap[b]?:=fun b U H h3 =>
    ⟨fun h=>by rcases r1.py b h with h | h | h<;>first | exact H h | exact h3 h | omega,fun h=>by rcases r1.pL b h with h | h<;>first | exact h3 h | omega,r1.mj b U h3⟩
   have oL:=r1.size
   refine⟨rfl,I',(fun b=>Fo' b\/CA L b\/b=l),⟨r1.os,r1.tape,r1.output,r1.size,fun b hb hF=>r1.mj b hb fun h=>hF ((g2 b).2 (.inl h)),r1.pV,fun b hb=>?_,fun b hb=>?_⟩,⟨r2.iB,fun b hb=>?_⟩,r3,L,Fo',
    g1.keeps r1.pV (fun b hb=>r1.tz zY b hb) (fun J b C hn=>(pz b (tK J b C hn).1 (tK J b C hn).2.1 (tK J b C hn).2.2.1).2.2),fun b=>Iff.rfl,fun b hb=>?_,(pz l hlw hIl g4).2.1,g5,(pz l hlw hIl g4).2.2.trans g6,r4⟩
   {rcases r1.py b hb with h | h | h;{exact .inl h};{exact .inr (.inl ((g2 b).2 (.inl h)))};{exact .inr (.inr h)}};{rcases hb with hb | hb | rfl;{exact (r1.pL b hb).imp (fun h=>(g2 b).2 (.inl h)) id};{exact .inl ((g2 b).2 (.inr (.inl hb)))};{exact .inl hFl}}
   ·rcases hb with hb | ⟨J,C,hb⟩ | rfl;{exact r2.fB b hb}
    {obtain⟨u1,u2,u3,_⟩:=tK J b C hb;exact⟨by omega,(pz b u1 u2 u3).1⟩};{exact⟨by omega,(pz b hlw hIl g4).1⟩}
   {obtain⟨J,C,hn⟩:=hb;obtain⟨u1,u2,u3,u4⟩:=tK J b C hn;exact⟨(pz b u1 u2 u3).2.1,u4,(g3 b ⟨J,C,hn⟩).2.2⟩}
end round
end Go.Ab

