/- Part 2 of a proof: laws of a machine. -/
import Derived.Test.YtpkicjjenbdejaaGreatDoorK01
import Derived.Laws.IdiomStrings
import Derived.MapKept
import Derived.Laws.Entries
import Derived.Laws.StructEq
import Derived.Orders
import Derived.RangeFuncNested
set_option linter.all false

namespace Go.Ab
variable{L':fm} {P:eX} {Rn:fh} {b:UInt8} {clock:Nat} {d:e9} {dst el et kt src:eY} {gD:Array MapEntry} {es:fa} {f:Nm->Option fe} {k v z:PV} {l:List MapEntry} {J:Nm} {r r1 r2:RX} {w':eS} {x:eV} {σ:Nm->fe}
section ops
variable {E:Type} {cx:Cx} {w0:eS} {I0 F0:Nat->Prop} {O0:Bu} {Hd:Nat->Option Obj} {R:Bl E} {e:E} {ds:List eZ} {F:Nat->Prop} {lp:Nat->fb} {fE:List eT}
variable {I:Nat->Prop} {L:Am} {V:St} {a:Act} {w:eS} {o:Oper} {out:Ai} {mF:Ak}
theorem aw (hs:SR lp I L V a.tmps.toList fE w) (hf:Fr cx w0 I0 F0 O0 Hd R e ds I F L w) (ho:o.op=.convert src dst x) (U:rx cx.G x=some r)
  (hd1:cx.P.underlying src=some .string) (hd2:cx.P.underlying dst=some (.slice el)) (hd3:cx.P.underlying el=some (.int .u8))
  (h:exec (o.dst.getD 0) (Aa V.fA) V.tmps (.il r)=some out):Bb cx w0 I0 F0 O0 Hd R e ds F lp fE o a w (apply V o.dst out):=by
 have H:=A9 hs hf.wd U;simp only[exec] at h;split at h
 case h_2=>cases h
 rename_i s hr;obtain⟨hk,h⟩:=AK h;cases h;rw[hr] at H;have kJ:=B4 H;have hz:(⟨s.toArray⟩:ByteArray).size=s.length:=by simp[ByteArray.size]
 have gB:=run_bytes_of_string (P:=cx.P) w src dst el ⟨s.toArray⟩ hd1 hd2 hd3;rw[hz] at gB;have kK:=grownCap_ge w s.length 0 el;generalize hc:grownCap w s.length 0 el=cap at *;have lG:(bytesRow ⟨s.toArray⟩ cap).toList=(s.map fun b=>Value.int .u8 (b.toNat:Int))++List.replicate (cap - s.length) (.int .u8 0):=by simp[bytesRow,hz]
 have hbs:(bytesRow ⟨s.toArray⟩ cap).size=cap:=by
  have:(bytesRow ⟨s.toArray⟩ cap).toList.length=cap:=by rw[lG];simp;omega
  simpa using this
 generalize nk:bytesRow ⟨s.toArray⟩ cap=row at *;generalize kC:(row.size,row.size+1)=fr at *;have sG:∀ b',b' < w.heap.size->(w.drew.alloc (.cells row el fr)).heap[b']?=w.heap[b']?:=fun b' jh=>by rw[fJ w.drew _ jh];rfl
 have jV:SR lp (fun b=>I b\/b=w.heap.size) L V a.tmps.toList fE (w.drew.alloc (.cells row el fr)) :=
  hs.keeps (fun _ h=>.inl h) (fun b hb=>sG b (hf.sep.iB b hb)) fun J b C hn=>sG b (hf.lB J b C hn).2.1
 refine⟨.slice (some ⟨w.heap.size,0,none⟩) s.length cap,w.drew.alloc (.cells row el fr),(fun b=>I b\/b=w.heap.size),L,.inl ?_,?_,?_⟩;{simp[execOp,ho,kJ,gB]}
 ·refine jV.tl o.dst ?_;have hbl2:(Bz s).length=s.length:=by simp[Bz]
  have htk:(row.toList.drop 0).take ((Bz s).length*1)=s.map fun b=>Value.int .u8 (b.toNat:Int):=by rw[dU,lG,hbl2,Nat.mul_one,d8 (by simp),cF (by simp)]
  have:=Aj.sl (w:=w.drew.alloc (.cells row el fr)) (I:=fun b=>I b\/b=w.heap.size) (lp:=lp) (L:=some L) 1 (Bz s) false w.heap.size 0 cap row el fr (.inr rfl) (Iv w.drew _) (by rw[hbl2,hbs];omega)
   (fun y hy=>by obtain⟨b,_,rfl⟩:=bA.1 hy;rfl) (by rw[hbl2];exact kK) (by simp)
   (by rw[htk];intro v hv;obtain⟨b,_,rfl⟩:=bA.1 hv;rfl) (by rw[htk];exact UD s)
  rwa [hbl2] at this
 {refine hf.own rfl rfl rfl (by simp) (fun b hb _=>sG b hb) (fun _ h=>.inl h) (fun b hb=>?_) (fun J b C hn=>?_) hf.inj;{rcases hb with hb | rfl;{exact .inl hb};{exact .inr ⟨by simp,.inl (bD _)⟩}};{have hl:=hf.lB J b C hn;refine⟨by simp;omega,fun hb=>?_,.inr ⟨J,C,hn⟩⟩;rcases hb with hb | rfl;{exact hl.2.2.1 hb};{omega}}}
theorem ZY {x:PV} (h:Ke x=some b):x=.int .u8 (b.toNat:Int):=by
 unfold Ke at h;split at h
 ·rename_i n;split at h
  ·rename_i hn;cases h;congr 1;have:n.toNat < 256:=by omega
   rw[UInt8.toNat_ofNat',Nat.mod_eq_of_lt this,Int.toNat_of_nonneg hn.1]
  {cases h}
 {cases h}
theorem Zm:∀ {Z:fa} {s:fp},EM Z=some s->Z=Bz s:=by
 intro Z;induction Z with
 | nil=>intro s h;simp only[EM,bC] at h;subst h;rfl
 | cons x Z ih =>
  intro s h;simp only[EM] at h;split at h;{rename_i b bs hb hbs;cases h;rw[ZY hb,ih hbs];rfl};{cases h}
theorem p6 {w:eS} {I:Nat->Prop} {lp:Nat->fb} {L:fm}:∀ {s:fp} {A:List eT},Ae w I lp L (fL (Bz s)) A->A=s.map fun b=>Value.int .u8 (b.toNat:Int):=by
 intro s;induction s with
 | nil=>intro A h;cases h;rfl
 | cons b s ih =>
  intro A h;have O:Ae w I lp L (.int .u8 (b.toNat:Int) :: fL (Bz s)) A:=h;cases O with
  | cons _ v _ A h3 hs=>rw[B5 h3,ih hs];rfl
theorem ay (hs:SR lp I L V a.tmps.toList fE w) (hf:Fr cx w0 I0 F0 O0 Hd R e ds I F L w) {x:eV} (ho:o.op=.convert src dst x) (U:rx cx.G x=some r)
  (hd1:cx.P.underlying src=some (.slice el)) (hd2:cx.P.underlying dst=some .string) (hd3:cx.P.underlying el=some (.int .u8))
  (h:exec (o.dst.getD 0) (Aa V.fA) V.tmps (.ofBytes r)=some out):Bb cx w0 I0 F0 O0 Hd R e ds F lp fE o a w (apply V o.dst out):=by
 have H:=A9 hs hf.wd U;simp only[exec] at h;split at h
 case h_2=>cases h
 rename_i Z iA;split at h
 case h_2=>cases h
 rename_i s hbs;cases h;obtain⟨sH,lz⟩:=AK iA;have lX:=Zm hbs;subst lX;refine Bi hs hf (v':=.string ⟨s.toArray⟩) ?_ (.refl w) (.str s)
 have nk:∀ (b off cap:Nat) (c:Array eT) (E':eY) (fr:Nat×Nat),w.heap[b]?=some (.cells c E' fr)->off+s.length<=c.size->Ae w I lp none (fL (Bz s)) ((c.toList.drop off).take s.length) ->
   (convert src dst (.slice (some ⟨b,off,none⟩) s.length cap)).run cx.P w=.ok (.string ⟨s.toArray⟩) w:=by
  intro b off cap c E' fr hb hle fX;refine run_convert_bytes_back w src dst el ⟨b,off,none⟩ cap s hd1 hd3 hd2 fun j hj=>?_;have he:=p6 fX;rw[HS,M4 hb];have:((c.toList.drop off).take s.length)[j]?=some (.int .u8 (s[j].toNat:Int)):=by rw[he];simp[hj]
  rw[dm hj,dF] at this;simpa using this
 have mP:s=[]->∀ (ad:Option Addr) (cap:Nat),(convert src dst (.slice ad 0 cap)).run cx.P w=.ok (.string ⟨s.toArray⟩) w:=by
  rintro rfl ad cap;cases ad with
  | none=>rw[run_convert_bytes_string w src dst el none 0 cap hd1 hd3 hd2];simp[Conv.bytesToString];rfl
  | some ad=>exact run_convert_bytes_back w src dst el ad cap [] hd1 hd3 hd2 fun j hj=>by simp at hj
 have key:(convert src dst (a.eval x)).run cx.P w=.ok (.string ⟨s.toArray⟩) w:=by
  unfold C0 at lz;split at lz
  ·rename_i k Z full hr;obtain⟨_,px⟩:=AK lz;have px:Z=Bz s:=by simpa using px
   subst px;rw[hr] at H;rcases Hy H with ⟨b,off,cap,c,E',fr,hv,g1,g2,g3,g4,g5,g6,g7,g8⟩ | ⟨hn,ad,cap,hv,_⟩
   ·have lG:(Bz s).length=s.length:=by simp[Bz]
    rw[lG] at hv g3 g8
    have gS:s.length*k=s.length:=by
     have hln:=g8.length;cases s with
     | nil=>simp
     | cons b0 s=>have:=g4 (.int .u8 (b0.toNat:Int)) (by simp[Bz]);rw[<-this];simp[PV.cells]
    rw[gS] at g3 g8;rw[hv];exact nk b off cap c E' fr g2 g3 g8
   {rw[hv];exact mP (by simpa[Bz] using hn) ad cap}
  ·rename_i J k off n hr;split at lz
   case h_2=>cases lz
   rename_i ku kt Z gK;obtain⟨hk,px⟩:=AK lz;simp only[bz,eJ,eI] at hk;obtain⟨⟨rfl,rfl⟩,hle⟩:=hk;have px:(Z.drop off).take n=Bz s:=by simpa using px
   have lG:(Bz s).length=s.length:=by simp[Bz]
   have sH:n=s.length:=by rw[<-lG,<-px];simp;omega
   obtain⟨p,hp,ha⟩:=hs.ob J _ gK;rw[hr] at H;rcases Gi H with ⟨b,C,cap,hL,hv,hC,hn⟩ | ⟨hL,hv,rfl,rfl⟩
   ·rw[hL] at hp;cases hp;obtain⟨c,E',hb,hC',hxs',kq,gL,fX⟩:=ha;have:=(fX.drop (off*1)).take (n*1);rw[<-KA kq,<-IB (fun x H=>kq x (cO H)),px,cP,cn] at this;have hmin:min (n*1) (Z.length*1 - off*1)=s.length:=by omega
    rw[hmin,Nat.mul_one] at this;rw[hv,sH,Nat.mul_one];exact nk b off cap c E' (0,0) hb (by omega) this
   {rw[hv];exact mP (ej.1 sH.symm) none 0}
  ·rename_i hr;have px:[]=Bz s:=by simpa using lz
   rw[hr] at H;rw[Fb H];exact mP (by cases s with | nil=>rfl | cons b s=>simp[Bz] at px) none 0
  {rename_i s' hr;rw[hr] at sH;simp[N3] at sH};{cases lz}
 simp[execOp,ho,key]
theorem Ot (h:FK (Da P kt) k=true):∃ d,P.underlying kt=some d /\
  (((∃ kk,d=.int kk)/\∃ j n,k=.int j n)\/(d=.string/\∃ s,k=.str s)\/(d=.bool/\∃ b,k=.bool b)):=by
 cases hu:P.underlying kt with
 | none=>simp[Da,hu,FK] at h
 | some d =>
  cases d with
  | struct fs =>
   simp only[Da,hu] at h;split at h;{split at h<;>simp[FK] at h};{simp[FK] at h}
  | int q =>
   simp only[Da,hu] at h;cases k<;>simp[FK] at h;exact⟨_,rfl,.inl ⟨⟨_,rfl⟩,_,_,rfl⟩⟩
  | string =>
   simp only[Da,hu] at h;cases k<;>simp[FK] at h;exact⟨_,rfl,.inr (.inl ⟨rfl,_,rfl⟩)⟩
  | bool =>
   simp only[Da,hu] at h;cases k<;>simp[FK] at h;exact⟨_,rfl,.inr (.inr ⟨rfl,_,rfl⟩)⟩
  | _=>simp[Da,hu,FK] at h
def HJ (d:e9) (k:PV):Prop:=((∃ kk,d=.int kk)/\∃ j n,k=.int j n)\/(d=.string/\∃ s,k=.str s)\/(d=.bool/\∃ b,k=.bool b)
theorem HJ.names (h:HJ d k):k.names=[]:=by rcases h with ⟨_,_,_,rfl⟩ | ⟨_,_,rfl⟩ | ⟨_,_,rfl⟩<;>rfl
theorem Ov {w:eS} {I:Nat->Prop} {lp:Nat->fb} {L:fm} {x:PV} {kv xv:eT} (hd:HJ d k) (hk:Aj w I lp L k kv) (H:Aj w I lp L' x xv) {r:Bool} (h:LS k x=some r) :
  Instr.sameNow d kv xv=some r/\(r=true->xv=kv):=by
 rcases hd with ⟨⟨kk,rfl⟩,j,n,rfl⟩ | ⟨rfl,s,rfl⟩ | ⟨rfl,b,rfl⟩
 ·cases x<;>simp only[LS] at h<;>first | contradiction | skip
  obtain⟨U,O⟩:=AK h;have U:=beq_iff_eq.1 U;subst U;cases O;rw[B5 hk,B5 H];refine⟨by simp[Instr.sameNow],fun hb=>by rw[beq_iff_eq.1 hb]⟩
 ·cases x<;>simp only[LS] at h<;>first | contradiction | skip
  rename_i s';cases h;rw[B4 hk,B4 H]
  have hb:((⟨s.toArray⟩:ByteArray)==⟨s'.toArray⟩)=(s==s'):=by
   cases hc:(s==s') with
   | true=>rw[beq_iff_eq.1 hc];exact (MapKept.bytes_beq _ _).2 rfl
   | false =>
    cases hb:((⟨s.toArray⟩:ByteArray)==⟨s'.toArray⟩) with
    | false=>rfl
    | true =>
     have:=(MapKept.bytes_beq _ _).1 hb;have:s=s':=by simpa using this
     rw[this] at hc;simp at hc
  exact⟨by simp only[Instr.sameNow,hb],fun hb=>by rw[beq_iff_eq.1 hb]⟩
 ·cases x<;>simp only[LS] at h<;>first | contradiction | skip
  rename_i b';cases h;rw[Er hk,Er H];exact⟨by simp[Instr.sameNow],fun hb=>by rw[beq_iff_eq.1 hb]⟩
theorem Ul {w:eS} {I:Nat->Prop} {lp:Nat->fb} {L:fm} {x y:PV} (h:Ae w I lp L (x :: y :: es) (EY l)) :
  ∃ en l',l=en :: l'/\Aj w I lp L x en.key/\Aj w I lp L y en.val/\Ae w I lp L es (EY l'):=by
 cases l with
 | nil=>cases h
 | cons en l' =>
  cases h with
  | cons _ _ _ _ U O=>cases O with
   | cons _ _ _ _ O h3=>exact⟨en,l',rfl,U,O,h3⟩
theorem ba {w:eS} {I:Nat->Prop} {lp:Nat->fb} {L:fm} {kv:eT} (hd:HJ d k) (hk:Aj w I lp L' k kv):∀ (n:Nat) (es:fa) (l:List MapEntry) (i:Nat) (r:ft),es.length<=n ->
  Ae w I lp L es (EY l)->Gp k es=some r ->
  (r=none/\Instr.findNow d kv l i=some none)\/∃ j v x,r=some x/\Aj w I lp L x v/\Instr.findNow d kv l i=some (some (j,v)):=by
 intro n;induction n with
 | zero =>
  intro es l i r hn h hf;cases es with
  | cons x es=>simp at hn
  | nil =>
   simp only[Gp,bC] at hf;subst hf;cases l with
   | nil=>exact .inl ⟨rfl,rfl⟩
   | cons en l=>cases h
 | succ n ih =>
  intro es l i r hn h hf
  match es,hf,h,hn with
  | [],hf,h,hn =>
   simp only[Gp,bC] at hf;subst hf;cases l with
   | nil=>exact .inl ⟨rfl,rfl⟩
   | cons en l=>cases h
  | [x],hf,h,hn=>simp[Gp] at hf
  | x :: y :: es,hf,h,hn =>
   obtain⟨en,l',rfl,U,O,h3⟩:=Ul h;simp only[Gp] at hf;split at hf;{rename_i nV;obtain⟨s1,_⟩:=Ov hd hk U nV;cases hf;exact .inr ⟨i,en.val,y,rfl,O,by simp[Instr.findNow,s1]⟩};{rename_i nV;obtain⟨s1,_⟩:=Ov hd hk U nV;simp only[ct] at hn;rcases ih es l' (i+1) r (by omega) h3 hf with ⟨q1,q2⟩ | ⟨j,v,x,q1,q2,q3⟩;{exact .inl ⟨q1,by simp[Instr.findNow,s1,q2]⟩};{exact .inr ⟨j,v,x,q1,q2,by simp[Instr.findNow,s1,q3]⟩}};{cases hf}
theorem p7 {w:eS} {I:Nat->Prop} {lp:Nat->fb} {L:fm} {kv vv:eT} (hd:HJ d k) (hk:Aj w I lp L k kv) (hv:Aj w I lp L v vv):∀ (n:Nat) (es:fa) (l:List MapEntry) (i:Nat) (jS:fa),es.length<=n ->
  Ae w I lp L es (EY l)->D1 k v es=some jS ->
  (Instr.findNow d kv l i=some none/\∀ b,Ae w I lp L jS (EY (l++[{key:=kv,val:=vv,born:=b}]))) \/
  ∃ j en,Instr.findNow d kv l i=some (some (i+j,en.val))/\l[j]?=some en/\en.key=kv/\Ae w I lp L jS (EY (l.modify j fun e=>{e with key:=kv,val:=vv})):=by
 intro n;induction n with
 | zero =>
  intro es l i jS hn h hf;cases es with
  | cons x es=>simp at hn
  | nil =>
   simp only[D1,bC] at hf;subst hf;cases l with
   | nil=>exact .inl ⟨rfl,fun b=>.cons _ _ _ _ hk (.cons _ _ _ _ hv .nil)⟩
   | cons en l=>cases h
 | succ n ih =>
  intro es l i jS hn h hf
  match es,hf,h,hn with
  | [],hf,h,hn =>
   simp only[D1,bC] at hf;subst hf;cases l with
   | nil=>exact .inl ⟨rfl,fun b=>.cons _ _ _ _ hk (.cons _ _ _ _ hv .nil)⟩
   | cons en l=>cases h
  | [x],hf,h,hn=>simp[D1] at hf
  | x :: y :: es,hf,h,hn =>
   obtain⟨en,l',rfl,U,O,h3⟩:=Ul h;simp only[D1] at hf;split at hf;{rename_i nV;obtain⟨s1,s2⟩:=Ov hd hk U nV;cases hf;refine .inr ⟨0,en,by simp[Instr.findNow,s1],rfl,s2 rfl,?_⟩;rw[List.modify_zero_cons];exact .cons _ _ _ _ hk (.cons _ _ _ _ hv h3)}
   ·rename_i nV;obtain⟨s1,_⟩:=Ov hd hk U nV;obtain⟨es2,hes2,rfl⟩:=bB.1 hf;simp only[ct] at hn;rcases ih es l' (i+1) es2 (by omega) h3 hes2 with ⟨q1,q2⟩ | ⟨j,en',q1,q2,q3,q4⟩;{exact .inl ⟨by simp[Instr.findNow,s1,q1],fun b=>.cons _ _ _ _ U (.cons _ _ _ _ O (q2 b))⟩}
    {refine .inr ⟨j+1,en',by simp[Instr.findNow,s1,q1];omega,by simpa using q2,q3,?_⟩;rw[List.modify_succ_cons];exact .cons _ _ _ _ U (.cons _ _ _ _ O q4)}
   {cases hf}
theorem tM {w:eS} {b:Nat} (hb:w.heap[b]?=some (.map gD clock)) (ob:Obj) :
  (setObj b ob).run P w=.ok () {w with heap:=w.heap.setIfInBounds b ob}:=MapKept.run_setObj_map ob hb
theorem PU {kv:eT} {kk:eW} (hd:HJ d k) {w:eS} {I:Nat->Prop} {lp:Nat->fb} {L:fm} (hk:Aj w I lp L k kv) (hu:P.underlying kt=some d) (b:Bool) (n:Nat) :
  (Instr.checkKey b (n+1) kt kv).run P w'=.ok () w':=by
 unfold Instr.checkKey;simp only[Sem.run_bind,run_underlying hu,Result.andThen];rcases hd with ⟨⟨kk,rfl⟩,j,m,rfl⟩ | ⟨rfl,s,rfl⟩ | ⟨rfl,b,rfl⟩<;>rfl
theorem p8 {kv:eT} (hd:HJ d k) {w:eS} {I:Nat->Prop} {lp:Nat->fb} {L:fm} (hk:Aj w I lp L k kv):(Instr.keyThatStays kv kv).run P w'=.ok kv w':=by rcases hd with ⟨⟨kk,rfl⟩,j,m,rfl⟩ | ⟨rfl,s,rfl⟩ | ⟨rfl,b,rfl⟩;{rw[B5 hk];simp[Instr.keyThatStays,Instr.sameBits]};{rw[B4 hk];simp[Instr.keyThatStays,Instr.sameBits,MapKept.bytes_beq]};{rw[Er hk];simp[Instr.keyThatStays,Instr.sameBits]}
theorem av (σ:List fg) {a b:Nm} (h:a≠b) (o p:Ob):AM (AM σ a o) b p=AM (AM σ b p) a o:=by
 obtain⟨a1,a2⟩:=a;obtain⟨b1,b2⟩:=b;unfold AM;simp only
 by_cases tN:a1=b1
 ·subst tN;have O:a2≠b2:=fun e=>h (by rw[e]);cases hl:σ[a1]? with
  | none=>simp[hl]
  | some l =>
   have gI:=(bH.1 hl).1;simp only[cB gI,List.set_set];rw[cR _ _ O]
 ·cases ha:σ[a1]? with
  | none =>
   cases hb:σ[b1]? with
   | none=>simp[ha,hb]
   | some l' =>
    simp only[hb];rw[bR (bW tN),ha]
  | some l =>
   simp only
   rw[bR tN];cases hb:σ[b1]? with
   | none=>simp[ha]
   | some l' =>
    simp only
    rw[bR (bW tN),ha];simp only
    rw[cR _ _ tN]
mutual
theorem V6 {f:Nm->Option fe}:∀ (x:PV),x.names=[]->x.sub f=x
 | .agg cs,h=>by simp only[PV.sub];rw[Mv cs (by simpa[PV.names] using h)]
 | .iface t x,h=>by simp only[PV.sub];rw[V6 x (by simpa[PV.names] using h)]
 | .fn g cap,h=>by simp only[PV.sub];rw[Mv cap (by simpa[PV.names] using h)]
 | .fM Z,h=>by simp only[PV.sub];rw[Mv Z (by simpa[PV.names] using h)]
 | .undef,_ | .bool _,_ | .int _ _,_ | .str _,_ | .fF,_ | .gh,_ | .gH,_ | .fR,_ | .gF,_ | .sl _ _ _,_ | .ptr _ _,_ | .fT _,_ | .gz _,_ | .gw _ _,_=>by simp[PV.sub]
 | .ref _ _,h | .fO _ _ _ _,h | .arr _ _ _ _,h | .mp _,h | .it _,h=>by simp[PV.names] at h
theorem Mv {f:Nm->Option fe}:∀ (Z:fa),Al Z=[]->AE f Z=Z
 | [],_=>rfl
 | x :: Z,h=>by
  simp only[Al,d7] at h;simp only[AE];rw[V6 x h.1,Mv Z h.2]
end
theorem V7 {Z:fa} (h:Al Z=[]):AE f Z=Z:=Mv Z h
mutual
theorem RL {σ:Nm->fe}:∀ (x:PV),(x.sub (A3 σ)).names=[]
 | .agg cs=>by simp[PV.sub,PV.names,Of cs]
 | .iface t x=>by simp[PV.sub,PV.names,RL x]
 | .fn g cap=>by simp[PV.sub,PV.names,Of cap]
 | .fM Z=>by simp[PV.sub,PV.names,Of Z]
 | .undef | .bool _ | .int _ _ | .str _ | .fF | .gh | .gH | .fR | .gF | .sl _ _ _ | .ptr _ _ | .fT _ | .gz _ | .gw _ _=>by simp[PV.sub,PV.names]
 | .ref J o=>by simp only[PV.sub,A3];cases (σ J).map (EL σ Ax) with
  | none=>rfl
  | some ob=>cases ob<;>simp only<;>first | rfl | (split<;>rfl)
 | .fO J k i o=>by simp only[PV.sub,A3];cases (σ J).map (EL σ Ax) with
  | none=>rfl
  | some ob=>cases ob<;>simp only<;>first | rfl | (split<;>first | rfl | (split<;>first | rfl | (split<;>rfl)))
 | .arr J k o n=>by simp only[PV.sub,A3];cases (σ J).map (EL σ Ax) with
  | none=>rfl
  | some ob=>cases ob<;>simp only<;>first | rfl | (split<;>rfl)
 | .mp J=>by simp only[PV.sub,A3];cases (σ J).map (EL σ Ax) with
  | none=>rfl
  | some ob=>cases ob<;>rfl
 | .it J=>by simp only[PV.sub,A3];cases (σ J).map (EL σ Ax) with
  | none=>rfl
  | some ob=>rfl
theorem Of {σ:Nm->fe}:∀ (Z:fa),Al (AE (A3 σ) Z)=[]
 | []=>rfl
 | x :: Z=>by simp[AE,Al,RL x,Of Z]
end
theorem ak:∀ (n:Nat) (es:fa) {jS:fa},es.length<=n->D1 k v es=some jS->k.names=[]->v.names=[]->Al es=[]->Al jS=[]:=by
 intro n;induction n with
 | zero =>
  intro es jS hn h hk hv he;cases es with
  | cons x es=>simp at hn
  | nil=>simp only[D1,bC] at h;subst h;simp[Al,hk,hv]
 | succ n ih =>
  intro es jS hn h hk hv he
  match es,hn,h,he with
  | [],_,h,_=>simp only[D1,bC] at h;subst h;simp[Al,hk,hv]
  | [x],_,h,_=>simp[D1] at h
  | a :: u :: es,hn,h,he =>
   simp only[Al,d7] at he;simp only[D1] at h;split at h;·cases h;simp[Al,hk,hv,he.2.2]
   {obtain⟨es2,O,rfl⟩:=bB.1 h;simp only[ct] at hn;simp[Al,he.1,he.2.1,ih es (by omega) O hk hv he.2.2]};{cases h}
theorem aX (hn:J ∉ Rn) (V:St) (es:fa) (he:Al es=[]):BN σ Rn {V with fA:=AM V.fA J (.map es)}={BN σ Rn V with fA:=AM (BN σ Rn V).fA J (.map es)}:=by
 unfold BN Cd;simp only
 congr 1
 have hA:∀ f:Nm->Option fe,(AM V.fA J (.map es)).map (·.map (Ob.sub f))=AM (V.fA.map (·.map (Ob.sub f))) J (.map es):=by
  intro f;unfold AM;rw[bK];cases hl:V.fA[J.1]? with
  | none=>rfl
  | some l=>simp[dB,Ob.sub,V7 he]
 rw[hA];generalize V.fA.map _=fA;induction Rn generalizing fA with
 | nil=>rfl
 | cons r Rn ih =>
  rw[cJ,cJ,av _ (fun e=>hn (by rw[e];exact bN)),ih fun h=>hn (bM _ h)]
theorem ZL (hn:J ∉ Rn) (V:St) (he:Al es=[]) (h:Aa V.fA J=some (.map es)):Aa (BN σ Rn V).fA J=some (.map es):=by
 unfold BN Cd;simp only
 have h0:Aa (V.fA.map (·.map (Ob.sub fun m=>if Rn.contains m=true then A3 σ m else none))) J=some (.map es):=by rw[DA,h];simp[Ob.sub,V7 he]
 generalize V.fA.map _=fA at h0;clear h
 have key:∀ (R:fh) (fA:List fg),J ∉ R->Aa fA J=some (.map es)->Aa (R.foldl (fun fA J=>AM fA J AH) fA) J=some (.map es):=by
  intro R;induction R with
  | nil=>intro fA _ h;exact h
  | cons r R ih =>
   intro fA hn h;rw[cJ];refine ih _ (fun h=>hn (bM _ h)) ?_;rw[EG _ fun e=>hn (by rw[e];exact bN)];exact h
 exact key Rn fA hn h0
theorem UP (hs:SR lp I L V a.tmps.toList fE w) (hf:Fr cx w0 I0 F0 O0 Hd R e ds I F L w) {t:eY} {x k v:eV} (ho:o.op=.insert t x k v\/o.op=.mapUpdate t x k v) (hu:cx.P.underlying t=some (.map kt et))
  {jS:fa} {kp u:PV} (H:Aj w I lp (some L) (.mp J) (a.eval x)) (gK:Aa V.fA J=some (.map es)) (lf:Aj w I lp none kp (a.eval k)) (hv':Aj w I lp (some L) u (a.eval v)) (c1:FK (Da cx.P kt) kp=true) (lH:D1 kp u es=some jS) :
  Bb cx w0 I0 F0 O0 Hd R e ds F lp fE o a w (apply V o.dst {v:=.undef,gA:=some (J,.map jS)}):=by
 obtain⟨d,hd,p9⟩:=Ot c1;obtain⟨b,C,hL,kJ⟩:=PW H;obtain⟨p,hp,ha⟩:=hs.ob J _ gK;rw[hL] at hp;cases hp;obtain⟨gD,clock,hb,fX⟩:=ha;have hg:(getObj b).run cx.P w=.ok (.map gD clock) w:=by simp[getObj,Sem.run,hb]
 have hwb:∀ (w':eS) (ky:Obj),w'={w with heap:=w.heap.setIfInBounds b ky}->(∀ b',b'≠b->w'.heap[b']?=w.heap[b']?)/\w'.heap[b]?=some ky/\w'.heap.size=w.heap.size:=by rintro w' ky rfl;obtain⟨q1,q2⟩:=MapKept.heap_set (o':=ky) hb;exact⟨q2,q1,by simp⟩
 have fin:∀ (l':Array MapEntry) (lI:Nat),Ae w I lp (some L) jS (EY l'.toList)->(Instr.mapUpdate t (a.eval x) (a.eval k) (a.eval v)).run cx.P w=.ok () {w with heap:=w.heap.setIfInBounds b (.map l' lI)} ->
   Bb cx w0 I0 F0 O0 Hd R e ds F lp fE o a w (apply V o.dst {v:=.undef,gA:=some (J,.map jS)}):=by
  intro l' lI pq gB;obtain⟨q1,q2,q3⟩:=hwb _ (.map l' lI) rfl;have pw:∀ b',I b'->({w with heap:=w.heap.setIfInBounds b (.map l' lI)}:eS).heap[b']?=w.heap[b']?:=fun b' jh=>q1 b' fun e=>(hf.lB J b C hL).2.2.1 (e ▸ jh)
  exact MZ hs hf hL (w':={w with heap:=w.heap.setIfInBounds b (.map l' lI)}) (v':=undef) (.inr ⟨by rcases ho with ho | ho<;>simp[execOp,ho,gB],rfl⟩) rfl rfl rfl q3 q1
   ⟨l',lI,q2,Ae.mono (fun _ h=>h) pw (fun _ _ h=>h) pq⟩ (.undef _)
 rcases p7 p9 (lf.lift (some L)) hv' es.length es gD.toList 0 jS (bD _) fX lH with ⟨f1,f2⟩ | ⟨j,en,f1,f2,f3,f4⟩
 {refine fin (gD.push {key:=a.eval k,val:=a.eval v,born:=clock}) (clock+1) (by simpa using f2 clock) ?_;simp[Instr.mapUpdate,run_underlying hu,kJ,hg,PU (kk:=.i64) p9 lf hd,MapKept.run_findKey hd f1,tM hb]}
 ·refine fin (gD.modify j fun e=>{e with key:=a.eval k,val:=a.eval v}) clock (by simpa using f4) ?_;rw[bX] at f1;have hj:gD[j]?=some en:=by simpa using f2
  simp[Instr.mapUpdate,run_underlying hu,kJ,hg,PU (kk:=.i64) p9 lf hd,MapKept.run_findKey hd f1,tM hb,hj,f3,p8 p9 lf]
theorem Wo (hs:SR lp I L V a.tmps.toList fE w) (hf:Fr cx w0 I0 F0 O0 Hd R e ds I F L w) {t:eY} {x k v:eV} (ho:o.op=.insert t x k v\/o.op=.mapUpdate t x k v) (hu:cx.P.underlying t=some (.map kt et)) {r3:RX}
  (U:rx cx.G x=some r1) (O:rx cx.G k=some r2) (h3:rx cx.G v=some r3)
  (h:exec (o.dst.getD 0) (Aa V.fA) V.tmps (.insert (Da cx.P kt) r1 r2 r3)=some out):Bb cx w0 I0 F0 O0 Hd R e ds F lp fE o a w (apply V o.dst out):=by
 have H:=A9 hs hf.wd U;have hk:=A9 hs hf.wd O;have hv:=A9 hs hf.wd h3;simp only[exec] at h;split at h
 case h_2=>cases h
 rename_i J hr;rw[hr] at H;split at h
 case h_2=>cases h
 rename_i es gK;split at h
 case h_2=>cases h
 rename_i jS lH;obtain⟨hc,h⟩:=AK h;cases h;simp only[bz] at hc;obtain⟨⟨c1,c2⟩,c3⟩:=hc;have l9:Aj w I lp none (r2.ev V.tmps) (a.eval k):=by obtain⟨d,hd,p9⟩:=Ot c1;exact hk.shut (HJ.names (d:=d) p9)
 generalize hSd:(if Q0 (r3.ev V.tmps)=true then [] else (r3.ev V.tmps).names)=S at lH c2 c3;cases hS:S.isEmpty with
 | true =>
  rw[hS] at lH;simp only[eF] at lH;have:=UP hs hf ho hu H gK l9 hv c1 lH;simpa[hSd,hS] using this
 | false =>
  rw[hS] at lH c3 c2;simp only[bL,eE,dC,bz,cK] at lH c3 c2;have hSn:S=(r3.ev V.tmps).names:=by rw[<-hSd];split;{rename_i hb;rw[eH hb] at hSd;rw[<-hSd] at hS;simp at hS};{rfl}
  obtain⟨hR,hn,hesn⟩:=c3;have hesn:Al es=[]:=bZ.1 hesn;generalize mg:AA (Aa V.fA) Ax S=Rn at hR hn;have hn:J ∉ Rn:=by intro h;rw[cy.2 h] at hn;cases hn
  have py:=Oj hs hR (.cons _ _ _ _ hv .nil) (fun m hm=>by rw[<-mg,hSn];exact C9 _ _ m (by simpa[Al] using hm))
  have kD:Aj w (Cs I L Rn) lp none ((r3.ev V.tmps).sub (A3 (Aa V.fA))) (a.eval v):=by
   cases py with
   | cons _ _ _ _ h _=>exact h
  have hx2:Aj w (Cs I L Rn) lp (some (DV L Rn)) (.mp J) (a.eval x):=by obtain⟨b,C,hL,kJ⟩:=PW H;rw[kJ];exact .mp J b C (by simp[DV,hn,hL])
  have ka:Aj w (Cs I L Rn) lp none (r2.ev V.tmps) (a.eval k):=Aj.mono (fun _ hb=>.inl hb) (fun _ _=>rfl) (fun _ _ h=>h) l9;have hkn:(r2.ev V.tmps).names=[]:=by obtain⟨d,hd,p9⟩:=Ot c1;exact HJ.names (d:=d) p9
  have hesn2:Al jS=[]:=ak _ es (bD _) lH hkn (RL _) hesn;have:=UP (hs.freeze hR) (hf.freeze Rn) ho hu hx2 (ZL hn V hesn gK) ka (kD.lift _) c1 lH
  have gj:Rn≠[]:=by
   intro e0;cases hm:S with
   | nil=>rw[hm] at hS;simp at hS
   | cons m ms =>
    have jq:m∈Rn:=by rw[<-mg];exact C9 Ax _ m (by rw[hm];exact bN)
    rw[e0] at jq;cases jq
  have e1:apply V o.dst {v:=.undef,gA:=some (J,.map jS),gv:=Rn}=apply (BN (Aa V.fA) Rn V) o.dst {v:=.undef,gA:=some (J,.map jS)}:=by
   have hfp:=aX (σ:=Aa V.fA) hn V jS hesn2;cases Rn with
   | nil=>exact eQ rfl gj
   | cons r rs =>
    simp only[apply,List.isEmpty_cons,bL,eE,dg,eF];rw[hfp]
  simp only[hSd,hS,bL,eE,mg];rw[e1];exact this
theorem qa (hs:SR lp I L V a.tmps.toList fE w) (hf:Fr cx w0 I0 F0 O0 Hd R e ds I F L w) {t:eY} {x k:eV} {ok:Bool} (ho:o.op=.lookup t x k ok) (hu:cx.P.underlying t=some (.map kt et)) (hz:Fd cx.P et=some z) 
  (U:rx cx.G x=some r1) (O:rx cx.G k=some r2)
  (h:exec (o.dst.getD 0) (Aa V.fA) V.tmps (.lookup (Da cx.P kt) z ok r1 r2)=some out):Bb cx w0 I0 F0 O0 Hd R e ds F lp fE o a w (apply V o.dst out):=by
 have H:=A9 hs hf.wd U;have hk:=A9 hs hf.wd O;obtain⟨zi,zv,hzi,pS,pV⟩:=Ou hz (w:=w) (I:=I) (lp:=lp) (L:=some L);simp only[exec] at h;split at h;·cases h
 rename_i es lH;split at h;·cases h
 rename_i r hr;obtain⟨hc,h⟩:=AK h;cases h;obtain⟨d,hd,p9⟩:=Ot hc;have lf:=hk.shut (HJ.names (d:=d) p9);have nZ:(zeroValue et).run cx.P w=.ok zv w:=by simp[zeroValue,typeInfo,hzi,pS]
 obtain⟨gD,hents,fX⟩:∃ gD:Array MapEntry,((∃ r clock,a.eval x=.map (some r)/\w.heap[r]?=some (.map gD clock))\/(a.eval x=.map none/\gD=#[]))/\Ae w I lp (some L) es (EY gD.toList):=by
  split at lH
  ·rename_i J hrx;rw[hrx] at H;split at lH
   case h_2=>cases lH
   rename_i es0 gK;cases lH;obtain⟨b,C,hL,kJ⟩:=PW H;obtain⟨p,hp,ha⟩:=hs.ob J _ gK;rw[hL] at hp;cases hp;obtain⟨gD,clock,hb,fX⟩:=ha;exact⟨gD,.inl ⟨b,clock,kJ,hb⟩,fX⟩
  {rename_i es0 hrx;rw[hrx] at H;cases lH;obtain⟨r,gD,clock,kJ,_,hb,fX⟩:=Xz H;exact⟨gD,.inl ⟨r,clock,kJ,hb⟩,fX.lift _⟩};{rename_i hrx;rw[hrx] at H;cases lH;exact⟨#[],.inr ⟨Xy H,rfl⟩,.nil⟩};{cases lH}
 obtain⟨v,b,hfind,nQ,oM⟩:∃ v b,(∃ ans,Instr.findNow d (a.eval k) gD.toList 0=some ans/\((ans=none/\v=zv/\b=false)\/∃ j,ans=some (j,v)/\b=true))/\Aj w I lp (some L) (r.getD z) v/\r.isSome=b:=by
  rcases ba p9 lf es.length es gD.toList 0 r (bD _) fX hr with ⟨q1,q2⟩ | ⟨j,v,x,q1,q2,q3⟩
  {subst q1;exact⟨zv,false,⟨_,q2,.inl ⟨rfl,rfl,rfl⟩⟩,pV,rfl⟩};{subst q1;exact⟨v,true,⟨_,q3,.inr ⟨j,rfl,rfl⟩⟩,q2,rfl⟩}
 refine Bi hs hf (v':=if ok then .tuple #[v,.bool b] else v) ?_ (.refl w) ?_
 ·obtain⟨ans,f1,f2⟩:=hfind;rcases hents with ⟨rb,clock,kJ,hb⟩ | ⟨kJ,rfl⟩
  ·have hg:(getObj rb).run cx.P w=.ok (.map gD clock) w:=by simp[getObj,Sem.run,hb]
   rcases f2 with ⟨rfl,rfl,rfl⟩ | ⟨j,rfl,rfl⟩<;>cases ok <;>
    simp[execOp,ho,Instr.lookup,run_underlying hu,kJ,hg,PU (kk:=.i64) p9 lf hd,MapKept.run_findKey hd f1,nZ]
  ·rcases f2 with ⟨rfl,rfl,rfl⟩ | ⟨j,rfl,rfl⟩<;>cases ok <;>
    simp[execOp,ho,Instr.lookup,run_underlying hu,kJ,PU (kk:=.i64) p9 lf hd,MapKept.run_findKey hd (l:=[]) f1,nZ]
 {cases ok;{simpa using nQ};{simp only[eF];exact .fM _ _ (.cons _ _ _ _ nQ (.cons _ _ _ _ (by rw[oM];exact .bool b) .nil))}}
theorem op_iter (hs:SR lp I L V a.tmps.toList fE w) (hf:Fr cx w0 I0 F0 O0 Hd R e ds I F L w) {t:eY} {x:eV} (ho:o.op=.range t x) (hu:cx.P.underlying t=some .string) {r:RX} (U:rx cx.G x=some r) {d:Nat} (hd:o.dst=some d) (iG:V.fA[d]?=some [])
  (h:exec (o.dst.getD 0) (Aa V.fA) V.tmps (.iter r)=some out):Bb cx w0 I0 F0 O0 Hd R e ds F lp fE o a w (apply V o.dst out):=by
 have H:=A9 hs hf.wd U;simp only[exec,hd,b7] at h;split at h
 case h_2=>cases h
 rename_i s hr;rw[hr] at H;cases h
 have:=Pk hs hf hd iG (.refl w) (C:=0) (v:=.it (d,0)) (ob:=.fW s 0) (v':=.pointer (some ⟨w.heap.size,0,none⟩)) (obj:=.stringIter ⟨s.toArray⟩ 0) (by
  simp[execOp,ho,Instr.range,run_underlying hu,B4 H]) (fun L' _=>Iv w _) (fun L' hL=>.it _ _ _ hL)
 simpa[hd] using this
theorem op_next (hs:SR lp I L V a.tmps.toList fE w) (hf:Fr cx w0 I0 F0 O0 Hd R e ds I F L w) {x:eV} (ho:o.op=.next x true) {r:RX} (U:rx cx.G x=some r)
  (h:exec (o.dst.getD 0) (Aa V.fA) V.tmps (.next r)=some out):Bb cx w0 I0 F0 O0 Hd R e ds F lp fE o a w (apply V o.dst out):=by
 have H:=A9 hs hf.wd U;simp only[exec] at h;split at h
 case h_2=>cases h
 rename_i J hr;rw[hr] at H;split at h
 case h_2=>cases h
 rename_i s pos gK;obtain⟨b,C,hL,kJ⟩:=inv_it H;obtain⟨p,hp,ha⟩:=hs.ob J _ gK;rw[hL] at hp;cases hp;have hb:w.heap[b]?=some (.stringIter ⟨s.toArray⟩ pos):=ha;have hg:(getObj b).run cx.P w=.ok (.stringIter ⟨s.toArray⟩ pos) w:=by simp[getObj,Sem.run,hb]
 have hz:(⟨s.toArray⟩:ByteArray).size=s.length:=by simp[ByteArray.size]
 split at h
 ·rename_i gI;cases h;have nn:∀ ky,(setObj b ky).run cx.P w=.ok () {w with heap:=w.heap.setIfInBounds b ky}:=fun ky=>by simp[setObj,Sem.run,hb]
  obtain⟨q1,q2⟩:=MapKept.heap_set (o':=.stringIter ⟨s.toArray⟩ (pos+(Utf8.decode ⟨s.toArray⟩ pos).2)) hb
  refine MZ hs hf hL (v':=.tuple #[.bool true,.int .i64 pos,.int .i32 (Utf8.decode ⟨s.toArray⟩ pos).1]) (w':={w with heap:=w.heap.setIfInBounds b (.stringIter ⟨s.toArray⟩ (pos+(Utf8.decode ⟨s.toArray⟩ pos).2))})
   (.inl ?_) rfl rfl rfl (by simp) q2 q1 (.fM _ _ (.cons _ _ _ _ (.bool _) (.cons _ _ _ _ (.int _ _) (.cons _ _ _ _ (.int _ _) .nil))))
  have hlt':pos < (⟨s.toArray⟩:ByteArray).size:=by rw[hz];exact gI
  simp only[execOp,ho,kJ,Instr.next,Sem.run_bind,hg,Result.andThen_ok,eH hlt',nn,Sem.run_pure,goInt]
 ·rename_i gI;cases h;have hlt':¬ pos < (⟨s.toArray⟩:ByteArray).size:=by rw[hz];exact gI
  refine Bi hs hf (v':=.tuple #[.bool false]) ?_ (.refl w) (.fM _ _ (.cons _ _ _ _ (.bool _) .nil));simp only[execOp,ho,kJ,Instr.next,Sem.run_bind,hg,Result.andThen_ok,eG hlt',Sem.run_pure]
theorem ax (hs:SR lp I L V a.tmps.toList fE w) (hf:Fr cx w0 I0 F0 O0 Hd R e ds I F L w) {x:eV} {t0 t:eY} {ok:Bool} (ho:o.op=.typeAssert x t0 t ok) {d:e9} (hu:cx.P.underlying t=some d) (hd:∀ ms,d≠.interface ms) (hz:Fd cx.P t=some z)
  {r:RX} (U:rx cx.G x=some r) (h:exec (o.dst.getD 0) (Aa V.fA) V.tmps (.gZ t z ok r)=some out):Bb cx w0 I0 F0 O0 Hd R e ds F lp fE o a w (apply V o.dst out):=by
 have H:=A9 hs hf.wd U;obtain⟨zi,zv,hzi,pS,pV⟩:=Ou hz (w:=w) (I:=I) (lp:=lp) (L:=some L);have nZ:(zeroValue t).run cx.P w=.ok zv w:=by simp[zeroValue,typeInfo,hzi,pS]
 simp only[exec] at h;split at h
 ·rename_i u y hr;rw[hr] at H;obtain⟨yv,kJ,hy⟩:=IH H;split at h
  ·rename_i hut;subst hut;cases h;refine Bi hs hf (v':=if ok then .tuple #[yv,.bool true] else yv) ?_ (.refl w) ?_
   ·cases d<;>first
     | exact eQ rfl (hd _)
     |(cases ok<;>simp[execOp,ho,kJ,Instr.typeAssert,run_underlying hu])
   {cases ok;{simpa using hy};{exact .fM _ _ (.cons _ _ _ _ hy (.cons _ _ _ _ (.bool _) .nil))}}
  ·rename_i hut;obtain⟨hk,h⟩:=AK h;subst hk;cases h;refine Bi hs hf (v':=.tuple #[zv,.bool false]) ?_ (.refl w) (.fM _ _ (.cons _ _ _ _ pV (.cons _ _ _ _ (.bool _) .nil)))
   cases d<;>first
    | exact eQ rfl (hd _)
    | simp[execOp,ho,kJ,Instr.typeAssert,run_underlying hu,hut,nZ]
 ·rename_i hr;rw[hr] at H;have kJ:=Hn H;obtain⟨hk,h⟩:=AK h;subst hk;cases h;refine Bi hs hf (v':=.tuple #[zv,.bool false]) ?_ (.refl w) (.fM _ _ (.cons _ _ _ _ pV (.cons _ _ _ _ (.bool _) .nil)))
  cases d<;>first
   | exact eQ rfl (hd _)
   | simp[execOp,ho,kJ,Instr.typeAssert,run_underlying hu,nZ]
 {cases h}
end ops
end Go.Ab


namespace Go.Ab
variable{b kc:Bool} {fl:eY} {i:Nat} {k:eW} {op:BinOp} {v:eT} {w':eS} {x:eV}
theorem Z7:∀ (x y:fp),JX x y=Op.bytesLess x y:=by
 intro x;induction x with
 | nil=>intro y;cases y<;>rfl
 | cons a x ih=>intro y;cases y with
  | nil=>rfl
  | cons b y=>simp only[JX,Op.bytesLess,ih]
theorem ZW (P:eX) (t:eY):match Da P t with
  | .num=>∃ k,P.underlying t=some (.int k)
  | .str=>P.underlying t=some .string
  | .bool=>P.underlying t=some .bool
  | .iface=>∃ ms,P.underlying t=some (.interface ms)
  | .slice=>∃ e,P.underlying t=some (.slice e)
  | .map=>∃ k e,P.underlying t=some (.map k e)
  | .func=>∃ a b c,P.underlying t=some (.func a b c)
  | .ptr=>∃ e,P.underlying t=some (.pointer e)
  | .plain l=>∃ fs,P.underlying t=some (.struct fs)/\JY P 0 fs.toList=some l/\P.stoodInHeld t=false/\P.eqGuardType P.depth t=false
  | .other=>True:=by
 cases hu:P.underlying t with
 | none=>simp[Da,hu]
 | some d =>
  cases d with
  | struct fs =>
   simp only[Da,hu];cases hp:JY P 0 fs.toList with
   | none=>trivial
   | some l =>
    simp only
    by_cases hc:P.stoodInHeld t=false/\P.eqGuardType P.depth t=false;{rw[eH hc];exact⟨fs,rfl,hp,hc.1,hc.2⟩};{rw[eG hc];trivial}
  | _=>simp[Da,hu]
section eqs
variable {P:eX} {w:eS} (d:Nat) {t:eY}
theorem eqIn_ii {ms} (hu:P.underlying t=some (.interface ms)):(Op.equalIn (d+1) t .nilIface .nilIface).run P w=.ok true w:=by simp[Op.equalIn,run_underlying hu]
theorem YD {ms} (hu:P.underlying t=some (.interface ms)) (u:eY) (v:eT):(Op.equalIn (d+1) t .nilIface (.iface u v)).run P w=.ok false w:=by simp[Op.equalIn,run_underlying hu]
theorem YA {ms} (hu:P.underlying t=some (.interface ms)) (u:eY) (v:eT):(Op.equalIn (d+1) t (.iface u v) .nilIface).run P w=.ok false w:=by simp[Op.equalIn,run_underlying hu]
theorem eqIn_ff {x y z} (hu:P.underlying t=some (.func x y z)):(Op.equalIn (d+1) t .nilFunc .nilFunc).run P w=.ok true w:=by simp[Op.equalIn,run_underlying hu]
theorem eqIn_fv {x y z} (hu:P.underlying t=some (.func x y z)) (f:Fn) (u v:Array eT):(Op.equalIn (d+1) t .nilFunc (.func f u v)).run P w=.ok false w:=by simp[Op.equalIn,run_underlying hu]
theorem eqIn_vf {x y z} (hu:P.underlying t=some (.func x y z)) (f:Fn) (u v:Array eT):(Op.equalIn (d+1) t (.func f u v) .nilFunc).run P w=.ok false w:=by simp[Op.equalIn,run_underlying hu]
theorem YC {e} (hu:P.underlying t=some (.slice e)) (b:Option Addr) (n c:Nat):(Op.equalIn (d+1) t (.slice none 0 0) (.slice b n c)).run P w=.ok b.isNone w:=by simp[Op.equalIn,run_underlying hu]
theorem eqIn_sn {e} (hu:P.underlying t=some (.slice e)) (b:Addr) (n c:Nat):(Op.equalIn (d+1) t (.slice (some b) n c) (.slice none 0 0)).run P w=.ok false w:=by simp[Op.equalIn,run_underlying hu]
theorem TB {e} (hu:P.underlying t=some (.pointer e)) (b:Option Addr):(Op.equalIn (d+1) t (.pointer none) (.pointer b)).run P w=.ok b.isNone w:=by simp[Op.equalIn,run_underlying hu]
theorem YB {e} (hu:P.underlying t=some (.pointer e)) (b:Addr):(Op.equalIn (d+1) t (.pointer (some b)) (.pointer none)).run P w=.ok false w:=by simp[Op.equalIn,run_underlying hu]
theorem YE (hu:P.underlying t=some .bool) (a b:Bool):(Op.equalIn (d+1) t (.bool a) (.bool b)).run P w=.ok (a==b) w:=by simp[Op.equalIn,run_underlying hu]
end eqs
theorem Xl {P:eX} {w:eS} {t:eY} (ha:(isAgg t).run P w=.ok false w) {Z:Array eT} (h:Z[i]?=some v):(part t Z i).run P w=.ok v w:=by unfold part;simp[ha,h]
theorem WF {P:eX} {w:eS} {t:eY} {d:e9} (hu:P.underlying t=some d) (hd:Kv d=false):(isAgg t).run P w=.ok false w:=by cases d<;>simp[Kv] at hd<;>simp[isAgg,run_underlying hu]
theorem Zk {P:eX} {w:eS} {I:Nat->Prop} {lp:Nat->fb} {L:fm} {xv yv:Array eT} (d:Nat):∀ (fs:List Field) (i:Nat) (l:fc) (Z ys:fa) (b:Bool),JY P i fs=some l->H1 l Z ys=some b ->
  Ae w I lp L Z (xv.toList.drop i)->Ae w I lp L ys (yv.toList.drop i)->(Op.eqFields (d+1) xv yv fs).run P w'=.ok b w':=by
 intro fs;induction fs with
 | nil =>
  intro i l Z ys b hp he _ _;cases hp;cases Z<;>cases ys<;>simp[H1] at he;subst he;simp[Op.eqFields]
 | cons f fs ih =>
  intro i l Z ys b hp he H hy;unfold JY at hp;split at hp
  case isFalse=>cases hp
  rename_i hf;obtain⟨jL,np⟩:=hf
  have tP:∀ {zs:fa} {zv:Array eT} {z:PV} {zs':fa},zs=z :: zs'->Ae w I lp L zs (zv.toList.drop i)->∃ v,zv[i]?=some v/\Aj w I lp L z v/\Ae w I lp L zs' (zv.toList.drop (i+1)):=by
   intro zs zv z zs' hz hr;subst hz;cases hd:zv.toList.drop i with
   | nil=>rw[hd] at hr;cases hr
   | cons v A =>
    rw[hd] at hr;cases hr with
    | cons _ _ _ _ U O =>
     have e1:zv.toList[i]?=some v:=by have:=eM (·[0]?) hd;simpa using this
     refine⟨v,by simpa using e1,U,?_⟩;have e2:zv.toList.drop (i+1)=A:=by have:=eM (List.drop 1) hd;simpa using this
     rw[e2];exact O
  have hnm':f.name ≠ "_":=np
  have step:∀ {v u:eT} {r:Bool} {dsc:e9},P.underlying f.type=some dsc->Kv dsc=false->xv[i]?=some v->yv[i]?=some u->(Op.equalIn (d+1) f.type v u).run P w'=.ok r w' ->
    (Op.eqFields (d+1) xv yv (f :: fs)).run P w'=if r=true then (Op.eqFields (d+1) xv yv fs).run P w' else .ok false w':=by
   intro v u r dsc hu hd U O h3;simp only[Op.eqFields,hnm',ne_eq,eP,eF,Sem.run_bind,jL,Xl (WF hu hd) U,Xl (WF hu hd) O,h3,Result.andThen_ok];cases r<;>simp
  cases hu:P.underlying f.type with
  | none=>simp[hu] at hp
  | some dsc =>
   cases hq:JY P (i+1) fs with
   | none=>cases dsc<;>simp[hu,hq] at hp
   | some l' =>
    cases dsc<;>simp[hu,hq] at hp
    all_goals subst hp
    all_goals cases Z with
     | nil=>simp[H1] at he
     | cons x Z=>?_
    all_goals cases ys with
     | nil=>cases x<;>simp[H1] at he
     | cons y ys=>?_
    all_goals cases x<;>cases y<;>simp only[H1,reduceCtorEq] at he
    all_goals obtain⟨v,hv,hvr,kb⟩:=tP rfl H
    all_goals obtain⟨u,iS,hur,qb⟩:=tP rfl hy
    {rw[Er hvr] at hv;rw[Er hur] at iS;rw[step hu rfl hv iS (YE d hu _ _)];split at he;{rename_i nq;rw[eH nq];exact ih _ _ _ _ _ hq he kb qb};{rename_i nq;cases he;rw[eG (by rw[nq];simp)]}};{obtain⟨hk,px⟩:=AK he;clear he;rw[B5 hvr] at hv;rw[B5 hur] at iS;have lf:=eq_of_beq hk;subst lf;rw[step hu rfl hv iS (run_equalIn_int w' d _ _ _ _ _ hu)];split at px;{rename_i nq;rw[eH nq];exact ih _ _ _ _ _ hq px kb qb};{rename_i nq;cases px;rw[eG (by rw[nq];simp)]}};{rw[B4 hvr] at hv;rw[B4 hur] at iS;rw[step hu rfl hv iS (run_equalIn_string w' d _ _ _ hu)];simp only[ByteArray.toList_eq] at he |-;split at he;{rename_i nq;rw[eH (by simpa using nq)];exact ih _ _ _ _ _ hq he kb qb};{rename_i nq;cases he;rw[eG (by simpa using nq)]}}
section ops
variable {E:Type} {cx:Cx} {w0:eS} {I0 F0:Nat->Prop} {O0:Bu} {Hd:Nat->Option Obj} {R:Bl E} {e:E} {ds:List eZ} {F:Nat->Prop} {lp:Nat->fb} {fE:List eT}
variable {I:Nat->Prop} {L:Am} {V:St} {a:Act} {w:eS} {o:Oper} {out:Ai} {mF:Ak}
theorem Yr (h:isC x=true):∃ v,x=.const v:=by cases x<;>simp[isC] at h;exact⟨_,rfl⟩
theorem Yz {P:eX} {w:eS} {I:Nat->Prop} {lp:Nat->fb} {L:Am} {t:eY} {X Y:eV} {x y:PV} {xv yv:eT} (H:Aj w I lp (some L) x xv) (hy:Aj w I lp (some L) y yv) 
  (hc:kc=true->(isC X||isC Y)=true) (h:Jr (Da P t) kc x y=some b) (op:BinOp) :
  (Op.equal t xv yv).run P w'=.ok b w'/\(eqGuard op t X Y xv yv).run P w'=.ok () w'/\binOp .eql t xv yv=(do pure (.bool (<-Op.equal t xv yv)))/\binOp .neq t xv yv=(do pure (.bool (!(<-Op.equal t xv yv)))):=by
 have hu:=ZW P t;generalize iG:Da P t=c at h hu;unfold Jr at h;split at h
 all_goals first
  | contradiction
  | skip
 ·obtain⟨ms,hu⟩:=hu;obtain⟨iZ,h⟩:=AK h;cases h;rw[Hn H,Hn hy];refine⟨?_,?_,by simp[binOp],by simp[binOp]⟩;{exact eqIn_ii 9999 hu}
  ·rcases dh.1 (hc iZ) with h | h
   {obtain⟨v,rfl⟩:=Yr h;rw[eqGuard_nil_constL];rfl};{obtain⟨v,rfl⟩:=Yr h;rw[eqGuard_nil_constR];rfl}
 {obtain⟨ms,hu⟩:=hu;cases h;obtain⟨yv',rfl,_⟩:=IH hy;rw[Hn H];refine⟨?_,by rw[eqGuard_nil_iface];rfl,by simp[binOp],by simp[binOp]⟩;exact YD 9999 hu _ _};{obtain⟨ms,hu⟩:=hu;cases h;obtain⟨xv',rfl,_⟩:=IH H;rw[Hn hy];refine⟨?_,by rw[eqGuard_at_iface];rfl,by simp[binOp],by simp[binOp]⟩;exact YA 9999 hu _ _};{obtain⟨ms,hu⟩:=hu;cases h;obtain⟨yv',rfl,_⟩:=XA hy;rw[Hn H];refine⟨?_,by rw[eqGuard_nil_iface];rfl,by simp[binOp],by simp[binOp]⟩;exact YD 9999 hu _ _};{obtain⟨ms,hu⟩:=hu;cases h;obtain⟨xv',rfl,_⟩:=XA H;rw[Hn hy];refine⟨?_,by rw[eqGuard_at_iface];rfl,by simp[binOp],by simp[binOp]⟩;exact YA 9999 hu _ _};{obtain⟨_,_,_,hu⟩:=hu;cases h;rw[Pe H,Pe hy];refine⟨?_,by rw[eqGuard_at_nilFunc];rfl,by simp[binOp],by simp[binOp]⟩;exact eqIn_ff 9999 hu};{obtain⟨_,_,_,hu⟩:=hu;cases h;obtain⟨us,A,rfl,_,_⟩:=Jc hy;rw[Pe H];refine⟨?_,by rw[eqGuard_at_nilFunc];rfl,by simp[binOp],by simp[binOp]⟩;exact eqIn_fv 9999 hu _ _ _};{obtain⟨_,_,_,hu⟩:=hu;cases h;obtain⟨us,A,rfl,_,_⟩:=Jc H;rw[Pe hy];refine⟨?_,by rw[eqGuard_at_func];rfl,by simp[binOp],by simp[binOp]⟩;exact eqIn_vf 9999 hu _ _ _};{obtain⟨_,hu⟩:=hu;cases h;rw[Fb H,Fb hy];refine⟨?_,by rw[eqGuard_at_slice];rfl,by simp[binOp],by simp[binOp]⟩;exact YC 9999 hu _ _ _}
 ·obtain⟨_,hu⟩:=hu;cases h;rw[Fb H];rcases Hy hy with ⟨b,off,cap,c,E',fr,rfl,_⟩ | ⟨hn,_⟩
  {refine⟨?_,by rw[eqGuard_at_slice];rfl,by simp[binOp],by simp[binOp]⟩;exact YC 9999 hu _ _ _};{simp at hn}
 ·obtain⟨_,hu⟩:=hu;cases h;rw[Fb hy];rcases Hy H with ⟨b,off,cap,c,E',fr,rfl,_⟩ | ⟨hn,_⟩
  {refine⟨?_,by rw[eqGuard_at_slice];rfl,by simp[binOp],by simp[binOp]⟩;exact eqIn_sn 9999 hu _ _ _};{simp at hn}
 {obtain⟨_,hu⟩:=hu;cases h;rw[JV H,JV hy];refine⟨?_,by rw[eqGuard_at_pointer];rfl,by simp[binOp],by simp[binOp]⟩;exact TB 9999 hu _};{obtain⟨_,hu⟩:=hu;cases h;obtain⟨b,C,hL,rfl⟩:=EK hy;rw[JV H];refine⟨?_,by rw[eqGuard_at_pointer];rfl,by simp[binOp],by simp[binOp]⟩;exact TB 9999 hu _};{obtain⟨_,hu⟩:=hu;cases h;obtain⟨b,nU,c,E',fr,rfl,_⟩:=K6 hy;rw[JV H];refine⟨?_,by rw[eqGuard_at_pointer];rfl,by simp[binOp],by simp[binOp]⟩;exact TB 9999 hu _};{obtain⟨_,hu⟩:=hu;cases h;obtain⟨b,C,hL,rfl⟩:=EK H;rw[JV hy];refine⟨?_,by rw[eqGuard_at_pointer];rfl,by simp[binOp],by simp[binOp]⟩;exact YB 9999 hu _};{obtain⟨_,hu⟩:=hu;cases h;obtain⟨b,nU,c,E',fr,rfl,_⟩:=K6 H;rw[JV hy];refine⟨?_,by rw[eqGuard_at_pointer];rfl,by simp[binOp],by simp[binOp]⟩;exact YB 9999 hu _};{cases h;rw[Er H,Er hy];refine⟨?_,by rw[eqGuard_at_bool];rfl,by simp[binOp],by simp[binOp]⟩;exact YE 9999 hu _ _}
 ·obtain⟨fs,hu,hp,hH,hgt⟩:=hu;obtain⟨us,rfl,_,tQ⟩:=K7 H;obtain⟨A,rfl,_,hyr⟩:=K7 hy;refine⟨?_,run_eqGuard_agg w' op t X Y us A hgt,by simp[binOp],by simp[binOp]⟩;have hfs:P.fieldsOf t=fs:=by simp[Program.fieldsOf,hu]
  show (Op.equalIn (9999+1) t (.agg us) (.agg A)).run P w'=_;rw[run_equalIn_struct w' 9999 t us A (by rw[hfs];exact hu) hH,hfs];exact Zk 9998 fs.toList 0 _ _ _ b hp h (by simpa using tQ) (by simpa using hyr)
theorem bt {P:eX} {w:eS} {x y:Int} {t:eY} {v:PV} (kA:op≠.shl/\op≠.shr) (h:Ff op k x y=some v) :
  ∃ u,(binOp op t (.int k x) (.int k y)).run P w=.ok u w/\∀ (w:eS) (I:Nat->Prop) (lp:Nat->fb) (L:fm),Aj w I lp L v u:=by
 have ari:∀ op,(op=.add\/op=.sub\/op=.mul)->binOp op t (.int k x) (.int k y)=Op.intArith op k x y:=by rintro op (rfl | rfl | rfl)<;>simp[binOp]
 have bits:∀ op,(op=.and\/op=.or\/op=.xor\/op=.andNot)->binOp op t (.int k x) (.int k y)=Op.intBits op k x y:=by rintro op (rfl | rfl | rfl | rfl)<;>simp[binOp]
 have cmp:∀ op,(op=.eql\/op=.neq\/op=.lss\/op=.leq\/op=.gtr\/op=.geq)->binOp op t (.int k x) (.int k y)=Op.intCmp op x y:=by rintro op (rfl | rfl | rfl | rfl | rfl | rfl)<;>simp[binOp]
 cases op<;>simp only[Ff,Jh,bG,cS] at h
 case quo =>
  obtain⟨hk,h⟩:=AK h;cases h;have:¬ y=0:=by simpa using hk
  exact⟨_,by simp[binOp,Op.intDiv,this],fun _ _ _ _=>.int _ _⟩
 case rem =>
  obtain⟨hk,h⟩:=AK h;cases h;have:¬ y=0:=by simpa using hk
  exact⟨_,by simp[binOp,Op.intDiv,this],fun _ _ _ _=>.int _ _⟩
 case shl=>exact eQ rfl kA.1
 case shr=>exact eQ rfl kA.2
 case add=>cases h;rw[ari _ (by simp)];exact⟨_,rfl,fun _ _ _ _=>.int _ _⟩
 case sub=>cases h;rw[ari _ (by simp)];exact⟨_,rfl,fun _ _ _ _=>.int _ _⟩
 case mul=>cases h;rw[ari _ (by simp)];exact⟨_,rfl,fun _ _ _ _=>.int _ _⟩
 case and=>cases h;rw[bits _ (by simp)];exact⟨_,rfl,fun _ _ _ _=>.int _ _⟩
 case or=>cases h;rw[bits _ (by simp)];exact⟨_,rfl,fun _ _ _ _=>.int _ _⟩
 case xor=>cases h;rw[bits _ (by simp)];exact⟨_,rfl,fun _ _ _ _=>.int _ _⟩
 case andNot=>cases h;rw[bits _ (by simp)];exact⟨_,rfl,fun _ _ _ _=>.int _ _⟩
 case eql=>cases h;rw[cmp _ (by simp)];exact⟨_,rfl,fun _ _ _ _=>.bool _⟩
 case neq=>cases h;rw[cmp _ (by simp)];exact⟨_,rfl,fun _ _ _ _=>.bool _⟩
 case lss=>cases h;rw[cmp _ (by simp)];exact⟨_,rfl,fun _ _ _ _=>.bool _⟩
 case leq=>cases h;rw[cmp _ (by simp)];exact⟨_,rfl,fun _ _ _ _=>.bool _⟩
 case gtr=>cases h;rw[cmp _ (by simp)];exact⟨_,rfl,fun _ _ _ _=>.bool _⟩
 case geq=>cases h;rw[cmp _ (by simp)];exact⟨_,rfl,fun _ _ _ _=>.bool _⟩
theorem br {P:eX} {w:eS} {x y:fp} {t:eY} {v:PV} (h:Jj op x y=some v) :
  ∃ u,(binOp op t (.string ⟨x.toArray⟩) (.string ⟨y.toArray⟩)).run P w=.ok u w/\∀ (w:eS) (I:Nat->Prop) (lp:Nat->fb) (L:fm),Aj w I lp L v u:=by
 have hb:∀ op,binOp op t (.string ⟨x.toArray⟩) (.string ⟨y.toArray⟩)=Op.stringOp op ⟨x.toArray⟩ ⟨y.toArray⟩:=fun op=>by cases op<;>simp[binOp]
 rw[hb];cases op<;>simp only[Jj] at h
 case add =>
  obtain⟨hk,h⟩:=AK h;cases h;have hk:=eR hk;unfold J4 at hk;refine⟨.string ⟨(x++y).toArray⟩,?_,fun _ _ _ _=>.str _⟩;rw[run_string_add_sum (P:=P) (w:=w) ⟨x.toArray⟩ ⟨y.toArray⟩ (by simpa[ByteArray.size] using hk),ByteArray.mk_append_mk]
 all_goals first
  |(cases h;exact⟨_,by simp only[Op.stringOp,ByteArray.toList_mk,Z7];rfl,fun _ _ _ _=>.bool _⟩)
  |(simp at h)
theorem op_bin (hs:SR lp I L V a.tmps.toList fE w) (hf:Fr cx w0 I0 F0 O0 Hd R e ds I F L w) {t:eY} {x y:eV} (ho:o.op=.binOp op t x y fl) {r1 r2:RX} (U:rx cx.G x=some r1) (O:rx cx.G y=some r2)
  (h:exec (o.dst.getD 0) (Aa V.fA) V.tmps (.bin op (Da cx.P t) (isC x||isC y) r1 r2)=some out):Bb cx w0 I0 F0 O0 Hd R e ds F lp fE o a w (apply V o.dst out):=by
 have H:=A9 hs hf.wd U;have hy:=A9 hs hf.wd O;simp only[exec] at h;obtain⟨v,hv,rfl⟩:=bB.1 h
 suffices hsuf:∃ u,(do eqGuard op t x y (a.eval x) (a.eval y);binOp op t (a.eval x) (a.eval y):Sem eT).run cx.P w=.ok u w/\Aj w I lp (some L) v u by
  obtain⟨u,g1,g2⟩:=hsuf;refine Bi hs hf (v':=u) ?_ (.refl w) g2;simp only[execOp,ho];rw[Sem.run_bind,g1];rfl
 unfold Dw at hv;split at hv;{rename_i k n k' m sI l6;rw[sI] at H;rw[l6] at hy;rw[B5 H,B5 hy,eqGuard_at_int];split at hv;{obtain⟨hk,kD⟩:=AK hv;cases kD;have hk:=eR hk;refine⟨_,?_,.int _ _⟩;simp[binOp,Op.shift,show ¬ m < 0 by omega]};{obtain⟨hk,kD⟩:=AK hv;cases kD;have hk:=eR hk;refine⟨_,?_,.int _ _⟩;simp[binOp,Op.shift,show ¬ m < 0 by omega]};{rename_i n1 n2;obtain⟨hk,kD⟩:=AK hv;have hk:=beq_iff_eq.1 hk;subst hk;obtain⟨u,g1,g2⟩:=bt (P:=cx.P) (w:=w) (t:=t) ⟨fun e=>n1 e,fun e=>n2 e⟩ kD;exact⟨u,by simpa using g1,g2 _ _ _ _⟩}};{rename_i s1 s2 sI l6;rw[sI] at H;rw[l6] at hy;rw[B4 H,B4 hy,eqGuard_at_string];obtain⟨u,g1,g2⟩:=br (P:=cx.P) (w:=w) (t:=t) hv;exact⟨u,by simpa using g1,g2 _ _ _ _⟩};{split at hv;{obtain⟨b,hb,rfl⟩:=bB.1 hv;obtain⟨g1,g2,g3,_⟩:=Yz (w':=w) (X:=x) (Y:=y) H hy (fun h=>h) hb .eql;exact⟨.bool b,by simp[g2,g3,g1],.bool b⟩};{obtain⟨b,hb,rfl⟩:=bB.1 hv;obtain⟨g1,g2,_,g3⟩:=Yz (w':=w) (X:=x) (Y:=y) H hy (fun h=>h) hb .neq;exact⟨.bool (!b),by simp[g2,g3,g1],.bool _⟩};{cases hv}}
end ops
end Go.Ab


namespace Go.Ab
variable{α:Type} {G:DZ} {r1:RX} {l:List α}
theorem X9 {Z:List eV} {r2:RX} (h:Di G Z=some [r1,r2]):∃ x y,Z=[x,y]/\rx G x=some r1/\rx G y=some r2:=by
 match Z,h with
 | [],h=>simp[Di] at h
 | [x],h=>simp only[Di] at h;split at h<;>simp_all
 | [x,y],h =>
  simp only[Di] at h;split at h;{rename_i a b U O;split at O;{rename_i a' b' h3 h4;cases h4;cases O;cases h;exact⟨x,y,rfl,U,h3⟩};{cases O}};{cases h}
 | x :: y :: z :: zs,h =>
  simp only[Di] at h;split at h
  ·rename_i a b U O;split at O
   ·rename_i a' b' h3 h4;split at h4;·cases h4;cases O;cases h
    {cases h4}
   {cases O}
  {cases h}
theorem rxs_one {Z:List eV} (h:Di G Z=some [r1]):∃ x,Z=[x]/\rx G x=some r1:=by
 match Z,h with
 | [],h=>simp[Di] at h
 | [x],h=>simp only[Di] at h;split at h<;>simp_all
 | x :: y :: zs,h =>
  simp only[Di] at h;split at h
  ·rename_i a b U O;split at O;·cases O;cases h
   {cases O}
  {cases h}
theorem R5 {Z:Array α} (h:Z.toList=l):Z=l.toArray:=by rw[<-h,cI]
section ops
variable {E:Type} {cx:Cx} {w0:eS} {I0 F0:Nat->Prop} {O0:Bu} {Hd:Nat->Option Obj} {R:Bl E} {e:E} {ds:List eZ} {F:Nat->Prop} {lp:Nat->fb} {fE:List eT}
variable {I:Nat->Prop} {L:Am} {V:St} {a:Act} {w:eS} {o:Oper} {out:Ai} {mF:Ak}
theorem qc (hs:SR lp I L V a.tmps.toList fE w) (hf:Fr cx w0 I0 F0 O0 Hd R e ds I F L w) (hc:Bw cx.P cx.G o=some mF) (hm:Dd mF=true->∃ d,o.dst=some d/\V.fA[d]?=some [])
  (hn:Cz mF=false) (h:exec (o.dst.getD 0) (Aa V.fA) V.tmps mF=some out):Bb cx w0 I0 F0 O0 Hd R e ds F lp fE o a w (apply V o.dst out):=by
 cases ho:o.op with
 | move x =>
  simp only[Bw,ho,bB] at hc;obtain⟨r,hr,rfl⟩:=hc;cases h;exact tn hs hf (.inl ho) hr
 | assign x =>
  simp only[Bw,ho,bB] at hc;obtain⟨r,hr,rfl⟩:=hc;cases h;exact tn hs hf (.inr ho) hr
 | pick c x y =>
  simp only[Bw,ho] at hc;split at hc;{rename_i c' x' y' U O h3;cases hc;exact op_pick hs hf ho U O h3 h};{cases hc}
 | alloc t =>
  simp only[Bw,ho] at hc;split at hc;{rename_i z hz;cases hc;obtain⟨d,hd,iG⟩:=hm rfl;simp only[exec,hd,b7] at h;cases h;have:=tt hs hf ho hz hd iG;simpa[hd] using this};{cases hc}
 | box t x =>
  simp only[Bw,ho,bB] at hc;obtain⟨r,hr,rfl⟩:=hc;obtain⟨d,hd,iG⟩:=hm rfl;exact op_box hs hf ho hr hd iG h
 | build t ps =>
  simp only[Bw,ho] at hc;split at hc;{rename_i fs z hu hz;split at hc;{rename_i rs oM;split at hc;{rename_i hfs;cases hc;exact tA hs hf ho hu hz hfs oM h};{cases hc}};{cases hc}};{cases hc}
 | buildSlice t len ps =>
  simp only[Bw,ho] at hc;split at hc;{rename_i k mZ z rs he oM;split at hc;{rename_i hl;cases hc;obtain⟨d,hd,iG⟩:=hm rfl;exact op_mkSl hs hf ho he oM hl.1 hl.2 hd iG h};{cases hc}};{cases hc}
 | load t x =>
  simp only[Bw,ho] at hc;split at hc;{rename_i n ag r iR hr;cases hc;exact op_load hs hf ho iR hr h};{cases hc}
 | store t x y =>
  simp only[Bw,ho] at hc;split at hc;{rename_i n ag r s iR hr im;cases hc;exact tq hs hf ho iR hr im h};{cases hc}
 | nilCheck x =>
  simp only[Bw,ho,bB] at hc;obtain⟨r,hr,rfl⟩:=hc;exact tu hs hf ho hr h
 | binOp op t x y yt =>
  simp only[Bw,ho] at hc;split at hc;{rename_i r s hr im;cases hc;exact op_bin hs hf ho hr im h};{cases hc}
 | unOp op t x =>
  simp only[Bw,ho,bB] at hc;obtain⟨r,hr,rfl⟩:=hc;exact op_un hs hf ho hr h
 | convert src dst x =>
  simp only[Bw,ho] at hc;split at hc;{rename_i k0 k r mY ji hr;cases hc;exact op_conv hs hf ho hr mY ji h};{rename_i k0 r mY ji hr;cases hc;exact pT hs hf ho hr mY ji h};{rename_i r mY ji hr;cases hc;exact tw hs hf ho hr mY ji h};{rename_i el r mY ji hr;split at hc;{rename_i hu3;cases hc;exact aw hs hf ho hr mY ji hu3 h};{cases hc}};{rename_i el r mY ji hr;split at hc;{rename_i hu3;cases hc;exact ay hs hf ho hr mY ji hu3 h};{cases hc}};{cases hc}
 | makeInterface t x =>
  simp only[Bw,ho] at hc;split at hc;·cases hc
  {rename_i d jB hu;obtain⟨r,hr,rfl⟩:=bB.1 hc;cases h;exact op_mkI hs hf ho hr hu fun ms e=>jB ms e};{cases hc}
 | makeFunc fn first cap =>
  cases fn with
  | func f =>
   simp only[Bw,ho] at hc;split at hc;{rename_i hfi;obtain⟨rs,oM,rfl⟩:=bB.1 hc;cases h;exact op_mkF hs hf ho (fnNum_k hfi _) (tk hfi _) oM};{cases hc}
  | _=>simp[Bw,ho] at hc
 | makeMap t r =>
  simp only[Bw,ho] at hc;cases r with
  | none =>
   simp only[bC] at hc;subst hc;obtain⟨d,hd,iG⟩:=hm rfl;simp only[exec,hd,b7] at h;cases h;have:=tD hs hf ho hd iG;simpa[hd] using this
  | some r=>simp at hc
 | insert t m k v =>
  simp only[Bw,ho] at hc;split at hc
  ·rename_i kt et m' k' v' hu U O h3;split at hc;·cases hc;exact Wo hs hf (.inl ho) hu U O h3 h
   {cases hc}
  {cases hc}
 | mapUpdate t m k v =>
  simp only[Bw,ho] at hc;split at hc
  ·rename_i kt et m' k' v' hu U O h3;split at hc;·cases hc;exact Wo hs hf (.inr ho) hu U O h3 h
   {cases hc}
  {cases hc}
 | lookup t m k ok =>
  simp only[Bw,ho] at hc;split at hc
  ·rename_i kt et hu;split at hc
   ·rename_i z m' k' hz U O;split at hc;·cases hc;exact qa hs hf ho hu hz U O h
    {cases hc}
   {cases hc}
  {cases hc}
 | makeSlice t l c =>
  simp only[Bw,ho] at hc;split at hc;{rename_i k mZ z l' c' he U O;cases hc;obtain⟨d,hd,iG⟩:=hm rfl;exact op_mkS hs hf ho he U O hd iG h};{cases hc}
 | slice t x lo hi mx =>
  simp only[Bw,ho] at hc;split at hc
  ·rename_i x' lo' tG mx' U O h3 h4;split at hc
   ·rename_i hu;split at hc
    ·rename_i hmx;cases hc
     have:mx=none:=by
      cases mx with
      | none=>rfl
      | some m =>
       simp only[sE,bB] at h4;obtain⟨y,_,rfl⟩:=h4;simp at hmx
     subst this;exact ZB hs hf ho hu U O h3 h
    {cases hc}
   {rename_i el hu;split at hc;{rename_i k mZ z he;cases hc;exact tH hs hf ho he U O h3 h4 h};{cases hc}};{cases hc}
  {cases hc}
 | fieldAddr t x f =>
  simp only[Bw,ho] at hc;split at hc
  ·rename_i fs x' hu U;split at hc
   ·rename_i fd hfd;split at hc
    ·rename_i i hi;split at hc;·cases hc
     {rename_i hz;cases hc;exact Y7 hs hf ho hu hfd hi hz U h}
    {cases hc}
   {cases hc}
  {cases hc}
 | field t x f =>
  simp only[Bw,ho] at hc;split at hc;{rename_i fs x' hu U;split at hc;{rename_i fd hfd;split at hc;{rename_i n ag iR;cases hc;exact tF hs hf ho hu hfd iR U h};{cases hc}};{cases hc}};{cases hc}
 | indexAddr t x i =>
  simp only[Bw,ho] at hc;split at hc;{rename_i el x' i' hu U O;split at hc;{rename_i k mZ z he;cases hc;exact az hs hf ho he U O h};{cases hc}};{rename_i n el x' i' hu U O;split at hc;{rename_i inf hi;cases hc;exact ZC hs hf ho hu hi U O h};{cases hc}};{cases hc}
 | index t x i =>
  simp only[Bw,ho] at hc;split at hc;{rename_i x' i' hu U O;cases hc;exact pX hs hf ho hu U O h};{cases hc}
 | extract x j =>
  simp only[Bw,ho,bB] at hc;obtain⟨r,hr,rfl⟩:=hc;exact aA hs hf ho hr h
 | range t x =>
  simp only[Bw,ho] at hc;split at hc;{rename_i x' hu U;cases hc;obtain⟨d,hd,iG⟩:=hm rfl;exact op_iter hs hf ho hu U hd iG h};{cases hc}
 | next x b =>
  cases b with
  | false=>simp[Bw,ho] at hc
  | true =>
   simp only[Bw,ho,bB] at hc;obtain⟨r,hr,rfl⟩:=hc;exact op_next hs hf ho hr h
 | typeAssert x t0 t ok =>
  simp only[Bw,ho] at hc;split at hc;·cases hc
  {rename_i d jB hu;split at hc;{rename_i z x' hz U;cases hc;exact ax hs hf ho hu (fun ms e=>jB ms e) hz U h};{cases hc}};{cases hc}
 | call c =>
  simp only[Bw,ho] at hc;split at hc;·cases hc
  ·rename_i as has;split at hc;{rename_i f gN;obtain⟨f',_,rfl⟩:=bB.1 hc;simp[Cz] at hn}
   ·rename_i gN;split at hc
    ·rename_i t x tP
     obtain⟨x0,hx0,hr⟩:=rxs_one has;have lh:=R5 hx0;split at hc;{rename_i hu;cases hc;exact TN hs hf ho gN tP lh hu (.inl ⟨rfl,rfl⟩) hr h};{rename_i el hu;cases hc;exact TN hs hf ho gN tP lh hu (.inr (.inl ⟨_,rfl,rfl⟩)) hr h};{rename_i k el hu;cases hc;exact TN hs hf ho gN tP lh hu (.inr (.inr ⟨_,_,rfl,rfl⟩)) hr h};·cases hc
    {cases hc}
   {rename_i gN;split at hc;{rename_i t u s x tP hau;obtain⟨x0,y0,hx0,sI,l6⟩:=X9 has;have lh:=R5 hx0;split at hc;{rename_i k mZ z e' el he hu ji;cases hc;obtain⟨d,hd,iG⟩:=hm rfl;exact Wp hs hf ho gN tP hau lh he ji hu (.inr ⟨_,rfl⟩) sI l6 hd iG h};{rename_i k mZ z el he hu ji;cases hc;obtain⟨d,hd,iG⟩:=hm rfl;exact Wp hs hf ho gN tP hau lh he ji hu (.inl rfl) sI l6 hd iG h};{cases hc}};{cases hc}}
   ·rename_i gN;split at hc
    ·rename_i t d s tP
     obtain⟨x0,y0,hx0,sI,l6⟩:=X9 has;have lh:=R5 hx0;split at hc;{rename_i k mZ z he;cases hc;exact op_copy hs hf ho gN tP lh he sI l6 h};{cases hc}
    {cases hc}
   {rename_i gN;cases hc;exact Wn hs hf ho (mx:=false) gN has h};{rename_i gN;cases hc;exact Wn hs hf ho (mx:=true) gN has h};{cases hc}
 | _=>simp[Bw,ho] at hc
end ops
end Go.Ab


namespace Go.Ab
variable{α:Type} {F2 I1:Nat->Prop} {M:AC} {P:eX} {Q:Exit->Act->eS->Prop} {Rn S:fh} {args gg fst tmps:Array eT} {b d dep l lo n n0:Nat} {c:Call} {f g:eU} {fo:eV} {next:Act->eS->Prop} {obs:fg} {p:Option (Nat×Nat)} {ps:List (Option (Nat×Nat))} {r:PV} {ro:fb} {st':St} {us:List eT} {v:eT} {A:fa} {x:Next}
def CF (ro:fb):Fence:={fn:=fun _=>True,depth:=none,alive:=false,round:=ro}
theorem R1 {w:eS} {R:Ending->eS->Prop} (h:CallsIn Fence.wide n P f args w R):CallsIn (CF ro) n P f args w R:=h
theorem Zu {assign body:Code} {w:eS} {R:Ending->eS->Prop} (h:RoundIn Fence.wide n P l f tmps assign body w R) :
  RoundIn (CF ro) n P l f tmps assign body w R:=h
section yl
variable {w w':eS} {I I':Nat->Prop} {lp jT:Nat->fb}
mutual
theorem Aj.lR {L:fm} {x:PV} {v:eT}:Aj w I lp L x v->x.gq=false->Aj w I jT L x v
 | .undef v,_=>.undef v
 | .bool b,_=>.bool b
 | .int k n,_=>.int k n
 | .str s,_=>.str s
 | .fF,_=>.fF
 | .gh,_=>.gh
 | .gH,_=>.gH
 | .fR,_=>.fR
 | .gF,_=>.gF
 | .lx k full a cap hf,_=>.lx k full a cap hf
 | .sl k Z full b off cap c E fr U O h3 h4 h5 h6 h8 h7,e=>.sl k Z full b off cap c E fr U O h3 h4 h5 h6 h8 (Ae.lR h7 (Ms Z (by simpa[PV.gq] using e)))
 | .ptr cs o b off c E fr U O h3 h4 h8 h5,e=>.ptr cs o b off c E fr U O h3 h4 h8 (h5.lR (by simpa[PV.gq] using e))
 | .agg cs A U h,e=>.agg cs A U (h.lR (by simpa[PV.gq] using e))
 | .iface t x v h,e=>.iface t x v (h.lR (by simpa[PV.gq] using e))
 | .fn f cs us A hk h,e=>.fn f cs us A hk (h.lR (by simpa[PV.gq] using e))
 | .fT d l h,e=>by simp[PV.gq] at e
 | .fM Z A h,e=>.fM Z A (h.lR (by simpa[PV.gq] using e))
 | .gz es r gD clock U O h3,e=>.gz es r gD clock U O (h3.lR (by simpa[PV.gq] using e))
 | .gw g t x c E fr U O h3,e=>.gw g t x c E fr U O h3
 | .ref J o b C h,_=>.ref J o b C h
 | .fO J k i o b C h,_=>.fO J k i o b C h
 | .arr J k o n cap b C h hC hn,_=>.arr J k o n cap b C h hC hn
 | .iL J k h,_=>.iL J k h
 | .mp J b C h,_=>.mp J b C h
 | .it J b C h,_=>.it J b C h
theorem Ae.lR {L:fm} {Z:fa} {A:List eT}:Ae w I lp L Z A->A2 Z=false->Ae w I jT L Z A
 | .nil,_=>.nil
 | .cons x v Z A h hs,e=>.cons x v Z A (h.lR (by simpa[A2] using (di.1 e).1)) (hs.lR (di.1 e).2)
theorem Ms:∀ (Z:fa),A2 Z=false->A2 (fL Z)=false
 | [],_=>rfl
 | x :: Z,e=>by
  have h:=di.1 e;have H:A2 x.cells=false:=by cases x<;>simp_all [PV.cells,A2,PV.gq]
  have hs:=Ms Z h.2
  have happ:∀ (ys zs:fa),A2 ys=false->A2 zs=false->A2 (ys++zs)=false:=by
   intro ys;induction ys with
   | nil=>intro zs _ hz;exact hz
   | cons y ys ih =>
    intro zs hy hz;have h:=di.1 hy;exact di.2 ⟨h.1,ih zs h.2 hz⟩
  exact happ _ _ H hs
end
mutual
theorem Aj.free {L:fm} {x:PV} {v:eT}:Aj w I lp L x v->x.free=true->Aj w' I' lp L x v
 | .undef v,_=>.undef v
 | .bool b,_=>.bool b
 | .int k n,_=>.int k n
 | .str s,_=>.str s
 | .fF,_=>.fF
 | .gh,_=>.gh
 | .gH,_=>.gH
 | .fR,_=>.fR
 | .gF,_=>.gF
 | .lx k full a cap hf,e=>by simp[PV.free] at e
 | .sl k Z full b off cap c E fr U O h3 h4 h5 h6 h8 h7,e=>by simp[PV.free] at e
 | .ptr cs o b off c E fr U O h3 h4 h8 h5,e=>by simp[PV.free] at e
 | .agg cs A U h,e=>.agg cs A U (h.free (by simpa[PV.free] using e))
 | .iface t x v h,e=>.iface t x v (h.free (by simpa[PV.free] using e))
 | .fn f cs us A hk h,e=>.fn f cs us A hk (h.free (by simpa[PV.free] using e))
 | .fT d l h,_=>.fT d l h
 | .fM Z A h,e=>.fM Z A (h.free (by simpa[PV.free] using e))
 | .gz es r gD clock U O h3,e=>by simp[PV.free] at e
 | .gw g t x c E fr U O h3,e=>by simp[PV.free] at e
 | .ref J o b C h,_=>.ref J o b C h
 | .fO J k i o b C h,_=>.fO J k i o b C h
 | .arr J k o n cap b C h hC hn,_=>.arr J k o n cap b C h hC hn
 | .iL J k h,_=>.iL J k h
 | .mp J b C h,_=>.mp J b C h
 | .it J b C h,_=>.it J b C h
theorem Ae.free {L:fm} {Z:fa} {A:List eT}:Ae w I lp L Z A->EX Z=true->Ae w' I' lp L Z A
 | .nil,_=>.nil
 | .cons x v Z A h hs,e=>.cons x v Z A (h.free (by simpa[EX] using (cL.1 e).1)) (hs.free (cL.1 e).2)
end
theorem Zg:∀ (ys zs:fa),EX ys=true->EX zs=true->EX (ys++zs)=true:=by
 intro ys;induction ys with
 | nil=>intro zs _ hz;exact hz
 | cons y ys ih =>
  intro zs hy hz;have h:=cL.1 hy;exact cL.2 ⟨h.1,ih zs h.2 hz⟩
theorem Zf:∀ (Z:fa),EX Z=true->EX (fL Z)=true:=by
 intro Z;induction Z with
 | nil=>intro _;rfl
 | cons x Z ih =>
  intro e;have h:=cL.1 e;refine Zg _ _ ?_ (ih h.2);have H:=h.1;cases x<;>simp_all [PV.cells,EX,PV.free]
theorem A5.free {L:Am} {ob:Ob} (h:A5 w I lp L ob p) (hf:ob.free=true):A5 w I' lp L ob p:=by
 cases p with
 | none=>exact h
 | some p =>
  cases ob with
  | cells ty cs=>obtain⟨c,E,U,O,h4,h3⟩:=h;exact⟨c,E,U,O,h4,h3.free hf⟩
  | arr k kt Z=>obtain⟨c,E,U,O,h3,h4,h6,h5⟩:=h;exact⟨c,E,U,O,h3,h4,h6,h5.free (Zf _ hf)⟩
  | map es=>obtain⟨c,E,U,O⟩:=h;exact⟨c,E,U,O.free hf⟩
  | fW s pos=>exact h
end yl
theorem A5.ofArr {w:eS} {I:Nat->Prop} {lp:Nat->fb} {L L':Am} {ob:Ob} (h:A5 w I lp L ob p) (ha:Ii ob=true):A5 w I lp L' ob p:=by cases ob<;>simp[Ii] at ha;cases p<;>exact h
theorem SX {l:List α} {x:α} (h:l[d]?=some x):l.set d x=l:=by apply cj;intro i;by_cases hi:i=d;{subst hi;rw[cB (bH.1 h).1,h]};{rw[bR (bW hi)]}
def NW (ps:List (Option (Nat×Nat))):Am:=BO (fun _=>none) 0 ps
structure Lh {E:Type} (cx:Cx) (R:Bl E) (lp:Nat->fb) (I F:Nat->Prop) (w:eS) (r:PV) (obs:fg) (e:E) (v:eT) (w':eS) (I' F':Nat->Prop) (ps:List (Option (Nat×Nat))):Prop where
 ext:BA I F w I' F' w'
 sep:IF I' F' w'
 wd:cx.Wd I' w'
 re:R.rel e I' F' w'
 len:ps.length=obs.length
 ob:∀ (j:Nat) (ob:Ob) (p:Option (Nat×Nat)),obs[j]?=some ob->ps[j]?=some p->A5 w' I' lp (NW ps) ob p
 new:∀ (j b C:Nat),ps[j]?=some (some (b,C))->w.heap.size<=b/\b < w'.heap.size/\¬ I' b/\¬ F' b
 inj:∀ (j j' b C C':Nat),ps[j]?=some (some (b,C))->ps[j']?=some (some (b,C'))->j=j'
 rep:Aj w' I' lp (some (NW ps)) r v
 arr:obs.all Ii=true
def X1 {E:Type} (cx:Cx) (R:Bl E) (lp:Nat->fb) (I F:Nat->Prop) (w:eS) (r:PV) (obs:fg) (e:E):Ending->eS->Prop
 | .returned v,w'=>∃ I' F' ps,Lh cx R lp I F w r obs e v w' I' F' ps
 | _,_=>False
def tR {E:Type} (cx:Cx) (R:Bl E) (Ir mh:Nat->Prop) (wr:eS) (args:fa) (e:E) (b:Bool) (e':E) (l:Nat):Prop :=
 ∀ (A:List eT) (I F:Nat->Prop) (w:eS),Ae w I (fun _=>none) none args A->BA Ir mh wr I F w->IF I F w->cx.Wd I w->R.rel e I F w ->
  YieldAt Fence.wide 0 cx.P l A.toArray w fun
   | .returned v,w'=>v=.bool b/\∃ I' F',BA I F w I' F' w'/\IF I' F' w'/\cx.Wd I' w'/\R.rel e' I' F' w'
   | _,_=>False
def NM {E:Type} (cx:Cx) (lp:Nat->fb) (R:Bl E) (Ir mh:Nat->Prop) (wr:eS) (h:AB E):Prop :=
 ∀ (d:Nat) (args:fa) (e:E) (b:Bool) (e':E) (l:Nat),h d args e=some (b,e')->lp d=some l->∃ l',l=2*l'/\tR cx R Ir mh wr args e b e' l'
def Bn (P:eX) (g:eU):Prop:=∃ fn,P.funcs[g]?=some fn/\(fn.name == "runtime.NumGoroutine")=false/\fn.body.isSome=true
def Dq (cx:Cx) (call:Gq):Prop :=
 ∀ (E:Type) (h:AB E) (R:Bl E) (dep:Nat) (lp:Nat->fb) (Ir mh:Nat->Prop) (wr:eS) (g:eU) (args:fa) (e:E) (r:PV) (obs:fg) (e':E),
  call E h dep g args e=some (r,obs,e')->NM cx lp R Ir mh wr h->(∀ d l,lp d=some l->d < dep) ->
  Bn cx.P g/\∀ (I F:Nat->Prop) (w:eS) (A:List eT),BA Ir mh wr I F w->IF I F w->cx.Wd I w->R.rel e I F w->Ae w I lp none args A ->
   CallsIn Fence.wide 0 cx.P g A.toArray w (X1 cx R lp I F w r obs e')
def EE (gf:List eT) (dst:fb) (v:eT):List eT :=
 match dst with
 | some d=>gf.set d v
 | none=>gf
def RB (cx:Cx) (g:eU) (V:St) (A:fa) (out:Ai):Prop :=
  ∀ (E:Type) (w0:eS) (I0 F0:Nat->Prop) (O0:Bu) (Hd:Nat->Option Obj) (R:Bl E) (e:E) (ds:List eZ) (I F:Nat->Prop) (lp:Nat->fb) (L:Am) (gf fE us:List eT) (w:eS) (dst:fb),
   SR lp I L V gf fE w->Fr cx w0 I0 F0 O0 Hd R e ds I F L w->Ae w I lp (some L) A us->(∀ d,dst=some d->V.fA[d]?=some []) ->
   ∃ v w',(callFunc g us.toArray).run cx.P w=.ok (.value v) w'/\∃ I' L',SR lp I' L' (apply V dst {out with v:=out.v.fQ (DT (dst.getD 0))}) (EE gf dst v) fE w'/\Fr cx w0 I0 F0 O0 Hd R e ds I' F L' w'
def SpOK (cx:Cx) (sp:eU->(Nm->fe)->fa->fj):Prop :=
 ∀ (g:eU) (V:St) (A:fa) (out:Ai),sp g (Aa V.fA) A=some out->RB cx g V A out\/Bn cx.P g /\
  ∀ (E:Type) (w0:eS) (I0 F0:Nat->Prop) (O0:Bu) (Hd:Nat->Option Obj) (R:Bl E) (e:E) (ds:List eZ) (I F:Nat->Prop) (lp:Nat->fb) (L:Am) (gf fE us:List eT) (w:eS) (dst:fb),
   SR lp I L V gf fE w->Fr cx w0 I0 F0 O0 Hd R e ds I F L w->Ae w I lp (some L) A us->(∀ d,dst=some d->V.fA[d]?=some []) ->
   CallsIn Fence.wide 0 cx.P g us.toArray w fun
    | .returned v,w'=>∃ I' L',SR lp I' L' (apply V dst {out with v:=out.v.fQ (DT (dst.getD 0))}) (EE gf dst v) fE w'/\Fr cx w0 I0 F0 O0 Hd R e ds I' F L' w'
    | _,_=>False
def IoOK (cx:Cx) (io:eU->Nat->(Nm->fe)->fa->fj):Prop :=
 ∀ (g:eU) (d0:Nat) (V:St) (A:fa) (out:Ai),io g d0 (Aa V.fA) A=some out->Bn cx.P g /\
  ∀ (E:Type) (w0:eS) (I0 F0:Nat->Prop) (O0:Bu) (Hd:Nat->Option Obj) (R:Bl E) (e:E) (ds:List eZ) (I F:Nat->Prop) (lp:Nat->fb) (L:Am) (gf fE us:List eT) (w:eS) (dst:fb),
   SR lp I L V gf fE w->Fr cx w0 I0 F0 O0 Hd R e ds I F L w->Ae w I lp (some L) A us->(∀ d,dst=some d->d=d0/\V.fA[d]?=some [])->(dst=none->out.new=[]\/out.slot.isSome=true) ->
   CallsIn Fence.wide 0 cx.P g us.toArray w fun
    | .returned v,w'=>∃ I' L',SR lp I' L' (apply V dst out) (EE gf dst v) fE w'/\Fr cx w0 I0 F0 O0 Hd R e ds I' F L' w'
    | _,_=>False
def tS (cx:Cx) (nP:(E:Type)->AB E->Nat->eU->fg->fa->E->Option (St×E)):Prop :=
 ∀ (E:Type) (h:AB E) (dep:Nat) (g:eU) (ins:fg) (A:fa) (e:E) (fZ:St) (e2:E),nP E h dep g ins A e=some (fZ,e2)->Bn cx.P g /\
  ∃ (gone:fc) (nt:Nat),A.length<=nt/\ins.length<=nt/\0 < nt /\
   ∀ (R:Bl E) (lp:Nat->fb) (w:eS) (I F0 F zzc:Nat->Prop) (L:Am) (us wv:List eT),NM cx lp R I F0 w h->(∀ d l,lp d=some l->d < dep)->us.length=A.length ->
    SR lp I L (D4 gone nt ins A) (us++List.replicate (nt - us.length) undef) wv w->Fr cx w I F0 ⟨zzc,[]⟩ (fun _=>none) R e [] I F L w ->
    CallsIn Fence.wide 0 cx.P g us.toArray w fun
     | .returned _,w'=>∃ gf I' F' L',SR lp I' L' fZ gf wv w'/\Fr cx w I F0 ⟨zzc,[]⟩ (fun _=>none) R e2 [] I' F' L' w'
     | _,_=>False
structure Fv (cx:Cx) (M:AC):Prop where
 sp:SpOK cx M.sp
 io:IoOK cx M.io
 flag:∀ g d σ A out,M.io g d σ A=some out->out.io=true
 nP:tS cx M.nP
section frames
variable {E:Type} {cx:Cx} {w0:eS} {I0 F0:Nat->Prop} {O0:Bu} {Hd:Nat->Option Obj} {R:Bl E} {e e':E} {ds:List eZ} {F F':Nat->Prop} {lp:Nat->fb} {fE gf:List eT}
variable {I I':Nat->Prop} {L:Am} {V:St} {a:Act} {w w':eS} {o:Oper}
theorem Fr.offI (hf:Fr cx w0 I0 F0 O0 Hd R e ds I F L w) (H:BA I F w I' F' w') (U:b < w.heap.size) (O:¬ I b) (h3:¬ F b):¬ I' b/\¬ F' b/\w'.heap[b]?=w.heap[b]? :=
 ⟨fun h=>by rcases H.jJ b h with h | h | h<;>first | exact O h | exact h3 h | omega,
  fun h=>by rcases H.jX b h with h | h<;>first | exact h3 h | omega,H.fD b U h3⟩
theorem Fr.called (hf:Fr cx w0 I0 F0 O0 Hd R e ds I F L w) (H:BA I F w I' F' w') (hi:IF I' F' w') (hw:cx.Wd I' w') (hr:R.rel e' I' F' w'):Fr cx w0 I0 F0 O0 Hd R e' ds I' F' L w' where
 ext:=hf.ext.trans H
 sep:=hi
 oF:=hf.oF
 lB J b C hn:=by obtain⟨U,O,h3,h4⟩:=hf.lB J b C hn;obtain⟨g1,g2,_⟩:=hf.offI H O h3 h4;have:=H.size;exact⟨U,by omega,g1,g2⟩
 inj:=hf.inj
 wd:=hw
 re:=hr
 lO:=hf.lO.move H.size fun D d1 d2 d3 d4 d5=>by obtain⟨g1,g2,g3⟩:=hf.offI H d1 d3 d4;exact⟨g3,g1,g2,d5⟩
 lP b ob hb:=by obtain⟨d1,d2,d3,d4,d5⟩:=hf.lP b ob hb;obtain⟨g1,g2,g3⟩:=hf.offI H d1 d2 d3;have:=H.size;exact⟨by omega,g1,g2,d4,g3.trans d5⟩
theorem SR.called (hs:SR lp I L V gf fE w) (hf:Fr cx w0 I0 F0 O0 Hd R e ds I F L w) (H:BA I F w I' F' w'):SR lp I' L V gf fE w' :=
 hs.keeps H.j9 (fun b hb=>H.nT hf.sep b hb) fun J b C hn=>(hf.offI H (hf.lB J b C hn).2.1 (hf.lB J b C hn).2.2.1 (hf.lB J b C hn).2.2.2).2.2
theorem Fr.place (hf:Fr cx w0 I0 F0 O0 Hd R e ds I F L w) (hn0:w0.heap.size<=n0) (hp:∀ (j b C:Nat),ps[j]?=some (some (b,C))->n0<=b/\b < w.heap.size/\¬ I b/\¬ F b)
  (hL:∀ J b C,L J=some (some (b,C))->b < n0) (hm:∀ D,D∈ds.map (·.target)->∀ b,D=.collected b->b < n0) (hh:∀ b ob,Hd b=some ob->b < n0)
  (hi:∀ (j j' b C C':Nat),ps[j]?=some (some (b,C))->ps[j']?=some (some (b,C'))->j=j'):Fr cx w0 I0 F0 O0 Hd R e ds I F (BO L d ps) w where
 ext:=hf.ext
 sep:=hf.sep
 oF:=hf.oF
 lB J b C hn:=by unfold BO at hn;split at hn;{obtain⟨U,O,h3,h4⟩:=hp _ _ _ hn;exact⟨.inl (by omega),O,h3,h4⟩};{exact hf.lB J b C hn}
 inj J gP b C C' hn ik:=by unfold BO at hn ik;split at hn<;>split at ik;{rename_i e1 e2;exact Prod.ext (e1.trans e2.symm) (hi _ _ _ _ _ hn ik)};{have:=hp _ _ _ hn;have:=hL gP b C' ik;omega};{have:=hp _ _ _ ik;have:=hL J b C hn;omega};{exact hf.inj J gP b C C' hn ik}
 wd:=hf.wd
 re:=hf.re
 lO:=by
  have key:∀ ds rs,BS w0.heap.size I F L w ds rs->(∀ D,D∈ds.map (·.target)->∀ b,D=.collected b->b < n0)->BS w0.heap.size I F (BO L d ps) w ds rs:=by
   intro ds rs h;induction h with
   | nil=>intro _;exact .nil
   | call d' ds rs hd _ ih=>intro hm;exact .call d' ds rs hd (ih fun D' kL b hb=>hm D' (by simp at kL |-;exact .inr kL) b hb)
   | cons D ds rs U O h3 h4 h5 h6 h7 _ ih =>
    intro hm;refine .cons D ds rs U O h3 h4 (fun J C hn=>?_) h6 h7 (ih fun D' kL b hb=>hm D' (by simp at kL |-;exact .inr kL) b hb);unfold BO at hn;split at hn;{have U:=(hp _ _ _ hn).1;have O:=hm (.collected D) (by simp) D rfl;omega};{exact h5 J C hn}
  exact key ds _ hf.lO hm
 lP b ob hb:=by obtain⟨d1,d2,d3,d4,d5⟩:=hf.lP b ob hb;refine⟨d1,d2,d3,fun J C hn=>?_,d5⟩;unfold BO at hn;split at hn;{have:=(hp _ _ _ hn).1;have:=hh b ob hb;omega};{exact d4 J C hn}
theorem BS.lt {I F:Nat->Prop} {L:Am} {w:eS} {ds rs:List eZ} (h:BS lo I F L w ds rs):∀ D,D∈ds.map (·.target)->∀ b,D=.collected b->b < w.heap.size:=by
 induction h with
 | nil=>intro D hD;simp at hD
 | call d ds rs hd _ ih =>
  intro D' kL b hb;simp only[bP,bE] at kL;rcases kL with rfl | kL;{exact eQ hb (hd b)};{exact ih D' kL b hb}
 | cons D ds rs U O h3 h4 h5 h6 h7 _ ih =>
  intro D' kL b hb;simp only[bP,bE] at kL;rcases kL with rfl | kL;·cases hb;exact O
  {exact ih D' kL b hb}
theorem taken (hs:SR lp I L V a.tmps.toList fE w) (hf:Fr cx w0 I0 F0 O0 Hd R e ds I F L w) (hc:Lh cx R lp I F w r obs e' v w' I' F' ps)
  (hd:∀ d,o.dst=some d->V.fA[d]?=some []) :
  ∃ L',SR lp I' L' (apply V o.dst {v:=r.fQ (DT (o.dst.getD 0)),new:=obs}) (a.put o.dst v).tmps.toList fE w'/\Fr cx w0 I0 F0 O0 Hd R e' ds I' F' L' w':=by
 have jU:=hs.called hf hc.ext;have jb:=hf.called hc.ext hc.sep hc.wd hc.re;rw[Hi];cases oS:o.dst with
 | none=>exact⟨L,jU,jb⟩
 | some d =>
  have iG:=hd d oS;have gI:∀ J b C,L J=some (some (b,C))->b < w.heap.size:=fun J b C hn=>(hf.lB J b C hn).2.1;have jy:∀ J p,NW ps J=some p->BO L d ps (DT d J)=some p:=by intro J p hp;unfold NW BO at hp;unfold BO DT;split at hp;{simpa using hp};·cases hp
  refine⟨BO L d ps,?_,jb.place (n0:=w.heap.size) hf.ext.size hc.new gI (hf.lO.lt) (fun b ob hb=>(hf.lP b ob hb).1) hc.inj⟩;have iu:=jU.news iG obs ps hc.len fun j ob p U O=>(hc.ob j ob p U O).ofArr (bI.1 hc.arr ob (bJ U));have nn:(if obs.isEmpty then V.fA else V.fA.set d obs)=V.fA.set d obs:=by split;{rename_i he;rw[bZ] at he;subst he;exact (SX iG).symm};{rfl}
  show SR lp I' (BO L d ps) {tmps:=V.tmps.set d (r.fQ (DT d)),fA:=if obs.isEmpty then V.fA else V.fA.set d obs,fD:=V.fD} (a.tmps.toList.set d v) fE w';rw[nn];exact iu.put d (hc.rep.rename jy)
def NK (cx:Cx) (w0:eS) (I0 F0:Nat->Prop) (O0:Bu) (Hd:Nat->Option Obj) (R:Bl E) (lp:Nat->fb) (fE:List eT) (o:Oper) (a:Act) (w:eS) (st':St) (e':E):Prop :=
 ∀ (ro:fb) (next:Act->eS->Prop) (Q:Exit->Act->eS->Prop),
  (∀ v' w' I' F' L',SR lp I' L' st' (a.put o.dst v').tmps.toList fE w'->Fr cx w0 I0 F0 O0 Hd R e' a.defers I' F' L' w'->next (a.put o.dst v') w')->o.wpIn (CF ro) 0 cx.P a w next Q
theorem tU (jB:∀ c,o.op≠.defer c) (h:o.uponIn (CF ro) 0 cx.P a next Q ((execOp a.eval o).run cx.P w)):o.wpIn (CF ro) 0 cx.P a w next Q :=
 ⟨fun _ _=>trivial,by rw[Oper.semAt_plain _ _ _ jB];exact h⟩
theorem Wa (jB:∀ c,o.op≠.defer c) (h:Bb cx w0 I0 F0 O0 Hd R e a.defers F lp fE o a w st'):NK cx w0 I0 F0 O0 Hd R lp fE o a w st' e:=by intro ro next Q hK;obtain⟨v',w',I',L',hr,hs,hf⟩:=h;refine tU jB ?_;rcases hr with hr | ⟨hr,rfl⟩;{rw[hr];exact hK v' w' I' F L' hs hf};{rw[hr];exact hK undef w' I' F L' hs hf}
theorem qd {f:eV} (ho:o.op=.call c) (gN:c.callee=.value f) (hv:a.eval f=.func (.func g) fst gg) (he:Bn cx.P g) :
  (execOp a.eval o).run cx.P w=.ok (.enter g (fst++(c.args.map a.eval)++gg)) w:=by
 obtain⟨fn,kV,iq,iI⟩:=he;have hb:¬ fn.body=none:=by intro h;rw[h] at iI;cases iI
 have iq:¬ fn.name = "runtime.NumGoroutine":=by intro h;rw[h] at iq;simp at iq
 simp[execOp,ho,resolve,gN,hv,Deferred.ofValue,invoke,callFunc,kV,iq,hb]
theorem qe {f:eV} (ho:o.op=.call c) (gN:c.callee=.value f) (hv:a.eval f=.func (.func g) fst gg) :
  (execOp a.eval o).run cx.P w=(callFunc g (fst++(c.args.map a.eval)++gg)).run cx.P w:=by
 simp[execOp,ho,resolve,gN,hv,Deferred.ofValue,invoke]
theorem al {f:eV} (ho:o.op=.call c) (gN:c.callee=.value f) (hv:a.eval f=.func (.yield l) #[] #[]) {w':eS} (hy:(Instr.yield l (c.args.map a.eval)).run cx.P w=.ok x w') :
  (execOp a.eval o).run cx.P w=.ok x w':=by
 simp[execOp,ho,resolve,gN,hv,Deferred.ofValue,invoke,hy]
theorem CallsIn.kE {F:Fence} {f:eU} {w:eS} {R R':Ending->eS->Prop} (h:CallsIn F n P f args w R) (hr:∀ e w',R e w'->R' e w'):CallsIn F n P f args w R' :=
 ⟨h.1,fun cs pz=>let ⟨e,w',fr,r,s,x⟩:=h.2 cs pz;⟨e,w',fr,hr _ _ r,s,x⟩⟩
theorem KC {f:eV} (ho:o.op=.call c) (gN:c.callee=.value f) (hv:a.eval f=.func (.func g) fst gg) (he:Bn cx.P g) 
  (h:CallsIn Fence.wide 0 cx.P g (fst++(c.args.map a.eval)++gg) w fun
   | .returned v,w'=>∃ I' F' L',SR lp I' L' st' (a.put o.dst v).tmps.toList fE w'/\Fr cx w0 I0 F0 O0 Hd R e' a.defers I' F' L' w'
   | _,_=>False):NK cx w0 I0 F0 O0 Hd R lp fE o a w st' e':=by
 intro ro next Q hK;refine tU (fun c' e=>by rw[ho] at e;cases e) ?_;rw[qd ho gN hv he,Oper.uponIn_enter];refine⟨fun h=>by simp[CF] at h,R1 (CallsIn.kE h fun e w' hr=>?_)⟩;cases e with
 | returned v=>obtain⟨I',F',L',U,O⟩:=hr;exact hK v w' I' F' L' U O
 | panicked chain=>exact hr.elim
 | outgrown=>exact hr.elim
theorem U7 {f:eV} (ho:o.op=.call c) (gN:c.callee=.value f) (hv:a.eval f=.func (.yield l) #[] #[]) 
  (h:YieldAt Fence.wide 0 cx.P l (c.args.map a.eval) w fun
   | .returned v,w'=>∃ I' F' L',SR lp I' L' st' (a.put o.dst v).tmps.toList fE w'/\Fr cx w0 I0 F0 O0 Hd R e' a.defers I' F' L' w'
   | _,_=>False):NK cx w0 I0 F0 O0 Hd R lp fE o a w st' e':=by
 intro ro next Q hK;refine tU (fun c' e=>by rw[ho] at e;cases e) ?_;obtain⟨fn,tmps,assign,body,hy,nr⟩:=h;rw[al ho gN hv hy,Oper.uponIn_round];refine⟨fun h=>by simp[CF] at h,Zu (RoundIn.mono nr fun e w' hr=>?_)⟩;cases e with
 | returned v=>obtain⟨I',F',L',U,O⟩:=hr;exact hK v w' I' F' L' U O
 | panicked chain=>exact hr.elim
 | outgrown=>exact hr.elim
def Dl:Bl Unit:=⟨fun _ _ _ _=>True,fun _ _ _ _ _ _ _ _ _ _=>trivial⟩
theorem OS (cx:Cx) (lp:Nat->fb) (Ir mh:Nat->Prop) (wr:eS):NM cx lp Dl Ir mh wr Ar:=by intro d args e b e' l h;simp[Ar] at h
theorem VW (hM:Dq cx M.call) (hs:SR lp I L V a.tmps.toList fE w) (hf:Fr cx w0 I0 F0 O0 Hd R e ds I F L w) (hI1:IF I1 (fun _=>False) w) (hw1:cx.Wd I1 w)
  (fX:Ae w I1 lp none A us) (hy:A2 A=false) (hc:M.call Unit Ar 0 g A ()=some (r,obs,())) :
  Bn cx.P g/\CallsIn Fence.wide 0 cx.P g us.toArray w fun
   | .returned v,w'=>∃ I' F' ps,Lh cx Dl lp I1 (fun _=>False) w r obs () v w' I' F' ps
   | _,_=>False:=by
 obtain⟨U,O⟩:=hM Unit Ar Dl 0 (fun _=>none) I1 (fun _=>False) w g A () r obs () hc (OS cx _ _ _ _) (fun d l h=>by cases h);refine⟨U,CallsIn.kE (O I1 (fun _=>False) w us (BA.refl _ _ _) hI1 hw1 trivial (fX.lR hy)) fun e w' hr=>?_⟩;cases e with
 | returned v =>
  obtain⟨I',F',ps,iM⟩:=hr;have hl:G9 (fun _=>none) lp:=fun d l h=>by cases h
  exact⟨I',F',ps,iM.ext,iM.sep,iM.wd,iM.re,iM.len,fun j ob p U O=>(iM.ob j ob p U O).mono (fun _ h=>h) (fun _ _=>rfl) hl (fun _ _ _=>rfl),iM.new,iM.inj,Aj.mono (fun _ h=>h) (fun _ _=>rfl) hl iM.rep,iM.arr⟩
 | panicked chain=>exact hr.elim
 | outgrown=>exact hr.elim
theorem Fr.quiet (hf:Fr cx w0 I0 F0 O0 Hd R e ds I F L w) (H:BA I (fun _=>False) w I' F2 w') (hi:∀ b,I' b->b < w'.heap.size) (hw:cx.Wd I' w'):BA I F w I' F w'/\IF I' F w'/\R.rel e I' F w':=by have hk:∀ b,b < w.heap.size->w'.heap[b]?=w.heap[b]?:=fun b hb=>H.fD b hb fun h=>h;refine⟨⟨H.os,H.tape,H.output,H.size,fun b hb _=>hk b hb,H.j9,fun b hb=>?_,fun b hb=>.inl hb⟩,⟨hi,fun b hb=>⟨cG (hf.sep.fB b hb).1 H.size,fun h=>?_⟩⟩,?_⟩;{rcases H.jJ b hb with h | h | h;{exact .inl h};{exact h.elim};{exact .inr (.inr h)}};{rcases H.jJ b h with h | h | h;{exact (hf.sep.fB b hb).2 h};{exact h};{have:=(hf.sep.fB b hb).1;omega}};{refine R.jK e I I' F w w' hf.re H.j9 (fun b hb=>hk b ?_) H.size;rcases hb with hb | hb;{exact hf.sep.iB b hb};{exact (hf.sep.fB b hb).1}}
theorem VP (hM:Dq cx M.call) (hs:SR lp I L V a.tmps.toList fE w) (hf:Fr cx w0 I0 F0 O0 Hd R e a.defers I F L w) {f:eV} (ho:o.op=.call c) (gN:c.callee=.value f) 
  (hv:a.eval f=.func (.func g) fst gg) (fX:Ae w I lp none A (fst++(c.args.map a.eval)++gg).toList) (hy:A2 A=false) (hc:M.call Unit Ar 0 g A ()=some (r,obs,()))
  (hd:∀ d,o.dst=some d->V.fA[d]?=some []) :
  Bn cx.P g/\CallsIn Fence.wide 0 cx.P g (fst++(c.args.map a.eval)++gg) w fun
   | .returned v,w'=>∃ I' F' L',SR lp I' L' (apply V o.dst {v:=r.fQ (DT (o.dst.getD 0)),new:=obs}) (a.put o.dst v).tmps.toList fE w'/\Fr cx w0 I0 F0 O0 Hd R e a.defers I' F' L' w'
   | _,_=>False:=by
 obtain⟨U,O⟩:=VW hM hs hf (I1:=I) ⟨hf.sep.iB,fun b hb=>hb.elim⟩ hf.wd fX hy hc;rw[cI] at O;refine⟨U,CallsIn.kE O fun en w' hr=>?_⟩;cases en with
 | returned v =>
  obtain⟨I',F2,ps,iM⟩:=hr;obtain⟨q1,q2,q3⟩:=hf.quiet iM.ext (fun b hb=>iM.sep.iB b hb) iM.wd;have hce2:Lh cx R lp I F w r obs e v w' I' F ps:=⟨q1,q2,iM.wd,q3,iM.len,iM.ob,fun j b C hj=>by obtain⟨n1,n2,n3,n4⟩:=iM.new j b C hj;exact⟨n1,n2,n3,fun hb=>by have:=(hf.sep.fB b hb).1;omega⟩,iM.inj,iM.rep,iM.arr⟩;obtain⟨L',g1,g2⟩:=taken hs hf hce2 hd;exact⟨I',F,L',g1,g2⟩
 | panicked chain=>exact hr.elim
 | outgrown=>exact hr.elim
theorem qf (hM:Dq cx M.call) (hs:SR lp I L V a.tmps.toList fE w) (hf:Fr cx w0 I0 F0 O0 Hd R e a.defers I F L w) {f:eV} (ho:o.op=.call c) (gN:c.callee=.value f) 
  (hv:a.eval f=.func (.func g) fst gg) (fX:Ae w (Cs I L Rn) lp none A (fst++(c.args.map a.eval)++gg).toList) (hy:A2 A=false) (hc:M.call Unit Ar 0 g A ()=some (r,obs,()))
  (kC:r.free=true) (oL:obs.all Ob.free=true) (hd:∀ d,o.dst=some d->V.fA[d]?=some []) :
  Bn cx.P g/\CallsIn Fence.wide 0 cx.P g (fst++(c.args.map a.eval)++gg) w fun
   | .returned v,w'=>∃ I' F' L',SR lp I' L' (apply V o.dst {v:=r.fQ (DT (o.dst.getD 0)),new:=obs}) (a.put o.dst v).tmps.toList fE w'/\Fr cx w0 I0 F0 O0 Hd R e a.defers I' F' L' w'
   | _,_=>False:=by
 have kB:=hf.freeze Rn;obtain⟨U,O⟩:=VW hM hs hf (I1:=Cs I L Rn) ⟨kB.sep.iB,fun b hb=>hb.elim⟩ kB.wd fX hy hc;rw[cI] at O;refine⟨U,CallsIn.kE O fun en w' hr=>?_⟩;cases en with
 | returned v =>
  obtain⟨I',F2,ps,iM⟩:=hr;have hk:∀ b,b < w.heap.size->w'.heap[b]?=w.heap[b]?:=fun b hb=>iM.ext.fD b hb fun h=>h;have hIk:∀ b,I b->w'.heap[b]?=w.heap[b]?:=fun b hb=>hk b (hf.sep.iB b hb);have hwd:cx.Wd I w':=cx.jK I I w w' hf.wd (fun _ h=>h) hIk iM.ext.size;have nv:BA I (fun _=>False) w I (fun _=>False) w':=⟨iM.ext.os,iM.ext.tape,iM.ext.output,iM.ext.size,fun b hb _=>hk b hb,fun _ h=>h,fun _ h=>.inl h,fun _ h=>h.elim⟩;obtain⟨q1,q2,q3⟩:=hf.quiet nv (fun b hb=>cG (hf.sep.iB b hb) iM.ext.size) hwd;have hce2:Lh cx R lp I F w r obs e v w' I F ps:=⟨q1,q2,hwd,q3,iM.len,fun j ob p hj hp=>(iM.ob j ob p hj hp).free (bI.1 oL ob (bJ hj)),fun j b C hj=>by obtain⟨n1,n2,n3,n4⟩:=iM.new j b C hj;exact⟨n1,n2,fun hb=>by have:=hf.sep.iB b hb;omega,fun hb=>by have:=(hf.sep.fB b hb).1;omega⟩,iM.inj,iM.rep.free kC,iM.arr⟩;obtain⟨L',g1,g2⟩:=taken hs hf hce2 hd;exact⟨I,F,L',g1,g2⟩
 | panicked chain=>exact hr.elim
 | outgrown=>exact hr.elim
structure Fu {E:Type} (cx:Cx) (lp:Nat->fb) (R:Bl E) (h:AB E) (dep:Nat) (w0:eS) (I0 F0:Nat->Prop):Prop where
 hand:∃ Ir mh wr,NM cx lp R Ir mh wr h/\BA Ir mh wr I0 F0 w0
 dep:∀ d l,lp d=some l->d < dep
theorem Ux (h:V.fA[d]?=some []):(BN (Aa V.fA) Rn V).fA[d]?=some []:=by
 have key:∀ (R:fh) (σ:List fg),σ[d]?=some []->(R.foldl (fun fA J=>AM fA J AH) σ)[d]?=some []:=by
  intro R;induction R with
  | nil=>intro σ h;exact h
  | cons r R ih =>
   intro σ h;refine ih _ ?_;show (AM σ r AH)[d]?=some [];unfold AM;split;{rename_i l hl;by_cases hrd:r.1=d;{rw[hrd] at hl;rw[h] at hl;cases hl;rw[hrd,cB (bH.1 h).1];rfl};{rw[bR hrd];exact h}};{exact h}
 refine key _ _ ?_;simp[Cd,h]
theorem W2 (gj:Rn≠[]) (dst:fb) (v:PV) (obs:fg) :
  apply V dst {v,new:=obs,gv:=Rn}=apply (BN (Aa V.fA) Rn V) dst {v,new:=obs}:=by
 cases Rn with
 | nil=>exact eQ rfl gj
 | cons r rs=>simp[apply]
theorem Xj (h:S.isEmpty=false):AA (Aa V.fA) Ax S≠[]:=by
 intro e0;cases S with
 | nil=>simp at h
 | cons m ms =>
  have:m∈AA (Aa V.fA) Ax (m :: ms):=C9 Ax _ m bN;rw[e0] at this;cases this
theorem qg {h:AB E} (hM:Dq cx M.call) (gR:Fv cx M) (gk:Fu cx lp R h dep w0 I0 F0) (hs:SR lp I L V a.tmps.toList fE w) (hf:Fr cx w0 I0 F0 O0 Hd R e a.defers I F L w)
  (ho:o.op=.call c) (gN:c.callee=.value fo) {f:RX} {args:fu} (U:rx cx.G fo=some f) (O:Di cx.G c.args.toList=some args)
  (hd:∀ d,o.dst=some d->V.fA[d]?=some []) {out:Ai} (H:BU M h dep (o.dst.getD 0) (Aa V.fA) V.tmps f args e=some (out,e')) (mH:HY o.dst out=true) :
  NK cx w0 I0 F0 O0 Hd R lp fE o a w (apply V o.dst out) e':=by
 have n6:=A9 hs hf.wd U;have gV:=Pz hs hf.wd O;have iC:(c.args.toList.map a.eval).toArray=c.args.map a.eval:=by rw[<-eo,cI]
 unfold BU at H;split at H
 ·rename_i d hr;rw[hr] at n6;obtain⟨l,hv,hl⟩:=Ys n6;obtain⟨Ir,mh,wr,hand,tQ⟩:=gk.hand;simp only at H;split at H
  ·rename_i hS;rw[bZ] at hS;obtain⟨hy,H⟩:=AK H;split at H
   ·rename_i b e1 hh;cases H;obtain⟨l',rfl,hand⟩:=hand d _ e b e' l hh hl;rw[Pn] at hv;refine U7 ho gN hv ?_;have qb:A2 (args.map (RX.ev V.tmps))=false:=by simpa using hy
    have iG:=(gV.shut hS).lR (jT:=fun _=>none) qb;have:=hand _ I F w iG (tQ.trans hf.ext) hf.sep hf.wd hf.re;obtain⟨fn,tmps,assign,body,q1,q2⟩:=this;refine⟨fn,tmps,assign,body,by rw[<-iC];exact q1,RoundIn.mono q2 fun en w' hq=>?_⟩;cases en with
    | returned v =>
     obtain⟨rfl,I',F',p1,p2,p3,p4⟩:=hq;exact⟨I',F',L,(hs.called hf p1).tl o.dst (.bool b),hf.called p1 p2 p3 p4⟩
    | panicked chain=>exact hq.elim
    | outgrown=>exact hq.elim
   {cases H}
  ·rename_i hS;obtain⟨hk,H⟩:=AK H;simp only[bz,cK] at hk;split at H
   ·rename_i b e1 hh;cases H;have hS:(Al (args.map (RX.ev V.tmps))).isEmpty=false:=by simpa using hS
    have gj:=Xj (V:=V) hS;have iG:=(Oj hs hk.2 gV fun J hn=>C9 _ _ J hn).lR (jT:=fun _=>none) hk.1;have jV:=hs.freeze hk.2;have kB:=hf.freeze (AA (Aa V.fA) Ax (Al (args.map (RX.ev V.tmps))));obtain⟨l',rfl,hand⟩:=hand d _ e b e' l hh hl;rw[Pn] at hv;refine U7 ho gN hv ?_;have:=hand _ _ F w iG (tQ.trans kB.ext) kB.sep kB.wd kB.re;obtain⟨fn,tmps,assign,body,q1,q2⟩:=this;refine⟨fn,tmps,assign,body,by rw[<-iC];exact q1,RoundIn.mono q2 fun en w' hq=>?_⟩;cases en with
    | returned v =>
     obtain⟨rfl,I',F',p1,p2,p3,p4⟩:=hq;rw[W2 gj];exact⟨I',F',_,(jV.called kB p1).tl o.dst (.bool b),kB.called p1 p2 p3 p4⟩
    | panicked chain=>exact hq.elim
    | outgrown=>exact hq.elim
   {cases H}
 ·rename_i g cap hr;rw[hr] at n6;obtain⟨fst,gg,hv,hfk,kY⟩:=Jc n6;have ix:Ae w I lp (some L) (A7 g (args.map (RX.ev V.tmps)) cap) (fst++(c.args.map a.eval)++gg).toList:=by simpa[cw] using OF hfk kY gV
  simp only at H;generalize A7 g (args.map (RX.ev V.tmps)) cap=vall at H ix;generalize AG g=g0 at H hv;split at H
  ·rename_i out1 tV;cases H;rcases gR.sp g0 V _ _ tV with q2 | ⟨q1,q2⟩
   {obtain⟨v',w',gB,I',L',p1,p2⟩:=q2 E w0 I0 F0 O0 Hd R e a.defers I F lp L a.tmps.toList fE _ w o.dst hs hf ix hd;rw[cI] at gB;exact Wa (fun c' e=>by rw[ho] at e;cases e) ⟨v',w',I',L',.inl (by rw[qe ho gN hv];exact gB),by rw[Hi];exact p1,p2⟩};refine KC ho gN hv q1 ?_;have:=q2 E w0 I0 F0 O0 Hd R e a.defers I F lp L a.tmps.toList fE _ w o.dst hs hf ix hd;rw[cI] at this;refine CallsIn.kE this fun en w' hq=>?_;cases en with
   | returned v =>
    obtain⟨I',L',p1,p2⟩:=hq;refine⟨I',F,L',?_,p2⟩;rw[Hi];exact p1
   | panicked chain=>exact hq.elim
   | outgrown=>exact hq.elim
  ·rename_i tV;split at H
   ·rename_i jj;split at H
    case h_2=>cases H
    rename_i out1 tV;cases H;obtain⟨q1,q2⟩:=gR.io g0 _ V _ _ tV;refine KC ho gN hv q1 ?_;have pr:=gR.flag _ _ _ _ _ tV;have:=q2 E w0 I0 F0 O0 Hd R e a.defers I F lp L a.tmps.toList fE _ w o.dst hs hf ix (fun d kF=>⟨by rw[kF];rfl,hd d kF⟩) (fun hn=>by simp only[HY,pr,hn,dV,ep,dC,dW,bZ] at mH;exact mH);rw[cI] at this;refine CallsIn.kE this fun en w' hq=>?_;cases en with
    | returned v =>
     obtain⟨I',L',p1,p2⟩:=hq;refine⟨I',F,L',?_,p2⟩;rw[Hi];exact p1
    | panicked chain=>exact hq.elim
    | outgrown=>exact hq.elim
   rename_i jj;split at H
   ·rename_i hS;rw[bZ] at hS;have iG:=ix.shut hS;split at H
    ·rename_i hy;split at H
     ·rename_i r obs e1 hc;cases H;obtain⟨Ir,mh,wr,hand,tQ⟩:=gk.hand;obtain⟨q1,q2⟩:=hM E h R dep lp Ir mh wr g0 _ e r obs e' hc hand gk.dep;refine KC ho gN hv q1 ?_;have:=q2 I F w _ (tQ.trans hf.ext) hf.sep hf.wd hf.re iG;rw[cI] at this;refine CallsIn.kE this fun en w' hq=>?_;cases en with
      | returned v =>
       obtain⟨I',F',ps,iM⟩:=hq;obtain⟨L',g1,g2⟩:=taken hs hf iM hd;exact⟨I',F',L',g1,g2⟩
      | panicked chain=>exact hq.elim
      | outgrown=>exact hq.elim
     {cases H}
    {rename_i hy;split at H;{rename_i r obs u hc;cases H;obtain⟨q1,q2⟩:=VP hM hs hf ho gN hv iG (by simpa using hy) hc hd;exact KC ho gN hv q1 q2};{cases H}}
   ·rename_i hS;obtain⟨hk,H⟩:=AK H;simp only[bz,cK] at hk;have iG:=Oj hs hk.2 ix fun J hn=>C9 _ _ J hn;split at H
    ·rename_i r obs u hc;cases H;by_cases ki:(r.free&&obs.all Ob.free&&!M.gT g0)=true;{rw[eH ki];rw[bz,bz] at ki;replace ki:=ki.1;obtain⟨q1,q2⟩:=qf hM hs hf ho gN hv iG hk.1 hc ki.1 ki.2 hd;exact KC ho gN hv q1 q2}
     ·rw[eG ki];have hS:(Al vall).isEmpty=false:=by simpa using hS
      have gj:=Xj (V:=V) hS;have jV:=hs.freeze hk.2;have kB:=hf.freeze (AA (Aa V.fA) Ax (Al vall));rw[W2 gj];obtain⟨q1,q2⟩:=VP hM jV kB ho gN hv iG hk.1 hc (fun d pA=>Ux (hd d pA));exact KC ho gN hv q1 q2
    {cases H}
 {cases H}
end frames
end Go.Ab


namespace Go.Ab
variable{D:Nm->Prop} {G:DZ} {L':Am} {P:eX} {Q:Exit->Act->eS->Prop} {args:fu} {b:Bool} {ds:List eZ} {f:RX} {id:Nat} {l':fc} {lN:List fg} {ops:Array Oper} {ro:fb} {fY:fq} {fZ:St}
theorem qh {o:Oper} (h:Bw P G o=some (.call f args)) :
  ∃ c fo,o.op=.call c/\c.callee=.value fo/\rx G fo=some f/\Di G c.args.toList=some args:=by
 cases ho:o.op with
 | call c =>
  simp only[Bw,ho] at h;split at h;·cases h
  ·rename_i as has;split at h;{rename_i fo gN;obtain⟨f',hf,he⟩:=bB.1 h;cases he;exact⟨c,fo,rfl,gN,hf,has⟩}
   all_goals (repeat' split at h)<;>first | contradiction | cases h
 | _ =>
  exfalso;simp only[Bw,ho] at h
  repeat' split at h
  all_goals first
   | contradiction
   |(cases h;done)
   |(simp[bB] at h;done)
section ops
variable {E:Type} {cx:Cx} {w0:eS} {I0 F0:Nat->Prop} {O0:Bu} {Hd:Nat->Option Obj} {R:Bl E} {e e':E} {F F':Nat->Prop} {lp:Nat->fb} {fE gf:List eT}
variable {I I':Nat->Prop} {L:Am} {V st':St} {a:Act} {w w':eS} {o:Oper} {M:AC} {h:AB E} {dep:Nat}
theorem step_op (hM:Dq cx M.call) (gR:Fv cx M) (gk:Fu cx lp R h dep w0 I0 F0) (hs:SR lp I L V a.tmps.toList fE w) (hf:Fr cx w0 I0 F0 O0 Hd R e a.defers I F L w) {out:Ai}
  (H:Br M h dep (B7 cx.P cx.G o) V e=some (out,e')):NK cx w0 I0 F0 O0 Hd R lp fE o a w (apply V o.dst out) e':=by
 unfold Br at H;obtain⟨kC,H⟩:=AK H;cases hc:Bw cx.P cx.G o with
 | none=>simp[B7,hc,s8,exec] at H
 | some mF =>
  have kA:(B7 cx.P cx.G o).op=mF:=by simp[B7,hc,s8]
  have hds:(B7 cx.P cx.G o).dst=o.dst:=rfl
  have tW:Dd mF=true->(∀ d,o.dst=some d->V.fA[d]?=some [])/\(Cz mF=false->∃ d,o.dst=some d):=by
   intro hmk;unfold BQ at kC;rw[kA,hmk,hds] at kC;simp only[eF] at kC;constructor;{intro d hd;rw[hd] at kC;simp only at kC;split at kC;{assumption};·cases kC}
   ·intro hnc;cases hd:o.dst with
    | some d=>exact⟨d,rfl⟩
    | none =>
     rw[hd] at kC;cases mF<;>simp[Cz] at hnc kC
  rw[kA,hds] at H;cases nR:Cz mF with
  | true =>
   cases mF<;>simp[Cz] at nR;rename_i f args;obtain⟨c,fo,ho,gN,U,O⟩:=qh hc;obtain⟨H,mH⟩:=Oh H;exact qg hM gR gk hs hf ho gN U O (tW rfl).1 H mH
  | false =>
   have kb:exec (o.dst.getD 0) (Aa V.fA) V.tmps mF=some out/\e'=e:=by cases mF<;>simp[Cz] at nR<;>(simp only at H;split at H<;>simp_all)
   obtain⟨kb,rfl⟩:=kb;refine Wa ?_ (qc hs hf hc (fun hmk=>?_) nR kb);{intro c hd;simp[Bw,hd] at hc};{obtain⟨g1,g2⟩:=tW hmk;obtain⟨d,hd⟩:=g2 nR;exact⟨d,hd,g1 d hd⟩}
theorem SR.n7 (hs:SR lp I L V gf fE w) [DecidablePred D] (jc:∀ J,Aa lN J=if D J then none else (Aa V.fA J).map (Ob.sub fun m=>if D m then some none else none)) :
  SR lp I (fun J=>if D J then none else L J) {tmps:=AE (fun m=>if D m then some none else none) V.tmps,fA:=lN,fD:=AE (fun m=>if D m then some none else none) V.fD} gf fE w:=by
 have jM:Dg w I lp L (some fun J=>if D J then none else L J) (fun _=>True) (fun m=>if D m then some none else none):=by intro m q _ hq;by_cases hm:D m;{simp[hm]};{simp[hm,hq]}
 refine hs.subst (w':=w) (fun _ h=>h) (fun _ _=>rfl) jM ?_ ?_;{intro J ob hl;rw[jc] at hl;by_cases hd:D J;{simp[hd] at hl};{simp only[hd,eE] at hl |-;obtain⟨jo,lQ,rfl⟩:=bB.1 hl;obtain⟨p,hp,ha⟩:=hs.ob J jo lQ;exact⟨p,hp,ha.subst (fun _ h=>h) (fun _ _=>rfl) jM (fun _ _=>trivial) fun _ _ _=>rfl⟩}};{intro J hl;rw[jc] at hl;by_cases hd:D J;{simp[hd]};{simp only[hd,eE] at hl |-;exact hs.j6 J (by simpa using hl)}}
theorem Fr.n7 (hf:Fr cx w0 I0 F0 O0 Hd R e ds I F L w) (hL:∀ J p,L' J=some p->L J=some p):Fr cx w0 I0 F0 O0 Hd R e ds I F L' w :=
 hf.own rfl rfl rfl (bD _) (fun _ _ _=>rfl) (fun _ h=>h) (fun _ h=>.inl h)
  (fun J b C hn=>⟨(hf.lB J b C (hL _ _ hn)).2.1,(hf.lB J b C (hL _ _ hn)).2.2.1,.inr ⟨J,C,hL _ _ hn⟩⟩)
  (fun J gP b C C' U O=>hf.inj J gP b C C' (hL _ _ U) (hL _ _ O))
theorem M3 (Z:fc) (hs:SR lp I L V gf fE w) (hf:Fr cx w0 I0 F0 O0 Hd R e ds I F L w):∃ L',SR lp I L' (BR Z V) gf fE w/\Fr cx w0 I0 F0 O0 Hd R e ds I F L' w:=by
 unfold BR;split;{exact⟨L,hs,hf⟩}
 ·refine⟨fun J=>if Z.contains J.1=true then none else L J,?_,hf.n7 fun J p hn=>?_⟩
  ·have:=hs.n7 (D:=fun J=>Z.contains J.1=true) (lN:=(V.fA.map (·.map (Ob.sub fun m=>if Z.contains m.1=true then some none else none))).zipIdx.map fun x=>if Z.contains x.2=true then [] else x.1) (by
    intro J;unfold Aa;rw[bK,cM,bK];cases h0:V.fA[J.1]? with
    | none=>simp
    | some l =>
     simp only[bG,bX];by_cases hd:Z.contains J.1=true
     ·simp only[hd,eF];rfl
     ·simp only[hd];simp)
   exact this
  ·change (if Z.contains J.1=true then none else L J)=some p at hn;split at hn;·cases hn
   {exact hn}
theorem W4 (hs:SR lp I L V a.tmps.toList fE w) (h:BB (ops.toList.map (B7 cx.P cx.G)) (B7 cx.P cx.G o) V.tmps=some b):Region.wanted o (yielded ops a.tmps)=b:=by
 unfold BB at h;have hg:(B7 cx.P cx.G o).guard=o.guard:=rfl;rw[hg] at h;unfold Region.wanted;cases sJ:o.guard with
 | none=>rw[sJ] at h;simpa using h
 | some jw =>
  obtain⟨j,want⟩:=jw;rw[sJ] at h;simp only[bK,dl] at h;cases hj:ops[j]? with
  | none=>rw[hj] at h;simp at h
  | some p =>
   rw[hj] at h;simp only[bG] at h;have hpd:(B7 cx.P cx.G p).dst=p.dst:=rfl;rw[hpd] at h;cases hd:p.dst with
   | none=>rw[hd] at h;simp at h
   | some d =>
    rw[hd] at h;simp only at h;cases H:V.tmps[d]? with
    | none=>rw[bF,H] at h;simp at h
    | some x =>
     obtain⟨v,hv,hr⟩:=hs.tm.get H;rw[dl] at hv;rw[bF,H] at h;simp only[b7] at h;show (yielded ops a.tmps j==some want)=b;split at h
     ·rename_i b';cases h;have hy:yielded ops a.tmps j=some b':=by simp[yielded,hj,hd,hv,Er hr]
      rw[hy];cases b'<;>cases want<;>rfl
     ·cases h;obtain⟨A,rfl,_⟩:=Yt hr;have hy:yielded ops a.tmps j=none:=by simp[yielded,hj,hd,hv]
      rw[hy];rfl
     {cases h}
inductive HF (M:AC) {E:Type} (h:AB E) (dep:Nat) (fY:fq):fc->St->E->St->E->Prop
 | nil (V:St) (e:E):HF M h dep fY [] V e V e
 | cons (i:Nat) (rest:fc) (o:Av) (V oT fZ:St) (e e1 e2:E) (ho:fY[i]?=some o) (hs:stepG M h dep fY o V e=some (oT,e1)) (hr:HF M h dep fY rest oT e1 fZ e2):HF M h dep fY (i :: rest) V e fZ e2
theorem Vi (a:Act) (dst:fb) (v:eT):(a.put dst v).defers=a.defers:=by cases dst<;>rfl
theorem R6 (hM:Dq cx M.call) (gR:Fv cx M) (gk:Fu cx lp R h dep w0 I0 F0):∀ {l:fc} {V fZ:St} {e e2:E},HF M h dep (ops.toList.map (B7 cx.P cx.G)) l V e fZ e2 ->
  ∀ {a:Act} {w:eS} {I F:Nat->Prop} {L:Am},SR lp I L V a.tmps.toList fE w->Fr cx w0 I0 F0 O0 Hd R e a.defers I F L w ->
  (∀ a' w' I' F' L',SR lp I' L' fZ a'.tmps.toList fE w'->Fr cx w0 I0 F0 O0 Hd R e2 a'.defers I' F' L' w'->wpOpsIn (CF ro) 0 cx.P ops Q l' a' w')->wpOpsIn (CF ro) 0 cx.P ops Q (l++l') a w:=by
 intro l V fZ e e2 gB;induction gB with
 | nil V e=>intro a w I F L hs hf hQ;exact hQ a w I F L hs hf
 | cons i rest ro' V oT fZ e e1 e2 ho lS _ ih =>
  intro a w I F L hs hf hQ;simp only[bK,dl,bB] at ho;obtain⟨o,ho,rfl⟩:=ho;simp only[List.cons_append,wpOpsIn,ho];unfold stepG at lS;split at lS;{rename_i hw;rw[W4 hs hw];simp only[eF];unfold Hv at lS;split at lS;{rename_i out iw fU;cases lS;exact step_op hM gR gk hs hf fU ro _ Q fun v' w' I' F' L' g1 g2=>ih g1 (by rw[Vi];exact g2) hQ};{cases lS}};{rename_i hw;rw[W4 hs hw];cases lS;refine⟨fun _ _=>trivial,?_⟩;exact ih (hs.tl o.dst (.fM [] #[] .nil)) (by rw[Vi];exact hf) hQ};{cases lS}
theorem UI:∀ (k:Nat) {V fZ:St} {e e2:E},CX M h dep fY (fY.drop k) V e=some (fZ,e2)->HF M h dep fY ((List.range fY.length).drop k) V e fZ e2:=by
 have key:∀ (n k:Nat) {V fZ:St} {e e2:E},fY.length - k=n->CX M h dep fY (fY.drop k) V e=some (fZ,e2)->HF M h dep fY ((List.range fY.length).drop k) V e fZ e2:=by
  intro n;induction n with
  | zero =>
   intro k V fZ e e2 hn hr;rw[eu (by omega)] at hr;rw[eu (by simp;omega)];simp only[CX,bC,b8] at hr;obtain⟨rfl,rfl⟩:=hr;exact .nil V e
  | succ n ih =>
   intro k V fZ e e2 hn hr;have hk:k < fY.length:=by omega
   rw[dN hk] at hr;rw[dN (by simpa using hk)];simp only[CX] at hr;split at hr;{rename_i oT e1 jU;rw[List.getElem_range];exact .cons k _ fY[k] V oT fZ e e1 e2 (bQ hk) jU (ih (k+1) (by omega) hr)};{cases hr}
 intro k V fZ e e2 hr;exact key _ k rfl hr
theorem Y6 (hM:Dq cx M.call) (gR:Fv cx M) (gk:Fu cx lp R h dep w0 I0 F0) {e2:E}
  (hr:CX M h dep (ops.toList.map (B7 cx.P cx.G)) (ops.toList.map (B7 cx.P cx.G)) (BR (Bx (ops.toList.map (B7 cx.P cx.G))) V) e=some (fZ,e2))
  (hs:SR lp I L V a.tmps.toList fE w) (hf:Fr cx w0 I0 F0 O0 Hd R e a.defers I F L w)
  (hQ:∀ a' w' I' F' L',SR lp I' L' fZ a'.tmps.toList fE w'->Fr cx w0 I0 F0 O0 Hd R e2 a'.defers I' F' L' w'->Q .normal a' w'):(Code.region id ops false).wpIn (CF ro) 0 cx.P Q a w:=by
 obtain⟨L',im,gQ⟩:=M3 (Bx (ops.toList.map (B7 cx.P cx.G))) hs hf;refine wpIn_region ?_;have:=UI 0 (by simpa using hr);simp only[dU,cf,cY] at this;have:=R6 (l':=[]) (Q:=Q) (ro:=ro) hM gR gk this im gQ hQ
 rwa [dv] at this
end ops
end Go.Ab


namespace Go.Ab
variable{E α:Type} {M:AC} {R S l:fh} {args:fu} {b:Bool} {c:TC} {dst k:Nat} {v x:PV} {h:AB E} {y:α}
def Ag (R:fh) (σ σ':Nm->fe):Prop:=∀ J∈R,σ J=σ' J
mutual
theorem PV.sub_congr {f g:Nm->Option fe}:∀ (x:PV),(∀ J∈x.names,f J=g J)->x.sub f=x.sub g
 | .agg cs,h=>by simp only[PV.sub];rw[HL cs (by simpa[PV.names] using h)]
 | .iface t x,h=>by simp only[PV.sub];rw[PV.sub_congr x (by simpa[PV.names] using h)]
 | .fn k cap,h=>by simp only[PV.sub];rw[HL cap (by simpa[PV.names] using h)]
 | .fM Z,h=>by simp only[PV.sub];rw[HL Z (by simpa[PV.names] using h)]
 | .ref J o,h=>by simp only[PV.sub,h J (by simp[PV.names])]
 | .fO J k i o,h=>by simp only[PV.sub,h J (by simp[PV.names])]
 | .arr J k o n,h=>by simp only[PV.sub,h J (by simp[PV.names])]
 | .mp J,h=>by simp only[PV.sub,h J (by simp[PV.names])]
 | .it J,h=>by simp only[PV.sub,h J (by simp[PV.names])]
 | .undef,_=>rfl
 | .bool _,_=>rfl
 | .int _ _,_=>rfl
 | .str _,_=>rfl
 | .fF,_=>rfl
 | .gh,_=>rfl
 | .gH,_=>rfl
 | .fR,_=>rfl
 | .gF,_=>rfl
 | .sl _ _ _,_=>rfl
 | .ptr _ _,_=>rfl
 | .fT _,_=>rfl
 | .gz _,_=>rfl
 | .gw _ _,_=>rfl
theorem HL {f g:Nm->Option fe}:∀ (Z:fa),(∀ J∈Al Z,f J=g J)->AE f Z=AE g Z
 | [],_=>rfl
 | x :: Z,h=>by
  simp only[AE];rw[PV.sub_congr x (fun J hn=>h J (bO _ hn)),HL Z fun J hn=>h J (bT _ hn)]
end
theorem Ob.sub_congr {f g:Nm->Option fe} (o:Ob) (h:∀ J∈o.names,f J=g J):o.sub f=o.sub g:=by
 cases o with
 | cells ty cs=>simp only[Ob.sub];rw[HL cs h]
 | arr k kt Z=>rfl
 | map es=>simp only[Ob.sub];rw[HL es h]
 | fW s p=>rfl
mutual
theorem iW:∀ (x:PV),x.sub (fun _=>none)=x
 | .agg cs=>by simp[PV.sub,ir cs]
 | .iface t x=>by simp[PV.sub,iW x]
 | .fn g cap=>by simp[PV.sub,ir cap]
 | .fM Z=>by simp[PV.sub,ir Z]
 | .undef | .bool _ | .int _ _ | .str _ | .fF | .gh | .gH | .fR | .gF | .sl _ _ _ | .ptr _ _ | .fT _ | .gz _ | .gw _ _ | .ref _ _ | .fO _ _ _ _ | .arr _ _ _ _ | .mp _ | .it _=>by simp[PV.sub]
theorem ir:∀ (Z:fa),AE (fun _=>none) Z=Z
 | []=>rfl
 | x :: Z=>by simp[AE,iW x,ir Z]
end
theorem Ob.iW (o:Ob):o.sub (fun _=>none)=o:=by cases o<;>simp[Ob.sub,ir]
def Q7 (σ:Nm->fe) (l:fh):fh:=l.flatMap fun J=>((σ J).map Ob.names).getD []
theorem KE (σ:Nm->fe) (d:Nat) (l:fh):AA σ (d+1) l=l++AA σ d (Q7 σ l):=rfl
theorem R8 {σ:Nm->fe}:∀ (d:Nat) (l:fh) (J:Nm),J∈l->J∈AA σ d l
 | 0,_,_,h=>h
 | _+1,_,_,h=>bO _ h
theorem ID {σ:Nm->fe}:∀ (d:Nat) (l l':fh),(∀ J∈l,J∈l')->∀ J∈AA σ d l,J∈AA σ d l':=by
 intro d;induction d with
 | zero=>intro l l' h;exact h
 | succ d ih =>
  intro l l' h J hn;rw[KE] at hn |-;rcases bS.1 hn with hn | hn;{exact bO _ (h J hn)}
  {refine bT _ (ih _ _ (fun m hm=>?_) J hn);obtain⟨k,hk,hm⟩:=cp.1 hm;exact cp.2 ⟨k,h k hk,hm⟩}
theorem aC {σ σ':Nm->fe} (h:Ag l σ σ'):Q7 σ l=Q7 σ' l:=by
 unfold Q7;induction l with
 | nil=>rfl
 | cons x l ih=>rw[cQ,cQ,h x bN,ih fun J hn=>h J (bM _ hn)]
theorem JI {σ σ':Nm->fe}:∀ (d:Nat) (l:fh),Ag (AA σ d l) σ σ'->AA σ d l=AA σ' d l:=by
 intro d;induction d with
 | zero=>intro l _;rfl
 | succ d ih =>
  intro l h;rw[KE] at h;have U:Ag l σ σ':=fun J hn=>h J (bO _ hn);rw[KE,KE,<-aC U,ih _ fun J hn=>h J (bT _ hn)]
theorem Y4 {σ σ':Nm->fe}:∀ (d:Nat) (o:Ob),Ag (AA σ d o.names) σ σ'->EL σ (d+1) o=EL σ' (d+1) o:=by
 intro d;induction d with
 | zero =>
  intro o h;simp only[EL];exact Ob.sub_congr o fun J hn=>by rw[h J hn]
 | succ d ih =>
  intro o h;rw[EL,EL];refine Ob.sub_congr o fun J hn=>?_;have U:=h J (R8 _ _ _ hn);rw[<-U];cases ho:σ J with
  | none=>rfl
  | some ob =>
   simp only[bG];rw[ih ob fun m hm=>h m ?_];rw[KE];refine bT _ (ID d _ _ (fun k hk=>cp.2 ⟨J,hn,by simpa[ho] using hk⟩) m hm)
theorem Mp {σ σ':Nm->fe} (h:Ag (AA σ Ax S) σ σ'):∀ J∈S,A3 σ J=A3 σ' J:=by
 intro J hn;have U:=h J (R8 _ _ _ hn);unfold A3;rw[<-U];cases ho:σ J with
 | none=>rfl
 | some ob =>
  simp only[bG];rw[show Ax=2+1 from rfl,Y4 2 ob fun m hm=>h m ?_];rw[show Ax=2+1 from rfl,KE];exact bT _ (ID 2 _ _ (fun k hk=>cp.2 ⟨J,hn,by simpa[ho] using hk⟩) m hm)
theorem RP {σ σ':Nm->fe} (h:Ag R σ σ'):BJ σ R=BJ σ' R:=by
 unfold BJ
 have:∀ (l:fh),Ag l σ σ'->(l.all fun J=>(((σ J).map Ob.names).getD []).all fun m=>R.contains m)=(l.all fun J=>(((σ' J).map Ob.names).getD []).all fun m=>R.contains m):=by
  intro l;induction l with
  | nil=>intro _;rfl
  | cons x l ih=>intro h;rw[dA,dA,h x bN,ih fun J hn=>h J (bM _ hn)]
 exact this R h
theorem CH {x:Option α} (h:Ap b x=some y):b=true/\x=some y:=by cases b;{simp[Ap] at h};{exact⟨rfl,by simpa[Ap] using h⟩}
theorem Us {Z:fa} (h:x∈Z):∀ J∈x.names,J∈Al Z:=by
 induction Z with
 | nil=>cases h
 | cons y ys ih =>
  intro J hn;rcases bE.1 h with rfl | h;{exact bO _ hn};{exact bT _ (ih h J hn)}
theorem F5 {tm kG:fa} {Z:fu} (h:∀ x∈Z,x.ev tm=x.ev kG):Z.map (RX.ev tm)=Z.map (RX.ev kG):=b9 h
theorem bf {tm kG:fa}:∀ (ps:List (Nat×Nat×RX)) (z:fa),(∀ x∈ps.map (·.2.2),x.ev tm=x.ev kG)->Ew tm z ps=Ew kG z ps:=by
 intro ps;induction ps with
 | nil=>intro z _;rfl
 | cons p ps ih =>
  obtain⟨off,n,x⟩:=p;intro z h;simp only[Ew];rw[h x (by simp),ih _ fun y hy=>h y (by simp at hy |-;exact .inr hy)]
theorem II {tm kG:fa} {x:fz} (h:∀ y∈x.toList,y.ev tm=y.ev kG):Ci tm x=Ci kG x:=by
 cases x with
 | none=>rfl
 | some y=>simp only[Ci];rw[h y (by simp)]
section
variable {σ σ':Nm->fe} {tm kG:fa}
theorem On (h:∀ J∈v.names,σ J=σ' J):C0 σ k v=C0 σ' k v:=by
 cases v<;>first | rfl | skip
 rename_i J k' o n;simp only[C0];rw[h J (by simp[PV.names])]
theorem qi (h:∀ J∈v.names,σ J=σ' J):If σ c v=If σ' c v:=by
 cases v<;>cases c<;>first | rfl | skip
 rename_i J;simp only[If];rw[h J (by simp[PV.names])]
theorem Sf (op:Ak) (H:∀ x∈op.Z,x.ev tm=x.ev kG) (hσ:Ag (AA σ Ax (Al (op.Z.map (RX.ev tm)))) σ σ'):exec dst σ tm op=exec dst σ' kG op:=by
 have hn:∀ x∈op.Z,∀ J∈(x.ev tm).names,σ J=σ' J:=fun x H J hn=>hσ J (R8 _ _ _ (Us (List.mem_map_of_mem H) J hn));cases op with
 | mov x=>simp only[exec];rw[H x (by simp[Ak.Z])]
 | pick c a b=>simp only[exec];rw[H c (by simp[Ak.Z]),H a (by simp[Ak.Z]),H b (by simp[Ak.Z])]
 | box x=>simp only[exec];rw[H x (by simp[Ak.Z])]
 | alloc z=>rfl
 | build z ps=>simp only[exec];rw[bf ps z (by simpa[Ak.Z] using H)]
 | kr k ps =>
  have U:=F5 (Z:=ps) H;simp only[Ak.Z] at hσ;simp only[exec];rw[<-U];have O:=JI _ _ hσ;rw[<-O,<-RP hσ,HL (f:=A3 σ) (g:=A3 σ') _ (Mp hσ)]
 | load n ag x =>
  have U:=hn x (by simp[Ak.Z]);simp only[exec];rw[<-H x (by simp[Ak.Z])];cases hv:x.ev tm<;>first | rfl | skip
  all_goals (rw[hv] at U;(try simp only);rw[U _ (by simp[PV.names])])
 | store n x v =>
  have U:=hn x (by simp[Ak.Z]);simp only[exec];rw[<-H x (by simp[Ak.Z]),<-H v (by simp[Ak.Z])];cases hv:x.ev tm<;>first | rfl | skip
  all_goals (rw[hv] at U;(try simp only);rw[U _ (by simp[PV.names])])
 | nilck x=>simp only[exec];rw[H x (by simp[Ak.Z])]
 | bin op c kc x y=>simp only[exec];rw[H x (by simp[Ak.Z]),H y (by simp[Ak.Z])]
 | un op x=>simp only[exec];rw[H x (by simp[Ak.Z])]
 | conv k x=>simp only[exec];rw[H x (by simp[Ak.Z])]
 | il x=>simp only[exec];rw[H x (by simp[Ak.Z])]
 | ofBytes x =>
  simp only[exec];rw[<-H x (by simp[Ak.Z]),On (hn x (by simp[Ak.Z]))]
 | iU x=>simp only[exec];rw[H x (by simp[Ak.Z])]
 | jG x=>simp only[exec];rw[H x (by simp[Ak.Z])]
 | mkI t x=>simp only[exec];rw[H x (by simp[Ak.Z])]
 | mkF f cap=>simp only[exec];rw[F5 (Z:=cap) H]
 | mkMap=>rfl
 | insert c x k v =>
  have U:=hn x (by simp[Ak.Z]);simp only[exec];rw[<-H x (by simp[Ak.Z]),<-H k (by simp[Ak.Z]),<-H v (by simp[Ak.Z])];have kD:Ag (AA σ Ax (v.ev tm).names) σ σ':=fun J hn=>hσ J (ID _ _ _ (fun m hm=>by simp[Ak.Z,Al,hm]) J hn);generalize hS:(if Q0 (v.ev tm)=true then [] else (v.ev tm).names)=S;have hSub:S=[]\/S=(v.ev tm).names:=by rw[<-hS];split;{exact .inl rfl};{exact .inr rfl}
  have iR:BJ σ (if S.isEmpty=true then [] else AA σ Ax S)=BJ σ' (if S.isEmpty=true then [] else AA σ Ax S):=by split;{rfl};{rename_i gj;rcases hSub with e | e;{rw[e] at gj;simp at gj};{rw[e];exact RP kD}}
  have na:(if S.isEmpty=true then [] else AA σ Ax S)=(if S.isEmpty=true then [] else AA σ' Ax S):=by split;{rfl};{rename_i gj;rcases hSub with e | e;{rw[e] at gj;simp at gj};{rw[e];exact JI _ _ kD}}
  rw[<-na,iR,PV.sub_congr (f:=A3 σ) (g:=A3 σ') (v.ev tm) (Mp kD)];cases hv:x.ev tm<;>first | rfl | skip
  all_goals (rw[hv] at U;(try simp only);rw[U _ (by simp[PV.names])])
 | lookup c z ok x k =>
  have U:=hn x (by simp[Ak.Z]);simp only[exec];rw[<-H x (by simp[Ak.Z]),<-H k (by simp[Ak.Z])];cases hv:x.ev tm<;>first | rfl | skip
  all_goals (rw[hv] at U;(try simp only);rw[U _ (by simp[PV.names])])
 | po k z l c=>simp only[exec];rw[H l (by simp[Ak.Z]),H c (by simp[Ak.Z])]
 | slice k x lo hi mx =>
  simp only[Ak.Z] at H;simp only[exec];rw[H x (by simp),II (x:=lo) fun y hy=>H y (by simp at hy |-;simp[hy]),II (x:=hi) fun y hy=>H y (by simp at hy |-;simp[hy]),II (x:=mx) fun y hy=>H y (by simp at hy |-;simp[hy])]
 | gM x lo hi =>
  simp only[Ak.Z] at H;simp only[exec];rw[H x (by simp),II (x:=lo) fun y hy=>H y (by simp at hy |-;simp[hy]),II (x:=hi) fun y hy=>H y (by simp at hy |-;simp[hy])]
 | fieldAddr off x=>simp only[exec];rw[H x (by simp[Ak.Z])]
 | field off n ag x=>simp only[exec];rw[H x (by simp[Ak.Z])]
 | ic k x i=>simp only[exec];rw[H x (by simp[Ak.Z]),H i (by simp[Ak.Z])]
 | hJ k len x i=>simp only[exec];rw[H x (by simp[Ak.Z]),H i (by simp[Ak.Z])]
 | iV x i=>simp only[exec];rw[H x (by simp[Ak.Z]),H i (by simp[Ak.Z])]
 | extract j x=>simp only[exec];rw[H x (by simp[Ak.Z])]
 | len c x =>
  simp only[exec];rw[<-H x (by simp[Ak.Z]),qi (hn x (by simp[Ak.Z]))]
 | append k ty s x =>
  have U:=hn s (by simp[Ak.Z]);simp only[exec];rw[<-H x (by simp[Ak.Z]),<-H s (by simp[Ak.Z]),On (hn x (by simp[Ak.Z]))];cases hv:s.ev tm with
  | arr J k' o n =>
   rw[hv] at U;have:=U J (by simp[PV.names]);cases C0 σ' k (x.ev tm) with
   | none=>rfl
   | some ys=>show (match σ J with | some (.arr ku kt Z)=>_ | _=>none)=_;rw[this];rfl
  | sl k' Z full=>cases full<;>rfl
  | _=>rfl
 | copy k d s =>
  have U:=hn d (by simp[Ak.Z]);simp only[exec];rw[<-H s (by simp[Ak.Z]),<-H d (by simp[Ak.Z]),On (hn s (by simp[Ak.Z]))];cases hv:d.ev tm with
  | arr J k' o n =>
   rw[hv] at U;simp only
   rw[U _ (by simp[PV.names])]
  | sl k' Z full=>cases Z<;>rfl
  | _=>rfl
 | ij mx Z=>simp only[exec];rw[F5 (Z:=Z) H]
 | call f args=>rfl
 | iter x=>simp only[exec];rw[H x (by simp[Ak.Z])]
 | next x =>
  have U:=hn x (by simp[Ak.Z]);simp only[exec];rw[<-H x (by simp[Ak.Z])];cases hv:x.ev tm<;>first | rfl | skip
  all_goals (rw[hv] at U;(try simp only);rw[U _ (by simp[PV.names])])
 | gZ t z ok x=>simp only[exec];rw[H x (by simp[Ak.Z])]
 | bad=>rfl
theorem VM (op:Ak) (hb:Dv op=true) (H:∀ x∈op.Z,x.ev tm=x.ev kG):exec dst σ tm op=exec dst σ' kG op:=by
 cases op<;>simp only[Dv] at hb<;>first | (cases hb;done) | skip
 case mov x=>simp only[exec];rw[H x (by simp[Ak.Z])]
 case pick c a b=>simp only[exec];rw[H c (by simp[Ak.Z]),H a (by simp[Ak.Z]),H b (by simp[Ak.Z])]
 case nilck x=>simp only[exec];rw[H x (by simp[Ak.Z])]
 case mkI t x=>simp only[exec];rw[H x (by simp[Ak.Z])]
 case mkF f cap=>simp only[exec];rw[F5 (Z:=cap) H]
 case fieldAddr off x=>simp only[exec];rw[H x (by simp[Ak.Z])]
 case extract j x=>simp only[exec];rw[H x (by simp[Ak.Z])]
 case slice k x lo hi mx =>
  simp only[Ak.Z] at H;simp only[exec];rw[H x (by simp),II (x:=lo) fun y hy=>H y (by simp at hy |-;simp[hy]),II (x:=hi) fun y hy=>H y (by simp at hy |-;simp[hy]),II (x:=mx) fun y hy=>H y (by simp at hy |-;simp[hy])]
theorem WR (op:Ak) (hb:DB op=true) (H:∀ x∈op.Z,x.ev tm=x.ev kG) (oU:Ag (Al (op.Z.map (RX.ev tm))) σ σ'):exec dst σ tm op=exec dst σ' kG op:=by
 cases op<;>simp only[DB] at hb<;>first | (cases hb;done) | skip
 case load n ag x =>
  have lX:=H x (by simp[Ak.Z]);have h:∀ J∈(x.ev tm).names,σ J=σ' J:=fun J hn=>oU J (by simpa[Ak.Z,Al] using hn);simp only[exec,<-lX];cases fG:x.ev tm with
  | ref J o=>simp only[h J (by rw[fG];simp[PV.names])]
  | fO J k i o=>simp only[h J (by rw[fG];simp[PV.names])]
  | _=>rfl
theorem VK (op:Ak) (hb:GN op=true) (H:∀ x∈op.Z,x.ev tm=x.ev kG) (oU:Ag (Al (op.Z.map (RX.ev tm))) σ σ'):exec dst σ tm op=exec dst σ' kG op:=by
 cases op<;>simp only[GN] at hb<;>first | (cases hb;done) | skip
 case store n x v =>
  have lX:=H x (by simp[Ak.Z]);have hve:=H v (by simp[Ak.Z]);have h:∀ J∈(x.ev tm).names,σ J=σ' J:=fun J hn=>oU J (by simp[Ak.Z,Al,hn]);simp only[exec,<-lX,<-hve];cases fG:x.ev tm with
  | ref J o=>simp only[h J (by rw[fG];simp[PV.names])]
  | fO J k i o=>simp only[h J (by rw[fG];simp[PV.names])]
  | _=>rfl
def PE (sp:eU->(Nm->fe)->fa->fj):Prop:=∀ (g:eU) (σ σ':Nm->fe) (A:fa),Ag (AA σ Ax (Al A)) σ σ'->sp g σ A=sp g σ' A
def NL (σ σ':Nm->fe) (out:Ai):Prop:=(A6 out=true\/Ck out=true)\/(out.gv=[]/\∀ r,out.slot=some r->∀ j,(σ (r,j)).isNone=(σ' (r,j)).isNone)
def PF (io:eU->Nat->(Nm->fe)->fa->fj):Prop:=∀ (g:eU) (d:Nat) (σ σ':Nm->fe) (A:fa) (out:Ai),Ag (AA σ Ax (Al A)) σ σ'->io g d σ A=some out->NL σ σ' out->io g d σ' A=some out
structure Em (M:AC):Prop where
 sp:PE M.sp
 io:PF M.io
theorem OR:∀ {Z:fa},A2 Z=false↔∀ x∈Z,x.gq=false
 | []=>by simp[A2]
 | x :: Z=>by simp[A2,OR (Z:=Z)]
theorem Mz {J:Nm}:∀ {Z:fa},J∈Al Z↔∃ x∈Z,J∈x.names
 | []=>by simp[Al]
 | x :: Z=>by simp[Al,Mz (Z:=Z)]
theorem Sc {f:eU} {A cap:fa} {x:PV} (h:x∈A7 f A cap):x∈A\/x∈cap:=by
 unfold A7 at h;split at h;{exact bS.1 h}
 ·rcases bS.1 h with h | h;{exact .inr (cC h)}
  {rcases bS.1 h with h | h;{exact .inl h};{exact .inr (cO h)}}
theorem VX (hM:Em M) {dep:Nat} {f:RX} {e e1:E} {out:Ai} (H:∀ x∈(f :: args),x.ev tm=x.ev kG) (hσ:Ag (AA σ Ax (Al ((f :: args).map (RX.ev tm)))) σ σ')
  (hy:A2 ((f :: args).map (RX.ev tm))=false) (hH:NL σ σ' out) (hc:BU M h dep dst σ tm f args e=some (out,e1)):e1=e/\∀ e2:E,BU M h dep dst σ' kG f args e2=some (out,e2):=by
 have hf:=H f bN;have ha:=F5 (Z:=args) fun x h=>H x (bM _ h);have hyf:(f.ev tm).gq=false:=(di.1 hy).1;have hya:A2 (args.map (RX.ev tm))=false:=(di.1 hy).2;unfold BU at hc |-;rw[<-hf,<-ha];cases hv:f.ev tm with
 | fT d=>rw[hv] at hyf;simp[PV.gq] at hyf
 | fn g cap =>
  rw[hv] at hc hyf;simp only[PV.gq] at hyf;have hyv:A2 (A7 g (args.map (RX.ev tm)) cap)=false:=OR.2 fun x H=>(Sc H).elim (OR.1 hya x) (OR.1 hyf x)
  have jM:∀ J∈Al (A7 g (args.map (RX.ev tm)) cap),J∈Al ((f :: args).map (RX.ev tm)):=by
   intro J hn;obtain⟨x,H,hn⟩:=Mz.1 hn;rcases Sc H with h | h;{exact bT _ (Mz.2 ⟨x,h,hn⟩)}
   {refine bO _ ?_;rw[hv];simp only[PV.names];exact Mz.2 ⟨x,h,hn⟩}
  have hσ2:Ag (AA σ Ax (Al (A7 g (args.map (RX.ev tm)) cap))) σ σ':=fun J hn=>hσ J (ID _ _ _ jM J hn);simp only at hc |-;rw[<-hM.sp (AG g) σ σ' _ hσ2,<-JI _ _ hσ2,<-RP hσ2,<-HL (f:=A3 σ) (g:=A3 σ') _ (Mp hσ2)];split at hc
  {rename_i out1 gR;cases hc;exact⟨rfl,fun e2=>by simp⟩};{rename_i gR;split at hc;{rename_i jj;simp only[jj,eF];split at hc;{rename_i out1 ho;cases hc;exact⟨rfl,fun e2=>by simp[hM.io (AG g) dst σ σ' _ _ hσ2 ho hH]⟩};{cases hc}};rename_i jj;simp only[jj,bL,eE];rw[hyv] at hc |-;simp only[bL,eE] at hc |-;split at hc;{rename_i hS;split at hc;{rename_i r obs u jN;cases hc;exact⟨rfl,fun e2=>by simp[hS,jN]⟩};{cases hc}};{rename_i hS;obtain⟨hk,oR⟩:=CH hc;split at oR;{rename_i r obs u jN;cases oR;exact⟨rfl,fun e2=>by simp[hS,hk,jN,Ap]⟩};{cases oR}}}
 | _=>rw[hv] at hc;simp at hc
end
end Go.Ab


namespace Go.Ab
variable{Q:Exit->Act->eS->Prop} {S:fh} {acc:List (Nat×Nat)} {ag:Bool} {args:fu} {c l ord:fc} {cs tm kG:fa} {d' da db dst ro:fb} {ds:List eZ} {f x:RX} {g:PV->PV} {i id j n s y:Nat} {ia ib info:Bf} {k:Option Nm} {ln:Nat->Nat} {new:fg} {J:Nm} {oa:Ai} {jo:Ob} {fA:List fg} {op:Ak} {fZ:St} {u:Option (Nm×Ob)} {v:PV} {σ σ':Nm->fe}
section swap
variable {M:AC} {E:Type} {h:AB E} {dep:Nat} {fY:fq}
theorem KR {o:Av} {V:St} {e e1:E} {out:Ai} (H:AX M h dep fY i o V e=some (out,e1,info)):info.dst=o.dst:=by
 unfold AX at H;split at H
 ·split at H;·cases H;rfl
  {cases H}
 {cases H;rfl};{cases H}
theorem V0 (op:Ak):Cz op=true->∃ f args,op=.call f args:=by cases op<;>simp[Cz]
theorem IE (h:∀ s∈l,tm.getD s .undef=kG.getD s .undef):(l.flatMap fun s=>(kG.getD s .undef).names)=l.flatMap fun s=>(tm.getD s .undef).names:=by rw[dX,dX,b9 fun s hs=>by rw[<-h s hs]]
theorem UO (h:∀ x∈op.Z,x.ev tm=x.ev kG):EV op tm=EV op kG:=by
 cases op<;>try rfl
 rename_i f args;unfold EV;simp only
 rw[h f (by simp[Ak.Z]),F5 (Z:=args) fun x H=>h x (by simp[Ak.Z,H])]
theorem Vu (h:∀ x∈op.Z,x.ev tm=x.ev kG):GC op tm v=GC op kG v:=by
 cases op<;>try rfl
 rename_i n ag x;unfold GC;simp only
 rw[h x (by simp[Ak.Z])]
theorem U8 (h:∀ x∈op.Z,x.ev tm=x.ev kG):HG dst op tm=HG dst op kG:=by
 cases op<;>cases dst<;>try rfl
 rename_i n x v;unfold HG;simp only
 rw[h x (by simp[Ak.Z])]
theorem Wb:HG dst (.load n ag x) tm=none:=by cases dst<;>rfl
theorem qj:HG dst (.call f args) tm=none:=by cases dst<;>rfl
theorem Xm {out:Ai} (h:A6 out=true\/Ck out=true):out.slot=none:=by rcases h with h | h;{unfold A6 at h;simp only[bz,dj] at h;exact h.2};{unfold Ck at h;simp only[bz,dj] at h;exact h.1.2}
theorem D7 (hM:Em M) {o:Av} {V st':St} {e e1:E} {out:Ai} (H:AX M h dep fY i o V e=some (out,e1,info)) (hc:info.cls=.quiet\/info.cls=.turns)
  (U:∀ s∈info.reads,V.tmps.getD s .undef=st'.tmps.getD s .undef) (O:∀ J∈info.rn,Aa V.fA J=Aa st'.fA J) (h3:BQ o st'=BQ o V) :
  (A6 out=true\/Ck out=true)/\e1=e/\∀ e2:E,AX M h dep fY i o st' e2=some (out,e2,info):=by
 have hw:(∀ s∈Ca fY o,V.tmps.getD s .undef=st'.tmps.getD s .undef)->BB fY o st'.tmps=BB fY o V.tmps:=by
  intro hg;unfold BB Ca at *;cases sJ:o.guard with
  | none=>rfl
  | some jw =>
   obtain⟨j,want⟩:=jw;rw[sJ] at hg;simp only at hg |-;cases hj:fY[j]? with
   | none=>rfl
   | some p =>
    rw[hj] at hg;simp only at hg |-;cases hd:p.dst with
    | none=>rfl
    | some d =>
     rw[hd] at hg;simp only
     rw[hg d (by simp)]
 unfold AX at H;split at H
 ·rename_i mi;split at H
  ·rename_i lY iw fU;cases H;simp only[Cl] at U O hc
   have oV:(Cz o.op&&A2 (o.op.Z.map (RX.ev V.tmps)))=false:=by
    cases hb:(Cz o.op&&A2 (o.op.Z.map (RX.ev V.tmps))) with
    | false=>rfl
    | true =>
     cases hy:EV o.op V.tmps<;>simp[hb,hy] at hc
   have hyn:Cz o.op=true->A2 (o.op.Z.map (RX.ev V.tmps))=false:=fun h=>by rw[h] at oV;simpa using oV
   have hH:A6 out=true\/Ck out=true:=by
    rw[oV] at hc;cases hb:A6 out with
    | true=>exact .inl rfl
    | false =>
     cases pR:Ck out with
     | true=>exact .inr rfl
     | false=>rw[hb,pR] at hc;cases hb3:ES out<;>simp[hb3] at hc
   have iA:∀ x∈o.op.Z,x.ev V.tmps=x.ev st'.tmps:=by
    intro x H;cases x with
    | c v=>rfl
    | t s=>exact U s (bO _ (dJ.2 ⟨.t s,H,rfl⟩))
   have kC:=h3;have hwt':=hw fun s hs=>U s (bT _ hs);have iX:(Dv o.op&&A6 out)=false->Ag (AA (Aa V.fA) (EI o.op (A6 out)) (Al (o.op.Z.map (RX.ev V.tmps))++out.gv)) (Aa V.fA) (Aa st'.fA):=fun hb=>by unfold Cg at O;rw[eG (by rw[hb];simp)] at O;exact O
   have n9:Cg o st' out=Cg o V out:=by
    unfold Cg;rw[<-F5 iA];cases hb:(Dv o.op&&A6 out) with
    | true=>rfl
    | false=>rw[<-JI _ _ (iX hb)]
   have nQ:Fj (Aa st'.fA) (Cg o V out)=Fj (Aa V.fA) (Cg o V out):=by unfold Fj;rw[dX,dX,b9 fun J hn=>by rw[<-O J hn]]
   have hup:out.gC=[]:=by rcases hH with hs | hs;{unfold A6 at hs;simp only[bz,bZ] at hs;exact hs.1.2};{unfold Ck at hs;simp only[bz,bZ] at hs;exact hs.1.1.2}
   have tX:Cl fY i o st' out=Cl fY i o V out:=by unfold Cl;rw[n9,nQ,<-UO iA,<-F5 iA,IE U,<-Vu iA,hup,<-U8 iA,Xm hH];rfl
   have h2s:(Dv o.op&&A6 out)=false->Ag (AA (Aa V.fA) (EI o.op (A6 out)) (Al (o.op.Z.map (RX.ev V.tmps)))) (Aa V.fA) (Aa st'.fA):=fun hb J hn =>
    iX hb J (ID _ _ _ (fun m hm=>bO _ hm) J hn)
   unfold Br at fU;obtain⟨hf,fU⟩:=AK fU
   have key:e1=e/\∀ e2:E,Br M h dep o st' e2=some (out,e2):=by
    unfold Br;rw[kC,hf];cases nR:Cz o.op with
    | true =>
     obtain⟨f,args,kA⟩:=V0 _ nR;have hyn:=hyn nR;rw[kA] at fU iA h2s hyn;rw[kA];obtain⟨fU,mH⟩:=Oh fU;obtain⟨g1,g2⟩:=VX (σ:=Aa V.fA) (σ':=Aa st'.fA) (tm:=V.tmps) (kG:=st'.tmps) hM iA (h2s rfl) hyn (.inl hH) fU;exact⟨g1,fun e2=>by simp[Ap,g2 e2,mH]⟩
    | false =>
     have mj:exec (o.dst.getD 0) (Aa V.fA) V.tmps o.op=some out/\e1=e:=by cases kA:o.op<;>rw[kA] at fU nR<;>simp[Cz] at nR<;>(simp only at fU;split at fU<;>simp_all)
     have hcg:exec (o.dst.getD 0) (Aa V.fA) V.tmps o.op=exec (o.dst.getD 0) (Aa st'.fA) st'.tmps o.op:=by
      cases hb:(Dv o.op&&A6 out) with
      | true=>exact VM o.op (by revert hb;cases Dv o.op<;>simp) iA
      | false =>
       have oW:=h2s hb;unfold EI at oW;cases lZ:GN o.op with
       | true =>
        rw[eH (by rw[lZ];rfl)] at oW;exact VK o.op lZ iA oW
       | false =>
       cases hl:(DB o.op&&A6 out) with
       | true =>
        rw[eH (by rw[hl];simp)] at oW;exact WR o.op (by revert hl;cases DB o.op<;>simp) iA oW
       | false =>
        rw[eG (by rw[hl,lZ];simp)] at oW;exact Sf o.op iA oW
     rw[mj.1] at hcg;refine⟨mj.2,fun e2=>?_⟩;cases kA:o.op<;>rw[kA] at hcg nR<;>simp[Cz] at nR<;>simp[Ap,<-hcg]
   refine⟨hH,key.1,fun e2=>?_⟩;unfold AX;rw[hwt',mi];simp only[key.2 e2,tX]
  {cases H}
 {rename_i mi;cases H;refine⟨.inl rfl,rfl,fun e2=>?_⟩;unfold AX;rw[hw fun s hs=>U s hs,mi,IE U]};{cases H}
theorem Wt (fA:List fg) (r j:Nat):Aa fA (r,j)=(fA.getD r [])[j]?:=by unfold Aa;rw[bF];cases fA[r]?<;>rfl
theorem Vm (hM:Em M) {o:Av} {V st':St} {e e1:E} {out:Ai} (H:AX M h dep fY i o V e=some (out,e1,info)) (hc:info.cls=.quiet\/info.cls=.turns\/info.cls=.ios)
  (U:∀ s∈info.reads,V.tmps.getD s .undef=st'.tmps.getD s .undef) (O:∀ J∈info.rn,Aa V.fA J=Aa st'.fA J) (h3:BQ o st'=BQ o V)
  (h4:(∀ p∈out.gC,Aa V.fA p.1=Aa st'.fA p.1)/\∀ r,out.slot=some r->st'.fA.getD r []=V.fA.getD r []) :
  e1=e/\∀ e2:E,AX M h dep fY i o st' e2=some (out,e2,info):=by
 have hw:(∀ s∈Ca fY o,V.tmps.getD s .undef=st'.tmps.getD s .undef)->BB fY o st'.tmps=BB fY o V.tmps:=by
  intro hg;unfold BB Ca at *;cases sJ:o.guard with
  | none=>rfl
  | some jw =>
   obtain⟨j,want⟩:=jw;rw[sJ] at hg;simp only at hg |-;cases hj:fY[j]? with
   | none=>rfl
   | some p =>
    rw[hj] at hg;simp only at hg |-;cases hd:p.dst with
    | none=>rfl
    | some d =>
     rw[hd] at hg;simp only
     rw[hg d (by simp)]
 unfold AX at H;split at H
 ·rename_i mi;split at H
  ·rename_i lY iw fU;cases H;simp only[Cl] at U O hc
   have oV:(Cz o.op&&A2 (o.op.Z.map (RX.ev V.tmps)))=false:=by
    cases hb:(Cz o.op&&A2 (o.op.Z.map (RX.ev V.tmps))) with
    | false=>rfl
    | true =>
     cases hy:EV o.op V.tmps<;>simp[hb,hy] at hc
   have hyn:Cz o.op=true->A2 (o.op.Z.map (RX.ev V.tmps))=false:=fun h=>by rw[h] at oV;simpa using oV
   have hH:NL (Aa V.fA) (Aa st'.fA) out:=by
    rw[oV] at hc;cases hb:A6 out with
    | true=>exact .inl (.inl hb)
    | false =>
     cases pR:Ck out with
     | true=>exact .inl (.inr pR)
     | false =>
      cases hb3:ES out with
      | false=>rw[hb,pR,hb3] at hc;simp at hc
      | true =>
       unfold ES at hb3;simp only[bz,bZ] at hb3;exact .inr ⟨hb3.1.2,fun r hr j=>by rw[Wt,Wt,h4.2 r hr]⟩
   have iA:∀ x∈o.op.Z,x.ev V.tmps=x.ev st'.tmps:=by
    intro x H;cases x with
    | c v=>rfl
    | t s=>exact U s (bO _ (dJ.2 ⟨.t s,H,rfl⟩))
   have kC:=h3;have hwt':=hw fun s hs=>U s (bT _ hs);have iX:(Dv o.op&&A6 out)=false->Ag (AA (Aa V.fA) (EI o.op (A6 out)) (Al (o.op.Z.map (RX.ev V.tmps))++out.gv)) (Aa V.fA) (Aa st'.fA):=fun hb=>by unfold Cg at O;rw[eG (by rw[hb];simp)] at O;exact O
   have n9:Cg o st' out=Cg o V out:=by
    unfold Cg;rw[<-F5 iA];cases hb:(Dv o.op&&A6 out) with
    | true=>rfl
    | false=>rw[<-JI _ _ (iX hb)]
   have nQ:Fj (Aa st'.fA) (Cg o V out)=Fj (Aa V.fA) (Cg o V out):=by unfold Fj;rw[dX,dX,b9 fun J hn=>by rw[<-O J hn]]
   have hup:out.gC.map (fun p=>(p.1,Aa st'.fA p.1))=out.gC.map (fun p=>(p.1,Aa V.fA p.1)):=b9 fun p hp=>by rw[h4.1 p hp]
   have nx:out.slot.map (fun r=>(r,(st'.fA.getD r []).length))=out.slot.map (fun r=>(r,(V.fA.getD r []).length)):=by
    cases hs:out.slot with
    | none=>rfl
    | some r=>simp only[bG];rw[h4.2 r hs]
   have tX:Cl fY i o st' out=Cl fY i o V out:=by unfold Cl;rw[n9,nQ,<-UO iA,<-F5 iA,IE U,<-Vu iA,hup,<-U8 iA,nx]
   have h2s:(Dv o.op&&A6 out)=false->Ag (AA (Aa V.fA) (EI o.op (A6 out)) (Al (o.op.Z.map (RX.ev V.tmps)))) (Aa V.fA) (Aa st'.fA):=fun hb J hn =>
    iX hb J (ID _ _ _ (fun m hm=>bO _ hm) J hn)
   unfold Br at fU;obtain⟨hf,fU⟩:=AK fU
   have key:e1=e/\∀ e2:E,Br M h dep o st' e2=some (out,e2):=by
    unfold Br;rw[kC,hf];cases nR:Cz o.op with
    | true =>
     obtain⟨f,args,kA⟩:=V0 _ nR;have hyn:=hyn nR;rw[kA] at fU iA h2s hyn;rw[kA];obtain⟨fU,mH⟩:=Oh fU;obtain⟨g1,g2⟩:=VX (σ:=Aa V.fA) (σ':=Aa st'.fA) (tm:=V.tmps) (kG:=st'.tmps) hM iA (h2s rfl) hyn hH fU;exact⟨g1,fun e2=>by simp[Ap,g2 e2,mH]⟩
    | false =>
     have mj:exec (o.dst.getD 0) (Aa V.fA) V.tmps o.op=some out/\e1=e:=by cases kA:o.op<;>rw[kA] at fU nR<;>simp[Cz] at nR<;>(simp only at fU;split at fU<;>simp_all)
     have hcg:exec (o.dst.getD 0) (Aa V.fA) V.tmps o.op=exec (o.dst.getD 0) (Aa st'.fA) st'.tmps o.op:=by
      cases hb:(Dv o.op&&A6 out) with
      | true=>exact VM o.op (by revert hb;cases Dv o.op<;>simp) iA
      | false =>
       have oW:=h2s hb;unfold EI at oW;cases lZ:GN o.op with
       | true =>
        rw[eH (by rw[lZ];rfl)] at oW;exact VK o.op lZ iA oW
       | false =>
       cases hl:(DB o.op&&A6 out) with
       | true =>
        rw[eH (by rw[hl];simp)] at oW;exact WR o.op (by revert hl;cases DB o.op<;>simp) iA oW
       | false =>
        rw[eG (by rw[hl,lZ];simp)] at oW;exact Sf o.op iA oW
     rw[mj.1] at hcg;refine⟨mj.2,fun e2=>?_⟩;cases kA:o.op<;>rw[kA] at hcg nR<;>simp[Cz] at nR<;>simp[Ap,<-hcg]
   refine⟨key.1,fun e2=>?_⟩;unfold AX;rw[hwt',mi];simp only[key.2 e2,tX]
  {cases H}
 {rename_i mi;cases H;refine⟨rfl,fun e2=>?_⟩;unfold AX;rw[hw fun s hs=>U s hs,mi,IE U]};{cases H}
theorem Mu {V:St} {out:Ai} (hs:A6 out=true):apply V dst out=match dst with
  | some d=>{V with tmps:=V.tmps.set d out.v,fA:=if out.new.isEmpty then V.fA else V.fA.set d out.new}
  | none=>V:=by
 unfold A6 at hs;simp only[bz,dj,bZ] at hs;obtain⟨⟨⟨⟨⟨U,O⟩,h3⟩,h4⟩,h5⟩,h6⟩:=hs;unfold apply;rw[U,O,h3,h4,h5,h6];cases dst<;>simp
theorem Hh {V:St} {out:Ai} (hs:A6 out=true) (h:s ∉ dst.toList):(apply V dst out).tmps.getD s .undef=V.tmps.getD s .undef:=by
 rw[Mu hs];cases dst with
 | none=>rfl
 | some d =>
  have gj:d≠s:=fun e=>h (by simp[e]);simp only[bF,bR gj]
theorem F6 {V:St} {out:Ai} (hs:A6 out=true) (h:J.1 ∉ dst.toList):Aa (apply V dst out).fA J=Aa V.fA J:=by
 rw[Mu hs];cases dst with
 | none=>rfl
 | some d =>
  have gj:J.1≠d:=fun e=>h (by simp[e]);simp only
  split;{rfl};{exact DO _ gj}
theorem Ph {o:Av} {V st':St} (h:∀ d,o.dst=some d->((st'.fA[d]?).map List.isEmpty=(V.fA[d]?).map List.isEmpty)):BQ o st'=BQ o V:=by
 unfold BQ;cases hm:Dd o.op with
 | false=>rfl
 | true =>
  simp only[eF];cases hd:o.dst with
  | none=>rfl
  | some d =>
   have:=h d hd;simp only
   cases U:st'.fA[d]? with
   | none=>rw[U] at this;cases O:V.fA[d]? with
    | none=>rfl
    | some l=>rw[O] at this;cases this
   | some l'=>rw[U] at this;cases O:V.fA[d]? with
    | none=>rw[O] at this;cases this
    | some l =>
     rw[O] at this;simp only[bG,bC] at this;cases l<;>cases l'<;>simp_all
theorem He {V:St} {out:Ai} (hs:A6 out=true) {o:Av} (h:∀ d,o.dst=some d->d ∉ dst.toList):BQ o (apply V dst out)=BQ o V:=by
 refine Ph fun d' kF=>?_;have h:=h d' kF;rw[Mu hs];cases dst with
 | none=>rfl
 | some d =>
  have gj:d≠d':=fun e=>h (by simp[e]);simp only
  split;{rfl};{rw[bR gj]}
def Cf (u:Option (Nm×Ob)) (V:St):St :=
 match u with
 | some (J,ob)=>{V with fA:=AM V.fA J ob}
 | none=>V
def Ek (σ:Nm->fe) (R:fh) (V:St):St:=if R.isEmpty then V else BN σ R V
def De (k:Option Nm) (V:St):St :=
 match k with
 | some J=>Cd (fun m=>if m=J then some none else none) V
 | none=>V
def zs (o:Ai):fh:=o.gv++o.kill.toList
def BZ (dst:fb) (v:PV) (new:fg) (V:St):St :=
 match dst with
 | some d=>{V with tmps:=V.tmps.set d v,fA:=if new.isEmpty then V.fA else V.fA.set d new}
 | none=>V
theorem DP {V:St} {out:Ai} (hs:A6 out=true):apply V dst out=BZ dst out.v out.new V:=by rw[Mu hs];cases dst<;>rfl
theorem IC {V:St} {out:Ai} (hs:Ck out=true):apply V dst out=BZ dst out.v out.new (Ek (Aa V.fA) out.gv (De out.kill (Cf out.gA V))):=by unfold Ck at hs;simp only[bz,dj,bZ] at hs;obtain⟨⟨⟨O,h3⟩,h4⟩,_⟩:=hs;unfold apply;rw[O,h3,h4];unfold Ek;cases hu:out.gA<;>cases hk:out.kill<;>cases dst<;>cases hf:out.gv<;>simp[BZ,Cf,De]
theorem OL {d:fb} (h:∀ x∈d'.toList,x ∉ d.toList) (v v':PV) (n n':fg) (V:St):BZ d v n (BZ d' v' n' V)=BZ d' v' n' (BZ d v n V):=by
 cases d with
 | none=>rfl
 | some x =>
  cases d' with
  | none=>rfl
  | some y =>
   have gj:x≠y:=fun e=>h y (by simp) (by simp[e]);simp only[BZ,St.mk.injEq];refine⟨cR _ _ gj.symm,?_,trivial⟩;split<;>split<;>simp_all [cR]
theorem Wk {o:Ob} {d:Nat} (h:J.1≠d):AM (fA.set d new) J o=(AM fA J o).set d new:=by
 unfold AM;rw[bR (bW h)];cases hg:fA[J.1]? with
 | none=>rfl
 | some l=>simp only;rw[cR _ _ (bW h)]
theorem qk {d:fb} (h:∀ p,u=some p->p.1.1 ∉ d.toList) (v:PV) (n:fg) (V:St):Cf u (BZ d v n V)=BZ d v n (Cf u V):=by
 cases u with
 | none=>rfl
 | some p =>
  obtain⟨J,ob⟩:=p;cases d with
  | none=>rfl
  | some d =>
   have gj:J.1≠d:=fun e=>h _ rfl (by simp[e]);simp only[Cf,BZ,St.mk.injEq,true_and,and_true];split;{rfl};{exact Wk gj}
theorem tY {d:Nat}:∀ (R:fh) (fA:List fg),(∀ J∈R,J.1≠d)->R.foldl (fun fA J=>AM fA J AH) (fA.set d new)=(R.foldl (fun fA J=>AM fA J AH) fA).set d new:=by
 intro R;induction R with
 | nil=>intro fA _;rfl
 | cons J R ih =>
  intro fA h;simp only[cJ];rw[Wk (h J bN),ih _ fun m hm=>h m (bM _ hm)]
theorem Li (x:PV) {f:Nm->Option fe} (h:∀ J∈x.names,f J=none):x.sub f=x:=by rw[PV.sub_congr (f:=f) (g:=fun _=>none) x h];exact iW x
theorem ql {R:fh} {d:fb} {n:fg} (hσ:∀ J∈R,A3 σ' J=A3 σ J) (h:∀ J∈R,J.1 ∉ d.toList) (hv:R≠[]->∀ J∈v.names,J ∉ R) (hn:R≠[]->∀ o∈n,∀ J∈o.names,J ∉ R) (V:St) :
  Ek σ' R (BZ d v n V)=BZ d v n (Ek σ R V):=by
 unfold Ek;by_cases hR:R=[];{subst hR;rfl};have hE:R.isEmpty=false:=by cases R<;>simp_all
 have hf:(fun m=>if R.contains m then A3 σ' m else none)=(fun m=>if R.contains m then A3 σ m else none):=by funext m;by_cases hm:R.contains m=true;{rw[eH hm,eH hm,hσ m (by simpa using hm)]};{rw[eG hm,eG hm]}
 simp only[hE,bL,eE];unfold BN;rw[hf];generalize hg:(fun m=>if R.contains m then A3 σ m else none)=f;have kV:∀ J,J ∉ R->f J=none:=fun J h=>by rw[<-hg];simp only;rw[eG (by simpa using h)]
 cases d with
 | none=>rfl
 | some d =>
  have h':∀ J∈R,J.1≠d:=fun J hm e=>h J hm (by simp[e]);have kM:v.sub f=v:=Li v fun J hm=>kV J (hv hR J hm)
  have sH:n.map (Ob.sub f)=n:=by
   have:∀ o∈n,Ob.sub f o=o:=fun o ho=>by rw[Ob.sub_congr (f:=f) (g:=fun _=>none) o fun J hm=>kV J (hn hR o ho J hm)];exact Ob.iW o
   exact (b9 this).trans (List.map_id' n)
  have htm:AE f (V.tmps.set d v)=(AE f V.tmps).set d v:=by
   have key:∀ (l:fa),AE f l=l.map (PV.sub f):=by
    intro l;induction l with
    | nil=>rfl
    | cons x l ih=>simp only[AE,bP,ih]
   rw[key,key,dB,kM]
  simp only[BZ,Cd,St.mk.injEq,and_true];refine⟨htm,?_⟩;split;{rfl};{rw[dB,sH];exact tY R _ h'}
theorem MQ (f:Nm->Option fe):∀ (l:fa),AE f l=l.map (PV.sub f)
 | []=>rfl
 | x :: l=>by simp only[AE,bP,MQ f l]
theorem tZ {n:fg} {f:Nm->Option fe} (h:∀ o∈n,∀ J∈o.names,f J=none):n.map (Ob.sub f)=n:=by
 have:∀ o∈n,Ob.sub f o=o:=fun o ho=>by rw[Ob.sub_congr (f:=f) (g:=fun _=>none) o fun J hm=>h o ho J hm];exact Ob.iW o
 exact (b9 this).trans (List.map_id' n)
theorem aP {d:fb} {n:fg} (hv:∀ J∈v.names,J ∉ k.toList) (hn:∀ o∈n,∀ J∈o.names,J ∉ k.toList) (V:St):De k (BZ d v n V)=BZ d v n (De k V):=by
 cases k with
 | none=>rfl
 | some J =>
  cases d with
  | none=>rfl
  | some d =>
   have hf:∀ m,m ∉ (some J).toList->(if m=J then some none else none:Option fe)=none:=fun m hm=>eG fun e=>hm (by simp[e]);simp only[De,BZ,Cd,St.mk.injEq,and_true];refine⟨by rw[MQ,MQ,dB,Li v fun m hm=>hf m (hv m hm)],?_⟩;split;{rfl};{rw[dB,tZ fun o ho m hm=>hf m (hn o ho m hm)]}
theorem Np {out:Ai} (hz:zs out=[]):out.gv=[]/\out.kill=none:=by unfold zs at hz;obtain⟨U,O⟩:=d7.1 hz;exact⟨U,by cases hk:out.kill with | none=>rfl | some k=>rw[hk] at O;cases O⟩
theorem U3 {V:St} {out:Ai} (hs:Ck out=true) (hz:zs out=[]) (h:s ∉ dst.toList):(apply V dst out).tmps.getD s .undef=V.tmps.getD s .undef:=by
 rw[IC hs,(Np hz).1,(Np hz).2];have:(Cf out.gA V).tmps=V.tmps:=by cases out.gA<;>rfl
 cases dst with
 | none=>simp only[BZ,Ek,De,dg,eF];rw[this]
 | some d =>
  have gj:d≠s:=fun e=>h (by simp[e]);simp only[BZ,Ek,De,dg,eF,this,bF,bR gj]
theorem outD_vn {o:Av} {V:St} {e e1:E} {out:Ai} (H:AX M h dep fY i o V e=some (out,e1,info)):info.vn=info.reads.flatMap fun s=>(V.tmps.getD s .undef).names:=by
 unfold AX at H;split at H
 ·split at H;·cases H;rfl
  {cases H}
 {cases H;rfl};{cases H}
theorem YX {V:St} {out:Ai} (hs:Ck out=true) (h:s ∉ dst.toList) (hn:∀ J∈(V.tmps.getD s .undef).names,J ∉ zs out):(apply V dst out).tmps.getD s .undef=V.tmps.getD s .undef:=by
 rw[IC hs];have hu:(Cf out.gA V).tmps=V.tmps:=by cases out.gA<;>rfl
 have key:∀ (f:Nm->Option fe) (l:fa),(AE f l).getD s .undef=(l.getD s .undef).sub f:=by intro f l;rw[MQ,bF,bF,bK];cases l[s]?<;>rfl
 have hk:(De out.kill (Cf out.gA V)).tmps.getD s .undef=V.tmps.getD s .undef:=by
  cases hq:out.kill with
  | none=>exact eM (fun l=>l.getD s .undef) hu
  | some k =>
   show (AE _ (Cf out.gA V).tmps).getD s .undef=_;rw[hu,key];exact Li _ fun J hm=>eG fun e=>hn J hm (by unfold zs;rw[hq];simp[e])
 have hf:∀ σ,(Ek σ out.gv (De out.kill (Cf out.gA V))).tmps.getD s .undef=V.tmps.getD s .undef:=by intro σ;unfold Ek;split;{exact hk};{unfold BN;show (AE _ (De out.kill (Cf out.gA V)).tmps).getD s .undef=_;rw[key,hk];exact Li _ fun J hm=>by have:=hn J hm;rw[eG (by unfold zs at this;simp at this |-;exact this.1)]}
 cases dst with
 | none=>simp only[BZ];exact hf _
 | some d =>
  have gj:d≠s:=fun e=>h (by simp[e]);simp only[BZ];rw[bF,bR gj,<-bF];exact hf _
theorem U4 {V:St} {out:Ai} (hs:Ck out=true) (hz:zs out=[]) (ht:J ∉ DQ out) (h:J.1 ∉ dst.toList):Aa (apply V dst out).fA J=Aa V.fA J:=by
 rw[IC hs,(Np hz).1,(Np hz).2]
 have:Aa (Cf out.gA V).fA J=Aa V.fA J:=by
  unfold DQ at ht;cases hu:out.gA with
  | none=>rfl
  | some p =>
   obtain⟨m,ob⟩:=p;rw[hu] at ht;simp only[cc] at ht;exact EG ob ht
 cases dst with
 | none=>simp only[BZ,Ek,De,dg,eF];exact this
 | some d =>
  have gj:J.1≠d:=fun e=>h (by simp[e]);simp only[BZ,Ek,De,dg,eF];split;{exact this};{rw[DO _ gj];exact this}
theorem YY {V:St} {out:Ai} (hs:Ck out=true) (ht:J ∉ DQ out++zs out) (h:J.1 ∉ dst.toList) (hn:∀ ob,Aa V.fA J=some ob->∀ m∈ob.names,m ∉ zs out) :
  Aa (apply V dst out).fA J=Aa V.fA J:=by
 rw[IC hs]
 have hu:Aa (Cf out.gA V).fA J=Aa V.fA J:=by
  cases hq:out.gA with
  | none=>rfl
  | some p =>
   obtain⟨m,ob⟩:=p;exact EG ob fun e=>ht (bO _ (by unfold DQ;rw[hq];simp[e]))
 have jM:∀ {σ:List fg} {f:Nm->Option fe},Aa σ J=Aa V.fA J->(∀ m,m ∉ zs out->f m=none)->Aa (σ.map (·.map (Ob.sub f))) J=Aa V.fA J:=by
  intro σ f hσ hf;rw[DA,hσ];cases hq:Aa V.fA J with
  | none=>rfl
  | some ob =>
   simp only[bG,bC];rw[Ob.sub_congr (f:=f) (g:=fun _=>none) ob fun m hm=>hf m (hn ob hq m hm)];exact Ob.iW ob
 have hk:Aa (De out.kill (Cf out.gA V)).fA J=Aa V.fA J:=by
  cases hq:out.kill with
  | none=>exact hu
  | some k=>exact jM hu fun m hm=>eG fun e=>hm (by unfold zs;rw[hq];simp[e])
 have hf:Aa (Ek (Aa V.fA) out.gv (De out.kill (Cf out.gA V))).fA J=Aa V.fA J:=by
  unfold Ek;split;{exact hk}
  ·unfold BN;simp only
   rw[MI,eG fun hm=>ht (bT _ (bO _ hm))];exact jM hk fun m hm=>eG fun e=>hm (bO _ (by simpa using e))
 cases dst with
 | none=>exact hf
 | some d =>
  have gj:J.1≠d:=fun e=>h (by simp[e]);simp only[BZ];split;{exact hf};{rw[DO _ gj];exact hf}
theorem V9 {o:Av} {V:St} {e e1:E} {out:Ai} (fU:Br M h dep o V e=some (out,e1)) (hs:GN o.op=true):∃ p,out={v:=.undef,gA:=some p}:=by
 obtain⟨dst,op,gu⟩:=o;cases op<;>simp only[GN,bL] at hs;rename_i n x v;unfold Br at fU;obtain⟨_,fU⟩:=AK fU;simp only at fU;split at fU
 case h_2=>cases fU
 rename_i o2 hex;cases fU;simp only[exec] at hex;split at hex;{split at hex;{obtain⟨_,hex⟩:=AK hex;cases hex;exact⟨_,rfl⟩};·cases hex};{split at hex;{split at hex;{obtain⟨_,hex⟩:=AK hex;cases hex;exact⟨_,rfl⟩};{obtain⟨_,hex⟩:=AK hex;cases hex;exact⟨_,rfl⟩};·cases hex};{cases hex}};{cases hex}
theorem Wi (σ:Nm->fe):∀ d:Nat,AA σ d []=[]
 | 0=>rfl
 | d+1=>by simp[AA,Wi σ d]
theorem outD_rv {o:Av} {V:St} {e e1:E} {out:Ai} (H:AX M h dep fY i o V e=some (out,e1,info)):info.rv=if Jf o.op then [] else Fj (Aa V.fA) info.rn:=by
 unfold AX at H;split at H
 ·split at H;·cases H;rfl
  {cases H}
 {cases H;show ([]:fh)=_;cases Jf o.op<;>rfl};{cases H}
def E9 (g:PV->PV):Ob->Ob
 | .cells ty cs=>.cells ty (cs.map g)
 | .map es=>.map (es.map g)
 | o=>o
def Kq (g:PV->PV) (S:fh):Prop:=∀ v:PV,(∀ m∈v.names,m∈S)->g v=v
theorem qm (hg:Kq g S) {o n:Nat} (h:B1 cs o n ag=some v) (hv:∀ m∈v.names,m∈S):B1 (cs.map g) o n ag=some v:=by
 unfold B1 at h |-;cases ag with
 | true =>
  simp only[eF] at h |-;obtain⟨U,O⟩:=AK h;cases O;simp only[eI] at U;have e:((cs.map g).drop o).take n=(cs.drop o).take n:=by rw[<-List.map_drop,<-List.map_take];refine (b9 fun x H=>hg x fun m hm=>hv m ?_).trans (List.map_id' _);rw[PV.names];exact Us H m hm
  rw[e];simp[Ap,U]
 | false =>
  simp only[bL,eE] at h |-;rw[bK,h];exact eM some (hg v hv)
theorem YR {d:Nat} {n:Nat} {out:Ai} (h:exec d σ tm (.load n ag x)=some out) (hσ:∀ J∈(x.ev tm).names,∃ g,Kq g out.v.names/\σ' J=(σ J).map (E9 g)):exec d σ' tm (.load n ag x)=some out:=by
 simp only[exec] at h |-;cases H:x.ev tm with
 | ref J o =>
  rw[H] at h hσ;simp only at h |-;obtain⟨g,hg,hs⟩:=hσ J (by simp[PV.names]);rw[hs];cases hq:σ J with
  | none=>rw[hq] at h;cases h
  | some ob =>
   rw[hq] at h;cases ob with
   | cells ty cs =>
    simp only[bG,E9] at h |-;obtain⟨v,hv,rfl⟩:=bB.1 h;rw[qm hg hv fun m hm=>hm];rfl
   | arr k kt Z=>cases h
   | map es=>cases h
   | fW s pos=>cases h
 | fO J k i o =>
  rw[H] at h hσ;simp only at h |-;obtain⟨g,hg,hs⟩:=hσ J (by simp[PV.names]);rw[hs];cases hq:σ J with
  | none=>rw[hq] at h;cases h
  | some ob =>
   rw[hq] at h;cases ob with
   | cells ty cs=>cases h
   | arr k kt Z=>exact h
   | map es=>cases h
   | fW s pos=>cases h
 | _=>rw[H] at h;exact h
theorem ua {o:Av} {V:St} {e e1:E} {out:Ai} (H:AX M h dep fY i o V e=some (out,e1,info)) (hc:A6 out=true) (hl:DB o.op=false):info.rv=Fj (Aa V.fA) info.rn:=by
 have h0:=outD_rv H;cases hs:GN o.op with
 | false=>rw[h0];simp[Jf,hl,hs]
 | true =>
  unfold AX at H;split at H;{split at H;{rename_i lY e' fU;cases H;obtain⟨p,rfl⟩:=V9 fU hs;simp[A6] at hc};{cases H}};{cases H;rfl};{cases H}
theorem qn {o:Av} {V st':St} {e e1:E} {out:Ai} (H:AX M h dep fY i o V e=some (out,e1,info)) (hl:DB o.op=true)
  (U:∀ s∈info.reads,V.tmps.getD s .undef=st'.tmps.getD s .undef) (O:∀ J∈info.rn,∃ g,Kq g info.on/\Aa st'.fA J=(Aa V.fA J).map (E9 g)) :
  ∀ e2:E,AX M h dep fY i o st' e2=some (out,e2,info):=by
 intro e2;obtain⟨dst,op,gu⟩:=o;cases op<;>simp only[DB,bL] at hl;rename_i n ag x
 have hw:(∀ s∈Ca fY ⟨dst,.load n ag x,gu⟩,V.tmps.getD s .undef=st'.tmps.getD s .undef)->BB fY ⟨dst,.load n ag x,gu⟩ st'.tmps=BB fY ⟨dst,.load n ag x,gu⟩ V.tmps:=by
  intro hg;unfold BB Ca at *;cases sJ:gu with
  | none=>rfl
  | some jw =>
   obtain⟨j,want⟩:=jw;rw[sJ] at hg;simp only at hg |-;cases hj:fY[j]? with
   | none=>rfl
   | some p =>
    rw[hj] at hg;simp only at hg |-;cases hd:p.dst with
    | none=>rfl
    | some d =>
     rw[hd] at hg;simp only
     rw[hg d (by simp)]
 unfold AX at H |-;cases mi:BB fY ⟨dst,.load n ag x,gu⟩ V.tmps with
 | none=>rw[mi] at H;cases H
 | some b =>
  rw[mi] at H;cases b with
  | false =>
   simp only at H;cases H;rw[hw fun s hs=>U s hs,mi];simp only[bC,b8,true_and];congr 1;exact IE U
  | true =>
   simp only at H;cases fU:Br M h dep ⟨dst,.load n ag x,gu⟩ V e with
   | none=>rw[fU] at H;cases H
   | some q =>
    obtain⟨lY,e'⟩:=q;rw[fU] at H;simp only at H;obtain⟨rfl,rfl,rfl⟩:lY=out/\e'=e1/\Cl fY i ⟨dst,.load n ag x,gu⟩ V lY=info:=by simp only[bC,b8] at H;exact H
    have lX:x.ev V.tmps=x.ev st'.tmps:=by
     cases x with
     | c v=>rfl
     | t s=>exact U s (bO _ (dJ.2 ⟨.t s,by simp[Ak.Z],rfl⟩))
    unfold Br at fU;obtain⟨_,fU⟩:=AK fU;simp only at fU;cases hex:exec (dst.getD 0) (Aa V.fA) V.tmps (.load n ag x) with
    | none=>rw[hex] at fU;cases fU
    | some o2 =>
     rw[hex] at fU;simp only[bC,b8] at fU;obtain⟨rfl,rfl⟩:=fU;have lT:A6 o2=true:=by simp only[exec] at hex;split at hex;{split at hex;{obtain⟨v,_,rfl⟩:=bB.1 hex;rfl};·cases hex};{obtain⟨v,_,rfl⟩:=bB.1 hex;rfl};{split at hex;{split at hex;{obtain⟨_,hex⟩:=AK hex;obtain⟨v,_,rfl⟩:=bB.1 hex;rfl};{cases hex}};{cases hex}};{cases hex}
     have nS:o2.gv=[]:=by unfold A6 at lT;simp only[bz,bZ] at lT;exact lT.1.1.1.2
     have n9:∀ s:St,Cg ⟨dst,.load n ag x,gu⟩ s o2=(x.ev s.tmps).names:=by intro s;unfold Cg;rw[eG (by simp[Dv])];simp[EI,DB,lT,AA,Ak.Z,Al,nS]
     have hσ:∀ J∈(x.ev V.tmps).names,∃ g,Kq g o2.v.names/\Aa st'.fA J=(Aa V.fA J).map (E9 g):=by intro J hn;obtain⟨g,hg,hq⟩:=O J (by show J∈Cg ⟨dst,.load n ag x,gu⟩ V o2;rw[n9];exact hn);exact⟨g,fun v hv=>hg v fun m hm=>bO _ (hv m hm),hq⟩
     have hex2:=YR hex hσ;have hexd:exec (dst.getD 0) (Aa st'.fA) st'.tmps (.load n ag x)=some o2:=by rw[<-hex2];simp only[exec,lX]
     have ml:Br M h dep ⟨dst,.load n ag x,gu⟩ st' e2=some (o2,e2):=by unfold Br;simp[BQ,Dd,Ap,hexd]
     rw[hw fun s hs=>U s (bT _ hs),mi];simp only[ml,bC,b8,true_and];have hup:o2.gC=[]:=by unfold A6 at lT;simp only[bz,bZ] at lT;exact lT.1.2
     unfold Cl;simp only[n9,DB,eF,<-lX,hup,GC,cq,Wb,Xm (.inl lT),cS];congr 1;exact IE U
theorem YS {V:St} {out:Ai} (hs:Ck out=true) (ht:J ∉ DQ out++zs out) (h:J.1 ∉ dst.toList) (hS:∀ m∈S,m ∉ zs out) :
  ∃ g,Kq g S/\Aa (apply V dst out).fA J=(Aa V.fA J).map (E9 g):=by
 rw[IC hs]
 have hu:Aa (Cf out.gA V).fA J=Aa V.fA J:=by
  cases hq:out.gA with
  | none=>rfl
  | some p =>
   obtain⟨m,ob⟩:=p;exact EG ob fun e=>ht (bO _ (by unfold DQ;rw[hq];simp[e]))
 have mQ:∀ (f:Nm->Option fe) (x:fe),x.map (Ob.sub f)=x.map (E9 (PV.sub f)):=by
  intro f x;cases x with
  | none=>rfl
  | some ob=>cases ob<;>simp[Ob.sub,E9,MQ]
 have hcomp:∀ (g g':PV->PV) (x:fe),(x.map (E9 g)).map (E9 g')=x.map (E9 (g'∘g)):=by
  intro g g' x;cases x with
  | none=>rfl
  | some ob=>cases ob<;>simp[E9]
 have hk:∃ g,Kq g S/\Aa (De out.kill (Cf out.gA V)).fA J=(Aa V.fA J).map (E9 g):=by
  cases hq:out.kill with
  | none =>
   refine⟨id,fun v _=>rfl,?_⟩;show Aa (Cf out.gA V).fA J=_;rw[hu];cases Aa V.fA J with
   | none=>rfl
   | some ob=>cases ob<;>simp[E9]
  | some k =>
   refine⟨PV.sub fun m=>if m=k then some none else none,fun v hv=>Li v fun m hm=>eG fun e=>hS m (hv m hm) (by unfold zs;rw[hq,e];simp),?_⟩;show Aa ((Cf out.gA V).fA.map _) J=_;rw[DA,hu,mQ]
 obtain⟨g,hg,hk⟩:=hk
 have hf:∃ g,Kq g S/\Aa (Ek (Aa V.fA) out.gv (De out.kill (Cf out.gA V))).fA J=(Aa V.fA J).map (E9 g):=by
  unfold Ek;split;{exact⟨g,hg,hk⟩}
  ·unfold BN;simp only
   rw[MI,eG fun hm=>ht (bT _ (bO _ hm))];refine⟨PV.sub (fun m=>if out.gv.contains m then A3 (Aa V.fA) m else none)∘g,fun v hv=>?_,?_⟩;{show PV.sub _ (g v)=v;rw[hg v hv];exact Li v fun m hm=>eG fun e=>hS m (hv m hm) (bO _ (by simpa using e))};{show Aa ((De out.kill (Cf out.gA V)).fA.map _) J=_;rw[DA,hk,mQ,hcomp]}
 obtain⟨g2,hg2,hf⟩:=hf;refine⟨g2,hg2,?_⟩;cases dst with
 | none=>exact hf
 | some d =>
  have gj:J.1≠d:=fun e=>h (by simp[e]);simp only[BZ];split;{exact hf};{rw[DO _ gj];exact hf}
theorem ub {d:Nat}:∀ (R:fh) (fA:List fg),(∀ J∈R,J.1≠d)->(R.foldl (fun fA J=>AM fA J AH) fA)[d]?=fA[d]?:=by
 intro R;induction R with
 | nil=>intro fA _;rfl
 | cons J R ih =>
  intro fA h;simp only[cJ];rw[ih _ fun m hm=>h m (bM _ hm)];unfold AM;cases fA[J.1]? with
  | none=>rfl
  | some l=>simp only;rw[bR (h J bN)]
theorem RM {V:St} {out:Ai} (hs:Ck out=true) {o:Av} (h:∀ d,o.dst=some d->d ∉ dst.toList) (ht:∀ J∈DQ out++zs out,J.1 ∉ o.dst.toList):BQ o (apply V dst out)=BQ o V:=by
 refine Ph fun d' kF=>?_;have h:=h d' kF;rw[IC hs]
 have U:((Cf out.gA V).fA[d']?)=V.fA[d']?:=by
  cases hu:out.gA with
  | none=>rfl
  | some p =>
   obtain⟨m,ob⟩:=p;have:m.1≠d':=fun e=>ht m (bO _ (by unfold DQ;rw[hu];simp)) (by rw[kF,e];simp);simp only[Cf];unfold AM;cases V.fA[m.1]? with
   | none=>rfl
   | some l=>simp only;rw[bR this]
 have hk:((De out.kill (Cf out.gA V)).fA[d']?).map List.isEmpty=(V.fA[d']?).map List.isEmpty:=by
  cases out.kill with
  | none=>show ((Cf out.gA V).fA[d']?).map List.isEmpty=_;rw[U]
  | some k =>
   simp only[De,Cd];rw[bK,U];cases V.fA[d']? with
   | none=>rfl
   | some l=>cases l<;>rfl
 have O:((Ek (Aa V.fA) out.gv (De out.kill (Cf out.gA V))).fA[d']?).map List.isEmpty=(V.fA[d']?).map List.isEmpty:=by
  unfold Ek;split;{exact hk}
  ·unfold BN;simp only
   rw[ub _ _ fun J hn e=>ht J (bT _ (bO _ hn)) (by rw[kF,e];simp)];simp only[Cd];rw[bK,<-hk];cases (De out.kill (Cf out.gA V)).fA[d']? with
   | none=>rfl
   | some l=>cases l<;>rfl
 cases dst with
 | none=>exact O
 | some d =>
  have gj:d≠d':=fun e=>h (by simp[e]);simp only[BZ];split;{exact O};{rw[bR gj];exact O}
theorem E7 {a b:fc} (h:E8 a b=true):∀ x∈b,x ∉ a:=by intro x H ha;have:=bI.1 h x ha;simp at this;exact this H
theorem KI {o:Av} {V:St} {e e1:E} {out:Ai} (H:AX M h dep fY i o V e=some (out,e1,info)) :
  (info.cls=.quiet->A6 out=true)/\(info.cls=.turns->Ck out=true/\info.tch=DQ out++zs out/\info.gv=!(zs out).isEmpty/\∀ J∈AA (Aa V.fA) Ax out.gv,J∈info.rn) /\
   (∀ J∈out.v.names,J∈info.on)/\(∀ ob∈out.new,∀ J∈ob.names,J∈info.on):=by
 unfold AX at H;split at H
 ·split at H
  ·rename_i lY iw fU;cases H;unfold Cl;simp only
   refine⟨fun hc=>?_,fun hc=>?_,fun J hn=>bO _ hn,fun ob ho J hn=>bT _ (cp.2 ⟨ob,ho,hn⟩)⟩
   ·split at hc;{split at hc<;>cases hc}
    ·split at hc;{assumption}
     ·split at hc;·cases hc
      {split at hc<;>cases hc}
   ·split at hc;{split at hc<;>cases hc}
    ·split at hc;·cases hc
     ·rename_i sH;split at hc
      ·rename_i ht;refine⟨ht,rfl,rfl,fun J hn=>?_⟩;unfold Cg;rw[eG (by simp[sH])];cases kN:GN o.op with
       | true =>
        obtain⟨p,rfl⟩:=V9 fU kN;rw[Wi] at hn;cases hn
       | false =>
        rw[show EI o.op (A6 out)=Ax by unfold EI;rw[eG (by simp[sH,kN])]];exact ID _ _ _ (fun m hm=>bT _ hm) J hn
      {split at hc<;>cases hc}
  {cases H}
 {cases H;exact⟨fun _=>rfl,fun hc=>by (cases hc),fun J hn=>by (simp[PV.names,Al] at hn),fun ob ho=>by (cases ho)⟩};{cases H}
theorem YI {V:St} {dq dt:fb} {oq ot:Ai} (hq:A6 oq=true) (ht:Ck ot=true) (hd:∀ x∈dt.toList,x ∉ dq.toList) (kF:∀ x∈dq.toList,x ∉ dt.toList)
  (ny:∀ J∈DQ ot++zs ot,J.1 ∉ dq.toList) (hσ:∀ J∈ot.gv,A3 (Aa (apply V dq oq).fA) J=A3 (Aa V.fA) J)
  (hv:zs ot≠[]->∀ J∈oq.v.names,J ∉ zs ot) (hn:zs ot≠[]->∀ o∈oq.new,∀ J∈o.names,J ∉ zs ot):apply (apply V dq oq) dt ot=apply (apply V dt ot) dq oq:=by
 rw[IC (V:=apply V dq oq) ht,DP (V:=apply V dt ot) hq,IC ht];rw[DP hq] at hσ |-;have hz:∀ {J},J∈ot.gv\/J∈ot.kill.toList->zs ot≠[]/\J∈zs ot:=fun {J} h=>by have hm:J∈zs ot:=bS.2 h;exact⟨fun e=>by (rw[e] at hm;cases hm),hm⟩
 have gj:ot.gv≠[]->zs ot≠[]:=fun h e=>h (Np e).1
 rw[qk (fun p hp=>ny p.1 (bO _ (by unfold DQ;rw[hp];simp))),
  aP (fun J hm hk=>hv (hz (.inr hk)).1 J hm (hz (.inr hk)).2) (fun o ho J hm hk=>hn (hz (.inr hk)).1 o ho J hm (hz (.inr hk)).2),
  ql hσ (fun J hm=>ny J (bT _ (bO _ hm))) (fun h J hm hf=>hv (gj h) J hm (bO _ hf)) (fun h o ho J hm hf=>hn (gj h) o ho J hm (bO _ hf)),
  OL fun x H=>kF x H]
theorem swapD0 (hM:Em M) {a b:Av} {V:St} {e ea eb:E} {ob:Ai} (U:AX M h dep fY i a V e=some (oa,ea,ia)) (O:AX M h dep fY j b (apply V a.dst oa) ea=some (ob,eb,ib))
  (hi:(E8 ia.dst.toList (ib.reads++ib.dst.toList)&&E8 ib.dst.toList ia.reads&&E8 ia.dst.toList (ib.rn.map (·.1))&&E8 ib.dst.toList (ia.rn.map (·.1))&&T4 ia ib)=true):ea=e/\eb=e/\AX M h dep fY j b V e=some (ob,e,ib)/\AX M h dep fY i a (apply V b.dst ob) e=some (oa,e,ia)/\apply (apply V a.dst oa) b.dst ob=apply (apply V b.dst ob) a.dst oa:=by
 have da:=KR U;have db:=KR O;obtain⟨fa1,fa2,fa3,fa4⟩:=KI U;obtain⟨fb1,fb2,fb3,fb4⟩:=KI O;simp only[bz] at hi;obtain⟨⟨⟨⟨g1,g2⟩,g3⟩,g4⟩,hC⟩:=hi;rw[da] at g1 g3;rw[db] at g1 g2 g4;have g1:=E7 g1;have g2:=E7 g2;have g3:=E7 g3;have g4:=E7 g4;have gd:∀ x∈b.dst.toList,x ∉ a.dst.toList:=fun x H=>g1 x (bT _ H);have uc:∀ x∈a.dst.toList,x ∉ b.dst.toList:=fun x H kb=>gd x kb H;have gb:∀ d,b.dst=some d->d ∉ a.dst.toList:=fun d hd=>gd d (by rw[hd];simp);have ga:∀ d,a.dst=some d->d ∉ b.dst.toList:=fun d hd=>uc d (by rw[hd];simp);have nz:∀ (l:fh) (t:fh),(l.all fun J=>!t.contains J)=true->∀ J∈l,J ∉ t:=fun l t hl J hm ht=>by have:=bI.1 hl J hm;simp at this;exact this ht
 unfold T4 at hC;split at hC
 ·
  rename_i ca cb;have sa:=fa1 ca;have sb:=fb1 cb;obtain⟨_,ea',_⟩:=D7 hM (st':=V) U (by rw[ca];simp) (fun _ _=>rfl) (fun _ _=>rfl) rfl;subst ea'
  obtain⟨_,eb',mb⟩:=D7 hM (st':=V) O (by rw[cb];simp) (fun s hs=>Hh sa (g1 s (bO _ hs))) (fun J hn=>F6 sa (g3 J.1 (bA.2 ⟨J,hn,rfl⟩)))
   (He sa gb).symm
  subst eb'
  obtain⟨_,_,ma⟩:=D7 hM (st':=apply V b.dst ob) U (by rw[ca];simp) (fun s hs=>(Hh sb (g2 s hs)).symm) (fun J hn=>(F6 sb (g4 J.1 (bA.2 ⟨J,hn,rfl⟩))).symm)
   (He sb ga)
  refine⟨rfl,rfl,mb _,ma _,?_⟩;rw[DP sa,DP sb,DP sb,DP sa];exact OL uc _ _ _ _ _
 ·
  rename_i ca cb;have sa:=fa1 ca;obtain⟨sb,tb,zb,rb⟩:=fb2 cb;unfold PX at hC;simp only[bz,dW] at hC;obtain⟨⟨c1,c2⟩,c3⟩:=hC;have c1:=nz _ _ c1;rw[da] at c2;have c2:=E7 c2;rw[tb] at c1 c2;have ny:∀ J∈DQ ob++zs ob,J.1 ∉ a.dst.toList:=fun J hm=>c2 J.1 (bA.2 ⟨J,hm,rfl⟩);obtain⟨_,ea',_⟩:=D7 hM (st':=V) U (by rw[ca];simp) (fun _ _=>rfl) (fun _ _=>rfl) rfl;subst ea'
  obtain⟨_,eb',mb⟩:=D7 hM (st':=V) O (by rw[cb];simp) (fun s hs=>Hh sa (g1 s (bO _ hs))) (fun J hn=>F6 sa (g3 J.1 (bA.2 ⟨J,hn,rfl⟩)))
   (He sa gb).symm
  subst eb'
  have hz:zs ob=[]\/((∀ s∈ia.reads,∀ J∈(V.tmps.getD s .undef).names,J ∉ zs ob)/\(DB a.op=false->∀ J∈ia.rn,∀ x,Aa V.fA J=some x->∀ m∈x.names,m ∉ zs ob)/\∀ J∈ia.on,J ∉ zs ob):=by
   rcases c3 with c3 | c3
   {rw[zb] at c3;exact .inl (by simpa using c3)};{obtain⟨⟨c5,c4⟩,c6⟩:=c3;simp only[eF] at c4 c5;refine .inr ⟨fun s hs J hn hf=>?_,fun hnl J hn x H m hm hf=>?_,fun J hn hf=>?_⟩;{have:=nz _ _ c4 J (by rw[outD_vn U];exact cp.2 ⟨s,hs,hn⟩);rw[tb] at this;exact this (bT _ hf)};{have:=nz _ _ c5 m (by rw[ua U sa hnl];exact cp.2 ⟨J,hn,by rw[H];exact hm⟩);rw[tb] at this;exact this (bT _ hf)};{have:=nz _ _ c6 J hn;rw[tb] at this;exact this (bT _ hf)}}
  have oX:∀ s∈ia.reads,V.tmps.getD s .undef=(apply V b.dst ob).tmps.getD s .undef:=fun s hs=>by rcases hz with hz | hz;{exact (U3 sb hz (g2 s hs)).symm};{exact (YX sb (g2 s hs) (hz.1 s hs)).symm}
  have ma:∀ e2:E,AX M h dep fY i a (apply V b.dst ob) e2=some (oa,e2,ia):=by
   rcases hz with hz | hz;{exact (D7 hM (st':=apply V b.dst ob) U (by rw[ca];simp) oX (fun J hn=>(U4 sb hz (fun hu=>c1 J hn (bO _ hu)) (g4 J.1 (bA.2 ⟨J,hn,rfl⟩))).symm) (RM sb ga ny)).2.2}
   ·cases hl:DB a.op with
    | false=>exact (D7 hM (st':=apply V b.dst ob) U (by rw[ca];simp) oX (fun J hn=>(YY sb (c1 J hn) (g4 J.1 (bA.2 ⟨J,hn,rfl⟩)) (hz.2.1 hl J hn)).symm) (RM sb ga ny)).2.2
    | true=>exact qn U hl oX fun J hn=>YS sb (c1 J hn) (g4 J.1 (bA.2 ⟨J,hn,rfl⟩)) hz.2.2
  refine⟨rfl,rfl,mb _,ma _,YI sa sb gd uc ny (fun J hm=>?_) (fun gj J hn=>?_) fun gj o ho J hn=>?_⟩;{exact Mp (S:=ob.gv) (fun m hm=>F6 sa (g3 m.1 (bA.2 ⟨m,rb m hm,rfl⟩))) J hm};{rcases hz with hz | hz;{exact eQ hz gj};{exact hz.2.2 J (fa3 J hn)}};{rcases hz with hz | hz;{exact eQ hz gj};{exact hz.2.2 J (fa4 o ho J hn)}}
 ·
  rename_i ca cb;have sb:=fb1 cb;obtain⟨sa,ta,za,ra⟩:=fa2 ca;unfold PX at hC;simp only[bz,dW] at hC;obtain⟨⟨c1,c2⟩,c3⟩:=hC;have c1:=nz _ _ c1;rw[db] at c2;have c2:=E7 c2;rw[ta] at c1 c2;have ny:∀ J∈DQ oa++zs oa,J.1 ∉ b.dst.toList:=fun J hm=>c2 J.1 (bA.2 ⟨J,hm,rfl⟩)
  have hz:zs oa=[]\/(ib.reads=[]/\ib.rn=[]/\∀ J∈ib.on,J ∉ zs oa):=by
   rcases c3 with c3 | c3
   {rw[za] at c3;exact .inl (by simpa using c3)};{obtain⟨⟨c5,c4⟩,c6⟩:=c3;refine .inr ⟨by simpa using c4,by simpa using c5,fun J hn hf=>?_⟩;have:=nz _ _ c6 J hn;rw[ta] at this;exact this (bT _ hf)}
  obtain⟨_,ea',_⟩:=D7 hM (st':=V) U (by rw[ca];simp) (fun _ _=>rfl) (fun _ _=>rfl) rfl;subst ea'
  obtain⟨_,eb',mb⟩:=D7 hM (st':=V) O (by rw[cb];simp)
   (fun s hs=>by
    rcases hz with hz | hz;·exact U3 sa hz (g1 s (bO _ hs))
    ·rw[hz.1] at hs;cases hs)
   (fun J hn=>by
    rcases hz with hz | hz;·exact U4 sa hz (fun hu=>c1 J hn (bO _ hu)) (g3 J.1 (bA.2 ⟨J,hn,rfl⟩))
    ·rw[hz.2.1] at hn;cases hn)
   (RM sa gb ny).symm
  subst eb'
  obtain⟨_,_,ma⟩:=D7 hM (st':=apply V b.dst ob) U (by rw[ca];simp) (fun s hs=>(Hh sb (g2 s hs)).symm) (fun J hn=>(F6 sb (g4 J.1 (bA.2 ⟨J,hn,rfl⟩))).symm)
   (He sb ga)
  refine⟨rfl,rfl,mb _,ma _,(YI sb sa uc gd ny (fun J hm=>?_) (fun gj J hn=>?_) fun gj o ho J hn=>?_).symm⟩;{exact (Mp (S:=oa.gv) (fun m hm=>(F6 sb (g4 m.1 (bA.2 ⟨m,ra m hm,rfl⟩))).symm) J hm).symm};{rcases hz with hz | hz;{exact eQ hz gj};{exact hz.2.2 J (fb3 J hn)}};{rcases hz with hz | hz;{exact eQ hz gj};{exact hz.2.2 J (fb4 o ho J hn)}}
 {cases hC}
theorem S0 {o:Av} {V st':St} {e e1:E} {out:Ai} (H:AX M h dep fY i o V e=some (out,e1,info)) (hc:info.cls=.calls) (U:∀ s∈info.reads,V.tmps.getD s .undef=st'.tmps.getD s .undef) (h3:BQ o st'=BQ o V) :
  A6 out=true/\AX M h dep fY i o st' e=some (out,e1,info):=by
 obtain⟨dst,op,gu⟩:=o;unfold AX at H |-
 have hw:(∀ s∈Ca fY ⟨dst,op,gu⟩,V.tmps.getD s .undef=st'.tmps.getD s .undef)->BB fY ⟨dst,op,gu⟩ st'.tmps=BB fY ⟨dst,op,gu⟩ V.tmps:=by
  intro hg;unfold BB Ca at *;cases sJ:gu with
  | none=>rfl
  | some jw =>
   obtain⟨j,want⟩:=jw;rw[sJ] at hg;simp only at hg |-;cases hj:fY[j]? with
   | none=>rfl
   | some p =>
    rw[hj] at hg;simp only at hg |-;cases hd:p.dst with
    | none=>rfl
    | some d =>
     rw[hd] at hg;simp only
     rw[hg d (by simp)]
 cases mi:BB fY ⟨dst,op,gu⟩ V.tmps with
 | none=>rw[mi] at H;cases H
 | some b =>
  rw[mi] at H;cases b with
  | false=>simp only at H;cases H;cases hc
  | true =>
   simp only at H;cases fU:Br M h dep ⟨dst,op,gu⟩ V e with
   | none=>rw[fU] at H;cases H
   | some q =>
    obtain⟨lY,e'⟩:=q;rw[fU] at H;simp only at H;obtain⟨rfl,rfl,rfl⟩:lY=out/\e'=e1/\Cl fY i ⟨dst,op,gu⟩ V lY=info:=by simp only[bC,b8] at H;exact H
    have hyl:EV op V.tmps=true:=by
     simp only[Cl] at hc;split at hc;{split at hc;{assumption};·cases hc}
     ·split at hc;·cases hc
      ·split at hc;·cases hc
       {split at hc<;>cases hc}
    unfold EV at hyl;split at hyl
    case h_2=>cases hyl
    rename_i f args;split at hyl
    case h_2=>cases hyl
    rename_i d hf
    have ud:∀ x∈f :: args,x.ev V.tmps=x.ev st'.tmps:=by
     intro x hxm;cases x with
     | c v=>rfl
     | t s=>exact U s (bO _ (dJ.2 ⟨.t s,by simpa[Ak.Z] using hxm,rfl⟩))
    have mm:=ud f bN;have hae:=F5 (Z:=args) fun x hxm=>ud x (bM _ hxm);have hae2:=F5 (Z:=f :: args) ud;unfold Br at fU;obtain⟨kC,fU⟩:=AK fU;simp only at fU;obtain⟨jN,mH⟩:=Oh fU;have nA:=jN;unfold BU at nA;simp only[hf,hyl,eF] at nA;obtain⟨hny,mn⟩:=AK nA;clear nA;cases hh:h d (args.map (RX.ev V.tmps)) e with
    | none=>rw[hh] at mn;cases mn
    | some q =>
     obtain⟨bb,ee⟩:=q;rw[hh] at mn;simp only[bC,b8] at mn;obtain⟨rfl,rfl⟩:=mn;refine⟨rfl,?_⟩;have hcall':BU M h dep (dst.getD 0) (Aa st'.fA) st'.tmps f args e=some ({v:=.bool bb},ee):=by unfold BU;simp only[<-mm,<-hae,hf,hyl,eF,hny,Ap,hh]
     have mj:Br M h dep ⟨dst,.call f args,gu⟩ st' e=some ({v:=.bool bb},ee):=by unfold Br;rw[h3,kC];simp only[Ap,eF,hcall',mH]
     rw[hw fun s hs=>U s (bT _ hs),mi];simp only[mj,bC,b8,true_and];have kV:(f.ev V.tmps).names=[]:=by rw[hf];rfl
     have mP:Al ((f :: args).map (RX.ev V.tmps))=[]:=by rw[bP];simp only[Al,kV,dp];exact bZ.1 hyl
     have n9:∀ s:St,Al ((f :: args).map (RX.ev s.tmps))=[]->Cg ⟨dst,.call f args,gu⟩ s {v:=.bool bb}=[]:=by
      intro s hs;unfold Cg;rw[eG (by simp[Dv])];have:(Ak.call f args).Z=f :: args:=rfl;rw[this,hs];simp only[dv]
      have:∀ (σ:Nm->fe) (k:Nat),AA σ k []=[]:=by
       intro σ k;induction k with
       | zero=>rfl
       | succ k ih=>simp[AA,ih]
      exact this _ _
     unfold Cl;rw[n9 V mP,n9 st' (by rw[<-hae2];exact mP)];have hy2:EV (.call f args) st'.tmps=EV (.call f args) V.tmps:=by unfold EV;simp only[<-mm,<-hae]
     have e2:(Ak.call f args).Z=f :: args:=rfl;simp only[hy2,e2,<-hae2,DB,Fj,List.flatMap_nil,GC,cq,qj,cS];congr 1;exact IE U
def Jb (dst:fb) (o:Ai) (fA:List fg):List fg :=
 let fA:=if o.gC.isEmpty then fA else Bj o.gC fA
 let fA:=match o.slot with
  | some r=>fA.set r (fA.getD r []++o.new)
  | none=>fA
 match dst with
 | some d=>if o.slot.isSome||o.new.isEmpty then fA else fA.set d o.new
 | none=>fA
def G5 (dst:fb) (v:PV) (tm:fa):fa:=match dst with
 | some d=>tm.set d v
 | none=>tm
theorem HR {V:St} {out:Ai} (hs:ES out=true):apply V dst out={tmps:=G5 dst out.v V.tmps,fD:=V.fD,fA:=Jb dst out V.fA}:=by unfold ES at hs;simp only[bz,bZ,dj] at hs;obtain⟨⟨⟨U,O⟩,h3⟩,h4⟩:=hs;unfold apply Jb G5;rw[U,O,h3,h4];cases dst<;>cases out.slot<;>cases hu:out.gC<;>simp
theorem KZ {V:St} {out:Ai} (hs:A6 out=true) (hn:out.new=[]):apply V dst out={V with tmps:=G5 dst out.v V.tmps}:=by rw[Mu hs,hn];cases dst<;>rfl
theorem W8 (h:s ∉ dst.toList):(G5 dst v tm).getD s .undef=tm.getD s .undef:=by
 cases dst with
 | none=>rfl
 | some d =>
  have:d≠s:=fun e=>h (by simp[e]);simp only[G5,bF,bR this]
theorem qo {d:fb} (h:∀ x∈d'.toList,x ∉ d.toList) (v v':PV) (tm:fa):G5 d v (G5 d' v' tm)=G5 d' v' (G5 d v tm):=by
 cases d with
 | none=>rfl
 | some a =>
  cases d' with
  | none=>rfl
  | some b =>
   have:b≠a:=fun e=>h b (by simp) (by simp[e]);simp only[G5];exact cR _ _ this
theorem comm_io {V:St} {ob:Ai} (ha:A6 oa=true) (hn:oa.new=[]) (hb:ES ob=true) (hd:∀ x∈da.toList,x ∉ db.toList):apply (apply V da oa) db ob=apply (apply V db ob) da oa:=by rw[KZ ha hn,HR hb,HR hb,KZ ha hn];simp only[qo hd]
theorem qp:∀ (l:List (Nm×Ob)) (fA:List fg) (jo:Ob),Aa fA J=some jo->∃ nb,Aa (Bj l fA) J=some nb/\((J,nb)∈l\/(nb=jo/\∀ p∈l,p.1≠J)):=by
 intro l;induction l with
 | nil=>intro fA jo h;exact⟨jo,h,.inr ⟨rfl,fun _ h=>by cases h⟩⟩
 | cons p l ih =>
  obtain⟨m,o⟩:=p;intro fA jo h;by_cases hm:m=J;{subst hm;obtain⟨nb,q1,q2⟩:=ih (AM fA m o) o (Ix o h);refine⟨nb,q1,.inl ?_⟩;rcases q2 with q2 | ⟨rfl,_⟩;{exact bM _ q2};{exact bN}}
  ·obtain⟨nb,q1,q2⟩:=ih (AM fA m o) jo (by rw[EG o fun e=>hm e.symm];exact h);refine⟨nb,q1,?_⟩;rcases q2 with q2 | ⟨q2,q3⟩;{exact .inl (bM _ q2)}
   {refine .inr ⟨q2,fun p hp=>?_⟩;rcases bE.1 hp with rfl | hp;{exact hm};{exact q3 p hp}}
theorem look_io {V:St} {out:Ai} (hs:ES out=true) (h0:Aa V.fA J=some jo) (hd:J.1 ∉ dst.toList) (hm:∃ p∈out.gC,p.1=J):∃ nb,Aa (apply V dst out).fA J=some nb/\(J,nb)∈out.gC:=by
 rw[HR hs];obtain⟨nb,q1,q2⟩:=qp out.gC V.fA jo h0;have mS:(J,nb)∈out.gC:=by rcases q2 with q2 | ⟨_,q3⟩;{exact q2};{obtain⟨p,hp,he⟩:=hm;exact eQ he (q3 p hp)}
 refine⟨nb,?_,mS⟩
 have U:Aa (if out.gC.isEmpty then V.fA else Bj out.gC V.fA) J=some nb:=by
  cases hu:out.gC with
  | nil=>rw[hu] at mS;cases mS
  | cons p l=>rw[hu] at q1;exact q1
 unfold Jb;simp only
 generalize (if out.gC.isEmpty then V.fA else Bj out.gC V.fA)=fA at U |-
 have O:Aa (match out.slot with
  | some r=>fA.set r (fA.getD r []++out.new)
  | none=>fA) J=some nb:=by
  cases out.slot with
  | none=>exact U
  | some r =>
   simp only
   unfold Aa at U |-;by_cases hr:r=J.1
   ·subst hr;cases hl:fA[J.1]? with
    | none=>rw[hl] at U;cases U
    | some l =>
     rw[hl] at U;have gI:=(bH.1 hl).1;rw[cB gI,bF,hl];simp only at U;simp only[b7];rw[ck (bH.1 U).1];exact U
   {rw[bR hr];exact U}
 cases dst with
 | none=>exact O
 | some d =>
  simp only
  split;{exact O};{have:d≠J.1:=fun e=>hd (by simp[e]);unfold Aa at O |-;rw[bR this];exact O}
theorem ue:∀ {u v:PV},sX u v=true->u=v:=by intro u v h;unfold sX at h;split at h;{simp only[eI] at h;obtain⟨rfl,rfl,rfl,rfl⟩:=h;rfl};{simp only[eI] at h;obtain⟨rfl,rfl⟩:=h;rfl};{simp only[eI] at h;obtain⟨rfl,rfl⟩:=h;rfl};{rfl};{rfl};·cases h
theorem qq {l:Nm×Nat×Nat×Bool×PV} {ob:Ob} (h:N5 l ob=true):∃ ty cs,ob=.cells ty cs/\B1 cs l.2.1 l.2.2.1 l.2.2.2.1=some l.2.2.2.2:=by unfold N5 at h;split at h;{rename_i ty cs;split at h;{rename_i u hu;exact⟨_,_,rfl,by rw[hu,ue h]⟩};·cases h};{cases h}
theorem Xn {o:Av} {V:St} {e e1:E} {out:Ai} (H:AX M h dep fY i o V e=some (out,e1,info)) :
  (info.nw=true->out.new=[]/\Dd o.op=false)/\(info.cls=.ios->ES out=true/\info.jF=out.gC.map (fun p=>(p.1,Aa V.fA p.1))/\info.aft=out.gC/\info.sl=out.slot.map fun r=>(r,(V.fA.getD r []).length))/\(∀ s∈HU o.op.Z++Ca fY o,info.cls=.ios->s∈info.reads):=by
 unfold AX at H;split at H
 ·split at H
  ·cases H;unfold Cl;refine⟨fun hn=>?_,fun hc=>⟨?_,rfl,rfl,rfl⟩,fun s hs _=>hs⟩
   all_goals simp only at *
   {simp only[bz,bZ,cK] at hn;exact hn}
   ·split at hc;{split at hc<;>cases hc}
    ·split at hc;·cases hc
     ·split at hc;·cases hc
      {split at hc;{assumption};·cases hc}
  {cases H}
 {cases H;exact⟨fun hn=>⟨rfl,by simpa using hn⟩,fun hc=>(by cases hc),fun _ _ hc=>(by cases hc)⟩};{cases H}
theorem XD {o:Av} (hm:Dd o.op=false) (V st':St):BQ o st'=BQ o V:=by unfold BQ;rw[hm];rfl
theorem S1 {o:Av} {V st':St} {e e1:E} {out:Ai} (H:AX M h dep fY i o V e=some (out,e1,info)) {l:Nm×Nat×Nat×Bool×PV} (hl:info.ld=some l)
  (U:∀ s∈info.reads,V.tmps.getD s .undef=st'.tmps.getD s .undef) (O:∃ ob,Aa st'.fA l.1=some ob/\N5 l ob=true):(∃ ob,Aa V.fA l.1=some ob)/\info.rn=[l.1]/\∀ e2:E,AX M h dep fY i o st' e2=some (out,e2,info):=by
 obtain⟨dst,op,gu⟩:=o
 have hw:(∀ s∈Ca fY ⟨dst,op,gu⟩,V.tmps.getD s .undef=st'.tmps.getD s .undef)->BB fY ⟨dst,op,gu⟩ st'.tmps=BB fY ⟨dst,op,gu⟩ V.tmps:=by
  intro hg;unfold BB Ca at *;cases sJ:gu with
  | none=>rfl
  | some jw =>
   obtain⟨j,want⟩:=jw;rw[sJ] at hg;simp only at hg |-;cases hj:fY[j]? with
   | none=>rfl
   | some p =>
    rw[hj] at hg;simp only at hg |-;cases hd:p.dst with
    | none=>rfl
    | some d =>
     rw[hd] at hg;simp only
     rw[hg d (by simp)]
 unfold AX at H;split at H
 case h_2=>cases H;cases hl
 case h_3=>cases H
 rename_i mi;split at H
 case h_2=>cases H
 rename_i lY e' fU;cases H;simp only[Cl] at hl U;unfold GC at hl;split at hl
 case h_2=>cases hl
 rename_i n ag x;split at hl
 case h_2=>cases hl
 rename_i J k kJ;cases hl;obtain⟨ob,iT,hgo⟩:=O;simp only at iT;obtain⟨ty,cs,rfl,hsel⟩:=qq hgo;simp only at hsel
 have lX:x.ev V.tmps=x.ev st'.tmps:=by
  cases x with
  | c v=>rfl
  | t s=>exact U s (bO _ (dJ.2 ⟨.t s,by simp[Ak.Z],rfl⟩))
 unfold Br at fU;obtain⟨_,fU⟩:=AK fU;simp only at fU;cases hex:exec (dst.getD 0) (Aa V.fA) V.tmps (.load n ag x) with
 | none=>rw[hex] at fU;cases fU
 | some o2 =>
  rw[hex] at fU;simp only[bC,b8] at fU;obtain⟨rfl,rfl⟩:=fU;simp only[exec,kJ] at hex;split at hex
  case h_2=>cases hex
  rename_i ty0 cs0 gK;obtain⟨v,hv,rfl⟩:=bB.1 hex;simp only at hsel;have n9:∀ s:St,x.ev s.tmps=.ref J k->Cg ⟨dst,.load n ag x,gu⟩ s {v}=[J]:=by intro s hs;unfold Cg;rw[eG (by simp[Dv])];have hH:A6 {v}=true:=rfl;simp[EI,DB,hH,AA,Ak.Z,Al,hs,PV.names]
  refine⟨⟨_,gK⟩,n9 V kJ,fun e2=>?_⟩;have hexd:exec (dst.getD 0) (Aa st'.fA) st'.tmps (.load n ag x)=some {v}:=by simp only[exec,<-lX,kJ,iT,hsel,bG]
  have ml:Br M h dep ⟨dst,.load n ag x,gu⟩ st' e2=some ({v},e2):=by unfold Br;simp[BQ,Dd,Ap,hexd]
  unfold AX;rw[hw fun s hs=>U s (bT _ hs),mi];simp only[ml,bC,b8,true_and];unfold Cl;simp only[n9 V kJ,n9 st' (by rw[<-lX];exact kJ),DB,eF,<-lX,GC,cq,Wb,cS];congr 1;exact IE U
theorem Wj {d:Nat}:∀ (l:List (Nm×Ob)) (fA:List fg),(∀ p∈l,p.1.1≠d)->(Bj l fA)[d]?=fA[d]?
 | [],_,_=>rfl
 |(m,o) :: l,fA,h=>by
  have U:m.1≠d:=h (m,o) bN;simp only[Bj];rw[Wj l _ fun p hp=>h p (bM _ hp)];unfold AM;split;{exact bR U};{rfl}
theorem Vj {d:Nat} {n:fg}:∀ (l:List (Nm×Ob)) (fA:List fg),(∀ p∈l,p.1.1≠d)->Bj l (fA.set d n)=(Bj l fA).set d n
 | [],_,_=>rfl
 |(m,o) :: l,fA,h=>by
  have U:m.1≠d:=h (m,o) bN;simp only[Bj];rw[<-Vj l _ fun p hp=>h p (bM _ hp)];congr 1;unfold AM;rw[bR (bW U)];split;{exact (cR _ _ U).symm};{rfl}
theorem Vk {r:Nat}:∀ (l:List (Nm×Ob)) (fA:List fg),((Bj l fA).getD r []).length=(fA.getD r []).length
 | [],_=>rfl
 |(m,o) :: l,fA=>by
  simp only[Bj];rw[Vk l];unfold AM;split;{rename_i l0 h0;by_cases e:m.1=r;{subst e;have gI:=(bH.1 h0).1;simp[bF,cB gI,h0]};{simp[bF,bR e]}};{rfl}
theorem Ui {J:Nm}:∀ (l:List (Nm×Ob)) (fA:List fg),(∀ p∈l,p.1≠J)->Aa (Bj l fA) J=Aa fA J
 | [],_,_=>rfl
 |(m,o) :: l,fA,h=>by
  simp only[Bj];rw[Ui l _ fun p hp=>h p (bM _ hp)];exact EG o fun e=>h (m,o) bN e.symm
theorem OM (o:Ai) (fA:List fg):(if o.gC.isEmpty then fA else Bj o.gC fA)=Bj o.gC fA:=by cases o.gC<;>rfl
theorem Ut {V:St} {out:Ai} (hs:ES out=true) (hd:J.1 ∉ dst.toList) (hu:∀ p∈out.gC,p.1≠J) (nx:∀ r,out.slot=some r->J.1=r->J.2 < (V.fA.getD r []).length) :
  Aa (apply V dst out).fA J=Aa V.fA J:=by
 rw[HR hs];unfold Jb;simp only
 rw[OM];have U:=Ui out.gC V.fA hu
 have O:Aa (match out.slot with
  | some r=>(Bj out.gC V.fA).set r ((Bj out.gC V.fA).getD r []++out.new)
  | none=>Bj out.gC V.fA) J=Aa V.fA J:=by
  cases hr:out.slot with
  | none=>exact U
  | some r =>
   simp only
   rw[<-U];by_cases e:J.1=r
   ·have gI:=nx r hr e;rw[<-Vk out.gC] at gI;generalize Bj out.gC V.fA=fA at gI |-;subst e;have hl:J.1 < fA.length:=by rcases cZ J.1 fA.length with h | h;{exact h};{rw[bF,cg h] at gI;simp at gI}
    unfold Aa;rw[cB hl];rw[bQ hl];simp only
    rw[bF,bQ hl] at gI |-;simp only[b7] at gI |-;exact ck gI
   {exact DO _ e}
 cases dst with
 | none=>exact O
 | some d =>
  simp only
  split;{exact O};{rw[DO _ fun e=>hd (by simp[e])];exact O}
theorem io_at {V:St} {out:Ai} (hs:ES out=true) {d:Nat} (hd:d ∉ dst.toList) (hu:∀ p∈out.gC,p.1.1≠d) (nx:∀ r,out.slot=some r->r≠d):(apply V dst out).fA[d]?=V.fA[d]?:=by
 rw[HR hs];unfold Jb;simp only
 rw[OM];have U:=Wj out.gC V.fA hu
 have O:(match out.slot with
  | some r=>(Bj out.gC V.fA).set r ((Bj out.gC V.fA).getD r []++out.new)
  | none=>Bj out.gC V.fA)[d]?=V.fA[d]?:=by
  cases hr:out.slot with
  | none=>exact U
  | some r=>simp only;rw[bR (nx r hr)];exact U
 cases dst with
 | none=>exact O
 | some x =>
  have H:x≠d:=fun e=>hd (by simp[e]);simp only
  split;{exact O};{rw[bR H];exact O}
def Mj (da:fb) (oa ob:Ai):Prop:=oa.new=[]\/((∀ p∈ob.gC,p.1.1 ∉ da.toList)/\∀ r,ob.slot=some r->r ∉ da.toList)
theorem aU {d:Nat} {n:fg} {ob:Ai} (fA:List fg) (hu:∀ p∈ob.gC,p.1.1≠d) (nx:∀ r,ob.slot=some r->r≠d) (hd:∀ x,db=some x->x≠d):Jb db ob (fA.set d n)=(Jb db ob fA).set d n:=by
 unfold Jb;simp only
 rw[OM,OM,Vj _ _ hu];generalize Bj ob.gC fA=os
 have O:(match ob.slot with
  | some r=>(os.set d n).set r ((os.set d n).getD r []++ob.new)
  | none=>os.set d n)=(match ob.slot with
  | some r=>os.set r (os.getD r []++ob.new)
  | none=>os).set d n:=by
  cases hr:ob.slot with
  | none=>rfl
  | some r =>
   have:=nx r hr;simp only
   rw[cR _ _ (bW this)];congr 2;rw[bF,bF,bR (bW this)]
 rw[O];cases db with
 | none=>rfl
 | some x =>
  simp only
  split;{rfl};{exact cR _ _ (bW (hd x rfl))}
theorem XR {V:St} {ob:Ai} (ha:A6 oa=true) (hn:Mj da oa ob) (hb:ES ob=true) (hd:∀ x∈da.toList,x ∉ db.toList):apply (apply V da oa) db ob=apply (apply V db ob) da oa:=by
 rcases hn with hn | ⟨n1,n2⟩;{exact comm_io ha hn hb hd};rw[DP ha,DP ha,HR hb,HR hb];cases da with
 | none=>rfl
 | some d =>
  have H:∀ x,db=some x->x≠d:=fun x e e2=>hd d (by simp) (by simp[e,e2]);have u1:∀ p∈ob.gC,p.1.1≠d:=fun p hp e=>n1 p hp (by simp[e]);have u2:∀ r,ob.slot=some r->r≠d:=fun r hr e=>n2 r hr (by simp[e]);simp only[BZ,St.mk.injEq,and_true];refine⟨?_,?_⟩
  ·cases db with
   | none=>rfl
   | some x=>simp only[G5];exact cR _ _ (bW (H x rfl))
  {split;{rfl};{exact aU _ u1 u2 H}}
theorem Pm {a b:Bf} {ob:Ai} (hda:a.dst=da) (hn:(a.nw||NE a b)=true) (iu:a.nw=true->oa.new=[]) (hb:b.jF=ob.gC.map fun p=>(p.1,σ p.1)) (hs:b.sl=ob.slot.map fun r=>(r,ln r)):Mj da oa ob:=by
 rcases dh.1 hn with h | h;{exact .inl (iu h)}
 {refine .inr ⟨fun p hp hd=>?_,fun r hr hd=>?_⟩;{have U:=bI.1 h p.1.1 (by rw[hda];exact hd);obtain⟨U,_⟩:=cL.1 U;have:=bI.1 U (p.1,σ p.1) (by rw[hb];exact bA.2 ⟨p,hp,rfl⟩);simp at this};{have U:=bI.1 h r (by rw[hda];exact hd);obtain⟨_,U⟩:=cL.1 U;rw[hs,hr] at U;simp at U}}
theorem WI {a b:Bf} {ob:Ai} (h:T1 a b=true) (hb:b.jF=ob.gC.map fun p=>(p.1,σ p.1)) (hs:b.sl=ob.slot.map fun r=>(r,ln r)) (hn:J∈a.rn):(∀ p∈ob.gC,p.1≠J)/\∀ r,ob.slot=some r->J.1=r->J.2 < ln r:=by have U:=bI.1 h J hn;obtain⟨U,O⟩:=cL.1 U;refine⟨fun p hp e=>?_,fun r hr e=>?_⟩;{have:=bI.1 U (p.1,σ p.1) (by rw[hb];exact bA.2 ⟨p,hp,rfl⟩);simp[e] at this};{rw[hs,hr] at O;simpa[e] using O}
theorem swapI (hM:Em M) {a b:Av} {V:St} {e ea eb:E} {ob:Ai} (U:AX M h dep fY i a V e=some (oa,ea,ia)) (O:AX M h dep fY j b (apply V a.dst oa) ea=some (ob,eb,ib))
  (hd:(E8 ia.dst.toList (ib.reads++ib.dst.toList)&&E8 ib.dst.toList ia.reads&&E8 ia.dst.toList (ib.rn.map (·.1))&&E8 ib.dst.toList (ia.rn.map (·.1)))=true) (hi:T3 ia ib=true) :
  ∃ em,AX M h dep fY j b V e=some (ob,em,ib)/\AX M h dep fY i a (apply V b.dst ob) em=some (oa,eb,ia)/\apply (apply V a.dst oa) b.dst ob=apply (apply V b.dst ob) a.dst oa:=by
 have da:=KR U;have db:=KR O;obtain⟨fa1,_,_,_⟩:=KI U;obtain⟨fb1,_,_,_⟩:=KI O;obtain⟨na1,na2,na3⟩:=Xn U;obtain⟨nb1,nb2,nb3⟩:=Xn O;simp only[bz] at hd;obtain⟨⟨⟨g1,g2⟩,g3⟩,g4⟩:=hd;rw[da] at g1 g3;rw[db] at g1 g2 g4;have g1:=E7 g1;have g2:=E7 g2;have g3:=E7 g3;have g4:=E7 g4;have gd:∀ x∈b.dst.toList,x ∉ a.dst.toList:=fun x H=>g1 x (bT _ H);have uc:∀ x∈a.dst.toList,x ∉ b.dst.toList:=fun x H kb=>gd x kb H;have gb:∀ d,b.dst=some d->d ∉ a.dst.toList:=fun d hd=>gd d (by rw[hd];simp);have ga:∀ d,a.dst=some d->d ∉ b.dst.toList:=fun d hd=>uc d (by rw[hd];simp);unfold T3 at hi;split at hi
 ·rename_i ca cb;obtain⟨hnw,hor⟩:=cL.1 hi;obtain⟨sb,nB,haft,nx⟩:=nb2 cb;have sa:=fa1 ca;obtain⟨_,ea',ma0⟩:=D7 hM (st':=V) U (.inl ca) (fun _ _=>rfl) (fun _ _=>rfl) rfl;subst ea';have ap:Mj a.dst oa ob:=Pm da hnw (fun h=>(na1 h).1) nB nx;have hA:∀ J:Nm,oa.new=[]\/J.1 ∉ a.dst.toList->Aa (apply V a.dst oa).fA J=Aa V.fA J:=fun J hq=>by rcases hq with hq | hq;{rw[KZ sa hq]};{exact F6 sa hq}
  have hB:∀ r:Nat,oa.new=[]\/r ∉ a.dst.toList->V.fA.getD r []=(apply V a.dst oa).fA.getD r []:=fun r hq=>by
   rcases hq with hq | hq;{rw[KZ sa hq]}
   ·rw[DP sa];cases hda:a.dst with
    | none=>rfl
    | some d =>
     simp only[BZ];split;{rfl};{have:d≠r:=fun e=>hq (by rw[hda];simp[e]);rw[bF,bF,bR this]}
  obtain⟨ee,mb⟩:=Vm hM (st':=V) O (.inr (.inr cb)) (fun s hs=>Hh sa (g1 s (bO _ hs))) (fun J hn=>F6 sa (g3 J.1 (bA.2 ⟨J,hn,rfl⟩))) (He sa gb).symm
   ⟨fun p hp=>hA p.1 (ap.imp id fun q=>q.1 p hp),fun r hr=>hB r (ap.imp id fun q=>q.2 r hr)⟩
  subst ee;have uf:∀ s∈ia.reads,V.tmps.getD s .undef=(apply V b.dst ob).tmps.getD s .undef:=fun s hs=>by rw[HR sb];exact (W8 (g2 s hs)).symm
  have kC:BQ a (apply V b.dst ob)=BQ a V:=by
   rcases dh.1 hnw with hq | hq;{exact XD (na1 hq).2 _ _}
   ·refine Ph fun d pA=>?_;have hap:Mj a.dst {oa with new:=[AH]} ob:=Pm da (a:={ia with nw:=false}) (b:=ib) (by simpa[NE] using hq) (fun h=>by cases h) nB nx;rcases hap with e | ⟨q1,q2⟩;·cases e
    {exact eM (Option.map List.isEmpty) (io_at sb (ga d pA) (fun p hp e=>q1 p hp (by rw[pA];simp[e])) fun r hr e=>q2 r hr (by rw[pA];simp[e]))}
  refine⟨_,mb _,?_,XR sa ap sb uc⟩;rcases dh.1 hor with hU | hL
  ·refine (D7 hM (st':=apply V b.dst ob) U (.inl ca) uf (fun J hn=>?_) kC).2.2 _;obtain⟨u1,u2⟩:=WI hU nB nx hn;refine (Ut sb (g4 J.1 (bA.2 ⟨J,hn,rfl⟩)) u1 fun r hr er=>?_).symm;have:=u2 r hr er;rcases ap with q | q
   ·rwa [<-hB r (.inl q)] at this
   ·rwa [<-hB r (.inr (q.2 r hr))] at this
  ·unfold PY at hL;split at hL
   case h_2=>cases hL
   rename_i l hl;simp only[bz] at hL;obtain⟨k1,k2,k3⟩:=hL;rw[haft] at k1 k2;obtain⟨p,hp,ug⟩:=List.any_eq_true.1 k1;have ug:=eR ug;have gK:Aa (apply V a.dst oa).fA l.1=Aa V.fA l.1:=hA l.1 (ap.imp id fun q=>by rw[<-ug];exact q.1 p hp);have n9:ia.rn=[l.1]/\∃ jo,Aa V.fA l.1=some jo:=by have hq:=bI.1 k3 (p.1,Aa (apply V a.dst oa).fA p.1) (by rw[nB];exact bA.2 ⟨p,hp,rfl⟩);simp only[ug,eK,dV,dC] at hq;rw[gK] at hq;split at hq;{rename_i jo h0;exact⟨(S1 (st':=V) U hl (fun _ _=>rfl) ⟨jo,h0,hq⟩).2.1,jo,h0⟩};{cases hq}
   obtain⟨n9,jo,h0⟩:=n9;obtain⟨nb,q1,q2⟩:=look_io sb h0 (g4 l.1.1 (by rw[n9];simp)) ⟨p,hp,ug⟩;have hg:=bI.1 k2 (l.1,nb) q2;simp only[eK,dV,dC] at hg;exact (S1 U hl uf ⟨nb,q1,hg⟩).2.2 _
 ·rename_i ca cb;obtain⟨hnw,hor⟩:=cL.1 hi;obtain⟨sa,nB,haft,nx⟩:=na2 ca;have sb:=fb1 cb;obtain⟨_,eb',mb0⟩:=D7 hM (st':=apply V a.dst oa) O (.inl cb) (fun _ _=>rfl) (fun _ _=>rfl) rfl;subst eb';have ap:Mj b.dst ob oa:=Pm db hnw (fun h=>(nb1 h).1) nB nx;have uf:∀ s∈ib.reads,(apply V a.dst oa).tmps.getD s .undef=V.tmps.getD s .undef:=fun s hs=>by rw[HR sa];exact W8 (g1 s (bO _ hs))
  have kC:BQ b V=BQ b (apply V a.dst oa):=by
   rcases dh.1 hnw with hq | hq;{exact XD (nb1 hq).2 _ _}
   ·refine (Ph fun d pA=>?_).symm;have hap:Mj b.dst {ob with new:=[AH]} oa:=Pm db (a:={ib with nw:=false}) (b:=ia) (by simpa[NE] using hq) (fun h=>by cases h) nB nx;rcases hap with e | ⟨q1,q2⟩;·cases e
    {exact eM (Option.map List.isEmpty) (io_at sa (gb d pA) (fun p hp e=>q1 p hp (by rw[pA];simp[e])) fun r hr e=>q2 r hr (by rw[pA];simp[e]))}
  have mb:AX M h dep fY j b V e=some (ob,e,ib):=by
   rcases dh.1 hor with hU | hL
   {refine (D7 hM (st':=V) O (.inl cb) uf (fun J hn=>?_) kC).2.2 e;obtain⟨u1,u2⟩:=WI hU nB nx hn;exact Ut sa (g3 J.1 (bA.2 ⟨J,hn,rfl⟩)) u1 u2}
   ·unfold PY at hL;split at hL
    case h_2=>cases hL
    rename_i l hl;simp only[bz] at hL;obtain⟨k1,k2,k3⟩:=hL;rw[haft] at k1;obtain⟨p,hp,ug⟩:=List.any_eq_true.1 k1;have ug:=eR ug;have hq:=bI.1 k3 (p.1,Aa V.fA p.1) (by rw[nB];exact bA.2 ⟨p,hp,rfl⟩);simp only[ug,eK,dV,dC] at hq;split at hq;{rename_i jo h0;exact (S1 O hl uf ⟨jo,h0,hq⟩).2.2 e};{cases hq}
  have hA:∀ J:Nm,ob.new=[]\/J.1 ∉ b.dst.toList->Aa V.fA J=Aa (apply V b.dst ob).fA J:=fun J hq=>by rcases hq with hq | hq;{rw[KZ sb hq]};{exact (F6 sb hq).symm}
  have hB:∀ r:Nat,ob.new=[]\/r ∉ b.dst.toList->(apply V b.dst ob).fA.getD r []=V.fA.getD r []:=fun r hq=>by
   rcases hq with hq | hq;{rw[KZ sb hq]}
   ·rw[DP sb];cases hdb:b.dst with
    | none=>rfl
    | some d =>
     simp only[BZ];split;{rfl};{have:d≠r:=fun e=>hq (by rw[hdb];simp[e]);rw[bF,bF,bR this]}
  obtain⟨ee,ma⟩:=Vm hM (st':=apply V b.dst ob) U (.inr (.inr ca)) (fun s hs=>(Hh sb (g2 s hs)).symm) (fun J hn=>(F6 sb (g4 J.1 (bA.2 ⟨J,hn,rfl⟩))).symm) (He sb ga)
   ⟨fun p hp=>hA p.1 (ap.imp id fun q=>q.1 p hp),fun r hr=>hB r (ap.imp id fun q=>q.2 r hr)⟩
  subst ee;exact⟨_,mb,ma _,(XR sb ap sa gd).symm⟩
 {cases hi}
theorem Oy {o:Av} {V st':St} {e e1:E} {out:Ai} (H:AX M h dep fY i o V e=some (out,e1,info)) {x:Nm} (hs:info.V=some x) (ht:st'.tmps=V.tmps) (hl:Aa st'.fA x=Aa V.fA x) :
  o.dst=none/\(∃ obx,out={v:=.undef,gA:=some (x,obx)})/\e1=e/\∀ e2:E,AX M h dep fY i o st' e2=some (out,e2,info):=by
 obtain⟨dst,op,gu⟩:=o;unfold AX at H;split at H
 case h_2=>cases H;cases hs
 case h_3=>cases H
 rename_i mi;split at H
 case h_2=>cases H
 rename_i lY e' fU;cases H;simp only[Cl] at hs;unfold HG at hs;split at hs
 case h_2=>cases hs
 rename_i n tx tv;have hex:exec 0 (Aa V.fA) V.tmps (.store n tx tv)=some out/\e1=e:=by unfold Br at fU;obtain⟨_,fU⟩:=AK fU;simp only[Option.getD_none] at fU;split at fU;{rename_i o2 ho;cases fU;exact⟨ho,rfl⟩};·cases fU
 obtain⟨hex,rfl⟩:=hex;have uh:∃ obx,out={v:=.undef,gA:=some (x,obx)}:=by simp only[exec] at hex;split at hs;{rename_i J k fG;cases hs;rw[fG] at hex;simp only at hex;split at hex;{obtain⟨_,hex⟩:=AK hex;cases hex;exact⟨_,rfl⟩};·cases hex};{rename_i J k i o fG;cases hs;rw[fG] at hex;simp only at hex;split at hex;{split at hex;{obtain⟨_,hex⟩:=AK hex;cases hex;exact⟨_,rfl⟩};{obtain⟨_,hex⟩:=AK hex;cases hex;exact⟨_,rfl⟩};·cases hex};{cases hex}};{cases hs}
 refine⟨rfl,uh,rfl,fun e2=>?_⟩;obtain⟨obx,rfl⟩:=uh;have hex2:exec 0 (Aa st'.fA) st'.tmps (.store n tx tv)=some {v:=.undef,gA:=some (x,obx)}:=by rw[<-hex];simp only[exec,ht];split at hs;{rename_i J k fG;cases hs;simp only[hl]};{rename_i J k i o fG;cases hs;simp only[hl]};{cases hs}
 have ml:Br M h dep ⟨none,.store n tx tv,gu⟩ st' e2=some ({v:=.undef,gA:=some (x,obx)},e2):=by unfold Br;simp[BQ,Dd,Ap,hex2]
 unfold AX;rw[ht,mi];simp only[ml,bC,b8,true_and];unfold Cl Cg;simp only[ht,Dv,EI,GN,Jf,DB,Bool.false_and,Bool.true_or,Bool.or_true,eF,bL,eE,AA,GC,cq,cS]
theorem ZA (σ:List fg) {a b:Nm} (h:a≠b) (o p:Ob):AM (AM σ a o) b p=AM (AM σ b p) a o:=by
 obtain⟨a1,a2⟩:=a;obtain⟨b1,b2⟩:=b;unfold AM;simp only
 by_cases tN:a1=b1
 ·subst tN;have O:a2≠b2:=fun e=>h (by rw[e]);cases hl:σ[a1]? with
  | none=>simp[hl]
  | some l =>
   have gI:=(bH.1 hl).1;simp only[cB gI,List.set_set];rw[cR _ _ O]
 ·cases ha:σ[a1]? with
  | none =>
   cases hb:σ[b1]? with
   | none=>simp[ha,hb]
   | some l' =>
    simp only[hb];rw[bR (bW tN),ha]
  | some l =>
   simp only
   rw[bR tN];cases hb:σ[b1]? with
   | none=>simp[ha]
   | some l' =>
    simp only
    rw[bR (bW tN),ha];simp only
    rw[cR _ _ tN]
theorem UZ (V:St) (x:Nm) (ob:Ob):apply V none {v:=.undef,gA:=some (x,ob)}={V with fA:=AM V.fA x ob}:=rfl
theorem swapS {a b:Av} {V:St} {e ea eb:E} {ob:Ai} (U:AX M h dep fY i a V e=some (oa,ea,ia)) (O:AX M h dep fY j b (apply V a.dst oa) ea=some (ob,eb,ib)) (hS:T2 ia ib=true) :
  ∃ em,AX M h dep fY j b V e=some (ob,em,ib)/\AX M h dep fY i a (apply V b.dst ob) em=some (oa,eb,ia)/\apply (apply V a.dst oa) b.dst ob=apply (apply V b.dst ob) a.dst oa:=by
 unfold T2 at hS;split at hS
 case h_2=>cases hS
 rename_i x y H hy;have hxy:x≠y:=by simpa using hS
 obtain⟨d1,⟨ox,rfl⟩,rfl,_⟩:=Oy (st':=V) U H rfl rfl;obtain⟨d2,⟨oy,rfl⟩,rfl,_⟩:=Oy (st':=apply V a.dst {v:=.undef,gA:=some (x,ox)}) O hy rfl rfl;rw[d1] at O |-;rw[d2];rw[UZ] at O |-;obtain⟨_,_,_,m2⟩:=Oy (st':=V) O hy rfl (EG ox (bW hxy)).symm;obtain⟨_,_,_,m1⟩:=Oy (st':=apply V none {v:=.undef,gA:=some (y,oy)}) U H rfl (EG oy hxy);refine⟨_,m2 _,m1 _,?_⟩;simp only[UZ];rw[ZA _ hxy]
theorem swapD (hM:Em M) {a b:Av} {V:St} {e ea eb:E} {ob:Ai} (U:AX M h dep fY i a V e=some (oa,ea,ia)) (O:AX M h dep fY j b (apply V a.dst oa) ea=some (ob,eb,ib))
  (hi:G2 ia ib=true):∃ em,AX M h dep fY j b V e=some (ob,em,ib)/\AX M h dep fY i a (apply V b.dst ob) em=some (oa,eb,ia)/\apply (apply V a.dst oa) b.dst ob=apply (apply V b.dst ob) a.dst oa:=by
 unfold G2 at hi;obtain⟨hd,hor⟩:=cL.1 hi;rcases dh.1 hor with hC | hYI
 {obtain⟨rfl,rfl,q1,q2,q3⟩:=swapD0 hM U O (by rw[hd,hC];rfl);exact⟨_,q1,q2,q3⟩};rcases dh.1 hYI with hY | hI
 case inr =>
  rcases dh.1 hI with hI | hS;{exact swapI hM U O hd hI};{exact swapS U O hS}
 {have da:=KR U;have db:=KR O;obtain⟨fa1,_,_,_⟩:=KI U;obtain⟨fb1,_,_,_⟩:=KI O;simp only[bz] at hd;obtain⟨⟨⟨g1,g2⟩,g3⟩,g4⟩:=hd;rw[da] at g1 g3;rw[db] at g1 g2 g4;have g1:=E7 g1;have g2:=E7 g2;have g3:=E7 g3;have g4:=E7 g4;have gd:∀ x∈b.dst.toList,x ∉ a.dst.toList:=fun x H=>g1 x (bT _ H);have uc:∀ x∈a.dst.toList,x ∉ b.dst.toList:=fun x H kb=>gd x kb H;have gb:∀ d,b.dst=some d->d ∉ a.dst.toList:=fun d hd=>gd d (by rw[hd];simp);have ga:∀ d,a.dst=some d->d ∉ b.dst.toList:=fun d hd=>uc d (by rw[hd];simp);unfold sY at hY;split at hY;{rename_i ca cb;have sa:=fa1 ca;obtain⟨_,ea',ma0⟩:=D7 hM (st':=V) U (.inl ca) (fun _ _=>rfl) (fun _ _=>rfl) rfl;subst ea';obtain⟨sb,mb⟩:=S0 (st':=V) O cb (fun s hs=>Hh sa (g1 s (bO _ hs))) (He sa gb).symm;obtain⟨_,_,ma⟩:=D7 hM (st':=apply V b.dst ob) U (.inl ca) (fun s hs=>(Hh sb (g2 s hs)).symm) (fun J hn=>(F6 sb (g4 J.1 (bA.2 ⟨J,hn,rfl⟩))).symm) (He sb ga);refine⟨eb,mb,ma _,?_⟩;rw[DP sa,DP sb,DP sb,DP sa];exact OL uc _ _ _ _ _};{rename_i ca cb;have sb:=fb1 cb;obtain⟨sa,ma0⟩:=S0 (st':=V) U ca (fun _ _=>rfl) rfl;obtain⟨_,eb',mb⟩:=D7 hM (st':=V) O (.inl cb) (fun s hs=>Hh sa (g1 s (bO _ hs))) (fun J hn=>F6 sa (g3 J.1 (bA.2 ⟨J,hn,rfl⟩))) (He sa gb).symm;subst eb';obtain⟨_,ma⟩:=S0 (st':=apply V b.dst ob) U ca (fun s hs=>(Hh sb (g2 s hs)).symm) (He sb ga);refine⟨e,mb _,ma,?_⟩;rw[DP sa,DP sb,DP sb,DP sa];exact OL uc _ _ _ _ _};{cases hY}}
abbrev Kr:=Nat×Nat×Bf
inductive Ko (M:AC) {E:Type} (h:AB E) (dep:Nat) (fY:fq):List Kr->St->E->St->E->Prop
 | nil (V:St) (e:E):Ko M h dep fY [] V e V e
 | cons (t:Kr) (rest:List Kr) (o:Av) (V fZ:St) (out:Ai) (e e1 e2:E) (ho:fY[t.1]?=some o) (hs:AX M h dep fY t.1 o V e=some (out,e1,t.2.2)) (hr:Ko M h dep fY rest (apply V o.dst out) e1 fZ e2) :
   Ko M h dep fY (t :: rest) V e fZ e2
theorem Zt (hM:Em M) {t:Kr}:∀ {s1 s2:List Kr} {V fZ:St} {e e2:E},Ko M h dep fY (s1++t :: s2) V e fZ e2->(∀ y∈s1,G2 y.2.2 t.2.2=true)->Ko M h dep fY (t :: (s1++s2)) V e fZ e2:=by
 intro s1;induction s1 with
 | nil=>intro s2 V fZ e e2 hr _;exact hr
 | cons y s1 ih =>
  intro s2 V fZ e e2 hr hi;cases hr with
  | cons _ _ oy _ _ outy _ e1 _ hoy hsy hr =>
   have:=ih hr fun z hz=>hi z (bM _ hz);cases this with
   | cons _ _ ot _ _ outt _ e3 _ hot hH l6 =>
    obtain⟨em,q3,q4,q5⟩:=swapD hM hsy hH (hi y bN);refine .cons t _ ot V fZ outt _ _ e2 hot q3 (.cons y _ oy _ fZ outy _ _ e2 hoy q4 ?_);rw[<-q5];exact l6
theorem YZ {o:Av} {V:St} {e e1:E} {out:Ai} (H:AX M h dep fY i o V e=some (out,e1,info)):stepG M h dep fY o V e=some (apply V o.dst out,e1):=by unfold AX at H;unfold stepG;split at H;{split at H;{rename_i o2 e2 ho;cases H;simp[Hv,ho]};{cases H}};{cases H;rfl};{cases H}
theorem qs (hM:Em M):∀ (l:fc) (L:List Kr) {V fZ:St} {e e2:E},Ko M h dep fY L V e fZ e2->L.Pairwise (fun y x=>x.2.1.testBit y.1=true\/G2 y.2.2 x.2.2=true)->l.Perm (L.map (·.1))->l.Nodup ->
  (∀ l1 x l2,l=l1++x :: l2->∀ t∈L,t.1=x->∀ y∈L,t.2.1.testBit y.1=true->y.1∈l1)->HF M h dep fY l V e fZ e2:=by
 intro l;induction l with
 | nil =>
  intro L V fZ e e2 hr _ hp _ _;have:L=[]:=by simpa using hp.symm.eq_nil
  subst this;cases hr;exact .nil _ _
 | cons x l ih =>
  intro L V fZ e e2 hr hpw hp jB ui;have H:x∈L.map (·.1):=hp.mem_iff.1 bN;obtain⟨t,ht,htx⟩:=bA.1 H;obtain⟨s1,s2,rfl⟩:=List.append_of_mem ht
  have hind:∀ y∈s1,G2 y.2.2 t.2.2=true:=by
   intro y hy;rcases (List.pairwise_append.1 hpw).2.2 y hy t bN with h | h
   {have:=ui [] x l rfl t ht htx y (bO _ hy) h;cases this};{exact h}
  have l6:=Zt hM hr hind;cases l6 with
  | cons _ _ o _ _ out _ e1 _ ho hs oN =>
   rw[htx] at ho hs;refine .cons x l o V _ fZ e e1 e2 ho (YZ hs) (ih (s1++s2) oN ?_ ?_ (dK.1 jB).2 ?_);{obtain⟨p1,p2,p3⟩:=List.pairwise_append.1 hpw;exact List.pairwise_append.2 ⟨p1,(cz.1 p2).2,fun y hy z hz=>p3 y hy z (bM _ hz)⟩}
   ·have U:(x :: l).Perm (x :: (s1++s2).map (·.1)):=by refine hp.trans ?_;rw[cU,bP,cU,htx];exact List.perm_middle
    exact U.cons_inv
   ·intro l1 z l2 hl t' pB htz y hy hb;have jq:∀ {q},q∈s1++s2->q∈s1++t :: s2:=fun {q} hq=>by rcases bS.1 hq with hq | hq;{exact bO _ hq};{exact bT _ (bM _ hq)}
    have:=ui (x :: l1) z l2 (by rw[hl];rfl) t' (jq pB) htz y (jq hy) hb;rcases bE.1 this with hyx | h
    ·exfalso;have U:(x :: l).Perm (x :: (s1++s2).map (·.1)):=by refine hp.trans ?_;rw[cU,bP,cU,htx];exact List.perm_middle
     have O:=(U.cons_inv).mem_iff.2 (bA.2 ⟨y,hy,rfl⟩);rw[hyx] at O;exact (dK.1 jB).1 O
    {exact h}
theorem ao:∀ (l:List (Nat×Nat)) (infos:List Bf) {V fZ:St} {e e2:E},ED M h dep fY l infos V e=some (fZ,e2) ->
  ∃ L:List Kr,L.map (fun t=>(t.1,t.2.1))=l/\Ko M h dep fY L V e fZ e2/\L.Pairwise (fun y x=>x.2.1.testBit y.1=true\/G2 y.2.2 x.2.2=true) /\
   ∀ j∈infos,∀ x∈L,x.2.1.testBit j.i=true\/G2 j x.2.2=true:=by
 intro l;induction l with
 | nil =>
  intro infos V fZ e e2 hr;simp only[ED,bC,b8] at hr;obtain⟨rfl,rfl⟩:=hr;exact⟨[],rfl,.nil _ _,.nil,fun _ _ x H=>by cases H⟩
 | cons p l ih =>
  obtain⟨i,jF⟩:=p;intro infos V fZ e e2 hr;simp only[ED] at hr;split at hr
  case h_2=>cases hr
  rename_i o ho;split at hr
  case h_2=>cases hr
  rename_i oT e1 info hs;obtain⟨hk,hr⟩:=AK hr;obtain⟨L,U,O,h3,h4⟩:=ih (info :: infos) hr;unfold HB at hs;split at hs
  case h_2=>cases hs
  rename_i out iw info' fU;cases hs
  have hii:info.i=i:=by
   unfold AX at fU;split at fU
   ·split at fU;·cases fU;rfl
    {cases fU}
   {cases fU;rfl};{cases fU}
  refine⟨(i,jF,info) :: L,by simp[U],.cons (i,jF,info) L o V fZ out e e1 e2 ho fU O,cz.2 ⟨fun x H=>?_,h3⟩,fun j hj x H=>?_⟩
  ·have:=h4 info bN x H
   rwa [hii] at this
  ·rcases bE.1 H with rfl | H
   {have:=bI.1 hk j hj;simpa using this};{exact h4 j (bM _ hj) x H}
end swap
inductive Anc (ops:Array Oper):Nat->Nat->Prop
 | base (i:Nat) (o:Oper) (e:Edge) (ho:ops[i]?=some o) (he:e∈o.after) (hb:Region.binds .any e=true):Anc ops i e.on
 | step (i y:Nat) (o:Oper) (e:Edge) (ho:ops[i]?=some o) (he:e∈o.after) (hb:Region.binds .any e=true) (h:Anc ops e.on y):Anc ops i y
inductive F4 (ops:Array Oper):fc->Prop
 | nil:F4 ops []
 | cons (i:Nat) (acc:fc) (h:∀ o,ops[i]?=some o->∀ e∈o.after,Region.binds .any e=true->e.on∈acc) (hr:F4 ops acc):F4 ops (i :: acc)
section order
variable {ops:Array Oper}
theorem F4.ke {l1 l2:fc} (h:F4 ops (l1++l2)):F4 ops l2:=by
 induction l1 with
 | nil=>exact h
 | cons x l1 ih=>cases h with | cons _ _ _ hr=>exact ih hr
theorem VZ {x:Nat} (ha:Anc ops x y):∀ {l1 l2:fc},F4 ops (l1++x :: l2)->y∈l2:=by
 induction ha with
 | base i o e ho he hb=>intro l1 l2 h;cases h.ke with | cons _ _ U _=>exact U o ho e he hb
 | step i y o e ho he hb _ ih =>
  intro l1 l2 h;cases h.ke with
  | cons _ _ U hr =>
   have hm:=U o ho e he hb;obtain⟨s1,s2,rfl⟩:=List.append_of_mem hm;exact bT _ (bM _ (ih hr))
theorem Uk {k b:Nat} (h:acc.lookup k=some b):(k,b)∈acc:=by
 induction acc with
 | nil=>simp at h
 | cons p acc ih =>
  obtain⟨k',b'⟩:=p;rw[ed] at h;by_cases hk:(k==k')=true;{rw[hk] at h;cases h;rw[beq_iff_eq.1 hk];exact bN};{rw[Bool.not_eq_true] at hk;rw[hk] at h;exact bM _ (ih h)}
theorem Y1 {k:Nat} (h:k∈acc.map (·.1)):(acc.lookup k).isSome=true:=by
 induction acc with
 | nil=>simp at h
 | cons p acc ih =>
  obtain⟨k',b'⟩:=p;rw[ed];by_cases hk:(k==k')=true;{rw[hk];rfl};{rw[Bool.not_eq_true] at hk;rw[hk];refine ih ?_;rw[bP,bE] at h;rcases h with h | h;{rw[h] at hk;simp at hk};{exact h}}
theorem Zn:∀ {es:List Edge},(Le acc es).testBit y=true->∃ e∈es,Region.binds .any e=true/\(y=e.on\/∃ b,(e.on,b)∈acc/\b.testBit y=true):=by
 intro es;induction es with
 | nil=>intro h;simp[Le] at h
 | cons e es ih =>
  intro h;simp only[Le] at h;by_cases hb:Region.binds .any e=true
  ·rw[eH hb] at h;rw[Nat.testBit_or,Nat.testBit_or,dW,dW] at h;rcases h with (h | h) | h
   {refine⟨e,bN,hb,.inl ?_⟩;rw[Nat.testBit_two_pow] at h;exact (eR h).symm}
   ·refine⟨e,bN,hb,.inr ?_⟩;cases hl:acc.lookup e.on with
    | none=>rw[hl] at h;simp at h
    | some b=>rw[hl] at h;exact⟨b,Uk hl,h⟩
   {obtain⟨e',he',r⟩:=ih h;exact⟨e',bM _ he',r⟩}
  {rw[eG hb] at h;obtain⟨e',he',r⟩:=ih h;exact⟨e',bM _ he',r⟩}
theorem Wr {l:fc} (h:l.Nodup):l.reverse.Nodup:=by unfold List.Nodup at *;rw[List.pairwise_reverse];exact h.imp fun gj e=>gj e.symm
theorem Uf {l:fc}:∀ {m:fc},l.Nodup->(∀ x∈l,x∈m)->l.length<=m.length:=by
 induction l with
 | nil=>intro m _ _;exact cX _
 | cons x l ih =>
  intro m jB hs;obtain⟨m1,m2,rfl⟩:=List.append_of_mem (hs x bN);have H:=(dK.1 jB).1
  have:=ih (m:=m1++m2) (dK.1 jB).2 fun y hy=>by
   have hm:=hs y (bM _ hy);rcases bS.1 hm with hm | hm;{exact bO _ hm}
   {rcases bE.1 hm with rfl | hm;{exact eQ hy H};{exact bT _ hm}}
  simp only[ce,ct] at this |-;omega
theorem bu:∀ (c:fc) (acc:List (Nat×Nat)) (r:List (Nat×Nat)),Mh ops c acc=some r->F4 ops (acc.map (·.1))->(acc.map (·.1)).Nodup->(∀ i∈acc.map (·.1),i < ops.size)->(∀ p∈acc,∀ y,p.2.testBit y=true->Anc ops p.1 y) ->
  F4 ops (r.map (·.1)).reverse/\(r.map (·.1)).Nodup/\(∀ i∈r.map (·.1),i < ops.size)/\r.length=ops.size/\∀ p∈r,∀ y,p.2.testBit y=true->Anc ops p.1 y:=by
 intro c;induction c with
 | nil =>
  intro acc r h U O h3 h4;simp only[Mh] at h;split at h;{rename_i hl;cases h;refine⟨by rw[List.map_reverse,List.reverse_reverse];exact U,by rw[List.map_reverse];exact Wr O,fun i hi=>h3 i (by rw[List.map_reverse,List.mem_reverse] at hi;exact hi),by rw[List.length_reverse];exact hl,fun p hp=>h4 p (List.mem_reverse.1 hp)⟩};{cases h}
 | cons i c ih =>
  intro acc r h U O h3 h4;simp only[Mh] at h;split at h
  case h_2=>cases h
  rename_i o ho;split at h
  case isFalse=>cases h
  rename_i hk;obtain⟨gS,ka⟩:=hk;have hedge:∀ e∈o.after,Region.binds .any e=true->e.on∈acc.map (·.1):=by intro e he hb;have:=bI.1 ka e (by simpa using he);rw[hb] at this;simp only[dV,dC] at this;obtain⟨b,jh⟩:=df.1 this;exact bA.2 ⟨(e.on,b),Uk jh,rfl⟩
  refine ih _ r h ?_ ?_ ?_ ?_;{refine .cons i _ (fun o' mJ e he hb=>?_) U;rw[ho] at mJ;cases mJ;exact hedge e he hb};{refine dK.2 ⟨fun hm=>?_,O⟩;have:=Y1 hm;rw[dj.1 gS] at this;cases this};{intro k hk;rcases bE.1 hk with rfl | hk;{exact (dL.1 ho).1};{exact h3 k hk}}
  ·intro p hp y hy;rcases bE.1 hp with rfl | hp
   ·obtain⟨e,he,hb,hr⟩:=Zn hy;have he':e∈o.after:=by simpa using he
    rcases hr with rfl | ⟨b,hm,hbit⟩;{exact .base i o e ho he' hb};{exact .step i y o e ho he' hb (h4 _ hm y hbit)}
   {exact h4 p hp y hy}
theorem Vl {l:fc} {n:Nat} (U:l.Nodup) (O:∀ i∈l,i < n) (h3:l.length=n):l.Perm (List.range n):=by
 refine (List.perm_ext_iff_of_nodup U List.nodup_range).2 fun a=>⟨fun ha=>cV.2 (O a ha),fun ha=>?_⟩
 exact dw fun hn=>by
  have:=Uf (l:=a :: l) (m:=List.range n) (dK.2 ⟨hn,U⟩) fun x H=>by rcases bE.1 H with rfl | H;{exact ha};{exact cV.2 (O x H)}
  simp at this;omega
theorem Y8 (oQ:F4 ops c.reverse) (oR:c.Perm (List.range ops.size)):∀ (fuel t:Nat) (listed:Array Bool) (acc:fc),
  listed.size=ops.size->(∀ k,k < ops.size->(listed.getD k false=true↔k∈acc))->acc.Nodup->(∀ k∈acc,k < ops.size)->acc.length+fuel=ops.size->F4 ops acc ->
  ∃ l,Region.linearise.go .any ops fuel t listed acc=l/\F4 ops l.reverse/\l.Nodup/\(∀ k∈l,k < ops.size)/\l.length=ops.size:=by
 intro fuel;induction fuel with
 | zero =>
  intro t listed acc _ _ jB gI hlen ui;exact⟨acc.reverse,rfl,by rwa [List.reverse_reverse],Wr jB,fun k hk=>gI k (List.mem_reverse.1 hk),by rw[List.length_reverse];omega⟩
 | succ fuel ih =>
  intro t listed acc iQ hl jB gI hlen ui;have gd:∀ k,k < ops.size->listed.getD k true=listed.getD k false:=fun k hk=>by simp[iQ,hk]
  have hready:Region.ready .any ops listed≠[]:=by
   have hex:∃ c1 i c2,c=c1++i :: c2/\(∀ x∈c1,x∈acc)/\i ∉ acc:=by
    have gj:∃ k∈c,k ∉ acc:=dw fun nz=>by have ix:∀ k∈c,k∈acc:=fun k hk=>dw fun h=>nz ⟨k,hk,h⟩;have:=Uf (l:=List.range ops.size) (m:=acc) List.nodup_range fun x H=>ix x (oR.mem_iff.2 H);simp at this;omega
    clear oQ oR;induction c with
    | nil=>obtain⟨k,hk,_⟩:=gj;cases hk
    | cons x c ihc =>
     by_cases H:x∈acc
     ·obtain⟨k,hk,hka⟩:=gj;rcases bE.1 hk with rfl | hk;{exact eQ H hka}
      {obtain⟨c1,i,c2,rfl,U,O⟩:=ihc ⟨k,hk,hka⟩;exact⟨x :: c1,i,c2,rfl,fun y hy=>(bE.1 hy).elim (fun e=>e ▸ H) (U y),O⟩}
     {exact⟨[],x,c,rfl,fun y hy=>(by cases hy),H⟩}
   obtain⟨c1,i,c2,rfl,U,O⟩:=hex;have mS:i < ops.size:=cV.1 (oR.mem_iff.1 (bT _ bN))
   have jq:i∈Region.ready .any ops listed:=by
    refine mem_ready.2 ⟨?_,ops[i],Array.getElem?_eq_getElem mS,fun e he hb=>?_⟩
    ·rw[gd i mS];cases hb:listed.getD i false with
     | false=>rfl
     | true=>exact eQ ((hl i mS).1 hb) O
    ·have ho:F4 ops (c2.reverse++i :: c1.reverse):=by simpa using oQ
     have hon:e.on∈c1:=by simpa using VZ (.base i ops[i] e (Array.getElem?_eq_getElem mS) he hb) ho
     have hacc:=U _ hon;exact (hl e.on (gI _ hacc)).2 hacc
   intro h0;rw[h0] at jq;cases jq
  simp only[Region.linearise.go]
  change ∃ l,(match (Region.ready .any ops listed)[t%(Region.ready .any ops listed).length]? with
   | some i=>Region.linearise.go .any ops fuel (t / (Region.ready .any ops listed).length) (listed.setIfInBounds i true) (i :: acc)
   | none=>acc.reverse)=l/\_
  have oP:t%(Region.ready .any ops listed).length < (Region.ready .any ops listed).length:=Nat.mod_lt _ (ew.2 hready);rw[bQ oP];simp only
  have him:=List.getElem_mem oP;generalize (Region.ready .any ops listed)[t%(Region.ready .any ops listed).length]=i at him |-;obtain⟨hi1,o,ho,hi2⟩:=mem_ready.1 him;have mS:i < ops.size:=(dL.1 ho).1;have hia:i ∉ acc:=fun hm=>by have:=(hl i mS).2 hm;rw[<-gd i mS,hi1] at this;cases this
  refine ih _ _ _ (by simpa using iQ) (fun k hk=>?_) (dK.2 ⟨hia,jB⟩) (fun k hk=>?_) (by simp only[ct];omega) (.cons i acc (fun o' mJ e he hb=>?_) ui)
  ·by_cases hki:k=i
   {subst hki;simp[iQ,hk]};{have:(listed.setIfInBounds i true).getD k false=listed.getD k false:=getD_set_ne false (bW hki);rw[this,hl k hk];simp[hki]}
  {rcases bE.1 hk with rfl | hk;{exact mS};{exact gI k hk}}
  ·rw[ho] at mJ;cases mJ;have:=hi2 e he hb;have hon:e.on < ops.size:=by rcases cZ e.on listed.size with h | h;{omega};{simp[dx h] at this}
   exact (hl e.on hon).1 this
end order
section draw
variable {E:Type} {cx:Cx} {w0:eS} {I0 F0:Nat->Prop} {O0:Bu} {Hd:Nat->Option Obj} {R:Bl E} {e e':E} {F F':Nat->Prop} {lp:Nat->fb} {fE gf:List eT}
variable {I I':Nat->Prop} {L:Am} {V st':St} {a:Act} {w w':eS} {o:Oper} {M:AC} {h:AB E} {dep:Nat}
theorem Fr.drew (hf:Fr cx w0 I0 F0 O0 Hd R e ds I F L w):Fr cx w0 I0 F0 O0 Hd R e ds I F L w.drew :=
 hf.same ⟨rfl,rfl,rfl,rfl⟩
theorem Zy {ops:Array Oper} (hM:Dq cx M.call) (gR:Fv cx M) (jk:Em M) (gk:Fu cx lp R h dep w0 I0 F0) {e2:E} {l:List (Nat×Nat)}
  (hb:Mh ops ord []=some l) (hr:ED M h dep (ops.toList.map (B7 cx.P cx.G)) l [] (BR (Bx (ops.toList.map (B7 cx.P cx.G))) V) e=some (fZ,e2))
  (hs:SR lp I L V a.tmps.toList fE w) (hf:Fr cx w0 I0 F0 O0 Hd R e a.defers I F L w)
  (hQ:∀ a' w' I' F' L',SR lp I' L' fZ a'.tmps.toList fE w'->Fr cx w0 I0 F0 O0 Hd R e2 a'.defers I' F' L' w'->Q .normal a' w'):(Code.region id ops true).wpIn (CF ro) 0 cx.P Q a w:=by
 obtain⟨b1,b2,b3,b4,b5⟩:=bu ord [] l hb .nil List.nodup_nil (fun i hi=>by cases hi) (fun p hp=>by cases hp);have hcp:(l.map (·.1)).Perm (List.range ops.size):=Vl b2 b3 (by rw[cf];exact b4);obtain⟨L',im,gQ⟩:=M3 (Bx (ops.toList.map (B7 cx.P cx.G))) hs hf;obtain⟨items,i1,i2,i3,_⟩:=ao l [] hr;refine wpIn_region_draw fun t=>?_;simp only[Region.schedule,cx.mixed,Bool.true_or,eF];obtain⟨sch,s1,s2,s3,s4,s5⟩:=Y8 b1 hcp ops.size t (Array.replicate ops.size false) [] (by simp) (fun k hk=>by simp[hk]) List.nodup_nil (fun k hk=>by cases hk) (by simp) .nil;have hsch:Region.linearise .any ops t=sch:=s1;rw[hsch];have mQ:items.map (·.1)=l.map (·.1):=by rw[<-i1,bV];rfl
 have hG:=qs jk sch items i2 i3 (by rw[mQ];exact (Vl s3 s4 s5).trans hcp.symm) s3 (fun l1 x l2 hl t' ht htx y hy hbit=>by
  have hp:(t'.1,t'.2.1)∈l:=by rw[<-i1];exact bA.2 ⟨t',ht,rfl⟩
  have hanc:=b5 _ hp y.1 hbit;simp only at hanc;rw[htx] at hanc;rw[hl] at s2;simp only[List.reverse_append,List.reverse_cons,cw,List.singleton_append] at s2;simpa using VZ hanc s2)
 rw[<-dv sch];exact R6 (l':=[]) hM gR gk hG (im.same ⟨rfl,rfl,rfl,rfl⟩) gQ.drew hQ
end draw
end Go.Ab


namespace Go.Ab
variable{cs:fa} {f:Nm->Nm} {l:fg} {m J:Nm} {p:Option (Nat×Nat)} {ty:Nat}
section
variable {E:Type} {cx:Cx} {w0:eS} {I0 F0:Nat->Prop} {O0:Bu} {Hd:Nat->Option Obj} {R:Bl E} {e:E} {F:Nat->Prop} {lp:Nat->fb} {fE gf:List eT}
variable {I:Nat->Prop} {L:Am} {V:St} {w:eS} {ds:List eZ}
theorem UB {t:Nat} (h:J0 V t=true):V.fA[t]?=some []:=by unfold J0 at h;split at h;{assumption};·cases h
theorem Vr {t:Nat} (h:V.fA[t]?=some []) (j:Nat):Aa V.fA (t,j)=none:=by unfold Aa;rw[h];rfl
theorem A5.fQ {ob:Ob} {L L':Am} (h:A5 w I lp L ob p) (hf:∀ J p,L J=some p->L' (f J)=some p):A5 w I lp L' (ob.fQ f) p:=by
 cases p with
 | none=>obtain⟨k,kt,rfl⟩:=h;exact⟨k,kt,rfl⟩
 | some p =>
  cases ob with
  | cells ty cs=>obtain⟨c,E,U,O,h4,h3⟩:=h;exact⟨c,E,U,O,h4,h3.rename hf⟩
  | arr k kt Z=>exact h
  | map es=>obtain⟨c,E,U,O⟩:=h;exact⟨c,E,U,O.rename hf⟩
  | fW s pos=>exact h
def Ho (L:Am) (t:Nat) (J:Nm):Am:=fun m=>if m=(t,0) then L J else if m=J then some none else L m
theorem qt (t:Nat) (hs:SR lp I L V gf fE w) (hf:Fr cx w0 I0 F0 O0 Hd R e ds I F L w):∃ L',SR lp I L' (Gg t V) gf fE w/\Fr cx w0 I0 F0 O0 Hd R e ds I F L' w:=by
 unfold Gg;split
 case h_2=>exact⟨L,hs,hf⟩
 rename_i J k o n H;split
 case isFalse=>exact⟨L,hs,hf⟩
 rename_i hc;obtain⟨gj,hem⟩:=hc;have iG:=UB hem;split
 case h_2=>exact⟨L,hs,hf⟩
 rename_i ob gK;obtain⟨p,hp,ha⟩:=hs.ob J ob gK;have nz:L (t,0)=none:=hs.j6 _ (Vr iG 0);have lD:J.1≠t:=by intro U;unfold Aa at gK;rw[U,iG] at gK;simp at gK
 have jy:∀ m q,L m=some q->Ho L t J (if m=J then (t,0) else m)=some q:=by
  intro m q hq;unfold Ho;by_cases hm:m=J;{subst hm;simp[hq]}
  ·have hmt:m≠(t,0):=fun h=>by rw[h,nz] at hq;cases hq
   simp[hm,hmt,hq]
 have ja:∀ m b C,Ho L t J m=some (some (b,C))->∃ m',L m'=some (some (b,C))/\(m=(t,0)/\m'=J\/m≠(t,0)/\m≠J/\m'=m):=by
  intro m b C hm;unfold Ho at hm;split at hm;{rename_i U;exact⟨J,hm,.inl ⟨U,rfl⟩⟩}
  ·rename_i U;split at hm;·cases hm
   {rename_i O;exact⟨m,hm,.inr ⟨U,O,rfl⟩⟩}
 refine⟨Ho L t J,⟨hs.tm.rename jy,hs.kp.rename jy,?_,?_⟩,?_⟩
 ·intro m ky hl;have gI:t < (AM (V.fA.map (·.map (Ob.fQ fun m=>if m=J then (t,0) else m))) J AH).length:=by have U:=(bH.1 iG).1;unfold AM;split<;>simp<;>exact U
  by_cases U:m.1=t
  ·obtain⟨a,j⟩:=m;simp only at U;subst U;rw[Ep _ gI] at hl;cases j with
   | succ j=>simp at hl
   | zero =>
    simp only[List.getElem?_cons_zero,bC] at hl;subst hl;exact⟨p,by simp[Ho,hp],ha.fQ jy⟩
  ·rw[DO _ U] at hl;have h1':m≠(t,0):=fun h=>U (by rw[h]);by_cases O:m=J
   ·subst O;have:Aa (V.fA.map (·.map (Ob.fQ fun m'=>if m'=m then (t,0) else m'))) m=some (ob.fQ fun m'=>if m'=m then (t,0) else m'):=by rw[DA,gK];rfl
    rw[Ix AH this] at hl;cases hl;exact⟨none,by simp[Ho,h1'],⟨0,0,rfl⟩⟩
   {rw[EG AH O,DA] at hl;obtain⟨jo,lQ,rfl⟩:=bB.1 hl;obtain⟨q,hq,hb⟩:=hs.ob m jo lQ;exact⟨q,by simp[Ho,h1',O,hq],hb.fQ jy⟩}
 ·intro m hl;have gI:t < (AM (V.fA.map (·.map (Ob.fQ fun m=>if m=J then (t,0) else m))) J AH).length:=by have U:=(bH.1 iG).1;unfold AM;split<;>simp<;>exact U
  by_cases U:m.1=t
  ·obtain⟨a,j⟩:=m;simp only at U;subst U;rw[Ep _ gI] at hl;cases j with
   | zero=>simp at hl
   | succ j =>
    have O:((a,j+1):Nm)≠J:=fun h=>lD (by rw[<-h]);simp only[Ho,O,eE];have h3:((a,j+1):Nm)≠(a,0):=fun h=>by simp at h
    simp only[h3,eE];exact hs.j6 _ (Vr iG _)
  ·rw[DO _ U] at hl;have h1':m≠(t,0):=fun h=>U (by rw[h]);have O:m≠J:=fun h=>by subst h;have:=(Iy AH).1 hl;rw[DA,gK] at this;cases this
   have:=(Iy AH).1 hl;rw[DA] at this;simp only[Ho,h1',O,eE];exact hs.j6 m (by simpa using this)
 {refine hf.own rfl rfl rfl (bD _) (fun _ _ _=>rfl) (fun _ h=>h) (fun _ h=>.inl h) (fun m b C hm=>?_) (fun m m' b C C' U O=>?_);{obtain⟨m',ly,_⟩:=ja m b C hm;exact⟨(hf.lB m' b C ly).2.1,(hf.lB m' b C ly).2.2.1,.inr ⟨m',C,ly⟩⟩};{obtain⟨x,mG,hx2⟩:=ja m b C U;obtain⟨y,hy1,hy2⟩:=ja m' b C' O;have hxy:=hf.inj x y b C C' mG hy1;rcases hx2 with ⟨rfl,rfl⟩ | ⟨g1,g2,rfl⟩<;>rcases hy2 with ⟨rfl,rfl⟩ | ⟨g3,g4,rfl⟩;{rfl};{exact eQ hxy.symm g4};{exact eQ hxy g2};{exact hxy}}}
theorem aW {i k:Nat} (gK:Aa V.fA J=some (.cells ty cs)) (hi:cs[i]?=some .fF) (hs:SR lp I L V gf fE w) (hf:Fr cx w0 I0 F0 O0 Hd R e ds I F L w) :
  ∃ L',SR lp I L' {V with fA:=V.fA.set J.1 ((V.fA.getD J.1 []).set J.2 (.cells ty (cs.set i (.arr (J.1,(V.fA.getD J.1 []).length) k 0 0)))++[.arr k 0 []])} gf fE w/\Fr cx w0 I0 F0 O0 Hd R e ds I F L' w:=by
 obtain⟨d,j⟩:=J;simp only
 cases hl:V.fA[d]? with
 | none=>unfold Aa at gK;simp only[hl] at gK;cases gK
 | some l =>
  have j8:∀ j,Aa V.fA (d,j)=l[j]?:=fun j=>by unfold Aa;simp only[hl]
  have mH:V.fA.getD d []=l:=by rw[bF,hl];rfl
  have gI:=(bH.1 hl).1;rw[mH];rw[j8] at gK;have hj:=(bH.1 gK).1;have ki:L (d,l.length)=none:=hs.j6 _ (by rw[j8];simp)
  let L':Am:=fun t=>if t=(d,l.length) then some none else L t
  have hle:Kp L L':=by
   intro t p hp;have:t≠(d,l.length):=fun h=>by rw[h,ki] at hp;cases hp
   simp only[L',this,eE];exact hp
  refine⟨L',⟨hs.tm.iD hle,hs.kp.iD hle,fun t ob ht=>?_,fun t ht=>?_⟩,?_⟩
  ·simp only at ht;by_cases U:t.1=d
   ·obtain⟨a,b⟩:=t;simp only at U;subst U;rw[Ep _ gI] at ht;by_cases hb:b < l.length
    ·rw[ck (by simpa using hb)] at ht;have gj:((a,b):Nm)≠(a,l.length):=fun h=>by have:=eM Prod.snd h;simp at this;omega
     by_cases hbj:b=j
     ·subst hbj;rw[cB hb] at ht;cases ht;obtain⟨p,hp,ha⟩:=hs.ob (a,b) _ (by rw[j8];exact gK);refine⟨p,by simp only[L',gj,eE];exact hp,?_⟩;cases p with
      | none=>obtain⟨k',kt',h⟩:=ha;cases h
      | some p =>
       obtain⟨b0,C⟩:=p;obtain⟨c,E',q1,q2,q3,q4⟩:=ha;refine⟨c,E',q1,q2,q3,?_⟩;have q5:=q4.iD hle;obtain⟨v,hv,hr⟩:=q5.get hi;have hvv:=Fb hr;subst hvv;have:=q5.set i (x:=.arr (a,l.length) k 0 0) (v:=.slice none 0 0) (.iL _ k (by simp[L']))
       rwa [SX hv] at this
     {rw[bR (bW hbj)] at ht;obtain⟨p,hp,ha⟩:=hs.ob (a,b) ob (by rw[j8];exact ht);exact⟨p,by simp only[L',gj,eE];exact hp,ha.iD hle⟩}
    ·rw[cD (by simpa using hb)] at ht;simp only[List.length_set] at ht;have pR:b=l.length:=by have:=(bH.1 ht).1;simp at this;omega
     subst pR;simp at ht;subst ht;exact⟨none,by simp[L'],⟨k,_,rfl⟩⟩
   {rw[DO _ U] at ht;obtain⟨p,hp,ha⟩:=hs.ob t ob ht;have gj:t≠(d,l.length):=fun h=>U (by rw[h]);exact⟨p,by simp only[L',gj,eE];exact hp,ha.iD hle⟩}
  ·simp only at ht;by_cases U:t.1=d
   ·obtain⟨a,b⟩:=t;simp only at U;subst U;rw[Ep _ gI] at ht;have hb:l.length < b:=by have:=bY.1 ht;simp at this;omega
    have gj:((a,b):Nm)≠(a,l.length):=fun h=>by have:=eM Prod.snd h;simp at this;omega
    simp only[L',gj,eE];exact hs.j6 _ (by rw[j8];exact bY.2 (by omega))
   {rw[DO _ U] at ht;have gj:t≠(d,l.length):=fun h=>U (by rw[h]);simp only[L',gj,eE];exact hs.j6 t ht}
  ·have ja:∀ t b C,L' t=some (some (b,C))->L t=some (some (b,C)):=by
    intro t b C ht;simp only[L'] at ht;split at ht;·cases ht
    {exact ht}
   exact hf.own rfl rfl rfl (bD _) (fun _ _ _=>rfl) (fun _ h=>h) (fun _ h=>.inl h) (fun t b C ht=>by have:=ja t b C ht;exact⟨(hf.lB t b C this).2.1,(hf.lB t b C this).2.2.1,.inr ⟨t,C,this⟩⟩) fun t t' b C C' U O=>hf.inj t t' b C C' (ja _ _ _ U) (ja _ _ _ O)
theorem ZP {d len:Nat} {ob:Ob} (hl:V.fA[d]?=some l) (hlen:l.length=len) (hmd:m.1≠d) (gK:Aa V.fA m=some ob) (hs:SR lp I L V gf fE w) (hf:Fr cx w0 I0 F0 O0 Hd R e ds I F L w) :
  let f:Nm->Nm:=fun x=>if x=m then (d,len) else x
  let fA:=AM (V.fA.map (·.map (Ob.fQ f))) m AH
  ∃ L',SR lp I L' {tmps:=AR f V.tmps,fA:=fA.set d (fA.getD d []++[ob.fQ f]),fD:=AR f V.fD} gf fE w/\Fr cx w0 I0 F0 O0 Hd R e ds I F L' w:=by
 intro f fA;obtain⟨p,hp,ha⟩:=hs.ob m ob gK;have j8:∀ j,Aa V.fA (d,j)=l[j]?:=fun j=>by unfold Aa;simp only[hl]
 have ki:L (d,len)=none:=hs.j6 _ (by rw[j8];simp[hlen]);have gj:m≠(d,len):=fun h=>hmd (by rw[h])
 let L':Am:=fun t=>if t=(d,len) then L m else if t=m then some none else L t
 have jy:∀ x q,L x=some q->L' (f x)=some q:=by
  intro x q hq;simp only[L',f];by_cases H:x=m;{subst H;simp[hq]}
  ·have hxt:x≠(d,len):=fun h=>by rw[h,ki] at hq;cases hq
   simp[H,hxt,hq]
 have ja:∀ x b C,L' x=some (some (b,C))->∃ x',L x'=some (some (b,C))/\(x=(d,len)/\x'=m\/x≠(d,len)/\x≠m/\x'=x):=by
  intro x b C H;simp only[L'] at H;split at H;{rename_i U;exact⟨m,H,.inl ⟨U,rfl⟩⟩}
  ·rename_i U;split at H;·cases H
   {rename_i O;exact⟨x,H,.inr ⟨U,O,rfl⟩⟩}
 have hobd:fA[d]?=some (l.map (Ob.fQ f)):=by simp only[fA];unfold AM;split;{rename_i l' mN;rw[bR hmd,bK,hl];rfl};{rw[bK,hl];rfl}
 have gI:d < fA.length:=(bH.1 hobd).1;have mH:fA.getD d []=l.map (Ob.fQ f):=by rw[bF,hobd];rfl
 have hlm:Aa (V.fA.map (·.map (Ob.fQ f))) m=some (ob.fQ f):=by rw[DA,gK];rfl
 refine⟨L',⟨hs.tm.rename jy,hs.kp.rename jy,?_,?_⟩,?_⟩
 ·intro t ky ht;simp only at ht;rw[mH] at ht;by_cases U:t.1=d
  ·obtain⟨a,j⟩:=t;simp only at U;subst U;rw[Ep _ gI] at ht;by_cases hj:j < l.length
   ·rw[ck (by simpa using hj),bK] at ht;obtain⟨jo,h0,rfl⟩:=bB.1 ht;obtain⟨q,hq,hb⟩:=hs.ob (a,j) jo (by rw[j8];exact h0);have O:((a,j):Nm)≠(a,len):=fun h=>by have:=eM Prod.snd h;simp at this;omega
    have h3:((a,j):Nm)≠m:=fun h=>hmd (by rw[<-h]);exact⟨q,by simp only[L',O,h3,eE];exact hq,hb.fQ jy⟩
   ·rw[cD (by simpa using hj)] at ht;simp only[cf] at ht;have hj2:j=len:=by have:=(bH.1 ht).1;simp at this;omega
    subst hj2;rw[hlen] at ht;simp at ht;subst ht;exact⟨p,by simp[L',hp],ha.fQ jy⟩
  {rw[DO _ U] at ht;have O:t≠(d,len):=fun h=>U (by rw[h]);by_cases h3:t=m;{subst h3;rw[Ix AH hlm] at ht;cases ht;exact⟨none,by simp[L',O],⟨0,0,rfl⟩⟩};{rw[EG AH h3,DA] at ht;obtain⟨jo,h0,rfl⟩:=bB.1 ht;obtain⟨q,hq,hb⟩:=hs.ob t jo h0;exact⟨q,by simp[L',O,h3,hq],hb.fQ jy⟩}}
 ·intro t ht;simp only at ht;rw[mH] at ht;by_cases U:t.1=d
  ·obtain⟨a,j⟩:=t;simp only at U;subst U;rw[Ep _ gI] at ht;have hj:l.length < j:=by have:=bY.1 ht;simp at this;omega
   have O:((a,j):Nm)≠(a,len):=fun h=>by have:=eM Prod.snd h;simp at this;omega
   have h3:((a,j):Nm)≠m:=fun h=>hmd (by rw[<-h]);simp only[L',O,h3,eE];exact hs.j6 _ (by rw[j8];exact bY.2 (by omega))
  ·rw[DO _ U] at ht;have O:t≠(d,len):=fun h=>U (by rw[h]);have h3:t≠m:=fun h=>by subst h;have:=(Iy AH).1 ht;rw[hlm] at this;cases this
   have:=(Iy AH).1 ht;rw[DA] at this;simp only[L',O,h3,eE];exact hs.j6 t (by simpa using this)
 {refine hf.own rfl rfl rfl (bD _) (fun _ _ _=>rfl) (fun _ h=>h) (fun _ h=>.inl h) (fun x b C H=>?_) (fun x x' b C C' U O=>?_);{obtain⟨x',kb,_⟩:=ja x b C H;exact⟨(hf.lB x' b C kb).2.1,(hf.lB x' b C kb).2.2.1,.inr ⟨x',C,kb⟩⟩};{obtain⟨y,hy1,hy2⟩:=ja x b C U;obtain⟨z,pS,hz2⟩:=ja x' b C' O;have hyz:=hf.inj y z b C C' hy1 pS;rcases hy2 with ⟨rfl,rfl⟩ | ⟨g1,g2,rfl⟩<;>rcases hz2 with ⟨rfl,rfl⟩ | ⟨g3,g4,rfl⟩;{rfl};{exact eQ hyz.symm g4};{exact eQ hyz g2};{exact hyz}}}
theorem uj (x off k:Nat) (hs:SR lp I L V gf fE w) (hf:Fr cx w0 I0 F0 O0 Hd R e ds I F L w):∃ L',SR lp I L' (Mc x off k V) gf fE w/\Fr cx w0 I0 F0 O0 Hd R e ds I F L' w:=by
 unfold Mc;split
 case h_2=>exact⟨L,hs,hf⟩
 rename_i J o H;split
 case h_2=>exact⟨L,hs,hf⟩
 rename_i cs gK;unfold KX;simp only
 split;{rename_i hi;exact aW gK hi hs hf}
 ·rename_i m k' o' n' hi;split
  case isFalse=>exact⟨L,hs,hf⟩
  rename_i hm;split
  case h_2=>exact⟨L,hs,hf⟩
  rename_i ob iT;cases hl:V.fA[J.1]? with
  | none=>unfold Aa at gK;rw[hl] at gK;cases gK
  | some l =>
   have mH:V.fA.getD J.1 []=l:=by rw[bF,hl];rfl
   rw[mH];exact ZP hl rfl hm iT hs hf
 {exact⟨L,hs,hf⟩}
theorem grow_ok (t k:Nat) (hs:SR lp I L V gf fE w) (hf:Fr cx w0 I0 F0 O0 Hd R e ds I F L w):∃ L',SR lp I L' (FL t k V) gf fE w/\Fr cx w0 I0 F0 O0 Hd R e ds I F L' w:=by
 unfold FL;split;{exact uj _ _ _ hs hf};split
 case h_2=>exact⟨L,hs,hf⟩
 rename_i H;split
 case isFalse=>exact⟨L,hs,hf⟩
 rename_i hem;have iG:=UB hem
 have hn:=hs.news iG [.arr k 0 []] [none] rfl (by
  intro j ob p U O;cases j with
  | zero=>simp at U O;subst U;subst O;exact⟨k,_,rfl⟩
  | succ j=>simp at U)
 have iA:V.tmps[t]?=some .fF:=by
  cases h:V.tmps[t]? with
  | none=>rw[bF,h] at H;simp at H
  | some x=>rw[bF,h] at H;simp at H;rw[H]
 obtain⟨v,hv,hr⟩:=hs.tm.get iA;have hvv:=Fb hr;subst hvv;have hp:=hn.put t (v:=.arr (t,0) k 0 0) (v':=.slice none 0 0) (.iL _ k (by simp[BO]));rw[SX hv] at hp;refine⟨BO L t [none],hp,?_⟩;refine Fr.news hf iG rfl rfl rfl (bD _) (fun _ _=>rfl) ?_ ?_
 ·intro j b C hj;cases j with
  | zero=>simp at hj
  | succ j=>simp at hj
 ·intro j j' b C C' U _;cases j with
  | zero=>simp at U
  | succ j=>simp at U
theorem uk (gp:fc) (grow:List (Nat×Nat)) (hs:SR lp I L V gf fE w) (hf:Fr cx w0 I0 F0 O0 Hd R e ds I F L w):∃ L',SR lp I L' (Ie gp grow V) gf fE w/\Fr cx w0 I0 F0 O0 Hd R e ds I F L' w:=by
 have U:∀ (gp:fc) (V:St) (L:Am),SR lp I L V gf fE w->Fr cx w0 I0 F0 O0 Hd R e ds I F L w->∃ L',SR lp I L' (gp.foldl (fun V t=>Gg t V) V) gf fE w/\Fr cx w0 I0 F0 O0 Hd R e ds I F L' w:=by
  intro gp;induction gp with
  | nil=>intro V L hs hf;exact⟨L,hs,hf⟩
  | cons t gp ih =>
   intro V L hs hf;obtain⟨L',im,gQ⟩:=qt t hs hf;exact ih _ L' im gQ
 have O:∀ (grow:List (Nat×Nat)) (V:St) (L:Am),SR lp I L V gf fE w->Fr cx w0 I0 F0 O0 Hd R e ds I F L w->∃ L',SR lp I L' (grow.foldl (fun V (t,k)=>FL t k V) V) gf fE w/\Fr cx w0 I0 F0 O0 Hd R e ds I F L' w:=by
  intro grow;induction grow with
  | nil=>intro V L hs hf;exact⟨L,hs,hf⟩
  | cons t grow ih =>
   intro V L hs hf;obtain⟨L',im,gQ⟩:=grow_ok t.1 t.2 hs hf;exact ih _ L' im gQ
 obtain⟨L1,jU,jb⟩:=U gp V L hs hf;exact O grow _ L1 jU jb
theorem Z3 (Z:fc) {L:fm}:∀ (k:Nat) {ys:fa} {A:List eT},Ae w I lp L ys A->Ae w I lp L ((ys.zipIdx k).map fun (v,i)=>if Z.contains i then .undef else v) A:=by
 intro k ys;induction ys generalizing k with
 | nil=>intro A h;cases h;exact .nil
 | cons y ys ih =>
  intro A h;cases h with
  | cons _ v _ A h hs =>
   rw[dI,bP];refine .cons _ _ _ _ ?_ (ih (k+1) hs);simp only
   split;{exact .undef v};{exact h}
theorem Z4 (Z:fc) (hs:SR lp I L V gf fE w):SR lp I L (FA Z V) gf fE w:={hs with tm:=Z3 Z 0 hs.tm}
theorem qu (Z:fc) {L:fm}:∀ (k:Nat) {ys:fa} {A:List eT},Ae w I lp L ys A->Ae w I lp L ((ys.zipIdx k).map fun (v,i)=>if Z.contains i then v else .undef) A:=by
 intro k ys;induction ys generalizing k with
 | nil=>intro A h;cases h;exact .nil
 | cons y ys ih =>
  intro A h;cases h with
  | cons _ v _ A h hs =>
   rw[dI,bP];refine .cons _ _ _ _ ?_ (ih (k+1) hs);simp only
   split;{exact h};{exact .undef v}
theorem ZO (Z:fc) (hs:SR lp I L V gf fE w):SR lp I L (Fz Z V) gf fE w:={hs with tm:=qu Z 0 hs.tm}
theorem Po (AH:Option fc) (hs:SR lp I L V gf fE w) (hf:Fr cx w0 I0 F0 O0 Hd R e ds I F L w):∃ L',SR lp I L' (EC AH V) gf fE w/\Fr cx w0 I0 F0 O0 Hd R e ds I F L' w:=by unfold EC;split;{exact⟨L,hs,hf⟩};{exact M3 _ (ZO _ hs) hf}
theorem YF (Z:fc) (hs:SR lp I L V gf fE w) (hf:Fr cx w0 I0 F0 O0 Hd R e ds I F L w):∃ L',SR lp I L' (drop Z V) gf fE w/\Fr cx w0 I0 F0 O0 Hd R e ds I F L' w:=by unfold drop;exact M3 _ (Z4 Z hs) hf
theorem XO {R:fh} {d m:Nat} (h:(d,m)∈R):∀ {n},m < n->m < G4 R d n
 | n+1,hn=>by
  unfold G4;split;{exact hn};{rename_i hc;have gj:m≠n:=fun e=>hc (by rw[<-e];exact cy.2 h);exact XO h (by omega)}
theorem Tk (hs:SR lp I L V gf fE w) (hf:Fr cx w0 I0 F0 O0 Hd R e ds I F L w):∃ L',SR lp I L' (trim V) gf fE w/\Fr cx w0 I0 F0 O0 Hd R e ds I F L' w:=by
 obtain⟨T,zzc,K⟩:=V;unfold trim;simp only
 generalize hR:(Al T++Al K++zzc.flatMap fun l=>l.flatMap Ob.names)=Rn
 let D:Nm->Prop:=fun J=>(Aa zzc J).isSome=true/\G4 Rn J.1 (zzc.getD J.1 []).length<=J.2
 have nz:∀ J∈Rn,¬ D J:=by
  rintro J hn ⟨U,O⟩
  have hl:J.2 < (zzc.getD J.1 []).length:=by
   unfold Aa at U;cases hq:zzc[J.1]? with
   | none=>rw[hq] at U;cases U
   | some l =>
    rw[hq] at U;rw[bF,hq];obtain⟨x,H⟩:=df.1 U;exact (bH.1 H).1
  have:=XO (R:=Rn) (d:=J.1) (m:=J.2) hn hl;omega
 have jM:∀ Z:fa,(∀ J∈Al Z,J∈Rn)->AE (fun m=>if D m then some none else none) Z=Z:=by intro Z H;rw[HL (g:=fun _=>none) Z fun J hn=>eG (nz J (H J hn)),ir]
 have nC:∀ J ob,Aa zzc J=some ob->ob.sub (fun m=>if D m then some none else none)=ob:=by
  intro J ob hl;cases ob with
  | cells ty cs =>
   show Ob.cells ty _=_;rw[jM cs fun m hm=>?_];rw[<-hR];refine bT _ (cp.2 ?_);unfold Aa at hl;cases hq:zzc[J.1]? with
   | none=>rw[hq] at hl;cases hl
   | some l =>
    rw[hq] at hl;exact⟨l,bJ hq,cp.2 ⟨_,bJ hl,hm⟩⟩
  | arr k kt Z=>rfl
  | map es =>
   show Ob.map _=_;rw[jM es fun m hm=>?_];rw[<-hR];refine bT _ (cp.2 ?_);unfold Aa at hl;cases hq:zzc[J.1]? with
   | none=>rw[hq] at hl;cases hl
   | some l =>
    rw[hq] at hl;exact⟨l,bJ hq,cp.2 ⟨_,bJ hl,hm⟩⟩
  | fW s pos=>rfl
 have hl:=hs.n7 (D:=D) (lN:=zzc.zipIdx.map fun x=>x.1.take (G4 Rn x.2 x.1.length)) (by
  intro J
  have hrhs:(Aa zzc J).map (Ob.sub fun m=>if D m then some none else none)=Aa zzc J:=by
   cases hq:Aa zzc J with
   | none=>rfl
   | some ob=>simp only[bG];rw[nC J ob hq]
  simp only
  rw[hrhs];by_cases hd:D J
  ·rw[eH hd];obtain⟨U,O⟩:=hd;unfold Aa;rw[bK,cM];cases hq:zzc[J.1]? with
   | none=>rfl
   | some l =>
    rw[bF,hq] at O;simp only[bG,bX,b7] at O |-;exact cg (by rw[dn];omega)
  ·rw[eG hd];unfold Aa;rw[bK,cM];cases hq:zzc[J.1]? with
   | none=>rfl
   | some l =>
    simp only[bG,bX];rw[List.getElem?_take];split;·rfl
    ·rename_i hc;cases H:l[J.2]? with
     | none=>rfl
     | some x =>
      exfalso;refine hd ⟨?_,?_⟩;·unfold Aa;rw[hq];simp[H]
      ·rw[bF,hq];simp only[b7];omega)
 rw[jM T fun J hn=>by rw[<-hR];simp[hn],jM K fun J hn=>by rw[<-hR];simp[hn]] at hl;refine⟨_,hl,hf.n7 fun J p hn=>?_⟩;split at hn;·cases hn
 {exact hn}
theorem Nc (gp:fc) (grow:List (Nat×Nat)) (hs:SR lp I L V gf fE w) (hf:Fr cx w0 I0 F0 O0 Hd R e ds I F L w):∃ L',SR lp I L' (norm gp grow V) gf fE w/\Fr cx w0 I0 F0 O0 Hd R e ds I F L' w:=by obtain⟨L1,jU,jb⟩:=uk gp grow hs hf;exact YF _ jU jb
end
end Go.Ab


namespace Go.Ab
variable{l:Nat} {ps:Array Nat} {rb:AU} {rc:Loop} {st':St} {v:eT}
def Ch:Ex->Exit
 | .normal=>.normal
 | .exit id=>if id < BK then .exit id else .goto (id - BK)
 | .ret=>.ret
def Ja:Ex->Option Code
 | .normal=>none
 | .exit id=>some (if id < BK then .exit id else .goto (id - BK))
 | .ret=>some .ret
def Dn (cx:Cx) (M:AC) (fuel:Nat) (r:AU) (c:Code):Prop :=
 ∀ (E:Type) (h:AB E) (dep:Nat) (R:Bl E) (lp:Nat->fb) (w0:eS) (I0 F0:Nat->Prop) (O0:Bu) (Hd:Nat->Option Obj) (fE:List eT) (ro:fb) (V:St) (e:E) (x:Ex) (fZ:St) (e2:E),
  At M fuel r h dep V e=some (x,fZ,e2)->Fu cx lp R h dep w0 I0 F0->(∀ l0,ro=some l0->∃ r0,Hd l0=some (.loop r0)) ->
  ∀ (a:Act) (w:eS) (I F:Nat->Prop) (L:Am) (Q:Exit->Act->eS->Prop),SR lp I L V a.tmps.toList fE w->Fr cx w0 I0 F0 O0 Hd R e a.defers I F L w ->
   (∀ a' w' I' F' L',SR lp I' L' fZ a'.tmps.toList fE w'->Fr cx w0 I0 F0 O0 Hd R e2 a'.defers I' F' L' w'->Q (Ch x) a' w')->c.wpIn (CF ro) 0 cx.P Q a w
def H8 (cx:Cx) (dd:C4) (M:AC) (fuel:Nat) (c:Code):Prop :=
 ∀ (E:Type) (h:AB E) (dep:Nat) (R:Bl E) (lp:Nat->fb) (w0:eS) (I0 F0:Nat->Prop) (O0:Bu) (Hd:Nat->Option Obj) (fE:List eT) (ro:fb) (V:St) (e:E) (x:Ex) (fZ:St) (e2:E),
  At M fuel (Bk cx.P cx.G dd c) h dep V e=some (x,fZ,e2)->Fu cx lp R h dep w0 I0 F0->(∀ l0,ro=some l0->∃ r0,Hd l0=some (.loop r0)) ->
  ∀ (a:Act) (w:eS) (I F:Nat->Prop) (L:Am) (Q:Exit->Act->eS->Prop),SR lp I L V a.tmps.toList fE w->Fr cx w0 I0 F0 O0 Hd R e a.defers I F L w ->
   (∀ a' w' I' F' L',SR lp I' L' fZ a'.tmps.toList fE w'->Fr cx w0 I0 F0 O0 Hd R e2 a'.defers I' F' L' w'->Q (Ch x) a' w')->c.wpIn (CF ro) 0 cx.P Q a w
section
variable {E:Type} {cx:Cx} {w0:eS} {I0 F0:Nat->Prop} {O0:Bu} {Hd:Nat->Option Obj} {R:Bl E} {e:E} {F:Nat->Prop} {lp:Nat->fb} {fE gf:List eT}
variable {I:Nat->Prop} {L:Am} {V:St} {w:eS} {ds:List eZ}
theorem aY (hs:SR lp I L V gf fE w) (hf:Fr cx w0 I0 F0 O0 Hd R e ds I F L w) {x y:PV} (H:Aj w I lp (some L) x v) (h:IY V x=some (y,st')) :
  ∃ I' L',SR lp I' L' st' gf fE w/\Fr cx w0 I0 F0 O0 Hd R e ds I' F L' w/\Aj w I' lp none y v:=by
 unfold IY at h;split at h;{rename_i hn;cases h;exact⟨I,L,hs,hf,H.shut (bZ.1 hn)⟩};{obtain⟨hR,h⟩:=AK h;cases h;exact⟨_,_,hs.freeze hR,hf.freeze _,Vd hs hR H fun J hn=>C9 _ _ J hn⟩}
def B9 (L:Am) (b:Nat):Prop:=∃ J C,L J=some (some (b,C))
def Ba (rc:Loop) (p:Option Ex):Loop :=
 match p with
 | none=>{rc with state:=.ready,pending:=none}
 | some x=>{rc with state:=.done,pending:=Ja x}
def PM (w0:eS) (O0:Bu) (R:Bl E) (lp:Nat->fb) (l:Nat) (rc:Loop) (tm fE:List eT):Bl (Dj E) where
 rel:=fun r I F w=>∃ L Fo,SR lp I L r.1 tm fE w/\(∀ b,F b↔Fo b\/B9 L b\/b=l)/\(∀ b,B9 L b->¬ Fo b/\b≠l/\(w0.heap.size<=b\/O0 b))/\¬ Fo l /\
  (∀ J gP b C C',L J=some (some (b,C))->L gP=some (some (b,C'))->J=gP)/\w.heap[l]?=some (.loop (Ba rc r.2.1))/\R.rel r.2.2 I Fo w
 jK:=by
  rintro r I I' F w w' ⟨L,Fo,U,O,h3,h4,h5,h6,h7⟩ hI hk iQ
  exact⟨L,Fo,U.keeps hI (fun b hb=>hk b (.inl hb)) (fun J b C hn=>hk b (.inr ((O b).2 (.inr (.inl ⟨J,C,hn⟩))))),O,h3,h4,h5,
   (hk l (.inr ((O l).2 (.inr (.inr rfl))))).trans h6,R.jK r.2.2 I I' Fo w w' h7 hI (fun b hb=>hk b (hb.imp id fun hf=>(O b).2 (.inl hf))) iQ⟩
theorem BA.less {I F I' F' F2:Nat->Prop} {w w':eS} (h:BA I F w I' F' w') (hF:∀ b,F2 b->F' b):BA I F w I' F2 w' :=
 ⟨h.os,h.tape,h.output,h.size,h.fD,h.j9,h.jJ,fun b hb=>h.jX b (hF b hb)⟩
theorem Fr.lJ (hf:Fr cx w0 I0 F0 O0 Hd R e ds I F L w) {ob ky:Obj} (hl:Hd l=some ob) (hF0:w0.heap.size<=l\/F0 l) (hds:∀ D,D∈ds.map (·.target)->D≠.collected l) :
  Fr cx w0 I0 F0 O0 (fun b=>if b=l then some ky else Hd b) R e ds I F L (w.putObj l ky):=by
 obtain⟨d1,d2,d3,d4,d5⟩:=hf.lP l ob hl;have hk:∀ b,b≠l->(w.putObj l ky).heap[b]?=w.heap[b]?:=fun b hb=>World.putObj_heap_other hb;have iQ:(w.putObj l ky).heap.size=w.heap.size:=World.putObj_size
 refine⟨⟨hf.ext.os,hf.ext.tape,hf.ext.output,by rw[iQ];exact hf.ext.size,fun b hb hF=>?_,hf.ext.j9,hf.ext.jJ,hf.ext.jX⟩,⟨fun b hb=>by rw[iQ];exact hf.sep.iB b hb,fun b hb=>⟨by rw[iQ];exact (hf.sep.fB b hb).1,(hf.sep.fB b hb).2⟩⟩,hf.oF,
  fun J b C hn=>⟨(hf.lB J b C hn).1,by rw[iQ];exact (hf.lB J b C hn).2.1,(hf.lB J b C hn).2.2⟩,hf.inj,?_,?_,?_,?_⟩
 ·have gj:b≠l:=fun e=>by subst e;exact hF0.elim (fun h=>by omega) hF
  exact (hk b gj).trans (hf.ext.fD b hb hF)
 {exact cx.jK I I w _ hf.wd (fun _ h=>h) (fun b hb=>hk b fun e=>d2 (e ▸ hb)) (by rw[iQ];exact bD _)};{exact R.jK e I I F w _ hf.re (fun _ h=>h) (fun b hb=>hk b fun e=>hb.elim (fun h=>d2 (e ▸ h)) fun h=>d3 (e ▸ h)) (by rw[iQ];exact bD _)}
 ·have key:∀ ds rs,BS w0.heap.size I F L w ds rs->(∀ D,D∈ds.map (·.target)->D≠.collected l)->BS w0.heap.size I F L (w.putObj l ky) ds rs:=by
   intro ds rs h;induction h with
   | nil=>intro _;exact .nil
   | call d ds rs hd _ ih=>intro gj;exact .call d ds rs hd (ih fun D' kL=>gj D' (by simp at kL |-;exact .inr kL))
   | cons D ds rs U O h3 h4 h5 h6 h7 _ ih =>
    intro gj;have hD:D≠l:=fun e=>gj (.collected D) (by simp) (by rw[e]);exact .cons D ds rs U (by rw[iQ];exact O) h3 h4 h5 ((hk D hD).trans h6) h7 (ih fun D' kL=>gj D' (by simp at kL |-;exact .inr kL))
  exact key ds _ hf.lO hds
 {intro b ob2 hb;by_cases lG:b=l;{subst lG;simp only[eF,bC] at hb;subst hb;exact⟨by rw[iQ];exact d1,d2,d3,d4,World.putObj_heap_same d1⟩};{simp only[lG,eE] at hb;obtain⟨g1,g2,g3,g4,g5⟩:=hf.lP b ob2 hb;exact⟨by rw[iQ];exact g1,g2,g3,g4,(hk b lG).trans g5⟩}}
theorem SR.lJ {I:Nat->Prop} (hs:SR lp I L V gf fE w) (ky:Obj) (hI:¬ I l) (hL:∀ J C,L J≠some (some (l,C))):SR lp I L V gf fE (w.putObj l ky) :=
 hs.keeps (fun _ h=>h) (fun b hb=>World.putObj_heap_other fun e=>hI (e ▸ hb)) fun J b C hn=>World.putObj_heap_other fun e=>hL J C (e ▸ hn)
theorem qv {w:eS} {I:Nat->Prop} {lp:Nat->fb} {L:fm}:∀ (ps:fc) (A:fa) (us:List eT) (tm:fa) (tv:Array eT),Ae w I lp L A us->Ae w I lp L tm tv.toList->A.length=ps.length ->
  Ae w I lp L (FG ps A tm) ((ps.zip us).foldl (fun (tmps:Array eT) (x:Nat×eT)=>tmps.setIfInBounds x.1 x.2) tv).toList:=by
 intro ps;induction ps with
 | nil=>intro A us tm tv hv ht _;cases A<;>exact ht
 | cons p ps ih =>
  intro A us tm tv hv ht hl;cases hv with
  | nil=>simp at hl
  | cons v u A us h hs =>
   simp only[FG,List.zip_cons_cons,cJ];refine ih A us _ _ hs ?_ (by simpa using hl);rw[ef];exact ht.set p h
end
def Ll (M:AC) (fuel:Nat) {E:Type} (h:AB E) (dep:Nat) (ps:fc) (assign body:AU):AB (Dj E):=fun l args r =>
 if l=dep then
  match r with
  |(s,none,e) =>
   if args.length=ps.length then
    match At M fuel assign h (dep+1) {s with tmps:=FG ps args s.tmps,fD:=s.tmps++s.fD} e with
    | some (.normal,s',e)=>match At M fuel body h (dep+1) s' e with
     | some (x,s',e)=>some (x==.normal,({s' with tmps:=s'.fD.take s.tmps.length,fD:=s'.fD.drop s.tmps.length},(if x=.normal then none else some x),e))
     | none=>none
    | _=>none
   else none
  | _=>none
 else
  match r with
  |(s,p,e)=>match h l args e with
   | some (b,e)=>some (b,(s,p,e))
   | none=>none
theorem ZT (M:AC) (fuel:Nat) (f:RX) (ps:fc) (assign body:AU) {E:Type} (h:AB E) (dep:Nat) (V:St) (e:E) :
  At M fuel (.rangeFunc f ps assign body) h dep V e=(if Ih M (f.ev V.tmps) then HW M (fun h dep=>Ll M fuel h dep ps assign body) h dep (f.ev V.tmps) V e else match IY V (f.ev V.tmps) with
   | some (.fn g cap,V)=>match M.call (Dj E) (Ll M fuel h dep ps assign body) (dep+1) (AG g) (A7 g [.fT dep] cap) (V,none,e) with
    | some (_,_,s,p,e)=>some (p.getD .normal,s,e)
    | none=>none
   | _=>none):=rfl
section round
variable {E:Type} {cx:Cx} {w0:eS} {I0 F0:Nat->Prop} {O0:Bu} {Hd:Nat->Option Obj} {R:Bl E} {lp:Nat->fb} {fE:List eT}
variable {w1:eS} {I1 F1:Nat->Prop} {dd:C4} {M:AC} {fuel:Nat} {h:AB E} {dep:Nat}
theorem Xi (gk:Fu cx lp R h dep w0 I0 F0) (mG:BA I0 F0 w0 I1 F1 w1) {assign body:Code} (sK:rc.params=ps) (hra:rc.assign=assign) (hrb:rc.body=body)
  (lQ:w0.heap.size<=l) (hca:H8 cx dd M fuel assign) (hcb:Dn cx M fuel rb body) :
  NM cx (fun d=>if d=dep then some (2*l) else lp d) (PM w0 O0 R lp l rc rc.tmps.toList fE) I1 F1 w1 (Ll M fuel h dep ps.toList (Bk cx.P cx.G dd assign) rb):=by
 obtain⟨Ir,mh,wr,hand,tQ⟩:=gk.hand;rintro d args ⟨s,p,e⟩ b r' l' hh mN
 have key:∃ l2,l'=2*l2/\(d=dep->l2=l)/\(d≠dep->∀ e1,h d args e=some (b,e1)->tR cx R Ir mh wr args e b e1 l2):=by
  by_cases hd:d=dep;{simp only[hd,eF,bC] at mN;exact⟨l,mN.symm,fun _=>rfl,fun h=>eQ hd h⟩}
  ·have hh2:=hh;unfold Ll at hh2;simp only[hd,eE] at mN hh2;split at hh2
   case h_2=>cases hh2
   rename_i b1 e1 hhe;cases hh2;obtain⟨l2,e2,ha⟩:=hand d args e b e1 l' hhe mN;exact⟨l2,e2,fun h=>eQ h hd,fun _ iw he'=>by rw[hhe] at he';cases he';exact ha⟩
 obtain⟨l2,rfl,kl,kh⟩:=key;refine⟨l2,rfl,?_⟩;clear mN;rintro A I F w fX H oY hwd ⟨L,Fo,g1,g2,g3,g4,g5,g6,g7⟩;simp only at g1 g6 g7;have hFl:F l:=(g2 l).2 (.inr (.inr rfl));have hlw:=(oY.fB l hFl).1;have hIl:=(oY.fB l hFl).2;have hLl:∀ J C,L J≠some (some (l,C)):=fun J C hn=>(g3 l ⟨J,C,hn⟩).2.1 rfl;have hxo:BA Ir mh wr I Fo w:=(tQ.trans (mG.trans H)).less fun b hb=>(g2 b).2 (.inl hb);have um:IF I Fo w:=⟨oY.iB,fun b hb=>oY.fB b ((g2 b).2 (.inl hb))⟩;have oc:∀ J b C,L J=some (some (b,C))->b < w.heap.size/\¬ I b/\¬ Fo b/\b≠l:=fun J b C hn=>by have hb:B9 L b:=⟨J,C,hn⟩;have hF:=oY.fB b ((g2 b).2 (.inr (.inl hb)));exact⟨hF.1,hF.2,(g3 b hb).1,(g3 b hb).2.1⟩
 unfold Ll at hh;by_cases hd:d=dep
 ·subst hd;simp only[eF] at hh;rw[kl rfl];cases p with
  | some x=>simp at hh
  | none =>
   simp only at hh;split at hh
   case isFalse=>cases hh
   rename_i hlen;split at hh
   case h_2=>cases hh
   rename_i s1 e1 hev1;split at hh
   case h_2=>cases hh
   rename_i x s2 e2 hev2;cases hh;have gV:A.toArray.size=rc.params.size:=by have:=fX.length;rw[sK];simp only[dS];have O:ps.toList.length=ps.size:=cY;omega
   have hrec:w.heap[l]?=some (.loop (Ba rc none)):=g6;refine⟨_,_,_,_,run_yield hrec (by simpa[Ba] using gV),?_⟩;refine roundIn_of_wpIn trivial ?_
   have kN:SR lp I L {s with tmps:=FG ps.toList args s.tmps,fD:=s.tmps++s.fD}
     ((((Ba rc none).params.zip A.toArray).foldl (fun tmps (x:Nat×eT)=>tmps.setIfInBounds x.1 x.2) (Ba rc none).tmps)).toList (rc.tmps.toList++fE) w:=by
    refine⟨?_,g1.tm.append g1.kp,g1.ob,g1.j6⟩;have:=qv ps.toList args A s.tmps rc.tmps (Ae.mono (fun _ h=>h) (fun _ _=>rfl) (fun d l h=>by cases h) (fX.lift (some L))) g1.tm (by simpa using hlen);have hfold:(((Ba rc none).params.zip A.toArray).foldl (fun tmps (x:Nat×eT)=>tmps.setIfInBounds x.1 x.2) (Ba rc none).tmps)=(ps.toList.zip A).foldl (fun (tmps:Array eT) (x:Nat×eT)=>tmps.setIfInBounds x.1 x.2) rc.tmps:=by simp only[Ba,sK];rw[<-Array.foldl_toList,Array.toList_zip]
    rw[hfold];exact this
   have od:Fr cx w I F ⟨B9 L,[]⟩ (fun b=>if b=l then some (.loop (Ba rc none)) else none) R e [] I Fo L w:=by
    refine⟨⟨rfl,rfl,rfl,bD _,fun _ _ _=>rfl,fun _ h=>h,fun _ h=>.inl h,fun b hb=>.inl ((g2 b).2 (.inl hb))⟩,um,fun b hb=>(g2 b).2 (.inr (.inl hb)),fun J b C hn=>?_,g5,hwd,g7,.nil,fun b ob hb=>?_⟩;{obtain⟨q1,q2,q3,q4⟩:=oc J b C hn;exact⟨.inr ⟨J,C,hn⟩,q1,q2,q3⟩}
    ·by_cases lG:b=l
     {subst lG;simp only[eF,bC] at hb;subst hb;exact⟨hlw,hIl,g4,hLl,hrec⟩};{simp[lG] at hb}
   have href':Fu cx lp R h (d+1) w I F:=⟨⟨Ir,mh,wr,hand,tQ.trans (mG.trans H)⟩,fun d' l' kF=>Nat.lt_succ_of_lt (gk.dep d' l' kF)⟩;have hca':=hca E h (d+1) R lp w I F ⟨B9 L,[]⟩ (fun b=>if b=l then some (.loop (Ba rc none)) else none) (rc.tmps.toList++fE) (some l) _ e .normal s1 e1 hev1 href' (fun l0 he=>by cases he;exact⟨Ba rc none,by simp⟩);have hasn:(Ba rc none).assign=assign:=hra;have hbdy:(Ba rc none).body=body:=hrb;rw[hasn,hbdy];refine hca' {tmps:=_,defers:=[]} w I Fo L _ kN od ?_;rintro a1 w2 I2 F2 L2 jV kB;have hheld:=kB.lP l (.loop (Ba rc none)) (by simp);obtain⟨k1,k2,k3,k4,k5⟩:=hheld
   have kK:∀ {I F:Nat->Prop} {L:Am} {w':eS} {ds rs:List eZ},BS w.heap.size I F L w' ds rs->∀ D,D∈ds.map (·.target)->D≠.collected l:=by
    intro I F L w' ds rs hm;induction hm with
    | nil=>intro D hD;simp at hD
    | call d' ds rs hd _ ih =>
     intro D' kL;simp only[bP,bE] at kL;rcases kL with rfl | kL;{exact hd l};{exact ih D' kL}
    | cons D ds rs U _ _ _ _ _ _ _ ih =>
     intro D' kL;simp only[bP,bE] at kL;rcases kL with rfl | kL;{intro he;cases he;omega};{exact ih D' kL}
   refine⟨_,run_beginRound k5 rfl,?_⟩;have hf2':=kB.lJ (ky:=.loop {Ba rc none with state:=.busy}) (l:=l) (ob:=.loop (Ba rc none)) (by simp) (.inr hFl) (kK kB.lO);have hs2':=jV.lJ (.loop {Ba rc none with state:=.busy}) k2 k4;refine hcb E h (d+1) R lp w I F ⟨B9 L,[]⟩ (fun b=>if b=l then some (.loop {Ba rc none with state:=.busy}) else if b=l then some (.loop (Ba rc none)) else none) (rc.tmps.toList++fE) (some l) _ e1 x s2 e2 hev2 href' (fun l0 he=>by cases he;exact⟨{Ba rc none with state:=.busy},by simp⟩) a1 _ I2 F2 L2 _ hs2' hf2' ?_;rintro a2 w3 I3 F3 L3 uo uq;have hheld3:=uq.lP l (.loop {Ba rc none with state:=.busy}) (by simp);obtain⟨m1,m2,m3,m4,m5⟩:=hheld3;have jl:=run_endRound (P:=cx.P) (Ja x) m5;have hrc:({({Ba rc none with state:=.busy}:Loop) with state:=if (Ja x).isNone then .ready else .done,pending:=Ja x}:Loop)=Ba rc (if x=.normal then none else some x):=by cases x<;>rfl
   rw[hrc] at jl;have l7:=uq.lJ (ky:=.loop (Ba rc (if x=.normal then none else some x))) (l:=l) (ob:=.loop {Ba rc none with state:=.busy}) (by simp) (.inr hFl) (kK uq.lO);have hs4:=uo.lJ (.loop (Ba rc (if x=.normal then none else some x))) m2 m4;generalize hw4:w3.putObj l (.loop (Ba rc (if x=.normal then none else some x)))=w4 at *;have hl4:=l7.lP l (.loop (Ba rc (if x=.normal then none else some x))) (by simp);obtain⟨n1,n2,n3,n4,n5⟩:=hl4
   have mo:(.bool (Ja x).isNone:eT)=.bool (x==.normal)/\∃ I' F',BA I F w I' F' w4/\IF I' F' w4/\cx.Wd I' w4 /\
     (PM w0 O0 R lp l rc rc.tmps.toList fE).rel ({s2 with tmps:=s2.fD.take s.tmps.length,fD:=s2.fD.drop s.tmps.length},(if x=.normal then none else some x),e2) I' F' w4:=by
    refine⟨by cases x<;>rfl,I3,(fun b=>F3 b\/B9 L3 b\/b=l),⟨l7.ext.os,l7.ext.tape,l7.ext.output,l7.ext.size,l7.ext.fD,l7.ext.j9,l7.ext.jJ,fun b hb=>?_⟩,⟨l7.sep.iB,fun b hb=>?_⟩,l7.wd,L3,F3,⟨?_,?_,hs4.ob,hs4.j6⟩,fun b=>Iff.rfl,fun b hb=>?_,n3,l7.inj,n5,l7.re⟩;{rcases hb with hb | ⟨J,C,hb⟩ | rfl;{exact l7.ext.jX b hb};{exact (l7.lB J b C hb).1.elim .inr fun ho=>.inl (l7.oF b ho)};{exact .inl hFl}};{rcases hb with hb | ⟨J,C,hb⟩ | rfl;{exact l7.sep.fB b hb};{exact⟨(l7.lB J b C hb).2.1,(l7.lB J b C hb).2.2.1⟩};{exact⟨n1,n2⟩}}
    ·have:=hs4.kp.take s.tmps.length
     rwa [List.take_left' g1.tm.length.symm] at this
    ·have:=hs4.kp.drop s.tmps.length
     rwa [List.drop_left' g1.tm.length.symm] at this
    {obtain⟨J,C,hb⟩:=hb;refine⟨(l7.lB J b C hb).2.2.2,fun e=>n4 J C (e ▸ hb),?_⟩;have iQ:=mG.size;have hsz2:=H.size;rcases (l7.lB J b C hb).1 with U | U;{exact .inl (by omega)};{exact (g3 b U).2.2}}
   obtain⟨p1,p2⟩:=mo;cases x with
   | normal=>exact⟨_,_,jl,p1,p2⟩
   | exit id =>
    simp only[Ch];simp only[Ja] at jl p1;by_cases hid:id < BK;{simp only[hid,eF] at jl p1 |-;exact⟨_,_,jl,p1,p2⟩};{simp only[hid,eE] at jl p1 |-;exact⟨_,_,jl,p1,p2⟩}
   | ret=>exact⟨_,_,jl,p1,p2⟩
 ·simp only[hd,eE] at hh;split at hh
  case h_2=>cases hh
  rename_i b1 e1 hhe;cases hh;obtain⟨fn,tmps,as,bd,q1,q2⟩:=kh hd e1 hhe A I Fo w fX hxo um hwd g7;refine⟨fn,tmps,as,bd,q1,RoundIn.mono q2 fun en w' hq=>?_⟩;cases en with
  | panicked chain=>exact hq.elim
  | outgrown=>exact hq.elim
  | returned v =>
   obtain⟨rfl,I',Fo',r1,r2,r3,r4⟩:=hq
   have jL:∀ b,b < w.heap.size->¬ I b->¬ Fo b->¬ I' b/\¬ Fo' b/\w'.heap[b]?=w.heap[b]?:=fun b U O h3 =>
    ⟨fun h=>by rcases r1.jJ b h with h | h | h<;>first | exact O h | exact h3 h | omega,fun h=>by rcases r1.jX b h with h | h<;>first | exact h3 h | omega,r1.fD b U h3⟩
   have iQ:=r1.size
   refine⟨rfl,I',(fun b=>Fo' b\/B9 L b\/b=l),⟨r1.os,r1.tape,r1.output,r1.size,fun b hb hF=>r1.fD b hb fun h=>hF ((g2 b).2 (.inl h)),r1.j9,fun b hb=>?_,fun b hb=>?_⟩,⟨r2.iB,fun b hb=>?_⟩,r3,L,Fo',
    g1.keeps r1.j9 (fun b hb=>r1.nT um b hb) (fun J b C hn=>(jL b (oc J b C hn).1 (oc J b C hn).2.1 (oc J b C hn).2.2.1).2.2),fun b=>Iff.rfl,fun b hb=>?_,(jL l hlw hIl g4).2.1,g5,(jL l hlw hIl g4).2.2.trans g6,r4⟩
   {rcases r1.jJ b hb with h | h | h;{exact .inl h};{exact .inr (.inl ((g2 b).2 (.inl h)))};{exact .inr (.inr h)}};{rcases hb with hb | hb | rfl;{exact (r1.jX b hb).imp (fun h=>(g2 b).2 (.inl h)) id};{exact .inl ((g2 b).2 (.inr (.inl hb)))};{exact .inl hFl}}
   ·rcases hb with hb | ⟨J,C,hb⟩ | rfl;{exact r2.fB b hb}
    {obtain⟨u1,u2,u3,_⟩:=oc J b C hb;exact⟨by omega,(jL b u1 u2 u3).1⟩};{exact⟨by omega,(jL b hlw hIl g4).1⟩}
   {obtain⟨J,C,hn⟩:=hb;obtain⟨u1,u2,u3,u4⟩:=oc J b C hn;exact⟨(jL b u1 u2 u3).2.1,u4,(g3 b ⟨J,C,hn⟩).2.2⟩}
end round
end Go.Ab

