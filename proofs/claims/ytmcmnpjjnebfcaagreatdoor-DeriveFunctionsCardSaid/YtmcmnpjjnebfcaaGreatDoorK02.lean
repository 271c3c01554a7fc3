/-
  Part 2 of a proof: a machine of our own for the given program, its laws, and what it says of the program. Nothing here is a claim by itself.
-/
import Derived.Test.YtmcmnpjjnebfcaaGreatDoorK01
import Derived.Laws.IdiomStrings
import Derived.MapKept
import Derived.Laws.Entries
import Derived.Laws.StructEq
import Derived.Orders
import Derived.RangeFuncNested
set_option linter.all false

namespace Go.Ab
section ops
variable {E:Type} {cx:Cx} {w0:World} {I0 F0:Nat->Prop} {O0:B9} {Hd:Nat->Option Obj} {R:BV E} {e:E} {ds:List Deferred} {F:Nat->Prop} {lp:Nat->Option Nat} {suf:List Value}
variable {I:Nat->Prop} {L:AF} {st:St} {a:Act} {w:World} {o:Oper} {out:AO} {rop:AC}
theorem Ze (hs:SR lp I L st a.tmps.toList suf w) (hf:Fr cx w0 I0 F0 O0 Hd R e ds I F L w) {src dst el:TypeId} {x:Operand} (ho:o.op=.convert src dst x) {r:RX} (h1:rx cx.G x=some r)
  (hd1:cx.P.underlying src=some .string) (hd2:cx.P.underlying dst=some (.slice el)) (hd3:cx.P.underlying el=some (.int .u8))
  (h:exec (o.dst.getD 0) (Ak st.objs) st.tmps (.toBytes r)=some out):BA cx w0 I0 F0 O0 Hd R e ds F lp suf o a w (apply st o.dst out):=by
 have hx:=Bx hs hf.wd h1;simp only[exec] at h;split at h
 case h_2=>cases h
 rename_i s hr;obtain⟨hk,h⟩:=Bn h;cases h;rw[hr] at hx;have hxv:=Ff hx;have hz:(⟨s.toArray⟩:ByteArray).size=s.length:=by simp[ByteArray.size]
 have hrun:=run_bytes_of_string (P:=cx.P) w src dst el ⟨s.toArray⟩ hd1 hd2 hd3;rw[hz] at hrun;have hge:=grownCap_ge w s.length 0 el;generalize hc:grownCap w s.length 0 el=cap at *
 have hbl:(bytesRow ⟨s.toArray⟩ cap).toList=(s.map fun b=>Value.int .u8 (b.toNat:Int))++List.replicate (cap - s.length) (.int .u8 0):=by
  simp[bytesRow,hz]
 have hbs:(bytesRow ⟨s.toArray⟩ cap).size=cap:=by
  have:(bytesRow ⟨s.toArray⟩ cap).toList.length=cap:=by rw[hbl];simp;omega
  simpa using this
 generalize hrow:bytesRow ⟨s.toArray⟩ cap=row at *;generalize hfr:(row.size,row.size+1)=fr at *;have hkb:∀ b',b' < w.heap.size->(w.drew.alloc (.cells row el fr)).heap[b']?=w.heap[b']?:=fun b' hb'=>by rw[EJ w.drew _ hb'];rfl
 have hs2:SR lp (fun b=>I b\/b=w.heap.size) L st a.tmps.toList suf (w.drew.alloc (.cells row el fr)) :=
  hs.keeps (fun _ h=>.inl h) (fun b hb=>hkb b (hf.sep.iB b hb)) fun nm b C hn=>hkb b (hf.lB nm b C hn).2.1
 refine⟨.slice (some ⟨w.heap.size,0,none⟩) s.length cap,w.drew.alloc (.cells row el fr),(fun b=>I b\/b=w.heap.size),L,.inl ?_,?_,?_⟩;·simp[execOp,ho,hxv,hrun]
 ·refine hs2.putO o.dst ?_;have hbl2:(DF s).length=s.length:=by simp[DF]
  have htk:(row.toList.drop 0).take ((DF s).length*1)=s.map fun b=>Value.int .u8 (b.toNat:Int):=by
   rw[bB,hbl,hbl2,Nat.mul_one,cm (by simp),av (by simp)]
  have:=Aw.sl (w:=w.drew.alloc (.cells row el fr)) (I:=fun b=>I b\/b=w.heap.size) (lp:=lp) (L:=some L) 1 (DF s) false w.heap.size 0 cap row el fr (.inr rfl) (Jb w.drew _) (by rw[hbl2,hbs];omega)
   (fun y hy=>by obtain⟨b,_,rfl⟩:=Z4.1 hy;rfl) (by rw[hbl2];exact hge) (by simp)
   (by rw[htk];intro v hv;obtain⟨b,_,rfl⟩:=Z4.1 hv;rfl) (by rw[htk];exact TP s)
  rwa [hbl2] at this
 ·refine hf.own rfl rfl rfl (by simp) (fun b hb _=>hkb b hb) (fun _ h=>.inl h) (fun b hb=>?_) (fun nm b C hn=>?_) hf.inj
  ·rcases hb with hb | rfl;·exact .inl hb
   ·exact .inr ⟨by simp,.inl (Z5 _)⟩
  ·have hl:=hf.lB nm b C hn;refine⟨by simp;omega,fun hb=>?_,.inr ⟨nm,C,hn⟩⟩;rcases hb with hb | rfl;·exact hl.2.2.1 hb
   ·omega
theorem YH {x:PV} {b:UInt8} (h:Ol x=some b):x=.int .u8 (b.toNat:Int):=by
 unfold Ol at h;split at h
 ·rename_i n;split at h
  ·rename_i hn;cases h;congr 1;have:n.toNat < 256:=by omega
   rw[UInt8.toNat_ofNat',cC this,Int.toNat_of_nonneg hn.1]
  ·cases h
 ·cases h
theorem X5:∀ {xs:List PV} {s:List UInt8},GN xs=some s->xs=DF s:=by
 intro xs;induction xs with
 | nil=>intro s h;simp only[GN,Z6] at h;subst h;rfl
 | cons x xs ih =>
  intro s h;simp only[GN] at h;split at h
  ·rename_i b bs hb hbs;cases h;rw[YH hb,ih hbs];rfl
  ·cases h
theorem bytes_row {w:World} {I:Nat->Prop} {lp:Nat->Option Nat} {L:Option AF}:∀ {s:List UInt8} {vs:List Value},Aq w I lp L (cellsL (DF s)) vs->vs=s.map fun b=>Value.int .u8 (b.toNat:Int):=by
 intro s;induction s with
 | nil=>intro vs h;cases h;rfl
 | cons b s ih =>
  intro vs h;have h2:Aq w I lp L (.int .u8 (b.toNat:Int) :: cellsL (DF s)) vs:=h;cases h2 with
  | cons _ v _ vs h3 hs=>rw[Ef h3,ih hs];rfl
theorem Zg (hs:SR lp I L st a.tmps.toList suf w) (hf:Fr cx w0 I0 F0 O0 Hd R e ds I F L w) {src dst el:TypeId} {x:Operand} (ho:o.op=.convert src dst x) {r:RX} (h1:rx cx.G x=some r)
  (hd1:cx.P.underlying src=some (.slice el)) (hd2:cx.P.underlying dst=some .string) (hd3:cx.P.underlying el=some (.int .u8))
  (h:exec (o.dst.getD 0) (Ak st.objs) st.tmps (.ofBytes r)=some out):BA cx w0 I0 F0 O0 Hd R e ds F lp suf o a w (apply st o.dst out):=by
 have hx:=Bx hs hf.wd h1;simp only[exec] at h;split at h
 case h_2=>cases h
 rename_i xs hxs;split at h
 case h_2=>cases h
 rename_i s hbs;cases h;obtain⟨hns,hel⟩:=Bn hxs;have hxe:=X5 hbs;subst hxe;refine BP hs hf (v':=.string ⟨s.toArray⟩) ?_ (.refl w) (.str s)
 have hrow:∀ (b off cap:Nat) (c:Array Value) (E':TypeId) (fr:Nat×Nat),w.heap[b]?=some (.cells c E' fr)->off+s.length<=c.size->Aq w I lp none (cellsL (DF s)) ((c.toList.drop off).take s.length) ->
   (convert src dst (.slice (some ⟨b,off,none⟩) s.length cap)).run cx.P w=.ok (.string ⟨s.toArray⟩) w:=by
  intro b off cap c E' fr hb hle hrep;refine run_convert_bytes_back w src dst el ⟨b,off,none⟩ cap s hd1 hd3 hd2 fun j hj=>?_;have he:=bytes_row hrep;rw[ID,NI hb];have:((c.toList.drop off).take s.length)[j]?=some (.int .u8 (s[j].toNat:Int)):=by rw[he];simp[hj]
  rw[b7 hj,ck] at this;simpa using this
 have hnil:s=[]->∀ (ad:Option Addr) (cap:Nat),(convert src dst (.slice ad 0 cap)).run cx.P w=.ok (.string ⟨s.toArray⟩) w:=by
  rintro rfl ad cap;cases ad with
  | none=>rw[run_convert_bytes_string w src dst el none 0 cap hd1 hd3 hd2];simp[Conv.bytesToString];rfl
  | some ad=>exact run_convert_bytes_back w src dst el ad cap [] hd1 hd3 hd2 fun j hj=>by simp at hj
 have key:(convert src dst (a.eval x)).run cx.P w=.ok (.string ⟨s.toArray⟩) w:=by
  unfold elems at hel;split at hel
  ·rename_i k xs full hr;obtain⟨_,he2⟩:=Bn hel;have he2:xs=DF s:=by simpa using he2
   subst he2;rw[hr] at hx;rcases JS hx with ⟨b,off,cap,c,E',fr,hv,g1,g2,g3,g4,g5,g6,g7,g8⟩ | ⟨hn,ad,cap,hv,_⟩
   ·have hbl:(DF s).length=s.length:=by simp[DF]
    rw[hbl] at hv g3 g8
    have hk1:s.length*k=s.length:=by
     have hln:=g8.length;cases s with
     | nil=>simp
     | cons b0 s=>have:=g4 (.int .u8 (b0.toNat:Int)) (by simp[DF]);rw[<-this];simp[PV.cells]
    rw[hk1] at g3 g8;rw[hv];exact hrow b off cap c E' fr g2 g3 g8
   ·rw[hv];exact hnil (by simpa[DF] using hn) ad cap
  ·rename_i nm k off n hr;split at hel
   case h_2=>cases hel
   rename_i k'' kt xs hlk;obtain⟨hk,he2⟩:=Bn hel;simp only[Z2,beq_iff_eq,decide_eq_true_eq] at hk;obtain⟨⟨rfl,rfl⟩,hle⟩:=hk;have he2:(xs.drop off).take n=DF s:=by simpa using he2
   have hbl:(DF s).length=s.length:=by simp[DF]
   have hns:n=s.length:=by rw[<-hbl,<-he2];simp;omega
   obtain⟨p,hp,ha⟩:=hs.ob nm _ hlk;rw[hr] at hx;rcases JE hx with ⟨b,C,cap,hL,hv,hC,hn⟩ | ⟨hL,hv,rfl,rfl⟩
   ·rw[hL] at hp;cases hp;obtain⟨c,E',hb,hC',hxs',hkx,hone,hrep⟩:=ha;have:=(hrep.drop (off*1)).take (n*1);rw[<-LD hkx,<-Jh (fun x hx=>hkx x (bf hx)),he2,br,aW] at this;have hmin:min (n*1) (xs.length*1 - off*1)=s.length:=by omega
    rw[hmin,Nat.mul_one] at this;rw[hv,hns,Nat.mul_one];exact hrow b off cap c E' (0,0) hb (by omega) this
   ·rw[hv];exact hnil (bI.1 hns.symm) none 0
  ·rename_i hr;have he2:[]=DF s:=by simpa using hel
   rw[hr] at hx;rw[Gm hx];exact hnil (by cases s with | nil=>rfl | cons b s=>simp[DF] at he2) none 0
  ·rename_i s' hr;rw[hr] at hns;simp[Qx] at hns
  ·cases hel
 simp[execOp,ho,key]
theorem Rw {P:Program} {kt:TypeId} {k:PV} (h:GX (Eg P kt) k=true):∃ d,P.underlying kt=some d /\
  (((∃ kk,d=.int kk)/\∃ j n,k=.int j n)\/(d=.string/\∃ s,k=.str s)\/(d=.bool/\∃ b,k=.bool b)):=by
 cases hu:P.underlying kt with
 | none=>simp[Eg,hu,GX] at h
 | some d =>
  cases d with
  | struct fs =>
   simp only[Eg,hu] at h;split at h;·split at h<;>simp[GX] at h
   ·simp[GX] at h
  | int q =>
   simp only[Eg,hu] at h;cases k<;>simp[GX] at h;exact⟨_,rfl,.inl ⟨⟨_,rfl⟩,_,_,rfl⟩⟩
  | string =>
   simp only[Eg,hu] at h;cases k<;>simp[GX] at h;exact⟨_,rfl,.inr (.inl ⟨rfl,_,rfl⟩)⟩
  | bool =>
   simp only[Eg,hu] at h;cases k<;>simp[GX] at h;exact⟨_,rfl,.inr (.inr ⟨rfl,_,rfl⟩)⟩
  | _=>simp[Eg,hu,GX] at h
def I9 (d:TypeDesc) (k:PV):Prop:=((∃ kk,d=.int kk)/\∃ j n,k=.int j n)\/(d=.string/\∃ s,k=.str s)\/(d=.bool/\∃ b,k=.bool b)
theorem I9.names {d:TypeDesc} {k:PV} (h:I9 d k):k.names=[]:=by
 rcases h with ⟨_,_,_,rfl⟩ | ⟨_,_,rfl⟩ | ⟨_,_,rfl⟩<;>rfl
theorem OP {w:World} {I:Nat->Prop} {lp:Nat->Option Nat} {L L':Option AF} {d:TypeDesc} {k x:PV} {kv xv:Value} (hd:I9 d k) (hk:Aw w I lp L k kv) (hx:Aw w I lp L' x xv) {r:Bool} (h:IY k x=some r) :
  Instr.sameNow d kv xv=some r/\(r=true->xv=kv):=by
 rcases hd with ⟨⟨kk,rfl⟩,j,n,rfl⟩ | ⟨rfl,s,rfl⟩ | ⟨rfl,b,rfl⟩
 ·cases x<;>simp only[IY] at h<;>first | contradiction | skip
  obtain⟨h1,h2⟩:=Bn h;have h1:=beq_iff_eq.1 h1;subst h1;cases h2;rw[Ef hk,Ef hx];refine⟨by simp[Instr.sameNow],fun hb=>by rw[beq_iff_eq.1 hb]⟩
 ·cases x<;>simp only[IY] at h<;>first | contradiction | skip
  rename_i s';cases h;rw[Ff hk,Ff hx]
  have hb:((⟨s.toArray⟩:ByteArray)==⟨s'.toArray⟩)=(s==s'):=by
   cases hc:(s==s') with
   | true=>rw[beq_iff_eq.1 hc];exact (MapKept.bytes_beq _ _).2 rfl
   | false =>
    cases hb:((⟨s.toArray⟩:ByteArray)==⟨s'.toArray⟩) with
    | false=>rfl
    | true =>
     have:=(MapKept.bytes_beq _ _).1 hb;have:s=s':=by simpa using this
     rw[this] at hc;simp at hc
  exact⟨by simp only[Instr.sameNow,hb],fun hb=>by rw[beq_iff_eq.1 hb]⟩
 ·cases x<;>simp only[IY] at h<;>first | contradiction | skip
  rename_i b';cases h;rw[Fx hk,Fx hx];exact⟨by simp[Instr.sameNow],fun hb=>by rw[beq_iff_eq.1 hb]⟩
theorem TE {w:World} {I:Nat->Prop} {lp:Nat->Option Nat} {L:Option AF} {x y:PV} {es:List PV} {l:List MapEntry} (h:Aq w I lp L (x :: y :: es) (F9 l)) :
  ∃ en l',l=en :: l'/\Aw w I lp L x en.key/\Aw w I lp L y en.val/\Aq w I lp L es (F9 l'):=by
 cases l with
 | nil=>cases h
 | cons en l' =>
  cases h with
  | cons _ _ _ _ h1 h2=>cases h2 with
   | cons _ _ _ _ h2 h3=>exact⟨en,l',rfl,h1,h2,h3⟩
theorem ZG {w:World} {I:Nat->Prop} {lp:Nat->Option Nat} {L L':Option AF} {d:TypeDesc} {k:PV} {kv:Value} (hd:I9 d k) (hk:Aw w I lp L' k kv):∀ (n:Nat) (es:List PV) (l:List MapEntry) (i:Nat) (r:Option PV),es.length<=n ->
  Aq w I lp L es (F9 l)->DJ k es=some r ->
  (r=none/\Instr.findNow d kv l i=some none)\/∃ j v x,r=some x/\Aw w I lp L x v/\Instr.findNow d kv l i=some (some (j,v)):=by
 intro n;induction n with
 | zero =>
  intro es l i r hn h hf;cases es with
  | cons x es=>simp at hn
  | nil =>
   simp only[DJ,Z6] at hf;subst hf;cases l with
   | nil=>exact .inl ⟨rfl,rfl⟩
   | cons en l=>cases h
 | succ n ih =>
  intro es l i r hn h hf
  match es,hf,h,hn with
  | [],hf,h,hn =>
   simp only[DJ,Z6] at hf;subst hf;cases l with
   | nil=>exact .inl ⟨rfl,rfl⟩
   | cons en l=>cases h
  | [x],hf,h,hn=>simp[DJ] at hf
  | x :: y :: es,hf,h,hn =>
   obtain⟨en,l',rfl,h1,h2,h3⟩:=TE h;simp only[DJ] at hf;split at hf
   ·rename_i hke;obtain⟨s1,_⟩:=OP hd hk h1 hke;cases hf;exact .inr ⟨i,en.val,y,rfl,h2,by simp[Instr.findNow,s1]⟩
   ·rename_i hke;obtain⟨s1,_⟩:=OP hd hk h1 hke;simp only[be] at hn;rcases ih es l' (i+1) r (by omega) h3 hf with ⟨q1,q2⟩ | ⟨j,v,x,q1,q2,q3⟩;·exact .inl ⟨q1,by simp[Instr.findNow,s1,q2]⟩
    ·exact .inr ⟨j,v,x,q1,q2,by simp[Instr.findNow,s1,q3]⟩
   ·cases hf
theorem setE_spec {w:World} {I:Nat->Prop} {lp:Nat->Option Nat} {L:Option AF} {d:TypeDesc} {k v:PV} {kv vv:Value} (hd:I9 d k) (hk:Aw w I lp L k kv) (hv:Aw w I lp L v vv):∀ (n:Nat) (es:List PV) (l:List MapEntry) (i:Nat) (es':List PV),es.length<=n ->
  Aq w I lp L es (F9 l)->G0 k v es=some es' ->
  (Instr.findNow d kv l i=some none/\∀ b,Aq w I lp L es' (F9 (l++[{key:=kv,val:=vv,born:=b}]))) \/
  ∃ j en,Instr.findNow d kv l i=some (some (i+j,en.val))/\l[j]?=some en/\en.key=kv/\Aq w I lp L es' (F9 (l.modify j fun e=>{e with key:=kv,val:=vv})):=by
 intro n;induction n with
 | zero =>
  intro es l i es' hn h hf;cases es with
  | cons x es=>simp at hn
  | nil =>
   simp only[G0,Z6] at hf;subst hf;cases l with
   | nil=>exact .inl ⟨rfl,fun b=>.cons _ _ _ _ hk (.cons _ _ _ _ hv .nil)⟩
   | cons en l=>cases h
 | succ n ih =>
  intro es l i es' hn h hf
  match es,hf,h,hn with
  | [],hf,h,hn =>
   simp only[G0,Z6] at hf;subst hf;cases l with
   | nil=>exact .inl ⟨rfl,fun b=>.cons _ _ _ _ hk (.cons _ _ _ _ hv .nil)⟩
   | cons en l=>cases h
  | [x],hf,h,hn=>simp[G0] at hf
  | x :: y :: es,hf,h,hn =>
   obtain⟨en,l',rfl,h1,h2,h3⟩:=TE h;simp only[G0] at hf;split at hf
   ·rename_i hke;obtain⟨s1,s2⟩:=OP hd hk h1 hke;cases hf;refine .inr ⟨0,en,by simp[Instr.findNow,s1],rfl,s2 rfl,?_⟩;rw[List.modify_zero_cons];exact .cons _ _ _ _ hk (.cons _ _ _ _ hv h3)
   ·rename_i hke;obtain⟨s1,_⟩:=OP hd hk h1 hke;obtain⟨es2,hes2,rfl⟩:=Z3.1 hf;simp only[be] at hn;rcases ih es l' (i+1) es2 (by omega) h3 hes2 with ⟨q1,q2⟩ | ⟨j,en',q1,q2,q3,q4⟩;·exact .inl ⟨by simp[Instr.findNow,s1,q1],fun b=>.cons _ _ _ _ h1 (.cons _ _ _ _ h2 (q2 b))⟩
    ·refine .inr ⟨j+1,en',by simp[Instr.findNow,s1,q1];omega,by simpa using q2,q3,?_⟩;rw[List.modify_succ_cons];exact .cons _ _ _ _ h1 (.cons _ _ _ _ h2 q4)
   ·cases hf
theorem mapObj {P:Program} {w:World} {b:Nat} {ents:Array MapEntry} {clock:Nat} (hb:w.heap[b]?=some (.map ents clock)) (ob:Obj) :
  (setObj b ob).run P w=.ok () {w with heap:=w.heap.setIfInBounds b ob}:=MapKept.run_setObj_map ob hb
theorem Qb {d:TypeDesc} {k:PV} {kv:Value} {kk:IntKind} (hd:I9 d k) {w:World} {I:Nat->Prop} {lp:Nat->Option Nat} {L:Option AF} (hk:Aw w I lp L k kv) {P:Program} {w':World} {kt:TypeId} (hu:P.underlying kt=some d) (b:Bool) (n:Nat) :
  (Instr.checkKey b (n+1) kt kv).run P w'=.ok () w':=by
 unfold Instr.checkKey;simp only[Sem.run_bind,run_underlying hu,Result.andThen];rcases hd with ⟨⟨kk,rfl⟩,j,m,rfl⟩ | ⟨rfl,s,rfl⟩ | ⟨rfl,b,rfl⟩<;>rfl
theorem key_stays {d:TypeDesc} {k:PV} {kv:Value} (hd:I9 d k) {w:World} {I:Nat->Prop} {lp:Nat->Option Nat} {L:Option AF} (hk:Aw w I lp L k kv) {P:Program} {w':World}:(Instr.keyThatStays kv kv).run P w'=.ok kv w':=by
 rcases hd with ⟨⟨kk,rfl⟩,j,m,rfl⟩ | ⟨rfl,s,rfl⟩ | ⟨rfl,b,rfl⟩;·rw[Ef hk];simp[Instr.keyThatStays,Instr.sameBits]
 ·rw[Ff hk];simp[Instr.keyThatStays,Instr.sameBits,MapKept.bytes_beq]
 ·rw[Fx hk];simp[Instr.keyThatStays,Instr.sameBits]
theorem Zc (σ:List (List Ob)) {a b:Nm} (h:a≠b) (o p:Ob):Bl (Bl σ a o) b p=Bl (Bl σ b p) a o:=by
 obtain⟨a1,a2⟩:=a;obtain⟨b1,b2⟩:=b;unfold Bl;simp only
 by_cases hab:a1=b1
 ·subst hab;have h2:a2≠b2:=fun e=>h (by rw[e]);cases hl:σ[a1]? with
  | none=>simp[hl]
  | some l =>
   have hlt:=(ac.1 hl).1;simp only[bH hlt,List.set_set];rw[cE _ _ h2]
 ·cases ha:σ[a1]? with
  | none =>
   cases hb:σ[b1]? with
   | none=>simp[ha,hb]
   | some l' =>
    simp only[hb];rw[aB (aH hab),ha]
  | some l =>
   simp only
   rw[aB hab];cases hb:σ[b1]? with
   | none=>simp[ha]
   | some l' =>
    simp only
    rw[aB (aH hab),ha];simp only
    rw[cE _ _ hab]
theorem ZB {σ:Nm->Option Ob} {Rn:List Nm} {nm:Nm} (hn:nm ∉ Rn) (st:St) (es:List PV):CZ σ Rn {st with objs:=Bl st.objs nm (.map es)}={CZ σ Rn st with objs:=Bl (CZ σ Rn st).objs nm (.map es)}:=by
 unfold CZ D7;simp only
 congr 1
 have hA:∀ f:Nm->Option (Option Ob),(Bl st.objs nm (.map es)).map (·.map (Ob.sub f))=Bl (st.objs.map (·.map (Ob.sub f))) nm (.map es):=by
  intro f;unfold Bl;rw[aa];cases hl:st.objs[nm.1]? with
  | none=>rfl
  | some l=>simp[bK,Ob.sub]
 rw[hA];generalize st.objs.map _=objs;induction Rn generalizing objs with
 | nil=>rfl
 | cons r Rn ih =>
  rw[bJ,bJ,Zc _ (fun e=>hn (by rw[e];exact aq)),ih fun h=>hn (ap _ h)]
theorem Yt {σ:Nm->Option Ob} {Rn:List Nm} {nm:Nm} (hn:nm ∉ Rn) (st:St) {es:List PV} (h:Ak st.objs nm=some (.map es)):Ak (CZ σ Rn st).objs nm=some (.map es):=by
 unfold CZ D7;simp only
 have h0:Ak (st.objs.map (·.map (Ob.sub fun m=>if Rn.contains m=true then BJ σ m else none))) nm=some (.map es):=by rw[Fw,h];rfl
 generalize st.objs.map _=objs at h0;clear h
 have key:∀ (R:List Nm) (objs:List (List Ob)),nm ∉ R->Ak objs nm=some (.map es)->Ak (R.foldl (fun objs nm=>Bl objs nm Bz) objs) nm=some (.map es):=by
  intro R;induction R with
  | nil=>intro objs _ h;exact h
  | cons r R ih =>
   intro objs hn h;rw[bJ];refine ih _ (fun h=>hn (ap _ h)) ?_;rw[Hz _ (fun e=>hn (by rw[e];exact aq))];exact h
 exact key Rn objs hn h0
theorem T5 (hs:SR lp I L st a.tmps.toList suf w) (hf:Fr cx w0 I0 F0 O0 Hd R e ds I F L w) {t kt et:TypeId} {x k v:Operand} (ho:o.op=.insert t x k v\/o.op=.mapUpdate t x k v) (hu:cx.P.underlying t=some (.map kt et))
  {nm:Nm} {es es':List PV} {kp u:PV} (hx:Aw w I lp (some L) (.mp nm) (a.eval x)) (hlk:Ak st.objs nm=some (.map es)) (hk':Aw w I lp none kp (a.eval k)) (hv':Aw w I lp none u (a.eval v)) (c1:GX (Eg cx.P kt) kp=true) (hes:G0 kp u es=some es') :
  BA cx w0 I0 F0 O0 Hd R e ds F lp suf o a w (apply st o.dst {v:=.undef,upd:=some (nm,.map es')}):=by
 obtain⟨d,hd,hkd⟩:=Rw c1;obtain⟨b,C,hL,hxv⟩:=Qc hx;obtain⟨p,hp,ha⟩:=hs.ob nm _ hlk;rw[hL] at hp;cases hp;obtain⟨ents,clock,hb,hrep⟩:=ha;have hg:(getObj b).run cx.P w=.ok (.map ents clock) w:=by simp[getObj,Sem.run,hb]
 have hwb:∀ (w':World) (ob':Obj),w'={w with heap:=w.heap.setIfInBounds b ob'}->(∀ b',b'≠b->w'.heap[b']?=w.heap[b']?)/\w'.heap[b]?=some ob'/\w'.heap.size=w.heap.size:=by
  rintro w' ob' rfl;obtain⟨q1,q2⟩:=MapKept.heap_set (o':=ob') hb;exact⟨q2,q1,by simp⟩
 have fin:∀ (l':Array MapEntry) (clock':Nat),Aq w I lp none es' (F9 l'.toList)->(Instr.mapUpdate t (a.eval x) (a.eval k) (a.eval v)).run cx.P w=.ok () {w with heap:=w.heap.setIfInBounds b (.map l' clock')} ->
   BA cx w0 I0 F0 O0 Hd R e ds F lp suf o a w (apply st o.dst {v:=.undef,upd:=some (nm,.map es')}):=by
  intro l' clock' hrep' hrun;obtain⟨q1,q2,q3⟩:=hwb _ (.map l' clock') rfl;have hkI:∀ b',I b'->({w with heap:=w.heap.setIfInBounds b (.map l' clock')}:World).heap[b']?=w.heap[b']?:=fun b' hb'=>q1 b' fun e=>(hf.lB nm b C hL).2.2.1 (e ▸ hb')
  exact NG hs hf hL (w':={w with heap:=w.heap.setIfInBounds b (.map l' clock')}) (v':=undef) (.inr ⟨by rcases ho with ho | ho<;>simp[execOp,ho,hrun],rfl⟩) rfl rfl rfl q3 q1
   ⟨l',clock',q2,Aq.mono (fun _ h=>h) hkI (fun _ _ h=>h) hrep'⟩ (.undef _)
 rcases setE_spec hkd hk' hv' es.length es ents.toList 0 es' (Z5 _) hrep hes with ⟨f1,f2⟩ | ⟨j,en,f1,f2,f3,f4⟩
 ·refine fin (ents.push {key:=a.eval k,val:=a.eval v,born:=clock}) (clock+1) (by simpa using f2 clock) ?_;simp[Instr.mapUpdate,run_underlying hu,hxv,hg,Qb (kk:=.i64) hkd hk' hd,MapKept.run_findKey hd f1,mapObj hb]
 ·refine fin (ents.modify j fun e=>{e with key:=a.eval k,val:=a.eval v}) clock (by simpa using f4) ?_;rw[az] at f1;have hj:ents[j]?=some en:=by simpa using f2
  simp[Instr.mapUpdate,run_underlying hu,hxv,hg,Qb (kk:=.i64) hkd hk' hd,MapKept.run_findKey hd f1,mapObj hb,hj,f3,key_stays hkd hk']
theorem Vd (hs:SR lp I L st a.tmps.toList suf w) (hf:Fr cx w0 I0 F0 O0 Hd R e ds I F L w) {t kt et:TypeId} {x k v:Operand} (ho:o.op=.insert t x k v\/o.op=.mapUpdate t x k v) (hu:cx.P.underlying t=some (.map kt et)) {r1 r2 r3:RX}
  (h1:rx cx.G x=some r1) (h2:rx cx.G k=some r2) (h3:rx cx.G v=some r3)
  (h:exec (o.dst.getD 0) (Ak st.objs) st.tmps (.insert (Eg cx.P kt) r1 r2 r3)=some out):BA cx w0 I0 F0 O0 Hd R e ds F lp suf o a w (apply st o.dst out):=by
 have hx:=Bx hs hf.wd h1;have hk:=Bx hs hf.wd h2;have hv:=Bx hs hf.wd h3;simp only[exec] at h;split at h
 case h_2=>cases h
 rename_i nm hr;rw[hr] at hx;split at h
 case h_2=>cases h
 rename_i es hlk;split at h
 case h_2=>cases h
 rename_i es' hes;obtain⟨hc,h⟩:=Bn h;cases h;simp only[Z2] at hc;obtain⟨⟨c1,c2⟩,c3⟩:=hc
 have hkk:Aw w I lp none (r2.ev st.tmps) (a.eval k):=by
  obtain⟨d,hd,hkd⟩:=Rw c1;exact hk.shut (I9.names (d:=d) hkd)
 cases hS:(r3.ev st.tmps).names.isEmpty with
 | true =>
  rw[hS] at hes;simp only[if_true] at hes;have:=T5 hs hf ho hu hx hlk hkk (hv.shut (aY.1 hS)) c1 hes;simpa[hS] using this
 | false =>
  rw[hS] at hes c3 c2;simp only[Z0,if_false,aV,Z2,bC] at hes c3 c2;obtain⟨hR,hn⟩:=c3;generalize hRn:Bb (Ak st.objs) AW (r3.ev st.tmps).names=Rn at hR hn
  have hn:nm ∉ Rn:=by
   intro h;rw[bk.2 h] at hn;cases hn
  have hv1:=OH hs hR (.cons _ _ _ _ hv .nil) (fun m hm=>by rw[<-hRn];exact Fd _ _ m (by simpa[AR] using hm))
  have hv2:Aw w (inR I L Rn) lp none ((r3.ev st.tmps).sub (BJ (Ak st.objs))) (a.eval v):=by
   cases hv1 with
   | cons _ _ _ _ h _=>exact h
  have hx2:Aw w (inR I L Rn) lp (some (Hk L Rn)) (.mp nm) (a.eval x):=by
   obtain⟨b,C,hL,hxv⟩:=Qc hx;rw[hxv];exact .mp nm b C (by simp[Hk,hn,hL])
  have hk2:Aw w (inR I L Rn) lp none (r2.ev st.tmps) (a.eval k):=Aw.mono (fun _ hb=>.inl hb) (fun _ _=>rfl) (fun _ _ h=>h) hkk;have:=T5 (hs.freeze hR) (hf.freeze Rn) ho hu hx2 (Yt hn st hlk) hk2 hv2 c1 hes
  have hne:Rn≠[]:=by
   intro e0;cases hm:(r3.ev st.tmps).names with
   | nil=>rw[hm] at hS;simp at hS
   | cons m ms =>
    have hmem:m∈Rn:=by rw[<-hRn];exact Fd AW _ m (by rw[hm];exact aq)
    rw[e0] at hmem;cases hmem
  have e1:apply st o.dst {v:=.undef,upd:=some (nm,.map es'),frz:=Rn}=apply (CZ (Ak st.objs) Rn st) o.dst {v:=.undef,upd:=some (nm,.map es')}:=by
   have hfp:=ZB (σ:=Ak st.objs) hn st es';cases Rn with
   | nil=>exact absurd rfl hne
   | cons r rs =>
    simp only[apply,List.isEmpty_cons,Z0,if_false,bU,if_true];rw[hfp]
  simp only[Z0,if_false];rw[e1];exact this
theorem op_lookup (hs:SR lp I L st a.tmps.toList suf w) (hf:Fr cx w0 I0 F0 O0 Hd R e ds I F L w) {t kt et:TypeId} {x k:Operand} {ok:Bool} (ho:o.op=.lookup t x k ok) (hu:cx.P.underlying t=some (.map kt et)) {z:PV} (hz:Gr cx.P et=some z) {r1 r2:RX}
  (h1:rx cx.G x=some r1) (h2:rx cx.G k=some r2)
  (h:exec (o.dst.getD 0) (Ak st.objs) st.tmps (.lookup (Eg cx.P kt) z ok r1 r2)=some out):BA cx w0 I0 F0 O0 Hd R e ds F lp suf o a w (apply st o.dst out):=by
 have hx:=Bx hs hf.wd h1;have hk:=Bx hs hf.wd h2;obtain⟨zi,zv,hzi,hz1,hzr⟩:=OO hz (w:=w) (I:=I) (lp:=lp) (L:=some L);simp only[exec] at h;split at h;·cases h
 rename_i es hes;split at h;·cases h
 rename_i r hr;obtain⟨hc,h⟩:=Bn h;cases h;obtain⟨d,hd,hkd⟩:=Rw hc;have hk':=hk.shut (I9.names (d:=d) hkd);have hzrun:(zeroValue et).run cx.P w=.ok zv w:=by simp[zeroValue,typeInfo,hzi,hz1]
 obtain⟨ents,hents,hrep⟩:∃ ents:Array MapEntry,((∃ r clock,a.eval x=.map (some r)/\w.heap[r]?=some (.map ents clock))\/(a.eval x=.map none/\ents=#[]))/\Aq w I lp none es (F9 ents.toList):=by
  split at hes
  ·rename_i nm hrx;rw[hrx] at hx;split at hes
   case h_2=>cases hes
   rename_i es0 hlk;cases hes;obtain⟨b,C,hL,hxv⟩:=Qc hx;obtain⟨p,hp,ha⟩:=hs.ob nm _ hlk;rw[hL] at hp;cases hp;obtain⟨ents,clock,hb,hrep⟩:=ha;exact⟨ents,.inl ⟨b,clock,hxv,hb⟩,hrep⟩
  ·rename_i es0 hrx;rw[hrx] at hx;cases hes;obtain⟨r,ents,clock,hxv,_,hb,hrep⟩:=Wl hx;exact⟨ents,.inl ⟨r,clock,hxv,hb⟩,hrep⟩
  ·rename_i hrx;rw[hrx] at hx;cases hes;exact⟨#[],.inr ⟨Wk hx,rfl⟩,.nil⟩
  ·cases hes
 obtain⟨v,b,hfind,hrv,hrs⟩:∃ v b,(∃ ans,Instr.findNow d (a.eval k) ents.toList 0=some ans/\((ans=none/\v=zv/\b=false)\/∃ j,ans=some (j,v)/\b=true))/\Aw w I lp (some L) (r.getD z) v/\r.isSome=b:=by
  rcases ZG hkd hk' es.length es ents.toList 0 r (Z5 _) hrep hr with ⟨q1,q2⟩ | ⟨j,v,x,q1,q2,q3⟩
  ·subst q1;exact⟨zv,false,⟨_,q2,.inl ⟨rfl,rfl,rfl⟩⟩,hzr,rfl⟩
  ·subst q1;exact⟨v,true,⟨_,q3,.inr ⟨j,rfl,rfl⟩⟩,q2.lift _,rfl⟩
 refine BP hs hf (v':=if ok then .tuple #[v,.bool b] else v) ?_ (.refl w) ?_
 ·obtain⟨ans,f1,f2⟩:=hfind;rcases hents with ⟨rb,clock,hxv,hb⟩ | ⟨hxv,rfl⟩
  ·have hg:(getObj rb).run cx.P w=.ok (.map ents clock) w:=by simp[getObj,Sem.run,hb]
   rcases f2 with ⟨rfl,rfl,rfl⟩ | ⟨j,rfl,rfl⟩<;>cases ok <;>
    simp[execOp,ho,Instr.lookup,run_underlying hu,hxv,hg,Qb (kk:=.i64) hkd hk' hd,MapKept.run_findKey hd f1,hzrun]
  ·rcases f2 with ⟨rfl,rfl,rfl⟩ | ⟨j,rfl,rfl⟩<;>cases ok <;>
    simp[execOp,ho,Instr.lookup,run_underlying hu,hxv,Qb (kk:=.i64) hkd hk' hd,MapKept.run_findKey hd (l:=[]) f1,hzrun]
 ·cases ok;·simpa using hrv
  ·simp only[if_true];exact .tup _ _ (.cons _ _ _ _ hrv (.cons _ _ _ _ (by rw[hrs];exact .bool b) .nil))
theorem op_iter (hs:SR lp I L st a.tmps.toList suf w) (hf:Fr cx w0 I0 F0 O0 Hd R e ds I F L w) {t:TypeId} {x:Operand} (ho:o.op=.range t x) (hu:cx.P.underlying t=some .string) {r:RX} (h1:rx cx.G x=some r) {d:Nat} (hd:o.dst=some d) (hcl:st.objs[d]?=some [])
  (h:exec (o.dst.getD 0) (Ak st.objs) st.tmps (.iter r)=some out):BA cx w0 I0 F0 O0 Hd R e ds F lp suf o a w (apply st o.dst out):=by
 have hx:=Bx hs hf.wd h1;simp only[exec,hd,aM] at h;split at h
 case h_2=>cases h
 rename_i s hr;rw[hr] at hx;cases h
 have:=PC hs hf hd hcl (.refl w) (C:=0) (v:=.it (d,0)) (ob:=.siter s 0) (v':=.pointer (some ⟨w.heap.size,0,none⟩)) (obj:=.stringIter ⟨s.toArray⟩ 0) (by
  simp[execOp,ho,Instr.range,run_underlying hu,Ff hx]) (fun L' _=>Jb w _) (fun L' hL=>.it _ _ _ hL)
 simpa[hd] using this
theorem op_next (hs:SR lp I L st a.tmps.toList suf w) (hf:Fr cx w0 I0 F0 O0 Hd R e ds I F L w) {x:Operand} (ho:o.op=.next x true) {r:RX} (h1:rx cx.G x=some r)
  (h:exec (o.dst.getD 0) (Ak st.objs) st.tmps (.next r)=some out):BA cx w0 I0 F0 O0 Hd R e ds F lp suf o a w (apply st o.dst out):=by
 have hx:=Bx hs hf.wd h1;simp only[exec] at h;split at h
 case h_2=>cases h
 rename_i nm hr;rw[hr] at hx;split at h
 case h_2=>cases h
 rename_i s pos hlk;obtain⟨b,C,hL,hxv⟩:=inv_it hx;obtain⟨p,hp,ha⟩:=hs.ob nm _ hlk;rw[hL] at hp;cases hp;have hb:w.heap[b]?=some (.stringIter ⟨s.toArray⟩ pos):=ha;have hg:(getObj b).run cx.P w=.ok (.stringIter ⟨s.toArray⟩ pos) w:=by simp[getObj,Sem.run,hb]
 have hz:(⟨s.toArray⟩:ByteArray).size=s.length:=by simp[ByteArray.size]
 split at h
 ·rename_i hlt;cases h;have hset:∀ ob',(setObj b ob').run cx.P w=.ok () {w with heap:=w.heap.setIfInBounds b ob'}:=fun ob'=>by simp[setObj,Sem.run,hb]
  obtain⟨q1,q2⟩:=MapKept.heap_set (o':=.stringIter ⟨s.toArray⟩ (pos+(Utf8.decode ⟨s.toArray⟩ pos).2)) hb
  refine NG hs hf hL (v':=.tuple #[.bool true,.int .i64 pos,.int .i32 (Utf8.decode ⟨s.toArray⟩ pos).1]) (w':={w with heap:=w.heap.setIfInBounds b (.stringIter ⟨s.toArray⟩ (pos+(Utf8.decode ⟨s.toArray⟩ pos).2))})
   (.inl ?_) rfl rfl rfl (by simp) q2 q1 (.tup _ _ (.cons _ _ _ _ (.bool _) (.cons _ _ _ _ (.int _ _) (.cons _ _ _ _ (.int _ _) .nil))))
  have hlt':pos < (⟨s.toArray⟩:ByteArray).size:=by rw[hz];exact hlt
  simp only[execOp,ho,hxv,Instr.next,Sem.run_bind,hg,Result.andThen_ok,if_pos hlt',hset,Sem.run_pure,goInt]
 ·rename_i hlt;cases h;have hlt':¬ pos < (⟨s.toArray⟩:ByteArray).size:=by rw[hz];exact hlt
  refine BP hs hf (v':=.tuple #[.bool false]) ?_ (.refl w) (.tup _ _ (.cons _ _ _ _ (.bool _) .nil));simp only[execOp,ho,hxv,Instr.next,Sem.run_bind,hg,Result.andThen_ok,if_neg hlt',Sem.run_pure]
theorem Zf (hs:SR lp I L st a.tmps.toList suf w) (hf:Fr cx w0 I0 F0 O0 Hd R e ds I F L w) {x:Operand} {t0 t:TypeId} {ok:Bool} (ho:o.op=.typeAssert x t0 t ok) {d:TypeDesc} (hu:cx.P.underlying t=some d) (hd:∀ ms,d≠.interface ms) {z:PV} (hz:Gr cx.P t=some z)
  {r:RX} (h1:rx cx.G x=some r) (h:exec (o.dst.getD 0) (Ak st.objs) st.tmps (.tassert t z ok r)=some out):BA cx w0 I0 F0 O0 Hd R e ds F lp suf o a w (apply st o.dst out):=by
 have hx:=Bx hs hf.wd h1;obtain⟨zi,zv,hzi,hz1,hzr⟩:=OO hz (w:=w) (I:=I) (lp:=lp) (L:=some L);have hzrun:(zeroValue t).run cx.P w=.ok zv w:=by simp[zeroValue,typeInfo,hzi,hz1]
 simp only[exec] at h;split at h
 ·rename_i u y hr;rw[hr] at hx;obtain⟨yv,hxv,hy⟩:=LM hx;split at h
  ·rename_i hut;subst hut;cases h;refine BP hs hf (v':=if ok then .tuple #[yv,.bool true] else yv) ?_ (.refl w) ?_
   ·cases d<;>first
     | exact absurd rfl (hd _)
     |(cases ok<;>simp[execOp,ho,hxv,Instr.typeAssert,run_underlying hu])
   ·cases ok;·simpa using hy
    ·exact .tup _ _ (.cons _ _ _ _ hy (.cons _ _ _ _ (.bool _) .nil))
  ·rename_i hut;obtain⟨hk,h⟩:=Bn h;subst hk;cases h;refine BP hs hf (v':=.tuple #[zv,.bool false]) ?_ (.refl w) (.tup _ _ (.cons _ _ _ _ hzr (.cons _ _ _ _ (.bool _) .nil)))
   cases d<;>first
    | exact absurd rfl (hd _)
    | simp[execOp,ho,hxv,Instr.typeAssert,run_underlying hu,hut,hzrun]
 ·rename_i hr;rw[hr] at hx;have hxv:=IB hx;obtain⟨hk,h⟩:=Bn h;subst hk;cases h;refine BP hs hf (v':=.tuple #[zv,.bool false]) ?_ (.refl w) (.tup _ _ (.cons _ _ _ _ hzr (.cons _ _ _ _ (.bool _) .nil)))
  cases d<;>first
   | exact absurd rfl (hd _)
   | simp[execOp,ho,hxv,Instr.typeAssert,run_underlying hu,hzrun]
 ·cases h
end ops
end Go.Ab


namespace Go.Ab
theorem YP:∀ (x y:List UInt8),KK x y=Op.bytesLess x y:=by
 intro x;induction x with
 | nil=>intro y;cases y<;>rfl
 | cons a x ih=>intro y;cases y with
  | nil=>rfl
  | cons b y=>simp only[KK,Op.bytesLess,ih]
theorem YG (P:Program) (t:TypeId):match Eg P t with
  | .num=>∃ k,P.underlying t=some (.int k)
  | .str=>P.underlying t=some .string
  | .bool=>P.underlying t=some .bool
  | .iface=>∃ ms,P.underlying t=some (.interface ms)
  | .slice=>∃ e,P.underlying t=some (.slice e)
  | .map=>∃ k e,P.underlying t=some (.map k e)
  | .func=>∃ a b c,P.underlying t=some (.func a b c)
  | .ptr=>∃ e,P.underlying t=some (.pointer e)
  | .plain l=>∃ fs,P.underlying t=some (.struct fs)/\KO P 0 fs.toList=some l/\P.stoodInHeld t=false/\P.eqGuardType P.depth t=false
  | .other=>True:=by
 cases hu:P.underlying t with
 | none=>simp[Eg,hu]
 | some d =>
  cases d with
  | struct fs =>
   simp only[Eg,hu];cases hp:KO P 0 fs.toList with
   | none=>trivial
   | some l =>
    simp only
    by_cases hc:P.stoodInHeld t=false/\P.eqGuardType P.depth t=false
    ·rw[if_pos hc];exact⟨fs,rfl,hp,hc.1,hc.2⟩
    ·rw[if_neg hc];trivial
  | _=>simp[Eg,hu]
section eqs
variable {P:Program} {w:World} (d:Nat) {t:TypeId}
theorem eqIn_ii {ms} (hu:P.underlying t=some (.interface ms)):(Op.equalIn (d+1) t .nilIface .nilIface).run P w=.ok true w:=by simp[Op.equalIn,run_underlying hu]
theorem W9 {ms} (hu:P.underlying t=some (.interface ms)) (u:TypeId) (v:Value):(Op.equalIn (d+1) t .nilIface (.iface u v)).run P w=.ok false w:=by simp[Op.equalIn,run_underlying hu]
theorem W6 {ms} (hu:P.underlying t=some (.interface ms)) (u:TypeId) (v:Value):(Op.equalIn (d+1) t (.iface u v) .nilIface).run P w=.ok false w:=by simp[Op.equalIn,run_underlying hu]
theorem eqIn_ff {x y z} (hu:P.underlying t=some (.func x y z)):(Op.equalIn (d+1) t .nilFunc .nilFunc).run P w=.ok true w:=by simp[Op.equalIn,run_underlying hu]
theorem eqIn_fv {x y z} (hu:P.underlying t=some (.func x y z)) (f:Fn) (u v:Array Value):(Op.equalIn (d+1) t .nilFunc (.func f u v)).run P w=.ok false w:=by simp[Op.equalIn,run_underlying hu]
theorem eqIn_vf {x y z} (hu:P.underlying t=some (.func x y z)) (f:Fn) (u v:Array Value):(Op.equalIn (d+1) t (.func f u v) .nilFunc).run P w=.ok false w:=by simp[Op.equalIn,run_underlying hu]
theorem W8 {e} (hu:P.underlying t=some (.slice e)) (b:Option Addr) (n c:Nat):(Op.equalIn (d+1) t (.slice none 0 0) (.slice b n c)).run P w=.ok b.isNone w:=by simp[Op.equalIn,run_underlying hu]
theorem eqIn_sn {e} (hu:P.underlying t=some (.slice e)) (b:Addr) (n c:Nat):(Op.equalIn (d+1) t (.slice (some b) n c) (.slice none 0 0)).run P w=.ok false w:=by simp[Op.equalIn,run_underlying hu]
theorem S0 {e} (hu:P.underlying t=some (.pointer e)) (b:Option Addr):(Op.equalIn (d+1) t (.pointer none) (.pointer b)).run P w=.ok b.isNone w:=by simp[Op.equalIn,run_underlying hu]
theorem W7 {e} (hu:P.underlying t=some (.pointer e)) (b:Addr):(Op.equalIn (d+1) t (.pointer (some b)) (.pointer none)).run P w=.ok false w:=by simp[Op.equalIn,run_underlying hu]
theorem Xa (hu:P.underlying t=some .bool) (a b:Bool):(Op.equalIn (d+1) t (.bool a) (.bool b)).run P w=.ok (a==b) w:=by simp[Op.equalIn,run_underlying hu]
end eqs
theorem V3 {P:Program} {w:World} {t:TypeId} (ha:(isAgg t).run P w=.ok false w) {xs:Array Value} {i:Nat} {v:Value} (h:xs[i]?=some v):(part t xs i).run P w=.ok v w:=by
 unfold part;simp[ha,h]
theorem Vv {P:Program} {w:World} {t:TypeId} {d:TypeDesc} (hu:P.underlying t=some d) (hd:Ly d=false):(isAgg t).run P w=.ok false w:=by
 cases d<;>simp[Ly] at hd<;>simp[isAgg,run_underlying hu]
theorem X2 {P:Program} {w w':World} {I:Nat->Prop} {lp:Nat->Option Nat} {L:Option AF} {xv yv:Array Value} (d:Nat):∀ (fs:List Field) (i:Nat) (l:List Nat) (xs ys:List PV) (b:Bool),KO P i fs=some l->IJ l xs ys=some b ->
  Aq w I lp L xs (xv.toList.drop i)->Aq w I lp L ys (yv.toList.drop i)->(Op.eqFields (d+1) xv yv fs).run P w'=.ok b w':=by
 intro fs;induction fs with
 | nil =>
  intro i l xs ys b hp he _ _;cases hp;cases xs<;>cases ys<;>simp[IJ] at he;subst he;simp[Op.eqFields]
 | cons f fs ih =>
  intro i l xs ys b hp he hx hy;unfold KO at hp;split at hp
  case isFalse=>cases hp
  rename_i hf;obtain⟨hoff,hnm⟩:=hf
  have hat:∀ {zs:List PV} {zv:Array Value} {z:PV} {zs':List PV},zs=z :: zs'->Aq w I lp L zs (zv.toList.drop i)->∃ v,zv[i]?=some v/\Aw w I lp L z v/\Aq w I lp L zs' (zv.toList.drop (i+1)):=by
   intro zs zv z zs' hz hr;subst hz;cases hd:zv.toList.drop i with
   | nil=>rw[hd] at hr;cases hr
   | cons v vs =>
    rw[hd] at hr;cases hr with
    | cons _ _ _ _ h1 h2 =>
     have e1:zv.toList[i]?=some v:=by
      have:=congrArg (·[0]?) hd;simpa using this
     refine⟨v,by simpa using e1,h1,?_⟩
     have e2:zv.toList.drop (i+1)=vs:=by
      have:=congrArg (List.drop 1) hd;simpa using this
     rw[e2];exact h2
  have hnm':f.name ≠ "_":=hnm
  have step:∀ {v u:Value} {r:Bool} {dsc:TypeDesc},P.underlying f.type=some dsc->Ly dsc=false->xv[i]?=some v->yv[i]?=some u->(Op.equalIn (d+1) f.type v u).run P w'=.ok r w' ->
    (Op.eqFields (d+1) xv yv (f :: fs)).run P w'=if r=true then (Op.eqFields (d+1) xv yv fs).run P w' else .ok false w':=by
   intro v u r dsc hu hd h1 h2 h3;simp only[Op.eqFields,hnm',ne_eq,not_false_eq_true,if_true,Sem.run_bind,hoff,V3 (Vv hu hd) h1,V3 (Vv hu hd) h2,h3,Result.andThen_ok];cases r<;>simp
  cases hu:P.underlying f.type with
  | none=>simp[hu] at hp
  | some dsc =>
   cases hq:KO P (i+1) fs with
   | none=>cases dsc<;>simp[hu,hq] at hp
   | some l' =>
    cases dsc<;>simp[hu,hq] at hp
    all_goals subst hp
    all_goals cases xs with
     | nil=>simp[IJ] at he
     | cons x xs=>?_
    all_goals cases ys with
     | nil=>cases x<;>simp[IJ] at he
     | cons y ys=>?_
    all_goals cases x<;>cases y<;>simp only[IJ,reduceCtorEq] at he
    all_goals obtain⟨v,hv,hvr,hx'⟩:=hat rfl hx
    all_goals obtain⟨u,hu',hur,hy'⟩:=hat rfl hy
    ·rw[Fx hvr] at hv;rw[Fx hur] at hu';rw[step hu rfl hv hu' (Xa d hu _ _)];split at he;·rename_i hq2;rw[if_pos hq2];exact ih _ _ _ _ _ hq he hx' hy'
     ·rename_i hq2;cases he;rw[if_neg (by rw[hq2];simp)]
    ·obtain⟨hk,he2⟩:=Bn he;clear he;rw[Ef hvr] at hv;rw[Ef hur] at hu';have hk':=eq_of_beq hk;subst hk';rw[step hu rfl hv hu' (run_equalIn_int w' d _ _ _ _ _ hu)];split at he2;·rename_i hq2;rw[if_pos hq2];exact ih _ _ _ _ _ hq he2 hx' hy'
     ·rename_i hq2;cases he2;rw[if_neg (by rw[hq2];simp)]
    ·rw[Ff hvr] at hv;rw[Ff hur] at hu';rw[step hu rfl hv hu' (run_equalIn_string w' d _ _ _ hu)];simp only[ByteArray.toList_eq] at he |-;split at he;·rename_i hq2;rw[if_pos (by simpa using hq2)];exact ih _ _ _ _ _ hq he hx' hy'
     ·rename_i hq2;cases he;rw[if_neg (by simpa using hq2)]
section ops
variable {E:Type} {cx:Cx} {w0:World} {I0 F0:Nat->Prop} {O0:B9} {Hd:Nat->Option Obj} {R:BV E} {e:E} {ds:List Deferred} {F:Nat->Prop} {lp:Nat->Option Nat} {suf:List Value}
variable {I:Nat->Prop} {L:AF} {st:St} {a:Act} {w:World} {o:Oper} {out:AO} {rop:AC}
theorem WY {x:Operand} (h:isC x=true):∃ v,x=.const v:=by
 cases x<;>simp[isC] at h;exact⟨_,rfl⟩
theorem W5 {P:Program} {w w':World} {I:Nat->Prop} {lp:Nat->Option Nat} {L:AF} {t:TypeId} {X Y:Operand} {x y:PV} {xv yv:Value} (hx:Aw w I lp (some L) x xv) (hy:Aw w I lp (some L) y yv) {b:Bool} {cst:Bool}
  (hc:cst=true->(isC X||isC Y)=true) (h:Ka (Eg P t) cst x y=some b) (op:BinOp) :
  (Op.equal t xv yv).run P w'=.ok b w'/\(eqGuard op t X Y xv yv).run P w'=.ok () w'/\binOp .eql t xv yv=(do pure (.bool (<-Op.equal t xv yv)))/\binOp .neq t xv yv=(do pure (.bool (!(<-Op.equal t xv yv)))):=by
 have hu:=YG P t;generalize hcl:Eg P t=c at h hu;unfold Ka at h;split at h
 all_goals first
  | contradiction
  | skip
 ·obtain⟨ms,hu⟩:=hu;obtain⟨hcs,h⟩:=Bn h;cases h;rw[IB hx,IB hy];refine⟨?_,?_,by simp[binOp],by simp[binOp]⟩;·exact eqIn_ii 9999 hu
  ·rcases Bool.or_eq_true_iff.1 (hc hcs) with h | h
   ·obtain⟨v,rfl⟩:=WY h;rw[eqGuard_nil_constL];rfl
   ·obtain⟨v,rfl⟩:=WY h;rw[eqGuard_nil_constR];rfl
 ·obtain⟨ms,hu⟩:=hu;cases h;obtain⟨yv',rfl,_⟩:=LM hy;rw[IB hx];refine⟨?_,by rw[eqGuard_nil_iface];rfl,by simp[binOp],by simp[binOp]⟩;exact W9 9999 hu _ _
 ·obtain⟨ms,hu⟩:=hu;cases h;obtain⟨xv',rfl,_⟩:=LM hx;rw[IB hy];refine⟨?_,by rw[eqGuard_at_iface];rfl,by simp[binOp],by simp[binOp]⟩;exact W6 9999 hu _ _
 ·obtain⟨ms,hu⟩:=hu;cases h;obtain⟨yv',rfl,_⟩:=Wm hy;rw[IB hx];refine⟨?_,by rw[eqGuard_nil_iface];rfl,by simp[binOp],by simp[binOp]⟩;exact W9 9999 hu _ _
 ·obtain⟨ms,hu⟩:=hu;cases h;obtain⟨xv',rfl,_⟩:=Wm hx;rw[IB hy];refine⟨?_,by rw[eqGuard_at_iface];rfl,by simp[binOp],by simp[binOp]⟩;exact W6 9999 hu _ _
 ·obtain⟨_,_,_,hu⟩:=hu;cases h;rw[Py hx,Py hy];refine⟨?_,by rw[eqGuard_at_nilFunc];rfl,by simp[binOp],by simp[binOp]⟩;exact eqIn_ff 9999 hu
 ·obtain⟨_,_,_,hu⟩:=hu;cases h;obtain⟨us,vs,rfl,_,_⟩:=K4 hy;rw[Py hx];refine⟨?_,by rw[eqGuard_at_nilFunc];rfl,by simp[binOp],by simp[binOp]⟩;exact eqIn_fv 9999 hu _ _ _
 ·obtain⟨_,_,_,hu⟩:=hu;cases h;obtain⟨us,vs,rfl,_,_⟩:=K4 hx;rw[Py hy];refine⟨?_,by rw[eqGuard_at_func];rfl,by simp[binOp],by simp[binOp]⟩;exact eqIn_vf 9999 hu _ _ _
 ·obtain⟨_,hu⟩:=hu;cases h;rw[Gm hx,Gm hy];refine⟨?_,by rw[eqGuard_at_slice];rfl,by simp[binOp],by simp[binOp]⟩;exact W8 9999 hu _ _ _
 ·obtain⟨_,hu⟩:=hu;cases h;rw[Gm hx];rcases JS hy with ⟨b,off,cap,c,E',fr,rfl,_⟩ | ⟨hn,_⟩
  ·refine⟨?_,by rw[eqGuard_at_slice];rfl,by simp[binOp],by simp[binOp]⟩;exact W8 9999 hu _ _ _
  ·simp at hn
 ·obtain⟨_,hu⟩:=hu;cases h;rw[Gm hy];rcases JS hx with ⟨b,off,cap,c,E',fr,rfl,_⟩ | ⟨hn,_⟩
  ·refine⟨?_,by rw[eqGuard_at_slice];rfl,by simp[binOp],by simp[binOp]⟩;exact eqIn_sn 9999 hu _ _ _
  ·simp at hn
 ·obtain⟨_,hu⟩:=hu;cases h;rw[KH hx,KH hy];refine⟨?_,by rw[eqGuard_at_pointer];rfl,by simp[binOp],by simp[binOp]⟩;exact S0 9999 hu _
 ·obtain⟨_,hu⟩:=hu;cases h;obtain⟨b,C,hL,rfl⟩:=FY hy;rw[KH hx];refine⟨?_,by rw[eqGuard_at_pointer];rfl,by simp[binOp],by simp[binOp]⟩;exact S0 9999 hu _
 ·obtain⟨_,hu⟩:=hu;cases h;obtain⟨b,off0,c,E',fr,rfl,_⟩:=Mb hy;rw[KH hx];refine⟨?_,by rw[eqGuard_at_pointer];rfl,by simp[binOp],by simp[binOp]⟩;exact S0 9999 hu _
 ·obtain⟨_,hu⟩:=hu;cases h;obtain⟨b,C,hL,rfl⟩:=FY hx;rw[KH hy];refine⟨?_,by rw[eqGuard_at_pointer];rfl,by simp[binOp],by simp[binOp]⟩;exact W7 9999 hu _
 ·obtain⟨_,hu⟩:=hu;cases h;obtain⟨b,off0,c,E',fr,rfl,_⟩:=Mb hx;rw[KH hy];refine⟨?_,by rw[eqGuard_at_pointer];rfl,by simp[binOp],by simp[binOp]⟩;exact W7 9999 hu _
 ·cases h;rw[Fx hx,Fx hy];refine⟨?_,by rw[eqGuard_at_bool];rfl,by simp[binOp],by simp[binOp]⟩;exact Xa 9999 hu _ _
 ·obtain⟨fs,hu,hp,hst,hgt⟩:=hu;obtain⟨us,rfl,_,hxr⟩:=PN hx;obtain⟨vs,rfl,_,hyr⟩:=PN hy;refine⟨?_,run_eqGuard_agg w' op t X Y us vs hgt,by simp[binOp],by simp[binOp]⟩;have hfs:P.fieldsOf t=fs:=by simp[Program.fieldsOf,hu]
  show (Op.equalIn (9999+1) t (.agg us) (.agg vs)).run P w'=_;rw[run_equalIn_struct w' 9999 t us vs (by rw[hfs];exact hu) hst,hfs];exact X2 9998 fs.toList 0 _ _ _ b hp h (by simpa using hxr) (by simpa using hyr)
theorem ZX {P:Program} {w:World} {op:BinOp} {k:IntKind} {x y:Int} {t:TypeId} {v:PV} (hop:op≠.shl/\op≠.shr) (h:FK op k x y=some v) :
  ∃ u,(binOp op t (.int k x) (.int k y)).run P w=.ok u w/\∀ (w:World) (I:Nat->Prop) (lp:Nat->Option Nat) (L:Option AF),Aw w I lp L v u:=by
 have ari:∀ op,(op=.add\/op=.sub\/op=.mul)->binOp op t (.int k x) (.int k y)=Op.intArith op k x y:=by
  rintro op (rfl | rfl | rfl)<;>simp[binOp]
 have bits:∀ op,(op=.and\/op=.or\/op=.xor\/op=.andNot)->binOp op t (.int k x) (.int k y)=Op.intBits op k x y:=by
  rintro op (rfl | rfl | rfl | rfl)<;>simp[binOp]
 have cmp:∀ op,(op=.eql\/op=.neq\/op=.lss\/op=.leq\/op=.gtr\/op=.geq)->binOp op t (.int k x) (.int k y)=Op.intCmp op x y:=by
  rintro op (rfl | rfl | rfl | rfl | rfl | rfl)<;>simp[binOp]
 cases op<;>simp only[FK,JW,ao,bL] at h
 case quo =>
  obtain⟨hk,h⟩:=Bn h;cases h;have:¬ y=0:=by simpa using hk
  exact⟨_,by simp[binOp,Op.intDiv,this],fun _ _ _ _=>.int _ _⟩
 case rem =>
  obtain⟨hk,h⟩:=Bn h;cases h;have:¬ y=0:=by simpa using hk
  exact⟨_,by simp[binOp,Op.intDiv,this],fun _ _ _ _=>.int _ _⟩
 case shl=>exact absurd rfl hop.1
 case shr=>exact absurd rfl hop.2
 case add=>cases h;rw[ari _ (by simp)];exact⟨_,rfl,fun _ _ _ _=>.int _ _⟩
 case sub=>cases h;rw[ari _ (by simp)];exact⟨_,rfl,fun _ _ _ _=>.int _ _⟩
 case mul=>cases h;rw[ari _ (by simp)];exact⟨_,rfl,fun _ _ _ _=>.int _ _⟩
 case and=>cases h;rw[bits _ (by simp)];exact⟨_,rfl,fun _ _ _ _=>.int _ _⟩
 case or=>cases h;rw[bits _ (by simp)];exact⟨_,rfl,fun _ _ _ _=>.int _ _⟩
 case xor=>cases h;rw[bits _ (by simp)];exact⟨_,rfl,fun _ _ _ _=>.int _ _⟩
 case andNot=>cases h;rw[bits _ (by simp)];exact⟨_,rfl,fun _ _ _ _=>.int _ _⟩
 case eql=>cases h;rw[cmp _ (by simp)];exact⟨_,rfl,fun _ _ _ _=>.bool _⟩
 case neq=>cases h;rw[cmp _ (by simp)];exact⟨_,rfl,fun _ _ _ _=>.bool _⟩
 case lss=>cases h;rw[cmp _ (by simp)];exact⟨_,rfl,fun _ _ _ _=>.bool _⟩
 case leq=>cases h;rw[cmp _ (by simp)];exact⟨_,rfl,fun _ _ _ _=>.bool _⟩
 case gtr=>cases h;rw[cmp _ (by simp)];exact⟨_,rfl,fun _ _ _ _=>.bool _⟩
 case geq=>cases h;rw[cmp _ (by simp)];exact⟨_,rfl,fun _ _ _ _=>.bool _⟩
theorem ZW {P:Program} {w:World} {op:BinOp} {x y:List UInt8} {t:TypeId} {v:PV} (h:La op x y=some v) :
  ∃ u,(binOp op t (.string ⟨x.toArray⟩) (.string ⟨y.toArray⟩)).run P w=.ok u w/\∀ (w:World) (I:Nat->Prop) (lp:Nat->Option Nat) (L:Option AF),Aw w I lp L v u:=by
 have hb:∀ op,binOp op t (.string ⟨x.toArray⟩) (.string ⟨y.toArray⟩)=Op.stringOp op ⟨x.toArray⟩ ⟨y.toArray⟩:=fun op=>by cases op<;>simp[binOp]
 rw[hb];cases op<;>simp only[La] at h
 case add =>
  obtain⟨hk,h⟩:=Bn h;cases h;have hk:=of_decide_eq_true hk;unfold Th at hk;refine⟨.string ⟨(x++y).toArray⟩,?_,fun _ _ _ _=>.str _⟩;rw[run_string_add_sum (P:=P) (w:=w) ⟨x.toArray⟩ ⟨y.toArray⟩ (by simpa[ByteArray.size] using hk),ByteArray.mk_append_mk]
 all_goals first
  |(cases h;exact⟨_,by simp only[Op.stringOp,ByteArray.toList_mk,YP];rfl,fun _ _ _ _=>.bool _⟩)
  |(simp at h)
theorem op_bin (hs:SR lp I L st a.tmps.toList suf w) (hf:Fr cx w0 I0 F0 O0 Hd R e ds I F L w) {op:BinOp} {t:TypeId} {x y:Operand} {fl:TypeId} (ho:o.op=.binOp op t x y fl) {r1 r2:RX} (h1:rx cx.G x=some r1) (h2:rx cx.G y=some r2)
  (h:exec (o.dst.getD 0) (Ak st.objs) st.tmps (.bin op (Eg cx.P t) (isC x||isC y) r1 r2)=some out):BA cx w0 I0 F0 O0 Hd R e ds F lp suf o a w (apply st o.dst out):=by
 have hx:=Bx hs hf.wd h1;have hy:=Bx hs hf.wd h2;simp only[exec] at h;obtain⟨v,hv,rfl⟩:=Z3.1 h
 suffices hsuf:∃ u,(do eqGuard op t x y (a.eval x) (a.eval y);binOp op t (a.eval x) (a.eval y):Sem Value).run cx.P w=.ok u w/\Aw w I lp (some L) v u by
  obtain⟨u,g1,g2⟩:=hsuf;refine BP hs hf (v':=u) ?_ (.refl w) g2;simp only[execOp,ho];rw[Sem.run_bind,g1];rfl
 unfold Em at hv;split at hv
 ·rename_i k n k' m hr1 hr2;rw[hr1] at hx;rw[hr2] at hy;rw[Ef hx,Ef hy,eqGuard_at_int];split at hv
  ·obtain⟨hk,hv2⟩:=Bn hv;cases hv2;have hk:=of_decide_eq_true hk;refine⟨_,?_,.int _ _⟩;simp[binOp,Op.shift,show ¬ m < 0 by omega]
  ·obtain⟨hk,hv2⟩:=Bn hv;cases hv2;have hk:=of_decide_eq_true hk;refine⟨_,?_,.int _ _⟩;simp[binOp,Op.shift,show ¬ m < 0 by omega]
  ·rename_i n1 n2;obtain⟨hk,hv2⟩:=Bn hv;have hk:=beq_iff_eq.1 hk;subst hk;obtain⟨u,g1,g2⟩:=ZX (P:=cx.P) (w:=w) (t:=t) ⟨fun e=>n1 e,fun e=>n2 e⟩ hv2;exact⟨u,by simpa using g1,g2 _ _ _ _⟩
 ·rename_i s1 s2 hr1 hr2;rw[hr1] at hx;rw[hr2] at hy;rw[Ff hx,Ff hy,eqGuard_at_string];obtain⟨u,g1,g2⟩:=ZW (P:=cx.P) (w:=w) (t:=t) hv;exact⟨u,by simpa using g1,g2 _ _ _ _⟩
 ·split at hv
  ·obtain⟨b,hb,rfl⟩:=Z3.1 hv;obtain⟨g1,g2,g3,_⟩:=W5 (w':=w) (X:=x) (Y:=y) hx hy (fun h=>h) hb .eql;exact⟨.bool b,by simp[g2,g3,g1],.bool b⟩
  ·obtain⟨b,hb,rfl⟩:=Z3.1 hv;obtain⟨g1,g2,_,g3⟩:=W5 (w':=w) (X:=x) (Y:=y) hx hy (fun h=>h) hb .neq;exact⟨.bool (!b),by simp[g2,g3,g1],.bool _⟩
  ·cases hv
end ops
end Go.Ab


namespace Go.Ab
theorem WM {G:Fb} {xs:List Operand} {r1 r2:RX} (h:Es G xs=some [r1,r2]):∃ x y,xs=[x,y]/\rx G x=some r1/\rx G y=some r2:=by
 match xs,h with
 | [],h=>simp[Es] at h
 | [x],h=>simp only[Es] at h;split at h<;>simp_all
 | [x,y],h =>
  simp only[Es] at h;split at h
  ·rename_i a b h1 h2;split at h2
   ·rename_i a' b' h3 h4;cases h4;cases h2;cases h;exact⟨x,y,rfl,h1,h3⟩
   ·cases h2
  ·cases h
 | x :: y :: z :: zs,h =>
  simp only[Es] at h;split at h
  ·rename_i a b h1 h2;split at h2
   ·rename_i a' b' h3 h4;split at h4;·cases h4;cases h2;cases h
    ·cases h4
   ·cases h2
  ·cases h
theorem rxs_one {G:Fb} {xs:List Operand} {r1:RX} (h:Es G xs=some [r1]):∃ x,xs=[x]/\rx G x=some r1:=by
 match xs,h with
 | [],h=>simp[Es] at h
 | [x],h=>simp only[Es] at h;split at h<;>simp_all
 | x :: y :: zs,h =>
  simp only[Es] at h;split at h
  ·rename_i a b h1 h2;split at h2;·cases h2;cases h
   ·cases h2
  ·cases h
theorem Rz {α:Type} {xs:Array α} {l:List α} (h:xs.toList=l):xs=l.toArray:=by rw[<-h,bt]
section ops
variable {E:Type} {cx:Cx} {w0:World} {I0 F0:Nat->Prop} {O0:B9} {Hd:Nat->Option Obj} {R:BV E} {e:E} {ds:List Deferred} {F:Nat->Prop} {lp:Nat->Option Nat} {suf:List Value}
variable {I:Nat->Prop} {L:AF} {st:St} {a:Act} {w:World} {o:Oper} {out:AO} {rop:AC}
theorem exec_done (hs:SR lp I L st a.tmps.toList suf w) (hf:Fr cx w0 I0 F0 O0 Hd R e ds I F L w) (hc:B5 cx.P cx.G o=some rop) (hm:Lg rop=true->∃ d,o.dst=some d/\st.objs[d]?=some [])
  (hn:Fh rop=false) (h:exec (o.dst.getD 0) (Ak st.objs) st.tmps rop=some out):BA cx w0 I0 F0 O0 Hd R e ds F lp suf o a w (apply st o.dst out):=by
 cases ho:o.op with
 | move x =>
  simp only[B5,ho,Z3] at hc;obtain⟨r,hr,rfl⟩:=hc;cases h;exact op_mov hs hf (.inl ho) hr
 | assign x =>
  simp only[B5,ho,Z3] at hc;obtain⟨r,hr,rfl⟩:=hc;cases h;exact op_mov hs hf (.inr ho) hr
 | pick c x y =>
  simp only[B5,ho] at hc;split at hc
  ·rename_i c' x' y' h1 h2 h3;cases hc;exact op_pick hs hf ho h1 h2 h3 h
  ·cases hc
 | alloc t =>
  simp only[B5,ho] at hc;split at hc
  ·rename_i z hz;cases hc;obtain⟨d,hd,hcl⟩:=hm rfl;simp only[exec,hd,aM] at h;cases h;have:=op_alloc hs hf ho hz hd hcl;simpa[hd] using this
  ·cases hc
 | box t x =>
  simp only[B5,ho,Z3] at hc;obtain⟨r,hr,rfl⟩:=hc;obtain⟨d,hd,hcl⟩:=hm rfl;exact op_box hs hf ho hr hd hcl h
 | build t ps =>
  simp only[B5,ho] at hc;split at hc
  ·rename_i fs z hu hz;split at hc
   ·rename_i rs hrs;split at hc
    ·rename_i hfs;cases hc;exact op_build hs hf ho hu hz hfs hrs h
    ·cases hc
   ·cases hc
  ·cases hc
 | buildSlice t len ps =>
  simp only[B5,ho] at hc;split at hc
  ·rename_i k by_ z rs he hrs;split at hc
   ·rename_i hl;cases hc;obtain⟨d,hd,hcl⟩:=hm rfl;exact op_mkSl hs hf ho he hrs hl.1 hl.2 hd hcl h
   ·cases hc
  ·cases hc
 | load t x =>
  simp only[B5,ho] at hc;split at hc
  ·rename_i n ag r hsh hr;cases hc;exact op_load hs hf ho hsh hr h
  ·cases hc
 | store t x y =>
  simp only[B5,ho] at hc;split at hc
  ·rename_i n ag r s hsh hr hs';cases hc;exact op_store hs hf ho hsh hr hs' h
  ·cases hc
 | nilCheck x =>
  simp only[B5,ho,Z3] at hc;obtain⟨r,hr,rfl⟩:=hc;exact op_nilck hs hf ho hr h
 | binOp op t x y yt =>
  simp only[B5,ho] at hc;split at hc
  ·rename_i r s hr hs';cases hc;exact op_bin hs hf ho hr hs' h
  ·cases hc
 | unOp op t x =>
  simp only[B5,ho,Z3] at hc;obtain⟨r,hr,rfl⟩:=hc;exact op_un hs hf ho hr h
 | convert src dst x =>
  simp only[B5,ho] at hc;split at hc
  ·rename_i k0 k r hu1 hu2 hr;cases hc;exact op_conv hs hf ho hr hu1 hu2 h
  ·rename_i k0 r hu1 hu2 hr;cases hc;exact op_ofRune hs hf ho hr hu1 hu2 h
  ·rename_i r hu1 hu2 hr;cases hc;exact op_strId hs hf ho hr hu1 hu2 h
  ·rename_i el r hu1 hu2 hr;split at hc
   ·rename_i hu3;cases hc;exact Ze hs hf ho hr hu1 hu2 hu3 h
   ·cases hc
  ·rename_i el r hu1 hu2 hr;split at hc
   ·rename_i hu3;cases hc;exact Zg hs hf ho hr hu1 hu2 hu3 h
   ·cases hc
  ·cases hc
 | makeInterface t x =>
  simp only[B5,ho] at hc;split at hc;·cases hc
  ·rename_i d hnd hu;obtain⟨r,hr,rfl⟩:=Z3.1 hc;cases h;exact op_mkI hs hf ho hr hu fun ms e=>hnd ms e
  ·cases hc
 | makeFunc fn first cap =>
  cases fn with
  | func f =>
   simp only[B5,ho] at hc;split at hc
   ·rename_i hfi;obtain⟨rs,hrs,rfl⟩:=Z3.1 hc;cases h;exact op_mkF hs hf ho (fnNum_k hfi _) (fnNum_id hfi _) hrs
   ·cases hc
  | _=>simp[B5,ho] at hc
 | makeMap t r =>
  simp only[B5,ho] at hc;cases r with
  | none =>
   simp only[Z6] at hc;subst hc;obtain⟨d,hd,hcl⟩:=hm rfl;simp only[exec,hd,aM] at h;cases h;have:=op_mkMap hs hf ho hd hcl;simpa[hd] using this
  | some r=>simp at hc
 | insert t m k v =>
  simp only[B5,ho] at hc;split at hc
  ·rename_i kt et m' k' v' hu h1 h2 h3;split at hc;·cases hc;exact Vd hs hf (.inl ho) hu h1 h2 h3 h
   ·cases hc
  ·cases hc
 | mapUpdate t m k v =>
  simp only[B5,ho] at hc;split at hc
  ·rename_i kt et m' k' v' hu h1 h2 h3;split at hc;·cases hc;exact Vd hs hf (.inr ho) hu h1 h2 h3 h
   ·cases hc
  ·cases hc
 | lookup t m k ok =>
  simp only[B5,ho] at hc;split at hc
  ·rename_i kt et hu;split at hc
   ·rename_i z m' k' hz h1 h2;split at hc;·cases hc;exact op_lookup hs hf ho hu hz h1 h2 h
    ·cases hc
   ·cases hc
  ·cases hc
 | makeSlice t l c =>
  simp only[B5,ho] at hc;split at hc
  ·rename_i k by_ z l' c' he h1 h2;cases hc;obtain⟨d,hd,hcl⟩:=hm rfl;exact op_mkS hs hf ho he h1 h2 hd hcl h
  ·cases hc
 | slice t x lo hi mx =>
  simp only[B5,ho] at hc;split at hc
  ·rename_i x' lo' hi' mx' h1 h2 h3 h4;split at hc
   ·rename_i hu;split at hc
    ·rename_i hmx;cases hc
     have:mx=none:=by
      cases mx with
      | none=>rfl
      | some m =>
       simp only[rxO,Z3] at h4;obtain⟨y,_,rfl⟩:=h4;simp at hmx
     subst this;exact Yj hs hf ho hu h1 h2 h3 h
    ·cases hc
   ·rename_i el hu;split at hc
    ·rename_i k by_ z he;cases hc;exact op_slice hs hf ho he h1 h2 h3 h4 h
    ·cases hc
   ·cases hc
  ·cases hc
 | fieldAddr t x f =>
  simp only[B5,ho] at hc;split at hc
  ·rename_i fs x' hu h1;split at hc
   ·rename_i fd hfd;split at hc
    ·rename_i i hi;split at hc;·cases hc
     ·rename_i hz;cases hc;exact XN hs hf ho hu hfd hi hz h1 h
    ·cases hc
   ·cases hc
  ·cases hc
 | field t x f =>
  simp only[B5,ho] at hc;split at hc
  ·rename_i fs x' hu h1;split at hc
   ·rename_i fd hfd;split at hc
    ·rename_i n ag hsh;cases hc;exact op_field hs hf ho hu hfd hsh h1 h
    ·cases hc
   ·cases hc
  ·cases hc
 | indexAddr t x i =>
  simp only[B5,ho] at hc;split at hc
  ·rename_i el x' i' hu h1 h2;split at hc
   ·rename_i k by_ z he;cases hc;exact Zh hs hf ho he h1 h2 h
   ·cases hc
  ·rename_i n el x' i' hu h1 h2;split at hc
   ·rename_i inf hi;cases hc;exact Yk hs hf ho hu hi h1 h2 h
   ·cases hc
  ·cases hc
 | index t x i =>
  simp only[B5,ho] at hc;split at hc
  ·rename_i x' i' hu h1 h2;cases hc;exact op_strIdx hs hf ho hu h1 h2 h
  ·cases hc
 | extract x j =>
  simp only[B5,ho,Z3] at hc;obtain⟨r,hr,rfl⟩:=hc;exact Zi hs hf ho hr h
 | range t x =>
  simp only[B5,ho] at hc;split at hc
  ·rename_i x' hu h1;cases hc;obtain⟨d,hd,hcl⟩:=hm rfl;exact op_iter hs hf ho hu h1 hd hcl h
  ·cases hc
 | next x b =>
  cases b with
  | false=>simp[B5,ho] at hc
  | true =>
   simp only[B5,ho,Z3] at hc;obtain⟨r,hr,rfl⟩:=hc;exact op_next hs hf ho hr h
 | typeAssert x t0 t ok =>
  simp only[B5,ho] at hc;split at hc;·cases hc
  ·rename_i d hnd hu;split at hc
   ·rename_i z x' hz h1;cases hc;exact Zf hs hf ho hu (fun ms e=>hnd ms e) hz h1 h
   ·cases hc
  ·cases hc
 | call c =>
  simp only[B5,ho] at hc;split at hc;·cases hc
  ·rename_i as has;split at hc
   ·rename_i f hcal;obtain⟨f',_,rfl⟩:=Z3.1 hc;simp[Fh] at hn
   ·rename_i hcal;split at hc
    ·rename_i t x hat
     obtain⟨x0,hx0,hr⟩:=rxs_one has;have harg:=Rz hx0;split at hc;·rename_i hu;cases hc;exact Tb hs hf ho hcal hat harg hu (.inl ⟨rfl,rfl⟩) hr h
     ·rename_i el hu;cases hc;exact Tb hs hf ho hcal hat harg hu (.inr (.inl ⟨_,rfl,rfl⟩)) hr h
     ·rename_i k el hu;cases hc;exact Tb hs hf ho hcal hat harg hu (.inr (.inr ⟨_,_,rfl,rfl⟩)) hr h
     ·cases hc
    ·cases hc
   ·rename_i hcal;split at hc
    ·rename_i t u s x hat hau;obtain⟨x0,y0,hx0,hr1,hr2⟩:=WM has;have harg:=Rz hx0;split at hc
     ·rename_i k by_ z e' el he hu hu2;cases hc;obtain⟨d,hd,hcl⟩:=hm rfl;exact Ve hs hf ho hcal hat hau harg he hu2 hu (.inr ⟨_,rfl⟩) hr1 hr2 hd hcl h
     ·rename_i k by_ z el he hu hu2;cases hc;obtain⟨d,hd,hcl⟩:=hm rfl;exact Ve hs hf ho hcal hat hau harg he hu2 hu (.inl rfl) hr1 hr2 hd hcl h
     ·cases hc
    ·cases hc
   ·rename_i hcal;split at hc
    ·rename_i t d s hat
     obtain⟨x0,y0,hx0,hr1,hr2⟩:=WM has;have harg:=Rz hx0;split at hc
     ·rename_i k by_ z he;cases hc;exact op_copy hs hf ho hcal hat harg he hr1 hr2 h
     ·cases hc
    ·cases hc
   ·rename_i hcal;cases hc;exact Vc hs hf ho (mx:=false) hcal has h
   ·rename_i hcal;cases hc;exact Vc hs hf ho (mx:=true) hcal has h
   ·cases hc
 | _=>simp[B5,ho] at hc
end ops
end Go.Ab


namespace Go.Ab
def Ee (ro:Option Nat):Fence:={fn:=fun _=>True,depth:=none,alive:=false,round:=ro}
theorem Uc {ro:Option Nat} {n:Nat} {P:Program} {f:FuncId} {args:Array Value} {w:World} {R:Ending->World->Prop} (h:CallsIn Fence.wide n P f args w R):CallsIn (Ee ro) n P f args w R:=h
theorem Yb {ro:Option Nat} {n:Nat} {P:Program} {l:Nat} {f:FuncId} {tmps:Array Value} {assign body:Code} {w:World} {R:Ending->World->Prop} (h:RoundIn Fence.wide n P l f tmps assign body w R) :
  RoundIn (Ee ro) n P l f tmps assign body w R:=h
section yl
variable {w w':World} {I I':Nat->Prop} {lp lp':Nat->Option Nat}
mutual
theorem Aw.noY {L:Option AF} {x:PV} {v:Value}:Aw w I lp L x v->x.hasY=false->Aw w I lp' L x v
 | .undef v,_=>.undef v
 | .bool b,_=>.bool b
 | .int k n,_=>.int k n
 | .str s,_=>.str s
 | .nilS,_=>.nilS
 | .nilP,_=>.nilP
 | .nilF,_=>.nilF
 | .nilI,_=>.nilI
 | .nilM,_=>.nilM
 | .slE k full a cap hf,_=>.slE k full a cap hf
 | .sl k xs full b off cap c E fr h1 h2 h3 h4 h5 h6 h8 h7,e=>.sl k xs full b off cap c E fr h1 h2 h3 h4 h5 h6 h8 (Aq.noY h7 (Rs xs (by simpa[PV.hasY] using e)))
 | .ptr cs o b off c E fr h1 h2 h3 h4 h8 h5,e=>.ptr cs o b off c E fr h1 h2 h3 h4 h8 (h5.noY (by simpa[PV.hasY] using e))
 | .agg cs vs h1 h,e=>.agg cs vs h1 (h.noY (by simpa[PV.hasY] using e))
 | .iface t x v h,e=>.iface t x v (h.noY (by simpa[PV.hasY] using e))
 | .fn f cs us vs hk h,e=>.fn f cs us vs hk (h.noY (by simpa[PV.hasY] using e))
 | .yld d l h,e=>by simp[PV.hasY] at e
 | .tup xs vs h,e=>.tup xs vs (h.noY (by simpa[PV.hasY] using e))
 | .imap es r ents clock h1 h2 h3,e=>.imap es r ents clock h1 h2 (h3.noY (by simpa[PV.hasY] using e))
 | .glob g t x c E fr h1 h2 h3,e=>.glob g t x c E fr h1 h2 h3
 | .ref nm o b C h,_=>.ref nm o b C h
 | .aref nm k i o b C h,_=>.aref nm k i o b C h
 | .arr nm k o n cap b C h hC hn,_=>.arr nm k o n cap b C h hC hn
 | .arrN nm k h,_=>.arrN nm k h
 | .mp nm b C h,_=>.mp nm b C h
 | .it nm b C h,_=>.it nm b C h
theorem Aq.noY {L:Option AF} {xs:List PV} {vs:List Value}:Aq w I lp L xs vs->BI xs=false->Aq w I lp' L xs vs
 | .nil,_=>.nil
 | .cons x v xs vs h hs,e=>.cons x v xs vs (h.noY (by simpa[BI] using (bD.1 e).1)) (hs.noY (bD.1 e).2)
theorem Rs:∀ (xs:List PV),BI xs=false->BI (cellsL xs)=false
 | [],_=>rfl
 | x :: xs,e=>by
  have h:=bD.1 e
  have hx:BI x.cells=false:=by
   cases x<;>simp_all [PV.cells,BI,PV.hasY]
  have hs:=Rs xs h.2
  have happ:∀ (ys zs:List PV),BI ys=false->BI zs=false->BI (ys++zs)=false:=by
   intro ys;induction ys with
   | nil=>intro zs _ hz;exact hz
   | cons y ys ih =>
    intro zs hy hz;have h:=bD.1 hy;exact bD.2 ⟨h.1,ih zs h.2 hz⟩
  exact happ _ _ hx hs
end
mutual
theorem Aw.free {L:Option AF} {x:PV} {v:Value}:Aw w I lp L x v->x.free=true->Aw w' I' lp L x v
 | .undef v,_=>.undef v
 | .bool b,_=>.bool b
 | .int k n,_=>.int k n
 | .str s,_=>.str s
 | .nilS,_=>.nilS
 | .nilP,_=>.nilP
 | .nilF,_=>.nilF
 | .nilI,_=>.nilI
 | .nilM,_=>.nilM
 | .slE k full a cap hf,e=>by simp[PV.free] at e
 | .sl k xs full b off cap c E fr h1 h2 h3 h4 h5 h6 h8 h7,e=>by simp[PV.free] at e
 | .ptr cs o b off c E fr h1 h2 h3 h4 h8 h5,e=>by simp[PV.free] at e
 | .agg cs vs h1 h,e=>.agg cs vs h1 (h.free (by simpa[PV.free] using e))
 | .iface t x v h,e=>.iface t x v (h.free (by simpa[PV.free] using e))
 | .fn f cs us vs hk h,e=>.fn f cs us vs hk (h.free (by simpa[PV.free] using e))
 | .yld d l h,_=>.yld d l h
 | .tup xs vs h,e=>.tup xs vs (h.free (by simpa[PV.free] using e))
 | .imap es r ents clock h1 h2 h3,e=>by simp[PV.free] at e
 | .glob g t x c E fr h1 h2 h3,e=>by simp[PV.free] at e
 | .ref nm o b C h,_=>.ref nm o b C h
 | .aref nm k i o b C h,_=>.aref nm k i o b C h
 | .arr nm k o n cap b C h hC hn,_=>.arr nm k o n cap b C h hC hn
 | .arrN nm k h,_=>.arrN nm k h
 | .mp nm b C h,_=>.mp nm b C h
 | .it nm b C h,_=>.it nm b C h
theorem Aq.free {L:Option AF} {xs:List PV} {vs:List Value}:Aq w I lp L xs vs->Fm xs=true->Aq w' I' lp L xs vs
 | .nil,_=>.nil
 | .cons x v xs vs h hs,e=>.cons x v xs vs (h.free (by simpa[Fm] using (cc.1 e).1)) (hs.free (cc.1 e).2)
end
theorem XY:∀ (ys zs:List PV),Fm ys=true->Fm zs=true->Fm (ys++zs)=true:=by
 intro ys;induction ys with
 | nil=>intro zs _ hz;exact hz
 | cons y ys ih =>
  intro zs hy hz;have h:=cc.1 hy;exact cc.2 ⟨h.1,ih zs h.2 hz⟩
theorem XX:∀ (xs:List PV),Fm xs=true->Fm (cellsL xs)=true:=by
 intro xs;induction xs with
 | nil=>intro _;rfl
 | cons x xs ih =>
  intro e;have h:=cc.1 e;refine XY _ _ ?_ (ih h.2);have hx:=h.1;cases x<;>simp_all [PV.cells,Fm,PV.free]
theorem BF.free {L:AF} {ob:Ob} {p:Option (Nat×Nat)} (h:BF w I lp L ob p) (hf:ob.free=true):BF w I' lp L ob p:=by
 cases p with
 | none=>exact h
 | some p =>
  cases ob with
  | cells ty cs=>obtain⟨c,E,h1,h2,h4,h3⟩:=h;exact⟨c,E,h1,h2,h4,h3.free hf⟩
  | arr k kt xs=>obtain⟨c,E,h1,h2,h3,h4,h6,h5⟩:=h;exact⟨c,E,h1,h2,h3,h4,h6,h5.free (XX _ hf)⟩
  | map es=>obtain⟨c,E,h1,h2⟩:=h;exact⟨c,E,h1,h2.free hf⟩
  | siter s pos=>exact h
end yl
theorem BF.ofArr {w:World} {I:Nat->Prop} {lp:Nat->Option Nat} {L L':AF} {ob:Ob} {p:Option (Nat×Nat)} (h:BF w I lp L ob p) (ha:J6 ob=true):BF w I lp L' ob p:=by
 cases ob<;>simp[J6] at ha;cases p<;>exact h
theorem Sj {α:Type} {l:List α} {d:Nat} {x:α} (h:l[d]?=some x):l.set d x=l:=by
 apply aO;intro i;by_cases hi:i=d
 ·subst hi;rw[bH (ac.1 h).1,h]
 ·rw[aB (aH hi)]
def Ov (ps:List (Option (Nat×Nat))):AF:=Cr (fun _=>none) 0 ps
structure Mg {E:Type} (cx:Cx) (R:BV E) (lp:Nat->Option Nat) (I F:Nat->Prop) (w:World) (r:PV) (obs:List Ob) (e:E) (v:Value) (w':World) (I' F':Nat->Prop) (ps:List (Option (Nat×Nat))):Prop where
 ext:Cf I F w I' F' w'
 sep:IF I' F' w'
 wd:cx.Wd I' w'
 re:R.rel e I' F' w'
 len:ps.length=obs.length
 ob:∀ (j:Nat) (ob:Ob) (p:Option (Nat×Nat)),obs[j]?=some ob->ps[j]?=some p->BF w' I' lp (Ov ps) ob p
 new:∀ (j b C:Nat),ps[j]?=some (some (b,C))->w.heap.size<=b/\b < w'.heap.size/\¬ I' b/\¬ F' b
 inj:∀ (j j' b C C':Nat),ps[j]?=some (some (b,C))->ps[j']?=some (some (b,C'))->j=j'
 rep:Aw w' I' lp (some (Ov ps)) r v
 arr:obs.all J6=true
def WH {E:Type} (cx:Cx) (R:BV E) (lp:Nat->Option Nat) (I F:Nat->Prop) (w:World) (r:PV) (obs:List Ob) (e:E):Ending->World->Prop
 | .returned v,w'=>∃ I' F' ps,Mg cx R lp I F w r obs e v w' I' F' ps
 | _,_=>False
def Qh {E:Type} (cx:Cx) (lp:Nat->Option Nat) (R:BV E) (Ir Fr_:Nat->Prop) (wr:World) (h:Ay E):Prop :=
 ∀ (d:Nat) (args:List PV) (e:E) (b:Bool) (e':E) (l:Nat),h d args e=some (b,e')->lp d=some l ->
  ∀ (vs:List Value) (I F:Nat->Prop) (w:World),Aq w I (fun _=>none) none args vs->Cf Ir Fr_ wr I F w->IF I F w->cx.Wd I w->R.rel e I F w ->
  YieldAt Fence.wide 0 cx.P l vs.toArray w fun
   | .returned v,w'=>v=.bool b/\∃ I' F',Cf I F w I' F' w'/\IF I' F' w'/\cx.Wd I' w'/\R.rel e' I' F' w'
   | _,_=>False
def CT (P:Program) (g:FuncId):Prop:=∃ fn,P.funcs[g]?=some fn/\(fn.name == "runtime.NumGoroutine")=false/\fn.body.isSome=true
def EP (cx:Cx) (call:Ht):Prop :=
 ∀ (E:Type) (h:Ay E) (R:BV E) (dep:Nat) (lp:Nat->Option Nat) (Ir Fr_:Nat->Prop) (wr:World) (g:FuncId) (args:List PV) (e:E) (r:PV) (obs:List Ob) (e':E),
  call E h dep g args e=some (r,obs,e')->Qh cx lp R Ir Fr_ wr h->(∀ d l,lp d=some l->d < dep) ->
  CT cx.P g/\∀ (I F:Nat->Prop) (w:World) (vs:List Value),Cf Ir Fr_ wr I F w->IF I F w->cx.Wd I w->R.rel e I F w->Aq w I lp none args vs ->
   CallsIn Fence.wide 0 cx.P g vs.toArray w (WH cx R lp I F w r obs e')
def FQ (tmv:List Value) (dst:Option Nat) (v:Value):List Value :=
 match dst with
 | some d=>tmv.set d v
 | none=>tmv
def SpRet (cx:Cx) (g:FuncId) (st:St) (vs:List PV) (out:AO):Prop :=
  ∀ (E:Type) (w0:World) (I0 F0:Nat->Prop) (O0:B9) (Hd:Nat->Option Obj) (R:BV E) (e:E) (ds:List Deferred) (I F:Nat->Prop) (lp:Nat->Option Nat) (L:AF) (tmv suf us:List Value) (w:World) (dst:Option Nat),
   SR lp I L st tmv suf w->Fr cx w0 I0 F0 O0 Hd R e ds I F L w->Aq w I lp (some L) vs us->(∀ d,dst=some d->st.objs[d]?=some []) ->
   ∃ v w',(callFunc g us.toArray).run cx.P w=.ok (.value v) w'/\∃ I' L',SR lp I' L' (apply st dst {out with v:=out.v.ren (E6 (dst.getD 0))}) (FQ tmv dst v) suf w'/\Fr cx w0 I0 F0 O0 Hd R e ds I' F L' w'
def SpOK (cx:Cx) (sp:FuncId->(Nm->Option Ob)->List PV->Option AO):Prop :=
 ∀ (g:FuncId) (st:St) (vs:List PV) (out:AO),sp g (Ak st.objs) vs=some out->SpRet cx g st vs out\/CT cx.P g /\
  ∀ (E:Type) (w0:World) (I0 F0:Nat->Prop) (O0:B9) (Hd:Nat->Option Obj) (R:BV E) (e:E) (ds:List Deferred) (I F:Nat->Prop) (lp:Nat->Option Nat) (L:AF) (tmv suf us:List Value) (w:World) (dst:Option Nat),
   SR lp I L st tmv suf w->Fr cx w0 I0 F0 O0 Hd R e ds I F L w->Aq w I lp (some L) vs us->(∀ d,dst=some d->st.objs[d]?=some []) ->
   CallsIn Fence.wide 0 cx.P g us.toArray w fun
    | .returned v,w'=>∃ I' L',SR lp I' L' (apply st dst {out with v:=out.v.ren (E6 (dst.getD 0))}) (FQ tmv dst v) suf w'/\Fr cx w0 I0 F0 O0 Hd R e ds I' F L' w'
    | _,_=>False
def IoOK (cx:Cx) (io:FuncId->Nat->(Nm->Option Ob)->List PV->Option AO):Prop :=
 ∀ (g:FuncId) (d0:Nat) (st:St) (vs:List PV) (out:AO),io g d0 (Ak st.objs) vs=some out->CT cx.P g /\
  ∀ (E:Type) (w0:World) (I0 F0:Nat->Prop) (O0:B9) (Hd:Nat->Option Obj) (R:BV E) (e:E) (ds:List Deferred) (I F:Nat->Prop) (lp:Nat->Option Nat) (L:AF) (tmv suf us:List Value) (w:World) (dst:Option Nat),
   SR lp I L st tmv suf w->Fr cx w0 I0 F0 O0 Hd R e ds I F L w->Aq w I lp (some L) vs us->(∀ d,dst=some d->d=d0/\st.objs[d]?=some [])->(dst=none->out.new=[]\/out.slot.isSome=true) ->
   CallsIn Fence.wide 0 cx.P g us.toArray w fun
    | .returned v,w'=>∃ I' L',SR lp I' L' (apply st dst out) (FQ tmv dst v) suf w'/\Fr cx w0 I0 F0 O0 Hd R e ds I' F L' w'
    | _,_=>False
structure MSp (cx:Cx) (M:Bf):Prop where
 sp:SpOK cx M.sp
 io:IoOK cx M.io
 flag:∀ g d σ vs out,M.io g d σ vs=some out->out.io=true
section frames
variable {E:Type} {cx:Cx} {w0:World} {I0 F0:Nat->Prop} {O0:B9} {Hd:Nat->Option Obj} {R:BV E} {e e':E} {ds:List Deferred} {F F':Nat->Prop} {lp:Nat->Option Nat} {suf tmv:List Value}
variable {I I':Nat->Prop} {L:AF} {st:St} {a:Act} {w w':World} {o:Oper}
theorem Fr.offI (hf:Fr cx w0 I0 F0 O0 Hd R e ds I F L w) (hx:Cf I F w I' F' w') {b:Nat} (h1:b < w.heap.size) (h2:¬ I b) (h3:¬ F b):¬ I' b/\¬ F' b/\w'.heap[b]?=w.heap[b]? :=
 ⟨fun h=>by rcases hx.newI b h with h | h | h<;>first | exact h2 h | exact h3 h | omega,
  fun h=>by rcases hx.newF b h with h | h<;>first | exact h3 h | omega,hx.keep b h1 h3⟩
theorem Fr.called (hf:Fr cx w0 I0 F0 O0 Hd R e ds I F L w) (hx:Cf I F w I' F' w') (hi:IF I' F' w') (hw:cx.Wd I' w') (hr:R.rel e' I' F' w'):Fr cx w0 I0 F0 O0 Hd R e' ds I' F' L w' where
 ext:=hf.ext.trans hx
 sep:=hi
 oF:=hf.oF
 lB nm b C hn:=by
  obtain⟨h1,h2,h3,h4⟩:=hf.lB nm b C hn;obtain⟨g1,g2,_⟩:=hf.offI hx h2 h3 h4;have:=hx.size;exact⟨h1,by omega,g1,g2⟩
 inj:=hf.inj
 wd:=hw
 re:=hr
 mks:=hf.mks.move hx.size fun D d1 d2 d3 d4 d5=>by
  obtain⟨g1,g2,g3⟩:=hf.offI hx d1 d3 d4;exact⟨g3,g1,g2,d5⟩
 hld b ob hb:=by
  obtain⟨d1,d2,d3,d4,d5⟩:=hf.hld b ob hb;obtain⟨g1,g2,g3⟩:=hf.offI hx d1 d2 d3;have:=hx.size;exact⟨by omega,g1,g2,d4,g3.trans d5⟩
theorem SR.called (hs:SR lp I L st tmv suf w) (hf:Fr cx w0 I0 F0 O0 Hd R e ds I F L w) (hx:Cf I F w I' F' w'):SR lp I' L st tmv suf w' :=
 hs.keeps hx.subI (fun b hb=>hx.sameI hf.sep b hb) fun nm b C hn=>(hf.offI hx (hf.lB nm b C hn).2.1 (hf.lB nm b C hn).2.2.1 (hf.lB nm b C hn).2.2.2).2.2
theorem Fr.place (hf:Fr cx w0 I0 F0 O0 Hd R e ds I F L w) {n0:Nat} (hn0:w0.heap.size<=n0) {d:Nat} {ps:List (Option (Nat×Nat))} (hp:∀ (j b C:Nat),ps[j]?=some (some (b,C))->n0<=b/\b < w.heap.size/\¬ I b/\¬ F b)
  (hL:∀ nm b C,L nm=some (some (b,C))->b < n0) (hm:∀ D,D∈ds.map (·.target)->∀ b,D=.collected b->b < n0) (hh:∀ b ob,Hd b=some ob->b < n0)
  (hi:∀ (j j' b C C':Nat),ps[j]?=some (some (b,C))->ps[j']?=some (some (b,C'))->j=j'):Fr cx w0 I0 F0 O0 Hd R e ds I F (Cr L d ps) w where
 ext:=hf.ext
 sep:=hf.sep
 oF:=hf.oF
 lB nm b C hn:=by
  unfold Cr at hn;split at hn
  ·obtain⟨h1,h2,h3,h4⟩:=hp _ _ _ hn;exact⟨.inl (by omega),h2,h3,h4⟩
  ·exact hf.lB nm b C hn
 inj nm nm' b C C' hn hn':=by
  unfold Cr at hn hn';split at hn<;>split at hn'
  ·rename_i e1 e2;exact Prod.ext (e1.trans e2.symm) (hi _ _ _ _ _ hn hn')
  ·have:=hp _ _ _ hn;have:=hL nm' b C' hn';omega
  ·have:=hp _ _ _ hn';have:=hL nm b C hn;omega
  ·exact hf.inj nm nm' b C C' hn hn'
 wd:=hf.wd
 re:=hf.re
 mks:=by
  have key:∀ ds rs,DC w0.heap.size I F L w ds rs->(∀ D,D∈ds.map (·.target)->∀ b,D=.collected b->b < n0)->DC w0.heap.size I F (Cr L d ps) w ds rs:=by
   intro ds rs h;induction h with
   | nil=>intro _;exact .nil
   | call d' ds rs hd _ ih=>intro hm;exact .call d' ds rs hd (ih fun D' hD' b hb=>hm D' (by simp at hD' |-;exact .inr hD') b hb)
   | cons D ds rs h1 h2 h3 h4 h5 h6 h7 _ ih =>
    intro hm;refine .cons D ds rs h1 h2 h3 h4 (fun nm C hn=>?_) h6 h7 (ih fun D' hD' b hb=>hm D' (by simp at hD' |-;exact .inr hD') b hb);unfold Cr at hn;split at hn
    ·have h1:=(hp _ _ _ hn).1;have h2:=hm (.collected D) (by simp) D rfl;omega
    ·exact h5 nm C hn
  exact key ds _ hf.mks hm
 hld b ob hb:=by
  obtain⟨d1,d2,d3,d4,d5⟩:=hf.hld b ob hb;refine⟨d1,d2,d3,fun nm C hn=>?_,d5⟩;unfold Cr at hn;split at hn;·have:=(hp _ _ _ hn).1;have:=hh b ob hb;omega
  ·exact d4 nm C hn
theorem DC.lt {lo:Nat} {I F:Nat->Prop} {L:AF} {w:World} {ds rs:List Deferred} (h:DC lo I F L w ds rs):∀ D,D∈ds.map (·.target)->∀ b,D=.collected b->b < w.heap.size:=by
 induction h with
 | nil=>intro D hD;simp at hD
 | call d ds rs hd _ ih =>
  intro D' hD' b hb;simp only[ZZ,Z7] at hD';rcases hD' with rfl | hD';·exact absurd hb (hd b)
  ·exact ih D' hD' b hb
 | cons D ds rs h1 h2 h3 h4 h5 h6 h7 _ ih =>
  intro D' hD' b hb;simp only[ZZ,Z7] at hD';rcases hD' with rfl | hD';·cases hb;exact h2
  ·exact ih D' hD' b hb
theorem taken (hs:SR lp I L st a.tmps.toList suf w) (hf:Fr cx w0 I0 F0 O0 Hd R e ds I F L w) {r:PV} {obs:List Ob} {v:Value} {ps:List (Option (Nat×Nat))} (hc:Mg cx R lp I F w r obs e' v w' I' F' ps)
  (hd:∀ d,o.dst=some d->st.objs[d]?=some []) :
  ∃ L',SR lp I' L' (apply st o.dst {v:=r.ren (E6 (o.dst.getD 0)),new:=obs}) (a.put o.dst v).tmps.toList suf w'/\Fr cx w0 I0 F0 O0 Hd R e' ds I' F' L' w':=by
 have hs1:=hs.called hf hc.ext;have hf1:=hf.called hc.ext hc.sep hc.wd hc.re;rw[H8];cases hdst:o.dst with
 | none=>exact⟨L,hs1,hf1⟩
 | some d =>
  have hcl:=hd d hdst;have hlt:∀ nm b C,L nm=some (some (b,C))->b < w.heap.size:=fun nm b C hn=>(hf.lB nm b C hn).2.1
  have hren:∀ nm p,Ov ps nm=some p->Cr L d ps (E6 d nm)=some p:=by
   intro nm p hp;unfold Ov Cr at hp;unfold Cr E6;split at hp;·simpa using hp
   ·cases hp
  refine⟨Cr L d ps,?_,hf1.place (n0:=w.heap.size) hf.ext.size hc.new hlt (hf.mks.lt) (fun b ob hb=>(hf.hld b ob hb).1) hc.inj⟩;have hnew:=hs1.news hcl obs ps hc.len fun j ob p h1 h2=>(hc.ob j ob p h1 h2).ofArr (an.1 hc.arr ob (aj h1))
  have hset:(if obs.isEmpty then st.objs else st.objs.set d obs)=st.objs.set d obs:=by
   split
   ·rename_i he;rw[aY] at he;subst he;exact (Sj hcl).symm
   ·rfl
  show SR lp I' (Cr L d ps) {tmps:=st.tmps.set d (r.ren (E6 d)),objs:=if obs.isEmpty then st.objs else st.objs.set d obs,keep:=st.keep} (a.tmps.toList.set d v) suf w';rw[hset];exact hnew.put d (hc.rep.rename hren)
def Oo (cx:Cx) (w0:World) (I0 F0:Nat->Prop) (O0:B9) (Hd:Nat->Option Obj) (R:BV E) (lp:Nat->Option Nat) (suf:List Value) (o:Oper) (a:Act) (w:World) (st':St) (e':E):Prop :=
 ∀ (ro:Option Nat) (next:Act->World->Prop) (Q:Exit->Act->World->Prop),
  (∀ v' w' I' F' L',SR lp I' L' st' (a.put o.dst v').tmps.toList suf w'->Fr cx w0 I0 F0 O0 Hd R e' a.defers I' F' L' w'->next (a.put o.dst v') w')->o.wpIn (Ee ro) 0 cx.P a w next Q
theorem wp_of {ro:Option Nat} {next:Act->World->Prop} {Q:Exit->Act->World->Prop} (hnd:∀ c,o.op≠.defer c) (h:o.uponIn (Ee ro) 0 cx.P a next Q ((execOp a.eval o).run cx.P w)):o.wpIn (Ee ro) 0 cx.P a w next Q :=
 ⟨fun _ _=>trivial,by rw[Oper.semAt_plain _ _ _ hnd];exact h⟩
theorem U0 (hnd:∀ c,o.op≠.defer c) {st':St} (h:BA cx w0 I0 F0 O0 Hd R e a.defers F lp suf o a w st'):Oo cx w0 I0 F0 O0 Hd R lp suf o a w st' e:=by
 intro ro next Q hK;obtain⟨v',w',I',L',hr,hs,hf⟩:=h;refine wp_of hnd ?_;rcases hr with hr | ⟨hr,rfl⟩;·rw[hr];exact hK v' w' I' F L' hs hf
 ·rw[hr];exact hK undef w' I' F L' hs hf
theorem run_enter {c:Call} {f:Operand} (ho:o.op=.call c) (hcal:c.callee=.value f) {g:FuncId} {fst caps:Array Value} (hv:a.eval f=.func (.func g) fst caps) (he:CT cx.P g) :
  (execOp a.eval o).run cx.P w=.ok (.enter g (fst++(c.args.map a.eval)++caps)) w:=by
 obtain⟨fn,hfn,hname,hbody⟩:=he;have hb:¬ fn.body=none:=by intro h;rw[h] at hbody;cases hbody
 have hname:¬ fn.name = "runtime.NumGoroutine":=by intro h;rw[h] at hname;simp at hname
 simp[execOp,ho,resolve,hcal,hv,Deferred.ofValue,invoke,callFunc,hfn,hname,hb]
theorem run_value {c:Call} {f:Operand} (ho:o.op=.call c) (hcal:c.callee=.value f) {g:FuncId} {fst caps:Array Value} (hv:a.eval f=.func (.func g) fst caps) :
  (execOp a.eval o).run cx.P w=(callFunc g (fst++(c.args.map a.eval)++caps)).run cx.P w:=by
 simp[execOp,ho,resolve,hcal,hv,Deferred.ofValue,invoke]
theorem Y3 {c:Call} {f:Operand} (ho:o.op=.call c) (hcal:c.callee=.value f) {l:Nat} (hv:a.eval f=.func (.yield l) #[] #[]) {x:Next} {w':World} (hy:(Instr.yield l (c.args.map a.eval)).run cx.P w=.ok x w') :
  (execOp a.eval o).run cx.P w=.ok x w':=by
 simp[execOp,ho,resolve,hcal,hv,Deferred.ofValue,invoke,hy]
theorem CallsIn.mono' {F:Fence} {n:Nat} {P:Program} {f:FuncId} {args:Array Value} {w:World} {R R':Ending->World->Prop} (h:CallsIn F n P f args w R) (hr:∀ e w',R e w'->R' e w'):CallsIn F n P f args w R' :=
 ⟨h.1,fun cs hroom=>let ⟨e,w',fr,r,s,x⟩:=h.2 cs hroom;⟨e,w',fr,hr _ _ r,s,x⟩⟩
theorem LE {c:Call} {f:Operand} (ho:o.op=.call c) (hcal:c.callee=.value f) {g:FuncId} {fst caps:Array Value} (hv:a.eval f=.func (.func g) fst caps) (he:CT cx.P g) {st':St}
  (h:CallsIn Fence.wide 0 cx.P g (fst++(c.args.map a.eval)++caps) w fun
   | .returned v,w'=>∃ I' F' L',SR lp I' L' st' (a.put o.dst v).tmps.toList suf w'/\Fr cx w0 I0 F0 O0 Hd R e' a.defers I' F' L' w'
   | _,_=>False):Oo cx w0 I0 F0 O0 Hd R lp suf o a w st' e':=by
 intro ro next Q hK;refine wp_of (fun c' e=>by rw[ho] at e;cases e) ?_;rw[run_enter ho hcal hv he,Oper.uponIn_enter];refine⟨fun h=>by simp[Ee] at h,Uc (CallsIn.mono' h fun e w' hr=>?_)⟩;cases e with
 | returned v=>obtain⟨I',F',L',h1,h2⟩:=hr;exact hK v w' I' F' L' h1 h2
 | panicked chain=>exact hr.elim
 | outgrown=>exact hr.elim
theorem Uj {c:Call} {f:Operand} (ho:o.op=.call c) (hcal:c.callee=.value f) {l:Nat} (hv:a.eval f=.func (.yield l) #[] #[]) {st':St}
  (h:YieldAt Fence.wide 0 cx.P l (c.args.map a.eval) w fun
   | .returned v,w'=>∃ I' F' L',SR lp I' L' st' (a.put o.dst v).tmps.toList suf w'/\Fr cx w0 I0 F0 O0 Hd R e' a.defers I' F' L' w'
   | _,_=>False):Oo cx w0 I0 F0 O0 Hd R lp suf o a w st' e':=by
 intro ro next Q hK;refine wp_of (fun c' e=>by rw[ho] at e;cases e) ?_;obtain⟨fn,tmps,assign,body,hy,hround⟩:=h;rw[Y3 ho hcal hv hy,Oper.uponIn_round];refine⟨fun h=>by simp[Ee] at h,Yb (RoundIn.mono hround fun e w' hr=>?_)⟩;cases e with
 | returned v=>obtain⟨I',F',L',h1,h2⟩:=hr;exact hK v w' I' F' L' h1 h2
 | panicked chain=>exact hr.elim
 | outgrown=>exact hr.elim
def Eu:BV Unit:=⟨fun _ _ _ _=>True,fun _ _ _ _ _ _ _ _ _ _=>trivial⟩
theorem Pe (cx:Cx) (lp:Nat->Option Nat) (Ir Fr_:Nat->Prop) (wr:World):Qh cx lp Eu Ir Fr_ wr AP:=by
 intro d args e b e' l h;simp[AP] at h
theorem UR {M:Bf} (hM:EP cx M.call) (hs:SR lp I L st a.tmps.toList suf w) (hf:Fr cx w0 I0 F0 O0 Hd R e ds I F L w) {g:FuncId} {vs:List PV} {us:List Value} {I1:Nat->Prop} (hI1:IF I1 (fun _=>False) w) (hw1:cx.Wd I1 w)
  (hrep:Aq w I1 lp none vs us) (hy:BI vs=false) {r:PV} {obs:List Ob} (hc:M.call Unit AP 0 g vs ()=some (r,obs,())) :
  CT cx.P g/\CallsIn Fence.wide 0 cx.P g us.toArray w fun
   | .returned v,w'=>∃ I' F' ps,Mg cx Eu lp I1 (fun _=>False) w r obs () v w' I' F' ps
   | _,_=>False:=by
 obtain⟨h1,h2⟩:=hM Unit AP Eu 0 (fun _=>none) I1 (fun _=>False) w g vs () r obs () hc (Pe cx _ _ _ _) (fun d l h=>by cases h);refine⟨h1,CallsIn.mono' (h2 I1 (fun _=>False) w us (Cf.refl _ _ _) hI1 hw1 trivial (hrep.noY hy)) fun e w' hr=>?_⟩;cases e with
 | returned v =>
  obtain⟨I',F',ps,hce⟩:=hr;have hl:lpLe (fun _=>none) lp:=fun d l h=>by cases h
  exact⟨I',F',ps,hce.ext,hce.sep,hce.wd,hce.re,hce.len,fun j ob p h1 h2=>(hce.ob j ob p h1 h2).mono (fun _ h=>h) (fun _ _=>rfl) hl (fun _ _ _=>rfl),hce.new,hce.inj,Aw.mono (fun _ h=>h) (fun _ _=>rfl) hl hce.rep,hce.arr⟩
 | panicked chain=>exact hr.elim
 | outgrown=>exact hr.elim
theorem Fr.quiet (hf:Fr cx w0 I0 F0 O0 Hd R e ds I F L w) {F2:Nat->Prop} (hx:Cf I (fun _=>False) w I' F2 w') (hi:∀ b,I' b->b < w'.heap.size) (hw:cx.Wd I' w'):Cf I F w I' F w'/\IF I' F w'/\R.rel e I' F w':=by
 have hk:∀ b,b < w.heap.size->w'.heap[b]?=w.heap[b]?:=fun b hb=>hx.keep b hb fun h=>h;refine⟨⟨hx.os,hx.tape,hx.output,hx.size,fun b hb _=>hk b hb,hx.subI,fun b hb=>?_,fun b hb=>.inl hb⟩,⟨hi,fun b hb=>⟨bh (hf.sep.fB b hb).1 hx.size,fun h=>?_⟩⟩,?_⟩
 ·rcases hx.newI b hb with h | h | h;·exact .inl h
  ·exact h.elim
  ·exact .inr (.inr h)
 ·rcases hx.newI b h with h | h | h;·exact (hf.sep.fB b hb).2 h
  ·exact h
  ·have:=(hf.sep.fB b hb).1;omega
 ·refine R.stab e I I' F w w' hf.re hx.subI (fun b hb=>hk b ?_) hx.size;rcases hb with hb | hb;·exact hf.sep.iB b hb
  ·exact (hf.sep.fB b hb).1
theorem UL {M:Bf} (hM:EP cx M.call) (hs:SR lp I L st a.tmps.toList suf w) (hf:Fr cx w0 I0 F0 O0 Hd R e a.defers I F L w) {c:Call} {f:Operand} (ho:o.op=.call c) (hcal:c.callee=.value f) {g:FuncId} {fst caps:Array Value}
  (hv:a.eval f=.func (.func g) fst caps) {vs:List PV} (hrep:Aq w I lp none vs (fst++(c.args.map a.eval)++caps).toList) (hy:BI vs=false) {r:PV} {obs:List Ob} (hc:M.call Unit AP 0 g vs ()=some (r,obs,()))
  (hd:∀ d,o.dst=some d->st.objs[d]?=some []) :
  CT cx.P g/\CallsIn Fence.wide 0 cx.P g (fst++(c.args.map a.eval)++caps) w fun
   | .returned v,w'=>∃ I' F' L',SR lp I' L' (apply st o.dst {v:=r.ren (E6 (o.dst.getD 0)),new:=obs}) (a.put o.dst v).tmps.toList suf w'/\Fr cx w0 I0 F0 O0 Hd R e a.defers I' F' L' w'
   | _,_=>False:=by
 obtain⟨h1,h2⟩:=UR hM hs hf (I1:=I) ⟨hf.sep.iB,fun b hb=>hb.elim⟩ hf.wd hrep hy hc;rw[bt] at h2;refine⟨h1,CallsIn.mono' h2 fun en w' hr=>?_⟩;cases en with
 | returned v =>
  obtain⟨I',F2,ps,hce⟩:=hr;obtain⟨q1,q2,q3⟩:=hf.quiet hce.ext (fun b hb=>hce.sep.iB b hb) hce.wd
  have hce2:Mg cx R lp I F w r obs e v w' I' F ps:=⟨q1,q2,hce.wd,q3,hce.len,hce.ob,fun j b C hj=>by
   obtain⟨n1,n2,n3,n4⟩:=hce.new j b C hj;exact⟨n1,n2,n3,fun hb=>by have:=(hf.sep.fB b hb).1;omega⟩,hce.inj,hce.rep,hce.arr⟩
  obtain⟨L',g1,g2⟩:=taken hs hf hce2 hd;exact⟨I',F,L',g1,g2⟩
 | panicked chain=>exact hr.elim
 | outgrown=>exact hr.elim
theorem done_free {M:Bf} (hM:EP cx M.call) (hs:SR lp I L st a.tmps.toList suf w) (hf:Fr cx w0 I0 F0 O0 Hd R e a.defers I F L w) {c:Call} {f:Operand} {Rn:List Nm} (ho:o.op=.call c) (hcal:c.callee=.value f) {g:FuncId} {fst caps:Array Value}
  (hv:a.eval f=.func (.func g) fst caps) {vs:List PV} (hrep:Aq w (inR I L Rn) lp none vs (fst++(c.args.map a.eval)++caps).toList) (hy:BI vs=false) {r:PV} {obs:List Ob} (hc:M.call Unit AP 0 g vs ()=some (r,obs,()))
  (hfr:r.free=true) (hfo:obs.all Ob.free=true) (hd:∀ d,o.dst=some d->st.objs[d]?=some []) :
  CT cx.P g/\CallsIn Fence.wide 0 cx.P g (fst++(c.args.map a.eval)++caps) w fun
   | .returned v,w'=>∃ I' F' L',SR lp I' L' (apply st o.dst {v:=r.ren (E6 (o.dst.getD 0)),new:=obs}) (a.put o.dst v).tmps.toList suf w'/\Fr cx w0 I0 F0 O0 Hd R e a.defers I' F' L' w'
   | _,_=>False:=by
 have hf2:=hf.freeze Rn;obtain⟨h1,h2⟩:=UR hM hs hf (I1:=inR I L Rn) ⟨hf2.sep.iB,fun b hb=>hb.elim⟩ hf2.wd hrep hy hc;rw[bt] at h2;refine⟨h1,CallsIn.mono' h2 fun en w' hr=>?_⟩;cases en with
 | returned v =>
  obtain⟨I',F2,ps,hce⟩:=hr;have hk:∀ b,b < w.heap.size->w'.heap[b]?=w.heap[b]?:=fun b hb=>hce.ext.keep b hb fun h=>h;have hIk:∀ b,I b->w'.heap[b]?=w.heap[b]?:=fun b hb=>hk b (hf.sep.iB b hb);have hwd:cx.Wd I w':=cx.stab I I w w' hf.wd (fun _ h=>h) hIk hce.ext.size;have hext:Cf I (fun _=>False) w I (fun _=>False) w':=⟨hce.ext.os,hce.ext.tape,hce.ext.output,hce.ext.size,fun b hb _=>hk b hb,fun _ h=>h,fun _ h=>.inl h,fun _ h=>h.elim⟩;obtain⟨q1,q2,q3⟩:=hf.quiet hext (fun b hb=>bh (hf.sep.iB b hb) hce.ext.size) hwd
  have hce2:Mg cx R lp I F w r obs e v w' I F ps:=⟨q1,q2,hwd,q3,hce.len,fun j ob p hj hp=>(hce.ob j ob p hj hp).free (an.1 hfo ob (aj hj)),fun j b C hj=>by
   obtain⟨n1,n2,n3,n4⟩:=hce.new j b C hj;exact⟨n1,n2,fun hb=>by have:=hf.sep.iB b hb;omega,fun hb=>by have:=(hf.sep.fB b hb).1;omega⟩,hce.inj,hce.rep.free hfr,hce.arr⟩
  obtain⟨L',g1,g2⟩:=taken hs hf hce2 hd;exact⟨I,F,L',g1,g2⟩
 | panicked chain=>exact hr.elim
 | outgrown=>exact hr.elim
structure Ref {E:Type} (cx:Cx) (lp:Nat->Option Nat) (R:BV E) (h:Ay E) (dep:Nat) (w0:World) (I0 F0:Nat->Prop):Prop where
 hand:∃ Ir Fr_ wr,Qh cx lp R Ir Fr_ wr h/\Cf Ir Fr_ wr I0 F0 w0
 dep:∀ d l,lp d=some l->d < dep
theorem XV {Rn:List Nm} {d:Nat} (h:st.objs[d]?=some []):(CZ (Ak st.objs) Rn st).objs[d]?=some []:=by
 have key:∀ (R:List Nm) (σ:List (List Ob)),σ[d]?=some []->(R.foldl (fun objs nm=>Bl objs nm Bz) σ)[d]?=some []:=by
  intro R;induction R with
  | nil=>intro σ h;exact h
  | cons r R ih =>
   intro σ h;refine ih _ ?_;show (Bl σ r Bz)[d]?=some [];unfold Bl;split
   ·rename_i l hl;by_cases hrd:r.1=d
    ·rw[hrd] at hl;rw[h] at hl;cases hl;rw[hrd,bH (ac.1 h).1];rfl
    ·rw[aB hrd];exact h
   ·exact h
 refine key _ _ ?_;simp[D7,h]
theorem VP {Rn:List Nm} (hne:Rn≠[]) (dst:Option Nat) (v:PV) (obs:List Ob) :
  apply st dst {v,new:=obs,frz:=Rn}=apply (CZ (Ak st.objs) Rn st) dst {v,new:=obs}:=by
 cases Rn with
 | nil=>exact absurd rfl hne
 | cons r rs=>simp[apply]
theorem VY {S:List Nm} (h:S.isEmpty=false):Bb (Ak st.objs) AW S≠[]:=by
 intro e0;cases S with
 | nil=>simp at h
 | cons m ms =>
  have:m∈Bb (Ak st.objs) AW (m :: ms):=Fd AW _ m aq;rw[e0] at this;cases this
theorem call_done {M:Bf} {h:Ay E} {dep:Nat} (hM:EP cx M.call) (hsp:MSp cx M) (href:Ref cx lp R h dep w0 I0 F0) (hs:SR lp I L st a.tmps.toList suf w) (hf:Fr cx w0 I0 F0 O0 Hd R e a.defers I F L w)
  {c:Call} {fo:Operand} (ho:o.op=.call c) (hcal:c.callee=.value fo) {f:RX} {args:List RX} (h1:rx cx.G fo=some f) (h2:Es cx.G c.args.toList=some args)
  (hd:∀ d,o.dst=some d->st.objs[d]?=some []) {out:AO} (hx:Dr M h dep (o.dst.getD 0) (Ak st.objs) st.tmps f args e=some (out,e')) (hgd:KQ o.dst out=true) :
  Oo cx w0 I0 F0 O0 Hd R lp suf o a w (apply st o.dst out) e':=by
 have hfv:=Bx hs hf.wd h1;have hargs:=PQ hs hf.wd h2;have harr:(c.args.toList.map a.eval).toArray=c.args.map a.eval:=by rw[<-cN,bt]
 unfold Dr at hx;split at hx
 ·rename_i d hr;rw[hr] at hfv;obtain⟨l,hv,hl⟩:=W0 hfv;obtain⟨Ir,Fr_,wr,hand,hxr⟩:=href.hand;simp only at hx;split at hx
  ·rename_i hS;rw[aY] at hS;obtain⟨hy,hx⟩:=Bn hx;split at hx
   ·rename_i b e1 hh;cases hx;refine Uj ho hcal hv ?_;have hy':BI (args.map (RX.ev st.tmps))=false:=by simpa using hy
    have hcl:=(hargs.shut hS).noY (lp':=fun _=>none) hy';have:=hand d _ e b e' l hh hl _ I F w hcl (hxr.trans hf.ext) hf.sep hf.wd hf.re;obtain⟨fn,tmps,assign,body,q1,q2⟩:=this;refine⟨fn,tmps,assign,body,by rw[<-harr];exact q1,RoundIn.mono q2 fun en w' hq=>?_⟩;cases en with
    | returned v =>
     obtain⟨rfl,I',F',p1,p2,p3,p4⟩:=hq;exact⟨I',F',L,(hs.called hf p1).putO o.dst (.bool b),hf.called p1 p2 p3 p4⟩
    | panicked chain=>exact hq.elim
    | outgrown=>exact hq.elim
   ·cases hx
  ·rename_i hS;obtain⟨hk,hx⟩:=Bn hx;simp only[Z2,bC] at hk;split at hx
   ·rename_i b e1 hh;cases hx;have hS:(AR (args.map (RX.ev st.tmps))).isEmpty=false:=by simpa using hS
    have hne:=VY (st:=st) hS;have hcl:=(OH hs hk.2 hargs fun nm hn=>Fd _ _ nm hn).noY (lp':=fun _=>none) hk.1;have hs2:=hs.freeze hk.2;have hf2:=hf.freeze (Bb (Ak st.objs) AW (AR (args.map (RX.ev st.tmps))));refine Uj ho hcal hv ?_;have:=hand d _ e b e' l hh hl _ _ F w hcl (hxr.trans hf2.ext) hf2.sep hf2.wd hf2.re;obtain⟨fn,tmps,assign,body,q1,q2⟩:=this;refine⟨fn,tmps,assign,body,by rw[<-harr];exact q1,RoundIn.mono q2 fun en w' hq=>?_⟩;cases en with
    | returned v =>
     obtain⟨rfl,I',F',p1,p2,p3,p4⟩:=hq;rw[VP hne];exact⟨I',F',_,(hs2.called hf2 p1).putO o.dst (.bool b),hf2.called p1 p2 p3 p4⟩
    | panicked chain=>exact hq.elim
    | outgrown=>exact hq.elim
   ·cases hx
 ·rename_i g cap hr;rw[hr] at hfv;obtain⟨fst,caps,hv,hfk,hcap⟩:=K4 hfv
  have hall:Aq w I lp (some L) (Bt g (args.map (RX.ev st.tmps)) cap) (fst++(c.args.map a.eval)++caps).toList:=by
   simpa[aR] using RJ hfk hcap hargs
  simp only at hx;generalize Bt g (args.map (RX.ev st.tmps)) cap=vall at hx hall;generalize AY g=g0 at hx hv;split at hx
  ·rename_i out1 hspo;cases hx;rcases hsp.sp g0 st _ _ hspo with q2 | ⟨q1,q2⟩
   ·obtain⟨v',w',hrun,I',L',p1,p2⟩:=q2 E w0 I0 F0 O0 Hd R e a.defers I F lp L a.tmps.toList suf _ w o.dst hs hf hall hd;rw[bt] at hrun;exact U0 (fun c' e=>by rw[ho] at e;cases e) ⟨v',w',I',L',.inl (by rw[run_value ho hcal hv];exact hrun),by rw[H8];exact p1,p2⟩
   refine LE ho hcal hv q1 ?_;have:=q2 E w0 I0 F0 O0 Hd R e a.defers I F lp L a.tmps.toList suf _ w o.dst hs hf hall hd;rw[bt] at this;refine CallsIn.mono' this fun en w' hq=>?_;cases en with
   | returned v =>
    obtain⟨I',L',p1,p2⟩:=hq;refine⟨I',F,L',?_,p2⟩;rw[H8];exact p1
   | panicked chain=>exact hq.elim
   | outgrown=>exact hq.elim
  ·rename_i hspo;split at hx
   ·rename_i hio;split at hx
    case h_2=>cases hx
    rename_i out1 hspo;cases hx;obtain⟨q1,q2⟩:=hsp.io g0 _ st _ _ hspo;refine LE ho hcal hv q1 ?_;have hfl:=hsp.flag _ _ _ _ _ hspo
    have:=q2 E w0 I0 F0 O0 Hd R e a.defers I F lp L a.tmps.toList suf _ w o.dst hs hf hall (fun d hd'=>⟨by rw[hd'];rfl,hd d hd'⟩) (fun hn=>by
     simp only[KQ,hfl,hn,Z8,cP,aV,cd,aY] at hgd;exact hgd)
    rw[bt] at this;refine CallsIn.mono' this fun en w' hq=>?_;cases en with
    | returned v =>
     obtain⟨I',L',p1,p2⟩:=hq;refine⟨I',F,L',?_,p2⟩;rw[H8];exact p1
    | panicked chain=>exact hq.elim
    | outgrown=>exact hq.elim
   rename_i hio;split at hx
   ·rename_i hS;rw[aY] at hS;have hcl:=hall.shut hS;split at hx
    ·rename_i hy;split at hx
     ·rename_i r obs e1 hc;cases hx;obtain⟨Ir,Fr_,wr,hand,hxr⟩:=href.hand;obtain⟨q1,q2⟩:=hM E h R dep lp Ir Fr_ wr g0 _ e r obs e' hc hand href.dep;refine LE ho hcal hv q1 ?_;have:=q2 I F w _ (hxr.trans hf.ext) hf.sep hf.wd hf.re hcl;rw[bt] at this;refine CallsIn.mono' this fun en w' hq=>?_;cases en with
      | returned v =>
       obtain⟨I',F',ps,hce⟩:=hq;obtain⟨L',g1,g2⟩:=taken hs hf hce hd;exact⟨I',F',L',g1,g2⟩
      | panicked chain=>exact hq.elim
      | outgrown=>exact hq.elim
     ·cases hx
    ·rename_i hy;split at hx
     ·rename_i r obs u hc;cases hx;obtain⟨q1,q2⟩:=UL hM hs hf ho hcal hv hcl (by simpa using hy) hc hd;exact LE ho hcal hv q1 q2
     ·cases hx
   ·rename_i hS;obtain⟨hk,hx⟩:=Bn hx;simp only[Z2,bC] at hk;have hcl:=OH hs hk.2 hall fun nm hn=>Fd _ _ nm hn;split at hx
    ·rename_i r obs u hc;cases hx;by_cases hfree:(r.free&&obs.all Ob.free&&!M.leans g0)=true
     ·rw[if_pos hfree];rw[Z2,Z2] at hfree;replace hfree:=hfree.1;obtain⟨q1,q2⟩:=done_free hM hs hf ho hcal hv hcl hk.1 hc hfree.1 hfree.2 hd;exact LE ho hcal hv q1 q2
     ·rw[if_neg hfree];have hS:(AR vall).isEmpty=false:=by simpa using hS
      have hne:=VY (st:=st) hS;have hs2:=hs.freeze hk.2;have hf2:=hf.freeze (Bb (Ak st.objs) AW (AR vall));rw[VP hne];obtain⟨q1,q2⟩:=UL hM hs2 hf2 ho hcal hv hcl hk.1 hc (fun d hdd=>XV (hd d hdd));exact LE ho hcal hv q1 q2
    ·cases hx
 ·cases hx
end frames
end Go.Ab


namespace Go.Ab
theorem comp_call {P:Program} {G:Fb} {o:Oper} {f:RX} {args:List RX} (h:B5 P G o=some (.call f args)) :
  ∃ c fo,o.op=.call c/\c.callee=.value fo/\rx G fo=some f/\Es G c.args.toList=some args:=by
 cases ho:o.op with
 | call c =>
  simp only[B5,ho] at h;split at h;·cases h
  ·rename_i as has;split at h
   ·rename_i fo hcal;obtain⟨f',hf,he⟩:=Z3.1 h;cases he;exact⟨c,fo,rfl,hcal,hf,has⟩
   all_goals (repeat' split at h)<;>first | contradiction | cases h
 | _ =>
  exfalso;simp only[B5,ho] at h
  repeat' split at h
  all_goals first
   | contradiction
   |(cases h;done)
   |(simp[Z3] at h;done)
section ops
variable {E:Type} {cx:Cx} {w0:World} {I0 F0:Nat->Prop} {O0:B9} {Hd:Nat->Option Obj} {R:BV E} {e e':E} {F F':Nat->Prop} {lp:Nat->Option Nat} {suf tmv:List Value}
variable {I I':Nat->Prop} {L:AF} {st st':St} {a:Act} {w w':World} {o:Oper} {M:Bf} {h:Ay E} {dep:Nat}
theorem step_op (hM:EP cx M.call) (hsp:MSp cx M) (href:Ref cx lp R h dep w0 I0 F0) (hs:SR lp I L st a.tmps.toList suf w) (hf:Fr cx w0 I0 F0 O0 Hd R e a.defers I F L w) {out:AO}
  (hx:DG M h dep (CU cx.P cx.G o) st e=some (out,e')):Oo cx w0 I0 F0 O0 Hd R lp suf o a w (apply st o.dst out) e':=by
 unfold DG at hx;obtain⟨hfr,hx⟩:=Bn hx;cases hc:B5 cx.P cx.G o with
 | none=>simp[CU,hc,orBad,exec] at hx
 | some rop =>
  have hop:(CU cx.P cx.G o).op=rop:=by simp[CU,hc,orBad]
  have hds:(CU cx.P cx.G o).dst=o.dst:=rfl
  have hclean:Lg rop=true->(∀ d,o.dst=some d->st.objs[d]?=some [])/\(Fh rop=false->∃ d,o.dst=some d):=by
   intro hmk;unfold FB at hfr;rw[hop,hmk,hds] at hfr;simp only[if_true] at hfr;constructor
   ·intro d hd;rw[hd] at hfr;simp only at hfr;split at hfr;·assumption
    ·cases hfr
   ·intro hnc;cases hd:o.dst with
    | some d=>exact⟨d,rfl⟩
    | none =>
     rw[hd] at hfr;cases rop<;>simp[Fh] at hnc hfr
  rw[hop,hds] at hx;cases hic:Fh rop with
  | true =>
   cases rop<;>simp[Fh] at hic;rename_i f args;obtain⟨c,fo,ho,hcal,h1,h2⟩:=comp_call hc;obtain⟨hx,hgd⟩:=Re hx;exact call_done hM hsp href hs hf ho hcal h1 h2 (hclean rfl).1 hx hgd
  | false =>
   have hx':exec (o.dst.getD 0) (Ak st.objs) st.tmps rop=some out/\e'=e:=by
    cases rop<;>simp[Fh] at hic<;>(simp only at hx;split at hx<;>simp_all)
   obtain⟨hx',rfl⟩:=hx';refine U0 ?_ (exec_done hs hf hc (fun hmk=>?_) hic hx')
   ·intro c hd;simp[B5,hd] at hc
   ·obtain⟨g1,g2⟩:=hclean hmk;obtain⟨d,hd⟩:=g2 hic;exact⟨d,hd,g1 d hd⟩
theorem SR.letgo (hs:SR lp I L st tmv suf w) {D:Nm->Prop} [DecidablePred D] {objs':List (List Ob)} (hobj:∀ nm,Ak objs' nm=if D nm then none else (Ak st.objs nm).map (Ob.sub fun m=>if D m then some none else none)) :
  SR lp I (fun nm=>if D nm then none else L nm) {tmps:=A2 (fun m=>if D m then some none else none) st.tmps,objs:=objs',keep:=A2 (fun m=>if D m then some none else none) st.keep} tmv suf w:=by
 have hsub:EE w I lp L (some fun nm=>if D nm then none else L nm) (fun _=>True) (fun m=>if D m then some none else none):=by
  intro m q _ hq;by_cases hm:D m
  ·simp[hm]
  ·simp[hm,hq]
 refine hs.subst (w':=w) (fun _ h=>h) (fun _ _=>rfl) hsub ?_ ?_
 ·intro nm ob hl;rw[hobj] at hl;by_cases hd:D nm
  ·simp[hd] at hl
  ·simp only[hd,if_false] at hl |-;obtain⟨ob0,hl0,rfl⟩:=Z3.1 hl;obtain⟨p,hp,ha⟩:=hs.ob nm ob0 hl0;exact⟨p,hp,ha.subst (fun _ h=>h) (fun _ _=>rfl) hsub (fun _ _=>trivial) fun _ _ _=>rfl⟩
 ·intro nm hl;rw[hobj] at hl;by_cases hd:D nm
  ·simp[hd]
  ·simp only[hd,if_false] at hl |-;exact hs.dom nm (by simpa using hl)
theorem Fr.letgo {ds:List Deferred} (hf:Fr cx w0 I0 F0 O0 Hd R e ds I F L w) {L':AF} (hL:∀ nm p,L' nm=some p->L nm=some p):Fr cx w0 I0 F0 O0 Hd R e ds I F L' w :=
 hf.own rfl rfl rfl (Z5 _) (fun _ _ _=>rfl) (fun _ h=>h) (fun _ h=>.inl h)
  (fun nm b C hn=>⟨(hf.lB nm b C (hL _ _ hn)).2.1,(hf.lB nm b C (hL _ _ hn)).2.2.1,.inr ⟨nm,C,hL _ _ hn⟩⟩)
  (fun nm nm' b C C' h1 h2=>hf.inj nm nm' b C C' (hL _ _ h1) (hL _ _ h2))
theorem NH {ds:List Deferred} (xs:List Nat) (hs:SR lp I L st tmv suf w) (hf:Fr cx w0 I0 F0 O0 Hd R e ds I F L w):∃ L',SR lp I L' (Fa xs st) tmv suf w/\Fr cx w0 I0 F0 O0 Hd R e ds I F L' w:=by
 unfold Fa;split;·exact⟨L,hs,hf⟩
 ·refine⟨fun nm=>if xs.contains nm.1=true then none else L nm,?_,hf.letgo fun nm p hn=>?_⟩
  ·have:=hs.letgo (D:=fun nm=>xs.contains nm.1=true) (objs':=(st.objs.map (·.map (Ob.sub fun m=>if xs.contains m.1=true then some none else none))).zipIdx.map fun x=>if xs.contains x.2=true then [] else x.1) (by
    intro nm;unfold Ak;rw[aa,bw,aa];cases h0:st.objs[nm.1]? with
    | none=>simp
    | some l =>
     simp only[ao,az];by_cases hd:xs.contains nm.1=true
     ·simp only[hd,if_true];rfl
     ·simp only[hd];simp)
   exact this
  ·change (if xs.contains nm.1=true then none else L nm)=some p at hn;split at hn;·cases hn
   ·exact hn
theorem VR (hs:SR lp I L st a.tmps.toList suf w) {ops:Array Oper} {b:Bool} (h:DX (ops.toList.map (CU cx.P cx.G)) (CU cx.P cx.G o) st.tmps=some b):Region.wanted o (yielded ops a.tmps)=b:=by
 unfold DX at h;have hg:(CU cx.P cx.G o).guard=o.guard:=rfl;rw[hg] at h;unfold Region.wanted;cases hgu:o.guard with
 | none=>rw[hgu] at h;simpa using h
 | some jw =>
  obtain⟨j,want⟩:=jw;rw[hgu] at h;simp only[aa,bZ] at h;cases hj:ops[j]? with
  | none=>rw[hj] at h;simp at h
  | some p =>
   rw[hj] at h;simp only[ao] at h;have hpd:(CU cx.P cx.G p).dst=p.dst:=rfl;rw[hpd] at h;cases hd:p.dst with
   | none=>rw[hd] at h;simp at h
   | some d =>
    rw[hd] at h;simp only at h;cases hx:st.tmps[d]? with
    | none=>rw[Z9,hx] at h;simp at h
    | some x =>
     obtain⟨v,hv,hr⟩:=hs.tm.get hx;rw[bZ] at hv;rw[Z9,hx] at h;simp only[aM] at h;show (yielded ops a.tmps j==some want)=b;split at h
     ·rename_i b';cases h;have hy:yielded ops a.tmps j=some b':=by simp[yielded,hj,hd,hv,Fx hr]
      rw[hy];cases b'<;>cases want<;>rfl
     ·cases h;obtain⟨vs,rfl,_⟩:=W1 hr;have hy:yielded ops a.tmps j=none:=by simp[yielded,hj,hd,hv]
      rw[hy];rfl
     ·cases h
inductive Io (M:Bf) {E:Type} (h:Ay E) (dep:Nat) (rops:List AX):List Nat->St->E->St->E->Prop
 | nil (st:St) (e:E):Io M h dep rops [] st e st e
 | cons (i:Nat) (rest:List Nat) (o:AX) (st st1 st2:St) (e e1 e2:E) (ho:rops[i]?=some o) (hs:stepG M h dep rops o st e=some (st1,e1)) (hr:Io M h dep rops rest st1 e1 st2 e2):Io M h dep rops (i :: rest) st e st2 e2
theorem Uq (a:Act) (dst:Option Nat) (v:Value):(a.put dst v).defers=a.defers:=by cases dst<;>rfl
theorem RA {ops:Array Oper} (hM:EP cx M.call) (hsp:MSp cx M) (href:Ref cx lp R h dep w0 I0 F0) {ro:Option Nat} {Q:Exit->Act->World->Prop} {l':List Nat}:∀ {l:List Nat} {st st2:St} {e e2:E},Io M h dep (ops.toList.map (CU cx.P cx.G)) l st e st2 e2 ->
  ∀ {a:Act} {w:World} {I F:Nat->Prop} {L:AF},SR lp I L st a.tmps.toList suf w->Fr cx w0 I0 F0 O0 Hd R e a.defers I F L w ->
  (∀ a' w' I' F' L',SR lp I' L' st2 a'.tmps.toList suf w'->Fr cx w0 I0 F0 O0 Hd R e2 a'.defers I' F' L' w'->wpOpsIn (Ee ro) 0 cx.P ops Q l' a' w')->wpOpsIn (Ee ro) 0 cx.P ops Q (l++l') a w:=by
 intro l st st2 e e2 hrun;induction hrun with
 | nil st e=>intro a w I F L hs hf hQ;exact hQ a w I F L hs hf
 | cons i rest ro' st st1 st2 e e1 e2 ho hstep _ ih =>
  intro a w I F L hs hf hQ;simp only[aa,bZ,Z3] at ho;obtain⟨o,ho,rfl⟩:=ho;simp only[bM,wpOpsIn,ho];unfold stepG at hstep;split at hstep
  ·rename_i hw;rw[VR hs hw];simp only[if_true];unfold JG at hstep;split at hstep
   ·rename_i out e1' hout;cases hstep;exact step_op hM hsp href hs hf hout ro _ Q fun v' w' I' F' L' g1 g2=>ih g1 (by rw[Uq];exact g2) hQ
   ·cases hstep
  ·rename_i hw;rw[VR hs hw];cases hstep;refine⟨fun _ _=>trivial,?_⟩;exact ih (hs.putO o.dst (.tup [] #[] .nil)) (by rw[Uq];exact hf) hQ
  ·cases hstep
theorem TV {rops:List AX}:∀ (k:Nat) {st st2:St} {e e2:E},E5 M h dep rops (rops.drop k) st e=some (st2,e2)->Io M h dep rops ((List.range rops.length).drop k) st e st2 e2:=by
 have key:∀ (n k:Nat) {st st2:St} {e e2:E},rops.length - k=n->E5 M h dep rops (rops.drop k) st e=some (st2,e2)->Io M h dep rops ((List.range rops.length).drop k) st e st2 e2:=by
  intro n;induction n with
  | zero =>
   intro k st st2 e e2 hn hr;rw[aU (by omega)] at hr;rw[aU (by simp;omega)];simp only[E5,Z6,aC] at hr;obtain⟨rfl,rfl⟩:=hr;exact .nil st e
  | succ n ih =>
   intro k st st2 e e2 hn hr;have hk:k < rops.length:=by omega
   rw[ch hk] at hr;rw[ch (by simpa using hk)];simp only[E5] at hr;split at hr
   ·rename_i st1 e1 hs1;rw[List.getElem_range];exact .cons k _ rops[k] st st1 st2 e e1 e2 (ab hk) hs1 (ih (k+1) (by omega) hr)
   ·cases hr
 intro k st st2 e e2 hr;exact key _ k rfl hr
theorem XL {ops:Array Oper} {id:Nat} (hM:EP cx M.call) (hsp:MSp cx M) (href:Ref cx lp R h dep w0 I0 F0) {ro:Option Nat} {Q:Exit->Act->World->Prop} {st2:St} {e2:E}
  (hr:E5 M h dep (ops.toList.map (CU cx.P cx.G)) (ops.toList.map (CU cx.P cx.G)) (Fa (CX (ops.toList.map (CU cx.P cx.G))) st) e=some (st2,e2))
  (hs:SR lp I L st a.tmps.toList suf w) (hf:Fr cx w0 I0 F0 O0 Hd R e a.defers I F L w)
  (hQ:∀ a' w' I' F' L',SR lp I' L' st2 a'.tmps.toList suf w'->Fr cx w0 I0 F0 O0 Hd R e2 a'.defers I' F' L' w'->Q .normal a' w'):(Code.region id ops false).wpIn (Ee ro) 0 cx.P Q a w:=by
 obtain⟨L',hs',hf'⟩:=NH (CX (ops.toList.map (CU cx.P cx.G))) hs hf;refine wpIn_region ?_;have:=TV 0 (by simpa using hr);simp only[bB,aL,bx] at this;have:=RA (l':=[]) (Q:=Q) (ro:=ro) hM hsp href this hs' hf' hQ
 rwa [bz] at this
end ops
end Go.Ab


namespace Go.Ab
def Ag (R:List Nm) (σ σ':Nm->Option Ob):Prop:=∀ nm∈R,σ nm=σ' nm
mutual
theorem PV.sub_congr {f g:Nm->Option (Option Ob)}:∀ (x:PV),(∀ nm∈x.names,f nm=g nm)->x.sub f=x.sub g
 | .agg cs,h=>by simp only[PV.sub];rw[Jj cs (by simpa[PV.names] using h)]
 | .iface t x,h=>by simp only[PV.sub];rw[PV.sub_congr x (by simpa[PV.names] using h)]
 | .fn k cap,h=>by simp only[PV.sub];rw[Jj cap (by simpa[PV.names] using h)]
 | .tup xs,h=>by simp only[PV.sub];rw[Jj xs (by simpa[PV.names] using h)]
 | .ref nm o,h=>by simp only[PV.sub,h nm (by simp[PV.names])]
 | .aref nm k i o,h=>by simp only[PV.sub,h nm (by simp[PV.names])]
 | .arr nm k o n,h=>by simp only[PV.sub,h nm (by simp[PV.names])]
 | .mp nm,h=>by simp only[PV.sub,h nm (by simp[PV.names])]
 | .it nm,h=>by simp only[PV.sub,h nm (by simp[PV.names])]
 | .undef,_=>rfl
 | .bool _,_=>rfl
 | .int _ _,_=>rfl
 | .str _,_=>rfl
 | .nilS,_=>rfl
 | .nilP,_=>rfl
 | .nilF,_=>rfl
 | .nilI,_=>rfl
 | .nilM,_=>rfl
 | .sl _ _ _,_=>rfl
 | .ptr _ _,_=>rfl
 | .yld _,_=>rfl
 | .imap _,_=>rfl
 | .glob _ _,_=>rfl
theorem Jj {f g:Nm->Option (Option Ob)}:∀ (xs:List PV),(∀ nm∈AR xs,f nm=g nm)->A2 f xs=A2 g xs
 | [],_=>rfl
 | x :: xs,h=>by
  simp only[A2];rw[PV.sub_congr x (fun nm hn=>h nm (ak _ hn)),Jj xs (fun nm hn=>h nm (aw _ hn))]
end
theorem Ob.sub_congr {f g:Nm->Option (Option Ob)} (o:Ob) (h:∀ nm∈o.names,f nm=g nm):o.sub f=o.sub g:=by
 cases o with
 | cells ty cs=>simp only[Ob.sub];rw[Jj cs h]
 | arr k kt xs=>rfl
 | map es=>rfl
 | siter s p=>rfl
mutual
theorem sub_id:∀ (x:PV),x.sub (fun _=>none)=x
 | .agg cs=>by simp[PV.sub,subL_id cs]
 | .iface t x=>by simp[PV.sub,sub_id x]
 | .fn g cap=>by simp[PV.sub,subL_id cap]
 | .tup xs=>by simp[PV.sub,subL_id xs]
 | .undef | .bool _ | .int _ _ | .str _ | .nilS | .nilP | .nilF | .nilI | .nilM | .sl _ _ _ | .ptr _ _ | .yld _ | .imap _ | .glob _ _ | .ref _ _ | .aref _ _ _ _ | .arr _ _ _ _ | .mp _ | .it _=>by simp[PV.sub]
theorem subL_id:∀ (xs:List PV),A2 (fun _=>none) xs=xs
 | []=>rfl
 | x :: xs=>by simp[A2,sub_id x,subL_id xs]
end
theorem Ob.sub_id (o:Ob):o.sub (fun _=>none)=o:=by cases o<;>simp[Ob.sub,subL_id]
def Qo (σ:Nm->Option Ob) (l:List Nm):List Nm:=l.flatMap fun nm=>((σ nm).map Ob.names).getD []
theorem LF (σ:Nm->Option Ob) (d:Nat) (l:List Nm):Bb σ (d+1) l=l++Bb σ d (Qo σ l):=rfl
theorem RC {σ:Nm->Option Ob}:∀ (d:Nat) (l:List Nm) (nm:Nm),nm∈l->nm∈Bb σ d l
 | 0,_,_,h=>h
 | _+1,_,_,h=>ak _ h
theorem LG {σ:Nm->Option Ob}:∀ (d:Nat) (l l':List Nm),(∀ nm∈l,nm∈l')->∀ nm∈Bb σ d l,nm∈Bb σ d l':=by
 intro d;induction d with
 | zero=>intro l l' h;exact h
 | succ d ih =>
  intro l l' h nm hn;rw[LF] at hn |-;rcases ar.1 hn with hn | hn;·exact ak _ (h nm hn)
  ·refine aw _ (ih _ _ (fun m hm=>?_) nm hn);obtain⟨k,hk,hm⟩:=bE.1 hm;exact bE.2 ⟨k,h k hk,hm⟩
theorem Zk {σ σ':Nm->Option Ob} {l:List Nm} (h:Ag l σ σ'):Qo σ l=Qo σ' l:=by
 unfold Qo;induction l with
 | nil=>rfl
 | cons x l ih=>rw[bu,bu,h x aq,ih fun nm hn=>h nm (ap _ hn)]
theorem MY {σ σ':Nm->Option Ob}:∀ (d:Nat) (l:List Nm),Ag (Bb σ d l) σ σ'->Bb σ d l=Bb σ' d l:=by
 intro d;induction d with
 | zero=>intro l _;rfl
 | succ d ih =>
  intro l h;rw[LF] at h;have h1:Ag l σ σ':=fun nm hn=>h nm (ak _ hn);rw[LF,LF,<-Zk h1,ih _ fun nm hn=>h nm (aw _ hn)]
theorem XH {σ σ':Nm->Option Ob}:∀ (d:Nat) (o:Ob),Ag (Bb σ d o.names) σ σ'->Ie σ (d+1) o=Ie σ' (d+1) o:=by
 intro d;induction d with
 | zero =>
  intro o h;simp only[Ie];exact Ob.sub_congr o fun nm hn=>by rw[h nm hn]
 | succ d ih =>
  intro o h;rw[Ie,Ie];refine Ob.sub_congr o fun nm hn=>?_;have h1:=h nm (RC _ _ _ hn);rw[<-h1];cases ho:σ nm with
  | none=>rfl
  | some ob =>
   simp only[ao];rw[ih ob fun m hm=>h m ?_];rw[LF];refine aw _ (LG d _ _ (fun k hk=>bE.2 ⟨nm,hn,by simpa[ho] using hk⟩) m hm)
theorem MX {σ σ':Nm->Option Ob} {S:List Nm} (h:Ag (Bb σ AW S) σ σ'):∀ nm∈S,BJ σ nm=BJ σ' nm:=by
 intro nm hn;have h1:=h nm (RC _ _ _ hn);unfold BJ;rw[<-h1];cases ho:σ nm with
 | none=>rfl
 | some ob =>
  simp only[ao];rw[show AW=2+1 from rfl,XH 2 ob fun m hm=>h m ?_];rw[show AW=2+1 from rfl,LF];exact aw _ (LG 2 _ _ (fun k hk=>bE.2 ⟨nm,hn,by simpa[ho] using hk⟩) m hm)
theorem Ri {σ σ':Nm->Option Ob} {R:List Nm} (h:Ag R σ σ'):Dw σ R=Dw σ' R:=by
 unfold Dw
 have:∀ (l:List Nm),Ag l σ σ'->(l.all fun nm=>(((σ nm).map Ob.names).getD []).all fun m=>R.contains m)=(l.all fun nm=>(((σ' nm).map Ob.names).getD []).all fun m=>R.contains m):=by
  intro l;induction l with
  | nil=>intro _;rfl
  | cons x l ih=>intro h;rw[bj,bj,h x aq,ih fun nm hn=>h nm (ap _ hn)]
 exact this R h
theorem DT {α:Type} {b:Bool} {x:Option α} {y:α} (h:AI b x=some y):b=true/\x=some y:=by
 cases b;·simp[AI] at h
 ·exact⟨rfl,by simpa[AI] using h⟩
theorem TI {x:PV} {xs:List PV} (h:x∈xs):∀ nm∈x.names,nm∈AR xs:=by
 induction xs with
 | nil=>cases h
 | cons y ys ih =>
  intro nm hn;rcases Z7.1 h with rfl | h;·exact ak _ hn
  ·exact aw _ (ih h nm hn)
theorem H4 {tm tm':List PV} {xs:List RX} (h:∀ x∈xs,x.ev tm=x.ev tm'):xs.map (RX.ev tm)=xs.map (RX.ev tm'):=aD h
theorem ZJ {tm tm':List PV}:∀ (ps:List (Nat×Nat×RX)) (z:List PV),(∀ x∈ps.map (·.2.2),x.ev tm=x.ev tm')->EA tm z ps=EA tm' z ps:=by
 intro ps;induction ps with
 | nil=>intro z _;rfl
 | cons p ps ih =>
  obtain⟨off,n,x⟩:=p;intro z h;simp only[EA];rw[h x (by simp),ih _ fun y hy=>h y (by simp at hy |-;exact .inr hy)]
theorem Nr {tm tm':List PV} {x:Option RX} (h:∀ y∈x.toList,y.ev tm=y.ev tm'):Cp tm x=Cp tm' x:=by
 cases x with
 | none=>rfl
 | some y=>simp only[Cp];rw[h y (by simp)]
section
variable {σ σ':Nm->Option Ob} {tm tm':List PV}
theorem OK {k:Nat} {v:PV} (h:∀ nm∈v.names,σ nm=σ' nm):elems σ k v=elems σ' k v:=by
 cases v<;>first | rfl | skip
 rename_i nm k' o n;simp only[elems];rw[h nm (by simp[PV.names])]
theorem len_congr {c:TC} {v:PV} (h:∀ nm∈v.names,σ nm=σ' nm):IX σ c v=IX σ' c v:=by
 cases v<;>cases c<;>first | rfl | skip
 rename_i nm;simp only[IX];rw[h nm (by simp[PV.names])]
theorem UI {dst:Nat} (op:AC) (hx:∀ x∈op.xs,x.ev tm=x.ev tm') (hσ:Ag (Bb σ AW (AR (op.xs.map (RX.ev tm)))) σ σ'):exec dst σ tm op=exec dst σ' tm' op:=by
 have hn:∀ x∈op.xs,∀ nm∈(x.ev tm).names,σ nm=σ' nm:=fun x hx nm hn=>hσ nm (RC _ _ _ (TI (List.mem_map_of_mem hx) nm hn));cases op with
 | mov x=>simp only[exec];rw[hx x (by simp[AC.xs])]
 | pick c a b=>simp only[exec];rw[hx c (by simp[AC.xs]),hx a (by simp[AC.xs]),hx b (by simp[AC.xs])]
 | box x=>simp only[exec];rw[hx x (by simp[AC.xs])]
 | alloc z=>rfl
 | build z ps=>simp only[exec];rw[ZJ ps z (by simpa[AC.xs] using hx)]
 | mkSl k ps =>
  have h1:=H4 (xs:=ps) hx;simp only[AC.xs] at hσ;simp only[exec];rw[<-h1];have h2:=MY _ _ hσ;rw[<-h2,<-Ri hσ,Jj (f:=BJ σ) (g:=BJ σ') _ (MX hσ)]
 | load n ag x =>
  have h1:=hn x (by simp[AC.xs]);simp only[exec];rw[<-hx x (by simp[AC.xs])];cases hv:x.ev tm<;>first | rfl | skip
  all_goals (rw[hv] at h1;(try simp only);rw[h1 _ (by simp[PV.names])])
 | store n x v =>
  have h1:=hn x (by simp[AC.xs]);simp only[exec];rw[<-hx x (by simp[AC.xs]),<-hx v (by simp[AC.xs])];cases hv:x.ev tm<;>first | rfl | skip
  all_goals (rw[hv] at h1;(try simp only);rw[h1 _ (by simp[PV.names])])
 | nilck x=>simp only[exec];rw[hx x (by simp[AC.xs])]
 | bin op c cst x y=>simp only[exec];rw[hx x (by simp[AC.xs]),hx y (by simp[AC.xs])]
 | un op x=>simp only[exec];rw[hx x (by simp[AC.xs])]
 | conv k x=>simp only[exec];rw[hx x (by simp[AC.xs])]
 | toBytes x=>simp only[exec];rw[hx x (by simp[AC.xs])]
 | ofBytes x =>
  simp only[exec];rw[<-hx x (by simp[AC.xs]),OK (hn x (by simp[AC.xs]))]
 | ofRune x=>simp only[exec];rw[hx x (by simp[AC.xs])]
 | strId x=>simp only[exec];rw[hx x (by simp[AC.xs])]
 | mkI t x=>simp only[exec];rw[hx x (by simp[AC.xs])]
 | mkF f cap=>simp only[exec];rw[H4 (xs:=cap) hx]
 | mkMap=>rfl
 | insert c x k v =>
  have h1:=hn x (by simp[AC.xs]);simp only[exec];rw[<-hx x (by simp[AC.xs]),<-hx k (by simp[AC.xs]),<-hx v (by simp[AC.xs])];have hv2:Ag (Bb σ AW (v.ev tm).names) σ σ':=fun nm hn=>hσ nm (LG _ _ _ (fun m hm=>by simp[AC.xs,AR,hm]) nm hn)
  have hsh:Dw σ (if (v.ev tm).names.isEmpty=true then [] else Bb σ AW (v.ev tm).names)=Dw σ' (if (v.ev tm).names.isEmpty=true then [] else Bb σ AW (v.ev tm).names):=by
   split;·rfl
   ·exact Ri hv2
  rw[<-MY _ _ hv2,hsh,PV.sub_congr (f:=BJ σ) (g:=BJ σ') (v.ev tm) (MX hv2)];cases hv:x.ev tm<;>first | rfl | skip
  all_goals (rw[hv] at h1;(try simp only);rw[h1 _ (by simp[PV.names])])
 | lookup c z ok x k =>
  have h1:=hn x (by simp[AC.xs]);simp only[exec];rw[<-hx x (by simp[AC.xs]),<-hx k (by simp[AC.xs])];cases hv:x.ev tm<;>first | rfl | skip
  all_goals (rw[hv] at h1;(try simp only);rw[h1 _ (by simp[PV.names])])
 | mkS k z l c=>simp only[exec];rw[hx l (by simp[AC.xs]),hx c (by simp[AC.xs])]
 | slice k x lo hi mx =>
  simp only[AC.xs] at hx;simp only[exec];rw[hx x (by simp),Nr (x:=lo) fun y hy=>hx y (by simp at hy |-;simp[hy]),Nr (x:=hi) fun y hy=>hx y (by simp at hy |-;simp[hy]),Nr (x:=mx) fun y hy=>hx y (by simp at hy |-;simp[hy])]
 | strSlice x lo hi =>
  simp only[AC.xs] at hx;simp only[exec];rw[hx x (by simp),Nr (x:=lo) fun y hy=>hx y (by simp at hy |-;simp[hy]),Nr (x:=hi) fun y hy=>hx y (by simp at hy |-;simp[hy])]
 | fieldAddr off x=>simp only[exec];rw[hx x (by simp[AC.xs])]
 | field off n ag x=>simp only[exec];rw[hx x (by simp[AC.xs])]
 | idxAddr k x i=>simp only[exec];rw[hx x (by simp[AC.xs]),hx i (by simp[AC.xs])]
 | idxAddrA k len x i=>simp only[exec];rw[hx x (by simp[AC.xs]),hx i (by simp[AC.xs])]
 | strIdx x i=>simp only[exec];rw[hx x (by simp[AC.xs]),hx i (by simp[AC.xs])]
 | extract j x=>simp only[exec];rw[hx x (by simp[AC.xs])]
 | len c x =>
  simp only[exec];rw[<-hx x (by simp[AC.xs]),len_congr (hn x (by simp[AC.xs]))]
 | append k ty s x =>
  have h1:=hn s (by simp[AC.xs]);simp only[exec];rw[<-hx x (by simp[AC.xs]),<-hx s (by simp[AC.xs]),OK (hn x (by simp[AC.xs]))];cases hv:s.ev tm with
  | arr nm k' o n =>
   rw[hv] at h1;have:=h1 nm (by simp[PV.names]);cases elems σ' k (x.ev tm) with
   | none=>rfl
   | some ys=>show (match σ nm with | some (.arr k'' kt xs)=>_ | _=>none)=_;rw[this];rfl
  | sl k' xs full=>cases full<;>rfl
  | _=>rfl
 | copy k d s =>
  have h1:=hn d (by simp[AC.xs]);simp only[exec];rw[<-hx s (by simp[AC.xs]),<-hx d (by simp[AC.xs]),OK (hn s (by simp[AC.xs]))];cases hv:d.ev tm<;>first | rfl | skip
  all_goals (rw[hv] at h1;(try simp only);try rw[h1 _ (by simp[PV.names])])
 | minmax mx xs=>simp only[exec];rw[H4 (xs:=xs) hx]
 | call f args=>rfl
 | iter x=>simp only[exec];rw[hx x (by simp[AC.xs])]
 | next x =>
  have h1:=hn x (by simp[AC.xs]);simp only[exec];rw[<-hx x (by simp[AC.xs])];cases hv:x.ev tm<;>first | rfl | skip
  all_goals (rw[hv] at h1;(try simp only);rw[h1 _ (by simp[PV.names])])
 | tassert t z ok x=>simp only[exec];rw[hx x (by simp[AC.xs])]
 | bad=>rfl
theorem ZM {dst:Nat} (op:AC) (hb:HV op=true) (hx:∀ x∈op.xs,x.ev tm=x.ev tm'):exec dst σ tm op=exec dst σ' tm' op:=by
 cases op<;>simp only[HV] at hb<;>first | (cases hb;done) | skip
 case mov x=>simp only[exec];rw[hx x (by simp[AC.xs])]
 case pick c a b=>simp only[exec];rw[hx c (by simp[AC.xs]),hx a (by simp[AC.xs]),hx b (by simp[AC.xs])]
 case nilck x=>simp only[exec];rw[hx x (by simp[AC.xs])]
 case mkI t x=>simp only[exec];rw[hx x (by simp[AC.xs])]
 case mkF f cap=>simp only[exec];rw[H4 (xs:=cap) hx]
 case fieldAddr off x=>simp only[exec];rw[hx x (by simp[AC.xs])]
 case extract j x=>simp only[exec];rw[hx x (by simp[AC.xs])]
theorem exec_load {dst:Nat} (op:AC) (hb:FH op=true) (hx:∀ x∈op.xs,x.ev tm=x.ev tm') (hag:Ag (AR (op.xs.map (RX.ev tm))) σ σ'):exec dst σ tm op=exec dst σ' tm' op:=by
 cases op<;>simp only[FH] at hb<;>first | (cases hb;done) | skip
 case load n ag x =>
  have hxe:=hx x (by simp[AC.xs]);have h:∀ nm∈(x.ev tm).names,σ nm=σ' nm:=fun nm hn=>hag nm (by simpa[AC.xs,AR] using hn);simp only[exec,<-hxe];cases hev:x.ev tm with
  | ref nm o=>simp only[h nm (by rw[hev];simp[PV.names])]
  | aref nm k i o=>simp only[h nm (by rw[hev];simp[PV.names])]
  | _=>rfl
def PW (sp:FuncId->(Nm->Option Ob)->List PV->Option AO):Prop:=∀ (g:FuncId) (σ σ':Nm->Option Ob) (vs:List PV),Ag (Bb σ AW (AR vs)) σ σ'->sp g σ vs=sp g σ' vs
def Xn (io:FuncId->Nat->(Nm->Option Ob)->List PV->Option AO):Prop:=∀ (g:FuncId) (d:Nat) (σ σ':Nm->Option Ob) (vs:List PV) (out:AO),Ag (Bb σ AW (AR vs)) σ σ'->io g d σ vs=some out->(CC out=true\/EL out=true)->io g d σ' vs=some out
structure GD (M:Bf):Prop where
 sp:PW M.sp
 io:Xn M.io
theorem Pd:∀ {xs:List PV},BI xs=false↔∀ x∈xs,x.hasY=false
 | []=>by simp[BI]
 | x :: xs=>by simp[BI,Pd (xs:=xs)]
theorem OT {nm:Nm}:∀ {xs:List PV},nm∈AR xs↔∃ x∈xs,nm∈x.names
 | []=>by simp[AR]
 | x :: xs=>by simp[AR,OT (xs:=xs)]
theorem RK {f:FuncId} {vs cap:List PV} {x:PV} (h:x∈Bt f vs cap):x∈vs\/x∈cap:=by
 unfold Bt at h;split at h;·exact ar.1 h
 ·rcases ar.1 h with h | h;·exact .inr (aQ h)
  ·rcases ar.1 h with h | h;·exact .inl h
   ·exact .inr (bf h)
theorem ZU {M:Bf} (hM:GD M) {E:Type} {h:Ay E} {dep dst:Nat} {f:RX} {args:List RX} {e e1:E} {out:AO} (hx:∀ x∈(f :: args),x.ev tm=x.ev tm') (hσ:Ag (Bb σ AW (AR ((f :: args).map (RX.ev tm)))) σ σ')
  (hy:BI ((f :: args).map (RX.ev tm))=false) (hst:CC out=true\/EL out=true) (hc:Dr M h dep dst σ tm f args e=some (out,e1)):e1=e/\∀ e2:E,Dr M h dep dst σ' tm' f args e2=some (out,e2):=by
 have hf:=hx f aq;have ha:=H4 (xs:=args) fun x h=>hx x (ap _ h);have hyf:(f.ev tm).hasY=false:=(bD.1 hy).1;have hya:BI (args.map (RX.ev tm))=false:=(bD.1 hy).2;unfold Dr at hc |-;rw[<-hf,<-ha];cases hv:f.ev tm with
 | yld d=>rw[hv] at hyf;simp[PV.hasY] at hyf
 | fn g cap =>
  rw[hv] at hc hyf;simp only[PV.hasY] at hyf;have hyv:BI (Bt g (args.map (RX.ev tm)) cap)=false:=Pd.2 fun x hx=>(RK hx).elim (Pd.1 hya x) (Pd.1 hyf x)
  have hsub:∀ nm∈AR (Bt g (args.map (RX.ev tm)) cap),nm∈AR ((f :: args).map (RX.ev tm)):=by
   intro nm hn;obtain⟨x,hx,hn⟩:=OT.1 hn;rcases RK hx with h | h;·exact aw _ (OT.2 ⟨x,h,hn⟩)
   ·refine ak _ ?_;rw[hv];simp only[PV.names];exact OT.2 ⟨x,h,hn⟩
  have hσ2:Ag (Bb σ AW (AR (Bt g (args.map (RX.ev tm)) cap))) σ σ':=fun nm hn=>hσ nm (LG _ _ _ hsub nm hn);simp only at hc |-;rw[<-hM.sp (AY g) σ σ' _ hσ2,<-MY _ _ hσ2,<-Ri hσ2,<-Jj (f:=BJ σ) (g:=BJ σ') _ (MX hσ2)];split at hc
  ·rename_i out1 hsp;cases hc;exact⟨rfl,fun e2=>by simp⟩
  ·rename_i hsp;split at hc
   ·rename_i hio;simp only[hio,if_true];split at hc
    ·rename_i out1 ho;cases hc;exact⟨rfl,fun e2=>by simp[hM.io (AY g) dst σ σ' _ _ hσ2 ho hst]⟩
    ·cases hc
   rename_i hio;simp only[hio,Z0,if_false];rw[hyv] at hc |-;simp only[Z0,if_false] at hc |-;split at hc
   ·rename_i hS;split at hc
    ·rename_i r obs u hcall;cases hc;exact⟨rfl,fun e2=>by simp[hS,hcall]⟩
    ·cases hc
   ·rename_i hS;obtain⟨hk,hc2⟩:=DT hc;split at hc2
    ·rename_i r obs u hcall;cases hc2;exact⟨rfl,fun e2=>by simp[hS,hk,hcall,AI]⟩
    ·cases hc2
 | _=>rw[hv] at hc;simp at hc
end
end Go.Ab


namespace Go.Ab
section swap
variable {M:Bf} {E:Type} {h:Ay E} {dep:Nat} {rops:List AX}
theorem Pu {i:Nat} {o:AX} {st:St} {e e1:E} {out:AO} {info:C9} (hx:B8 M h dep rops i o st e=some (out,e1,info)):info.dst=o.dst:=by
 unfold B8 at hx;split at hx
 ·split at hx;·cases hx;rfl
  ·cases hx
 ·cases hx;rfl
 ·cases hx
theorem xs_isCall (op:AC):Fh op=true->∃ f args,op=.call f args:=by
 cases op<;>simp[Fh]
theorem M8 {tm tm':List PV} {l:List Nat} (h:∀ s∈l,tm.getD s .undef=tm'.getD s .undef):(l.flatMap fun s=>(tm'.getD s .undef).names)=l.flatMap fun s=>(tm.getD s .undef).names:=by
 rw[cU,cU,aD fun s hs=>by rw[<-h s hs]]
theorem Yx {op:AC} {tm tm':List PV} (h:∀ x∈op.xs,x.ev tm=x.ev tm'):Hr op tm=Hr op tm':=by
 cases op<;>try rfl
 rename_i f args;unfold Hr;simp only
 rw[h f (by simp[AC.xs]),H4 (xs:=args) fun x hx=>h x (by simp[AC.xs,hx])]
theorem GH (hM:GD M) {i:Nat} {o:AX} {st st':St} {e e1:E} {out:AO} {info:C9} (hx:B8 M h dep rops i o st e=some (out,e1,info)) (hc:info.cls=.quiet\/info.cls=.turns)
  (h1:∀ s∈info.reads,st.tmps.getD s .undef=st'.tmps.getD s .undef) (h2:∀ nm∈info.rn,Ak st.objs nm=Ak st'.objs nm) (h3:FB o st'=FB o st) :
  (CC out=true\/EL out=true)/\e1=e/\∀ e2:E,B8 M h dep rops i o st' e2=some (out,e2,info):=by
 have hw:(∀ s∈Gj rops o,st.tmps.getD s .undef=st'.tmps.getD s .undef)->DX rops o st'.tmps=DX rops o st.tmps:=by
  intro hg;unfold DX Gj at *;cases hgu:o.guard with
  | none=>rfl
  | some jw =>
   obtain⟨j,want⟩:=jw;rw[hgu] at hg;simp only at hg |-;cases hj:rops[j]? with
   | none=>rfl
   | some p =>
    rw[hj] at hg;simp only at hg |-;cases hd:p.dst with
    | none=>rfl
    | some d =>
     rw[hd] at hg;simp only
     rw[hg d (by simp)]
 unfold B8 at hx;split at hx
 ·rename_i hwt;split at hx
  ·rename_i out' e1' hout;cases hx;simp only[GR] at h1 h2 hc
   have hyn0:(Fh o.op&&BI (o.op.xs.map (RX.ev st.tmps)))=false:=by
    cases hb:(Fh o.op&&BI (o.op.xs.map (RX.ev st.tmps))) with
    | false=>rfl
    | true =>
     cases hy:Hr o.op st.tmps<;>simp[hb,hy] at hc
   have hyn:Fh o.op=true->BI (o.op.xs.map (RX.ev st.tmps))=false:=fun h=>by rw[h] at hyn0;simpa using hyn0
   have hst:CC out=true\/EL out=true:=by
    rw[hyn0] at hc;cases hb:CC out with
    | true=>exact .inl rfl
    | false =>
     cases hb2:EL out with
     | true=>exact .inr rfl
     | false=>rw[hb,hb2] at hc;simp at hc
   have hxs:∀ x∈o.op.xs,x.ev st.tmps=x.ev st'.tmps:=by
    intro x hx;cases x with
    | c v=>rfl
    | t s=>exact h1 s (ak _ (cF.2 ⟨.t s,hx,rfl⟩))
   have hfr:=h3;have hwt':=hw fun s hs=>h1 s (aw _ hs)
   have h2':(HV o.op&&CC out)=false->Ag (Bb (Ak st.objs) (Jt o.op (CC out)) (AR (o.op.xs.map (RX.ev st.tmps))++out.frz)) (Ak st.objs) (Ak st'.objs):=fun hb=>by
    unfold FP at h2;rw[if_neg (by rw[hb];simp)] at h2;exact h2
   have hrn:FP o st' out=FP o st out:=by
    unfold FP;rw[<-H4 hxs];cases hb:(HV o.op&&CC out) with
    | true=>rfl
    | false=>rw[<-MY _ _ (h2' hb)]
   have hrv:J7 (Ak st'.objs) (FP o st out)=J7 (Ak st.objs) (FP o st out):=by
    unfold J7;rw[cU,cU,aD fun nm hn=>by rw[<-h2 nm hn]]
   have hinfo:GR rops i o st' out=GR rops i o st out:=by
    unfold GR;rw[hrn,hrv,<-Yx hxs,<-H4 hxs,M8 h1]
   have h2s:(HV o.op&&CC out)=false->Ag (Bb (Ak st.objs) (Jt o.op (CC out)) (AR (o.op.xs.map (RX.ev st.tmps)))) (Ak st.objs) (Ak st'.objs):=fun hb nm hn =>
    h2' hb nm (LG _ _ _ (fun m hm=>ak _ hm) nm hn)
   unfold DG at hout;obtain⟨hf,hout⟩:=Bn hout
   have key:e1=e/\∀ e2:E,DG M h dep o st' e2=some (out,e2):=by
    unfold DG;rw[hfr,hf];cases hic:Fh o.op with
    | true =>
     obtain⟨f,args,hop⟩:=xs_isCall _ hic;have hyn:=hyn hic;rw[hop] at hout hxs h2s hyn;rw[hop];obtain⟨hout,hgd⟩:=Re hout;obtain⟨g1,g2⟩:=ZU (σ:=Ak st.objs) (σ':=Ak st'.objs) (tm:=st.tmps) (tm':=st'.tmps) hM hxs (h2s rfl) hyn hst hout;exact⟨g1,fun e2=>by simp[AI,g2 e2,hgd]⟩
    | false =>
     have hout':exec (o.dst.getD 0) (Ak st.objs) st.tmps o.op=some out/\e1=e:=by
      cases hop:o.op<;>rw[hop] at hout hic<;>simp[Fh] at hic<;>(simp only at hout;split at hout<;>simp_all)
     have hcg:exec (o.dst.getD 0) (Ak st.objs) st.tmps o.op=exec (o.dst.getD 0) (Ak st'.objs) st'.tmps o.op:=by
      cases hb:(HV o.op&&CC out) with
      | true=>exact ZM o.op (by revert hb;cases HV o.op<;>simp) hxs
      | false =>
       have h2q:=h2s hb;unfold Jt at h2q;cases hl:(FH o.op&&CC out) with
       | true =>
        rw[if_pos hl] at h2q;exact exec_load o.op (by revert hl;cases FH o.op<;>simp) hxs h2q
       | false =>
        rw[if_neg (by rw[hl];simp)] at h2q;exact UI o.op hxs h2q
     rw[hout'.1] at hcg;refine⟨hout'.2,fun e2=>?_⟩;cases hop:o.op<;>rw[hop] at hcg hic<;>simp[Fh] at hic<;>simp[AI,<-hcg]
   refine⟨hst,key.1,fun e2=>?_⟩;unfold B8;rw[hwt',hwt];simp only[key.2 e2,hinfo]
  ·cases hx
 ·rename_i hwt;cases hx;refine⟨.inl rfl,rfl,fun e2=>?_⟩;unfold B8;rw[hw fun s hs=>h1 s hs,hwt,M8 h1]
 ·cases hx
theorem ON {st:St} {dst:Option Nat} {out:AO} (hs:CC out=true):apply st dst out=match dst with
  | some d=>{st with tmps:=st.tmps.set d out.v,objs:=if out.new.isEmpty then st.objs else st.objs.set d out.new}
  | none=>st:=by
 unfold CC at hs;simp only[Z2,cV,aY] at hs;obtain⟨⟨⟨⟨⟨h1,h2⟩,h3⟩,h4⟩,h5⟩,h6⟩:=hs;unfold apply;rw[h1,h2,h3,h4,h5,h6];cases dst<;>simp
theorem Jk {st:St} {dst:Option Nat} {out:AO} (hs:CC out=true) {s:Nat} (h:s ∉ dst.toList):(apply st dst out).tmps.getD s .undef=st.tmps.getD s .undef:=by
 rw[ON hs];cases dst with
 | none=>rfl
 | some d =>
  have hne:d≠s:=fun e=>h (by simp[e]);simp only[Z9,aB hne]
theorem Jl {st:St} {dst:Option Nat} {out:AO} (hs:CC out=true) {nm:Nm} (h:nm.1 ∉ dst.toList):Ak (apply st dst out).objs nm=Ak st.objs nm:=by
 rw[ON hs];cases dst with
 | none=>rfl
 | some d =>
  have hne:nm.1≠d:=fun e=>h (by simp[e]);simp only
  split;·rfl
  ·exact Gh _ hne
theorem Wq {o:AX} {st st':St} (h:∀ d,o.dst=some d->((st'.objs[d]?).map List.isEmpty=(st.objs[d]?).map List.isEmpty)):FB o st'=FB o st:=by
 unfold FB;cases hm:Lg o.op with
 | false=>rfl
 | true =>
  simp only[if_true];cases hd:o.dst with
  | none=>rfl
  | some d =>
   have:=h d hd;simp only
   cases h1:st'.objs[d]? with
   | none=>rw[h1] at this;cases h2:st.objs[d]? with
    | none=>rfl
    | some l=>rw[h2] at this;cases this
   | some l'=>rw[h1] at this;cases h2:st.objs[d]? with
    | none=>rw[h2] at this;cases this
    | some l =>
     rw[h2] at this;simp only[ao,Z6] at this;cases l<;>cases l'<;>simp_all
theorem Jf {st:St} {dst:Option Nat} {out:AO} (hs:CC out=true) {o:AX} (h:∀ d,o.dst=some d->d ∉ dst.toList):FB o (apply st dst out)=FB o st:=by
 refine Wq fun d' hd'=>?_;have h:=h d' hd';rw[ON hs];cases dst with
 | none=>rfl
 | some d =>
  have hne:d≠d':=fun e=>h (by simp[e]);simp only
  split;·rfl
  ·rw[aB hne]
def C7 (u:Option (Nm×Ob)) (st:St):St :=
 match u with
 | some (nm,ob)=>{st with objs:=Bl st.objs nm ob}
 | none=>st
def Ft (σ:Nm->Option Ob) (R:List Nm) (st:St):St:=if R.isEmpty then st else CZ σ R st
def Ek (k:Option Nm) (st:St):St :=
 match k with
 | some nm=>D7 (fun m=>if m=nm then some none else none) st
 | none=>st
def zs (o:AO):List Nm:=o.frz++o.kill.toList
def Di (dst:Option Nat) (v:PV) (new:List Ob) (st:St):St :=
 match dst with
 | some d=>{st with tmps:=st.tmps.set d v,objs:=if new.isEmpty then st.objs else st.objs.set d new}
 | none=>st
theorem Gi {st:St} {dst:Option Nat} {out:AO} (hs:CC out=true):apply st dst out=Di dst out.v out.new st:=by
 rw[ON hs];cases dst<;>rfl
theorem Ji {st:St} {dst:Option Nat} {out:AO} (hs:EL out=true):apply st dst out=Di dst out.v out.new (Ft (Ak st.objs) out.frz (Ek out.kill (C7 out.upd st))):=by
 unfold EL at hs;simp only[Z2,cV,aY] at hs;obtain⟨⟨⟨h2,h3⟩,h4⟩,_⟩:=hs;unfold apply;rw[h2,h3,h4];unfold Ft;cases hu:out.upd<;>cases hk:out.kill<;>cases dst<;>cases hf:out.frz<;>simp[Di,C7,Ek]
theorem O2 {d d':Option Nat} (h:∀ x∈d'.toList,x ∉ d.toList) (v v':PV) (n n':List Ob) (st:St):Di d v n (Di d' v' n' st)=Di d' v' n' (Di d v n st):=by
 cases d with
 | none=>rfl
 | some x =>
  cases d' with
  | none=>rfl
  | some y =>
   have hne:x≠y:=fun e=>h y (by simp) (by simp[e]);simp only[Di,St.mk.injEq];refine⟨cE _ _ hne.symm,?_,trivial⟩;split<;>split<;>simp_all [cE]
theorem U8 {objs:List (List Ob)} {nm:Nm} {o:Ob} {d:Nat} {new:List Ob} (h:nm.1≠d):Bl (objs.set d new) nm o=(Bl objs nm o).set d new:=by
 unfold Bl;rw[aB (aH h)];cases hg:objs[nm.1]? with
 | none=>rfl
 | some l=>simp only;rw[cE _ _ (aH h)]
theorem updP_setD {u:Option (Nm×Ob)} {d:Option Nat} (h:∀ p,u=some p->p.1.1 ∉ d.toList) (v:PV) (n:List Ob) (st:St):C7 u (Di d v n st)=Di d v n (C7 u st):=by
 cases u with
 | none=>rfl
 | some p =>
  obtain⟨nm,ob⟩:=p;cases d with
  | none=>rfl
  | some d =>
   have hne:nm.1≠d:=fun e=>h _ rfl (by simp[e]);simp only[C7,Di,St.mk.injEq,true_and,and_true];split;·rfl
   ·exact U8 hne
theorem puts_set {d:Nat} {new:List Ob}:∀ (R:List Nm) (objs:List (List Ob)),(∀ nm∈R,nm.1≠d)->R.foldl (fun objs nm=>Bl objs nm Bz) (objs.set d new)=(R.foldl (fun objs nm=>Bl objs nm Bz) objs).set d new:=by
 intro R;induction R with
 | nil=>intro objs _;rfl
 | cons nm R ih =>
  intro objs h;simp only[bJ];rw[U8 (h nm aq),ih _ fun m hm=>h m (ap _ hm)]
theorem Mh (x:PV) {f:Nm->Option (Option Ob)} (h:∀ nm∈x.names,f nm=none):x.sub f=x:=by
 rw[PV.sub_congr (f:=f) (g:=fun _=>none) x h];exact sub_id x
theorem frzP_setD {R:List Nm} {d:Option Nat} {σ σ':Nm->Option Ob} {v:PV} {n:List Ob} (hσ:∀ nm∈R,BJ σ' nm=BJ σ nm) (h:∀ nm∈R,nm.1 ∉ d.toList) (hv:R≠[]->∀ nm∈v.names,nm ∉ R) (hn:R≠[]->∀ o∈n,∀ nm∈o.names,nm ∉ R) (st:St) :
  Ft σ' R (Di d v n st)=Di d v n (Ft σ R st):=by
 unfold Ft;by_cases hR:R=[]
 ·subst hR;rfl
 have hE:R.isEmpty=false:=by cases R<;>simp_all
 have hf:(fun m=>if R.contains m then BJ σ' m else none)=(fun m=>if R.contains m then BJ σ m else none):=by
  funext m;by_cases hm:R.contains m=true
  ·rw[if_pos hm,if_pos hm,hσ m (by simpa using hm)]
  ·rw[if_neg hm,if_neg hm]
 simp only[hE,Z0,if_false];unfold CZ;rw[hf];generalize hg:(fun m=>if R.contains m then BJ σ m else none)=f
 have hfn:∀ nm,nm ∉ R->f nm=none:=fun nm h=>by
  rw[<-hg];simp only;rw[if_neg (by simpa using h)]
 cases d with
 | none=>rfl
 | some d =>
  have h':∀ nm∈R,nm.1≠d:=fun nm hm e=>h nm hm (by simp[e]);have hvs:v.sub f=v:=Mh v fun nm hm=>hfn nm (hv hR nm hm)
  have hns:n.map (Ob.sub f)=n:=by
   have:∀ o∈n,Ob.sub f o=o:=fun o ho=>by
    rw[Ob.sub_congr (f:=f) (g:=fun _=>none) o fun nm hm=>hfn nm (hn hR o ho nm hm)];exact Ob.sub_id o
   exact (aD this).trans (List.map_id' n)
  have htm:A2 f (st.tmps.set d v)=(A2 f st.tmps).set d v:=by
   have key:∀ (l:List PV),A2 f l=l.map (PV.sub f):=by
    intro l;induction l with
    | nil=>rfl
    | cons x l ih=>simp only[A2,ZZ,ih]
   rw[key,key,bK,hvs]
  simp only[Di,D7,St.mk.injEq,and_true];refine⟨htm,?_⟩;split;·rfl
  ·rw[bK,hns];exact puts_set R _ h'
theorem Nv (f:Nm->Option (Option Ob)):∀ (l:List PV),A2 f l=l.map (PV.sub f)
 | []=>rfl
 | x :: l=>by simp only[A2,ZZ,Nv f l]
theorem obsub_no {n:List Ob} {f:Nm->Option (Option Ob)} (h:∀ o∈n,∀ nm∈o.names,f nm=none):n.map (Ob.sub f)=n:=by
 have:∀ o∈n,Ob.sub f o=o:=fun o ho=>by
  rw[Ob.sub_congr (f:=f) (g:=fun _=>none) o fun nm hm=>h o ho nm hm];exact Ob.sub_id o
 exact (aD this).trans (List.map_id' n)
theorem Zu {k:Option Nm} {d:Option Nat} {v:PV} {n:List Ob} (hv:∀ nm∈v.names,nm ∉ k.toList) (hn:∀ o∈n,∀ nm∈o.names,nm ∉ k.toList) (st:St):Ek k (Di d v n st)=Di d v n (Ek k st):=by
 cases k with
 | none=>rfl
 | some nm =>
  cases d with
  | none=>rfl
  | some d =>
   have hf:∀ m,m ∉ (some nm).toList->(if m=nm then some none else none:Option (Option Ob))=none:=fun m hm=>if_neg fun e=>hm (by simp[e]);simp only[Ek,Di,D7,St.mk.injEq,and_true];refine⟨by rw[Nv,Nv,bK,Mh v fun m hm=>hf m (hv m hm)],?_⟩;split;·rfl
   ·rw[bK,obsub_no fun o ho m hm=>hf m (hn o ho m hm)]
theorem N3 {out:AO} (hz:zs out=[]):out.frz=[]/\out.kill=none:=by
 unfold zs at hz;obtain⟨h1,h2⟩:=List.append_eq_nil_iff.1 hz;exact⟨h1,by cases hk:out.kill with | none=>rfl | some k=>rw[hk] at h2;cases h2⟩
theorem Uh {st:St} {dst:Option Nat} {out:AO} (hs:EL out=true) (hz:zs out=[]) {s:Nat} (h:s ∉ dst.toList):(apply st dst out).tmps.getD s .undef=st.tmps.getD s .undef:=by
 rw[Ji hs,(N3 hz).1,(N3 hz).2];have:(C7 out.upd st).tmps=st.tmps:=by cases out.upd<;>rfl
 cases dst with
 | none=>simp only[Di,Ft,Ek,bU,if_true];rw[this]
 | some d =>
  have hne:d≠s:=fun e=>h (by simp[e]);simp only[Di,Ft,Ek,bU,if_true,this,Z9,aB hne]
theorem outD_vn {i:Nat} {o:AX} {st:St} {e e1:E} {out:AO} {info:C9} (hx:B8 M h dep rops i o st e=some (out,e1,info)):info.vn=info.reads.flatMap fun s=>(st.tmps.getD s .undef).names:=by
 unfold B8 at hx;split at hx
 ·split at hx;·cases hx;rfl
  ·cases hx
 ·cases hx;rfl
 ·cases hx
theorem Xz {st:St} {dst:Option Nat} {out:AO} (hs:EL out=true) {s:Nat} (h:s ∉ dst.toList) (hn:∀ nm∈(st.tmps.getD s .undef).names,nm ∉ zs out):(apply st dst out).tmps.getD s .undef=st.tmps.getD s .undef:=by
 rw[Ji hs];have hu:(C7 out.upd st).tmps=st.tmps:=by cases out.upd<;>rfl
 have key:∀ (f:Nm->Option (Option Ob)) (l:List PV),(A2 f l).getD s .undef=(l.getD s .undef).sub f:=by
  intro f l;rw[Nv,Z9,Z9,aa];cases l[s]?<;>rfl
 have hk:(Ek out.kill (C7 out.upd st)).tmps.getD s .undef=st.tmps.getD s .undef:=by
  cases hq:out.kill with
  | none=>exact congrArg (fun l=>l.getD s .undef) hu
  | some k =>
   show (A2 _ (C7 out.upd st).tmps).getD s .undef=_;rw[hu,key];exact Mh _ fun nm hm=>if_neg fun e=>hn nm hm (by unfold zs;rw[hq];simp[e])
 have hf:∀ σ,(Ft σ out.frz (Ek out.kill (C7 out.upd st))).tmps.getD s .undef=st.tmps.getD s .undef:=by
  intro σ;unfold Ft;split;·exact hk
  ·unfold CZ;show (A2 _ (Ek out.kill (C7 out.upd st)).tmps).getD s .undef=_;rw[key,hk]
   exact Mh _ fun nm hm=>by
    have:=hn nm hm;rw[if_neg (by unfold zs at this;simp at this |-;exact this.1)]
 cases dst with
 | none=>simp only[Di];exact hf _
 | some d =>
  have hne:d≠s:=fun e=>h (by simp[e]);simp only[Di];rw[Z9,aB hne,<-Z9];exact hf _
theorem Ui {st:St} {dst:Option Nat} {out:AO} (hs:EL out=true) (hz:zs out=[]) {nm:Nm} (ht:nm ∉ Fv out) (h:nm.1 ∉ dst.toList):Ak (apply st dst out).objs nm=Ak st.objs nm:=by
 rw[Ji hs,(N3 hz).1,(N3 hz).2]
 have:Ak (C7 out.upd st).objs nm=Ak st.objs nm:=by
  unfold Fv at ht;cases hu:out.upd with
  | none=>rfl
  | some p =>
   obtain⟨m,ob⟩:=p;rw[hu] at ht;simp only[aJ] at ht;exact Hz ob ht
 cases dst with
 | none=>simp only[Di,Ft,Ek,bU,if_true];exact this
 | some d =>
  have hne:nm.1≠d:=fun e=>h (by simp[e]);simp only[Di,Ft,Ek,bU,if_true];split;·exact this
  ·rw[Gh _ hne];exact this
theorem XA {st:St} {dst:Option Nat} {out:AO} (hs:EL out=true) {nm:Nm} (ht:nm ∉ Fv out++zs out) (h:nm.1 ∉ dst.toList) (hn:∀ ob,Ak st.objs nm=some ob->∀ m∈ob.names,m ∉ zs out) :
  Ak (apply st dst out).objs nm=Ak st.objs nm:=by
 rw[Ji hs]
 have hu:Ak (C7 out.upd st).objs nm=Ak st.objs nm:=by
  cases hq:out.upd with
  | none=>rfl
  | some p =>
   obtain⟨m,ob⟩:=p;exact Hz ob fun e=>ht (ak _ (by unfold Fv;rw[hq];simp[e]))
 have hsub:∀ {σ:List (List Ob)} {f:Nm->Option (Option Ob)},Ak σ nm=Ak st.objs nm->(∀ m,m ∉ zs out->f m=none)->Ak (σ.map (·.map (Ob.sub f))) nm=Ak st.objs nm:=by
  intro σ f hσ hf;rw[Fw,hσ];cases hq:Ak st.objs nm with
  | none=>rfl
  | some ob =>
   simp only[ao,Z6];rw[Ob.sub_congr (f:=f) (g:=fun _=>none) ob fun m hm=>hf m (hn ob hq m hm)];exact Ob.sub_id ob
 have hk:Ak (Ek out.kill (C7 out.upd st)).objs nm=Ak st.objs nm:=by
  cases hq:out.kill with
  | none=>exact hu
  | some k=>exact hsub hu fun m hm=>if_neg fun e=>hm (by unfold zs;rw[hq];simp[e])
 have hf:Ak (Ft (Ak st.objs) out.frz (Ek out.kill (C7 out.upd st))).objs nm=Ak st.objs nm:=by
  unfold Ft;split;·exact hk
  ·unfold CZ;simp only
   rw[O8,if_neg fun hm=>ht (aw _ (ak _ hm))];exact hsub hk fun m hm=>if_neg fun e=>hm (ak _ (by simpa using e))
 cases dst with
 | none=>exact hf
 | some d =>
  have hne:nm.1≠d:=fun e=>h (by simp[e]);simp only[Di];split;·exact hf
  ·rw[Gh _ hne];exact hf
theorem outD_rv {i:Nat} {o:AX} {st:St} {e e1:E} {out:AO} {info:C9} (hx:B8 M h dep rops i o st e=some (out,e1,info)):info.rv=if FH o.op then [] else J7 (Ak st.objs) info.rn:=by
 unfold B8 at hx;split at hx
 ·split at hx;·cases hx;rfl
  ·cases hx
 ·cases hx;show ([]:List Nm)=_;cases FH o.op<;>rfl
 ·cases hx
def Gk (g:PV->PV):Ob->Ob
 | .cells ty cs=>.cells ty (cs.map g)
 | o=>o
def Ls (g:PV->PV) (S:List Nm):Prop:=∀ v:PV,(∀ m∈v.names,m∈S)->g v=v
theorem sel_keeps {g:PV->PV} {S:List Nm} (hg:Ls g S) {cs:List PV} {o n:Nat} {ag:Bool} {v:PV} (h:BG cs o n ag=some v) (hv:∀ m∈v.names,m∈S):BG (cs.map g) o n ag=some v:=by
 unfold BG at h |-;cases ag with
 | true =>
  simp only[if_true] at h |-;obtain⟨h1,h2⟩:=Bn h;cases h2;simp only[decide_eq_true_eq] at h1
  have e:((cs.map g).drop o).take n=(cs.drop o).take n:=by
   rw[<-List.map_drop,<-List.map_take];refine (aD fun x hx=>hg x fun m hm=>hv m ?_).trans (List.map_id' _);rw[PV.names];exact TI hx m hm
  rw[e];simp[AI,h1]
 | false =>
  simp only[Z0,if_false] at h |-;rw[aa,h];exact congrArg some (hg v hv)
theorem Xs {d:Nat} {σ σ':Nm->Option Ob} {tm:List PV} {n:Nat} {ag:Bool} {x:RX} {out:AO} (h:exec d σ tm (.load n ag x)=some out) (hσ:∀ nm∈(x.ev tm).names,∃ g,Ls g out.v.names/\σ' nm=(σ nm).map (Gk g)):exec d σ' tm (.load n ag x)=some out:=by
 simp only[exec] at h |-;cases hx:x.ev tm with
 | ref nm o =>
  rw[hx] at h hσ;simp only at h |-;obtain⟨g,hg,hs⟩:=hσ nm (by simp[PV.names]);rw[hs];cases hq:σ nm with
  | none=>rw[hq] at h;cases h
  | some ob =>
   rw[hq] at h;cases ob with
   | cells ty cs =>
    simp only[ao,Gk] at h |-;obtain⟨v,hv,rfl⟩:=Z3.1 h;rw[sel_keeps hg hv fun m hm=>hm];rfl
   | arr k kt xs=>cases h
   | map es=>cases h
   | siter s pos=>cases h
 | aref nm k i o =>
  rw[hx] at h hσ;simp only at h |-;obtain⟨g,hg,hs⟩:=hσ nm (by simp[PV.names]);rw[hs];cases hq:σ nm with
  | none=>rw[hq] at h;cases h
  | some ob =>
   rw[hq] at h;cases ob with
   | cells ty cs=>cases h
   | arr k kt xs=>exact h
   | map es=>cases h
   | siter s pos=>cases h
 | _=>rw[hx] at h;exact h
theorem outD_load {i:Nat} {o:AX} {st st':St} {e e1:E} {out:AO} {info:C9} (hx:B8 M h dep rops i o st e=some (out,e1,info)) (hl:FH o.op=true)
  (h1:∀ s∈info.reads,st.tmps.getD s .undef=st'.tmps.getD s .undef) (h2:∀ nm∈info.rn,∃ g,Ls g info.on/\Ak st'.objs nm=(Ak st.objs nm).map (Gk g)) :
  ∀ e2:E,B8 M h dep rops i o st' e2=some (out,e2,info):=by
 intro e2;obtain⟨dst,op,gu⟩:=o;cases op<;>simp only[FH,Z0] at hl;rename_i n ag x
 have hw:(∀ s∈Gj rops ⟨dst,.load n ag x,gu⟩,st.tmps.getD s .undef=st'.tmps.getD s .undef)->DX rops ⟨dst,.load n ag x,gu⟩ st'.tmps=DX rops ⟨dst,.load n ag x,gu⟩ st.tmps:=by
  intro hg;unfold DX Gj at *;cases hgu:gu with
  | none=>rfl
  | some jw =>
   obtain⟨j,want⟩:=jw;rw[hgu] at hg;simp only at hg |-;cases hj:rops[j]? with
   | none=>rfl
   | some p =>
    rw[hj] at hg;simp only at hg |-;cases hd:p.dst with
    | none=>rfl
    | some d =>
     rw[hd] at hg;simp only
     rw[hg d (by simp)]
 unfold B8 at hx |-;cases hwt:DX rops ⟨dst,.load n ag x,gu⟩ st.tmps with
 | none=>rw[hwt] at hx;cases hx
 | some b =>
  rw[hwt] at hx;cases b with
  | false =>
   simp only at hx;cases hx;rw[hw fun s hs=>h1 s hs,hwt];simp only[Z6,aC,true_and];congr 1;exact M8 h1
  | true =>
   simp only at hx;cases hout:DG M h dep ⟨dst,.load n ag x,gu⟩ st e with
   | none=>rw[hout] at hx;cases hx
   | some q =>
    obtain⟨out',e'⟩:=q;rw[hout] at hx;simp only at hx
    obtain⟨rfl,rfl,rfl⟩:out'=out/\e'=e1/\GR rops i ⟨dst,.load n ag x,gu⟩ st out'=info:=by
     simp only[Z6,aC] at hx;exact hx
    have hxe:x.ev st.tmps=x.ev st'.tmps:=by
     cases x with
     | c v=>rfl
     | t s=>exact h1 s (ak _ (cF.2 ⟨.t s,by simp[AC.xs],rfl⟩))
    unfold DG at hout;obtain⟨_,hout⟩:=Bn hout;simp only at hout;cases hex:exec (dst.getD 0) (Ak st.objs) st.tmps (.load n ag x) with
    | none=>rw[hex] at hout;cases hout
    | some o2 =>
     rw[hex] at hout;simp only[Z6,aC] at hout;obtain⟨rfl,rfl⟩:=hout
     have hstay:CC o2=true:=by
      simp only[exec] at hex;split at hex
      ·split at hex;·obtain⟨v,_,rfl⟩:=Z3.1 hex;rfl
       ·cases hex
      ·obtain⟨v,_,rfl⟩:=Z3.1 hex;rfl
      ·split at hex
       ·split at hex
        ·obtain⟨_,hex⟩:=Bn hex;obtain⟨v,_,rfl⟩:=Z3.1 hex;rfl
        ·cases hex
       ·cases hex
      ·cases hex
     have hfz:o2.frz=[]:=by
      unfold CC at hstay;simp only[Z2,aY] at hstay;exact hstay.1.1.1.2
     have hrn:∀ s:St,FP ⟨dst,.load n ag x,gu⟩ s o2=(x.ev s.tmps).names:=by
      intro s;unfold FP;rw[if_neg (by simp[HV])];simp[Jt,FH,hstay,Bb,AC.xs,AR,hfz]
     have hσ:∀ nm∈(x.ev st.tmps).names,∃ g,Ls g o2.v.names/\Ak st'.objs nm=(Ak st.objs nm).map (Gk g):=by
      intro nm hn;obtain⟨g,hg,hq⟩:=h2 nm (by show nm∈FP ⟨dst,.load n ag x,gu⟩ st o2;rw[hrn];exact hn);exact⟨g,fun v hv=>hg v fun m hm=>ak _ (hv m hm),hq⟩
     have hex2:=Xs hex hσ
     have hexd:exec (dst.getD 0) (Ak st'.objs) st'.tmps (.load n ag x)=some o2:=by
      rw[<-hex2];simp only[exec,hxe]
     have hout2:DG M h dep ⟨dst,.load n ag x,gu⟩ st' e2=some (o2,e2):=by
      unfold DG;simp[FB,Lg,AI,hexd]
     rw[hw fun s hs=>h1 s (aw _ hs),hwt];simp only[hout2,Z6,aC,true_and];unfold GR;simp only[hrn,FH,if_true,<-hxe];congr 1;exact M8 h1
theorem Xt {st:St} {dst:Option Nat} {out:AO} (hs:EL out=true) {nm:Nm} (ht:nm ∉ Fv out++zs out) (h:nm.1 ∉ dst.toList) {S:List Nm} (hS:∀ m∈S,m ∉ zs out) :
  ∃ g,Ls g S/\Ak (apply st dst out).objs nm=(Ak st.objs nm).map (Gk g):=by
 rw[Ji hs]
 have hu:Ak (C7 out.upd st).objs nm=Ak st.objs nm:=by
  cases hq:out.upd with
  | none=>rfl
  | some p =>
   obtain⟨m,ob⟩:=p;exact Hz ob fun e=>ht (ak _ (by unfold Fv;rw[hq];simp[e]))
 have hmap:∀ (f:Nm->Option (Option Ob)) (x:Option Ob),x.map (Ob.sub f)=x.map (Gk (PV.sub f)):=by
  intro f x;cases x with
  | none=>rfl
  | some ob=>cases ob<;>simp[Ob.sub,Gk,Nv]
 have hcomp:∀ (g g':PV->PV) (x:Option Ob),(x.map (Gk g)).map (Gk g')=x.map (Gk (g'∘g)):=by
  intro g g' x;cases x with
  | none=>rfl
  | some ob=>cases ob<;>simp[Gk]
 have hk:∃ g,Ls g S/\Ak (Ek out.kill (C7 out.upd st)).objs nm=(Ak st.objs nm).map (Gk g):=by
  cases hq:out.kill with
  | none =>
   refine⟨id,fun v _=>rfl,?_⟩;show Ak (C7 out.upd st).objs nm=_;rw[hu];cases Ak st.objs nm with
   | none=>rfl
   | some ob=>cases ob<;>simp[Gk]
  | some k =>
   refine⟨PV.sub fun m=>if m=k then some none else none,fun v hv=>Mh v fun m hm=>if_neg fun e=>hS m (hv m hm) (by unfold zs;rw[hq,e];simp),?_⟩;show Ak ((C7 out.upd st).objs.map _) nm=_;rw[Fw,hu,hmap]
 obtain⟨g,hg,hk⟩:=hk
 have hf:∃ g,Ls g S/\Ak (Ft (Ak st.objs) out.frz (Ek out.kill (C7 out.upd st))).objs nm=(Ak st.objs nm).map (Gk g):=by
  unfold Ft;split;·exact⟨g,hg,hk⟩
  ·unfold CZ;simp only
   rw[O8,if_neg fun hm=>ht (aw _ (ak _ hm))];refine⟨PV.sub (fun m=>if out.frz.contains m then BJ (Ak st.objs) m else none)∘g,fun v hv=>?_,?_⟩
   ·show PV.sub _ (g v)=v;rw[hg v hv];exact Mh v fun m hm=>if_neg fun e=>hS m (hv m hm) (ak _ (by simpa using e))
   ·show Ak ((Ek out.kill (C7 out.upd st)).objs.map _) nm=_;rw[Fw,hk,hmap,hcomp]
 obtain⟨g2,hg2,hf⟩:=hf;refine⟨g2,hg2,?_⟩;cases dst with
 | none=>exact hf
 | some d =>
  have hne:nm.1≠d:=fun e=>h (by simp[e]);simp only[Di];split;·exact hf
  ·rw[Gh _ hne];exact hf
theorem puts_get {d:Nat}:∀ (R:List Nm) (objs:List (List Ob)),(∀ nm∈R,nm.1≠d)->(R.foldl (fun objs nm=>Bl objs nm Bz) objs)[d]?=objs[d]?:=by
 intro R;induction R with
 | nil=>intro objs _;rfl
 | cons nm R ih =>
  intro objs h;simp only[bJ];rw[ih _ fun m hm=>h m (ap _ hm)];unfold Bl;cases objs[nm.1]? with
  | none=>rfl
  | some l=>simp only;rw[aB (h nm aq)]
theorem Rf {st:St} {dst:Option Nat} {out:AO} (hs:EL out=true) {o:AX} (h:∀ d,o.dst=some d->d ∉ dst.toList) (ht:∀ nm∈Fv out++zs out,nm.1 ∉ o.dst.toList):FB o (apply st dst out)=FB o st:=by
 refine Wq fun d' hd'=>?_;have h:=h d' hd';rw[Ji hs]
 have h1:((C7 out.upd st).objs[d']?)=st.objs[d']?:=by
  cases hu:out.upd with
  | none=>rfl
  | some p =>
   obtain⟨m,ob⟩:=p;have:m.1≠d':=fun e=>ht m (ak _ (by unfold Fv;rw[hu];simp)) (by rw[hd',e];simp);simp only[C7];unfold Bl;cases st.objs[m.1]? with
   | none=>rfl
   | some l=>simp only;rw[aB this]
 have hk:((Ek out.kill (C7 out.upd st)).objs[d']?).map List.isEmpty=(st.objs[d']?).map List.isEmpty:=by
  cases out.kill with
  | none=>show ((C7 out.upd st).objs[d']?).map List.isEmpty=_;rw[h1]
  | some k =>
   simp only[Ek,D7];rw[aa,h1];cases st.objs[d']? with
   | none=>rfl
   | some l=>cases l<;>rfl
 have h2:((Ft (Ak st.objs) out.frz (Ek out.kill (C7 out.upd st))).objs[d']?).map List.isEmpty=(st.objs[d']?).map List.isEmpty:=by
  unfold Ft;split;·exact hk
  ·unfold CZ;simp only
   rw[puts_get _ _ fun nm hn e=>ht nm (aw _ (ak _ hn)) (by rw[hd',e];simp)];simp only[D7];rw[aa,<-hk];cases (Ek out.kill (C7 out.upd st)).objs[d']? with
   | none=>rfl
   | some l=>cases l<;>rfl
 cases dst with
 | none=>exact h2
 | some d =>
  have hne:d≠d':=fun e=>h (by simp[e]);simp only[Di];split;·exact h2
  ·rw[aB hne];exact h2
theorem H5 {a b:List Nat} (h:H9 a b=true):∀ x∈b,x ∉ a:=by
 intro x hx ha;have:=an.1 h x ha;simp at this;exact this hx
theorem O5 {i:Nat} {o:AX} {st:St} {e e1:E} {out:AO} {info:C9} (hx:B8 M h dep rops i o st e=some (out,e1,info)) :
  (info.cls=.quiet->CC out=true)/\(info.cls=.turns->EL out=true/\info.tch=Fv out++zs out/\info.frz=!(zs out).isEmpty/\∀ nm∈Bb (Ak st.objs) AW out.frz,nm∈info.rn) /\
   (∀ nm∈out.v.names,nm∈info.on)/\(∀ ob∈out.new,∀ nm∈ob.names,nm∈info.on):=by
 unfold B8 at hx;split at hx
 ·split at hx
  ·rename_i out' e1' hout;cases hx;unfold GR;simp only
   refine⟨fun hc=>?_,fun hc=>?_,fun nm hn=>ak _ hn,fun ob ho nm hn=>aw _ (bE.2 ⟨ob,ho,hn⟩)⟩
   ·split at hc;·split at hc<;>cases hc
    ·split at hc;·assumption
     ·split at hc<;>cases hc
   ·split at hc;·split at hc<;>cases hc
    ·split at hc;·cases hc
     ·rename_i hns;split at hc
      ·rename_i ht;refine⟨ht,rfl,rfl,fun nm hn=>?_⟩;unfold FP;rw[if_neg (by simp[hns])];rw[show Jt o.op (CC out)=AW by unfold Jt;rw[if_neg (by simp[hns])]];exact LG _ _ _ (fun m hm=>aw _ hm) nm hn
      ·cases hc
  ·cases hx
 ·cases hx;exact⟨fun _=>rfl,fun hc=>by (cases hc),fun nm hn=>by (simp[PV.names,AR] at hn),fun ob ho=>by (cases ho)⟩
 ·cases hx
theorem Xh {st:St} {dq dt:Option Nat} {oq ot:AO} (hq:CC oq=true) (ht:EL ot=true) (hd:∀ x∈dt.toList,x ∉ dq.toList) (hd':∀ x∈dq.toList,x ∉ dt.toList)
  (htch:∀ nm∈Fv ot++zs ot,nm.1 ∉ dq.toList) (hσ:∀ nm∈ot.frz,BJ (Ak (apply st dq oq).objs) nm=BJ (Ak st.objs) nm)
  (hv:zs ot≠[]->∀ nm∈oq.v.names,nm ∉ zs ot) (hn:zs ot≠[]->∀ o∈oq.new,∀ nm∈o.names,nm ∉ zs ot):apply (apply st dq oq) dt ot=apply (apply st dt ot) dq oq:=by
 rw[Ji (st:=apply st dq oq) ht,Gi (st:=apply st dt ot) hq,Ji ht];rw[Gi hq] at hσ |-
 have hz:∀ {nm},nm∈ot.frz\/nm∈ot.kill.toList->zs ot≠[]/\nm∈zs ot:=fun {nm} h=>by
  have hm:nm∈zs ot:=ar.2 h;exact⟨fun e=>by (rw[e] at hm;cases hm),hm⟩
 have hne:ot.frz≠[]->zs ot≠[]:=fun h e=>h (N3 e).1
 rw[updP_setD (fun p hp=>htch p.1 (ak _ (by unfold Fv;rw[hp];simp))),
  Zu (fun nm hm hk=>hv (hz (.inr hk)).1 nm hm (hz (.inr hk)).2) (fun o ho nm hm hk=>hn (hz (.inr hk)).1 o ho nm hm (hz (.inr hk)).2),
  frzP_setD hσ (fun nm hm=>htch nm (aw _ (ak _ hm))) (fun h nm hm hf=>hv (hne h) nm hm (ak _ hf)) (fun h o ho nm hm hf=>hn (hne h) o ho nm hm (ak _ hf)),
  O2 (fun x hx=>hd' x hx)]
theorem swapD0 (hM:GD M) {i j:Nat} {a b:AX} {st:St} {e ea eb:E} {oa ob:AO} {ia ib:C9} (h1:B8 M h dep rops i a st e=some (oa,ea,ia)) (h2:B8 M h dep rops j b (apply st a.dst oa) ea=some (ob,eb,ib))
  (hi:(H9 ia.dst.toList (ib.reads++ib.dst.toList)&&H9 ib.dst.toList ia.reads&&H9 ia.dst.toList (ib.rn.map (·.1))&&H9 ib.dst.toList (ia.rn.map (·.1))&&Tr ia ib)=true):ea=e/\eb=e/\B8 M h dep rops j b st e=some (ob,e,ib)/\B8 M h dep rops i a (apply st b.dst ob) e=some (oa,e,ia)/\apply (apply st a.dst oa) b.dst ob=apply (apply st b.dst ob) a.dst oa:=by
 have da:=Pu h1;have db:=Pu h2;obtain⟨fa1,fa2,fa3,fa4⟩:=O5 h1;obtain⟨fb1,fb2,fb3,fb4⟩:=O5 h2;simp only[Z2] at hi;obtain⟨⟨⟨⟨g1,g2⟩,g3⟩,g4⟩,hC⟩:=hi;rw[da] at g1 g3;rw[db] at g1 g2 g4;have g1:=H5 g1;have g2:=H5 g2;have g3:=H5 g3;have g4:=H5 g4;have gd:∀ x∈b.dst.toList,x ∉ a.dst.toList:=fun x hx=>g1 x (aw _ hx);have gd':∀ x∈a.dst.toList,x ∉ b.dst.toList:=fun x hx hx'=>gd x hx' hx;have gb:∀ d,b.dst=some d->d ∉ a.dst.toList:=fun d hd=>gd d (by rw[hd];simp);have ga:∀ d,a.dst=some d->d ∉ b.dst.toList:=fun d hd=>gd' d (by rw[hd];simp)
 have hno:∀ (l:List Nm) (t:List Nm),(l.all fun nm=>!t.contains nm)=true->∀ nm∈l,nm ∉ t:=fun l t hl nm hm ht=>by
  have:=an.1 hl nm hm;simp at this;exact this ht
 unfold Tr at hC;split at hC
 ·
  rename_i ca cb;have sa:=fa1 ca;have sb:=fb1 cb;obtain⟨_,ea',_⟩:=GH hM (st':=st) h1 (by rw[ca];simp) (fun _ _=>rfl) (fun _ _=>rfl) rfl;subst ea'
  obtain⟨_,eb',mb⟩:=GH hM (st':=st) h2 (by rw[cb];simp) (fun s hs=>Jk sa (g1 s (ak _ hs))) (fun nm hn=>Jl sa (g3 nm.1 (Z4.2 ⟨nm,hn,rfl⟩)))
   (Jf sa gb).symm
  subst eb'
  obtain⟨_,_,ma⟩:=GH hM (st':=apply st b.dst ob) h1 (by rw[ca];simp) (fun s hs=>(Jk sb (g2 s hs)).symm) (fun nm hn=>(Jl sb (g4 nm.1 (Z4.2 ⟨nm,hn,rfl⟩))).symm)
   (Jf sb ga)
  refine⟨rfl,rfl,mb _,ma _,?_⟩;rw[Gi sa,Gi sb,Gi sb,Gi sa];exact O2 gd' _ _ _ _ _
 ·
  rename_i ca cb;have sa:=fa1 ca;obtain⟨sb,tb,zb,rb⟩:=fb2 cb;unfold Qd at hC;simp only[Z2,cd] at hC;obtain⟨⟨c1,c2⟩,c3⟩:=hC;have c1:=hno _ _ c1;rw[da] at c2;have c2:=H5 c2;rw[tb] at c1 c2;have htch:∀ nm∈Fv ob++zs ob,nm.1 ∉ a.dst.toList:=fun nm hm=>c2 nm.1 (Z4.2 ⟨nm,hm,rfl⟩);obtain⟨_,ea',_⟩:=GH hM (st':=st) h1 (by rw[ca];simp) (fun _ _=>rfl) (fun _ _=>rfl) rfl;subst ea'
  obtain⟨_,eb',mb⟩:=GH hM (st':=st) h2 (by rw[cb];simp) (fun s hs=>Jk sa (g1 s (ak _ hs))) (fun nm hn=>Jl sa (g3 nm.1 (Z4.2 ⟨nm,hn,rfl⟩)))
   (Jf sa gb).symm
  subst eb'
  have hz:zs ob=[]\/((∀ s∈ia.reads,∀ nm∈(st.tmps.getD s .undef).names,nm ∉ zs ob)/\(FH a.op=false->∀ nm∈ia.rn,∀ x,Ak st.objs nm=some x->∀ m∈x.names,m ∉ zs ob)/\∀ nm∈ia.on,nm ∉ zs ob):=by
   rcases c3 with c3 | c3
   ·rw[zb] at c3;exact .inl (by simpa using c3)
   ·obtain⟨⟨c5,c4⟩,c6⟩:=c3;simp only[if_true] at c4 c5;refine .inr ⟨fun s hs nm hn hf=>?_,fun hnl nm hn x hx m hm hf=>?_,fun nm hn hf=>?_⟩
    ·have:=hno _ _ c4 nm (by rw[outD_vn h1];exact bE.2 ⟨s,hs,hn⟩);rw[tb] at this;exact this (aw _ hf)
    ·have:=hno _ _ c5 m (by rw[outD_rv h1,hnl];exact bE.2 ⟨nm,hn,by rw[hx];exact hm⟩);rw[tb] at this;exact this (aw _ hf)
    ·have:=hno _ _ c6 nm hn;rw[tb] at this;exact this (aw _ hf)
  have hslots:∀ s∈ia.reads,st.tmps.getD s .undef=(apply st b.dst ob).tmps.getD s .undef:=fun s hs=>by
   rcases hz with hz | hz;·exact (Uh sb hz (g2 s hs)).symm
   ·exact (Xz sb (g2 s hs) (hz.1 s hs)).symm
  have ma:∀ e2:E,B8 M h dep rops i a (apply st b.dst ob) e2=some (oa,e2,ia):=by
   rcases hz with hz | hz;·exact (GH hM (st':=apply st b.dst ob) h1 (by rw[ca];simp) hslots (fun nm hn=>(Ui sb hz (fun hu=>c1 nm hn (ak _ hu)) (g4 nm.1 (Z4.2 ⟨nm,hn,rfl⟩))).symm) (Rf sb ga htch)).2.2
   ·cases hl:FH a.op with
    | false=>exact (GH hM (st':=apply st b.dst ob) h1 (by rw[ca];simp) hslots (fun nm hn=>(XA sb (c1 nm hn) (g4 nm.1 (Z4.2 ⟨nm,hn,rfl⟩)) (hz.2.1 hl nm hn)).symm) (Rf sb ga htch)).2.2
    | true=>exact outD_load h1 hl hslots fun nm hn=>Xt sb (c1 nm hn) (g4 nm.1 (Z4.2 ⟨nm,hn,rfl⟩)) hz.2.2
  refine⟨rfl,rfl,mb _,ma _,Xh sa sb gd gd' htch (fun nm hm=>?_) (fun hne nm hn=>?_) (fun hne o ho nm hn=>?_)⟩;·exact MX (S:=ob.frz) (fun m hm=>Jl sa (g3 m.1 (Z4.2 ⟨m,rb m hm,rfl⟩))) nm hm
  ·rcases hz with hz | hz;·exact absurd hz hne
   ·exact hz.2.2 nm (fa3 nm hn)
  ·rcases hz with hz | hz;·exact absurd hz hne
   ·exact hz.2.2 nm (fa4 o ho nm hn)
 ·
  rename_i ca cb;have sb:=fb1 cb;obtain⟨sa,ta,za,ra⟩:=fa2 ca;unfold Qd at hC;simp only[Z2,cd] at hC;obtain⟨⟨c1,c2⟩,c3⟩:=hC;have c1:=hno _ _ c1;rw[db] at c2;have c2:=H5 c2;rw[ta] at c1 c2;have htch:∀ nm∈Fv oa++zs oa,nm.1 ∉ b.dst.toList:=fun nm hm=>c2 nm.1 (Z4.2 ⟨nm,hm,rfl⟩)
  have hz:zs oa=[]\/(ib.reads=[]/\ib.rn=[]/\∀ nm∈ib.on,nm ∉ zs oa):=by
   rcases c3 with c3 | c3
   ·rw[za] at c3;exact .inl (by simpa using c3)
   ·obtain⟨⟨c5,c4⟩,c6⟩:=c3;refine .inr ⟨by simpa using c4,by simpa using c5,fun nm hn hf=>?_⟩;have:=hno _ _ c6 nm hn;rw[ta] at this;exact this (aw _ hf)
  obtain⟨_,ea',_⟩:=GH hM (st':=st) h1 (by rw[ca];simp) (fun _ _=>rfl) (fun _ _=>rfl) rfl;subst ea'
  obtain⟨_,eb',mb⟩:=GH hM (st':=st) h2 (by rw[cb];simp)
   (fun s hs=>by
    rcases hz with hz | hz;·exact Uh sa hz (g1 s (ak _ hs))
    ·rw[hz.1] at hs;cases hs)
   (fun nm hn=>by
    rcases hz with hz | hz;·exact Ui sa hz (fun hu=>c1 nm hn (ak _ hu)) (g3 nm.1 (Z4.2 ⟨nm,hn,rfl⟩))
    ·rw[hz.2.1] at hn;cases hn)
   (Rf sa gb htch).symm
  subst eb'
  obtain⟨_,_,ma⟩:=GH hM (st':=apply st b.dst ob) h1 (by rw[ca];simp) (fun s hs=>(Jk sb (g2 s hs)).symm) (fun nm hn=>(Jl sb (g4 nm.1 (Z4.2 ⟨nm,hn,rfl⟩))).symm)
   (Jf sb ga)
  refine⟨rfl,rfl,mb _,ma _,(Xh sb sa gd' gd htch (fun nm hm=>?_) (fun hne nm hn=>?_) (fun hne o ho nm hn=>?_)).symm⟩;·exact (MX (S:=oa.frz) (fun m hm=>(Jl sb (g4 m.1 (Z4.2 ⟨m,ra m hm,rfl⟩))).symm) nm hm).symm
  ·rcases hz with hz | hz;·exact absurd hz hne
   ·exact hz.2.2 nm (fb3 nm hn)
  ·rcases hz with hz | hz;·exact absurd hz hne
   ·exact hz.2.2 nm (fb4 o ho nm hn)
 ·cases hC
theorem So {i:Nat} {o:AX} {st st':St} {e e1:E} {out:AO} {info:C9} (hx:B8 M h dep rops i o st e=some (out,e1,info)) (hc:info.cls=.calls) (h1:∀ s∈info.reads,st.tmps.getD s .undef=st'.tmps.getD s .undef) (h3:FB o st'=FB o st) :
  CC out=true/\B8 M h dep rops i o st' e=some (out,e1,info):=by
 obtain⟨dst,op,gu⟩:=o;unfold B8 at hx |-
 have hw:(∀ s∈Gj rops ⟨dst,op,gu⟩,st.tmps.getD s .undef=st'.tmps.getD s .undef)->DX rops ⟨dst,op,gu⟩ st'.tmps=DX rops ⟨dst,op,gu⟩ st.tmps:=by
  intro hg;unfold DX Gj at *;cases hgu:gu with
  | none=>rfl
  | some jw =>
   obtain⟨j,want⟩:=jw;rw[hgu] at hg;simp only at hg |-;cases hj:rops[j]? with
   | none=>rfl
   | some p =>
    rw[hj] at hg;simp only at hg |-;cases hd:p.dst with
    | none=>rfl
    | some d =>
     rw[hd] at hg;simp only
     rw[hg d (by simp)]
 cases hwt:DX rops ⟨dst,op,gu⟩ st.tmps with
 | none=>rw[hwt] at hx;cases hx
 | some b =>
  rw[hwt] at hx;cases b with
  | false=>simp only at hx;cases hx;cases hc
  | true =>
   simp only at hx;cases hout:DG M h dep ⟨dst,op,gu⟩ st e with
   | none=>rw[hout] at hx;cases hx
   | some q =>
    obtain⟨out',e'⟩:=q;rw[hout] at hx;simp only at hx
    obtain⟨rfl,rfl,rfl⟩:out'=out/\e'=e1/\GR rops i ⟨dst,op,gu⟩ st out'=info:=by
     simp only[Z6,aC] at hx;exact hx
    have hyl:Hr op st.tmps=true:=by
     simp only[GR] at hc;split at hc
     ·split at hc;·assumption
      ·cases hc
     ·split at hc;·cases hc
      ·split at hc<;>cases hc
    unfold Hr at hyl;split at hyl
    case h_2=>cases hyl
    rename_i f args;split at hyl
    case h_2=>cases hyl
    rename_i d hf
    have hread:∀ x∈f :: args,x.ev st.tmps=x.ev st'.tmps:=by
     intro x hxm;cases x with
     | c v=>rfl
     | t s=>exact h1 s (ak _ (cF.2 ⟨.t s,by simpa[AC.xs] using hxm,rfl⟩))
    have hfe:=hread f aq;have hae:=H4 (xs:=args) fun x hxm=>hread x (ap _ hxm);have hae2:=H4 (xs:=f :: args) hread;unfold DG at hout;obtain⟨hfr,hout⟩:=Bn hout;simp only at hout;obtain⟨hcall,hgd⟩:=Re hout;have hcall2:=hcall;unfold Dr at hcall2;simp only[hf,hyl,if_true] at hcall2;obtain⟨hny,hcall3⟩:=Bn hcall2;clear hcall2;cases hh:h d (args.map (RX.ev st.tmps)) e with
    | none=>rw[hh] at hcall3;cases hcall3
    | some q =>
     obtain⟨bb,ee⟩:=q;rw[hh] at hcall3;simp only[Z6,aC] at hcall3;obtain⟨rfl,rfl⟩:=hcall3;refine⟨rfl,?_⟩
     have hcall':Dr M h dep (dst.getD 0) (Ak st'.objs) st'.tmps f args e=some ({v:=.bool bb},ee):=by
      unfold Dr;simp only[<-hfe,<-hae,hf,hyl,if_true,hny,AI,hh]
     have hout':DG M h dep ⟨dst,.call f args,gu⟩ st' e=some ({v:=.bool bb},ee):=by
      unfold DG;rw[h3,hfr];simp only[AI,if_true,hcall',hgd]
     rw[hw fun s hs=>h1 s (aw _ hs),hwt];simp only[hout',Z6,aC,true_and];have hfn:(f.ev st.tmps).names=[]:=by rw[hf];rfl
     have hnil:AR ((f :: args).map (RX.ev st.tmps))=[]:=by
      rw[ZZ];simp only[AR,hfn,aK];exact aY.1 hyl
     have hrn:∀ s:St,AR ((f :: args).map (RX.ev s.tmps))=[]->FP ⟨dst,.call f args,gu⟩ s {v:=.bool bb}=[]:=by
      intro s hs;unfold FP;rw[if_neg (by simp[HV])];have:(AC.call f args).xs=f :: args:=rfl;rw[this,hs];simp only[bz]
      have:∀ (σ:Nm->Option Ob) (k:Nat),Bb σ k []=[]:=by
       intro σ k;induction k with
       | zero=>rfl
       | succ k ih=>simp[Bb,ih]
      exact this _ _
     unfold GR;rw[hrn st hnil,hrn st' (by rw[<-hae2];exact hnil)]
     have hy2:Hr (.call f args) st'.tmps=Hr (.call f args) st.tmps:=by
      unfold Hr;simp only[<-hfe,<-hae]
     have e2:(AC.call f args).xs=f :: args:=rfl;simp only[hy2,e2,<-hae2,FH,J7,List.flatMap_nil];congr 1;exact M8 h1
theorem swapD (hM:GD M) {i j:Nat} {a b:AX} {st:St} {e ea eb:E} {oa ob:AO} {ia ib:C9} (h1:B8 M h dep rops i a st e=some (oa,ea,ia)) (h2:B8 M h dep rops j b (apply st a.dst oa) ea=some (ob,eb,ib))
  (hi:IZ ia ib=true):∃ em,B8 M h dep rops j b st e=some (ob,em,ib)/\B8 M h dep rops i a (apply st b.dst ob) em=some (oa,eb,ia)/\apply (apply st a.dst oa) b.dst ob=apply (apply st b.dst ob) a.dst oa:=by
 unfold IZ at hi;obtain⟨hd,hor⟩:=cc.1 hi;rcases Bool.or_eq_true_iff.1 hor with hC | hY
 ·obtain⟨rfl,rfl,q1,q2,q3⟩:=swapD0 hM h1 h2 (by rw[hd,hC];rfl);exact⟨_,q1,q2,q3⟩
 ·have da:=Pu h1;have db:=Pu h2;obtain⟨fa1,_,_,_⟩:=O5 h1;obtain⟨fb1,_,_,_⟩:=O5 h2;simp only[Z2] at hd;obtain⟨⟨⟨g1,g2⟩,g3⟩,g4⟩:=hd;rw[da] at g1 g3;rw[db] at g1 g2 g4;have g1:=H5 g1;have g2:=H5 g2;have g3:=H5 g3;have g4:=H5 g4;have gd:∀ x∈b.dst.toList,x ∉ a.dst.toList:=fun x hx=>g1 x (aw _ hx);have gd':∀ x∈a.dst.toList,x ∉ b.dst.toList:=fun x hx hx'=>gd x hx' hx;have gb:∀ d,b.dst=some d->d ∉ a.dst.toList:=fun d hd=>gd d (by rw[hd];simp);have ga:∀ d,a.dst=some d->d ∉ b.dst.toList:=fun d hd=>gd' d (by rw[hd];simp);unfold indepY at hY;split at hY
  ·rename_i ca cb;have sa:=fa1 ca;obtain⟨_,ea',ma0⟩:=GH hM (st':=st) h1 (.inl ca) (fun _ _=>rfl) (fun _ _=>rfl) rfl;subst ea';obtain⟨sb,mb⟩:=So (st':=st) h2 cb (fun s hs=>Jk sa (g1 s (ak _ hs))) (Jf sa gb).symm;obtain⟨_,_,ma⟩:=GH hM (st':=apply st b.dst ob) h1 (.inl ca) (fun s hs=>(Jk sb (g2 s hs)).symm) (fun nm hn=>(Jl sb (g4 nm.1 (Z4.2 ⟨nm,hn,rfl⟩))).symm) (Jf sb ga);refine⟨eb,mb,ma _,?_⟩;rw[Gi sa,Gi sb,Gi sb,Gi sa];exact O2 gd' _ _ _ _ _
  ·rename_i ca cb;have sb:=fb1 cb;obtain⟨sa,ma0⟩:=So (st':=st) h1 ca (fun _ _=>rfl) rfl;obtain⟨_,eb',mb⟩:=GH hM (st':=st) h2 (.inl cb) (fun s hs=>Jk sa (g1 s (ak _ hs))) (fun nm hn=>Jl sa (g3 nm.1 (Z4.2 ⟨nm,hn,rfl⟩))) (Jf sa gb).symm;subst eb';obtain⟨_,ma⟩:=So (st':=apply st b.dst ob) h1 ca (fun s hs=>(Jk sb (g2 s hs)).symm) (Jf sb ga);refine⟨e,mb _,ma,?_⟩;rw[Gi sa,Gi sb,Gi sb,Gi sa];exact O2 gd' _ _ _ _ _
  ·cases hY
abbrev Lt:=Nat×Nat×C9
inductive Lr (M:Bf) {E:Type} (h:Ay E) (dep:Nat) (rops:List AX):List Lt->St->E->St->E->Prop
 | nil (st:St) (e:E):Lr M h dep rops [] st e st e
 | cons (t:Lt) (rest:List Lt) (o:AX) (st st2:St) (out:AO) (e e1 e2:E) (ho:rops[t.1]?=some o) (hs:B8 M h dep rops t.1 o st e=some (out,e1,t.2.2)) (hr:Lr M h dep rops rest (apply st o.dst out) e1 st2 e2) :
   Lr M h dep rops (t :: rest) st e st2 e2
theorem Ya (hM:GD M) {t:Lt}:∀ {s1 s2:List Lt} {st st2:St} {e e2:E},Lr M h dep rops (s1++t :: s2) st e st2 e2->(∀ y∈s1,IZ y.2.2 t.2.2=true)->Lr M h dep rops (t :: (s1++s2)) st e st2 e2:=by
 intro s1;induction s1 with
 | nil=>intro s2 st st2 e e2 hr _;exact hr
 | cons y s1 ih =>
  intro s2 st st2 e e2 hr hi;cases hr with
  | cons _ _ oy _ _ outy _ e1 _ hoy hsy hr =>
   have:=ih hr fun z hz=>hi z (ap _ hz);cases this with
   | cons _ _ ot _ _ outt _ e3 _ hot hst hr2 =>
    obtain⟨em,q3,q4,q5⟩:=swapD hM hsy hst (hi y aq);refine .cons t _ ot st st2 outt _ _ e2 hot q3 (.cons y _ oy _ st2 outy _ _ e2 hoy q4 ?_);rw[<-q5];exact hr2
theorem XB {i:Nat} {o:AX} {st:St} {e e1:E} {out:AO} {info:C9} (hx:B8 M h dep rops i o st e=some (out,e1,info)):stepG M h dep rops o st e=some (apply st o.dst out,e1):=by
 unfold B8 at hx;unfold stepG;split at hx
 ·split at hx
  ·rename_i o2 e2 ho;cases hx;simp[JG,ho]
  ·cases hx
 ·cases hx;rfl
 ·cases hx
theorem runsG_any (hM:GD M):∀ (l:List Nat) (L:List Lt) {st st2:St} {e e2:E},Lr M h dep rops L st e st2 e2->L.Pairwise (fun y x=>x.2.1.testBit y.1=true\/IZ y.2.2 x.2.2=true)->l.Perm (L.map (·.1))->l.Nodup ->
  (∀ l1 x l2,l=l1++x :: l2->∀ t∈L,t.1=x->∀ y∈L,t.2.1.testBit y.1=true->y.1∈l1)->Io M h dep rops l st e st2 e2:=by
 intro l;induction l with
 | nil =>
  intro L st st2 e e2 hr _ hp _ _;have:L=[]:=by simpa using hp.symm.eq_nil
  subst this;cases hr;exact .nil _ _
 | cons x l ih =>
  intro L st st2 e e2 hr hpw hp hnd hord;have hx:x∈L.map (·.1):=hp.mem_iff.1 aq;obtain⟨t,ht,htx⟩:=Z4.1 hx;obtain⟨s1,s2,rfl⟩:=List.append_of_mem ht
  have hind:∀ y∈s1,IZ y.2.2 t.2.2=true:=by
   intro y hy;rcases (List.pairwise_append.1 hpw).2.2 y hy t aq with h | h
   ·have:=hord [] x l rfl t ht htx y (ak _ hy) h;cases this
   ·exact h
  have hr2:=Ya hM hr hind;cases hr2 with
  | cons _ _ o _ _ out _ e1 _ ho hs hr3 =>
   rw[htx] at ho hs;refine .cons x l o st _ st2 e e1 e2 ho (XB hs) (ih (s1++s2) hr3 ?_ ?_ (ct.1 hnd).2 ?_)
   ·obtain⟨p1,p2,p3⟩:=List.pairwise_append.1 hpw;exact List.pairwise_append.2 ⟨p1,(aZ.1 p2).2,fun y hy z hz=>p3 y hy z (ap _ hz)⟩
   ·have h1:(x :: l).Perm (x :: (s1++s2).map (·.1)):=by
     refine hp.trans ?_;rw[bm,ZZ,bm,htx];exact List.perm_middle
    exact h1.cons_inv
   ·intro l1 z l2 hl t' ht' htz y hy hb
    have hmem:∀ {q},q∈s1++s2->q∈s1++t :: s2:=fun {q} hq=>by
     rcases ar.1 hq with hq | hq;·exact ak _ hq
     ·exact aw _ (ap _ hq)
    have:=hord (x :: l1) z l2 (by rw[hl];rfl) t' (hmem ht') htz y (hmem hy) hb;rcases Z7.1 this with hyx | h
    ·exfalso
     have h1:(x :: l).Perm (x :: (s1++s2).map (·.1)):=by
      refine hp.trans ?_;rw[bm,ZZ,bm,htx];exact List.perm_middle
     have h2:=(h1.cons_inv).mem_iff.2 (Z4.2 ⟨y,hy,rfl⟩);rw[hyx] at h2;exact (ct.1 hnd).1 h2
    ·exact h
theorem Y6:∀ (l:List (Nat×Nat)) (infos:List C9) {st st2:St} {e e2:E},Hx M h dep rops l infos st e=some (st2,e2) ->
  ∃ L:List Lt,L.map (fun t=>(t.1,t.2.1))=l/\Lr M h dep rops L st e st2 e2/\L.Pairwise (fun y x=>x.2.1.testBit y.1=true\/IZ y.2.2 x.2.2=true) /\
   ∀ j∈infos,∀ x∈L,x.2.1.testBit j.i=true\/IZ j x.2.2=true:=by
 intro l;induction l with
 | nil =>
  intro infos st st2 e e2 hr;simp only[Hx,Z6,aC] at hr;obtain⟨rfl,rfl⟩:=hr;exact⟨[],rfl,.nil _ _,.nil,fun _ _ x hx=>by cases hx⟩
 | cons p l ih =>
  obtain⟨i,bef⟩:=p;intro infos st st2 e e2 hr;simp only[Hx] at hr;split at hr
  case h_2=>cases hr
  rename_i o ho;split at hr
  case h_2=>cases hr
  rename_i st1 e1 info hs;obtain⟨hk,hr⟩:=Bn hr;obtain⟨L,h1,h2,h3,h4⟩:=ih (info :: infos) hr;unfold Mx at hs;split at hs
  case h_2=>cases hs
  rename_i out e1' info' hout;cases hs
  have hii:info.i=i:=by
   unfold B8 at hout;split at hout
   ·split at hout;·cases hout;rfl
    ·cases hout
   ·cases hout;rfl
   ·cases hout
  refine⟨(i,bef,info) :: L,by simp[h1],.cons (i,bef,info) L o st st2 out e e1 e2 ho hout h2,aZ.2 ⟨fun x hx=>?_,h3⟩,fun j hj x hx=>?_⟩
  ·have:=h4 info aq x hx
   rwa [hii] at this
  ·rcases Z7.1 hx with rfl | hx
   ·have:=an.1 hk j hj;simpa using this
   ·exact h4 j (ap _ hj) x hx
end swap
inductive Anc (ops:Array Oper):Nat->Nat->Prop
 | base (i:Nat) (o:Oper) (e:Edge) (ho:ops[i]?=some o) (he:e∈o.after) (hb:Region.binds .any e=true):Anc ops i e.on
 | step (i y:Nat) (o:Oper) (e:Edge) (ho:ops[i]?=some o) (he:e∈o.after) (hb:Region.binds .any e=true) (h:Anc ops e.on y):Anc ops i y
inductive G4 (ops:Array Oper):List Nat->Prop
 | nil:G4 ops []
 | cons (i:Nat) (acc:List Nat) (h:∀ o,ops[i]?=some o->∀ e∈o.after,Region.binds .any e=true->e.on∈acc) (hr:G4 ops acc):G4 ops (i :: acc)
section order
variable {ops:Array Oper}
theorem G4.drop' {l1 l2:List Nat} (h:G4 ops (l1++l2)):G4 ops l2:=by
 induction l1 with
 | nil=>exact h
 | cons x l1 ih=>cases h with | cons _ _ _ hr=>exact ih hr
theorem UU {x y:Nat} (ha:Anc ops x y):∀ {l1 l2:List Nat},G4 ops (l1++x :: l2)->y∈l2:=by
 induction ha with
 | base i o e ho he hb=>intro l1 l2 h;cases h.drop' with | cons _ _ h1 _=>exact h1 o ho e he hb
 | step i y o e ho he hb _ ih =>
  intro l1 l2 h;cases h.drop' with
  | cons _ _ h1 hr =>
   have hm:=h1 o ho e he hb;obtain⟨s1,s2,rfl⟩:=List.append_of_mem hm;exact aw _ (ap _ (ih hr))
theorem TB {acc:List (Nat×Nat)} {k b:Nat} (h:acc.lookup k=some b):(k,b)∈acc:=by
 induction acc with
 | nil=>simp at h
 | cons p acc ih =>
  obtain⟨k',b'⟩:=p;rw[cG] at h;by_cases hk:(k==k')=true
  ·rw[hk] at h;cases h;rw[beq_iff_eq.1 hk];exact aq
  ·rw[cH] at hk;rw[hk] at h;exact ap _ (ih h)
theorem XD {acc:List (Nat×Nat)} {k:Nat} (h:k∈acc.map (·.1)):(acc.lookup k).isSome=true:=by
 induction acc with
 | nil=>simp at h
 | cons p acc ih =>
  obtain⟨k',b'⟩:=p;rw[cG];by_cases hk:(k==k')=true
  ·rw[hk];rfl
  ·rw[cH] at hk;rw[hk];refine ih ?_;rw[ZZ,Z7] at h;rcases h with h | h;·rw[h] at hk;simp at hk
   ·exact h
theorem X6 {acc:List (Nat×Nat)} {y:Nat}:∀ {es:List Edge},(Mf acc es).testBit y=true->∃ e∈es,Region.binds .any e=true/\(y=e.on\/∃ b,(e.on,b)∈acc/\b.testBit y=true):=by
 intro es;induction es with
 | nil=>intro h;simp[Mf] at h
 | cons e es ih =>
  intro h;simp only[Mf] at h;by_cases hb:Region.binds .any e=true
  ·rw[if_pos hb] at h;rw[Nat.testBit_or,Nat.testBit_or,cd,cd] at h;rcases h with (h | h) | h
   ·refine⟨e,aq,hb,.inl ?_⟩;rw[Nat.testBit_two_pow] at h;exact (of_decide_eq_true h).symm
   ·refine⟨e,aq,hb,.inr ?_⟩;cases hl:acc.lookup e.on with
    | none=>rw[hl] at h;simp at h
    | some b=>rw[hl] at h;exact⟨b,TB hl,h⟩
   ·obtain⟨e',he',r⟩:=ih h;exact⟨e',ap _ he',r⟩
  ·rw[if_neg hb] at h;obtain⟨e',he',r⟩:=ih h;exact⟨e',ap _ he',r⟩
theorem Vg {l:List Nat} (h:l.Nodup):l.reverse.Nodup:=by
 unfold List.Nodup at *;rw[List.pairwise_reverse];exact h.imp fun hne e=>hne e.symm
theorem Tx {l:List Nat}:∀ {m:List Nat},l.Nodup->(∀ x∈l,x∈m)->l.length<=m.length:=by
 induction l with
 | nil=>intro m _ _;exact bR _
 | cons x l ih =>
  intro m hnd hs;obtain⟨m1,m2,rfl⟩:=List.append_of_mem (hs x aq);have hx:=(ct.1 hnd).1
  have:=ih (m:=m1++m2) (ct.1 hnd).2 fun y hy=>by
   have hm:=hs y (ap _ hy);rcases ar.1 hm with hm | hm;·exact ak _ hm
   ·rcases Z7.1 hm with rfl | hm;·exact absurd hy hx
    ·exact aw _ hm
  simp only[aF,be] at this |-;omega
theorem ZY:∀ (c:List Nat) (acc:List (Nat×Nat)) (r:List (Nat×Nat)),MS ops c acc=some r->G4 ops (acc.map (·.1))->(acc.map (·.1)).Nodup->(∀ i∈acc.map (·.1),i < ops.size)->(∀ p∈acc,∀ y,p.2.testBit y=true->Anc ops p.1 y) ->
  G4 ops (r.map (·.1)).reverse/\(r.map (·.1)).Nodup/\(∀ i∈r.map (·.1),i < ops.size)/\r.length=ops.size/\∀ p∈r,∀ y,p.2.testBit y=true->Anc ops p.1 y:=by
 intro c;induction c with
 | nil =>
  intro acc r h h1 h2 h3 h4;simp only[MS] at h;split at h
  ·rename_i hl;cases h;refine⟨by rw[List.map_reverse,List.reverse_reverse];exact h1,by rw[List.map_reverse];exact Vg h2,fun i hi=>h3 i (by rw[List.map_reverse,cW] at hi;exact hi),by rw[List.length_reverse];exact hl,fun p hp=>h4 p (cW.1 hp)⟩
  ·cases h
 | cons i c ih =>
  intro acc r h h1 h2 h3 h4;simp only[MS] at h;split at h
  case h_2=>cases h
  rename_i o ho;split at h
  case isFalse=>cases h
  rename_i hk;obtain⟨hk1,hk2⟩:=hk
  have hedge:∀ e∈o.after,Region.binds .any e=true->e.on∈acc.map (·.1):=by
   intro e he hb;have:=an.1 hk2 e (by simpa using he);rw[hb] at this;simp only[Z8,aV] at this;obtain⟨b,hb'⟩:=bT.1 this;exact Z4.2 ⟨(e.on,b),TB hb',rfl⟩
  refine ih _ r h ?_ ?_ ?_ ?_
  ·refine .cons i _ (fun o' ho' e he hb=>?_) h1;rw[ho] at ho';cases ho';exact hedge e he hb
  ·refine ct.2 ⟨fun hm=>?_,h2⟩;have:=XD hm;rw[cV.1 hk1] at this;cases this
  ·intro k hk;rcases Z7.1 hk with rfl | hk;·exact (cz.1 ho).1
   ·exact h3 k hk
  ·intro p hp y hy;rcases Z7.1 hp with rfl | hp
   ·obtain⟨e,he,hb,hr⟩:=X6 hy;have he':e∈o.after:=by simpa using he
    rcases hr with rfl | ⟨b,hm,hbit⟩;·exact .base i o e ho he' hb
    ·exact .step i y o e ho he' hb (h4 _ hm y hbit)
   ·exact h4 p hp y hy
theorem Ur {l:List Nat} {n:Nat} (h1:l.Nodup) (h2:∀ i∈l,i < n) (h3:l.length=n):l.Perm (List.range n):=by
 refine (List.perm_ext_iff_of_nodup h1 List.nodup_range).2 fun a=>⟨fun ha=>bN.2 (h2 a ha),fun ha=>?_⟩
 exact bg fun hn=>by
  have:=Tx (l:=a :: l) (m:=List.range n) (ct.2 ⟨hn,h1⟩) fun x hx=>by
   rcases Z7.1 hx with rfl | hx;·exact ha
   ·exact bN.2 (h2 x hx)
  simp at this;omega
theorem XP {c:List Nat} (hc1:G4 ops c.reverse) (hc2:c.Perm (List.range ops.size)):∀ (fuel t:Nat) (listed:Array Bool) (acc:List Nat),
  listed.size=ops.size->(∀ k,k < ops.size->(listed.getD k false=true↔k∈acc))->acc.Nodup->(∀ k∈acc,k < ops.size)->acc.length+fuel=ops.size->G4 ops acc ->
  ∃ l,Region.linearise.go .any ops fuel t listed acc=l/\G4 ops l.reverse/\l.Nodup/\(∀ k∈l,k < ops.size)/\l.length=ops.size:=by
 intro fuel;induction fuel with
 | zero =>
  intro t listed acc _ _ hnd hlt hlen hord;exact⟨acc.reverse,rfl,by rwa [List.reverse_reverse],Vg hnd,fun k hk=>hlt k (cW.1 hk),by rw[List.length_reverse];omega⟩
 | succ fuel ih =>
  intro t listed acc hsz hl hnd hlt hlen hord;have gd:∀ k,k < ops.size->listed.getD k true=listed.getD k false:=fun k hk=>by simp[hsz,hk]
  have hready:Region.ready .any ops listed≠[]:=by
   have hex:∃ c1 i c2,c=c1++i :: c2/\(∀ x∈c1,x∈acc)/\i ∉ acc:=by
    have hne:∃ k∈c,k ∉ acc:=bg fun hno=>by
     have hall:∀ k∈c,k∈acc:=fun k hk=>bg fun h=>hno ⟨k,hk,h⟩;have:=Tx (l:=List.range ops.size) (m:=acc) List.nodup_range fun x hx=>hall x (hc2.mem_iff.2 hx);simp at this;omega
    clear hc1 hc2;induction c with
    | nil=>obtain⟨k,hk,_⟩:=hne;cases hk
    | cons x c ihc =>
     by_cases hx:x∈acc
     ·obtain⟨k,hk,hka⟩:=hne;rcases Z7.1 hk with rfl | hk;·exact absurd hx hka
      ·obtain⟨c1,i,c2,rfl,h1,h2⟩:=ihc ⟨k,hk,hka⟩;exact⟨x :: c1,i,c2,rfl,fun y hy=>(Z7.1 hy).elim (fun e=>e ▸ hx) (h1 y),h2⟩
     ·exact⟨[],x,c,rfl,fun y hy=>(by cases hy),hx⟩
   obtain⟨c1,i,c2,rfl,h1,h2⟩:=hex;have hin:i < ops.size:=bN.1 (hc2.mem_iff.1 (aw _ aq))
   have hmem:i∈Region.ready .any ops listed:=by
    refine mem_ready.2 ⟨?_,ops[i],Array.getElem?_eq_getElem hin,fun e he hb=>?_⟩
    ·rw[gd i hin];cases hb:listed.getD i false with
     | false=>rfl
     | true=>exact absurd ((hl i hin).1 hb) h2
    ·have ho:G4 ops (c2.reverse++i :: c1.reverse):=by simpa using hc1
     have hon:e.on∈c1:=by simpa using UU (.base i ops[i] e (Array.getElem?_eq_getElem hin) he hb) ho
     have hacc:=h1 _ hon;exact (hl e.on (hlt _ hacc)).2 hacc
   intro h0;rw[h0] at hmem;cases hmem
  simp only[Region.linearise.go]
  change ∃ l,(match (Region.ready .any ops listed)[t%(Region.ready .any ops listed).length]? with
   | some i=>Region.linearise.go .any ops fuel (t / (Region.ready .any ops listed).length) (listed.setIfInBounds i true) (i :: acc)
   | none=>acc.reverse)=l/\_
  have hlt2:t%(Region.ready .any ops listed).length < (Region.ready .any ops listed).length:=cr _ (List.length_pos_iff.2 hready);rw[ab hlt2];simp only
  have him:=ce hlt2;generalize (Region.ready .any ops listed)[t%(Region.ready .any ops listed).length]=i at him |-;obtain⟨hi1,o,ho,hi2⟩:=mem_ready.1 him;have hin:i < ops.size:=(cz.1 ho).1
  have hia:i ∉ acc:=fun hm=>by
   have:=(hl i hin).2 hm;rw[<-gd i hin,hi1] at this;cases this
  refine ih _ _ _ (by simpa using hsz) (fun k hk=>?_) (ct.2 ⟨hia,hnd⟩) (fun k hk=>?_) (by simp only[be];omega) (.cons i acc (fun o' ho' e he hb=>?_) hord)
  ·by_cases hki:k=i
   ·subst hki;simp[hsz,hk]
   ·have:(listed.setIfInBounds i true).getD k false=listed.getD k false:=getD_set_ne false (aH hki);rw[this,hl k hk];simp[hki]
  ·rcases Z7.1 hk with rfl | hk;·exact hin
   ·exact hlt k hk
  ·rw[ho] at ho';cases ho';have:=hi2 e he hb
   have hon:e.on < ops.size:=by
    rcases cA e.on listed.size with h | h;·omega
    ·simp[cI h] at this
   exact (hl e.on hon).1 this
end order
section draw
variable {E:Type} {cx:Cx} {w0:World} {I0 F0:Nat->Prop} {O0:B9} {Hd:Nat->Option Obj} {R:BV E} {e e':E} {F F':Nat->Prop} {lp:Nat->Option Nat} {suf tmv:List Value}
variable {I I':Nat->Prop} {L:AF} {st st':St} {a:Act} {w w':World} {o:Oper} {M:Bf} {h:Ay E} {dep:Nat}
theorem Fr.drew {ds:List Deferred} (hf:Fr cx w0 I0 F0 O0 Hd R e ds I F L w):Fr cx w0 I0 F0 O0 Hd R e ds I F L w.drew :=
 hf.same ⟨rfl,rfl,rfl,rfl⟩
theorem Yh {ops:Array Oper} {id:Nat} (hM:EP cx M.call) (hsp:MSp cx M) (hloc:GD M) (href:Ref cx lp R h dep w0 I0 F0) {ro:Option Nat} {Q:Exit->Act->World->Prop} {st2:St} {e2:E} {ord:List Nat} {l:List (Nat×Nat)}
  (hb:MS ops ord []=some l) (hr:Hx M h dep (ops.toList.map (CU cx.P cx.G)) l [] (Fa (CX (ops.toList.map (CU cx.P cx.G))) st) e=some (st2,e2))
  (hs:SR lp I L st a.tmps.toList suf w) (hf:Fr cx w0 I0 F0 O0 Hd R e a.defers I F L w)
  (hQ:∀ a' w' I' F' L',SR lp I' L' st2 a'.tmps.toList suf w'->Fr cx w0 I0 F0 O0 Hd R e2 a'.defers I' F' L' w'->Q .normal a' w'):(Code.region id ops true).wpIn (Ee ro) 0 cx.P Q a w:=by
 obtain⟨b1,b2,b3,b4,b5⟩:=ZY ord [] l hb .nil List.nodup_nil (fun i hi=>by cases hi) (fun p hp=>by cases hp);have hcp:(l.map (·.1)).Perm (List.range ops.size):=Ur b2 b3 (by rw[aL];exact b4);obtain⟨L',hs',hf'⟩:=NH (CX (ops.toList.map (CU cx.P cx.G))) hs hf;obtain⟨items,i1,i2,i3,_⟩:=Y6 l [] hr;refine wpIn_region_draw fun t=>?_;simp only[Region.schedule,cx.mixed,bO,if_true];obtain⟨sch,s1,s2,s3,s4,s5⟩:=XP b1 hcp ops.size t (Array.replicate ops.size false) [] (by simp) (fun k hk=>by simp[hk]) List.nodup_nil (fun k hk=>by cases hk) (by simp) .nil;have hsch:Region.linearise .any ops t=sch:=s1;rw[hsch];have hmap:items.map (·.1)=l.map (·.1):=by rw[<-i1,ay];rfl
 have hG:=runsG_any hloc sch items i2 i3 (by rw[hmap];exact (Ur s3 s4 s5).trans hcp.symm) s3 (fun l1 x l2 hl t' ht htx y hy hbit=>by
  have hp:(t'.1,t'.2.1)∈l:=by rw[<-i1];exact Z4.2 ⟨t',ht,rfl⟩
  have hanc:=b5 _ hp y.1 hbit;simp only at hanc;rw[htx] at hanc;rw[hl] at s2;simp only[List.reverse_append,List.reverse_cons,aR,List.singleton_append] at s2;simpa using UU hanc s2)
 rw[<-bz sch];exact RA (l':=[]) hM hsp href hG (hs'.same ⟨rfl,rfl,rfl,rfl⟩) hf'.drew hQ
end draw
end Go.Ab


namespace Go.Ab
section
variable {E:Type} {cx:Cx} {w0:World} {I0 F0:Nat->Prop} {O0:B9} {Hd:Nat->Option Obj} {R:BV E} {e:E} {F:Nat->Prop} {lp:Nat->Option Nat} {suf tmv:List Value}
variable {I:Nat->Prop} {L:AF} {st:St} {w:World} {ds:List Deferred}
theorem TN {t:Nat} (h:KS st t=true):st.objs[t]?=some []:=by
 unfold KS at h;split at h;·assumption
 ·cases h
theorem Uw {t:Nat} (h:st.objs[t]?=some []) (j:Nat):Ak st.objs (t,j)=none:=by
 unfold Ak;rw[h];rfl
theorem BF.ren {ob:Ob} {p:Option (Nat×Nat)} {f:Nm->Nm} {L L':AF} (h:BF w I lp L ob p) (hf:∀ nm p,L nm=some p->L' (f nm)=some p):BF w I lp L' (ob.ren f) p:=by
 cases p with
 | none=>obtain⟨k,kt,rfl⟩:=h;exact⟨k,kt,rfl⟩
 | some p =>
  cases ob with
  | cells ty cs=>obtain⟨c,E,h1,h2,h4,h3⟩:=h;exact⟨c,E,h1,h2,h4,h3.rename hf⟩
  | arr k kt xs=>exact h
  | map es=>exact h
  | siter s pos=>exact h
def Ic (L:AF) (t:Nat) (nm:Nm):AF:=fun m=>if m=(t,0) then L nm else if m=nm then some none else L m
theorem rehome_ok (t:Nat) (hs:SR lp I L st tmv suf w) (hf:Fr cx w0 I0 F0 O0 Hd R e ds I F L w):∃ L',SR lp I L' (KN t st) tmv suf w/\Fr cx w0 I0 F0 O0 Hd R e ds I F L' w:=by
 unfold KN;split
 case h_2=>exact⟨L,hs,hf⟩
 rename_i nm k o n hx;split
 case isFalse=>exact⟨L,hs,hf⟩
 rename_i hc;obtain⟨hne,hem⟩:=hc;have hcl:=TN hem;split
 case h_2=>exact⟨L,hs,hf⟩
 rename_i ob hlk;obtain⟨p,hp,ha⟩:=hs.ob nm ob hlk;have hno:L (t,0)=none:=hs.dom _ (Uw hcl 0)
 have hnt:nm.1≠t:=by
  intro h1;unfold Ak at hlk;rw[h1,hcl] at hlk;simp at hlk
 have hren:∀ m q,L m=some q->Ic L t nm (if m=nm then (t,0) else m)=some q:=by
  intro m q hq;unfold Ic;by_cases hm:m=nm
  ·subst hm;simp[hq]
  ·have hmt:m≠(t,0):=fun h=>by rw[h,hno] at hq;cases hq
   simp[hm,hmt,hq]
 have hsome:∀ m b C,Ic L t nm m=some (some (b,C))->∃ m',L m'=some (some (b,C))/\(m=(t,0)/\m'=nm\/m≠(t,0)/\m≠nm/\m'=m):=by
  intro m b C hm;unfold Ic at hm;split at hm;·rename_i h1;exact⟨nm,hm,.inl ⟨h1,rfl⟩⟩
  ·rename_i h1;split at hm;·cases hm
   ·rename_i h2;exact⟨m,hm,.inr ⟨h1,h2,rfl⟩⟩
 refine⟨Ic L t nm,⟨hs.tm.rename hren,hs.kp.rename hren,?_,?_⟩,?_⟩
 ·intro m ob' hl
  have hlt:t < (Bl (st.objs.map (·.map (Ob.ren fun m=>if m=nm then (t,0) else m))) nm Bz).length:=by
   have h1:=(ac.1 hcl).1;unfold Bl;split<;>simp<;>exact h1
  by_cases h1:m.1=t
  ·obtain⟨a,j⟩:=m;simp only at h1;subst h1;rw[G5 _ hlt] at hl;cases j with
   | succ j=>simp at hl
   | zero =>
    simp only[af,Z6] at hl;subst hl;exact⟨p,by simp[Ic,hp],ha.ren hren⟩
  ·rw[Gh _ h1] at hl;have h1':m≠(t,0):=fun h=>h1 (by rw[h]);by_cases h2:m=nm
   ·subst h2
    have:Ak (st.objs.map (·.map (Ob.ren fun m'=>if m'=m then (t,0) else m'))) m=some (ob.ren fun m'=>if m'=m then (t,0) else m'):=by
     rw[Fw,hlk];rfl
    rw[Ko Bz this] at hl;cases hl;exact⟨none,by simp[Ic,h1'],⟨0,0,rfl⟩⟩
   ·rw[Hz Bz h2,Fw] at hl;obtain⟨ob0,hl0,rfl⟩:=Z3.1 hl;obtain⟨q,hq,hb⟩:=hs.ob m ob0 hl0;exact⟨q,by simp[Ic,h1',h2,hq],hb.ren hren⟩
 ·intro m hl
  have hlt:t < (Bl (st.objs.map (·.map (Ob.ren fun m=>if m=nm then (t,0) else m))) nm Bz).length:=by
   have h1:=(ac.1 hcl).1;unfold Bl;split<;>simp<;>exact h1
  by_cases h1:m.1=t
  ·obtain⟨a,j⟩:=m;simp only at h1;subst h1;rw[G5 _ hlt] at hl;cases j with
   | zero=>simp at hl
   | succ j =>
    have h2:((a,j+1):Nm)≠nm:=fun h=>hnt (by rw[<-h]);simp only[Ic,h2,if_false];have h3:((a,j+1):Nm)≠(a,0):=fun h=>by simp at h
    simp only[h3,if_false];exact hs.dom _ (Uw hcl _)
  ·rw[Gh _ h1] at hl;have h1':m≠(t,0):=fun h=>h1 (by rw[h])
   have h2:m≠nm:=fun h=>by
    subst h;have:=(Jd Bz).1 hl;rw[Fw,hlk] at this;cases this
   have:=(Jd Bz).1 hl;rw[Fw] at this;simp only[Ic,h1',h2,if_false];exact hs.dom m (by simpa using this)
 ·refine hf.own rfl rfl rfl (Z5 _) (fun _ _ _=>rfl) (fun _ h=>h) (fun _ h=>.inl h) (fun m b C hm=>?_) (fun m m' b C C' h1 h2=>?_)
  ·obtain⟨m',hm',_⟩:=hsome m b C hm;exact⟨(hf.lB m' b C hm').2.1,(hf.lB m' b C hm').2.2.1,.inr ⟨m',C,hm'⟩⟩
  ·obtain⟨x,hx1,hx2⟩:=hsome m b C h1;obtain⟨y,hy1,hy2⟩:=hsome m' b C' h2;have hxy:=hf.inj x y b C C' hx1 hy1;rcases hx2 with ⟨rfl,rfl⟩ | ⟨g1,g2,rfl⟩<;>rcases hy2 with ⟨rfl,rfl⟩ | ⟨g3,g4,rfl⟩;·rfl
   ·exact absurd hxy.symm g4
   ·exact absurd hxy g2
   ·exact hxy
theorem ZA {nm:Nm} {ty:Nat} {cs:List PV} {i k:Nat} (hlk:Ak st.objs nm=some (.cells ty cs)) (hi:cs[i]?=some .nilS) (hs:SR lp I L st tmv suf w) (hf:Fr cx w0 I0 F0 O0 Hd R e ds I F L w) :
  ∃ L',SR lp I L' {st with objs:=st.objs.set nm.1 ((st.objs.getD nm.1 []).set nm.2 (.cells ty (cs.set i (.arr (nm.1,(st.objs.getD nm.1 []).length) k 0 0)))++[.arr k 0 []])} tmv suf w/\Fr cx w0 I0 F0 O0 Hd R e ds I F L' w:=by
 obtain⟨d,j⟩:=nm;simp only
 cases hl:st.objs[d]? with
 | none=>unfold Ak at hlk;simp only[hl] at hlk;cases hlk
 | some l =>
  have hlook:∀ j,Ak st.objs (d,j)=l[j]?:=fun j=>by unfold Ak;simp only[hl]
  have hgd:st.objs.getD d []=l:=by rw[Z9,hl];rfl
  have hlt:=(ac.1 hl).1;rw[hgd];rw[hlook] at hlk;have hj:=(ac.1 hlk).1;have hfree:L (d,l.length)=none:=hs.dom _ (by rw[hlook];simp)
  let L':AF:=fun t=>if t=(d,l.length) then some none else L t
  have hle:MT L L':=by
   intro t p hp;have:t≠(d,l.length):=fun h=>by rw[h,hfree] at hp;cases hp
   simp only[L',this,if_false];exact hp
  refine⟨L',⟨hs.tm.reloc hle,hs.kp.reloc hle,fun t ob ht=>?_,fun t ht=>?_⟩,?_⟩
  ·simp only at ht;by_cases h1:t.1=d
   ·obtain⟨a,b⟩:=t;simp only at h1;subst h1;rw[G5 _ hlt] at ht;by_cases hb:b < l.length
    ·rw[bv (by simpa using hb)] at ht;have hne:((a,b):Nm)≠(a,l.length):=fun h=>by have:=congrArg Prod.snd h;simp at this;omega
     by_cases hbj:b=j
     ·subst hbj;rw[bH hb] at ht;cases ht;obtain⟨p,hp,ha⟩:=hs.ob (a,b) _ (by rw[hlook];exact hlk);refine⟨p,by simp only[L',hne,if_false];exact hp,?_⟩;cases p with
      | none=>obtain⟨k',kt',h⟩:=ha;cases h
      | some p =>
       obtain⟨b0,C⟩:=p;obtain⟨c,E',q1,q2,q3,q4⟩:=ha;refine⟨c,E',q1,q2,q3,?_⟩;have q5:=q4.reloc hle;obtain⟨v,hv,hr⟩:=q5.get hi;have hvv:=Gm hr;subst hvv;have:=q5.set i (x:=.arr (a,l.length) k 0 0) (v:=.slice none 0 0) (.arrN _ k (by simp[L']))
       rwa [Sj hv] at this
     ·rw[aB (aH hbj)] at ht;obtain⟨p,hp,ha⟩:=hs.ob (a,b) ob (by rw[hlook];exact ht);exact⟨p,by simp only[L',hne,if_false];exact hp,ha.reloc hle⟩
    ·rw[b8 (by simpa using hb)] at ht;simp only[co] at ht
     have hb2:b=l.length:=by
      have:=(ac.1 ht).1;simp at this;omega
     subst hb2;simp at ht;subst ht;exact⟨none,by simp[L'],⟨k,_,rfl⟩⟩
   ·rw[Gh _ h1] at ht;obtain⟨p,hp,ha⟩:=hs.ob t ob ht;have hne:t≠(d,l.length):=fun h=>h1 (by rw[h]);exact⟨p,by simp only[L',hne,if_false];exact hp,ha.reloc hle⟩
  ·simp only at ht;by_cases h1:t.1=d
   ·obtain⟨a,b⟩:=t;simp only at h1;subst h1;rw[G5 _ hlt] at ht
    have hb:l.length < b:=by
     have:=aI.1 ht;simp at this;omega
    have hne:((a,b):Nm)≠(a,l.length):=fun h=>by have:=congrArg Prod.snd h;simp at this;omega
    simp only[L',hne,if_false];exact hs.dom _ (by rw[hlook];exact aI.2 (by omega))
   ·rw[Gh _ h1] at ht;have hne:t≠(d,l.length):=fun h=>h1 (by rw[h]);simp only[L',hne,if_false];exact hs.dom t ht
  ·have hsome:∀ t b C,L' t=some (some (b,C))->L t=some (some (b,C)):=by
    intro t b C ht;simp only[L'] at ht;split at ht;·cases ht
    ·exact ht
   exact hf.own rfl rfl rfl (Z5 _) (fun _ _ _=>rfl) (fun _ h=>h) (fun _ h=>.inl h) (fun t b C ht=>by
    have:=hsome t b C ht;exact⟨(hf.lB t b C this).2.1,(hf.lB t b C this).2.2.1,.inr ⟨t,C,this⟩⟩) fun t t' b C C' h1 h2=>hf.inj t t' b C C' (hsome _ _ _ h1) (hsome _ _ _ h2)
theorem Yz {d len:Nat} {m:Nm} {ob:Ob} {l:List Ob} (hl:st.objs[d]?=some l) (hlen:l.length=len) (hmd:m.1≠d) (hlk:Ak st.objs m=some ob) (hs:SR lp I L st tmv suf w) (hf:Fr cx w0 I0 F0 O0 Hd R e ds I F L w) :
  let f:Nm->Nm:=fun x=>if x=m then (d,len) else x
  let objs:=Bl (st.objs.map (·.map (Ob.ren f))) m Bz
  ∃ L',SR lp I L' {tmps:=Bs f st.tmps,objs:=objs.set d (objs.getD d []++[ob.ren f]),keep:=Bs f st.keep} tmv suf w/\Fr cx w0 I0 F0 O0 Hd R e ds I F L' w:=by
 intro f objs;obtain⟨p,hp,ha⟩:=hs.ob m ob hlk;have hlook:∀ j,Ak st.objs (d,j)=l[j]?:=fun j=>by unfold Ak;simp only[hl]
 have hfree:L (d,len)=none:=hs.dom _ (by rw[hlook];simp[hlen]);have hne:m≠(d,len):=fun h=>hmd (by rw[h])
 let L':AF:=fun t=>if t=(d,len) then L m else if t=m then some none else L t
 have hren:∀ x q,L x=some q->L' (f x)=some q:=by
  intro x q hq;simp only[L',f];by_cases hx:x=m
  ·subst hx;simp[hq]
  ·have hxt:x≠(d,len):=fun h=>by rw[h,hfree] at hq;cases hq
   simp[hx,hxt,hq]
 have hsome:∀ x b C,L' x=some (some (b,C))->∃ x',L x'=some (some (b,C))/\(x=(d,len)/\x'=m\/x≠(d,len)/\x≠m/\x'=x):=by
  intro x b C hx;simp only[L'] at hx;split at hx;·rename_i h1;exact⟨m,hx,.inl ⟨h1,rfl⟩⟩
  ·rename_i h1;split at hx;·cases hx
   ·rename_i h2;exact⟨x,hx,.inr ⟨h1,h2,rfl⟩⟩
 have hobd:objs[d]?=some (l.map (Ob.ren f)):=by
  simp only[objs];unfold Bl;split
  ·rename_i l' hl';rw[aB hmd,aa,hl];rfl
  ·rw[aa,hl];rfl
 have hlt:d < objs.length:=(ac.1 hobd).1;have hgd:objs.getD d []=l.map (Ob.ren f):=by rw[Z9,hobd];rfl
 have hlm:Ak (st.objs.map (·.map (Ob.ren f))) m=some (ob.ren f):=by rw[Fw,hlk];rfl
 refine⟨L',⟨hs.tm.rename hren,hs.kp.rename hren,?_,?_⟩,?_⟩
 ·intro t ob' ht;simp only at ht;rw[hgd] at ht;by_cases h1:t.1=d
  ·obtain⟨a,j⟩:=t;simp only at h1;subst h1;rw[G5 _ hlt] at ht;by_cases hj:j < l.length
   ·rw[bv (by simpa using hj),aa] at ht;obtain⟨ob0,h0,rfl⟩:=Z3.1 ht;obtain⟨q,hq,hb⟩:=hs.ob (a,j) ob0 (by rw[hlook];exact h0);have h2:((a,j):Nm)≠(a,len):=fun h=>by have:=congrArg Prod.snd h;simp at this;omega
    have h3:((a,j):Nm)≠m:=fun h=>hmd (by rw[<-h]);exact⟨q,by simp only[L',h2,h3,if_false];exact hq,hb.ren hren⟩
   ·rw[b8 (by simpa using hj)] at ht;simp only[aL] at ht
    have hj2:j=len:=by
     have:=(ac.1 ht).1;simp at this;omega
    subst hj2;rw[hlen] at ht;simp at ht;subst ht;exact⟨p,by simp[L',hp],ha.ren hren⟩
  ·rw[Gh _ h1] at ht;have h2:t≠(d,len):=fun h=>h1 (by rw[h]);by_cases h3:t=m
   ·subst h3;rw[Ko Bz hlm] at ht;cases ht;exact⟨none,by simp[L',h2],⟨0,0,rfl⟩⟩
   ·rw[Hz Bz h3,Fw] at ht;obtain⟨ob0,h0,rfl⟩:=Z3.1 ht;obtain⟨q,hq,hb⟩:=hs.ob t ob0 h0;exact⟨q,by simp[L',h2,h3,hq],hb.ren hren⟩
 ·intro t ht;simp only at ht;rw[hgd] at ht;by_cases h1:t.1=d
  ·obtain⟨a,j⟩:=t;simp only at h1;subst h1;rw[G5 _ hlt] at ht;have hj:l.length < j:=by have:=aI.1 ht;simp at this;omega
   have h2:((a,j):Nm)≠(a,len):=fun h=>by have:=congrArg Prod.snd h;simp at this;omega
   have h3:((a,j):Nm)≠m:=fun h=>hmd (by rw[<-h]);simp only[L',h2,h3,if_false];exact hs.dom _ (by rw[hlook];exact aI.2 (by omega))
  ·rw[Gh _ h1] at ht;have h2:t≠(d,len):=fun h=>h1 (by rw[h])
   have h3:t≠m:=fun h=>by
    subst h;have:=(Jd Bz).1 ht;rw[hlm] at this;cases this
   have:=(Jd Bz).1 ht;rw[Fw] at this;simp only[L',h2,h3,if_false];exact hs.dom t (by simpa using this)
 ·refine hf.own rfl rfl rfl (Z5 _) (fun _ _ _=>rfl) (fun _ h=>h) (fun _ h=>.inl h) (fun x b C hx=>?_) (fun x x' b C C' h1 h2=>?_)
  ·obtain⟨x',hx',_⟩:=hsome x b C hx;exact⟨(hf.lB x' b C hx').2.1,(hf.lB x' b C hx').2.2.1,.inr ⟨x',C,hx'⟩⟩
  ·obtain⟨y,hy1,hy2⟩:=hsome x b C h1;obtain⟨z,hz1,hz2⟩:=hsome x' b C' h2;have hyz:=hf.inj y z b C C' hy1 hz1;rcases hy2 with ⟨rfl,rfl⟩ | ⟨g1,g2,rfl⟩<;>rcases hz2 with ⟨rfl,rfl⟩ | ⟨g3,g4,rfl⟩;·rfl
   ·exact absurd hyz.symm g4
   ·exact absurd hyz g2
   ·exact hyz
theorem growC_ok (x off k:Nat) (hs:SR lp I L st tmv suf w) (hf:Fr cx w0 I0 F0 O0 Hd R e ds I F L w):∃ L',SR lp I L' (OA x off k st) tmv suf w/\Fr cx w0 I0 F0 O0 Hd R e ds I F L' w:=by
 unfold OA;split
 case h_2=>exact⟨L,hs,hf⟩
 rename_i nm o hx;split
 case h_2=>exact⟨L,hs,hf⟩
 rename_i cs hlk;unfold ND;simp only
 split;·rename_i hi;exact ZA hlk hi hs hf
 ·rename_i m k' o' n' hi;split
  case isFalse=>exact⟨L,hs,hf⟩
  rename_i hm;split
  case h_2=>exact⟨L,hs,hf⟩
  rename_i ob hob;cases hl:st.objs[nm.1]? with
  | none=>unfold Ak at hlk;rw[hl] at hlk;cases hlk
  | some l =>
   have hgd:st.objs.getD nm.1 []=l:=by rw[Z9,hl];rfl
   rw[hgd];exact Yz hl rfl hm hob hs hf
 ·exact⟨L,hs,hf⟩
theorem grow_ok (t k:Nat) (hs:SR lp I L st tmv suf w) (hf:Fr cx w0 I0 F0 O0 Hd R e ds I F L w):∃ L',SR lp I L' (Lk t k st) tmv suf w/\Fr cx w0 I0 F0 O0 Hd R e ds I F L' w:=by
 unfold Lk;split;·exact growC_ok _ _ _ hs hf
 split
 case h_2=>exact⟨L,hs,hf⟩
 rename_i hx;split
 case isFalse=>exact⟨L,hs,hf⟩
 rename_i hem;have hcl:=TN hem
 have hn:=hs.news hcl [.arr k 0 []] [none] rfl (by
  intro j ob p h1 h2;cases j with
  | zero=>simp at h1 h2;subst h1;subst h2;exact⟨k,_,rfl⟩
  | succ j=>simp at h1)
 have hxs:st.tmps[t]?=some .nilS:=by
  cases h:st.tmps[t]? with
  | none=>rw[Z9,h] at hx;simp at hx
  | some x=>rw[Z9,h] at hx;simp at hx;rw[hx]
 obtain⟨v,hv,hr⟩:=hs.tm.get hxs;have hvv:=Gm hr;subst hvv;have hp:=hn.put t (v:=.arr (t,0) k 0 0) (v':=.slice none 0 0) (.arrN _ k (by simp[Cr]));rw[Sj hv] at hp;refine⟨Cr L t [none],hp,?_⟩;refine Fr.news hf hcl rfl rfl rfl (Z5 _) (fun _ _=>rfl) ?_ ?_
 ·intro j b C hj;cases j with
  | zero=>simp at hj
  | succ j=>simp at hj
 ·intro j j' b C C' h1 _;cases j with
  | zero=>simp at h1
  | succ j=>simp at h1
theorem norm0_ok (asg:List Nat) (grow:List (Nat×Nat)) (hs:SR lp I L st tmv suf w) (hf:Fr cx w0 I0 F0 O0 Hd R e ds I F L w):∃ L',SR lp I L' (Qn asg grow st) tmv suf w/\Fr cx w0 I0 F0 O0 Hd R e ds I F L' w:=by
 have h1:∀ (asg:List Nat) (st:St) (L:AF),SR lp I L st tmv suf w->Fr cx w0 I0 F0 O0 Hd R e ds I F L w->∃ L',SR lp I L' (asg.foldl (fun st t=>KN t st) st) tmv suf w/\Fr cx w0 I0 F0 O0 Hd R e ds I F L' w:=by
  intro asg;induction asg with
  | nil=>intro st L hs hf;exact⟨L,hs,hf⟩
  | cons t asg ih =>
   intro st L hs hf;obtain⟨L',hs',hf'⟩:=rehome_ok t hs hf;exact ih _ L' hs' hf'
 have h2:∀ (grow:List (Nat×Nat)) (st:St) (L:AF),SR lp I L st tmv suf w->Fr cx w0 I0 F0 O0 Hd R e ds I F L w->∃ L',SR lp I L' (grow.foldl (fun st (t,k)=>Lk t k st) st) tmv suf w/\Fr cx w0 I0 F0 O0 Hd R e ds I F L' w:=by
  intro grow;induction grow with
  | nil=>intro st L hs hf;exact⟨L,hs,hf⟩
  | cons t grow ih =>
   intro st L hs hf;obtain⟨L',hs',hf'⟩:=grow_ok t.1 t.2 hs hf;exact ih _ L' hs' hf'
 obtain⟨L1,hs1,hf1⟩:=h1 asg st L hs hf;exact h2 grow _ L1 hs1 hf1
theorem YL (xs:List Nat) {L:Option AF}:∀ (k:Nat) {ys:List PV} {vs:List Value},Aq w I lp L ys vs->Aq w I lp L ((ys.zipIdx k).map fun (v,i)=>if xs.contains i then .undef else v) vs:=by
 intro k ys;induction ys generalizing k with
 | nil=>intro vs h;cases h;exact .nil
 | cons y ys ih =>
  intro vs h;cases h with
  | cons _ v _ vs h hs =>
   rw[cM,ZZ];refine .cons _ _ _ _ ?_ (ih (k+1) hs);simp only
   split;·exact .undef v
   ·exact h
theorem YM (xs:List Nat) (hs:SR lp I L st tmv suf w):SR lp I L (KI xs st) tmv suf w:={hs with tm:=YL xs 0 hs.tm}
theorem keep_some (xs:List Nat) {L:Option AF}:∀ (k:Nat) {ys:List PV} {vs:List Value},Aq w I lp L ys vs->Aq w I lp L ((ys.zipIdx k).map fun (v,i)=>if xs.contains i then v else .undef) vs:=by
 intro k ys;induction ys generalizing k with
 | nil=>intro vs h;cases h;exact .nil
 | cons y ys ih =>
  intro vs h;cases h with
  | cons _ v _ vs h hs =>
   rw[cM,ZZ];refine .cons _ _ _ _ ?_ (ih (k+1) hs);simp only
   split;·exact h
   ·exact .undef v
theorem Yw (xs:List Nat) (hs:SR lp I L st tmv suf w):SR lp I L (KG xs st) tmv suf w:={hs with tm:=keep_some xs 0 hs.tm}
theorem PF (Bz:Option (List Nat)) (hs:SR lp I L st tmv suf w) (hf:Fr cx w0 I0 F0 O0 Hd R e ds I F L w):∃ L',SR lp I L' (Hu Bz st) tmv suf w/\Fr cx w0 I0 F0 O0 Hd R e ds I F L' w:=by
 unfold Hu;split;·exact⟨L,hs,hf⟩
 ·exact NH _ (Yw _ hs) hf
theorem Xd (xs:List Nat) (hs:SR lp I L st tmv suf w) (hf:Fr cx w0 I0 F0 O0 Hd R e ds I F L w):∃ L',SR lp I L' (drop xs st) tmv suf w/\Fr cx w0 I0 F0 O0 Hd R e ds I F L' w:=by
 unfold drop;exact NH _ (YM xs hs) hf
theorem WA {R:List Nm} {d m:Nat} (h:(d,m)∈R):∀ {n},m < n->m < HU R d n
 | n+1,hn=>by
  unfold HU;split;·exact hn
  ·rename_i hc;have hne:m≠n:=fun e=>hc (by rw[<-e];exact bk.2 h);exact WA h (by omega)
theorem SJ (hs:SR lp I L st tmv suf w) (hf:Fr cx w0 I0 F0 O0 Hd R e ds I F L w):∃ L',SR lp I L' (trim st) tmv suf w/\Fr cx w0 I0 F0 O0 Hd R e ds I F L' w:=by
 obtain⟨T,O,K⟩:=st;unfold trim;simp only
 generalize hR:(AR T++AR K++O.flatMap fun l=>l.flatMap Ob.names)=Rn
 let D:Nm->Prop:=fun nm=>(Ak O nm).isSome=true/\HU Rn nm.1 (O.getD nm.1 []).length<=nm.2
 have hno:∀ nm∈Rn,¬ D nm:=by
  rintro nm hn ⟨h1,h2⟩
  have hl:nm.2 < (O.getD nm.1 []).length:=by
   unfold Ak at h1;cases hq:O[nm.1]? with
   | none=>rw[hq] at h1;cases h1
   | some l =>
    rw[hq] at h1;rw[Z9,hq];obtain⟨x,hx⟩:=bT.1 h1;exact (ac.1 hx).1
  have:=WA (R:=Rn) (d:=nm.1) (m:=nm.2) hn hl;omega
 have hsub:∀ xs:List PV,(∀ nm∈AR xs,nm∈Rn)->A2 (fun m=>if D m then some none else none) xs=xs:=by
  intro xs hx;rw[Jj (g:=fun _=>none) xs fun nm hn=>if_neg (hno nm (hx nm hn)),subL_id]
 have hobs:∀ nm ob,Ak O nm=some ob->ob.sub (fun m=>if D m then some none else none)=ob:=by
  intro nm ob hl;cases ob with
  | cells ty cs =>
   show Ob.cells ty _=_;rw[hsub cs fun m hm=>?_];rw[<-hR];refine aw _ (bE.2 ?_);unfold Ak at hl;cases hq:O[nm.1]? with
   | none=>rw[hq] at hl;cases hl
   | some l =>
    rw[hq] at hl;exact⟨l,aj hq,bE.2 ⟨_,aj hl,hm⟩⟩
  | arr k kt xs=>rfl
  | map es=>rfl
  | siter s pos=>rfl
 have hl:=hs.letgo (D:=D) (objs':=O.zipIdx.map fun x=>x.1.take (HU Rn x.2 x.1.length)) (by
  intro nm
  have hrhs:(Ak O nm).map (Ob.sub fun m=>if D m then some none else none)=Ak O nm:=by
   cases hq:Ak O nm with
   | none=>rfl
   | some ob=>simp only[ao];rw[hobs nm ob hq]
  simp only
  rw[hrhs];by_cases hd:D nm
  ·rw[if_pos hd];obtain⟨h1,h2⟩:=hd;unfold Ak;rw[aa,bw];cases hq:O[nm.1]? with
   | none=>rfl
   | some l =>
    rw[Z9,hq] at h2;simp only[ao,az,aM] at h2 |-;exact aA (by rw[bS];omega)
  ·rw[if_neg hd];unfold Ak;rw[aa,bw];cases hq:O[nm.1]? with
   | none=>rfl
   | some l =>
    simp only[ao,az];rw[List.getElem?_take];split;·rfl
    ·rename_i hc;cases hx:l[nm.2]? with
     | none=>rfl
     | some x =>
      exfalso;refine hd ⟨?_,?_⟩;·unfold Ak;rw[hq];simp[hx]
      ·rw[Z9,hq];simp only[aM];omega)
 rw[hsub T fun nm hn=>by rw[<-hR];simp[hn],hsub K fun nm hn=>by rw[<-hR];simp[hn]] at hl;refine⟨_,hl,hf.letgo fun nm p hn=>?_⟩;split at hn;·cases hn
 ·exact hn
theorem NQ (asg:List Nat) (grow:List (Nat×Nat)) (hs:SR lp I L st tmv suf w) (hf:Fr cx w0 I0 F0 O0 Hd R e ds I F L w):∃ L',SR lp I L' (norm asg grow st) tmv suf w/\Fr cx w0 I0 F0 O0 Hd R e ds I F L' w:=by
 obtain⟨L1,hs1,hf1⟩:=norm0_ok asg grow hs hf;exact Xd _ hs1 hf1
end
end Go.Ab


namespace Go.Ab
def DD:Ex->Exit
 | .normal=>.normal
 | .exit id=>if id < CJ then .exit id else .goto (id - CJ)
 | .ret=>.ret
def K2:Ex->Option Code
 | .normal=>none
 | .exit id=>some (if id < CJ then .exit id else .goto (id - CJ))
 | .ret=>some .ret
def EM (cx:Cx) (M:Bf) (fuel:Nat) (r:Bu) (c:Code):Prop :=
 ∀ (E:Type) (h:Ay E) (dep:Nat) (R:BV E) (lp:Nat->Option Nat) (w0:World) (I0 F0:Nat->Prop) (O0:B9) (Hd:Nat->Option Obj) (suf:List Value) (ro:Option Nat) (st:St) (e:E) (x:Ex) (st2:St) (e2:E),
  AQ M fuel r h dep st e=some (x,st2,e2)->Ref cx lp R h dep w0 I0 F0->(∀ l0,ro=some l0->∃ r0,Hd l0=some (.loop r0)) ->
  ∀ (a:Act) (w:World) (I F:Nat->Prop) (L:AF) (Q:Exit->Act->World->Prop),SR lp I L st a.tmps.toList suf w->Fr cx w0 I0 F0 O0 Hd R e a.defers I F L w ->
   (∀ a' w' I' F' L',SR lp I' L' st2 a'.tmps.toList suf w'->Fr cx w0 I0 F0 O0 Hd R e2 a'.defers I' F' L' w'->Q (DD x) a' w')->c.wpIn (Ee ro) 0 cx.P Q a w
def J0 (cx:Cx) (dd:Er) (M:Bf) (fuel:Nat) (c:Code):Prop :=
 ∀ (E:Type) (h:Ay E) (dep:Nat) (R:BV E) (lp:Nat->Option Nat) (w0:World) (I0 F0:Nat->Prop) (O0:B9) (Hd:Nat->Option Obj) (suf:List Value) (ro:Option Nat) (st:St) (e:E) (x:Ex) (st2:St) (e2:E),
  AQ M fuel (BO cx.P cx.G dd c) h dep st e=some (x,st2,e2)->Ref cx lp R h dep w0 I0 F0->(∀ l0,ro=some l0->∃ r0,Hd l0=some (.loop r0)) ->
  ∀ (a:Act) (w:World) (I F:Nat->Prop) (L:AF) (Q:Exit->Act->World->Prop),SR lp I L st a.tmps.toList suf w->Fr cx w0 I0 F0 O0 Hd R e a.defers I F L w ->
   (∀ a' w' I' F' L',SR lp I' L' st2 a'.tmps.toList suf w'->Fr cx w0 I0 F0 O0 Hd R e2 a'.defers I' F' L' w'->Q (DD x) a' w')->c.wpIn (Ee ro) 0 cx.P Q a w
section
variable {E:Type} {cx:Cx} {w0:World} {I0 F0:Nat->Prop} {O0:B9} {Hd:Nat->Option Obj} {R:BV E} {e:E} {F:Nat->Prop} {lp:Nat->Option Nat} {suf tmv:List Value}
variable {I:Nat->Prop} {L:AF} {st:St} {w:World} {ds:List Deferred}
theorem ZC (hs:SR lp I L st tmv suf w) (hf:Fr cx w0 I0 F0 O0 Hd R e ds I F L w) {x y:PV} {v:Value} {st':St} (hx:Aw w I lp (some L) x v) (h:KR st x=some (y,st')) :
  ∃ I' L',SR lp I' L' st' tmv suf w/\Fr cx w0 I0 F0 O0 Hd R e ds I' F L' w/\Aw w I' lp none y v:=by
 unfold KR at h;split at h
 ·rename_i hn;cases h;exact⟨I,L,hs,hf,hx.shut (aY.1 hn)⟩
 ·obtain⟨hR,h⟩:=Bn h;cases h;exact⟨_,_,hs.freeze hR,hf.freeze _,Y1 hs hR hx fun nm hn=>Fd _ _ nm hn⟩
def Gg (L:AF) (b:Nat):Prop:=∃ nm C,L nm=some (some (b,C))
def B4 (rc:Loop) (p:Option Ex):Loop :=
 match p with
 | none=>{rc with state:=.ready,pending:=none}
 | some x=>{rc with state:=.done,pending:=K2 x}
def relRec (w0:World) (O0:B9) (R:BV E) (lp:Nat->Option Nat) (l:Nat) (rc:Loop) (tm suf:List Value):BV (GE E) where
 rel:=fun r I F w=>∃ L Fo,SR lp I L r.1 tm suf w/\(∀ b,F b↔Fo b\/Gg L b\/b=l)/\(∀ b,Gg L b->¬ Fo b/\b≠l/\(w0.heap.size<=b\/O0 b))/\¬ Fo l /\
  (∀ nm nm' b C C',L nm=some (some (b,C))->L nm'=some (some (b,C'))->nm=nm')/\w.heap[l]?=some (.loop (B4 rc r.2.1))/\R.rel r.2.2 I Fo w
 stab:=by
  rintro r I I' F w w' ⟨L,Fo,h1,h2,h3,h4,h5,h6,h7⟩ hI hk hsz
  exact⟨L,Fo,h1.keeps hI (fun b hb=>hk b (.inl hb)) (fun nm b C hn=>hk b (.inr ((h2 b).2 (.inr (.inl ⟨nm,C,hn⟩))))),h2,h3,h4,h5,
   (hk l (.inr ((h2 l).2 (.inr (.inr rfl))))).trans h6,R.stab r.2.2 I I' Fo w w' h7 hI (fun b hb=>hk b (hb.imp id fun hf=>(h2 b).2 (.inl hf))) hsz⟩
theorem Cf.less {I F I' F' F2:Nat->Prop} {w w':World} (h:Cf I F w I' F' w') (hF:∀ b,F2 b->F' b):Cf I F w I' F2 w' :=
 ⟨h.os,h.tape,h.output,h.size,h.keep,h.subI,h.newI,fun b hb=>h.newF b (hF b hb)⟩
theorem Fr.hput (hf:Fr cx w0 I0 F0 O0 Hd R e ds I F L w) {l:Nat} {ob ob':Obj} (hl:Hd l=some ob) (hF0:w0.heap.size<=l\/F0 l) (hds:∀ D,D∈ds.map (·.target)->D≠.collected l) :
  Fr cx w0 I0 F0 O0 (fun b=>if b=l then some ob' else Hd b) R e ds I F L (w.putObj l ob'):=by
 obtain⟨d1,d2,d3,d4,d5⟩:=hf.hld l ob hl;have hk:∀ b,b≠l->(w.putObj l ob').heap[b]?=w.heap[b]?:=fun b hb=>World.putObj_heap_other hb;have hsz:(w.putObj l ob').heap.size=w.heap.size:=World.putObj_size
 refine⟨⟨hf.ext.os,hf.ext.tape,hf.ext.output,by rw[hsz];exact hf.ext.size,fun b hb hF=>?_,hf.ext.subI,hf.ext.newI,hf.ext.newF⟩,⟨fun b hb=>by rw[hsz];exact hf.sep.iB b hb,fun b hb=>⟨by rw[hsz];exact (hf.sep.fB b hb).1,(hf.sep.fB b hb).2⟩⟩,hf.oF,
  fun nm b C hn=>⟨(hf.lB nm b C hn).1,by rw[hsz];exact (hf.lB nm b C hn).2.1,(hf.lB nm b C hn).2.2⟩,hf.inj,?_,?_,?_,?_⟩
 ·have hne:b≠l:=fun e=>by subst e;exact hF0.elim (fun h=>by omega) hF
  exact (hk b hne).trans (hf.ext.keep b hb hF)
 ·exact cx.stab I I w _ hf.wd (fun _ h=>h) (fun b hb=>hk b fun e=>d2 (e ▸ hb)) (by rw[hsz];exact Z5 _)
 ·exact R.stab e I I F w _ hf.re (fun _ h=>h) (fun b hb=>hk b fun e=>hb.elim (fun h=>d2 (e ▸ h)) fun h=>d3 (e ▸ h)) (by rw[hsz];exact Z5 _)
 ·have key:∀ ds rs,DC w0.heap.size I F L w ds rs->(∀ D,D∈ds.map (·.target)->D≠.collected l)->DC w0.heap.size I F L (w.putObj l ob') ds rs:=by
   intro ds rs h;induction h with
   | nil=>intro _;exact .nil
   | call d ds rs hd _ ih=>intro hne;exact .call d ds rs hd (ih fun D' hD'=>hne D' (by simp at hD' |-;exact .inr hD'))
   | cons D ds rs h1 h2 h3 h4 h5 h6 h7 _ ih =>
    intro hne;have hD:D≠l:=fun e=>hne (.collected D) (by simp) (by rw[e]);exact .cons D ds rs h1 (by rw[hsz];exact h2) h3 h4 h5 ((hk D hD).trans h6) h7 (ih fun D' hD'=>hne D' (by simp at hD' |-;exact .inr hD'))
  exact key ds _ hf.mks hds
 ·intro b ob2 hb;by_cases hbl:b=l
  ·subst hbl;simp only[if_true,Z6] at hb;subst hb;exact⟨by rw[hsz];exact d1,d2,d3,d4,World.putObj_heap_same d1⟩
  ·simp only[hbl,if_false] at hb;obtain⟨g1,g2,g3,g4,g5⟩:=hf.hld b ob2 hb;exact⟨by rw[hsz];exact g1,g2,g3,g4,(hk b hbl).trans g5⟩
theorem SR.hput {I:Nat->Prop} (hs:SR lp I L st tmv suf w) {l:Nat} (ob':Obj) (hI:¬ I l) (hL:∀ nm C,L nm≠some (some (l,C))):SR lp I L st tmv suf (w.putObj l ob') :=
 hs.keeps (fun _ h=>h) (fun b hb=>World.putObj_heap_other fun e=>hI (e ▸ hb)) fun nm b C hn=>World.putObj_heap_other fun e=>hL nm C (e ▸ hn)
theorem setPs_rep {w:World} {I:Nat->Prop} {lp:Nat->Option Nat} {L:Option AF}:∀ (ps:List Nat) (vs:List PV) (us:List Value) (tm:List PV) (tv:Array Value),Aq w I lp L vs us->Aq w I lp L tm tv.toList->vs.length=ps.length ->
  Aq w I lp L (Ho ps vs tm) ((ps.zip us).foldl (fun (tmps:Array Value) (x:Nat×Value)=>tmps.setIfInBounds x.1 x.2) tv).toList:=by
 intro ps;induction ps with
 | nil=>intro vs us tm tv hv ht _;cases vs<;>exact ht
 | cons p ps ih =>
  intro vs us tm tv hv ht hl;cases hv with
  | nil=>simp at hl
  | cons v u vs us h hs =>
   simp only[Ho,List.zip_cons_cons,bJ];refine ih vs us _ _ hs ?_ (by simpa using hl);rw[dg];exact ht.set p h
end
def S8 (M:Bf) (fuel:Nat) {E:Type} (h:Ay E) (dep:Nat) (ps:List Nat) (assign body:Bu):Ay (GE E):=fun l args r =>
 if l=dep then
  match r with
  |(s,none,e) =>
   if args.length=ps.length then
    match AQ M fuel assign h (dep+1) {s with tmps:=Ho ps args s.tmps,keep:=s.tmps++s.keep} e with
    | some (.normal,s',e)=>match AQ M fuel body h (dep+1) s' e with
     | some (x,s',e)=>some (x==.normal,({s' with tmps:=s'.keep.take s.tmps.length,keep:=s'.keep.drop s.tmps.length},(if x=.normal then none else some x),e))
     | none=>none
    | _=>none
   else none
  | _=>none
 else
  match r with
  |(s,p,e)=>match h l args e with
   | some (b,e)=>some (b,(s,p,e))
   | none=>none
theorem YD (M:Bf) (fuel:Nat) (f:RX) (ps:List Nat) (assign body:Bu) {E:Type} (h:Ay E) (dep:Nat) (st:St) (e:E) :
  AQ M fuel (.rangeFunc f ps assign body) h dep st e=(match KR st (f.ev st.tmps) with
   | some (.fn g cap,st)=>match M.call (GE E) (S8 M fuel h dep ps assign body) (dep+1) (AY g) (Bt g [.yld dep] cap) (st,none,e) with
    | some (_,_,s,p,e)=>some (p.getD .normal,s,e)
    | none=>none
   | _=>none):=rfl
section round
variable {E:Type} {cx:Cx} {w0:World} {I0 F0:Nat->Prop} {O0:B9} {Hd:Nat->Option Obj} {R:BV E} {lp:Nat->Option Nat} {suf:List Value}
variable {w1:World} {I1 F1:Nat->Prop} {dd:Er} {M:Bf} {fuel:Nat} {h:Ay E} {dep:Nat}
theorem round_ok (href:Ref cx lp R h dep w0 I0 F0) (hx1:Cf I0 F0 w0 I1 F1 w1) {l:Nat} {rc:Loop} {ps:Array Nat} {assign body:Code} {rb:Bu} (hps:rc.params=ps) (hra:rc.assign=assign) (hrb:rc.body=body)
  (hl0:w0.heap.size<=l) (hca:J0 cx dd M fuel assign) (hcb:EM cx M fuel rb body) :
  Qh cx (fun d=>if d=dep then some l else lp d) (relRec w0 O0 R lp l rc rc.tmps.toList suf) I1 F1 w1 (S8 M fuel h dep ps.toList (BO cx.P cx.G dd assign) rb):=by
 obtain⟨Ir,Fr_,wr,hand,hxr⟩:=href.hand;rintro d args ⟨s,p,e⟩ b r' l' hh hl' vs I F w hrep hx hsep hwd ⟨L,Fo,g1,g2,g3,g4,g5,g6,g7⟩;simp only at g1 g6 g7;have hFl:F l:=(g2 l).2 (.inr (.inr rfl));have hlw:=(hsep.fB l hFl).1;have hIl:=(hsep.fB l hFl).2;have hLl:∀ nm C,L nm≠some (some (l,C)):=fun nm C hn=>(g3 l ⟨nm,C,hn⟩).2.1 rfl;have hxo:Cf Ir Fr_ wr I Fo w:=(hxr.trans (hx1.trans hx)).less fun b hb=>(g2 b).2 (.inl hb);have hsepo:IF I Fo w:=⟨hsep.iB,fun b hb=>hsep.fB b ((g2 b).2 (.inl hb))⟩
 have hblk:∀ nm b C,L nm=some (some (b,C))->b < w.heap.size/\¬ I b/\¬ Fo b/\b≠l:=fun nm b C hn=>by
  have hb:Gg L b:=⟨nm,C,hn⟩;have hF:=hsep.fB b ((g2 b).2 (.inr (.inl hb)));exact⟨hF.1,hF.2,(g3 b hb).1,(g3 b hb).2.1⟩
 unfold S8 at hh;by_cases hd:d=dep
 ·subst hd;simp only[if_true,Z6] at hl' hh;subst hl';cases p with
  | some x=>simp at hh
  | none =>
   simp only at hh;split at hh
   case isFalse=>cases hh
   rename_i hlen;split at hh
   case h_2=>cases hh
   rename_i s1 e1 hev1;split at hh
   case h_2=>cases hh
   rename_i x s2 e2 hev2;cases hh
   have hargs:vs.toArray.size=rc.params.size:=by
    have:=hrep.length;rw[hps];simp only[cy];have h2:ps.toList.length=ps.size:=bx;omega
   have hrec:w.heap[l]?=some (.loop (B4 rc none)):=g6;refine⟨_,_,_,_,run_yield hrec (by simpa[B4] using hargs),?_⟩;refine roundIn_of_wpIn trivial ?_
   have hst0:SR lp I L {s with tmps:=Ho ps.toList args s.tmps,keep:=s.tmps++s.keep}
     ((((B4 rc none).params.zip vs.toArray).foldl (fun tmps (x:Nat×Value)=>tmps.setIfInBounds x.1 x.2) (B4 rc none).tmps)).toList (rc.tmps.toList++suf) w:=by
    refine⟨?_,g1.tm.append g1.kp,g1.ob,g1.dom⟩;have:=setPs_rep ps.toList args vs s.tmps rc.tmps (Aq.mono (fun _ h=>h) (fun _ _=>rfl) (fun d l h=>by cases h) (hrep.lift (some L))) g1.tm (by simpa using hlen)
    have hfold:(((B4 rc none).params.zip vs.toArray).foldl (fun tmps (x:Nat×Value)=>tmps.setIfInBounds x.1 x.2) (B4 rc none).tmps)=(ps.toList.zip vs).foldl (fun (tmps:Array Value) (x:Nat×Value)=>tmps.setIfInBounds x.1 x.2) rc.tmps:=by
     simp only[B4,hps];rw[<-Array.foldl_toList,Array.toList_zip]
    rw[hfold];exact this
   have hfr0:Fr cx w I F ⟨Gg L,[]⟩ (fun b=>if b=l then some (.loop (B4 rc none)) else none) R e [] I Fo L w:=by
    refine⟨⟨rfl,rfl,rfl,Z5 _,fun _ _ _=>rfl,fun _ h=>h,fun _ h=>.inl h,fun b hb=>.inl ((g2 b).2 (.inl hb))⟩,hsepo,fun b hb=>(g2 b).2 (.inr (.inl hb)),fun nm b C hn=>?_,g5,hwd,g7,.nil,fun b ob hb=>?_⟩
    ·obtain⟨q1,q2,q3,q4⟩:=hblk nm b C hn;exact⟨.inr ⟨nm,C,hn⟩,q1,q2,q3⟩
    ·by_cases hbl:b=l
     ·subst hbl;simp only[if_true,Z6] at hb;subst hb;exact⟨hlw,hIl,g4,hLl,hrec⟩
     ·simp[hbl] at hb
   have href':Ref cx lp R h (d+1) w I F:=⟨⟨Ir,Fr_,wr,hand,hxr.trans (hx1.trans hx)⟩,fun d' l' hd'=>Nat.lt_succ_of_lt (href.dep d' l' hd')⟩;have hca':=hca E h (d+1) R lp w I F ⟨Gg L,[]⟩ (fun b=>if b=l then some (.loop (B4 rc none)) else none) (rc.tmps.toList++suf) (some l) _ e .normal s1 e1 hev1 href' (fun l0 he=>by cases he;exact⟨B4 rc none,by simp⟩);have hasn:(B4 rc none).assign=assign:=hra;have hbdy:(B4 rc none).body=body:=hrb;rw[hasn,hbdy];refine hca' {tmps:=_,defers:=[]} w I Fo L _ hst0 hfr0 ?_;rintro a1 w2 I2 F2 L2 hs2 hf2;have hheld:=hf2.hld l (.loop (B4 rc none)) (by simp);obtain⟨k1,k2,k3,k4,k5⟩:=hheld
   have hge:∀ {I F:Nat->Prop} {L:AF} {w':World} {ds rs:List Deferred},DC w.heap.size I F L w' ds rs->∀ D,D∈ds.map (·.target)->D≠.collected l:=by
    intro I F L w' ds rs hm;induction hm with
    | nil=>intro D hD;simp at hD
    | call d' ds rs hd _ ih =>
     intro D' hD';simp only[ZZ,Z7] at hD';rcases hD' with rfl | hD';·exact hd l
     ·exact ih D' hD'
    | cons D ds rs h1 _ _ _ _ _ _ _ ih =>
     intro D' hD';simp only[ZZ,Z7] at hD';rcases hD' with rfl | hD';·intro he;cases he;omega
     ·exact ih D' hD'
   refine⟨_,run_beginRound k5 rfl,?_⟩;have hf2':=hf2.hput (ob':=.loop {B4 rc none with state:=.busy}) (l:=l) (ob:=.loop (B4 rc none)) (by simp) (.inr hFl) (hge hf2.mks);have hs2':=hs2.hput (.loop {B4 rc none with state:=.busy}) k2 k4;refine hcb E h (d+1) R lp w I F ⟨Gg L,[]⟩ (fun b=>if b=l then some (.loop {B4 rc none with state:=.busy}) else if b=l then some (.loop (B4 rc none)) else none) (rc.tmps.toList++suf) (some l) _ e1 x s2 e2 hev2 href' (fun l0 he=>by cases he;exact⟨{B4 rc none with state:=.busy},by simp⟩) a1 _ I2 F2 L2 _ hs2' hf2' ?_;rintro a2 w3 I3 F3 L3 hs3 hf3;have hheld3:=hf3.hld l (.loop {B4 rc none with state:=.busy}) (by simp);obtain⟨m1,m2,m3,m4,m5⟩:=hheld3;have hend:=run_endRound (P:=cx.P) (K2 x) m5
   have hrc:({({B4 rc none with state:=.busy}:Loop) with state:=if (K2 x).isNone then .ready else .done,pending:=K2 x}:Loop)=B4 rc (if x=.normal then none else some x):=by
    cases x<;>rfl
   rw[hrc] at hend;have hf4:=hf3.hput (ob':=.loop (B4 rc (if x=.normal then none else some x))) (l:=l) (ob:=.loop {B4 rc none with state:=.busy}) (by simp) (.inr hFl) (hge hf3.mks);have hs4:=hs3.hput (.loop (B4 rc (if x=.normal then none else some x))) m2 m4;generalize hw4:w3.putObj l (.loop (B4 rc (if x=.normal then none else some x)))=w4 at *;have hl4:=hf4.hld l (.loop (B4 rc (if x=.normal then none else some x))) (by simp);obtain⟨n1,n2,n3,n4,n5⟩:=hl4
   have hpost:(.bool (K2 x).isNone:Value)=.bool (x==.normal)/\∃ I' F',Cf I F w I' F' w4/\IF I' F' w4/\cx.Wd I' w4 /\
     (relRec w0 O0 R lp l rc rc.tmps.toList suf).rel ({s2 with tmps:=s2.keep.take s.tmps.length,keep:=s2.keep.drop s.tmps.length},(if x=.normal then none else some x),e2) I' F' w4:=by
    refine⟨by cases x<;>rfl,I3,(fun b=>F3 b\/Gg L3 b\/b=l),⟨hf4.ext.os,hf4.ext.tape,hf4.ext.output,hf4.ext.size,hf4.ext.keep,hf4.ext.subI,hf4.ext.newI,fun b hb=>?_⟩,⟨hf4.sep.iB,fun b hb=>?_⟩,hf4.wd,L3,F3,⟨?_,?_,hs4.ob,hs4.dom⟩,fun b=>Iff.rfl,fun b hb=>?_,n3,hf4.inj,n5,hf4.re⟩
    ·rcases hb with hb | ⟨nm,C,hb⟩ | rfl;·exact hf4.ext.newF b hb
     ·exact (hf4.lB nm b C hb).1.elim .inr fun ho=>.inl (hf4.oF b ho)
     ·exact .inl hFl
    ·rcases hb with hb | ⟨nm,C,hb⟩ | rfl;·exact hf4.sep.fB b hb
     ·exact⟨(hf4.lB nm b C hb).2.1,(hf4.lB nm b C hb).2.2.1⟩
     ·exact⟨n1,n2⟩
    ·have:=hs4.kp.take s.tmps.length
     rwa [List.take_left' g1.tm.length.symm] at this
    ·have:=hs4.kp.drop s.tmps.length
     rwa [List.drop_left' g1.tm.length.symm] at this
    ·obtain⟨nm,C,hb⟩:=hb;refine⟨(hf4.lB nm b C hb).2.2.2,fun e=>n4 nm C (e ▸ hb),?_⟩;have hsz:=hx1.size;have hsz2:=hx.size;rcases (hf4.lB nm b C hb).1 with h1 | h1;·exact .inl (by omega)
     ·exact (g3 b h1).2.2
   obtain⟨p1,p2⟩:=hpost;cases x with
   | normal=>exact⟨_,_,hend,p1,p2⟩
   | exit id =>
    simp only[DD];simp only[K2] at hend p1;by_cases hid:id < CJ
    ·simp only[hid,if_true] at hend p1 |-;exact⟨_,_,hend,p1,p2⟩
    ·simp only[hid,if_false] at hend p1 |-;exact⟨_,_,hend,p1,p2⟩
   | ret=>exact⟨_,_,hend,p1,p2⟩
 ·simp only[hd,if_false] at hl' hh;split at hh
  case h_2=>cases hh
  rename_i b1 e1 hhe;cases hh;obtain⟨fn,tmps,as,bd,q1,q2⟩:=hand d args e b e1 l' hhe hl' vs I Fo w hrep hxo hsepo hwd g7;refine⟨fn,tmps,as,bd,q1,RoundIn.mono q2 fun en w' hq=>?_⟩;cases en with
  | panicked chain=>exact hq.elim
  | outgrown=>exact hq.elim
  | returned v =>
   obtain⟨rfl,I',Fo',r1,r2,r3,r4⟩:=hq
   have hoff:∀ b,b < w.heap.size->¬ I b->¬ Fo b->¬ I' b/\¬ Fo' b/\w'.heap[b]?=w.heap[b]?:=fun b h1 h2 h3 =>
    ⟨fun h=>by rcases r1.newI b h with h | h | h<;>first | exact h2 h | exact h3 h | omega,fun h=>by rcases r1.newF b h with h | h<;>first | exact h3 h | omega,r1.keep b h1 h3⟩
   have hsz:=r1.size
   refine⟨rfl,I',(fun b=>Fo' b\/Gg L b\/b=l),⟨r1.os,r1.tape,r1.output,r1.size,fun b hb hF=>r1.keep b hb fun h=>hF ((g2 b).2 (.inl h)),r1.subI,fun b hb=>?_,fun b hb=>?_⟩,⟨r2.iB,fun b hb=>?_⟩,r3,L,Fo',
    g1.keeps r1.subI (fun b hb=>r1.sameI hsepo b hb) (fun nm b C hn=>(hoff b (hblk nm b C hn).1 (hblk nm b C hn).2.1 (hblk nm b C hn).2.2.1).2.2),fun b=>Iff.rfl,fun b hb=>?_,(hoff l hlw hIl g4).2.1,g5,(hoff l hlw hIl g4).2.2.trans g6,r4⟩
   ·rcases r1.newI b hb with h | h | h;·exact .inl h
    ·exact .inr (.inl ((g2 b).2 (.inl h)))
    ·exact .inr (.inr h)
   ·rcases hb with hb | hb | rfl;·exact (r1.newF b hb).imp (fun h=>(g2 b).2 (.inl h)) id
    ·exact .inl ((g2 b).2 (.inr (.inl hb)))
    ·exact .inl hFl
   ·rcases hb with hb | ⟨nm,C,hb⟩ | rfl;·exact r2.fB b hb
    ·obtain⟨u1,u2,u3,_⟩:=hblk nm b C hb;exact⟨by omega,(hoff b u1 u2 u3).1⟩
    ·exact⟨by omega,(hoff b hlw hIl g4).1⟩
   ·obtain⟨nm,C,hn⟩:=hb;obtain⟨u1,u2,u3,u4⟩:=hblk nm b C hn;exact⟨(hoff b u1 u2 u3).2.1,u4,(g3 b ⟨nm,C,hn⟩).2.2⟩
end round
end Go.Ab


namespace Go.Ab
section
variable {E:Type} {cx:Cx} {w0:World} {I0 F0:Nat->Prop} {O0:B9} {Hd:Nat->Option Obj} {R:BV E} {e e2:E} {F:Nat->Prop} {lp:Nat->Option Nat} {suf:List Value}
variable {I:Nat->Prop} {L:AF} {st st2:St} {a:Act} {w:World} {dd:Er} {M:Bf} {fuel:Nat} {h:Ay E} {dep:Nat}
theorem Fr.hold {ds:List Deferred} {Hd':Nat->Option Obj} (hf:Fr cx w0 I0 F0 O0 Hd' R e ds I F L w) (hh:∀ b ob,Hd b=some ob->Hd' b=some ob):Fr cx w0 I0 F0 O0 Hd R e ds I F L w :=
 {hf with hld:=fun b ob hb=>hf.hld b ob (hh b ob hb)}
theorem enter_ok {ro:Option Nat} (hro:∀ l0,ro=some l0->∃ r0,Hd l0=some (.loop r0)) {ds:List Deferred} (hf:Fr cx w0 I0 F0 O0 Hd R e ds I F L w) (fn:FuncId) (tmps:Array Value) (ps:Array Tmp) (assign body:Code) :
  ∃ (l:Nat) (mark:List Deferred) (w1:World) (rc:Loop),(Instr.enterLoop fn tmps ps assign body ro).run cx.P w=.ok (l,mark) w1/\rc.params=ps/\rc.assign=assign/\rc.body=body/\rc.tmps=tmps /\
   w1.heap[l]?=some (.loop (B4 rc none))/\w.heap.size<=l/\l < w1.heap.size/\w1.os=w.os/\w1.tape=w.tape/\w1.output=w.output/\w.heap.size<=w1.heap.size/\(∀ b,b < w.heap.size->w1.heap[b]?=w.heap[b]?) /\
   (mark=[]\/(mark=[{target:=.collected w.heap.size,args:=#[]}]/\w1.heap[w.heap.size]?=some (.deferred (some []))/\w.heap.size < l)):=by
 cases ro with
 | none =>
  refine⟨_,_,_,{state:=.ready,pending:=none,fn,tmps,params:=ps,assign,body,defers:=w.heap.size},run_enterLoop_outer fn tmps ps assign body,rfl,rfl,rfl,rfl,?_,by omega,by simp,rfl,rfl,rfl,by simp;omega,fun b hb=>?_,.inr ⟨rfl,?_,by omega⟩⟩
  ·have:=World.alloc_heap_new (w.alloc (.deferred (some []))) (.loop {state:=.ready,pending:=none,fn,tmps,params:=ps,assign,body,defers:=w.heap.size});simpa[B4] using this
  ·rw[EJ _ _ (by simp;omega),EJ _ _ hb]
  ·rw[EJ _ _ (by simp)];exact World.alloc_heap_new _ _
 | some l0 =>
  obtain⟨r0,hr0⟩:=hro l0 rfl;obtain⟨_,_,_,_,hh⟩:=hf.hld l0 _ hr0;refine⟨_,_,_,{state:=.ready,pending:=none,fn,tmps,params:=ps,assign,body,defers:=r0.defers},run_enterLoop_inner hh fn tmps ps assign body,rfl,rfl,rfl,rfl,?_,Z5 _,by simp,rfl,rfl,rfl,by simp,fun b hb=>EJ _ _ hb,.inl rfl⟩;have:=World.alloc_heap_new w (.loop {state:=.ready,pending:=none,fn,tmps,params:=ps,assign,body,defers:=r0.defers});simpa[B4] using this
theorem VZ (hM:EP cx M.call) (href:Ref cx lp R h dep w0 I0 F0) {ro:Option Nat} (hro:∀ l0,ro=some l0->∃ r0,Hd l0=some (.loop r0)) {f:Operand} {ps:Array Nat} {assign body:Code} {rb:Bu} (hca:J0 cx dd M fuel assign) (hcb:EM cx M fuel rb body)
  {rf:RX} (hrx:rx cx.G f=some rf) {x:Ex} (hev:AQ M fuel (.rangeFunc rf ps.toList (BO cx.P cx.G dd assign) rb) h dep st e=some (x,st2,e2))
  (hs:SR lp I L st a.tmps.toList suf w) (hf:Fr cx w0 I0 F0 O0 Hd R e a.defers I F L w) {Q:Exit->Act->World->Prop}
  (hQ:∀ a' w' I' F' L',SR lp I' L' st2 a'.tmps.toList suf w'->Fr cx w0 I0 F0 O0 Hd R e2 a'.defers I' F' L' w'->Q (DD x) a' w'):(Code.rangeFunc f ps assign body).wpIn (Ee ro) 0 cx.P Q a w:=by
 rw[YD] at hev;split at hev
 case h_2=>cases hev
 rename_i g cap st1 hfz;split at hev
 case h_2=>cases hev
 rename_i r obs s p e3 hcall;cases hev;obtain⟨I1,L1,hs1,hf1,hrep⟩:=ZC hs hf (Bx hs hf.wd hrx) hfz;obtain⟨fst,caps,hfv,hfk,hcaps⟩:=K4 hrep;refine wpIn_rangeFunc fun fn _=>?_;obtain⟨l,mark,w1,rc,hent,c1,c2,c3,c4,c5,c6,c7,c8,c9,c10,c11,c12,c13⟩:=enter_ok (ro:=ro) hro hf1 fn a.tmps ps assign body
 have hoff1:∀ b,I1 b\/F b\/Gg L1 b->b < w.heap.size:=fun b hb=>by
  rcases hb with hb | hb | ⟨nm,C,hb⟩;·exact hf1.sep.iB b hb
  ·exact (hf1.sep.fB b hb).1
  ·exact (hf1.lB nm b C hb).2.1
 have hs1':SR lp I1 L1 st1 a.tmps.toList suf w1:=hs1.keeps (fun _ h=>h) (fun b hb=>c12 b (hoff1 b (.inl hb))) fun nm b C hn=>c12 b (hoff1 b (.inr (.inr ⟨nm,C,hn⟩)))
 have hf1':Fr cx w0 I0 F0 O0 Hd R e a.defers I1 F L1 w1:=hf1.own c8 c9 c10 c11 (fun b hb _=>c12 b hb) (fun _ h=>h) (fun _ h=>.inl h)
  (fun nm b C hn=>⟨by have:=(hf1.lB nm b C hn).2.1;omega,(hf1.lB nm b C hn).2.2.1,.inr ⟨nm,C,hn⟩⟩) hf1.inj
 have hl0:w0.heap.size<=l:=by have:=hf1.ext.size;omega
 have hx1:Cf I0 F0 w0 I1 (fun b=>F b\/Gg L1 b\/b=l) w1:=⟨hf1'.ext.os,hf1'.ext.tape,hf1'.ext.output,hf1'.ext.size,hf1'.ext.keep,hf1'.ext.subI,hf1'.ext.newI,fun b hb=>by
  rcases hb with hb | ⟨nm,C,hb⟩ | rfl;·exact hf1'.ext.newF b hb
  ·exact (hf1'.lB nm b C hb).1.elim .inr fun ho=>.inl (hf1'.oF b ho)
  ·exact .inr hl0⟩
 have hhand:=round_ok (O0:=O0) (M:=M) (fuel:=fuel) (suf:=suf) href hx1 (l:=l) (rc:=rc) c1 c2 c3 hl0 hca hcb
 obtain⟨hen,hcon⟩:=hM (GE E) _ _ (dep+1) (fun d=>if d=dep then some l else lp d) _ _ w1 (AY g) (Bt g [.yld dep] cap) (st1,none,e) r obs (st2,p,e2) hcall hhand (fun d l' hd=>by
  by_cases hdd:d=dep
  ·omega
  ·simp only[hdd,if_false] at hd;have:=href.dep d l' hd;omega)
 have hll:lpLe lp (fun d=>if d=dep then some l else lp d):=fun d l' hd=>by
  have:=href.dep d l' hd;have hne:d≠dep:=by omega
  simp[hne,hd]
 have hIl:¬ I1 l:=fun hb=>by have:=hf1.sep.iB l hb;omega
 have hFl:¬ F l:=fun hb=>by have:=(hf1.sep.fB l hb).1;omega
 have hLl:¬ Gg L1 l:=fun hb=>by have:=hoff1 l (.inr (.inr hb));omega
 have hcalls:=hcon I1 (fun b=>F b\/Gg L1 b\/b=l) w1 (fst.toList++([.func (.yield l) #[] #[]]++caps.toList)) (Cf.refl _ _ _) ⟨hf1'.sep.iB,fun b hb=>by
   rcases hb with hb | ⟨nm,C,hb⟩ | rfl;·exact hf1'.sep.fB b hb
   ·exact⟨(hf1'.lB nm b C hb).2.1,(hf1'.lB nm b C hb).2.2.1⟩
   ·exact⟨c7,hIl⟩⟩ hf1'.wd ⟨L1,F,by rw[c4];exact hs1',fun b=>Iff.rfl,fun b hb=>by
   obtain⟨nm,C,hn⟩:=hb;exact⟨(hf1'.lB nm b C hn).2.2.2,fun e=>hLl ⟨nm,C,e ▸ hn⟩,(hf1'.lB nm b C hn).1⟩,hFl,hf1'.inj,c5,hf1'.re⟩
  (RJ hfk (Aq.mono (fun _ h=>h) (fun b hb=>c12 b (hoff1 b (.inl hb))) hll hcaps) (.cons _ _ _ _ (.yld dep l (by simp)) .nil))
 refine⟨l,mark,w1,{target:=.fn (.func (AY g)) caps,args:=fst++#[.func (.yield l) #[] #[]]},w1,AY g,fst++#[.func (.yield l) #[] #[]]++caps,w1,hent,?_,fun _ _=>trivial,?_,fun h=>by simp[Ee] at h,?_⟩
 ·have hfv':a.eval f=.func (.func (AY g)) fst caps:=hfv;have hcv:a.eval (.const (.func (.yield l) #[] #[]))=.func (.yield l) #[] #[]:=rfl;simp only[resolve,rangeCall,hfv',Deferred.ofValue];simp[hcv]
 ·obtain⟨fn',hfn,hname,hbody⟩:=hen;have hb:¬ fn'.body=none:=by intro h;rw[h] at hbody;cases hbody
  have hname:¬ fn'.name = "runtime.NumGoroutine":=by intro h;rw[h] at hname;simp at hname
  simp[invoke,callFunc,hfn,hname,hb]
 ·have harr:(fst.toList++([Value.func (.yield l) #[] #[]]++caps.toList)).toArray=fst++#[.func (.yield l) #[] #[]]++caps:=by
   apply Array.ext';simp
  rw[harr] at hcalls;refine Uc (CallsIn.mono' hcalls fun en w3 hr=>?_);cases en with
  | panicked chain=>exact hr.elim
  | outgrown=>exact hr.elim
  | returned v =>
   obtain⟨I',F',ps',hce⟩:=hr;obtain⟨L',Fo,g1,g2,g3,g4,g5,g6,g7⟩:=hce.re;simp only at g1 g6 g7
   have hoff:∀ b,b < w1.heap.size->¬ I1 b->¬ F b->¬ Gg L1 b->b≠l->¬ I' b/\¬ F' b/\w3.heap[b]?=w1.heap[b]?:=fun b h1 h2 h3 h4 h5=>by
    have hF:¬ (F b\/Gg L1 b\/b=l):=fun h=>by rcases h with h | h | h<;>first | exact h3 h | exact h4 h | exact h5 h
    exact⟨fun h=>by rcases hce.ext.newI b h with h | h | h<;>first | exact h2 h | exact hF h | omega,fun h=>by rcases hce.ext.newF b h with h | h<;>first | exact hF h | omega,hce.ext.keep b h1 hF⟩
   have hF'l:F' l:=(g2 l).2 (.inr (.inr rfl));have hLl':∀ nm C,L' nm≠some (some (l,C)):=fun nm C hn=>(g3 l ⟨nm,C,hn⟩).2.1 rfl;have hnotF:∀ b,¬ F' b->¬ Fo b/\∀ nm C,L' nm≠some (some (b,C)):=fun b hb=>⟨fun h=>hb ((g2 b).2 (.inl h)),fun nm C hn=>hb ((g2 b).2 (.inr (.inl ⟨nm,C,hn⟩)))⟩;have hsz:=hce.ext.size
   have hmk:DC w0.heap.size I' Fo L' w3 (mark++a.defers) O0.dfs:=by
    have hm0:DC w0.heap.size I' Fo L' w3 a.defers O0.dfs:=hf1.mks.move (by omega) fun D d1 d2 d3 d4 d5=>by
     obtain⟨q1,q2,q3⟩:=hoff D (by omega) d3 d4 (fun ⟨nm,C,hn⟩=>d5 nm C hn) (by omega);exact⟨q3.trans (c12 D d1),q1,(hnotF D q2).1,(hnotF D q2).2⟩
    rcases c13 with rfl | ⟨rfl,k1,k2⟩;·exact hm0
    ·obtain⟨q1,q2,q3⟩:=hoff w.heap.size (by omega) (fun h=>by have:=hoff1 _ (.inl h);omega) (fun h=>by have:=hoff1 _ (.inr (.inl h));omega) (fun h=>by have:=hoff1 _ (.inr (.inr h));omega) (by omega);refine .cons w.heap.size _ _ hf1.ext.size (by omega) q1 (hnotF _ q2).1 (hnotF _ q2).2 (q3.trans k1) (fun d hd he=>?_) hm0;have:=hf1.mks.lt d.target (Z4.2 ⟨d,hd,rfl⟩) _ he;omega
   have hmne:∀ D,D∈(mark++a.defers).map (·.target)->D≠.collected l:=by
    intro D hD he;rw[bm] at hD;rcases ar.1 hD with hD | hD
    ·rcases c13 with rfl | ⟨rfl,k1,k2⟩;·simp at hD
     ·simp only[ZZ,Z1,aJ] at hD;rw[hD] at he;cases he;omega
    ·have:=hf1.mks.lt D hD l he;omega
   have hf3:Fr cx w0 I0 F0 O0 (fun b=>if b=l then some (.loop (B4 rc p)) else Hd b) R e2 (mark++a.defers) I' Fo L' w3:=by
    refine⟨(hx1.trans hce.ext).less fun b hb=>(g2 b).2 (.inl hb),⟨hce.sep.iB,fun b hb=>hce.sep.fB b ((g2 b).2 (.inl hb))⟩,hf1.oF,fun nm b C hn=>?_,g5,hce.wd,g7,hmk,fun b ob hb=>?_⟩
    ·have hb:Gg L' b:=⟨nm,C,hn⟩;have hF:=hce.sep.fB b ((g2 b).2 (.inr (.inl hb)));exact⟨(g3 b hb).2.2,hF.1,hF.2,(g3 b hb).1⟩
    ·by_cases hbl:b=l
     ·subst hbl;simp only[if_true,Z6] at hb;subst hb;exact⟨(hce.sep.fB b hF'l).1,(hce.sep.fB b hF'l).2,g4,hLl',g6⟩
     ·simp only[hbl,if_false] at hb;obtain⟨d1,d2,d3,d4,d5⟩:=hf1.hld b ob hb;obtain⟨q1,q2,q3⟩:=hoff b (by omega) d2 d3 (fun ⟨nm,C,hn⟩=>d4 nm C hn) hbl;exact⟨by omega,q1,(hnotF b q2).1,(hnotF b q2).2,(q3.trans (c12 b d1)).trans d5⟩
   have hbusy:(B4 rc p).state≠.busy:=by cases p<;>simp[B4]
   have hend:=run_endLoop (P:=cx.P) g6 hbusy;have hf4:=hf3.hput (ob':=.loop {B4 rc p with state:=.exhausted}) (l:=l) (ob:=.loop (B4 rc p)) (by simp) (.inl hl0) hmne
   have hf5:Fr cx w0 I0 F0 O0 Hd R e2 (mark++a.defers) I' Fo L' (w3.putObj l (.loop {B4 rc p with state:=.exhausted})):=hf4.hold fun b ob hb=>by
    have hlt:=(hf1.hld b ob hb).1;have hbl:b≠l:=by omega
    simp[hbl,hb]
   have hs5:SR lp I' L' st2 a.tmps.toList suf (w3.putObj l (.loop {B4 rc p with state:=.exhausted})):=by
    rw[c4] at g1;exact g1.hput _ (hce.sep.fB l hF'l).2 hLl'
   refine⟨(B4 rc p).pending,_,hend,?_⟩;have hq:=hQ {a with defers:=mark++a.defers} _ I' Fo L' hs5 hf5;cases p with
   | none=>exact hq
   | some x =>
    cases x with
    | normal=>exact hq
    | exit id =>
     generalize w3.putObj l (.loop {B4 rc (some (.exit id)) with state:=.exhausted})=wz at hq |-;simp only[aM,DD] at hq;simp only[B4,K2];by_cases hid:id < CJ
     ·simp only[hid,if_true] at hq |-;exact wpIn_exit hq
     ·simp only[hid,if_false] at hq |-;exact wpIn_goto hq
    | ret=>exact wpIn_ret hq
end
end Go.Ab


namespace Go.Ab
theorem Je {P:Program} {b:Frame} {a:Act} {k:List Item} {cs:List Frame} {w:World} {c:Code}:step P (lone (b.atR a (.code (.scope c) :: k)) cs w)=.next (lone (b.atR a (.code c :: .inScope c :: k)) cs w) :=
 step_lone_go (by simp[Go.stepG,Go.stepG.exec,Frame.atR])
theorem Tz {P:Program} {b:Frame} {a:Act} {k:List Item} {cs:List Frame} {w:World} {c:Code}:step P (lone (b.atR a (.inScope c :: k)) cs w)=.next (lone (b.atR a k) cs w) :=
 step_lone_go (by simp[Go.stepG,Go.stepG.exec,Frame.atR])
def KZ:Ex->Prop
 | .exit id=>id < CJ
 | _=>True
theorem TR {F:Fence} {n:Nat} {P:Program} {Q:Exit->Act->World->Prop} {a:Act} {w:World} {c:Code} {x:Ex} (hx:KZ x) (h:c.wpIn F n P (fun e a w=>e=DD x/\Q e a w) a w):(Code.scope c).wpIn F n P Q a w:=by
 intro b k cs hro hb hr;have h0:(lone (b.atR a (.code (.scope c) :: k)) cs w).fenced P F:=fenced_calm hb hr rfl;obtain⟨e,a₁,w₁,⟨rfl,hq⟩,harr⟩:=h b (.inScope c :: k) cs hro hb hr;cases x with
 | normal=>exact⟨.normal,a₁,w₁,hq,.head h0 Je (StepsIn.trans harr (.one (fenced_calm hb hr rfl) Tz))⟩
 | exit id =>
  simp only[KZ] at hx;simp only[DD,hx,if_true] at hq harr;have hx:exitTo id (.inScope c :: k)=exitTo id k:=by simp[exitTo]
  exact⟨.exit id,a₁,w₁,hq,fun k' hk=>.head h0 Je (harr.1 k' (by rw[hx];exact hk)),
   fun hr' hk=>let ⟨k₁,h1,h2⟩:=harr.2 hr' (by rw[hx];exact hk);⟨k₁,h1,.head h0 Je h2⟩⟩
 | ret=>exact⟨.ret,a₁,w₁,hq,.of_steps (.one h0 Je) harr⟩
theorem Xq {F:Fence} {n:Nat} {P:Program} {Q:Exit->Act->World->Prop} {a:Act} {w:World} {c rest:Code} {l:Nat} {x:Ex} (hl:findLabel c l=some rest) (hx:KZ x)
  (h:c.wpIn F n P (fun e a w=>e=.goto l/\rest.wpIn F n P (fun e a w=>e=DD x/\Q e a w) a w) a w):(Code.scope c).wpIn F n P Q a w:=by
 intro b k cs hro hb hr;have h0:(lone (b.atR a (.code (.scope c) :: k)) cs w).fenced P F:=fenced_calm hb hr rfl;have hg:gotoIn l (.inScope c :: k)=some (.code rest :: .inScope c :: k):=by simp[gotoIn,hl]
 obtain⟨e,a₁,w₁,⟨rfl,hq⟩,harr⟩:=h b (.inScope c :: k) cs hro hb hr;have h1:=harr.1 _ hg;obtain⟨e,a₂,w₂,⟨rfl,hq⟩,harr⟩:=hq b (.inScope c :: k) cs hro hb hr;cases x with
 | normal=>exact⟨.normal,a₂,w₂,hq,.head h0 Je (StepsIn.trans h1 (StepsIn.trans harr (.one (fenced_calm hb hr rfl) Tz)))⟩
 | exit id =>
  simp only[KZ] at hx;simp only[DD,hx,if_true] at hq harr;have hx:exitTo id (.inScope c :: k)=exitTo id k:=by simp[exitTo]
  exact⟨.exit id,a₂,w₂,hq,fun k' hk=>.head h0 Je (h1.trans (harr.1 k' (by rw[hx];exact hk))),
   fun hr' hk=>let ⟨k₁,g1,g2⟩:=harr.2 hr' (by rw[hx];exact hk);⟨k₁,g1,.head h0 Je (h1.trans g2)⟩⟩
 | ret=>exact⟨.ret,a₂,w₂,hq,.of_steps (.head h0 Je h1) harr⟩
theorem TS {F:Fence} {n:Nat} {P:Program} {Q:Exit->Act->World->Prop} {c:Code} (K:Nat->Act->World->Prop) (round:∀ m a w,K m a w->∃ m',m=m'+1/\c.wpIn F n P (Exit.then (K m') Q) a w) {m:Nat} {a:Act} {w:World} (h:K m a w) :
  (Code.loop c).wpIn F n P Q a w:=by
 classical
 have least:∀ a w,(∃ m,K m a w)->∃ m,K m a w/\∀ j,K j a w->m<=j:=by
  intro a w ⟨m,hm⟩;induction m using Nat.strongRecOn with
  | _ m ih =>
   by_cases hj:∃ j,j < m/\K j a w
   ·obtain⟨j,hj1,hj2⟩:=hj;exact ih j hj1 hj2
   ·exact⟨m,hm,fun j hk=>Nat.le_of_not_lt fun hlt=>hj ⟨j,hlt,hk⟩⟩
 refine wpIn_loop (fun a w=>∃ m,K m a w) (fun a w=>if h:∃ m,K m a w then Classical.choose (least a w h) else 0) ⟨m,h⟩ fun a w hk=>?_;obtain⟨q1,q2⟩:=Classical.choose_spec (least a w hk);obtain⟨m',hm',hwp⟩:=round _ a w q1;refine wpIn_mono hwp fun e a' w' hq=>?_;cases e<;>simp only[Exit.then] at hq |-<;>first | exact hq | skip
 refine⟨⟨m',hq⟩,?_⟩;have hex:∃ m,K m a' w':=⟨m',hq⟩;have hle:=(Classical.choose_spec (least a' w' hex)).2 m' hq;simp only[dif_pos hex,dif_pos hk];omega
section
variable {cx:Cx} {dd:Er} {M:Bf} {fuel:Nat}
def N2 (cx:Cx) (dd:Er) (M:Bf) (fuel:Nat) (c:Code):Prop :=
 ∀ (l:Nat) (y z:Bu),Ey l c (BO cx.P cx.G dd c)=some (y,z)->EM cx M fuel (.seq y z) c/\∃ rest,findLabel c l=some rest/\EM cx M fuel z rest
theorem PI {r1 r2:Bu} {c1 c2:Code} (h1:EM cx M fuel r1 c1) (h2:EM cx M fuel r2 c2):EM cx M fuel (.seq r1 r2) (.seq c1 c2):=by
 intro E h dep R lp w0 I0 F0 O0 Hd suf ro st e x st2 e2 hev href hro a w I F L Q hs hf hQ;simp only[AQ] at hev;refine wpIn_seq ?_;split at hev
 ·rename_i st3 e3 g1
  exact h1 E h dep R lp w0 I0 F0 O0 Hd suf ro st e .normal st3 e3 g1 href hro a w I F L _ hs hf fun a' w' I' F' L' hs' hf' =>
   h2 E h dep R lp w0 I0 F0 O0 Hd suf ro st3 e3 x st2 e2 hev href hro a' w' I' F' L' Q hs' hf' hQ
 ·rename_i hne;refine h1 E h dep R lp w0 I0 F0 O0 Hd suf ro st e x st2 e2 hev href hro a w I F L _ hs hf fun a' w' I' F' L' hs' hf'=>?_;have:=hQ a' w' I' F' L' hs' hf';cases x with
  | normal=>exact (hne _ _ hev).elim
  | exit id =>
   simp only[DD] at this |-;split<;>rename_i hid;·simp only[hid,if_true] at this;exact this
   ·simp only[hid,if_false] at this;exact this
  | ret=>exact this
theorem YS (l:Nat):∀ c:Code,Ey l c (BO cx.P cx.G dd c)=none->findLabel c l=none:=by
 intro c;induction c with
 | seq c1 c2 ih1 ih2 =>
  intro h;simp only[BO,Ey] at h;split at h;·cases h
  ·rename_i g1;split at h;·cases h
   ·rename_i g2;simp[findLabel,ih1 g1,ih2 g2]
 | label l' =>
  intro h;simp only[Ey] at h;split at h;·cases h
  ·rename_i hl;simp[findLabel,hl]
 | _=>intro _;simp[findLabel]
theorem Ua {y z r:Bu} {E:Type} {h:Ay E} {dep:Nat} {st:St} {e:E}:AQ M fuel (.seq y (.seq z r)) h dep st e=AQ M fuel (.seq (.seq y z) r) h dep st e:=by
 simp only[AQ];cases AQ M fuel y h dep st e with
 | none=>rfl
 | some p =>
  obtain⟨x,s,e⟩:=p;cases x<;>rfl
theorem split_seq {c1 c2:Code} (h1:J0 cx dd M fuel c1) (s1:N2 cx dd M fuel c1) (h2:J0 cx dd M fuel c2) (s2:N2 cx dd M fuel c2):N2 cx dd M fuel (.seq c1 c2):=by
 intro l y z h;simp only[BO,Ey] at h;split at h
 ·rename_i x' y' g1;cases h;obtain⟨q1,rest,q2,q3⟩:=s1 l _ _ g1;refine⟨?_,.seq rest c2,by simp[findLabel,q2],PI q3 h2⟩;have:=PI q1 h2;intro E h dep R lp w0 I0 F0 O0 Hd suf ro st e x st2 e2 hev;rw[Ua] at hev;exact this E h dep R lp w0 I0 F0 O0 Hd suf ro st e x st2 e2 hev
 ·rename_i g1;split at h
  case h_2=>cases h
  rename_i x' y' g2;cases h;obtain⟨q1,rest,q2,q3⟩:=s2 l _ _ g2;refine⟨?_,rest,by simp[findLabel,YS l c1 g1,q2],q3⟩;have:=PI (cx:=cx) (M:=M) (fuel:=fuel) h1 q1;intro E h dep R lp w0 I0 F0 O0 Hd suf ro st e x st2 e2 hev;rw[<-Ua] at hev;exact this E h dep R lp w0 I0 F0 O0 Hd suf ro st e x st2 e2 hev
theorem scope_ok {c:Code} (h:J0 cx dd M fuel c) (s:N2 cx dd M fuel c):J0 cx dd M fuel (.scope c):=by
 have plain:∀ (r:Bu),EM cx M fuel r c->EM cx M fuel (.scope r) (.scope c):=by
  intro r h E hd dep R lp w0 I0 F0 O0 Hd suf ro st e x st2 e2 hev href hro a w I F L Q hs hf hQ;simp only[AQ] at hev
  have key:AQ M fuel r hd dep st e=some (x,st2,e2)/\KZ x:=by
   split at hev
   ·rename_i id s3 e3 hq;split at hev;·rename_i hid;cases hev;exact⟨hq,hid⟩
    ·cases hev
   ·rename_i hne;refine⟨hev,?_⟩;cases x with
    | exit id=>exact (hne _ _ _ hev).elim
    | _=>trivial
  exact TR key.2 (h E hd dep R lp w0 I0 F0 O0 Hd suf ro st e x st2 e2 key.1 href hro a w I F L _ hs hf fun a' w' I' F' L' hs' hf'=>⟨rfl,hQ a' w' I' F' L' hs' hf'⟩)
 show EM cx M fuel (N5 c (BO cx.P cx.G dd c)) (.scope c);unfold N5;split;·exact plain _ h
 rename_i l hl;split
 case h_2=>exact plain _ h
 rename_i y z hsp;obtain⟨q1,rest,q2,q3⟩:=s l y z hsp;intro E hd dep R lp w0 I0 F0 O0 Hd suf ro st e x st2 e2 hev href hro a w I F L Q hs hf hQ;cases hy:AQ M fuel y hd dep st e with
 | none=>simp[AQ,hy] at hev
 | some p =>
  obtain⟨xy,sy,ey⟩:=p;by_cases hj:xy=.exit (CJ+l)
  ·subst hj
   have hz:AQ M fuel z hd dep sy ey=some (x,st2,e2)/\KZ x:=by
    simp only[AQ,hy,if_true] at hev;split at hev
    ·rename_i id s3 e3 hq;split at hev;·rename_i hid;cases hev;exact⟨hq,hid⟩
     ·cases hev
    ·rename_i hne;refine⟨hev,?_⟩;cases x with
     | exit id=>exact (hne _ _ _ hev).elim
     | _=>trivial
   have hyz:AQ M fuel (.seq y z) hd dep st e=some (.exit (CJ+l),sy,ey):=by simp[AQ,hy]
   refine Xq q2 hz.2 (q1 E hd dep R lp w0 I0 F0 O0 Hd suf ro st e _ _ _ hyz href hro a w I F L _ hs hf fun a' w' I' F' L' hs' hf'=>⟨?_,?_⟩)
   ·have:¬ CJ+l < CJ:=by omega
    simp[DD,this]
   ·exact q3 E hd dep R lp w0 I0 F0 O0 Hd suf ro sy ey x st2 e2 hz.1 href hro a' w' I' F' L' _ hs' hf' fun a2 w2 I2 F2 L2 hs2 hf2=>⟨rfl,hQ a2 w2 I2 F2 L2 hs2 hf2⟩
  ·refine plain _ q1 E hd dep R lp w0 I0 F0 O0 Hd suf ro st e x st2 e2 ?_ href hro a w I F L Q hs hf hQ;rw[<-hev];simp only[AQ,hy];cases xy with
   | normal=>rfl
   | ret=>rfl
   | exit id =>
    have:id≠CJ+l:=fun h=>hj (by rw[h]);simp[this]
theorem VW {r:Bu} {c:Code} {g:List (Nat×Nat)} (h:EM cx M fuel r c):EM cx M fuel (.seq r (.norm g)) c:=by
 intro E hh dep R lp w0 I0 F0 O0 Hd suf ro st e x st2 e2 hev href hro a w I F L Q hs hf hQ;simp only[AQ] at hev;cases hq:AQ M fuel r hh dep st e with
 | none=>rw[hq] at hev;cases hev
 | some p =>
  obtain⟨y,s,e3⟩:=p;rw[hq] at hev;refine h E hh dep R lp w0 I0 F0 O0 Hd suf ro st e y s e3 hq href hro a w I F L Q hs hf fun a' w' I' F' L' hs' hf'=>?_;cases y with
  | normal =>
   cases hev;obtain⟨L1,hs1,hf1⟩:=SJ hs' hf';obtain⟨L2,hs2,hf2⟩:=NQ [] g hs1 hf1;exact hQ a' w' I' F' L2 hs2 hf2
  | exit id=>cases hev;exact hQ a' w' I' F' L' hs' hf'
  | ret=>cases hev;exact hQ a' w' I' F' L' hs' hf'
theorem seq_tidy {r:Bu} {c:Code} {l:Option (List Nat)} (h:EM cx M fuel r c):EM cx M fuel (.seq r (.region [] none l)) c:=by
 intro E hh dep R lp w0 I0 F0 O0 Hd suf ro st e x st2 e2 hev href hro a w I F L Q hs hf hQ;simp only[AQ] at hev;cases hq:AQ M fuel r hh dep st e with
 | none=>rw[hq] at hev;cases hev
 | some p =>
  obtain⟨y,s,e3⟩:=p;rw[hq] at hev;refine h E hh dep R lp w0 I0 F0 O0 Hd suf ro st e y s e3 hq href hro a w I F L Q hs hf fun a' w' I' F' L' hs' hf'=>?_;cases y with
  | normal =>
   cases hev;obtain⟨L1,hs1,hf1⟩:=PF l hs' hf';exact hQ a' w' I' F' L1 hs1 hf1
  | exit id=>cases hev;exact hQ a' w' I' F' L' hs' hf'
  | ret=>cases hev;exact hQ a' w' I' F' L' hs' hf'
theorem loop_okr {c:Code} {b:Bu} (p:Bool) (asg:List Nat) (grow:List (Nat×Nat)) (ih:EM cx M fuel b c):EM cx M fuel (Qp p asg grow b) (.loop c):=by
 intro E h dep R lp w0 I0 F0 O0 Hd suf ro st e x st2 e2 hev href hro a w I F L Q hs hf hQ
 let K (ds:List Nat) (m:Nat) (a:Act) (w:World):Prop:=∃ st e I F L,SR lp I L st a.tmps.toList suf w/\Fr cx w0 I0 F0 O0 Hd R e a.defers I F L w/\Gn (fun (s:St×E)=>match AQ M fuel b h dep s.1 s.2 with
  | some (.normal,st,e)=>some (.inl (norm asg grow (drop ds st),e))
  | some (x,st,e)=>some (.inr (x,st,e))
  | none=>none) m (st,e)=some (x,st2,e2)
 have hzero:∀ ds a w,¬ K ds 0 a w:=by
  rintro ds a w ⟨st,e,I,F,L,hs,hf,hrep⟩;simp[Gn] at hrep
 have hround:∀ ds m a w,K ds (m+1) a w->c.wpIn (Ee ro) 0 cx.P (Exit.then (K ds m) Q) a w:=by
  rintro ds m a w ⟨st,e,I,F,L,hs,hf,hrep⟩;simp only[Gn] at hrep;cases hb:AQ M fuel b h dep st e with
  | none=>rw[hb] at hrep;simp at hrep
  | some r =>
   obtain⟨xb,stb,eb⟩:=r;rw[hb] at hrep;refine ih E h dep R lp w0 I0 F0 O0 Hd suf ro st e xb stb eb hb href hro a w I F L _ hs hf fun a' w' I' F' L' hs' hf'=>?_;cases xb with
   | normal =>
    simp only at hrep;obtain⟨L2,hs2,hf2⟩:=Xd ds hs' hf';obtain⟨L3,hs3,hf3⟩:=NQ asg grow hs2 hf2;exact⟨_,eb,I',F',L3,hs3,hf3,hrep⟩
   | exit id =>
    simp only[Z6,aC] at hrep;obtain⟨rfl,rfl,rfl⟩:=hrep;have:=hQ a' w' I' F' L' hs' hf';simp only[DD] at this |-;split<;>rename_i hid;·simp only[hid,if_true] at this;exact this
    ·simp only[hid,if_false] at this;exact this
   | ret =>
    simp only[Z6,aC] at hrep;obtain⟨rfl,rfl,rfl⟩:=hrep;exact hQ a' w' I' F' L' hs' hf'
 have hloop:∀ {st:St} {e:E},AQ M fuel (.loop asg grow b) h dep st e=some (x,st2,e2)->∃ ds,∀ a w I F L,SR lp I L st a.tmps.toList suf w->Fr cx w0 I0 F0 O0 Hd R e a.defers I F L w->K ds fuel a w:=by
  intro st e hev;simp only[AQ] at hev;split at hev
  case h_2=>cases hev
  rename_i x' st3 e3 hr;cases hev;refine⟨undefs (norm asg grow st),fun a w I F L hs hf=>?_⟩;obtain⟨L1,hs1,hf1⟩:=NQ asg grow hs hf;exact⟨_,_,I,F,L1,hs1,hf1,hr⟩
 cases p with
 | false =>
  obtain⟨ds,hk⟩:=hloop hev;refine TS (K ds) (fun m a w hm=>?_) (hk a w I F L hs hf);cases m with
  | zero=>exact (hzero ds a w hm).elim
  | succ m=>exact⟨m,rfl,hround ds m a w hm⟩
 | true =>
  simp only[Qp,if_true,AQ] at hev;cases hb:AQ M fuel b h dep st e with
  | none=>rw[hb] at hev;cases hev
  | some r =>
   obtain⟨xb,stb,eb⟩:=r;rw[hb] at hev
   have key:∀ (ds:List Nat),(∀ a' w' I' F' L',SR lp I' L' stb a'.tmps.toList suf w'->Fr cx w0 I0 F0 O0 Hd R eb a'.defers I' F' L' w'->(Exit.then (K ds fuel) Q) (DD xb) a' w')->(Code.loop c).wpIn (Ee ro) 0 cx.P Q a w:=by
    intro ds hq;refine TS (fun m a' w'=>(m=fuel+1/\a'=a/\w'=w)\/(m<=fuel/\K ds m a' w')) (fun m a' w' hm=>?_) (.inl ⟨rfl,rfl,rfl⟩);rcases hm with ⟨rfl,rfl,rfl⟩ | ⟨hle,hm⟩
    ·refine⟨fuel,rfl,ih E h dep R lp w0 I0 F0 O0 Hd suf ro st e xb stb eb hb href hro a' w' I F L _ hs hf fun a2 w2 I2 F2 L2 hs2 hf2=>?_⟩;have:=hq a2 w2 I2 F2 L2 hs2 hf2;revert this;cases DD xb<;>intro this<;>first | exact this | exact .inr ⟨Z5 _,this⟩
    ·cases m with
     | zero=>exact (hzero ds a' w' hm).elim
     | succ m =>
      refine⟨m,rfl,wpIn_mono (hround ds m a' w' hm) fun e2 a2 w2 h2=>?_⟩;revert h2;cases e2<;>intro h2<;>first | exact h2 | exact .inr ⟨by omega,h2⟩
   cases xb with
   | normal =>
    obtain⟨ds,hk⟩:=hloop hev;exact key ds hk
   | exit id =>
    cases hev;refine key [] fun a' w' I' F' L' hs' hf'=>?_;have:=hQ a' w' I' F' L' hs' hf';simp only[DD] at this |-;split<;>rename_i hid;·simp only[hid,if_true] at this;exact this
    ·simp only[hid,if_false] at this;exact this
   | ret =>
    cases hev;exact key [] fun a' w' I' F' L' hs' hf'=>hQ a' w' I' F' L' hs' hf'
theorem normR_ok {r:Bu} {c:Code} {g:Option (List (Nat×Nat))} (h:EM cx M fuel r c):EM cx M fuel (ME g r) c:=by
 cases g with
 | none=>exact h
 | some g=>exact VW h
theorem code_ok2 (hM:EP cx M.call) (hsp:MSp cx M) (hloc:GD M):∀ c:Code,J0 cx dd M fuel c/\N2 cx dd M fuel c:=by
 intro c;induction c with
 | skip =>
  refine⟨?_,fun l0 y z hsp0=>by simp[Ey] at hsp0⟩;intro E h dep R lp w0 I0 F0 O0 Hd suf ro st e x st2 e2 hev href hro a w I F L Q hs hf hQ;simp only[BO,AQ,Z6,aC] at hev;obtain⟨rfl,rfl,rfl⟩:=hev;exact wpIn_skip (hQ a w I F L hs hf)
 | region id ops draw =>
  refine⟨?_,fun l0 y z hsp0=>by simp[Ey] at hsp0⟩;refine normR_ok (g:=(dd id).grow) ?_;intro E h dep R lp w0 I0 F0 O0 Hd suf ro st e x st2 e2 hev href hro a w I F L Q hs hf hQ;cases draw with
  | false =>
   simp only[Z0,if_false,P1] at hev;split at hev;·simp[AQ] at hev
   simp only[AQ] at hev;split at hev
   ·rename_i st3 e3 hr;cases hev;exact XL hM hsp href hr hs hf fun a' w' I' F' L' hs' hf'=>let ⟨L2,h1,h2⟩:=PF (dd id).lv hs' hf';hQ a' w' I' F' L2 h1 h2
   ·cases hev
  | true =>
   simp only[if_true] at hev;split at hev
   ·rename_i l hb;simp only[AQ] at hev;split at hev
    ·rename_i st3 e3 hr;cases hev;exact Yh hM hsp hloc href hb hr hs hf fun a' w' I' F' L' hs' hf'=>let ⟨L2,h1,h2⟩:=PF (dd id).lv hs' hf';hQ a' w' I' F' L2 h1 h2
    ·cases hev
   ·simp[AQ] at hev
 | seq c1 c2 ih1 ih2=>exact⟨PI ih1.1 ih2.1,split_seq ih1.1 ih1.2 ih2.1 ih2.2⟩
 | cond c c1 c2 ih1 ih2 =>
  refine⟨?_,fun l0 y z hsp0=>by simp[Ey] at hsp0⟩;intro E h dep R lp w0 I0 F0 O0 Hd suf ro st e x st2 e2 hev href hro a w I F L Q hs hf hQ;simp only[BO] at hev;split at hev
  ·rename_i rc hrc;simp only[AQ] at hev;have hc:=Bx hs hf.wd hrc;split at hev
   ·rename_i hb;rw[hb] at hc;exact wpIn_cond_true (Fx hc) (ih1.1 E h dep R lp w0 I0 F0 O0 Hd suf ro st e x st2 e2 hev href hro a w I F L Q hs hf hQ)
   ·rename_i hb;rw[hb] at hc;exact wpIn_cond_false (Fx hc) (ih2.1 E h dep R lp w0 I0 F0 O0 Hd suf ro st e x st2 e2 hev href hro a w I F L Q hs hf hQ)
   ·cases hev
  ·simp[AQ] at hev
 | block id c ih =>
  refine⟨?_,fun l0 y z hsp0=>by simp[Ey] at hsp0⟩;intro E h dep R lp w0 I0 F0 O0 Hd suf ro st e x st2 e2 hev href hro a w I F L Q hs hf hQ;simp only[BO] at hev;split at hev
  case isFalse=>simp[AQ] at hev
  rename_i hidb;simp only[AQ] at hev;refine wpIn_block ?_;split at hev
  ·rename_i id' st3 e3 h1;refine ih.1 E h dep R lp w0 I0 F0 O0 Hd suf ro st e (.exit id') st3 e3 h1 href hro a w I F L _ hs hf fun a' w' I' F' L' hs' hf'=>?_;by_cases hid:id'=id
   ·rw[if_pos hid] at hev;cases hev;subst hid;simp only[DD,hidb,Exit.inBlock,if_true];exact hQ a' w' I' F' L' hs' hf'
   ·rw[if_neg hid] at hev;cases hev;have:=hQ a' w' I' F' L' hs' hf';simp only[DD] at this |-;split<;>rename_i hid2;·simp only[hid2,if_true] at this;simp only[Exit.inBlock,hid,if_false];exact this
    ·simp only[hid2,if_false] at this;exact this
  ·rename_i hne;refine ih.1 E h dep R lp w0 I0 F0 O0 Hd suf ro st e x st2 e2 hev href hro a w I F L _ hs hf fun a' w' I' F' L' hs' hf'=>?_;have:=hQ a' w' I' F' L' hs' hf';cases x with
   | normal=>exact this
   | exit id=>exact (hne _ _ _ hev).elim
   | ret=>exact this
 | loop c ih =>
  refine⟨?_,fun l0 y z hsp0=>by simp[Ey] at hsp0⟩;exact loop_okr _ _ _ ih.1
 | rangeFunc f ps assign body iha ihb =>
  refine⟨?_,fun l0 y z hsp0=>by simp[Ey] at hsp0⟩;intro E h dep R lp w0 I0 F0 O0 Hd suf ro st e x st2 e2 hev href hro a w I F L Q hs hf hQ;simp only[BO] at hev;split at hev
  ·rename_i rf hrf;unfold S9 at hev;split at hev;·exact VZ hM href hro iha.1 ihb.1 hrf hev hs hf hQ
   ·simp only[AQ] at hev;obtain⟨L0,hs0,hf0⟩:=SJ hs hf;obtain⟨L1,hs1,hf1⟩:=NQ [] (Lm (HM (BO cx.P cx.G dd body))) hs0 hf0;exact VZ hM href hro iha.1 (VW (seq_tidy ihb.1)) hrf hev hs1 hf1 hQ
  ·simp[AQ] at hev
 | exit id =>
  refine⟨?_,fun l0 y z hsp0=>by simp[Ey] at hsp0⟩;intro E h dep R lp w0 I0 F0 O0 Hd suf ro st e x st2 e2 hev href hro a w I F L Q hs hf hQ;simp only[BO] at hev;split at hev
  case isFalse=>simp[AQ] at hev
  rename_i hid;simp only[AQ,Z6,aC] at hev;obtain⟨rfl,rfl,rfl⟩:=hev;have:=hQ a w I F L hs hf;simp only[DD,hid,if_true] at this;exact wpIn_exit this
 | scope c ih=>exact⟨scope_ok ih.1 ih.2,fun l y z h=>by simp[Ey] at h⟩
 | label l =>
  refine⟨?_,?_⟩
  rotate_left
  intro l0 y z hsp0;simp only[Ey] at hsp0;split at hsp0
  case isFalse=>cases hsp0
  rename_i hl;cases hsp0
  have hk:EM cx M fuel .skip .skip:=by
   intro E h dep R lp w0 I0 F0 O0 Hd suf ro st e x st2 e2 hev href hro a w I F L Q hs hf hQ;simp only[AQ,Z6,aC] at hev;obtain⟨rfl,rfl,rfl⟩:=hev;exact wpIn_skip (hQ a w I F L hs hf)
  refine⟨?_,.skip,by simp[findLabel,hl],hk⟩;intro E h dep R lp w0 I0 F0 O0 Hd suf ro st e x st2 e2 hev href hro a w I F L Q hs hf hQ;simp only[AQ,Z6,aC] at hev;obtain⟨rfl,rfl,rfl⟩:=hev;exact wpIn_label (hQ a w I F L hs hf);intro E h dep R lp w0 I0 F0 O0 Hd suf ro st e x st2 e2 hev href hro a w I F L Q hs hf hQ;simp only[BO,AQ,Z6,aC] at hev;obtain⟨rfl,rfl,rfl⟩:=hev;exact wpIn_label (hQ a w I F L hs hf)
 | goto l =>
  refine⟨?_,fun l0 y z hsp0=>by simp[Ey] at hsp0⟩;intro E h dep R lp w0 I0 F0 O0 Hd suf ro st e x st2 e2 hev href hro a w I F L Q hs hf hQ;simp only[BO,AQ,Z6,aC] at hev;obtain⟨rfl,rfl,rfl⟩:=hev;have hn:¬ CJ+l < CJ:=by omega
  have:=hQ a w I F L hs hf;simp only[DD,hn,if_false,bY] at this;exact wpIn_goto this
 | ret =>
  refine⟨?_,fun l0 y z hsp0=>by simp[Ey] at hsp0⟩;intro E h dep R lp w0 I0 F0 O0 Hd suf ro st e x st2 e2 hev href hro a w I F L Q hs hf hQ;simp only[BO,AQ,Z6,aC] at hev;obtain⟨rfl,rfl,rfl⟩:=hev;exact wpIn_ret (hQ a w I F L hs hf)
 | refuse r =>
  refine⟨?_,fun l0 y z hsp0=>by simp[Ey] at hsp0⟩;intro E h dep R lp w0 I0 F0 O0 Hd suf ro st e x st2 e2 hev;simp[BO,AQ] at hev
theorem S2 (hM:EP cx M.call) (hsp:MSp cx M) (hloc:GD M):∀ c:Code,J0 cx dd M fuel c:=fun c=>(code_ok2 hM hsp hloc c).1
end
end Go.Ab

