/-
  Part 2 of a proof: a machine of our own for the given program, its laws, and what it says of the program. Nothing here is a claim by itself.
-/
import Derived.Test.YtddfndlppfhcaaaGreatDoorK01
import Derived.Laws.IdiomStrings
import Derived.MapKept
import Derived.Laws.Entries
import Derived.Laws.StructEq
import Derived.Orders
set_option linter.all false

namespace Go.Ab
section ops
variable {E:Type} {cx:Cx} {w0:World} {I0 F0:Nat→Prop} {O0:Own} {Hd:Nat→Option Obj} {R:qkj E} {e:E} {ds:List Deferred} {F:Nat→Prop} {lp:Nat→Option Nat} {suf:List Value}
variable {I:Nat→Prop} {L:Loc} {st:St} {a:Act} {w:World} {o:Oper} {out:Out} {rop:ROp}
theorem done_upd0 (hs:SR lp I L st a.tmps.toList suf w) (hf:Fr cx w0 I0 F0 O0 Hd R e ds I F L w) {nm:Nm} (hL:L nm=some none)
  {v:PV} {v':Value} {k kt:Nat} (hr:(execOp a.eval o).run cx.P w=.ok (.value v') w∨((execOp a.eval o).run cx.P w=.ok .skip w∧v'=undef))
  (hv:qbr w I lp (some L) v v'):qh8 cx w0 I0 F0 O0 Hd R e ds F lp suf o a w (apply st o.dst {v,upd:=some (nm,.arr k kt [])}):=by
 have hu:=hs.upd (w':=w) (ob':=.arr k kt []) hL (fun _ _=>rfl) (fun _ _ _ _ _=>rfl) ⟨k,_,rfl⟩
 refine⟨v',w,I,L,hr,?_,hf⟩
 rw[qfg]
 cases o.dst with
 | none=>exact hu
 | some d=>exact hu.put d hv
theorem Qbz {P:Program} {w w':World} {t el ty:TypeId} {ats:Array TypeId} (a0:ats[0]?=some t) {i:TypeInfo} (hu:P.underlying t=some (.slice el)) (hi:P.info? el=some i)
  {base:Option Addr} {dLen dCap:Nat} {x:Value} {m:Nat} {news:List Value} (hl:Builtin.lenOf x=pure m)
  (hnew:(Builtin.firstCells i.size (Nat.min m dLen) x).run P w=.ok news.toArray w)
  (hst:(match base with | some a=>storeCells a news | none=>pure ()).run P w=.ok () w') :
  (Builtin.copy_ ats ty #[.slice base dLen dCap,x]).run P w=.ok (.int .i64 ((Nat.min m dLen:Nat):Int)) w':=by
 cases base with
 | none =>
  have hst:w=w':=by simpa using hst
  subst hst
  simp[Builtin.copy_,a0,run_underlying hu,sizeOf,typeInfo,hi,hl,hnew,goInt]
 | some a =>
  simp only at hst
  simp[Builtin.copy_,a0,run_underlying hu,sizeOf,typeInfo,hi,hl,hnew,hst,goInt]
theorem op_copy (hs:SR lp I L st a.tmps.toList suf w) (hf:Fr cx w0 I0 F0 O0 Hd R e ds I F L w) {c:Call} (ho:o.op=.call c) {x y:Operand} (hcal:c.callee=.builtin .copy) {ty:TypeId} (a0:c.argTypes[0]?=some ty) (harg:c.args=#[x,y])
  {k by_:Nat} {z:PV} {r1 r2:RX} (he:qky cx.P ty=some (k,by_,z)) (h1:rx cx.G x=some r1) (h2:rx cx.G y=some r2)
  (h:exec (o.dst.getD 0) (qbf st.objs) st.tmps (.copy k r1 r2)=some out):qh8 cx w0 I0 F0 O0 Hd R e ds F lp suf o a w (apply st o.dst out):=by
 obtain⟨el,i,zv,hu,hi,hik,hby,hb6,hz,hzk,hzv,hzn,hzr⟩:=qgq he
 have hx:=qb4 hs hf.wd h1
 have hy:=qb4 hs hf.wd h2
 have hrun:∀ {v' w'},(Builtin.copy_ c.argTypes o.type #[a.eval x,a.eval y]).run cx.P w=.ok v' w'→(execOp a.eval o).run cx.P w=.ok (.value v') w':=by
  intro v' w' hr
  simp[execOp,ho,resolve,hcal,harg,invoke,builtin,hr]
 simp only[exec] at h
 split at h
 ·cases h
 rename_i ys hys
 obtain⟨news,hsrc⟩:=Qgy cx.P hs hy hys
 have hnew:∀ n,n≤ys.length→(Builtin.firstCells i.size n (a.eval y)).run cx.P w=.ok (news.take (n*k)).toArray w:=fun n hn=>by
  rw[hik];exact hsrc.first n hn w rfl
 split at h
 ·rename_i hr
  rw[hr] at hx
  cases h
  have hr0:=Qbz (P:=cx.P) (w:=w) (w':=w) (ty:=o.type) a0 hu hi (base:=none) (dLen:=0) (dCap:=0) hsrc.len (by rw[show Nat.min ys.length 0=0 from Nat.min_zero _];exact hnew 0 (Nat.zero_le _)) rfl
  refine qbl hs hf (hrun (by rw[qf3 hx];exact hr0)) (.refl w) ?_
  rw[show Nat.min ys.length 0=0 from Nat.min_zero _]
  exact .int .i64 _
 ·rename_i nm k' off n hr
  rw[hr] at hx
  split at h
  case h_2=>cases h
  rename_i k'' kt xs hlk
  obtain⟨hk,h⟩:=qbh h
  cases h
  simp only[Bool.and_eq_true,beq_iff_eq,decide_eq_true_eq] at hk
  obtain⟨⟨rfl,rfl⟩,hle⟩:=hk
  obtain⟨p,hp,ha⟩:=hs.ob nm _ hlk
  rcases qje hx with ⟨b,C,cap,hL,hv,hC,hn⟩ | ⟨hL,hv,rfl,rfl⟩
  ·rw[hL] at hp;cases hp
   obtain⟨c',E',hb,hC',hxs,hkx,hone,hrep⟩:=ha
   have hyl:(ys.take n).length=Nat.min ys.length n:=by rw[List.length_take];exact Nat.min_comm _ _
   have hmn:Nat.min ys.length n≤n:=Nat.min_le_right _ _
   have hmy:Nat.min ys.length n≤ys.length:=Nat.min_le_left _ _
   generalize hmm:Nat.min ys.length n=m at *
   have hml:(news.take (m*k)).length=m*k:=by
    have:m*k≤ys.length*k:=Nat.mul_le_mul_right _ hmy
    simp[hsrc.lenN,this]
   have hoff:off*k+m*k≤xs.length*k:=by rw[←Nat.add_mul];exact Nat.mul_le_mul_right _ (by omega)
   have hst:=run_storeCells_at cx.P b (off*k) E' (news.take (m*k)) 0 c' w hb (by omega) (hsrc.one.take' _)
   simp only[Nat.add_zero] at hst
   have hr0:=Qbz (P:=cx.P) (w:=w) (ty:=o.type) a0 hu hi (base:=some ⟨b,off*k,none⟩) (dLen:=n) (dCap:=cap) hsrc.len (by rw[hmm];exact hnew m hmy) hst
   rw[hmm] at hr0
   have hkI:∀ b',I b'→(w.setRow b (c'.toList.take (off*k)++news.take (m*k)++c'.toList.drop (off*k+(news.take (m*k)).length)).toArray).heap[b']?=w.heap[b']?:=fun b' hb'=>qdq w b _ fun e=>(hf.lB nm b C hL).2.2.1 (e ▸ hb')
   have hysr:qbn w I lp none (cellsL (ys.take n)) (news.take (m*k)):=by
    have:=hsrc.rep.take (m*k)
    rw[←qfz hsrc.each] at this
    have e0:ys.take m=ys.take n:=by
     rw[←hmm]
     by_cases hc:ys.length≤n
     ·rw[show Nat.min ys.length n=ys.length from Nat.min_eq_left hc,List.take_length,List.take_of_length_le hc]
     ·rw[show Nat.min ys.length n=n from Nat.min_eq_right (by omega)]
    rwa [e0] at this
   have hyk:∀ y∈ys.take n,y.cells.length=k:=fun y hy=>hsrc.each y (List.mem_of_mem_take hy)
   have hnl:(xs.take off++ys.take n++xs.drop (off+(ys.take n).length)).length=xs.length:=by
    simp only[List.length_append,List.length_take,List.length_drop];omega
   have hcells:cellsL (xs.take off++ys.take n++xs.drop (off+(ys.take n).length))=splice (cellsL xs) (off*k) (cellsL (ys.take n)):=by
    unfold splice
    rw[qfe,qfe,qfz hkx,qho hkx,qfd hyk,Nat.add_mul]
   have e1:=qpw c'.toList (news.take (m*k)) (off*k) (xs.length*k) (by omega) (by simp;omega)
   have hspl:=hrep.splice hysr (off*k)
   refine qrp hs hf hL (w':=w.setRow b (c'.toList.take (off*k)++news.take (m*k)++c'.toList.drop (off*k+(news.take (m*k)).length)).toArray) (v':=.int .i64 (m:Int)) (.inl (hrun (by rw[hv];exact hr0))) rfl rfl rfl (by simp)
    (fun b' hb'=>qdq w b _ hb') ?_ (by rw[show (min (ys.length:Int) (n:Int))=(m:Int) from by have:min ys.length n=m:=hmm;omega];exact .int .i64 _)
   refine⟨_,E',setRow_heap w b c' _ E' _ hb,?_,by rw[hnl];exact hxs,?_,?_,?_⟩
   ·simp[hml];omega
   ·intro x hx
    rcases List.mem_append.1 hx with hx | hx
    ·rcases List.mem_append.1 hx with hx | hx
     ·exact hkx x (List.mem_of_mem_take hx)
     ·exact hyk x hx
    ·exact hkx x (List.mem_of_mem_drop hx)
   ·rw[hnl]
    simp only
    rw[e1]
    exact hone.splice (hsrc.one.take' _) _ _
   ·rw[hnl,hcells]
    simp only
    rw[e1]
    exact qbn.mono (fun _ h=>h) hkI (fun _ _ h=>h) hspl
  ·rw[hL] at hp;cases hp
   obtain⟨k2,kt2,hk2⟩:=ha
   simp only[Ob.arr.injEq] at hk2
   obtain⟨rfl,rfl,rfl⟩:=hk2
   have hr0:=Qbz (P:=cx.P) (w:=w) (w':=w) (ty:=o.type) a0 hu hi (base:=none) (dLen:=0) (dCap:=0) hsrc.len (by rw[show Nat.min ys.length 0=0 from Nat.min_zero _];exact hnew 0 (Nat.zero_le _)) rfl
   have:=done_upd0 hs hf hL (k:=k) (kt:=kt) (v:=.int .i64 (min (ys.length:Int) ((0:Nat):Int))) (.inl (hrun (by rw[hv];exact hr0))) (by
    rw[show Nat.min ys.length 0=0 from Nat.min_zero _,show (min (ys.length:Int) ((0:Nat):Int))=((0:Nat):Int) from by omega];exact .int .i64 _)
   simpa using this
 ·cases h
theorem qtx (es:List MapEntry):(qqf es).length=2*es.length:=by
 induction es with
 | nil=>rfl
 | cons e es ih=>simp[qqf,ih];omega
theorem op_len (hs:SR lp I L st a.tmps.toList suf w) (hf:Fr cx w0 I0 F0 O0 Hd R e ds I F L w) {c:Call} (ho:o.op=.call c) {x:Operand} (hcal:c.callee=.builtin .len) {ty:TypeId} (a0:c.argTypes[0]?=some ty) (harg:c.args=#[x])
  {r1:RX} {d:TypeDesc} {tc:TC} (hu:cx.P.underlying ty=some d) (hd:(d=.string∧tc=.str)∨(∃ e',d=.slice e'∧tc=.slice)∨∃ k' e',d=.map k' e'∧tc=.map) (h1:rx cx.G x=some r1)
  (h:exec (o.dst.getD 0) (qbf st.objs) st.tmps (.len tc r1)=some out):qh8 cx w0 I0 F0 O0 Hd R e ds F lp suf o a w (apply st o.dst out):=by
 have hx:=qb4 hs hf.wd h1
 have hrun:∀ {n:Nat},(Builtin.len_ c.argTypes o.type #[a.eval x]).run cx.P w=.ok (.int .i64 (n:Int)) w→qh8 cx w0 I0 F0 O0 Hd R e ds F lp suf o a w (apply st o.dst {v:=.int .i64 (n:Int)}):=by
  intro n hr
  exact qbl hs hf (by simp[execOp,ho,resolve,hcal,harg,invoke,builtin,hr]) (.refl w) (.int .i64 _)
 simp only[exec] at h
 obtain⟨n,hn,rfl⟩:=Option.map_eq_some_iff.1 h
 refine hrun ?_
 rcases hd with ⟨rfl,rfl⟩ | ⟨e',rfl,rfl⟩ | ⟨k',e',rfl,rfl⟩
 ·cases hr:r1.ev st.tmps<;>rw[hr] at hn hx<;>simp only[Qci] at hn<;>first | contradiction | skip
  rename_i s
  cases hn
  have hz:(⟨s.toArray⟩:ByteArray).size=s.length:=by simp[ByteArray.size]
  rw[qfc hx]
  simp only[Builtin.len_,a0,Sem.run_bind,run_underlying hu,Result.andThen_ok,List.getElem?_toArray,List.getElem?_cons_zero,goInt,hz,Sem.run_pure]
 ·cases hr:r1.ev st.tmps<;>rw[hr] at hn hx<;>simp only[Qci] at hn<;>first | contradiction | skip
  ·cases hn
   simp[Builtin.len_,a0,run_underlying hu,qf3 hx,goInt]
  ·cases hn
   rcases qrb hx with ⟨b,off,cap,c,E',fr,hv,_⟩ | ⟨rfl,ad,cap,hv,_⟩<;>simp[Builtin.len_,a0,run_underlying hu,hv,goInt]
  ·cases hn
   rcases qje hx with ⟨b,C,cap,hL,hv,hC,hn⟩ | ⟨hL,hv,rfl,rfl⟩<;>simp[Builtin.len_,a0,run_underlying hu,hv,goInt]
 ·cases hr:r1.ev st.tmps<;>rw[hr] at hn hx<;>simp only[Qci] at hn<;>first | contradiction | skip
  ·cases hn
   simp[Builtin.len_,a0,run_underlying hu,Qlw hx,goInt]
  ·rename_i es
   cases hn
   obtain⟨r,ents,clock,hv,_,hb,hrep⟩:=Qly hx
   have hl:=hrep.length
   rw[qtx] at hl
   have:es.length / 2=ents.size:=by simp at hl;omega
   rw[this]
   have hg:(getObj r).run cx.P w=.ok (.map ents clock) w:=by simp[getObj,Sem.run,hb]
   simp[Builtin.len_,a0,run_underlying hu,hv,goInt,hg]
  ·rename_i nm
   split at hn
   case h_2=>cases hn
   rename_i es hlk
   cases hn
   obtain⟨b,C,hL,hv⟩:=Qlx hx
   obtain⟨p,hp,ha⟩:=hs.ob nm _ hlk
   rw[hL] at hp;cases hp
   obtain⟨ents,clock,hb,hrep⟩:=ha
   have hl:=hrep.length
   rw[qtx] at hl
   have:es.length / 2=ents.size:=by simp at hl;omega
   rw[this]
   have hg:(getObj b).run cx.P w=.ok (.map ents clock) w:=by simp[getObj,Sem.run,hb]
   simp[Builtin.len_,a0,run_underlying hu,hv,goInt,hg]
theorem run_foldMM {P:Program} {w w':World} {I:Nat→Prop} {lp:Nat→Option Nat} {L:Option Loc} (mx:Bool) (k:IntKind):∀ (xs:List PV) (vs:List Value) (x n:Int),qbn w I lp L xs vs→qz0 mx k x xs=some n →
  (vs.foldlM (if mx then Builtin.max2 else Builtin.min2) (.int k x)).run P w'=.ok (.int k n) w':=by
 intro xs
 induction xs with
 | nil=>intro vs x n h hn;cases h;simp only[qz0,Option.some.injEq] at hn;subst hn;rfl
 | cons y ys ih =>
  intro vs x n h hn
  cases h with
  | cons _ v _ vs h hs =>
   cases y<;>simp only[qz0] at hn<;>first | contradiction | skip
   rename_i k' b
   obtain⟨hk,hn2⟩:=qbh hn
   have hk:=beq_iff_eq.1 hk
   subst hk
   rw[qd8 h]
   rw[List.foldlM_cons]
   cases mx
   ·simp only[Bool.false_eq_true,if_false] at hn2 ⊢
    rw[Sem.run_bind]
    have:(Builtin.min2 (.int k x) (.int k b)).run P w'=.ok (.int k (if b < x then b else x)) w':=rfl
    rw[this,Result.andThen_ok]
    simpa using ih vs _ _ hs hn2
   ·simp only[if_true] at hn2 ⊢
    rw[Sem.run_bind]
    have:(Builtin.max2 (.int k x) (.int k b)).run P w'=.ok (.int k (if b>x then b else x)) w':=rfl
    rw[this,Result.andThen_ok]
    simpa using ih vs _ _ hs hn2
theorem Qfc (hs:SR lp I L st a.tmps.toList suf w) (hf:Fr cx w0 I0 F0 O0 Hd R e ds I F L w) {c:Call} (ho:o.op=.call c) {mx:Bool} (hcal:c.callee=.builtin (if mx then .max else .min))
  {rs:List RX} (h1:rxs cx.G c.args.toList=some rs)
  (h:exec (o.dst.getD 0) (qbf st.objs) st.tmps (.minmax mx rs)=some out):qh8 cx w0 I0 F0 O0 Hd R e ds F lp suf o a w (apply st o.dst out):=by
 have hx:=Qc6 hs hf.wd h1
 simp only[exec] at h
 split at h
 case h_2=>cases h
 rename_i k x rest hr
 rw[hr] at hx
 obtain⟨n,hn,rfl⟩:=Option.map_eq_some_iff.1 h
 cases hv:c.args.toList.map a.eval with
 | nil=>rw[hv] at hx;cases hx
 | cons v vs =>
  rw[hv] at hx
  cases hx with
  | cons _ _ _ _ hx1 hx2 =>
   have hm:(c.args.map a.eval).toList=v :: vs:=by rw[Array.toList_map,hv]
   have hfm:=run_foldMM (P:=cx.P) (w':=w) mx k rest vs x n hx2 hn
   rw[←qd8 hx1] at hfm
   refine qbl hs hf (v':=.int k n) ?_ (.refl w) (.int k _)
   cases mx
   ·simp only[Bool.false_eq_true,if_false] at hcal hfm
    simp[execOp,ho,resolve,hcal,invoke,builtin,Builtin.min_,hv,hfm]
   ·simp only[if_true] at hcal hfm
    simp[execOp,ho,resolve,hcal,invoke,builtin,Builtin.max_,hv,hfm]
end ops
end Go.Ab


namespace Go.Ab
section ops
variable {E:Type} {cx:Cx} {w0:World} {I0 F0:Nat→Prop} {O0:Own} {Hd:Nat→Option Obj} {R:qkj E} {e:E} {ds:List Deferred} {F:Nat→Prop} {lp:Nat→Option Nat} {suf:List Value}
variable {I:Nat→Prop} {L:Loc} {st:St} {a:Act} {w:World} {o:Oper} {out:Out} {rop:ROp}
theorem op_toBytes (hs:SR lp I L st a.tmps.toList suf w) (hf:Fr cx w0 I0 F0 O0 Hd R e ds I F L w) {src dst el:TypeId} {x:Operand} (ho:o.op=.convert src dst x) {r:RX} (h1:rx cx.G x=some r)
  (hd1:cx.P.underlying src=some .string) (hd2:cx.P.underlying dst=some (.slice el)) (hd3:cx.P.underlying el=some (.int .u8))
  (h:exec (o.dst.getD 0) (qbf st.objs) st.tmps (.toBytes r)=some out):qh8 cx w0 I0 F0 O0 Hd R e ds F lp suf o a w (apply st o.dst out):=by
 have hx:=qb4 hs hf.wd h1
 simp only[exec] at h
 split at h
 case h_2=>cases h
 rename_i s hr
 obtain⟨hk,h⟩:=qbh h
 cases h
 rw[hr] at hx
 have hxv:=qfc hx
 have hz:(⟨s.toArray⟩:ByteArray).size=s.length:=by simp[ByteArray.size]
 have hrun:=run_bytes_of_string (P:=cx.P) w src dst el ⟨s.toArray⟩ hd1 hd2 hd3
 rw[hz] at hrun
 have hge:=grownCap_ge w s.length 0 el
 generalize hc:grownCap w s.length 0 el=cap at *
 have hbl:(bytesRow ⟨s.toArray⟩ cap).toList=(s.map fun b=>Value.int .u8 (b.toNat:Int))++List.replicate (cap - s.length) (.int .u8 0):=by
  simp[bytesRow,hz]
 have hbs:(bytesRow ⟨s.toArray⟩ cap).size=cap:=by
  have:(bytesRow ⟨s.toArray⟩ cap).toList.length=cap:=by rw[hbl];simp;omega
  simpa using this
 generalize hrow:bytesRow ⟨s.toArray⟩ cap=row at *
 generalize hfr:(row.size,row.size+1)=fr at *
 have hkb:∀ b',b' < w.heap.size→(w.drew.alloc (.cells row el fr)).heap[b']?=w.heap[b']?:=fun b' hb'=>by rw[heap_alloc_lt w.drew _ hb'];rfl
 have hs2:SR lp (fun b=>I b∨b=w.heap.size) L st a.tmps.toList suf (w.drew.alloc (.cells row el fr)) :=
  hs.keeps (fun _ h=>.inl h) (fun b hb=>hkb b (hf.sep.iB b hb)) fun nm b C hn=>hkb b (hf.lB nm b C hn).2.1
 refine⟨.slice (some ⟨w.heap.size,0,none⟩) s.length cap,w.drew.alloc (.cells row el fr),(fun b=>I b∨b=w.heap.size),L,.inl ?_,?_,?_⟩
 ·simp[execOp,ho,hxv,hrun]
 ·refine hs2.putO o.dst ?_
  have hbl2:(qcs s).length=s.length:=by simp[qcs]
  have htk:(row.toList.drop 0).take ((qcs s).length*1)=s.map fun b=>Value.int .u8 (b.toNat:Int):=by
   rw[List.drop_zero,hbl,hbl2,Nat.mul_one,List.take_append_of_le_length (by simp),List.take_of_length_le (by simp)]
  have:=qbr.sl (w:=w.drew.alloc (.cells row el fr)) (I:=fun b=>I b∨b=w.heap.size) (lp:=lp) (L:=some L) 1 (qcs s) false w.heap.size 0 cap row el fr (.inr rfl) (qdk w.drew _) (by rw[hbl2,hbs];omega)
   (fun y hy=>by obtain⟨b,_,rfl⟩:=List.mem_map.1 hy;rfl) (by rw[hbl2];exact hge) (by simp)
   (by rw[htk];intro v hv;obtain⟨b,_,rfl⟩:=List.mem_map.1 hv;rfl) (by rw[htk];exact qt5 s)
  rwa [hbl2] at this
 ·refine hf.own rfl rfl rfl (by simp) (fun b hb _=>hkb b hb) (fun _ h=>.inl h) (fun b hb=>?_) (fun nm b C hn=>?_) hf.inj
  ·rcases hb with hb | rfl
   ·exact .inl hb
   ·exact .inr ⟨by simp,.inl (Nat.le_refl _)⟩
  ·have hl:=hf.lB nm b C hn
   refine⟨by simp;omega,fun hb=>?_,.inr ⟨nm,C,hn⟩⟩
   rcases hb with hb | rfl
   ·exact hl.2.2.1 hb
   ·omega
theorem Qkl {x:PV} {b:UInt8} (h:Qg9 x=some b):x=.int .u8 (b.toNat:Int):=by
 unfold Qg9 at h
 split at h
 ·rename_i n
  split at h
  ·rename_i hn
   cases h
   congr 1
   have:n.toNat < 256:=by omega
   rw[UInt8.toNat_ofNat',Nat.mod_eq_of_lt this,Int.toNat_of_nonneg hn.1]
  ·cases h
 ·cases h
theorem Qg8:∀ {xs:List PV} {s:List UInt8},qhp xs=some s→xs=qcs s:=by
 intro xs
 induction xs with
 | nil=>intro s h;simp only[qhp,Option.some.injEq] at h;subst h;rfl
 | cons x xs ih =>
  intro s h
  simp only[qhp] at h
  split at h
  ·rename_i b bs hb hbs
   cases h
   rw[Qkl hb,ih hbs];rfl
  ·cases h
theorem bytes_row {w:World} {I:Nat→Prop} {lp:Nat→Option Nat} {L:Option Loc}:∀ {s:List UInt8} {vs:List Value},qbn w I lp L (cellsL (qcs s)) vs→vs=s.map fun b=>Value.int .u8 (b.toNat:Int):=by
 intro s
 induction s with
 | nil=>intro vs h;cases h;rfl
 | cons b s ih =>
  intro vs h
  have h2:qbn w I lp L (.int .u8 (b.toNat:Int) :: cellsL (qcs s)) vs:=h
  cases h2 with
  | cons _ v _ vs h3 hs=>rw[qd8 h3,ih hs];rfl
theorem op_ofBytes (hs:SR lp I L st a.tmps.toList suf w) (hf:Fr cx w0 I0 F0 O0 Hd R e ds I F L w) {src dst el:TypeId} {x:Operand} (ho:o.op=.convert src dst x) {r:RX} (h1:rx cx.G x=some r)
  (hd1:cx.P.underlying src=some (.slice el)) (hd2:cx.P.underlying dst=some .string) (hd3:cx.P.underlying el=some (.int .u8))
  (h:exec (o.dst.getD 0) (qbf st.objs) st.tmps (.ofBytes r)=some out):qh8 cx w0 I0 F0 O0 Hd R e ds F lp suf o a w (apply st o.dst out):=by
 have hx:=qb4 hs hf.wd h1
 simp only[exec] at h
 split at h
 case h_2=>cases h
 rename_i xs hxs
 split at h
 case h_2=>cases h
 rename_i s hbs
 cases h
 obtain⟨hns,hel⟩:=qbh hxs
 have hxe:=Qg8 hbs
 subst hxe
 refine qbl hs hf (v':=.string ⟨s.toArray⟩) ?_ (.refl w) (.str s)
 have hrow:∀ (b off cap:Nat) (c:Array Value) (E':TypeId) (fr:Nat×Nat),w.heap[b]?=some (.cells c E' fr)→off+s.length≤c.size→qbn w I lp none (cellsL (qcs s)) ((c.toList.drop off).take s.length) →
   (convert src dst (.slice (some ⟨b,off,none⟩) s.length cap)).run cx.P w=.ok (.string ⟨s.toArray⟩) w:=by
  intro b off cap c E' fr hb hle hrep
  refine run_convert_bytes_back w src dst el ⟨b,off,none⟩ cap s hd1 hd3 hd2 fun j hj=>?_
  have he:=bytes_row hrep
  rw[qjp,qrz hb]
  have:((c.toList.drop off).take s.length)[j]?=some (.int .u8 (s[j].toNat:Int)):=by rw[he];simp[hj]
  rw[List.getElem?_take_of_lt hj,List.getElem?_drop] at this
  simpa using this
 have hnil:s=[]→∀ (ad:Option Addr) (cap:Nat),(convert src dst (.slice ad 0 cap)).run cx.P w=.ok (.string ⟨s.toArray⟩) w:=by
  rintro rfl ad cap
  cases ad with
  | none=>rw[run_convert_bytes_string w src dst el none 0 cap hd1 hd3 hd2];simp[Conv.bytesToString];rfl
  | some ad=>exact run_convert_bytes_back w src dst el ad cap [] hd1 hd3 hd2 fun j hj=>by simp at hj
 have key:(convert src dst (a.eval x)).run cx.P w=.ok (.string ⟨s.toArray⟩) w:=by
  unfold qk8 at hel
  split at hel
  ·rename_i k xs full hr
   obtain⟨_,he2⟩:=qbh hel
   have he2:xs=qcs s:=by simpa using he2
   subst he2
   rw[hr] at hx
   rcases qrb hx with ⟨b,off,cap,c,E',fr,hv,g1,g2,g3,g4,g5,g6,g7,g8⟩ | ⟨hn,ad,cap,hv,_⟩
   ·have hbl:(qcs s).length=s.length:=by simp[qcs]
    rw[hbl] at hv g3 g8
    have hk1:s.length*k=s.length:=by
     have hln:=g8.length
     cases s with
     | nil=>simp
     | cons b0 s=>have:=g4 (.int .u8 (b0.toNat:Int)) (by simp[qcs]);rw[←this];simp[PV.cells]
    rw[hk1] at g3 g8
    rw[hv];exact hrow b off cap c E' fr g2 g3 g8
   ·rw[hv];exact hnil (by simpa[qcs] using hn) ad cap
  ·rename_i nm k off n hr
   split at hel
   case h_2=>cases hel
   rename_i k'' kt xs hlk
   obtain⟨hk,he2⟩:=qbh hel
   simp only[Bool.and_eq_true,beq_iff_eq,decide_eq_true_eq] at hk
   obtain⟨⟨rfl,rfl⟩,hle⟩:=hk
   have he2:(xs.drop off).take n=qcs s:=by simpa using he2
   have hbl:(qcs s).length=s.length:=by simp[qcs]
   have hns:n=s.length:=by rw[←hbl,←he2];simp;omega
   obtain⟨p,hp,ha⟩:=hs.ob nm _ hlk
   rw[hr] at hx
   rcases qje hx with ⟨b,C,cap,hL,hv,hC,hn⟩ | ⟨hL,hv,rfl,rfl⟩
   ·rw[hL] at hp;cases hp
    obtain⟨c,E',hb,hC',hxs',hkx,hone,hrep⟩:=ha
    have:=(hrep.drop (off*1)).take (n*1)
    rw[←qho hkx,←qfz (fun x hx=>hkx x (List.mem_of_mem_drop hx)),he2,List.drop_take,List.take_take] at this
    have hmin:min (n*1) (xs.length*1 - off*1)=s.length:=by omega
    rw[hmin,Nat.mul_one] at this
    rw[hv,hns,Nat.mul_one];exact hrow b off cap c E' (0,0) hb (by omega) this
   ·rw[hv];exact hnil (List.length_eq_zero_iff.1 hns.symm) none 0
  ·rename_i hr
   have he2:[]=qcs s:=by simpa using hel
   rw[hr] at hx
   rw[qf3 hx];exact hnil (by cases s with | nil=>rfl | cons b s=>simp[qcs] at he2) none 0
  ·rename_i s' hr
   rw[hr] at hns
   simp[isStr] at hns
  ·cases hel
 simp[execOp,ho,key]
theorem qqk {P:Program} {kt:TypeId} {k:PV} (h:qsp (qd1 P kt) k=true):∃ d,P.underlying kt=some d ∧
  (((∃ kk,d=.int kk)∧∃ j n,k=.int j n)∨(d=.string∧∃ s,k=.str s)∨(d=.bool∧∃ b,k=.bool b)):=by
 cases hu:P.underlying kt with
 | none=>simp[qd1,hu,qsp] at h
 | some d =>
  cases d with
  | struct fs =>
   simp only[qd1,hu] at h
   split at h
   ·split at h<;>simp[qsp] at h
   ·simp[qsp] at h
  | int q =>
   simp only[qd1,hu] at h
   cases k<;>simp[qsp] at h
   exact⟨_,rfl,.inl ⟨⟨_,rfl⟩,_,_,rfl⟩⟩
  | string =>
   simp only[qd1,hu] at h
   cases k<;>simp[qsp] at h
   exact⟨_,rfl,.inr (.inl ⟨rfl,_,rfl⟩)⟩
  | bool =>
   simp only[qd1,hu] at h
   cases k<;>simp[qsp] at h
   exact⟨_,rfl,.inr (.inr ⟨rfl,_,rfl⟩)⟩
  | _=>simp[qd1,hu,qsp] at h
def KeyD (d:TypeDesc) (k:PV):Prop:=((∃ kk,d=.int kk)∧∃ j n,k=.int j n)∨(d=.string∧∃ s,k=.str s)∨(d=.bool∧∃ b,k=.bool b)
theorem KeyD.names {d:TypeDesc} {k:PV} (h:KeyD d k):k.names=[]:=by
 rcases h with ⟨_,_,_,rfl⟩ | ⟨_,_,rfl⟩ | ⟨_,_,rfl⟩<;>rfl
theorem qn1 {w:World} {I:Nat→Prop} {lp:Nat→Option Nat} {L L':Option Loc} {d:TypeDesc} {k x:PV} {kv xv:Value} (hd:KeyD d k) (hk:qbr w I lp L k kv) (hx:qbr w I lp L' x xv) {r:Bool} (h:keyEq k x=some r) :
  Instr.sameNow d kv xv=some r∧(r=true→xv=kv):=by
 rcases hd with ⟨⟨kk,rfl⟩,j,n,rfl⟩ | ⟨rfl,s,rfl⟩ | ⟨rfl,b,rfl⟩
 ·cases x<;>simp only[keyEq] at h<;>first | contradiction | skip
  obtain⟨h1,h2⟩:=qbh h
  have h1:=beq_iff_eq.1 h1
  subst h1
  cases h2
  rw[qd8 hk,qd8 hx]
  refine⟨by simp[Instr.sameNow],fun hb=>by rw[beq_iff_eq.1 hb]⟩
 ·cases x<;>simp only[keyEq] at h<;>first | contradiction | skip
  rename_i s'
  cases h
  rw[qfc hk,qfc hx]
  have hb:((⟨s.toArray⟩:ByteArray)==⟨s'.toArray⟩)=(s==s'):=by
   cases hc:(s==s') with
   | true=>rw[beq_iff_eq.1 hc];exact (MapKept.bytes_beq _ _).2 rfl
   | false =>
    cases hb:((⟨s.toArray⟩:ByteArray)==⟨s'.toArray⟩) with
    | false=>rfl
    | true =>
     have:=(MapKept.bytes_beq _ _).1 hb
     have:s=s':=by simpa using this
     rw[this] at hc;simp at hc
  exact⟨by simp only[Instr.sameNow,hb],fun hb=>by rw[beq_iff_eq.1 hb]⟩
 ·cases x<;>simp only[keyEq] at h<;>first | contradiction | skip
  rename_i b'
  cases h
  rw[qd4 hk,qd4 hx]
  exact⟨by simp[Instr.sameNow],fun hb=>by rw[beq_iff_eq.1 hb]⟩
theorem qrh {w:World} {I:Nat→Prop} {lp:Nat→Option Nat} {L:Option Loc} {x y:PV} {es:List PV} {l:List MapEntry} (h:qbn w I lp L (x :: y :: es) (qqf l)) :
  ∃ en l',l=en :: l'∧qbr w I lp L x en.key∧qbr w I lp L y en.val∧qbn w I lp L es (qqf l'):=by
 cases l with
 | nil=>cases h
 | cons en l' =>
  cases h with
  | cons _ _ _ _ h1 h2=>cases h2 with
   | cons _ _ _ _ h2 h3=>exact⟨en,l',rfl,h1,h2,h3⟩
theorem findE_spec {w:World} {I:Nat→Prop} {lp:Nat→Option Nat} {L L':Option Loc} {d:TypeDesc} {k:PV} {kv:Value} (hd:KeyD d k) (hk:qbr w I lp L' k kv):∀ (n:Nat) (es:List PV) (l:List MapEntry) (i:Nat) (r:Option PV),es.length≤n →
  qbn w I lp L es (qqf l)→qt7 k es=some r →
  (r=none∧Instr.findNow d kv l i=some none)∨∃ j v x,r=some x∧qbr w I lp L x v∧Instr.findNow d kv l i=some (some (j,v)):=by
 intro n
 induction n with
 | zero =>
  intro es l i r hn h hf
  cases es with
  | cons x es=>simp at hn
  | nil =>
   simp only[qt7,Option.some.injEq] at hf
   subst hf
   cases l with
   | nil=>exact .inl ⟨rfl,rfl⟩
   | cons en l=>cases h
 | succ n ih =>
  intro es l i r hn h hf
  match es,hf,h,hn with
  | [],hf,h,hn =>
   simp only[qt7,Option.some.injEq] at hf
   subst hf
   cases l with
   | nil=>exact .inl ⟨rfl,rfl⟩
   | cons en l=>cases h
  | [x],hf,h,hn=>simp[qt7] at hf
  | x :: y :: es,hf,h,hn =>
   obtain⟨en,l',rfl,h1,h2,h3⟩:=qrh h
   simp only[qt7] at hf
   split at hf
   ·rename_i hke
    obtain⟨s1,_⟩:=qn1 hd hk h1 hke
    cases hf
    exact .inr ⟨i,en.val,y,rfl,h2,by simp[Instr.findNow,s1]⟩
   ·rename_i hke
    obtain⟨s1,_⟩:=qn1 hd hk h1 hke
    simp only[List.length_cons] at hn
    rcases ih es l' (i+1) r (by omega) h3 hf with ⟨q1,q2⟩ | ⟨j,v,x,q1,q2,q3⟩
    ·exact .inl ⟨q1,by simp[Instr.findNow,s1,q2]⟩
    ·exact .inr ⟨j,v,x,q1,q2,by simp[Instr.findNow,s1,q3]⟩
   ·cases hf
theorem setE_spec {w:World} {I:Nat→Prop} {lp:Nat→Option Nat} {L:Option Loc} {d:TypeDesc} {k v:PV} {kv vv:Value} (hd:KeyD d k) (hk:qbr w I lp L k kv) (hv:qbr w I lp L v vv):∀ (n:Nat) (es:List PV) (l:List MapEntry) (i:Nat) (es':List PV),es.length≤n →
  qbn w I lp L es (qqf l)→setE k v es=some es' →
  (Instr.findNow d kv l i=some none∧∀ b,qbn w I lp L es' (qqf (l++[{key:=kv,val:=vv,born:=b}]))) ∨
  ∃ j en,Instr.findNow d kv l i=some (some (i+j,en.val))∧l[j]?=some en∧en.key=kv∧qbn w I lp L es' (qqf (l.modify j fun e=>{e with key:=kv,val:=vv})):=by
 intro n
 induction n with
 | zero =>
  intro es l i es' hn h hf
  cases es with
  | cons x es=>simp at hn
  | nil =>
   simp only[setE,Option.some.injEq] at hf
   subst hf
   cases l with
   | nil=>exact .inl ⟨rfl,fun b=>.cons _ _ _ _ hk (.cons _ _ _ _ hv .nil)⟩
   | cons en l=>cases h
 | succ n ih =>
  intro es l i es' hn h hf
  match es,hf,h,hn with
  | [],hf,h,hn =>
   simp only[setE,Option.some.injEq] at hf
   subst hf
   cases l with
   | nil=>exact .inl ⟨rfl,fun b=>.cons _ _ _ _ hk (.cons _ _ _ _ hv .nil)⟩
   | cons en l=>cases h
  | [x],hf,h,hn=>simp[setE] at hf
  | x :: y :: es,hf,h,hn =>
   obtain⟨en,l',rfl,h1,h2,h3⟩:=qrh h
   simp only[setE] at hf
   split at hf
   ·rename_i hke
    obtain⟨s1,s2⟩:=qn1 hd hk h1 hke
    cases hf
    refine .inr ⟨0,en,by simp[Instr.findNow,s1],rfl,s2 rfl,?_⟩
    rw[List.modify_zero_cons]
    exact .cons _ _ _ _ hk (.cons _ _ _ _ hv h3)
   ·rename_i hke
    obtain⟨s1,_⟩:=qn1 hd hk h1 hke
    obtain⟨es2,hes2,rfl⟩:=Option.map_eq_some_iff.1 hf
    simp only[List.length_cons] at hn
    rcases ih es l' (i+1) es2 (by omega) h3 hes2 with ⟨q1,q2⟩ | ⟨j,en',q1,q2,q3,q4⟩
    ·exact .inl ⟨by simp[Instr.findNow,s1,q1],fun b=>.cons _ _ _ _ h1 (.cons _ _ _ _ h2 (q2 b))⟩
    ·refine .inr ⟨j+1,en',by simp[Instr.findNow,s1,q1];omega,by simpa using q2,q3,?_⟩
     rw[List.modify_succ_cons]
     exact .cons _ _ _ _ h1 (.cons _ _ _ _ h2 q4)
   ·cases hf
theorem mapObj {P:Program} {w:World} {b:Nat} {ents:Array MapEntry} {clock:Nat} (hb:w.heap[b]?=some (.map ents clock)) (ob:Obj) :
  (setObj b ob).run P w=.ok () {w with heap:=w.heap.setIfInBounds b ob}:=MapKept.run_setObj_map ob hb
theorem Qlr {d:TypeDesc} {k:PV} {kv:Value} {kk:IntKind} (hd:KeyD d k) {w:World} {I:Nat→Prop} {lp:Nat→Option Nat} {L:Option Loc} (hk:qbr w I lp L k kv) {P:Program} {w':World} {kt:TypeId} (hu:P.underlying kt=some d) (b:Bool) (n:Nat) :
  (Instr.checkKey b (n+1) kt kv).run P w'=.ok () w':=by
 unfold Instr.checkKey
 simp only[Sem.run_bind,run_underlying hu,Result.andThen]
 rcases hd with ⟨⟨kk,rfl⟩,j,m,rfl⟩ | ⟨rfl,s,rfl⟩ | ⟨rfl,b,rfl⟩<;>rfl
theorem key_stays {d:TypeDesc} {k:PV} {kv:Value} (hd:KeyD d k) {w:World} {I:Nat→Prop} {lp:Nat→Option Nat} {L:Option Loc} (hk:qbr w I lp L k kv) {P:Program} {w':World}:(Instr.keyThatStays kv kv).run P w'=.ok kv w':=by
 rcases hd with ⟨⟨kk,rfl⟩,j,m,rfl⟩ | ⟨rfl,s,rfl⟩ | ⟨rfl,b,rfl⟩
 ·rw[qd8 hk];simp[Instr.keyThatStays,Instr.sameBits]
 ·rw[qfc hk];simp[Instr.keyThatStays,Instr.sameBits,MapKept.bytes_beq]
 ·rw[qd4 hk];simp[Instr.keyThatStays,Instr.sameBits]
theorem putOb_comm (σ:List (List Ob)) {a b:Nm} (h:a≠b) (o p:Ob):qb9 (qb9 σ a o) b p=qb9 (qb9 σ b p) a o:=by
 obtain⟨a1,a2⟩:=a
 obtain⟨b1,b2⟩:=b
 unfold qb9
 simp only
 by_cases hab:a1=b1
 ·subst hab
  have h2:a2≠b2:=fun e=>h (by rw[e])
  cases hl:σ[a1]? with
  | none=>simp[hl]
  | some l =>
   have hlt:=(List.getElem?_eq_some_iff.1 hl).1
   simp only[List.getElem?_set_self hlt,List.set_set]
   rw[List.set_comm _ _ h2]
 ·cases ha:σ[a1]? with
  | none =>
   cases hb:σ[b1]? with
   | none=>simp[ha,hb]
   | some l' =>
    simp only[hb]
    rw[List.getElem?_set_ne (Ne.symm hab),ha]
  | some l =>
   simp only
   rw[List.getElem?_set_ne hab]
   cases hb:σ[b1]? with
   | none=>simp[ha]
   | some l' =>
    simp only
    rw[List.getElem?_set_ne (Ne.symm hab),ha]
    simp only
    rw[List.set_comm _ _ hab]
theorem freeze_put {σ:Nm→Option Ob} {Rn:List Nm} {nm:Nm} (hn:nm ∉ Rn) (st:St) (es:List PV):qbt σ Rn {st with objs:=qb9 st.objs nm (.map es)}={qbt σ Rn st with objs:=qb9 (qbt σ Rn st).objs nm (.map es)}:=by
 unfold qbt qhf
 simp only
 congr 1
 have hA:∀ f:Nm→Option (Option Ob),(qb9 st.objs nm (.map es)).map (·.map (Ob.sub f))=qb9 (st.objs.map (·.map (Ob.sub f))) nm (.map es):=by
  intro f
  unfold qb9
  rw[List.getElem?_map]
  cases hl:st.objs[nm.1]? with
  | none=>rfl
  | some l=>simp[List.map_set,Ob.sub]
 rw[hA]
 generalize st.objs.map _=objs
 induction Rn generalizing objs with
 | nil=>rfl
 | cons r Rn ih =>
  rw[List.foldl_cons,List.foldl_cons,putOb_comm _ (fun e=>hn (by rw[e];exact List.mem_cons_self)),ih fun h=>hn (List.mem_cons_of_mem _ h)]
theorem Qjn {σ:Nm→Option Ob} {Rn:List Nm} {nm:Nm} (hn:nm ∉ Rn) (st:St) {es:List PV} (h:qbf st.objs nm=some (.map es)):qbf (qbt σ Rn st).objs nm=some (.map es):=by
 unfold qbt qhf
 simp only
 have h0:qbf (st.objs.map (·.map (Ob.sub fun m=>if Rn.contains m=true then qb5 σ m else none))) nm=some (.map es):=by rw[qde,h];rfl
 generalize st.objs.map _=objs at h0
 clear h
 have key:∀ (R:List Nm) (objs:List (List Ob)),nm ∉ R→qbf objs nm=some (.map es)→qbf (R.foldl (fun objs nm=>qb9 objs nm qd5) objs) nm=some (.map es):=by
  intro R
  induction R with
  | nil=>intro objs _ h;exact h
  | cons r R ih =>
   intro objs hn h
   rw[List.foldl_cons]
   refine ih _ (fun h=>hn (List.mem_cons_of_mem _ h)) ?_
   rw[qce _ (fun e=>hn (by rw[e];exact List.mem_cons_self))]
   exact h
 exact key Rn objs hn h0
theorem qw4 (hs:SR lp I L st a.tmps.toList suf w) (hf:Fr cx w0 I0 F0 O0 Hd R e ds I F L w) {t kt et:TypeId} {x k v:Operand} (ho:o.op=.insert t x k v∨o.op=.mapUpdate t x k v) (hu:cx.P.underlying t=some (.map kt et))
  {nm:Nm} {es es':List PV} {kp u:PV} (hx:qbr w I lp (some L) (.mp nm) (a.eval x)) (hlk:qbf st.objs nm=some (.map es)) (hk':qbr w I lp none kp (a.eval k)) (hv':qbr w I lp none u (a.eval v)) (c1:qsp (qd1 cx.P kt) kp=true) (hes:setE kp u es=some es') :
  qh8 cx w0 I0 F0 O0 Hd R e ds F lp suf o a w (apply st o.dst {v:=.undef,upd:=some (nm,.map es')}):=by
 obtain⟨d,hd,hkd⟩:=qqk c1
 obtain⟨b,C,hL,hxv⟩:=Qlx hx
 obtain⟨p,hp,ha⟩:=hs.ob nm _ hlk
 rw[hL] at hp;cases hp
 obtain⟨ents,clock,hb,hrep⟩:=ha
 have hg:(getObj b).run cx.P w=.ok (.map ents clock) w:=by simp[getObj,Sem.run,hb]
 have hwb:∀ (w':World) (ob':Obj),w'={w with heap:=w.heap.setIfInBounds b ob'}→(∀ b',b'≠b→w'.heap[b']?=w.heap[b']?)∧w'.heap[b]?=some ob'∧w'.heap.size=w.heap.size:=by
  rintro w' ob' rfl
  obtain⟨q1,q2⟩:=MapKept.heap_set (o':=ob') hb
  exact⟨q2,q1,by simp⟩
 have fin:∀ (l':Array MapEntry) (clock':Nat),qbn w I lp none es' (qqf l'.toList)→(Instr.mapUpdate t (a.eval x) (a.eval k) (a.eval v)).run cx.P w=.ok () {w with heap:=w.heap.setIfInBounds b (.map l' clock')} →
   qh8 cx w0 I0 F0 O0 Hd R e ds F lp suf o a w (apply st o.dst {v:=.undef,upd:=some (nm,.map es')}):=by
  intro l' clock' hrep' hrun
  obtain⟨q1,q2,q3⟩:=hwb _ (.map l' clock') rfl
  have hkI:∀ b',I b'→({w with heap:=w.heap.setIfInBounds b (.map l' clock')}:World).heap[b']?=w.heap[b']?:=fun b' hb'=>q1 b' fun e=>(hf.lB nm b C hL).2.2.1 (e ▸ hb')
  exact qrp hs hf hL (w':={w with heap:=w.heap.setIfInBounds b (.map l' clock')}) (v':=undef) (.inr ⟨by rcases ho with ho | ho<;>simp[execOp,ho,hrun],rfl⟩) rfl rfl rfl q3 q1
   ⟨l',clock',q2,qbn.mono (fun _ h=>h) hkI (fun _ _ h=>h) hrep'⟩ (.undef _)
 rcases setE_spec hkd hk' hv' es.length es ents.toList 0 es' (Nat.le_refl _) hrep hes with ⟨f1,f2⟩ | ⟨j,en,f1,f2,f3,f4⟩
 ·refine fin (ents.push {key:=a.eval k,val:=a.eval v,born:=clock}) (clock+1) (by simpa using f2 clock) ?_
  simp[Instr.mapUpdate,run_underlying hu,hxv,hg,Qlr (kk:=.i64) hkd hk' hd,MapKept.run_findKey hd f1,mapObj hb]
 ·refine fin (ents.modify j fun e=>{e with key:=a.eval k,val:=a.eval v}) clock (by simpa using f4) ?_
  rw[Nat.zero_add] at f1
  have hj:ents[j]?=some en:=by simpa using f2
  simp[Instr.mapUpdate,run_underlying hu,hxv,hg,Qlr (kk:=.i64) hkd hk' hd,MapKept.run_findKey hd f1,mapObj hb,hj,f3,key_stays hkd hk']
theorem Qfd (hs:SR lp I L st a.tmps.toList suf w) (hf:Fr cx w0 I0 F0 O0 Hd R e ds I F L w) {t kt et:TypeId} {x k v:Operand} (ho:o.op=.insert t x k v∨o.op=.mapUpdate t x k v) (hu:cx.P.underlying t=some (.map kt et)) {r1 r2 r3:RX}
  (h1:rx cx.G x=some r1) (h2:rx cx.G k=some r2) (h3:rx cx.G v=some r3)
  (h:exec (o.dst.getD 0) (qbf st.objs) st.tmps (.insert (qd1 cx.P kt) r1 r2 r3)=some out):qh8 cx w0 I0 F0 O0 Hd R e ds F lp suf o a w (apply st o.dst out):=by
 have hx:=qb4 hs hf.wd h1
 have hk:=qb4 hs hf.wd h2
 have hv:=qb4 hs hf.wd h3
 simp only[exec] at h
 split at h
 case h_2=>cases h
 rename_i nm hr
 rw[hr] at hx
 split at h
 case h_2=>cases h
 rename_i es hlk
 split at h
 case h_2=>cases h
 rename_i es' hes
 obtain⟨hc,h⟩:=qbh h
 cases h
 simp only[Bool.and_eq_true] at hc
 obtain⟨⟨c1,c2⟩,c3⟩:=hc
 have hkk:qbr w I lp none (r2.ev st.tmps) (a.eval k):=by
  obtain⟨d,hd,hkd⟩:=qqk c1
  exact hk.shut (KeyD.names (d:=d) hkd)
 cases hS:(r3.ev st.tmps).names.isEmpty with
 | true =>
  rw[hS] at hes
  simp only[if_true] at hes
  have:=qw4 hs hf ho hu hx hlk hkk (hv.shut (List.isEmpty_iff.1 hS)) c1 hes
  simpa[hS] using this
 | false =>
  rw[hS] at hes c3 c2
  simp only[Bool.false_eq_true,if_false,Bool.false_or,Bool.and_eq_true,Bool.not_eq_true'] at hes c3 c2
  obtain⟨hR,hn⟩:=c3
  generalize hRn:qbs (qbf st.objs) qbe (r3.ev st.tmps).names=Rn at hR hn
  have hn:nm ∉ Rn:=by
   intro h
   rw[List.contains_iff_mem.2 h] at hn
   cases hn
  have hv1:=ql9 hs hR (.cons _ _ _ _ hv .nil) (fun m hm=>by rw[←hRn];exact qcn _ _ m (by simpa[qbd] using hm))
  have hv2:qbr w (inR I L Rn) lp none ((r3.ev st.tmps).sub (qb5 (qbf st.objs))) (a.eval v):=by
   cases hv1 with
   | cons _ _ _ _ h _=>exact h
  have hx2:qbr w (inR I L Rn) lp (some (qhd L Rn)) (.mp nm) (a.eval x):=by
   obtain⟨b,C,hL,hxv⟩:=Qlx hx
   rw[hxv]
   exact .mp nm b C (by simp[qhd,hn,hL])
  have hk2:qbr w (inR I L Rn) lp none (r2.ev st.tmps) (a.eval k):=qbr.mono (fun _ hb=>.inl hb) (fun _ _=>rfl) (fun _ _ h=>h) hkk
  have:=qw4 (hs.freeze hR) (hf.freeze Rn) ho hu hx2 (Qjn hn st hlk) hk2 hv2 c1 hes
  have hne:Rn≠[]:=by
   intro e0
   cases hm:(r3.ev st.tmps).names with
   | nil=>rw[hm] at hS;simp at hS
   | cons m ms =>
    have hmem:m∈Rn:=by rw[←hRn];exact qcn qbe _ m (by rw[hm];exact List.mem_cons_self)
    rw[e0] at hmem;cases hmem
  have e1:apply st o.dst {v:=.undef,upd:=some (nm,.map es'),frz:=Rn}=apply (qbt (qbf st.objs) Rn st) o.dst {v:=.undef,upd:=some (nm,.map es')}:=by
   have hfp:=freeze_put (σ:=qbf st.objs) hn st es'
   cases Rn with
   | nil=>exact absurd rfl hne
   | cons r rs =>
    simp only[apply,List.isEmpty_cons,Bool.false_eq_true,if_false,List.isEmpty_nil,if_true]
    rw[hfp]
  simp only[Bool.false_eq_true,if_false]
  rw[e1]
  exact this
theorem op_lookup (hs:SR lp I L st a.tmps.toList suf w) (hf:Fr cx w0 I0 F0 O0 Hd R e ds I F L w) {t kt et:TypeId} {x k:Operand} {ok:Bool} (ho:o.op=.lookup t x k ok) (hu:cx.P.underlying t=some (.map kt et)) {z:PV} (hz:qkp cx.P et=some z) {r1 r2:RX}
  (h1:rx cx.G x=some r1) (h2:rx cx.G k=some r2)
  (h:exec (o.dst.getD 0) (qbf st.objs) st.tmps (.lookup (qd1 cx.P kt) z ok r1 r2)=some out):qh8 cx w0 I0 F0 O0 Hd R e ds F lp suf o a w (apply st o.dst out):=by
 have hx:=qb4 hs hf.wd h1
 have hk:=qb4 hs hf.wd h2
 obtain⟨zi,zv,hzi,hz1,hzr⟩:=qn0 hz (w:=w) (I:=I) (lp:=lp) (L:=some L)
 simp only[exec] at h
 split at h
 ·cases h
 rename_i es hes
 split at h
 ·cases h
 rename_i r hr
 obtain⟨hc,h⟩:=qbh h
 cases h
 obtain⟨d,hd,hkd⟩:=qqk hc
 have hk':=hk.shut (KeyD.names (d:=d) hkd)
 have hzrun:(zeroValue et).run cx.P w=.ok zv w:=by simp[zeroValue,typeInfo,hzi,hz1]
 obtain⟨ents,hents,hrep⟩:∃ ents:Array MapEntry,((∃ r clock,a.eval x=.map (some r)∧w.heap[r]?=some (.map ents clock))∨(a.eval x=.map none∧ents=#[]))∧qbn w I lp none es (qqf ents.toList):=by
  split at hes
  ·rename_i nm hrx
   rw[hrx] at hx
   split at hes
   case h_2=>cases hes
   rename_i es0 hlk
   cases hes
   obtain⟨b,C,hL,hxv⟩:=Qlx hx
   obtain⟨p,hp,ha⟩:=hs.ob nm _ hlk
   rw[hL] at hp;cases hp
   obtain⟨ents,clock,hb,hrep⟩:=ha
   exact⟨ents,.inl ⟨b,clock,hxv,hb⟩,hrep⟩
  ·rename_i es0 hrx
   rw[hrx] at hx
   cases hes
   obtain⟨r,ents,clock,hxv,_,hb,hrep⟩:=Qly hx
   exact⟨ents,.inl ⟨r,clock,hxv,hb⟩,hrep⟩
  ·rename_i hrx
   rw[hrx] at hx
   cases hes
   exact⟨#[],.inr ⟨Qlw hx,rfl⟩,.nil⟩
  ·cases hes
 obtain⟨v,b,hfind,hrv,hrs⟩:∃ v b,(∃ ans,Instr.findNow d (a.eval k) ents.toList 0=some ans∧((ans=none∧v=zv∧b=false)∨∃ j,ans=some (j,v)∧b=true))∧qbr w I lp (some L) (r.getD z) v∧r.isSome=b:=by
  rcases findE_spec hkd hk' es.length es ents.toList 0 r (Nat.le_refl _) hrep hr with ⟨q1,q2⟩ | ⟨j,v,x,q1,q2,q3⟩
  ·subst q1
   exact⟨zv,false,⟨_,q2,.inl ⟨rfl,rfl,rfl⟩⟩,hzr,rfl⟩
  ·subst q1
   exact⟨v,true,⟨_,q3,.inr ⟨j,rfl,rfl⟩⟩,q2.lift _,rfl⟩
 refine qbl hs hf (v':=if ok then .tuple #[v,.bool b] else v) ?_ (.refl w) ?_
 ·obtain⟨ans,f1,f2⟩:=hfind
  rcases hents with ⟨rb,clock,hxv,hb⟩ | ⟨hxv,rfl⟩
  ·have hg:(getObj rb).run cx.P w=.ok (.map ents clock) w:=by simp[getObj,Sem.run,hb]
   rcases f2 with ⟨rfl,rfl,rfl⟩ | ⟨j,rfl,rfl⟩<;>cases ok <;>
    simp[execOp,ho,Instr.lookup,run_underlying hu,hxv,hg,Qlr (kk:=.i64) hkd hk' hd,MapKept.run_findKey hd f1,hzrun]
  ·rcases f2 with ⟨rfl,rfl,rfl⟩ | ⟨j,rfl,rfl⟩<;>cases ok <;>
    simp[execOp,ho,Instr.lookup,run_underlying hu,hxv,Qlr (kk:=.i64) hkd hk' hd,MapKept.run_findKey hd (l:=[]) f1,hzrun]
 ·cases ok
  ·simpa using hrv
  ·simp only[if_true]
   exact .tup _ _ (.cons _ _ _ _ hrv (.cons _ _ _ _ (by rw[hrs];exact .bool b) .nil))
theorem op_iter (hs:SR lp I L st a.tmps.toList suf w) (hf:Fr cx w0 I0 F0 O0 Hd R e ds I F L w) {t:TypeId} {x:Operand} (ho:o.op=.range t x) (hu:cx.P.underlying t=some .string) {r:RX} (h1:rx cx.G x=some r) {d:Nat} (hd:o.dst=some d) (hcl:st.objs[d]?=some [])
  (h:exec (o.dst.getD 0) (qbf st.objs) st.tmps (.iter r)=some out):qh8 cx w0 I0 F0 O0 Hd R e ds F lp suf o a w (apply st o.dst out):=by
 have hx:=qb4 hs hf.wd h1
 simp only[exec,hd,Option.getD_some] at h
 split at h
 case h_2=>cases h
 rename_i s hr
 rw[hr] at hx
 cases h
 have:=qvm hs hf hd hcl (.refl w) (C:=0) (v:=.it (d,0)) (ob:=.siter s 0) (v':=.pointer (some ⟨w.heap.size,0,none⟩)) (obj:=.stringIter ⟨s.toArray⟩ 0) (by
  simp[execOp,ho,Instr.range,run_underlying hu,qfc hx]) (fun L' _=>qdk w _) (fun L' hL=>.it _ _ _ hL)
 simpa[hd] using this
theorem op_next (hs:SR lp I L st a.tmps.toList suf w) (hf:Fr cx w0 I0 F0 O0 Hd R e ds I F L w) {x:Operand} (ho:o.op=.next x true) {r:RX} (h1:rx cx.G x=some r)
  (h:exec (o.dst.getD 0) (qbf st.objs) st.tmps (.next r)=some out):qh8 cx w0 I0 F0 O0 Hd R e ds F lp suf o a w (apply st o.dst out):=by
 have hx:=qb4 hs hf.wd h1
 simp only[exec] at h
 split at h
 case h_2=>cases h
 rename_i nm hr
 rw[hr] at hx
 split at h
 case h_2=>cases h
 rename_i s pos hlk
 obtain⟨b,C,hL,hxv⟩:=inv_it hx
 obtain⟨p,hp,ha⟩:=hs.ob nm _ hlk
 rw[hL] at hp;cases hp
 have hb:w.heap[b]?=some (.stringIter ⟨s.toArray⟩ pos):=ha
 have hg:(getObj b).run cx.P w=.ok (.stringIter ⟨s.toArray⟩ pos) w:=by simp[getObj,Sem.run,hb]
 have hz:(⟨s.toArray⟩:ByteArray).size=s.length:=by simp[ByteArray.size]
 split at h
 ·rename_i hlt
  cases h
  have hset:∀ ob',(setObj b ob').run cx.P w=.ok () {w with heap:=w.heap.setIfInBounds b ob'}:=fun ob'=>by simp[setObj,Sem.run,hb]
  obtain⟨q1,q2⟩:=MapKept.heap_set (o':=.stringIter ⟨s.toArray⟩ (pos+(Utf8.decode ⟨s.toArray⟩ pos).2)) hb
  refine qrp hs hf hL (v':=.tuple #[.bool true,.int .i64 pos,.int .i32 (Utf8.decode ⟨s.toArray⟩ pos).1]) (w':={w with heap:=w.heap.setIfInBounds b (.stringIter ⟨s.toArray⟩ (pos+(Utf8.decode ⟨s.toArray⟩ pos).2))})
   (.inl ?_) rfl rfl rfl (by simp) q2 q1 (.tup _ _ (.cons _ _ _ _ (.bool _) (.cons _ _ _ _ (.int _ _) (.cons _ _ _ _ (.int _ _) .nil))))
  have hlt':pos < (⟨s.toArray⟩:ByteArray).size:=by rw[hz];exact hlt
  simp only[execOp,ho,hxv,Instr.next,Sem.run_bind,hg,Result.andThen_ok,if_pos hlt',hset,Sem.run_pure,goInt]
 ·rename_i hlt
  cases h
  have hlt':¬ pos < (⟨s.toArray⟩:ByteArray).size:=by rw[hz];exact hlt
  refine qbl hs hf (v':=.tuple #[.bool false]) ?_ (.refl w) (.tup _ _ (.cons _ _ _ _ (.bool _) .nil))
  simp only[execOp,ho,hxv,Instr.next,Sem.run_bind,hg,Result.andThen_ok,if_neg hlt',Sem.run_pure]
theorem op_tassert (hs:SR lp I L st a.tmps.toList suf w) (hf:Fr cx w0 I0 F0 O0 Hd R e ds I F L w) {x:Operand} {t0 t:TypeId} {ok:Bool} (ho:o.op=.typeAssert x t0 t ok) {d:TypeDesc} (hu:cx.P.underlying t=some d) (hd:∀ ms,d≠.interface ms) {z:PV} (hz:qkp cx.P t=some z)
  {r:RX} (h1:rx cx.G x=some r) (h:exec (o.dst.getD 0) (qbf st.objs) st.tmps (.tassert t z ok r)=some out):qh8 cx w0 I0 F0 O0 Hd R e ds F lp suf o a w (apply st o.dst out):=by
 have hx:=qb4 hs hf.wd h1
 obtain⟨zi,zv,hzi,hz1,hzr⟩:=qn0 hz (w:=w) (I:=I) (lp:=lp) (L:=some L)
 have hzrun:(zeroValue t).run cx.P w=.ok zv w:=by simp[zeroValue,typeInfo,hzi,hz1]
 simp only[exec] at h
 split at h
 ·rename_i u y hr
  rw[hr] at hx
  obtain⟨yv,hxv,hy⟩:=qlt hx
  split at h
  ·rename_i hut
   subst hut
   cases h
   refine qbl hs hf (v':=if ok then .tuple #[yv,.bool true] else yv) ?_ (.refl w) ?_
   ·cases d<;>first
     | exact absurd rfl (hd _)
     |(cases ok<;>simp[execOp,ho,hxv,Instr.typeAssert,run_underlying hu])
   ·cases ok
    ·simpa using hy
    ·exact .tup _ _ (.cons _ _ _ _ hy (.cons _ _ _ _ (.bool _) .nil))
  ·rename_i hut
   obtain⟨hk,h⟩:=qbh h
   subst hk
   cases h
   refine qbl hs hf (v':=.tuple #[zv,.bool false]) ?_ (.refl w) (.tup _ _ (.cons _ _ _ _ hzr (.cons _ _ _ _ (.bool _) .nil)))
   cases d<;>first
    | exact absurd rfl (hd _)
    | simp[execOp,ho,hxv,Instr.typeAssert,run_underlying hu,hut,hzrun]
 ·rename_i hr
  rw[hr] at hx
  have hxv:=qjn hx
  obtain⟨hk,h⟩:=qbh h
  subst hk
  cases h
  refine qbl hs hf (v':=.tuple #[zv,.bool false]) ?_ (.refl w) (.tup _ _ (.cons _ _ _ _ hzr (.cons _ _ _ _ (.bool _) .nil)))
  cases d<;>first
   | exact absurd rfl (hd _)
   | simp[execOp,ho,hxv,Instr.typeAssert,run_underlying hu,hzrun]
 ·cases h
end ops
end Go.Ab


namespace Go.Ab
theorem strLess_eq:∀ (x y:List UInt8),qpx x y=Op.bytesLess x y:=by
 intro x
 induction x with
 | nil=>intro y;cases y<;>rfl
 | cons a x ih=>intro y;cases y with
  | nil=>rfl
  | cons b y=>simp only[qpx,Op.bytesLess,ih]
theorem Qkj (P:Program) (t:TypeId):match qd1 P t with
  | .num=>∃ k,P.underlying t=some (.int k)
  | .str=>P.underlying t=some .string
  | .bool=>P.underlying t=some .bool
  | .iface=>∃ ms,P.underlying t=some (.interface ms)
  | .slice=>∃ e,P.underlying t=some (.slice e)
  | .map=>∃ k e,P.underlying t=some (.map k e)
  | .func=>∃ a b c,P.underlying t=some (.func a b c)
  | .ptr=>∃ e,P.underlying t=some (.pointer e)
  | .plain l=>∃ fs,P.underlying t=some (.struct fs)∧qp4 P 0 fs.toList=some l∧P.stoodInHeld t=false∧P.eqGuardType P.depth t=false
  | .other=>True:=by
 cases hu:P.underlying t with
 | none=>simp[qd1,hu]
 | some d =>
  cases d with
  | struct fs =>
   simp only[qd1,hu]
   cases hp:qp4 P 0 fs.toList with
   | none=>trivial
   | some l =>
    simp only
    by_cases hc:P.stoodInHeld t=false∧P.eqGuardType P.depth t=false
    ·rw[if_pos hc];exact⟨fs,rfl,hp,hc.1,hc.2⟩
    ·rw[if_neg hc];trivial
  | _=>simp[qd1,hu]
section eqs
variable {P:Program} {w:World} (d:Nat) {t:TypeId}
theorem eqIn_ii {ms} (hu:P.underlying t=some (.interface ms)):(Op.equalIn (d+1) t .nilIface .nilIface).run P w=.ok true w:=by simp[Op.equalIn,run_underlying hu]
theorem eqIn_iv {ms} (hu:P.underlying t=some (.interface ms)) (u:TypeId) (v:Value):(Op.equalIn (d+1) t .nilIface (.iface u v)).run P w=.ok false w:=by simp[Op.equalIn,run_underlying hu]
theorem eqIn_vi {ms} (hu:P.underlying t=some (.interface ms)) (u:TypeId) (v:Value):(Op.equalIn (d+1) t (.iface u v) .nilIface).run P w=.ok false w:=by simp[Op.equalIn,run_underlying hu]
theorem eqIn_ff {x y z} (hu:P.underlying t=some (.func x y z)):(Op.equalIn (d+1) t .nilFunc .nilFunc).run P w=.ok true w:=by simp[Op.equalIn,run_underlying hu]
theorem eqIn_fv {x y z} (hu:P.underlying t=some (.func x y z)) (f:Fn) (u v:Array Value):(Op.equalIn (d+1) t .nilFunc (.func f u v)).run P w=.ok false w:=by simp[Op.equalIn,run_underlying hu]
theorem eqIn_vf {x y z} (hu:P.underlying t=some (.func x y z)) (f:Fn) (u v:Array Value):(Op.equalIn (d+1) t (.func f u v) .nilFunc).run P w=.ok false w:=by simp[Op.equalIn,run_underlying hu]
theorem eqIn_ns {e} (hu:P.underlying t=some (.slice e)) (b:Option Addr) (n c:Nat):(Op.equalIn (d+1) t (.slice none 0 0) (.slice b n c)).run P w=.ok b.isNone w:=by simp[Op.equalIn,run_underlying hu]
theorem eqIn_sn {e} (hu:P.underlying t=some (.slice e)) (b:Addr) (n c:Nat):(Op.equalIn (d+1) t (.slice (some b) n c) (.slice none 0 0)).run P w=.ok false w:=by simp[Op.equalIn,run_underlying hu]
theorem Qka {e} (hu:P.underlying t=some (.pointer e)) (b:Option Addr):(Op.equalIn (d+1) t (.pointer none) (.pointer b)).run P w=.ok b.isNone w:=by simp[Op.equalIn,run_underlying hu]
theorem eqIn_pn {e} (hu:P.underlying t=some (.pointer e)) (b:Addr):(Op.equalIn (d+1) t (.pointer (some b)) (.pointer none)).run P w=.ok false w:=by simp[Op.equalIn,run_underlying hu]
theorem eqIn_bb (hu:P.underlying t=some .bool) (a b:Bool):(Op.equalIn (d+1) t (.bool a) (.bool b)).run P w=.ok (a==b) w:=by simp[Op.equalIn,run_underlying hu]
end eqs
theorem Qlb {P:Program} {w:World} {t:TypeId} (ha:(isAgg t).run P w=.ok false w) {xs:Array Value} {i:Nat} {v:Value} (h:xs[i]?=some v):(part t xs i).run P w=.ok v w:=by
 unfold part
 simp[ha,h]
theorem Qf9 {P:Program} {w:World} {t:TypeId} {d:TypeDesc} (hu:P.underlying t=some d) (hd:aggB d=false):(isAgg t).run P w=.ok false w:=by
 cases d<;>simp[aggB] at hd<;>simp[isAgg,run_underlying hu]
theorem Qgx {P:Program} {w w':World} {I:Nat→Prop} {lp:Nat→Option Nat} {L:Option Loc} {xv yv:Array Value} (d:Nat):∀ (fs:List Field) (i:Nat) (l:List Nat) (xs ys:List PV) (b:Bool),qp4 P i fs=some l→qmn l xs ys=some b →
  qbn w I lp L xs (xv.toList.drop i)→qbn w I lp L ys (yv.toList.drop i)→(Op.eqFields (d+1) xv yv fs).run P w'=.ok b w':=by
 intro fs
 induction fs with
 | nil =>
  intro i l xs ys b hp he _ _
  cases hp
  cases xs<;>cases ys<;>simp[qmn] at he
  subst he
  simp[Op.eqFields]
 | cons f fs ih =>
  intro i l xs ys b hp he hx hy
  unfold qp4 at hp
  split at hp
  case isFalse=>cases hp
  rename_i hf
  obtain⟨hoff,hnm⟩:=hf
  have hat:∀ {zs:List PV} {zv:Array Value} {z:PV} {zs':List PV},zs=z :: zs'→qbn w I lp L zs (zv.toList.drop i)→∃ v,zv[i]?=some v∧qbr w I lp L z v∧qbn w I lp L zs' (zv.toList.drop (i+1)):=by
   intro zs zv z zs' hz hr
   subst hz
   cases hd:zv.toList.drop i with
   | nil=>rw[hd] at hr;cases hr
   | cons v vs =>
    rw[hd] at hr
    cases hr with
    | cons _ _ _ _ h1 h2 =>
     have e1:zv.toList[i]?=some v:=by
      have:=congrArg (·[0]?) hd
      simpa using this
     refine⟨v,by simpa using e1,h1,?_⟩
     have e2:zv.toList.drop (i+1)=vs:=by
      have:=congrArg (List.drop 1) hd
      simpa using this
     rw[e2];exact h2
  have hnm':f.name ≠ "_":=hnm
  have step:∀ {v u:Value} {r:Bool} {dsc:TypeDesc},P.underlying f.type=some dsc→aggB dsc=false→xv[i]?=some v→yv[i]?=some u→(Op.equalIn (d+1) f.type v u).run P w'=.ok r w' →
    (Op.eqFields (d+1) xv yv (f :: fs)).run P w'=if r=true then (Op.eqFields (d+1) xv yv fs).run P w' else .ok false w':=by
   intro v u r dsc hu hd h1 h2 h3
   simp only[Op.eqFields,hnm',ne_eq,not_false_eq_true,if_true,Sem.run_bind,hoff,Qlb (Qf9 hu hd) h1,Qlb (Qf9 hu hd) h2,h3,Result.andThen_ok]
   cases r<;>simp
  cases hu:P.underlying f.type with
  | none=>simp[hu] at hp
  | some dsc =>
   cases hq:qp4 P (i+1) fs with
   | none=>cases dsc<;>simp[hu,hq] at hp
   | some l' =>
    cases dsc<;>simp[hu,hq] at hp
    all_goals subst hp
    all_goals cases xs with
     | nil=>simp[qmn] at he
     | cons x xs=>?_
    all_goals cases ys with
     | nil=>cases x<;>simp[qmn] at he
     | cons y ys=>?_
    all_goals cases x<;>cases y<;>simp only[qmn,reduceCtorEq] at he
    all_goals obtain⟨v,hv,hvr,hx'⟩:=hat rfl hx
    all_goals obtain⟨u,hu',hur,hy'⟩:=hat rfl hy
    ·rw[qd4 hvr] at hv;rw[qd4 hur] at hu'
     rw[step hu rfl hv hu' (eqIn_bb d hu _ _)]
     split at he
     ·rename_i hq2;rw[if_pos hq2];exact ih _ _ _ _ _ hq he hx' hy'
     ·rename_i hq2;cases he;rw[if_neg (by rw[hq2];simp)]
    ·obtain⟨hk,he2⟩:=qbh he
     clear he
     rw[qd8 hvr] at hv;rw[qd8 hur] at hu'
     have hk':=eq_of_beq hk
     subst hk'
     rw[step hu rfl hv hu' (run_equalIn_int w' d _ _ _ _ _ hu)]
     split at he2
     ·rename_i hq2;rw[if_pos hq2];exact ih _ _ _ _ _ hq he2 hx' hy'
     ·rename_i hq2;cases he2;rw[if_neg (by rw[hq2];simp)]
    ·rw[qfc hvr] at hv;rw[qfc hur] at hu'
     rw[step hu rfl hv hu' (run_equalIn_string w' d _ _ _ hu)]
     simp only[ByteArray.toList_eq] at he ⊢
     split at he
     ·rename_i hq2;rw[if_pos (by simpa using hq2)];exact ih _ _ _ _ _ hq he hx' hy'
     ·rename_i hq2;cases he;rw[if_neg (by simpa using hq2)]
section ops
variable {E:Type} {cx:Cx} {w0:World} {I0 F0:Nat→Prop} {O0:Own} {Hd:Nat→Option Obj} {R:qkj E} {e:E} {ds:List Deferred} {F:Nat→Prop} {lp:Nat→Option Nat} {suf:List Value}
variable {I:Nat→Prop} {L:Loc} {st:St} {a:Act} {w:World} {o:Oper} {out:Out} {rop:ROp}
theorem isC_inv {x:Operand} (h:isC x=true):∃ v,x=.const v:=by
 cases x<;>simp[isC] at h
 exact⟨_,rfl⟩
theorem eq_spec {P:Program} {w w':World} {I:Nat→Prop} {lp:Nat→Option Nat} {L:Loc} {t:TypeId} {X Y:Operand} {x y:PV} {xv yv:Value} (hx:qbr w I lp (some L) x xv) (hy:qbr w I lp (some L) y yv) {b:Bool} {cst:Bool}
  (hc:cst=true→(isC X||isC Y)=true) (h:Qgw (qd1 P t) cst x y=some b) (op:BinOp) :
  (Op.equal t xv yv).run P w'=.ok b w'∧(eqGuard op t X Y xv yv).run P w'=.ok () w'∧binOp .eql t xv yv=(do pure (.bool (←Op.equal t xv yv)))∧binOp .neq t xv yv=(do pure (.bool (!(←Op.equal t xv yv)))):=by
 have hu:=Qkj P t
 generalize hcl:qd1 P t=c at h hu
 unfold Qgw at h
 split at h
 all_goals first
  | contradiction
  | skip
 ·obtain⟨ms,hu⟩:=hu
  obtain⟨hcs,h⟩:=qbh h
  cases h
  rw[qjn hx,qjn hy]
  refine⟨?_,?_,by simp[binOp],by simp[binOp]⟩
  ·exact eqIn_ii 9999 hu
  ·rcases Bool.or_eq_true_iff.1 (hc hcs) with h | h
   ·obtain⟨v,rfl⟩:=isC_inv h
    rw[eqGuard_nil_constL];rfl
   ·obtain⟨v,rfl⟩:=isC_inv h
    rw[eqGuard_nil_constR];rfl
 ·obtain⟨ms,hu⟩:=hu
  cases h
  obtain⟨yv',rfl,_⟩:=qlt hy
  rw[qjn hx]
  refine⟨?_,by rw[eqGuard_nil_iface];rfl,by simp[binOp],by simp[binOp]⟩
  exact eqIn_iv 9999 hu _ _
 ·obtain⟨ms,hu⟩:=hu
  cases h
  obtain⟨xv',rfl,_⟩:=qlt hx
  rw[qjn hy]
  refine⟨?_,by rw[eqGuard_at_iface];rfl,by simp[binOp],by simp[binOp]⟩
  exact eqIn_vi 9999 hu _ _
 ·obtain⟨ms,hu⟩:=hu
  cases h
  obtain⟨yv',rfl,_⟩:=Qlz hy
  rw[qjn hx]
  refine⟨?_,by rw[eqGuard_nil_iface];rfl,by simp[binOp],by simp[binOp]⟩
  exact eqIn_iv 9999 hu _ _
 ·obtain⟨ms,hu⟩:=hu
  cases h
  obtain⟨xv',rfl,_⟩:=Qlz hx
  rw[qjn hy]
  refine⟨?_,by rw[eqGuard_at_iface];rfl,by simp[binOp],by simp[binOp]⟩
  exact eqIn_vi 9999 hu _ _
 ·obtain⟨_,_,_,hu⟩:=hu
  cases h
  rw[qvi hx,qvi hy]
  refine⟨?_,by rw[eqGuard_at_nilFunc];rfl,by simp[binOp],by simp[binOp]⟩
  exact eqIn_ff 9999 hu
 ·obtain⟨_,_,_,hu⟩:=hu
  cases h
  obtain⟨us,vs,rfl,_,_⟩:=qtt hy
  rw[qvi hx]
  refine⟨?_,by rw[eqGuard_at_nilFunc];rfl,by simp[binOp],by simp[binOp]⟩
  exact eqIn_fv 9999 hu _ _ _
 ·obtain⟨_,_,_,hu⟩:=hu
  cases h
  obtain⟨us,vs,rfl,_,_⟩:=qtt hx
  rw[qvi hy]
  refine⟨?_,by rw[eqGuard_at_func];rfl,by simp[binOp],by simp[binOp]⟩
  exact eqIn_vf 9999 hu _ _ _
 ·obtain⟨_,hu⟩:=hu
  cases h
  rw[qf3 hx,qf3 hy]
  refine⟨?_,by rw[eqGuard_at_slice];rfl,by simp[binOp],by simp[binOp]⟩
  exact eqIn_ns 9999 hu _ _ _
 ·obtain⟨_,hu⟩:=hu
  cases h
  rw[qf3 hx]
  rcases qrb hy with ⟨b,off,cap,c,E',fr,rfl,_⟩ | ⟨hn,_⟩
  ·refine⟨?_,by rw[eqGuard_at_slice];rfl,by simp[binOp],by simp[binOp]⟩
   exact eqIn_ns 9999 hu _ _ _
  ·simp at hn
 ·obtain⟨_,hu⟩:=hu
  cases h
  rw[qf3 hy]
  rcases qrb hx with ⟨b,off,cap,c,E',fr,rfl,_⟩ | ⟨hn,_⟩
  ·refine⟨?_,by rw[eqGuard_at_slice];rfl,by simp[binOp],by simp[binOp]⟩
   exact eqIn_sn 9999 hu _ _ _
  ·simp at hn
 ·obtain⟨_,hu⟩:=hu
  cases h
  rw[qmi hx,qmi hy]
  refine⟨?_,by rw[eqGuard_at_pointer];rfl,by simp[binOp],by simp[binOp]⟩
  exact Qka 9999 hu _
 ·obtain⟨_,hu⟩:=hu
  cases h
  obtain⟨b,C,hL,rfl⟩:=qge hy
  rw[qmi hx]
  refine⟨?_,by rw[eqGuard_at_pointer];rfl,by simp[binOp],by simp[binOp]⟩
  exact Qka 9999 hu _
 ·obtain⟨_,hu⟩:=hu
  cases h
  obtain⟨b,off0,c,E',fr,rfl,_⟩:=qsr hy
  rw[qmi hx]
  refine⟨?_,by rw[eqGuard_at_pointer];rfl,by simp[binOp],by simp[binOp]⟩
  exact Qka 9999 hu _
 ·obtain⟨_,hu⟩:=hu
  cases h
  obtain⟨b,C,hL,rfl⟩:=qge hx
  rw[qmi hy]
  refine⟨?_,by rw[eqGuard_at_pointer];rfl,by simp[binOp],by simp[binOp]⟩
  exact eqIn_pn 9999 hu _
 ·obtain⟨_,hu⟩:=hu
  cases h
  obtain⟨b,off0,c,E',fr,rfl,_⟩:=qsr hx
  rw[qmi hy]
  refine⟨?_,by rw[eqGuard_at_pointer];rfl,by simp[binOp],by simp[binOp]⟩
  exact eqIn_pn 9999 hu _
 ·cases h
  rw[qd4 hx,qd4 hy]
  refine⟨?_,by rw[eqGuard_at_bool];rfl,by simp[binOp],by simp[binOp]⟩
  exact eqIn_bb 9999 hu _ _
 ·obtain⟨fs,hu,hp,hst,hgt⟩:=hu
  obtain⟨us,rfl,_,hxr⟩:=Qcv hx
  obtain⟨vs,rfl,_,hyr⟩:=Qcv hy
  refine⟨?_,run_eqGuard_agg w' op t X Y us vs hgt,by simp[binOp],by simp[binOp]⟩
  have hfs:P.fieldsOf t=fs:=by simp[Program.fieldsOf,hu]
  show (Op.equalIn (9999+1) t (.agg us) (.agg vs)).run P w'=_
  rw[run_equalIn_struct w' 9999 t us vs (by rw[hfs];exact hu) hst,hfs]
  exact Qgx 9998 fs.toList 0 _ _ _ b hp h (by simpa using hxr) (by simpa using hyr)
theorem binInt_run {P:Program} {w:World} {op:BinOp} {k:IntKind} {x y:Int} {t:TypeId} {v:PV} (hop:op≠.shl∧op≠.shr) (h:qk0 op k x y=some v) :
  ∃ u,(binOp op t (.int k x) (.int k y)).run P w=.ok u w∧∀ (w:World) (I:Nat→Prop) (lp:Nat→Option Nat) (L:Option Loc),qbr w I lp L v u:=by
 have ari:∀ op,(op=.add∨op=.sub∨op=.mul)→binOp op t (.int k x) (.int k y)=Op.intArith op k x y:=by
  rintro op (rfl | rfl | rfl)<;>simp[binOp]
 have bits:∀ op,(op=.and∨op=.or∨op=.xor∨op=.andNot)→binOp op t (.int k x) (.int k y)=Op.intBits op k x y:=by
  rintro op (rfl | rfl | rfl | rfl)<;>simp[binOp]
 have cmp:∀ op,(op=.eql∨op=.neq∨op=.lss∨op=.leq∨op=.gtr∨op=.geq)→binOp op t (.int k x) (.int k y)=Op.intCmp op x y:=by
  rintro op (rfl | rfl | rfl | rfl | rfl | rfl)<;>simp[binOp]
 cases op<;>simp only[qk0,qt3,Option.map_some,Option.map_none] at h
 case quo =>
  obtain⟨hk,h⟩:=qbh h
  cases h
  have:¬ y=0:=by simpa using hk
  exact⟨_,by simp[binOp,Op.intDiv,this],fun _ _ _ _=>.int _ _⟩
 case rem =>
  obtain⟨hk,h⟩:=qbh h
  cases h
  have:¬ y=0:=by simpa using hk
  exact⟨_,by simp[binOp,Op.intDiv,this],fun _ _ _ _=>.int _ _⟩
 case shl=>exact absurd rfl hop.1
 case shr=>exact absurd rfl hop.2
 case add=>cases h;rw[ari _ (by simp)];exact⟨_,rfl,fun _ _ _ _=>.int _ _⟩
 case sub=>cases h;rw[ari _ (by simp)];exact⟨_,rfl,fun _ _ _ _=>.int _ _⟩
 case mul=>cases h;rw[ari _ (by simp)];exact⟨_,rfl,fun _ _ _ _=>.int _ _⟩
 case and=>cases h;rw[bits _ (by simp)];exact⟨_,rfl,fun _ _ _ _=>.int _ _⟩
 case or=>cases h;rw[bits _ (by simp)];exact⟨_,rfl,fun _ _ _ _=>.int _ _⟩
 case xor=>cases h;rw[bits _ (by simp)];exact⟨_,rfl,fun _ _ _ _=>.int _ _⟩
 case andNot=>cases h;rw[bits _ (by simp)];exact⟨_,rfl,fun _ _ _ _=>.int _ _⟩
 case eql=>cases h;rw[cmp _ (by simp)];exact⟨_,rfl,fun _ _ _ _=>.bool _⟩
 case neq=>cases h;rw[cmp _ (by simp)];exact⟨_,rfl,fun _ _ _ _=>.bool _⟩
 case lss=>cases h;rw[cmp _ (by simp)];exact⟨_,rfl,fun _ _ _ _=>.bool _⟩
 case leq=>cases h;rw[cmp _ (by simp)];exact⟨_,rfl,fun _ _ _ _=>.bool _⟩
 case gtr=>cases h;rw[cmp _ (by simp)];exact⟨_,rfl,fun _ _ _ _=>.bool _⟩
 case geq=>cases h;rw[cmp _ (by simp)];exact⟨_,rfl,fun _ _ _ _=>.bool _⟩
theorem binStr_run {P:Program} {w:World} {op:BinOp} {x y:List UInt8} {t:TypeId} {v:PV} (h:qx2 op x y=some v) :
  ∃ u,(binOp op t (.string ⟨x.toArray⟩) (.string ⟨y.toArray⟩)).run P w=.ok u w∧∀ (w:World) (I:Nat→Prop) (lp:Nat→Option Nat) (L:Option Loc),qbr w I lp L v u:=by
 have hb:∀ op,binOp op t (.string ⟨x.toArray⟩) (.string ⟨y.toArray⟩)=Op.stringOp op ⟨x.toArray⟩ ⟨y.toArray⟩:=fun op=>by cases op<;>simp[binOp]
 rw[hb]
 cases op<;>simp only[qx2] at h
 case add =>
  obtain⟨hk,h⟩:=qbh h
  cases h
  have hk:=of_decide_eq_true hk
  unfold maxInt at hk
  refine⟨.string ⟨(x++y).toArray⟩,?_,fun _ _ _ _=>.str _⟩
  rw[run_string_add_sum (P:=P) (w:=w) ⟨x.toArray⟩ ⟨y.toArray⟩ (by simpa[ByteArray.size] using hk),ByteArray.mk_append_mk]
 all_goals first
  |(cases h;exact⟨_,by simp only[Op.stringOp,ByteArray.toList_mk,strLess_eq];rfl,fun _ _ _ _=>.bool _⟩)
  |(simp at h)
theorem op_bin (hs:SR lp I L st a.tmps.toList suf w) (hf:Fr cx w0 I0 F0 O0 Hd R e ds I F L w) {op:BinOp} {t:TypeId} {x y:Operand} {fl:TypeId} (ho:o.op=.binOp op t x y fl) {r1 r2:RX} (h1:rx cx.G x=some r1) (h2:rx cx.G y=some r2)
  (h:exec (o.dst.getD 0) (qbf st.objs) st.tmps (.bin op (qd1 cx.P t) (isC x||isC y) r1 r2)=some out):qh8 cx w0 I0 F0 O0 Hd R e ds F lp suf o a w (apply st o.dst out):=by
 have hx:=qb4 hs hf.wd h1
 have hy:=qb4 hs hf.wd h2
 simp only[exec] at h
 obtain⟨v,hv,rfl⟩:=Option.map_eq_some_iff.1 h
 suffices hsuf:∃ u,(do eqGuard op t x y (a.eval x) (a.eval y);binOp op t (a.eval x) (a.eval y):Sem Value).run cx.P w=.ok u w∧qbr w I lp (some L) v u by
  obtain⟨u,g1,g2⟩:=hsuf
  refine qbl hs hf (v':=u) ?_ (.refl w) g2
  simp only[execOp,ho]
  rw[Sem.run_bind,g1];rfl
 unfold qmu at hv
 split at hv
 ·rename_i k n k' m hr1 hr2
  rw[hr1] at hx
  rw[hr2] at hy
  rw[qd8 hx,qd8 hy,eqGuard_at_int]
  split at hv
  ·obtain⟨hk,hv2⟩:=qbh hv
   cases hv2
   have hk:=of_decide_eq_true hk
   refine⟨_,?_,.int _ _⟩
   simp[binOp,Op.shift,show ¬ m < 0 by omega]
  ·obtain⟨hk,hv2⟩:=qbh hv
   cases hv2
   have hk:=of_decide_eq_true hk
   refine⟨_,?_,.int _ _⟩
   simp[binOp,Op.shift,show ¬ m < 0 by omega]
  ·rename_i n1 n2
   obtain⟨hk,hv2⟩:=qbh hv
   have hk:=beq_iff_eq.1 hk
   subst hk
   obtain⟨u,g1,g2⟩:=binInt_run (P:=cx.P) (w:=w) (t:=t) ⟨fun e=>n1 e,fun e=>n2 e⟩ hv2
   exact⟨u,by simpa using g1,g2 _ _ _ _⟩
 ·rename_i s1 s2 hr1 hr2
  rw[hr1] at hx
  rw[hr2] at hy
  rw[qfc hx,qfc hy,eqGuard_at_string]
  obtain⟨u,g1,g2⟩:=binStr_run (P:=cx.P) (w:=w) (t:=t) hv
  exact⟨u,by simpa using g1,g2 _ _ _ _⟩
 ·split at hv
  ·obtain⟨b,hb,rfl⟩:=Option.map_eq_some_iff.1 hv
   obtain⟨g1,g2,g3,_⟩:=eq_spec (w':=w) (X:=x) (Y:=y) hx hy (fun h=>h) hb .eql
   exact⟨.bool b,by simp[g2,g3,g1],.bool b⟩
  ·obtain⟨b,hb,rfl⟩:=Option.map_eq_some_iff.1 hv
   obtain⟨g1,g2,_,g3⟩:=eq_spec (w':=w) (X:=x) (Y:=y) hx hy (fun h=>h) hb .neq
   exact⟨.bool (!b),by simp[g2,g3,g1],.bool _⟩
  ·cases hv
end ops
end Go.Ab


namespace Go.Ab
theorem rxs_two {G:qmx} {xs:List Operand} {r1 r2:RX} (h:rxs G xs=some [r1,r2]):∃ x y,xs=[x,y]∧rx G x=some r1∧rx G y=some r2:=by
 match xs,h with
 | [],h=>simp[rxs] at h
 | [x],h=>simp only[rxs] at h;split at h<;>simp_all
 | [x,y],h =>
  simp only[rxs] at h
  split at h
  ·rename_i a b h1 h2
   split at h2
   ·rename_i a' b' h3 h4
    cases h4
    cases h2
    cases h
    exact⟨x,y,rfl,h1,h3⟩
   ·cases h2
  ·cases h
 | x :: y :: z :: zs,h =>
  simp only[rxs] at h
  split at h
  ·rename_i a b h1 h2
   split at h2
   ·rename_i a' b' h3 h4
    split at h4
    ·cases h4;cases h2;cases h
    ·cases h4
   ·cases h2
  ·cases h
theorem rxs_one {G:qmx} {xs:List Operand} {r1:RX} (h:rxs G xs=some [r1]):∃ x,xs=[x]∧rx G x=some r1:=by
 match xs,h with
 | [],h=>simp[rxs] at h
 | [x],h=>simp only[rxs] at h;split at h<;>simp_all
 | x :: y :: zs,h =>
  simp only[rxs] at h
  split at h
  ·rename_i a b h1 h2
   split at h2
   ·cases h2;cases h
   ·cases h2
  ·cases h
theorem qsa {α:Type} {xs:Array α} {l:List α} (h:xs.toList=l):xs=l.toArray:=by rw[←h,Array.toArray_toList]
section ops
variable {E:Type} {cx:Cx} {w0:World} {I0 F0:Nat→Prop} {O0:Own} {Hd:Nat→Option Obj} {R:qkj E} {e:E} {ds:List Deferred} {F:Nat→Prop} {lp:Nat→Option Nat} {suf:List Value}
variable {I:Nat→Prop} {L:Loc} {st:St} {a:Act} {w:World} {o:Oper} {out:Out} {rop:ROp}
theorem exec_done (hs:SR lp I L st a.tmps.toList suf w) (hf:Fr cx w0 I0 F0 O0 Hd R e ds I F L w) (hc:qct cx.P cx.G o=some rop) (hm:qlj rop=true→∃ d,o.dst=some d∧st.objs[d]?=some [])
  (hn:qg1 rop=false) (h:exec (o.dst.getD 0) (qbf st.objs) st.tmps rop=some out):qh8 cx w0 I0 F0 O0 Hd R e ds F lp suf o a w (apply st o.dst out):=by
 cases ho:o.op with
 | move x =>
  simp only[qct,ho,Option.map_eq_some_iff] at hc
  obtain⟨r,hr,rfl⟩:=hc
  cases h
  exact op_mov hs hf (.inl ho) hr
 | assign x =>
  simp only[qct,ho,Option.map_eq_some_iff] at hc
  obtain⟨r,hr,rfl⟩:=hc
  cases h
  exact op_mov hs hf (.inr ho) hr
 | pick c x y =>
  simp only[qct,ho] at hc
  split at hc
  ·rename_i c' x' y' h1 h2 h3;cases hc
   exact op_pick hs hf ho h1 h2 h3 h
  ·cases hc
 | alloc t =>
  simp only[qct,ho] at hc
  split at hc
  ·rename_i z hz;cases hc
   obtain⟨d,hd,hcl⟩:=hm rfl
   simp only[exec,hd,Option.getD_some] at h
   cases h
   have:=op_alloc hs hf ho hz hd hcl
   simpa[hd] using this
  ·cases hc
 | box t x =>
  simp only[qct,ho,Option.map_eq_some_iff] at hc
  obtain⟨r,hr,rfl⟩:=hc
  obtain⟨d,hd,hcl⟩:=hm rfl
  exact op_box hs hf ho hr hd hcl h
 | build t ps =>
  simp only[qct,ho] at hc
  split at hc
  ·rename_i fs z hu hz
   split at hc
   ·rename_i rs hrs
    split at hc
    ·rename_i hfs;cases hc
     exact op_build hs hf ho hu hz hfs hrs h
    ·cases hc
   ·cases hc
  ·cases hc
 | buildSlice t len ps =>
  simp only[qct,ho] at hc
  split at hc
  ·rename_i k by_ z rs he hrs
   split at hc
   ·rename_i hl;cases hc
    obtain⟨d,hd,hcl⟩:=hm rfl
    exact op_mkSl hs hf ho he hrs hl.1 hl.2 hd hcl h
   ·cases hc
  ·cases hc
 | load t x =>
  simp only[qct,ho] at hc
  split at hc
  ·rename_i n ag r hsh hr;cases hc
   exact op_load hs hf ho hsh hr h
  ·cases hc
 | store t x y =>
  simp only[qct,ho] at hc
  split at hc
  ·rename_i n ag r s hsh hr hs';cases hc
   exact op_store hs hf ho hsh hr hs' h
  ·cases hc
 | nilCheck x =>
  simp only[qct,ho,Option.map_eq_some_iff] at hc
  obtain⟨r,hr,rfl⟩:=hc
  exact op_nilck hs hf ho hr h
 | binOp op t x y yt =>
  simp only[qct,ho] at hc
  split at hc
  ·rename_i r s hr hs';cases hc
   exact op_bin hs hf ho hr hs' h
  ·cases hc
 | unOp op t x =>
  simp only[qct,ho,Option.map_eq_some_iff] at hc
  obtain⟨r,hr,rfl⟩:=hc
  exact op_un hs hf ho hr h
 | convert src dst x =>
  simp only[qct,ho] at hc
  split at hc
  ·rename_i k0 k r hu1 hu2 hr;cases hc
   exact op_conv hs hf ho hr hu1 hu2 h
  ·rename_i k0 r hu1 hu2 hr;cases hc
   exact op_ofRune hs hf ho hr hu1 hu2 h
  ·rename_i r hu1 hu2 hr;cases hc
   exact op_strId hs hf ho hr hu1 hu2 h
  ·rename_i el r hu1 hu2 hr
   split at hc
   ·rename_i hu3;cases hc
    exact op_toBytes hs hf ho hr hu1 hu2 hu3 h
   ·cases hc
  ·rename_i el r hu1 hu2 hr
   split at hc
   ·rename_i hu3;cases hc
    exact op_ofBytes hs hf ho hr hu1 hu2 hu3 h
   ·cases hc
  ·cases hc
 | makeInterface t x =>
  simp only[qct,ho] at hc
  split at hc
  ·cases hc
  ·rename_i d hnd hu
   obtain⟨r,hr,rfl⟩:=Option.map_eq_some_iff.1 hc
   cases h
   exact op_mkI hs hf ho hr hu fun ms e=>hnd ms e
  ·cases hc
 | makeFunc fn first cap =>
  cases fn with
  | func f =>
   simp only[qct,ho] at hc
   split at hc
   ·rename_i hfi
    obtain⟨rs,hrs,rfl⟩:=Option.map_eq_some_iff.1 hc
    cases h
    exact op_mkF hs hf ho (fnNum_k hfi _) (fnNum_id hfi _) hrs
   ·cases hc
  | _=>simp[qct,ho] at hc
 | makeMap t r =>
  simp only[qct,ho] at hc
  cases r with
  | none =>
   simp only[Option.some.injEq] at hc
   subst hc
   obtain⟨d,hd,hcl⟩:=hm rfl
   simp only[exec,hd,Option.getD_some] at h
   cases h
   have:=op_mkMap hs hf ho hd hcl
   simpa[hd] using this
  | some r=>simp at hc
 | insert t m k v =>
  simp only[qct,ho] at hc
  split at hc
  ·rename_i kt et m' k' v' hu h1 h2 h3
   split at hc
   ·cases hc;exact Qfd hs hf (.inl ho) hu h1 h2 h3 h
   ·cases hc
  ·cases hc
 | mapUpdate t m k v =>
  simp only[qct,ho] at hc
  split at hc
  ·rename_i kt et m' k' v' hu h1 h2 h3
   split at hc
   ·cases hc;exact Qfd hs hf (.inr ho) hu h1 h2 h3 h
   ·cases hc
  ·cases hc
 | lookup t m k ok =>
  simp only[qct,ho] at hc
  split at hc
  ·rename_i kt et hu
   split at hc
   ·rename_i z m' k' hz h1 h2
    split at hc
    ·cases hc;exact op_lookup hs hf ho hu hz h1 h2 h
    ·cases hc
   ·cases hc
  ·cases hc
 | makeSlice t l c =>
  simp only[qct,ho] at hc
  split at hc
  ·rename_i k by_ z l' c' he h1 h2;cases hc
   obtain⟨d,hd,hcl⟩:=hm rfl
   exact op_mkS hs hf ho he h1 h2 hd hcl h
  ·cases hc
 | slice t x lo hi mx =>
  simp only[qct,ho] at hc
  split at hc
  ·rename_i x' lo' hi' mx' h1 h2 h3 h4
   split at hc
   ·rename_i hu
    split at hc
    ·rename_i hmx;cases hc
     have:mx=none:=by
      cases mx with
      | none=>rfl
      | some m =>
       simp only[rxO,Option.map_eq_some_iff] at h4
       obtain⟨y,_,rfl⟩:=h4
       simp at hmx
     subst this
     exact Qjf hs hf ho hu h1 h2 h3 h
    ·cases hc
   ·rename_i el hu
    split at hc
    ·rename_i k by_ z he;cases hc
     exact op_slice hs hf ho he h1 h2 h3 h4 h
    ·cases hc
   ·cases hc
  ·cases hc
 | fieldAddr t x f =>
  simp only[qct,ho] at hc
  split at hc
  ·rename_i fs x' hu h1
   split at hc
   ·rename_i fd hfd
    split at hc
    ·rename_i i hi
     split at hc
     ·cases hc
     ·rename_i hz;cases hc
      exact Qfe hs hf ho hu hfd hi hz h1 h
    ·cases hc
   ·cases hc
  ·cases hc
 | field t x f =>
  simp only[qct,ho] at hc
  split at hc
  ·rename_i fs x' hu h1
   split at hc
   ·rename_i fd hfd
    split at hc
    ·rename_i n ag hsh;cases hc
     exact op_field hs hf ho hu hfd hsh h1 h
    ·cases hc
   ·cases hc
  ·cases hc
 | indexAddr t x i =>
  simp only[qct,ho] at hc
  split at hc
  ·rename_i el x' i' hu h1 h2
   split at hc
   ·rename_i k by_ z he;cases hc
    exact op_idxAddr hs hf ho he h1 h2 h
   ·cases hc
  ·rename_i n el x' i' hu h1 h2
   split at hc
   ·rename_i inf hi;cases hc
    exact Qjg hs hf ho hu hi h1 h2 h
   ·cases hc
  ·cases hc
 | index t x i =>
  simp only[qct,ho] at hc
  split at hc
  ·rename_i x' i' hu h1 h2;cases hc
   exact op_strIdx hs hf ho hu h1 h2 h
  ·cases hc
 | extract x j =>
  simp only[qct,ho,Option.map_eq_some_iff] at hc
  obtain⟨r,hr,rfl⟩:=hc
  exact op_extract hs hf ho hr h
 | range t x =>
  simp only[qct,ho] at hc
  split at hc
  ·rename_i x' hu h1;cases hc
   obtain⟨d,hd,hcl⟩:=hm rfl
   exact op_iter hs hf ho hu h1 hd hcl h
  ·cases hc
 | next x b =>
  cases b with
  | false=>simp[qct,ho] at hc
  | true =>
   simp only[qct,ho,Option.map_eq_some_iff] at hc
   obtain⟨r,hr,rfl⟩:=hc
   exact op_next hs hf ho hr h
 | typeAssert x t0 t ok =>
  simp only[qct,ho] at hc
  split at hc
  ·cases hc
  ·rename_i d hnd hu
   split at hc
   ·rename_i z x' hz h1;cases hc
    exact op_tassert hs hf ho hu (fun ms e=>hnd ms e) hz h1 h
   ·cases hc
  ·cases hc
 | call c =>
  simp only[qct,ho] at hc
  split at hc
  ·cases hc
  ·rename_i as has
   split at hc
   ·rename_i f hcal
    obtain⟨f',_,rfl⟩:=Option.map_eq_some_iff.1 hc
    simp[qg1] at hn
   ·rename_i hcal
    split at hc
    ·rename_i t x hat
     obtain⟨x0,hx0,hr⟩:=rxs_one has
     have harg:=qsa hx0
     split at hc
     ·rename_i hu;cases hc;exact op_len hs hf ho hcal hat harg hu (.inl ⟨rfl,rfl⟩) hr h
     ·rename_i el hu;cases hc;exact op_len hs hf ho hcal hat harg hu (.inr (.inl ⟨_,rfl,rfl⟩)) hr h
     ·rename_i k el hu;cases hc;exact op_len hs hf ho hcal hat harg hu (.inr (.inr ⟨_,_,rfl,rfl⟩)) hr h
     ·cases hc
    ·cases hc
   ·rename_i hcal
    split at hc
    ·rename_i t u s x hat hau
     obtain⟨x0,y0,hx0,hr1,hr2⟩:=rxs_two has
     have harg:=qsa hx0
     split at hc
     ·rename_i k by_ z e' el he hu hu2;cases hc
      obtain⟨d,hd,hcl⟩:=hm rfl
      exact Qff hs hf ho hcal hat hau harg he hu2 hu (.inr ⟨_,rfl⟩) hr1 hr2 hd hcl h
     ·rename_i k by_ z el he hu hu2;cases hc
      obtain⟨d,hd,hcl⟩:=hm rfl
      exact Qff hs hf ho hcal hat hau harg he hu2 hu (.inl rfl) hr1 hr2 hd hcl h
     ·cases hc
    ·cases hc
   ·rename_i hcal
    split at hc
    ·rename_i t d s hat
     obtain⟨x0,y0,hx0,hr1,hr2⟩:=rxs_two has
     have harg:=qsa hx0
     split at hc
     ·rename_i k by_ z he;cases hc
      exact op_copy hs hf ho hcal hat harg he hr1 hr2 h
     ·cases hc
    ·cases hc
   ·rename_i hcal;cases hc
    exact Qfc hs hf ho (mx:=false) hcal has h
   ·rename_i hcal;cases hc
    exact Qfc hs hf ho (mx:=true) hcal has h
   ·cases hc
 | _=>simp[qct,ho] at hc
end ops
end Go.Ab


namespace Go.Ab
def fen (ro:Option Nat):Fence:={fn:=fun _=>True,depth:=none,alive:=false,round:=ro}
theorem qql {ro:Option Nat} {n:Nat} {P:Program} {f:FuncId} {args:Array Value} {w:World} {R:Ending→World→Prop} (h:CallsIn Fence.wide n P f args w R):CallsIn (fen ro) n P f args w R:=h
theorem Qh5 {ro:Option Nat} {n:Nat} {P:Program} {l:Nat} {f:FuncId} {tmps:Array Value} {assign body:Code} {w:World} {R:Ending→World→Prop} (h:RoundIn Fence.wide n P l f tmps assign body w R) :
  RoundIn (fen ro) n P l f tmps assign body w R:=h
section yl
variable {w w':World} {I I':Nat→Prop} {lp lp':Nat→Option Nat}
mutual
theorem qbr.noY {L:Option Loc} {x:PV} {v:Value}:qbr w I lp L x v→x.hasY=false→qbr w I lp' L x v
 | .undef v,_=>.undef v
 | .bool b,_=>.bool b
 | .int k n,_=>.int k n
 | .str s,_=>.str s
 | .nilS,_=>.nilS
 | .nilP,_=>.nilP
 | .nilF,_=>.nilF
 | .nilI,_=>.nilI
 | .nilM,_=>.nilM
 | .slE k full a cap hf,_=>.slE k full a cap hf
 | .sl k xs full b off cap c E fr h1 h2 h3 h4 h5 h6 h8 h7,e=>.sl k xs full b off cap c E fr h1 h2 h3 h4 h5 h6 h8 (qbn.noY h7 (qj2 xs (by simpa[PV.hasY] using e)))
 | .ptr cs o b off c E fr h1 h2 h3 h4 h8 h5,e=>.ptr cs o b off c E fr h1 h2 h3 h4 h8 (h5.noY (by simpa[PV.hasY] using e))
 | .agg cs vs h1 h,e=>.agg cs vs h1 (h.noY (by simpa[PV.hasY] using e))
 | .iface t x v h,e=>.iface t x v (h.noY (by simpa[PV.hasY] using e))
 | .fn f cs us vs hk h,e=>.fn f cs us vs hk (h.noY (by simpa[PV.hasY] using e))
 | .yld d l h,e=>by simp[PV.hasY] at e
 | .tup xs vs h,e=>.tup xs vs (h.noY (by simpa[PV.hasY] using e))
 | .imap es r ents clock h1 h2 h3,e=>.imap es r ents clock h1 h2 (h3.noY (by simpa[PV.hasY] using e))
 | .glob g t x c E fr h1 h2 h3,e=>.glob g t x c E fr h1 h2 h3
 | .ref nm o b C h,_=>.ref nm o b C h
 | .aref nm k i o b C h,_=>.aref nm k i o b C h
 | .arr nm k o n cap b C h hC hn,_=>.arr nm k o n cap b C h hC hn
 | .arrN nm k h,_=>.arrN nm k h
 | .mp nm b C h,_=>.mp nm b C h
 | .it nm b C h,_=>.it nm b C h
theorem qbn.noY {L:Option Loc} {xs:List PV} {vs:List Value}:qbn w I lp L xs vs→qcu xs=false→qbn w I lp' L xs vs
 | .nil,_=>.nil
 | .cons x v xs vs h hs,e=>.cons x v xs vs (h.noY (by simpa[qcu] using (Bool.or_eq_false_iff.1 e).1)) (hs.noY (Bool.or_eq_false_iff.1 e).2)
theorem qj2:∀ (xs:List PV),qcu xs=false→qcu (cellsL xs)=false
 | [],_=>rfl
 | x :: xs,e=>by
  have h:=Bool.or_eq_false_iff.1 e
  have hx:qcu x.cells=false:=by
   cases x<;>simp_all [PV.cells,qcu,PV.hasY]
  have hs:=qj2 xs h.2
  have happ:∀ (ys zs:List PV),qcu ys=false→qcu zs=false→qcu (ys++zs)=false:=by
   intro ys
   induction ys with
   | nil=>intro zs _ hz;exact hz
   | cons y ys ih =>
    intro zs hy hz
    have h:=Bool.or_eq_false_iff.1 hy
    exact Bool.or_eq_false_iff.2 ⟨h.1,ih zs h.2 hz⟩
  exact happ _ _ hx hs
end
mutual
theorem qbr.free {L:Option Loc} {x:PV} {v:Value}:qbr w I lp L x v→x.free=true→qbr w' I' lp L x v
 | .undef v,_=>.undef v
 | .bool b,_=>.bool b
 | .int k n,_=>.int k n
 | .str s,_=>.str s
 | .nilS,_=>.nilS
 | .nilP,_=>.nilP
 | .nilF,_=>.nilF
 | .nilI,_=>.nilI
 | .nilM,_=>.nilM
 | .slE k full a cap hf,e=>by simp[PV.free] at e
 | .sl k xs full b off cap c E fr h1 h2 h3 h4 h5 h6 h8 h7,e=>by simp[PV.free] at e
 | .ptr cs o b off c E fr h1 h2 h3 h4 h8 h5,e=>by simp[PV.free] at e
 | .agg cs vs h1 h,e=>.agg cs vs h1 (h.free (by simpa[PV.free] using e))
 | .iface t x v h,e=>.iface t x v (h.free (by simpa[PV.free] using e))
 | .fn f cs us vs hk h,e=>.fn f cs us vs hk (h.free (by simpa[PV.free] using e))
 | .yld d l h,_=>.yld d l h
 | .tup xs vs h,e=>.tup xs vs (h.free (by simpa[PV.free] using e))
 | .imap es r ents clock h1 h2 h3,e=>by simp[PV.free] at e
 | .glob g t x c E fr h1 h2 h3,e=>by simp[PV.free] at e
 | .ref nm o b C h,_=>.ref nm o b C h
 | .aref nm k i o b C h,_=>.aref nm k i o b C h
 | .arr nm k o n cap b C h hC hn,_=>.arr nm k o n cap b C h hC hn
 | .arrN nm k h,_=>.arrN nm k h
 | .mp nm b C h,_=>.mp nm b C h
 | .it nm b C h,_=>.it nm b C h
theorem qbn.free {L:Option Loc} {xs:List PV} {vs:List Value}:qbn w I lp L xs vs→qqe xs=true→qbn w' I' lp L xs vs
 | .nil,_=>.nil
 | .cons x v xs vs h hs,e=>.cons x v xs vs (h.free (by simpa[qqe] using (Bool.and_eq_true_iff.1 e).1)) (hs.free (Bool.and_eq_true_iff.1 e).2)
end
theorem Qgi:∀ (ys zs:List PV),qqe ys=true→qqe zs=true→qqe (ys++zs)=true:=by
 intro ys
 induction ys with
 | nil=>intro zs _ hz;exact hz
 | cons y ys ih =>
  intro zs hy hz
  have h:=Bool.and_eq_true_iff.1 hy
  exact Bool.and_eq_true_iff.2 ⟨h.1,ih zs h.2 hz⟩
theorem Qgh:∀ (xs:List PV),qqe xs=true→qqe (cellsL xs)=true:=by
 intro xs
 induction xs with
 | nil=>intro _;rfl
 | cons x xs ih =>
  intro e
  have h:=Bool.and_eq_true_iff.1 e
  refine Qgi _ _ ?_ (ih h.2)
  have hx:=h.1
  cases x<;>simp_all [PV.cells,qqe,PV.free]
theorem qha.free {L:Loc} {ob:Ob} {p:Option (Nat×Nat)} (h:qha w I lp L ob p) (hf:ob.free=true):qha w I' lp L ob p:=by
 cases p with
 | none=>exact h
 | some p =>
  cases ob with
  | cells ty cs=>obtain⟨c,E,h1,h2,h4,h3⟩:=h;exact⟨c,E,h1,h2,h4,h3.free hf⟩
  | arr k kt xs=>obtain⟨c,E,h1,h2,h3,h4,h6,h5⟩:=h;exact⟨c,E,h1,h2,h3,h4,h6,h5.free (Qgh _ hf)⟩
  | map es=>obtain⟨c,E,h1,h2⟩:=h;exact⟨c,E,h1,h2.free hf⟩
  | siter s pos=>exact h
end yl
theorem qha.ofArr {w:World} {I:Nat→Prop} {lp:Nat→Option Nat} {L L':Loc} {ob:Ob} {p:Option (Nat×Nat)} (h:qha w I lp L ob p) (ha:Qcu ob=true):qha w I lp L' ob p:=by
 cases ob<;>simp[Qcu] at ha
 cases p<;>exact h
theorem Qbw {α:Type} {l:List α} {d:Nat} {x:α} (h:l[d]?=some x):l.set d x=l:=by
 apply List.ext_getElem?
 intro i
 by_cases hi:i=d
 ·subst hi
  rw[List.getElem?_set_self (List.getElem?_eq_some_iff.1 h).1,h]
 ·rw[List.getElem?_set_ne (Ne.symm hi)]
def locOf (ps:List (Option (Nat×Nat))):Loc:=qdn (fun _=>none) 0 ps
structure qtc {E:Type} (cx:Cx) (R:qkj E) (lp:Nat→Option Nat) (I F:Nat→Prop) (w:World) (r:PV) (obs:List Ob) (e:E) (v:Value) (w':World) (I' F':Nat→Prop) (ps:List (Option (Nat×Nat))):Prop where
 ext:Ext I F w I' F' w'
 sep:IF I' F' w'
 wd:cx.Wd I' w'
 re:R.rel e I' F' w'
 len:ps.length=obs.length
 ob:∀ (j:Nat) (ob:Ob) (p:Option (Nat×Nat)),obs[j]?=some ob→ps[j]?=some p→qha w' I' lp (locOf ps) ob p
 new:∀ (j b C:Nat),ps[j]?=some (some (b,C))→w.heap.size≤b∧b < w'.heap.size∧¬ I' b∧¬ F' b
 inj:∀ (j j' b C C':Nat),ps[j]?=some (some (b,C))→ps[j']?=some (some (b,C'))→j=j'
 rep:qbr w' I' lp (some (locOf ps)) r v
 arr:obs.all Qcu=true
def Qpc {E:Type} (cx:Cx) (R:qkj E) (lp:Nat→Option Nat) (I F:Nat→Prop) (w:World) (r:PV) (obs:List Ob) (e:E):Ending→World→Prop
 | .returned v,w'=>∃ I' F' ps,qtc cx R lp I F w r obs e v w' I' F' ps
 | _,_=>False
def HandAt {E:Type} (cx:Cx) (R:qkj E) (Ir Fr_:Nat→Prop) (wr:World) (args:List PV) (e:E) (b:Bool) (e':E) (l:Nat):Prop :=
 ∀ (vs:List Value) (I F:Nat→Prop) (w:World),qbn w I (fun _=>none) none args vs→Ext Ir Fr_ wr I F w→IF I F w→cx.Wd I w→R.rel e I F w →
  YieldAt Fence.wide 0 cx.P l vs.toArray w fun
   | .returned v,w'=>v=.bool b∧∃ I' F',Ext I F w I' F' w'∧IF I' F' w'∧cx.Wd I' w'∧R.rel e' I' F' w'
   | _,_=>False
def Qho {E:Type} (cx:Cx) (lp:Nat→Option Nat) (R:qkj E) (Ir Fr_:Nat→Prop) (wr:World) (h:qbg E):Prop :=
 ∀ (d:Nat) (args:List PV) (e:E) (b:Bool) (e':E) (l:Nat),h d args e=some (b,e')→lp d=some l→∃ l',l=2*l'∧HandAt cx R Ir Fr_ wr args e b e' l'
def qc8 (P:Program) (g:FuncId):Prop:=∃ fn,P.funcs[g]?=some fn∧(fn.name == "runtime.NumGoroutine")=false∧fn.body.isSome=true
def qgs (cx:Cx) (call:qva):Prop :=
 ∀ (E:Type) (h:qbg E) (R:qkj E) (dep:Nat) (lp:Nat→Option Nat) (Ir Fr_:Nat→Prop) (wr:World) (g:FuncId) (args:List PV) (e:E) (r:PV) (obs:List Ob) (e':E),
  call E h dep g args e=some (r,obs,e')→Qho cx lp R Ir Fr_ wr h→(∀ d l,lp d=some l→d < dep) →
  qc8 cx.P g∧∀ (I F:Nat→Prop) (w:World) (vs:List Value),Ext Ir Fr_ wr I F w→IF I F w→cx.Wd I w→R.rel e I F w→qbn w I lp none args vs →
   CallsIn Fence.wide 0 cx.P g vs.toArray w (Qpc cx R lp I F w r obs e')
def Qjb (tmv:List Value) (dst:Option Nat) (v:Value):List Value :=
 match dst with
 | some d=>tmv.set d v
 | none=>tmv
def SpRet (cx:Cx) (g:FuncId) (st:St) (vs:List PV) (out:Out):Prop :=
  ∀ (E:Type) (w0:World) (I0 F0:Nat→Prop) (O0:Own) (Hd:Nat→Option Obj) (R:qkj E) (e:E) (ds:List Deferred) (I F:Nat→Prop) (lp:Nat→Option Nat) (L:Loc) (tmv suf us:List Value) (w:World) (dst:Option Nat),
   SR lp I L st tmv suf w→Fr cx w0 I0 F0 O0 Hd R e ds I F L w→qbn w I lp (some L) vs us→(∀ d,dst=some d→st.objs[d]?=some []) →
   ∃ v w',(callFunc g us.toArray).run cx.P w=.ok (.value v) w'∧∃ I' L',SR lp I' L' (apply st dst {out with v:=out.v.ren (qhw (dst.getD 0))}) (Qjb tmv dst v) suf w'∧Fr cx w0 I0 F0 O0 Hd R e ds I' F L' w'
def SpOK (cx:Cx) (sp:FuncId→(Nm→Option Ob)→List PV→Option Out):Prop :=
 ∀ (g:FuncId) (st:St) (vs:List PV) (out:Out),sp g (qbf st.objs) vs=some out→SpRet cx g st vs out∨qc8 cx.P g ∧
  ∀ (E:Type) (w0:World) (I0 F0:Nat→Prop) (O0:Own) (Hd:Nat→Option Obj) (R:qkj E) (e:E) (ds:List Deferred) (I F:Nat→Prop) (lp:Nat→Option Nat) (L:Loc) (tmv suf us:List Value) (w:World) (dst:Option Nat),
   SR lp I L st tmv suf w→Fr cx w0 I0 F0 O0 Hd R e ds I F L w→qbn w I lp (some L) vs us→(∀ d,dst=some d→st.objs[d]?=some []) →
   CallsIn Fence.wide 0 cx.P g us.toArray w fun
    | .returned v,w'=>∃ I' L',SR lp I' L' (apply st dst {out with v:=out.v.ren (qhw (dst.getD 0))}) (Qjb tmv dst v) suf w'∧Fr cx w0 I0 F0 O0 Hd R e ds I' F L' w'
    | _,_=>False
def IoOK (cx:Cx) (io:FuncId→Nat→(Nm→Option Ob)→List PV→Option Out):Prop :=
 ∀ (g:FuncId) (d0:Nat) (st:St) (vs:List PV) (out:Out),io g d0 (qbf st.objs) vs=some out→qc8 cx.P g ∧
  ∀ (E:Type) (w0:World) (I0 F0:Nat→Prop) (O0:Own) (Hd:Nat→Option Obj) (R:qkj E) (e:E) (ds:List Deferred) (I F:Nat→Prop) (lp:Nat→Option Nat) (L:Loc) (tmv suf us:List Value) (w:World) (dst:Option Nat),
   SR lp I L st tmv suf w→Fr cx w0 I0 F0 O0 Hd R e ds I F L w→qbn w I lp (some L) vs us→(∀ d,dst=some d→d=d0∧st.objs[d]?=some [])→(dst=none→out.new=[]∨out.slot.isSome=true) →
   CallsIn Fence.wide 0 cx.P g us.toArray w fun
    | .returned v,w'=>∃ I' L',SR lp I' L' (apply st dst out) (Qjb tmv dst v) suf w'∧Fr cx w0 I0 F0 O0 Hd R e ds I' F L' w'
    | _,_=>False
def RioOK (cx:Cx) (rio:(E:Type)→qbg E→Nat→FuncId→List Ob→List PV→E→Option (St×E)):Prop :=
 ∀ (E:Type) (h:qbg E) (dep:Nat) (g:FuncId) (ins:List Ob) (vs:List PV) (e:E) (st2:St) (e2:E),rio E h dep g ins vs e=some (st2,e2)→qc8 cx.P g ∧
  ∃ (gone:List Nat) (nt:Nat),vs.length≤nt∧ins.length≤nt∧0 < nt ∧
   ∀ (R:qkj E) (lp:Nat→Option Nat) (w:World) (I F0 F O:Nat→Prop) (L:Loc) (us wv:List Value),Qho cx lp R I F0 w h→(∀ d l,lp d=some l→d < dep)→us.length=vs.length →
    SR lp I L (Qdp gone nt ins vs) (us++List.replicate (nt - us.length) undef) wv w→Fr cx w I F0 ⟨O,[]⟩ (fun _=>none) R e [] I F L w →
    CallsIn Fence.wide 0 cx.P g us.toArray w fun
     | .returned _,w'=>∃ tmv I' F' L',SR lp I' L' st2 tmv wv w'∧Fr cx w I F0 ⟨O,[]⟩ (fun _=>none) R e2 [] I' F' L' w'
     | _,_=>False
structure MSp (cx:Cx) (M:qdb):Prop where
 sp:SpOK cx M.sp
 io:IoOK cx M.io
 flag:∀ g d σ vs out,M.io g d σ vs=some out→out.io=true
 rio:RioOK cx M.rio
section frames
variable {E:Type} {cx:Cx} {w0:World} {I0 F0:Nat→Prop} {O0:Own} {Hd:Nat→Option Obj} {R:qkj E} {e e':E} {ds:List Deferred} {F F':Nat→Prop} {lp:Nat→Option Nat} {suf tmv:List Value}
variable {I I':Nat→Prop} {L:Loc} {st:St} {a:Act} {w w':World} {o:Oper}
theorem Fr.offI (hf:Fr cx w0 I0 F0 O0 Hd R e ds I F L w) (hx:Ext I F w I' F' w') {b:Nat} (h1:b < w.heap.size) (h2:¬ I b) (h3:¬ F b):¬ I' b∧¬ F' b∧w'.heap[b]?=w.heap[b]? :=
 ⟨fun h=>by rcases hx.newI b h with h | h | h<;>first | exact h2 h | exact h3 h | omega,
  fun h=>by rcases hx.newF b h with h | h<;>first | exact h3 h | omega,hx.keep b h1 h3⟩
theorem Fr.called (hf:Fr cx w0 I0 F0 O0 Hd R e ds I F L w) (hx:Ext I F w I' F' w') (hi:IF I' F' w') (hw:cx.Wd I' w') (hr:R.rel e' I' F' w'):Fr cx w0 I0 F0 O0 Hd R e' ds I' F' L w' where
 ext:=hf.ext.trans hx
 sep:=hi
 oF:=hf.oF
 lB nm b C hn:=by
  obtain⟨h1,h2,h3,h4⟩:=hf.lB nm b C hn
  obtain⟨g1,g2,_⟩:=hf.offI hx h2 h3 h4
  have:=hx.size
  exact⟨h1,by omega,g1,g2⟩
 inj:=hf.inj
 wd:=hw
 re:=hr
 mks:=hf.mks.move hx.size fun D d1 d2 d3 d4 d5=>by
  obtain⟨g1,g2,g3⟩:=hf.offI hx d1 d3 d4
  exact⟨g3,g1,g2,d5⟩
 hld b ob hb:=by
  obtain⟨d1,d2,d3,d4,d5⟩:=hf.hld b ob hb
  obtain⟨g1,g2,g3⟩:=hf.offI hx d1 d2 d3
  have:=hx.size
  exact⟨by omega,g1,g2,d4,g3.trans d5⟩
theorem SR.called (hs:SR lp I L st tmv suf w) (hf:Fr cx w0 I0 F0 O0 Hd R e ds I F L w) (hx:Ext I F w I' F' w'):SR lp I' L st tmv suf w' :=
 hs.keeps hx.subI (fun b hb=>hx.sameI hf.sep b hb) fun nm b C hn=>(hf.offI hx (hf.lB nm b C hn).2.1 (hf.lB nm b C hn).2.2.1 (hf.lB nm b C hn).2.2.2).2.2
theorem Fr.place (hf:Fr cx w0 I0 F0 O0 Hd R e ds I F L w) {n0:Nat} (hn0:w0.heap.size≤n0) {d:Nat} {ps:List (Option (Nat×Nat))} (hp:∀ (j b C:Nat),ps[j]?=some (some (b,C))→n0≤b∧b < w.heap.size∧¬ I b∧¬ F b)
  (hL:∀ nm b C,L nm=some (some (b,C))→b < n0) (hm:∀ D,D∈ds.map (·.target)→∀ b,D=.collected b→b < n0) (hh:∀ b ob,Hd b=some ob→b < n0)
  (hi:∀ (j j' b C C':Nat),ps[j]?=some (some (b,C))→ps[j']?=some (some (b,C'))→j=j'):Fr cx w0 I0 F0 O0 Hd R e ds I F (qdn L d ps) w where
 ext:=hf.ext
 sep:=hf.sep
 oF:=hf.oF
 lB nm b C hn:=by
  unfold qdn at hn
  split at hn
  ·obtain⟨h1,h2,h3,h4⟩:=hp _ _ _ hn
   exact⟨.inl (by omega),h2,h3,h4⟩
  ·exact hf.lB nm b C hn
 inj nm nm' b C C' hn hn':=by
  unfold qdn at hn hn'
  split at hn<;>split at hn'
  ·rename_i e1 e2
   exact Prod.ext (e1.trans e2.symm) (hi _ _ _ _ _ hn hn')
  ·have:=hp _ _ _ hn;have:=hL nm' b C' hn';omega
  ·have:=hp _ _ _ hn';have:=hL nm b C hn;omega
  ·exact hf.inj nm nm' b C C' hn hn'
 wd:=hf.wd
 re:=hf.re
 mks:=by
  have key:∀ ds rs,qgg w0.heap.size I F L w ds rs→(∀ D,D∈ds.map (·.target)→∀ b,D=.collected b→b < n0)→qgg w0.heap.size I F (qdn L d ps) w ds rs:=by
   intro ds rs h
   induction h with
   | nil=>intro _;exact .nil
   | call d' ds rs hd _ ih=>intro hm;exact .call d' ds rs hd (ih fun D' hD' b hb=>hm D' (by simp at hD' ⊢;exact .inr hD') b hb)
   | cons D ds rs h1 h2 h3 h4 h5 h6 h7 _ ih =>
    intro hm
    refine .cons D ds rs h1 h2 h3 h4 (fun nm C hn=>?_) h6 h7 (ih fun D' hD' b hb=>hm D' (by simp at hD' ⊢;exact .inr hD') b hb)
    unfold qdn at hn
    split at hn
    ·have h1:=(hp _ _ _ hn).1
     have h2:=hm (.collected D) (by simp) D rfl
     omega
    ·exact h5 nm C hn
  exact key ds _ hf.mks hm
 hld b ob hb:=by
  obtain⟨d1,d2,d3,d4,d5⟩:=hf.hld b ob hb
  refine⟨d1,d2,d3,fun nm C hn=>?_,d5⟩
  unfold qdn at hn
  split at hn
  ·have:=(hp _ _ _ hn).1;have:=hh b ob hb;omega
  ·exact d4 nm C hn
theorem qgg.lt {lo:Nat} {I F:Nat→Prop} {L:Loc} {w:World} {ds rs:List Deferred} (h:qgg lo I F L w ds rs):∀ D,D∈ds.map (·.target)→∀ b,D=.collected b→b < w.heap.size:=by
 induction h with
 | nil=>intro D hD;simp at hD
 | call d ds rs hd _ ih =>
  intro D' hD' b hb
  simp only[List.map_cons,List.mem_cons] at hD'
  rcases hD' with rfl | hD'
  ·exact absurd hb (hd b)
  ·exact ih D' hD' b hb
 | cons D ds rs h1 h2 h3 h4 h5 h6 h7 _ ih =>
  intro D' hD' b hb
  simp only[List.map_cons,List.mem_cons] at hD'
  rcases hD' with rfl | hD'
  ·cases hb;exact h2
  ·exact ih D' hD' b hb
theorem taken (hs:SR lp I L st a.tmps.toList suf w) (hf:Fr cx w0 I0 F0 O0 Hd R e ds I F L w) {r:PV} {obs:List Ob} {v:Value} {ps:List (Option (Nat×Nat))} (hc:qtc cx R lp I F w r obs e' v w' I' F' ps)
  (hd:∀ d,o.dst=some d→st.objs[d]?=some []) :
  ∃ L',SR lp I' L' (apply st o.dst {v:=r.ren (qhw (o.dst.getD 0)),new:=obs}) (a.put o.dst v).tmps.toList suf w'∧Fr cx w0 I0 F0 O0 Hd R e' ds I' F' L' w':=by
 have hs1:=hs.called hf hc.ext
 have hf1:=hf.called hc.ext hc.sep hc.wd hc.re
 rw[qfg]
 cases hdst:o.dst with
 | none=>exact⟨L,hs1,hf1⟩
 | some d =>
  have hcl:=hd d hdst
  have hlt:∀ nm b C,L nm=some (some (b,C))→b < w.heap.size:=fun nm b C hn=>(hf.lB nm b C hn).2.1
  have hren:∀ nm p,locOf ps nm=some p→qdn L d ps (qhw d nm)=some p:=by
   intro nm p hp
   unfold locOf qdn at hp
   unfold qdn qhw
   split at hp
   ·simpa using hp
   ·cases hp
  refine⟨qdn L d ps,?_,hf1.place (n0:=w.heap.size) hf.ext.size hc.new hlt (hf.mks.lt) (fun b ob hb=>(hf.hld b ob hb).1) hc.inj⟩
  have hnew:=hs1.news hcl obs ps hc.len fun j ob p h1 h2=>(hc.ob j ob p h1 h2).ofArr (List.all_eq_true.1 hc.arr ob (List.mem_of_getElem? h1))
  have hset:(if obs.isEmpty then st.objs else st.objs.set d obs)=st.objs.set d obs:=by
   split
   ·rename_i he
    rw[List.isEmpty_iff] at he
    subst he
    exact (Qbw hcl).symm
   ·rfl
  show SR lp I' (qdn L d ps) {tmps:=st.tmps.set d (r.ren (qhw d)),objs:=if obs.isEmpty then st.objs else st.objs.set d obs,keep:=st.keep} (a.tmps.toList.set d v) suf w'
  rw[hset]
  exact hnew.put d (hc.rep.rename hren)
def Qhm (cx:Cx) (w0:World) (I0 F0:Nat→Prop) (O0:Own) (Hd:Nat→Option Obj) (R:qkj E) (lp:Nat→Option Nat) (suf:List Value) (o:Oper) (a:Act) (w:World) (st':St) (e':E):Prop :=
 ∀ (ro:Option Nat) (next:Act→World→Prop) (Q:Exit→Act→World→Prop),
  (∀ v' w' I' F' L',SR lp I' L' st' (a.put o.dst v').tmps.toList suf w'→Fr cx w0 I0 F0 O0 Hd R e' a.defers I' F' L' w'→next (a.put o.dst v') w')→o.wpIn (fen ro) 0 cx.P a w next Q
theorem wp_of {ro:Option Nat} {next:Act→World→Prop} {Q:Exit→Act→World→Prop} (hnd:∀ c,o.op≠.defer c) (h:o.uponIn (fen ro) 0 cx.P a next Q ((execOp a.eval o).run cx.P w)):o.wpIn (fen ro) 0 cx.P a w next Q :=
 ⟨fun _ _=>trivial,by rw[Oper.semAt_plain _ _ _ hnd];exact h⟩
theorem Qdy (hnd:∀ c,o.op≠.defer c) {st':St} (h:qh8 cx w0 I0 F0 O0 Hd R e a.defers F lp suf o a w st'):Qhm cx w0 I0 F0 O0 Hd R lp suf o a w st' e:=by
 intro ro next Q hK
 obtain⟨v',w',I',L',hr,hs,hf⟩:=h
 refine wp_of hnd ?_
 rcases hr with hr | ⟨hr,rfl⟩
 ·rw[hr];exact hK v' w' I' F L' hs hf
 ·rw[hr];exact hK undef w' I' F L' hs hf
theorem run_enter {c:Call} {f:Operand} (ho:o.op=.call c) (hcal:c.callee=.value f) {g:FuncId} {fst caps:Array Value} (hv:a.eval f=.func (.func g) fst caps) (he:qc8 cx.P g) :
  (execOp a.eval o).run cx.P w=.ok (.enter g (fst++(c.args.map a.eval)++caps)) w:=by
 obtain⟨fn,hfn,hname,hbody⟩:=he
 have hb:¬ fn.body=none:=by intro h;rw[h] at hbody;cases hbody
 have hname:¬ fn.name = "runtime.NumGoroutine":=by intro h;rw[h] at hname;simp at hname
 simp[execOp,ho,resolve,hcal,hv,Deferred.ofValue,invoke,callFunc,hfn,hname,hb]
theorem run_value {c:Call} {f:Operand} (ho:o.op=.call c) (hcal:c.callee=.value f) {g:FuncId} {fst caps:Array Value} (hv:a.eval f=.func (.func g) fst caps) :
  (execOp a.eval o).run cx.P w=(callFunc g (fst++(c.args.map a.eval)++caps)).run cx.P w:=by
 simp[execOp,ho,resolve,hcal,hv,Deferred.ofValue,invoke]
theorem run_yields {c:Call} {f:Operand} (ho:o.op=.call c) (hcal:c.callee=.value f) {l:Nat} (hv:a.eval f=.func (.yield l) #[] #[]) {x:Next} {w':World} (hy:(Instr.yield l (c.args.map a.eval)).run cx.P w=.ok x w') :
  (execOp a.eval o).run cx.P w=.ok x w':=by
 simp[execOp,ho,resolve,hcal,hv,Deferred.ofValue,invoke,hy]
theorem CallsIn.mono' {F:Fence} {n:Nat} {P:Program} {f:FuncId} {args:Array Value} {w:World} {R R':Ending→World→Prop} (h:CallsIn F n P f args w R) (hr:∀ e w',R e w'→R' e w'):CallsIn F n P f args w R' :=
 ⟨h.1,fun cs hroom=>let ⟨e,w',fr,r,s,x⟩:=h.2 cs hroom;⟨e,w',fr,hr _ _ r,s,x⟩⟩
theorem qjr {c:Call} {f:Operand} (ho:o.op=.call c) (hcal:c.callee=.value f) {g:FuncId} {fst caps:Array Value} (hv:a.eval f=.func (.func g) fst caps) (he:qc8 cx.P g) {st':St}
  (h:CallsIn Fence.wide 0 cx.P g (fst++(c.args.map a.eval)++caps) w fun
   | .returned v,w'=>∃ I' F' L',SR lp I' L' st' (a.put o.dst v).tmps.toList suf w'∧Fr cx w0 I0 F0 O0 Hd R e' a.defers I' F' L' w'
   | _,_=>False):Qhm cx w0 I0 F0 O0 Hd R lp suf o a w st' e':=by
 intro ro next Q hK
 refine wp_of (fun c' e=>by rw[ho] at e;cases e) ?_
 rw[run_enter ho hcal hv he,Oper.uponIn_enter]
 refine⟨fun h=>by simp[fen] at h,qql (CallsIn.mono' h fun e w' hr=>?_)⟩
 cases e with
 | returned v=>obtain⟨I',F',L',h1,h2⟩:=hr;exact hK v w' I' F' L' h1 h2
 | panicked chain=>exact hr.elim
 | outgrown=>exact hr.elim
theorem qyt {c:Call} {f:Operand} (ho:o.op=.call c) (hcal:c.callee=.value f) {l:Nat} (hv:a.eval f=.func (.yield l) #[] #[]) {st':St}
  (h:YieldAt Fence.wide 0 cx.P l (c.args.map a.eval) w fun
   | .returned v,w'=>∃ I' F' L',SR lp I' L' st' (a.put o.dst v).tmps.toList suf w'∧Fr cx w0 I0 F0 O0 Hd R e' a.defers I' F' L' w'
   | _,_=>False):Qhm cx w0 I0 F0 O0 Hd R lp suf o a w st' e':=by
 intro ro next Q hK
 refine wp_of (fun c' e=>by rw[ho] at e;cases e) ?_
 obtain⟨fn,tmps,assign,body,hy,hround⟩:=h
 rw[run_yields ho hcal hv hy,Oper.uponIn_round]
 refine⟨fun h=>by simp[fen] at h,Qh5 (RoundIn.mono hround fun e w' hr=>?_)⟩
 cases e with
 | returned v=>obtain⟨I',F',L',h1,h2⟩:=hr;exact hK v w' I' F' L' h1 h2
 | panicked chain=>exact hr.elim
 | outgrown=>exact hr.elim
def qd7:qkj Unit:=⟨fun _ _ _ _=>True,fun _ _ _ _ _ _ _ _ _ _=>trivial⟩
theorem qre (cx:Cx) (lp:Nat→Option Nat) (Ir Fr_:Nat→Prop) (wr:World):Qho cx lp qd7 Ir Fr_ wr qba:=by
 intro d args e b e' l h
 simp[qba] at h
theorem Qbh {M:qdb} (hM:qgs cx M.call) (hs:SR lp I L st a.tmps.toList suf w) (hf:Fr cx w0 I0 F0 O0 Hd R e ds I F L w) {g:FuncId} {vs:List PV} {us:List Value} {I1:Nat→Prop} (hI1:IF I1 (fun _=>False) w) (hw1:cx.Wd I1 w)
  (hrep:qbn w I1 lp none vs us) (hy:qcu vs=false) {r:PV} {obs:List Ob} (hc:M.call Unit qba 0 g vs ()=some (r,obs,())) :
  qc8 cx.P g∧CallsIn Fence.wide 0 cx.P g us.toArray w fun
   | .returned v,w'=>∃ I' F' ps,qtc cx qd7 lp I1 (fun _=>False) w r obs () v w' I' F' ps
   | _,_=>False:=by
 obtain⟨h1,h2⟩:=hM Unit qba qd7 0 (fun _=>none) I1 (fun _=>False) w g vs () r obs () hc (qre cx _ _ _ _) (fun d l h=>by cases h)
 refine⟨h1,CallsIn.mono' (h2 I1 (fun _=>False) w us (Ext.refl _ _ _) hI1 hw1 trivial (hrep.noY hy)) fun e w' hr=>?_⟩
 cases e with
 | returned v =>
  obtain⟨I',F',ps,hce⟩:=hr
  have hl:lpLe (fun _=>none) lp:=fun d l h=>by cases h
  exact⟨I',F',ps,hce.ext,hce.sep,hce.wd,hce.re,hce.len,fun j ob p h1 h2=>(hce.ob j ob p h1 h2).mono (fun _ h=>h) (fun _ _=>rfl) hl (fun _ _ _=>rfl),hce.new,hce.inj,qbr.mono (fun _ h=>h) (fun _ _=>rfl) hl hce.rep,hce.arr⟩
 | panicked chain=>exact hr.elim
 | outgrown=>exact hr.elim
theorem Fr.quiet (hf:Fr cx w0 I0 F0 O0 Hd R e ds I F L w) {F2:Nat→Prop} (hx:Ext I (fun _=>False) w I' F2 w') (hi:∀ b,I' b→b < w'.heap.size) (hw:cx.Wd I' w'):Ext I F w I' F w'∧IF I' F w'∧R.rel e I' F w':=by
 have hk:∀ b,b < w.heap.size→w'.heap[b]?=w.heap[b]?:=fun b hb=>hx.keep b hb fun h=>h
 refine⟨⟨hx.os,hx.tape,hx.output,hx.size,fun b hb _=>hk b hb,hx.subI,fun b hb=>?_,fun b hb=>.inl hb⟩,⟨hi,fun b hb=>⟨Nat.lt_of_lt_of_le (hf.sep.fB b hb).1 hx.size,fun h=>?_⟩⟩,?_⟩
 ·rcases hx.newI b hb with h | h | h
  ·exact .inl h
  ·exact h.elim
  ·exact .inr (.inr h)
 ·rcases hx.newI b h with h | h | h
  ·exact (hf.sep.fB b hb).2 h
  ·exact h
  ·have:=(hf.sep.fB b hb).1;omega
 ·refine R.stab e I I' F w w' hf.re hx.subI (fun b hb=>hk b ?_) hx.size
  rcases hb with hb | hb
  ·exact hf.sep.iB b hb
  ·exact (hf.sep.fB b hb).1
theorem Qba {M:qdb} (hM:qgs cx M.call) (hs:SR lp I L st a.tmps.toList suf w) (hf:Fr cx w0 I0 F0 O0 Hd R e a.defers I F L w) {c:Call} {f:Operand} (ho:o.op=.call c) (hcal:c.callee=.value f) {g:FuncId} {fst caps:Array Value}
  (hv:a.eval f=.func (.func g) fst caps) {vs:List PV} (hrep:qbn w I lp none vs (fst++(c.args.map a.eval)++caps).toList) (hy:qcu vs=false) {r:PV} {obs:List Ob} (hc:M.call Unit qba 0 g vs ()=some (r,obs,()))
  (hd:∀ d,o.dst=some d→st.objs[d]?=some []) :
  qc8 cx.P g∧CallsIn Fence.wide 0 cx.P g (fst++(c.args.map a.eval)++caps) w fun
   | .returned v,w'=>∃ I' F' L',SR lp I' L' (apply st o.dst {v:=r.ren (qhw (o.dst.getD 0)),new:=obs}) (a.put o.dst v).tmps.toList suf w'∧Fr cx w0 I0 F0 O0 Hd R e a.defers I' F' L' w'
   | _,_=>False:=by
 obtain⟨h1,h2⟩:=Qbh hM hs hf (I1:=I) ⟨hf.sep.iB,fun b hb=>hb.elim⟩ hf.wd hrep hy hc
 rw[Array.toArray_toList] at h2
 refine⟨h1,CallsIn.mono' h2 fun en w' hr=>?_⟩
 cases en with
 | returned v =>
  obtain⟨I',F2,ps,hce⟩:=hr
  obtain⟨q1,q2,q3⟩:=hf.quiet hce.ext (fun b hb=>hce.sep.iB b hb) hce.wd
  have hce2:qtc cx R lp I F w r obs e v w' I' F ps:=⟨q1,q2,hce.wd,q3,hce.len,hce.ob,fun j b C hj=>by
   obtain⟨n1,n2,n3,n4⟩:=hce.new j b C hj
   exact⟨n1,n2,n3,fun hb=>by have:=(hf.sep.fB b hb).1;omega⟩,hce.inj,hce.rep,hce.arr⟩
  obtain⟨L',g1,g2⟩:=taken hs hf hce2 hd
  exact⟨I',F,L',g1,g2⟩
 | panicked chain=>exact hr.elim
 | outgrown=>exact hr.elim
theorem done_free {M:qdb} (hM:qgs cx M.call) (hs:SR lp I L st a.tmps.toList suf w) (hf:Fr cx w0 I0 F0 O0 Hd R e a.defers I F L w) {c:Call} {f:Operand} {Rn:List Nm} (ho:o.op=.call c) (hcal:c.callee=.value f) {g:FuncId} {fst caps:Array Value}
  (hv:a.eval f=.func (.func g) fst caps) {vs:List PV} (hrep:qbn w (inR I L Rn) lp none vs (fst++(c.args.map a.eval)++caps).toList) (hy:qcu vs=false) {r:PV} {obs:List Ob} (hc:M.call Unit qba 0 g vs ()=some (r,obs,()))
  (hfr:r.free=true) (hfo:obs.all Ob.free=true) (hd:∀ d,o.dst=some d→st.objs[d]?=some []) :
  qc8 cx.P g∧CallsIn Fence.wide 0 cx.P g (fst++(c.args.map a.eval)++caps) w fun
   | .returned v,w'=>∃ I' F' L',SR lp I' L' (apply st o.dst {v:=r.ren (qhw (o.dst.getD 0)),new:=obs}) (a.put o.dst v).tmps.toList suf w'∧Fr cx w0 I0 F0 O0 Hd R e a.defers I' F' L' w'
   | _,_=>False:=by
 have hf2:=hf.freeze Rn
 obtain⟨h1,h2⟩:=Qbh hM hs hf (I1:=inR I L Rn) ⟨hf2.sep.iB,fun b hb=>hb.elim⟩ hf2.wd hrep hy hc
 rw[Array.toArray_toList] at h2
 refine⟨h1,CallsIn.mono' h2 fun en w' hr=>?_⟩
 cases en with
 | returned v =>
  obtain⟨I',F2,ps,hce⟩:=hr
  have hk:∀ b,b < w.heap.size→w'.heap[b]?=w.heap[b]?:=fun b hb=>hce.ext.keep b hb fun h=>h
  have hIk:∀ b,I b→w'.heap[b]?=w.heap[b]?:=fun b hb=>hk b (hf.sep.iB b hb)
  have hwd:cx.Wd I w':=cx.stab I I w w' hf.wd (fun _ h=>h) hIk hce.ext.size
  have hext:Ext I (fun _=>False) w I (fun _=>False) w':=⟨hce.ext.os,hce.ext.tape,hce.ext.output,hce.ext.size,fun b hb _=>hk b hb,fun _ h=>h,fun _ h=>.inl h,fun _ h=>h.elim⟩
  obtain⟨q1,q2,q3⟩:=hf.quiet hext (fun b hb=>Nat.lt_of_lt_of_le (hf.sep.iB b hb) hce.ext.size) hwd
  have hce2:qtc cx R lp I F w r obs e v w' I F ps:=⟨q1,q2,hwd,q3,hce.len,fun j ob p hj hp=>(hce.ob j ob p hj hp).free (List.all_eq_true.1 hfo ob (List.mem_of_getElem? hj)),fun j b C hj=>by
   obtain⟨n1,n2,n3,n4⟩:=hce.new j b C hj
   exact⟨n1,n2,fun hb=>by have:=hf.sep.iB b hb;omega,fun hb=>by have:=(hf.sep.fB b hb).1;omega⟩,hce.inj,hce.rep.free hfr,hce.arr⟩
  obtain⟨L',g1,g2⟩:=taken hs hf hce2 hd
  exact⟨I,F,L',g1,g2⟩
 | panicked chain=>exact hr.elim
 | outgrown=>exact hr.elim
structure Ref {E:Type} (cx:Cx) (lp:Nat→Option Nat) (R:qkj E) (h:qbg E) (dep:Nat) (w0:World) (I0 F0:Nat→Prop):Prop where
 hand:∃ Ir Fr_ wr,Qho cx lp R Ir Fr_ wr h∧Ext Ir Fr_ wr I0 F0 w0
 dep:∀ d l,lp d=some l→d < dep
theorem qtv {Rn:List Nm} {d:Nat} (h:st.objs[d]?=some []):(qbt (qbf st.objs) Rn st).objs[d]?=some []:=by
 have key:∀ (R:List Nm) (σ:List (List Ob)),σ[d]?=some []→(R.foldl (fun objs nm=>qb9 objs nm qd5) σ)[d]?=some []:=by
  intro R
  induction R with
  | nil=>intro σ h;exact h
  | cons r R ih =>
   intro σ h
   refine ih _ ?_
   show (qb9 σ r qd5)[d]?=some []
   unfold qb9
   split
   ·rename_i l hl
    by_cases hrd:r.1=d
    ·rw[hrd] at hl;rw[h] at hl;cases hl
     rw[hrd,List.getElem?_set_self (List.getElem?_eq_some_iff.1 h).1];rfl
    ·rw[List.getElem?_set_ne hrd];exact h
   ·exact h
 refine key _ _ ?_
 simp[qhf,h]
theorem Qhj {Rn:List Nm} (hne:Rn≠[]) (dst:Option Nat) (v:PV) (obs:List Ob) :
  apply st dst {v,new:=obs,frz:=Rn}=apply (qbt (qbf st.objs) Rn st) dst {v,new:=obs}:=by
 cases Rn with
 | nil=>exact absurd rfl hne
 | cons r rs=>simp[apply]
theorem Qk7 {S:List Nm} (h:S.isEmpty=false):qbs (qbf st.objs) qbe S≠[]:=by
 intro e0
 cases S with
 | nil=>simp at h
 | cons m ms =>
  have:m∈qbs (qbf st.objs) qbe (m :: ms):=qcn qbe _ m List.mem_cons_self
  rw[e0] at this;cases this
theorem call_done {M:qdb} {h:qbg E} {dep:Nat} (hM:qgs cx M.call) (hsp:MSp cx M) (href:Ref cx lp R h dep w0 I0 F0) (hs:SR lp I L st a.tmps.toList suf w) (hf:Fr cx w0 I0 F0 O0 Hd R e a.defers I F L w)
  {c:Call} {fo:Operand} (ho:o.op=.call c) (hcal:c.callee=.value fo) {f:RX} {args:List RX} (h1:rx cx.G fo=some f) (h2:rxs cx.G c.args.toList=some args)
  (hd:∀ d,o.dst=some d→st.objs[d]?=some []) {out:Out} (hx:qb1 M h dep (o.dst.getD 0) (qbf st.objs) st.tmps f args e=some (out,e')) (hgd:qmj o.dst out=true) :
  Qhm cx w0 I0 F0 O0 Hd R lp suf o a w (apply st o.dst out) e':=by
 have hfv:=qb4 hs hf.wd h1
 have hargs:=Qc6 hs hf.wd h2
 have harr:(c.args.toList.map a.eval).toArray=c.args.map a.eval:=by rw[←Array.toList_map,Array.toArray_toList]
 unfold qb1 at hx
 split at hx
 ·rename_i d hr
  rw[hr] at hfv
  obtain⟨l,hv,hl⟩:=inv_yld hfv
  obtain⟨Ir,Fr_,wr,hand,hxr⟩:=href.hand
  simp only at hx
  split at hx
  ·rename_i hS
   rw[List.isEmpty_iff] at hS
   obtain⟨hy,hx⟩:=qbh hx
   split at hx
   ·rename_i b e1 hh
    cases hx
    obtain⟨l',rfl,hand⟩:=hand d _ e b e' l hh hl
    rw[Qbl] at hv
    refine qyt ho hcal hv ?_
    have hy':qcu (args.map (RX.ev st.tmps))=false:=by simpa using hy
    have hcl:=(hargs.shut hS).noY (lp':=fun _=>none) hy'
    have:=hand _ I F w hcl (hxr.trans hf.ext) hf.sep hf.wd hf.re
    obtain⟨fn,tmps,assign,body,q1,q2⟩:=this
    refine⟨fn,tmps,assign,body,by rw[←harr];exact q1,RoundIn.mono q2 fun en w' hq=>?_⟩
    cases en with
    | returned v =>
     obtain⟨rfl,I',F',p1,p2,p3,p4⟩:=hq
     exact⟨I',F',L,(hs.called hf p1).putO o.dst (.bool b),hf.called p1 p2 p3 p4⟩
    | panicked chain=>exact hq.elim
    | outgrown=>exact hq.elim
   ·cases hx
  ·rename_i hS
   obtain⟨hk,hx⟩:=qbh hx
   simp only[Bool.and_eq_true,Bool.not_eq_true'] at hk
   split at hx
   ·rename_i b e1 hh
    cases hx
    have hS:(qbd (args.map (RX.ev st.tmps))).isEmpty=false:=by simpa using hS
    have hne:=Qk7 (st:=st) hS
    have hcl:=(ql9 hs hk.2 hargs fun nm hn=>qcn _ _ nm hn).noY (lp':=fun _=>none) hk.1
    have hs2:=hs.freeze hk.2
    have hf2:=hf.freeze (qbs (qbf st.objs) qbe (qbd (args.map (RX.ev st.tmps))))
    obtain⟨l',rfl,hand⟩:=hand d _ e b e' l hh hl
    rw[Qbl] at hv
    refine qyt ho hcal hv ?_
    have:=hand _ _ F w hcl (hxr.trans hf2.ext) hf2.sep hf2.wd hf2.re
    obtain⟨fn,tmps,assign,body,q1,q2⟩:=this
    refine⟨fn,tmps,assign,body,by rw[←harr];exact q1,RoundIn.mono q2 fun en w' hq=>?_⟩
    cases en with
    | returned v =>
     obtain⟨rfl,I',F',p1,p2,p3,p4⟩:=hq
     rw[Qhj hne]
     exact⟨I',F',_,(hs2.called hf2 p1).putO o.dst (.bool b),hf2.called p1 p2 p3 p4⟩
    | panicked chain=>exact hq.elim
    | outgrown=>exact hq.elim
   ·cases hx
 ·rename_i g cap hr
  rw[hr] at hfv
  obtain⟨fst,caps,hv,hfk,hcap⟩:=qtt hfv
  have hall:qbn w I lp (some L) (qb3 g (args.map (RX.ev st.tmps)) cap) (fst++(c.args.map a.eval)++caps).toList:=by
   simpa[List.append_assoc] using qpi hfk hcap hargs
  simp only at hx
  generalize qb3 g (args.map (RX.ev st.tmps)) cap=vall at hx hall
  generalize qd2 g=g0 at hx hv
  split at hx
  ·rename_i out1 hspo
   cases hx
   rcases hsp.sp g0 st _ _ hspo with q2 | ⟨q1,q2⟩
   ·obtain⟨v',w',hrun,I',L',p1,p2⟩:=q2 E w0 I0 F0 O0 Hd R e a.defers I F lp L a.tmps.toList suf _ w o.dst hs hf hall hd
    rw[Array.toArray_toList] at hrun
    exact Qdy (fun c' e=>by rw[ho] at e;cases e) ⟨v',w',I',L',.inl (by rw[run_value ho hcal hv];exact hrun),by rw[qfg];exact p1,p2⟩
   refine qjr ho hcal hv q1 ?_
   have:=q2 E w0 I0 F0 O0 Hd R e a.defers I F lp L a.tmps.toList suf _ w o.dst hs hf hall hd
   rw[Array.toArray_toList] at this
   refine CallsIn.mono' this fun en w' hq=>?_
   cases en with
   | returned v =>
    obtain⟨I',L',p1,p2⟩:=hq
    refine⟨I',F,L',?_,p2⟩
    rw[qfg]
    exact p1
   | panicked chain=>exact hq.elim
   | outgrown=>exact hq.elim
  ·rename_i hspo
   split at hx
   ·rename_i hio
    split at hx
    case h_2=>cases hx
    rename_i out1 hspo
    cases hx
    obtain⟨q1,q2⟩:=hsp.io g0 _ st _ _ hspo
    refine qjr ho hcal hv q1 ?_
    have hfl:=hsp.flag _ _ _ _ _ hspo
    have:=q2 E w0 I0 F0 O0 Hd R e a.defers I F lp L a.tmps.toList suf _ w o.dst hs hf hall (fun d hd'=>⟨by rw[hd'];rfl,hd d hd'⟩) (fun hn=>by
     simp only[qmj,hfl,hn,Bool.not_true,Option.isSome_none,Bool.false_or,Bool.or_eq_true,List.isEmpty_iff] at hgd
     exact hgd)
    rw[Array.toArray_toList] at this
    refine CallsIn.mono' this fun en w' hq=>?_
    cases en with
    | returned v =>
     obtain⟨I',L',p1,p2⟩:=hq
     refine⟨I',F,L',?_,p2⟩
     rw[qfg]
     exact p1
    | panicked chain=>exact hq.elim
    | outgrown=>exact hq.elim
   rename_i hio
   split at hx
   ·rename_i hS
    rw[List.isEmpty_iff] at hS
    have hcl:=hall.shut hS
    split at hx
    ·rename_i hy
     split at hx
     ·rename_i r obs e1 hc
      cases hx
      obtain⟨Ir,Fr_,wr,hand,hxr⟩:=href.hand
      obtain⟨q1,q2⟩:=hM E h R dep lp Ir Fr_ wr g0 _ e r obs e' hc hand href.dep
      refine qjr ho hcal hv q1 ?_
      have:=q2 I F w _ (hxr.trans hf.ext) hf.sep hf.wd hf.re hcl
      rw[Array.toArray_toList] at this
      refine CallsIn.mono' this fun en w' hq=>?_
      cases en with
      | returned v =>
       obtain⟨I',F',ps,hce⟩:=hq
       obtain⟨L',g1,g2⟩:=taken hs hf hce hd
       exact⟨I',F',L',g1,g2⟩
      | panicked chain=>exact hq.elim
      | outgrown=>exact hq.elim
     ·cases hx
    ·rename_i hy
     split at hx
     ·rename_i r obs u hc
      cases hx
      obtain⟨q1,q2⟩:=Qba hM hs hf ho hcal hv hcl (by simpa using hy) hc hd
      exact qjr ho hcal hv q1 q2
     ·cases hx
   ·rename_i hS
    obtain⟨hk,hx⟩:=qbh hx
    simp only[Bool.and_eq_true,Bool.not_eq_true'] at hk
    have hcl:=ql9 hs hk.2 hall fun nm hn=>qcn _ _ nm hn
    split at hx
    ·rename_i r obs u hc
     cases hx
     by_cases hfree:(r.free&&obs.all Ob.free&&!M.leans g0)=true
     ·rw[if_pos hfree]
      rw[Bool.and_eq_true,Bool.and_eq_true] at hfree
      replace hfree:=hfree.1
      obtain⟨q1,q2⟩:=done_free hM hs hf ho hcal hv hcl hk.1 hc hfree.1 hfree.2 hd
      exact qjr ho hcal hv q1 q2
     ·rw[if_neg hfree]
      have hS:(qbd vall).isEmpty=false:=by simpa using hS
      have hne:=Qk7 (st:=st) hS
      have hs2:=hs.freeze hk.2
      have hf2:=hf.freeze (qbs (qbf st.objs) qbe (qbd vall))
      rw[Qhj hne]
      obtain⟨q1,q2⟩:=Qba hM hs2 hf2 ho hcal hv hcl hk.1 hc (fun d hdd=>qtv (hd d hdd))
      exact qjr ho hcal hv q1 q2
    ·cases hx
 ·cases hx
end frames
end Go.Ab


namespace Go.Ab
theorem comp_call {P:Program} {G:qmx} {o:Oper} {f:RX} {args:List RX} (h:qct P G o=some (.call f args)) :
  ∃ c fo,o.op=.call c∧c.callee=.value fo∧rx G fo=some f∧rxs G c.args.toList=some args:=by
 cases ho:o.op with
 | call c =>
  simp only[qct,ho] at h
  split at h
  ·cases h
  ·rename_i as has
   split at h
   ·rename_i fo hcal
    obtain⟨f',hf,he⟩:=Option.map_eq_some_iff.1 h
    cases he
    exact⟨c,fo,rfl,hcal,hf,has⟩
   all_goals (repeat' split at h)<;>first | contradiction | cases h
 | _ =>
  exfalso
  simp only[qct,ho] at h
  repeat' split at h
  all_goals first
   | contradiction
   |(cases h;done)
   |(simp[Option.map_eq_some_iff] at h;done)
section ops
variable {E:Type} {cx:Cx} {w0:World} {I0 F0:Nat→Prop} {O0:Own} {Hd:Nat→Option Obj} {R:qkj E} {e e':E} {F F':Nat→Prop} {lp:Nat→Option Nat} {suf tmv:List Value}
variable {I I':Nat→Prop} {L:Loc} {st st':St} {a:Act} {w w':World} {o:Oper} {M:qdb} {h:qbg E} {dep:Nat}
theorem step_op (hM:qgs cx M.call) (hsp:MSp cx M) (href:Ref cx lp R h dep w0 I0 F0) (hs:SR lp I L st a.tmps.toList suf w) (hf:Fr cx w0 I0 F0 O0 Hd R e a.defers I F L w) {out:Out}
  (hx:qfj M h dep (qhb cx.P cx.G o) st e=some (out,e')):Qhm cx w0 I0 F0 O0 Hd R lp suf o a w (apply st o.dst out) e':=by
 unfold qfj at hx
 obtain⟨hfr,hx⟩:=qbh hx
 cases hc:qct cx.P cx.G o with
 | none=>simp[qhb,hc,orBad,exec] at hx
 | some rop =>
  have hop:(qhb cx.P cx.G o).op=rop:=by simp[qhb,hc,orBad]
  have hds:(qhb cx.P cx.G o).dst=o.dst:=rfl
  have hclean:qlj rop=true→(∀ d,o.dst=some d→st.objs[d]?=some [])∧(qg1 rop=false→∃ d,o.dst=some d):=by
   intro hmk
   unfold qcz at hfr
   rw[hop,hmk,hds] at hfr
   simp only[if_true] at hfr
   constructor
   ·intro d hd
    rw[hd] at hfr
    simp only at hfr
    split at hfr
    ·assumption
    ·cases hfr
   ·intro hnc
    cases hd:o.dst with
    | some d=>exact⟨d,rfl⟩
    | none =>
     rw[hd] at hfr
     cases rop<;>simp[qg1] at hnc hfr
  rw[hop,hds] at hx
  cases hic:qg1 rop with
  | true =>
   cases rop<;>simp[qg1] at hic
   rename_i f args
   obtain⟨c,fo,ho,hcal,h1,h2⟩:=comp_call hc
   obtain⟨hx,hgd⟩:=qny hx
   exact call_done hM hsp href hs hf ho hcal h1 h2 (hclean rfl).1 hx hgd
  | false =>
   have hx':exec (o.dst.getD 0) (qbf st.objs) st.tmps rop=some out∧e'=e:=by
    cases rop<;>simp[qg1] at hic<;>(simp only at hx;split at hx<;>simp_all)
   obtain⟨hx',rfl⟩:=hx'
   refine Qdy ?_ (exec_done hs hf hc (fun hmk=>?_) hic hx')
   ·intro c hd
    simp[qct,hd] at hc
   ·obtain⟨g1,g2⟩:=hclean hmk
    obtain⟨d,hd⟩:=g2 hic
    exact⟨d,hd,g1 d hd⟩
theorem SR.letgo (hs:SR lp I L st tmv suf w) {D:Nm→Prop} [DecidablePred D] {objs':List (List Ob)} (hobj:∀ nm,qbf objs' nm=if D nm then none else (qbf st.objs nm).map (Ob.sub fun m=>if D m then some none else none)) :
  SR lp I (fun nm=>if D nm then none else L nm) {tmps:=qdy (fun m=>if D m then some none else none) st.tmps,objs:=objs',keep:=qdy (fun m=>if D m then some none else none) st.keep} tmv suf w:=by
 have hsub:qko w I lp L (some fun nm=>if D nm then none else L nm) (fun _=>True) (fun m=>if D m then some none else none):=by
  intro m q _ hq
  by_cases hm:D m
  ·simp[hm]
  ·simp[hm,hq]
 refine hs.subst (w':=w) (fun _ h=>h) (fun _ _=>rfl) hsub ?_ ?_
 ·intro nm ob hl
  rw[hobj] at hl
  by_cases hd:D nm
  ·simp[hd] at hl
  ·simp only[hd,if_false] at hl ⊢
   obtain⟨ob0,hl0,rfl⟩:=Option.map_eq_some_iff.1 hl
   obtain⟨p,hp,ha⟩:=hs.ob nm ob0 hl0
   exact⟨p,hp,ha.subst (fun _ h=>h) (fun _ _=>rfl) hsub (fun _ _=>trivial) fun _ _ _=>rfl⟩
 ·intro nm hl
  rw[hobj] at hl
  by_cases hd:D nm
  ·simp[hd]
  ·simp only[hd,if_false] at hl ⊢
   exact hs.dom nm (by simpa using hl)
theorem Fr.letgo {ds:List Deferred} (hf:Fr cx w0 I0 F0 O0 Hd R e ds I F L w) {L':Loc} (hL:∀ nm p,L' nm=some p→L nm=some p):Fr cx w0 I0 F0 O0 Hd R e ds I F L' w :=
 hf.own rfl rfl rfl (Nat.le_refl _) (fun _ _ _=>rfl) (fun _ h=>h) (fun _ h=>.inl h)
  (fun nm b C hn=>⟨(hf.lB nm b C (hL _ _ hn)).2.1,(hf.lB nm b C (hL _ _ hn)).2.2.1,.inr ⟨nm,C,hL _ _ hn⟩⟩)
  (fun nm nm' b C C' h1 h2=>hf.inj nm nm' b C C' (hL _ _ h1) (hL _ _ h2))
theorem qrv {ds:List Deferred} (xs:List Nat) (hs:SR lp I L st tmv suf w) (hf:Fr cx w0 I0 F0 O0 Hd R e ds I F L w):∃ L',SR lp I L' (qgf xs st) tmv suf w∧Fr cx w0 I0 F0 O0 Hd R e ds I F L' w:=by
 unfold qgf
 split
 ·exact⟨L,hs,hf⟩
 ·refine⟨fun nm=>if xs.contains nm.1=true then none else L nm,?_,hf.letgo fun nm p hn=>?_⟩
  ·have:=hs.letgo (D:=fun nm=>xs.contains nm.1=true) (objs':=(st.objs.map (·.map (Ob.sub fun m=>if xs.contains m.1=true then some none else none))).zipIdx.map fun x=>if xs.contains x.2=true then [] else x.1) (by
    intro nm
    unfold qbf
    rw[List.getElem?_map,List.getElem?_zipIdx,List.getElem?_map]
    cases h0:st.objs[nm.1]? with
    | none=>simp
    | some l =>
     simp only[Option.map_some,Nat.zero_add]
     by_cases hd:xs.contains nm.1=true
     ·simp only[hd,if_true];rfl
     ·simp only[hd];simp)
   exact this
  ·change (if xs.contains nm.1=true then none else L nm)=some p at hn
   split at hn
   ·cases hn
   ·exact hn
theorem Qkt (hs:SR lp I L st a.tmps.toList suf w) {ops:Array Oper} {b:Bool} (h:qfo (ops.toList.map (qhb cx.P cx.G)) (qhb cx.P cx.G o) st.tmps=some b):Region.wanted o (yielded ops a.tmps)=b:=by
 unfold qfo at h
 have hg:(qhb cx.P cx.G o).guard=o.guard:=rfl
 rw[hg] at h
 unfold Region.wanted
 cases hgu:o.guard with
 | none=>rw[hgu] at h;simpa using h
 | some jw =>
  obtain⟨j,want⟩:=jw
  rw[hgu] at h
  simp only[List.getElem?_map,Array.getElem?_toList] at h
  cases hj:ops[j]? with
  | none=>rw[hj] at h;simp at h
  | some p =>
   rw[hj] at h
   simp only[Option.map_some] at h
   have hpd:(qhb cx.P cx.G p).dst=p.dst:=rfl
   rw[hpd] at h
   cases hd:p.dst with
   | none=>rw[hd] at h;simp at h
   | some d =>
    rw[hd] at h
    simp only at h
    cases hx:st.tmps[d]? with
    | none=>rw[List.getD_eq_getElem?_getD,hx] at h;simp at h
    | some x =>
     obtain⟨v,hv,hr⟩:=hs.tm.get hx
     rw[Array.getElem?_toList] at hv
     rw[List.getD_eq_getElem?_getD,hx] at h
     simp only[Option.getD_some] at h
     show (yielded ops a.tmps j==some want)=b
     split at h
     ·rename_i b'
      cases h
      have hy:yielded ops a.tmps j=some b':=by simp[yielded,hj,hd,hv,qd4 hr]
      rw[hy]
      cases b'<;>cases want<;>rfl
     ·cases h
      obtain⟨vs,rfl,_⟩:=inv_tup hr
      have hy:yielded ops a.tmps j=none:=by simp[yielded,hj,hd,hv]
      rw[hy]
      rfl
     ·cases h
inductive qym (M:qdb) {E:Type} (h:qbg E) (dep:Nat) (rops:List qbo):List Nat→St→E→St→E→Prop
 | nil (st:St) (e:E):qym M h dep rops [] st e st e
 | cons (i:Nat) (rest:List Nat) (o:qbo) (st st1 st2:St) (e e1 e2:E) (ho:rops[i]?=some o) (hs:stepG M h dep rops o st e=some (st1,e1)) (hr:qym M h dep rops rest st1 e1 st2 e2):qym M h dep rops (i :: rest) st e st2 e2
theorem qy5 (a:Act) (dst:Option Nat) (v:Value):(a.put dst v).defers=a.defers:=by cases dst<;>rfl
theorem qsd {ops:Array Oper} (hM:qgs cx M.call) (hsp:MSp cx M) (href:Ref cx lp R h dep w0 I0 F0) {ro:Option Nat} {Q:Exit→Act→World→Prop} {l':List Nat}:∀ {l:List Nat} {st st2:St} {e e2:E},qym M h dep (ops.toList.map (qhb cx.P cx.G)) l st e st2 e2 →
  ∀ {a:Act} {w:World} {I F:Nat→Prop} {L:Loc},SR lp I L st a.tmps.toList suf w→Fr cx w0 I0 F0 O0 Hd R e a.defers I F L w →
  (∀ a' w' I' F' L',SR lp I' L' st2 a'.tmps.toList suf w'→Fr cx w0 I0 F0 O0 Hd R e2 a'.defers I' F' L' w'→wpOpsIn (fen ro) 0 cx.P ops Q l' a' w')→wpOpsIn (fen ro) 0 cx.P ops Q (l++l') a w:=by
 intro l st st2 e e2 hrun
 induction hrun with
 | nil st e=>intro a w I F L hs hf hQ;exact hQ a w I F L hs hf
 | cons i rest ro' st st1 st2 e e1 e2 ho hstep _ ih =>
  intro a w I F L hs hf hQ
  simp only[List.getElem?_map,Array.getElem?_toList,Option.map_eq_some_iff] at ho
  obtain⟨o,ho,rfl⟩:=ho
  simp only[List.cons_append,wpOpsIn,ho]
  unfold stepG at hstep
  split at hstep
  ·rename_i hw
   rw[Qkt hs hw]
   simp only[if_true]
   unfold qpq at hstep
   split at hstep
   ·rename_i out e1' hout
    cases hstep
    exact step_op hM hsp href hs hf hout ro _ Q fun v' w' I' F' L' g1 g2=>ih g1 (by rw[qy5];exact g2) hQ
   ·cases hstep
  ·rename_i hw
   rw[Qkt hs hw]
   cases hstep
   refine⟨fun _ _=>trivial,?_⟩
   exact ih (hs.putO o.dst (.tup [] #[] .nil)) (by rw[qy5];exact hf) hQ
  ·cases hstep
theorem qv4 {rops:List qbo}:∀ (k:Nat) {st st2:St} {e e2:E},qf4 M h dep rops (rops.drop k) st e=some (st2,e2)→qym M h dep rops ((List.range rops.length).drop k) st e st2 e2:=by
 have key:∀ (n k:Nat) {st st2:St} {e e2:E},rops.length - k=n→qf4 M h dep rops (rops.drop k) st e=some (st2,e2)→qym M h dep rops ((List.range rops.length).drop k) st e st2 e2:=by
  intro n
  induction n with
  | zero =>
   intro k st st2 e e2 hn hr
   rw[List.drop_eq_nil_of_le (by omega)] at hr
   rw[List.drop_eq_nil_of_le (by simp;omega)]
   simp only[qf4,Option.some.injEq,Prod.mk.injEq] at hr
   obtain⟨rfl,rfl⟩:=hr
   exact .nil st e
  | succ n ih =>
   intro k st st2 e e2 hn hr
   have hk:k < rops.length:=by omega
   rw[List.drop_eq_getElem_cons hk] at hr
   rw[List.drop_eq_getElem_cons (by simpa using hk)]
   simp only[qf4] at hr
   split at hr
   ·rename_i st1 e1 hs1
    rw[List.getElem_range]
    exact .cons k _ rops[k] st st1 st2 e e1 e2 (List.getElem?_eq_getElem hk) hs1 (ih (k+1) (by omega) hr)
   ·cases hr
 intro k st st2 e e2 hr
 exact key _ k rfl hr
theorem Qd7 {ops:Array Oper} {id:Nat} (hM:qgs cx M.call) (hsp:MSp cx M) (href:Ref cx lp R h dep w0 I0 F0) {ro:Option Nat} {Q:Exit→Act→World→Prop} {st2:St} {e2:E}
  (hr:qf4 M h dep (ops.toList.map (qhb cx.P cx.G)) (ops.toList.map (qhb cx.P cx.G)) (qgf (qmp (ops.toList.map (qhb cx.P cx.G))) st) e=some (st2,e2))
  (hs:SR lp I L st a.tmps.toList suf w) (hf:Fr cx w0 I0 F0 O0 Hd R e a.defers I F L w)
  (hQ:∀ a' w' I' F' L',SR lp I' L' st2 a'.tmps.toList suf w'→Fr cx w0 I0 F0 O0 Hd R e2 a'.defers I' F' L' w'→Q .normal a' w'):(Code.region id ops false).wpIn (fen ro) 0 cx.P Q a w:=by
 obtain⟨L',hs',hf'⟩:=qrv (qmp (ops.toList.map (qhb cx.P cx.G))) hs hf
 refine wpIn_region ?_
 have:=qv4 0 (by simpa using hr)
 simp only[List.drop_zero,List.length_map,Array.length_toList] at this
 have:=qsd (l':=[]) (Q:=Q) (ro:=ro) hM hsp href this hs' hf' hQ
 rwa [List.append_nil] at this
end ops
end Go.Ab


namespace Go.Ab
def Ag (R:List Nm) (σ σ':Nm→Option Ob):Prop:=∀ nm∈R,σ nm=σ' nm
mutual
theorem PV.sub_congr {f g:Nm→Option (Option Ob)}:∀ (x:PV),(∀ nm∈x.names,f nm=g nm)→x.sub f=x.sub g
 | .agg cs,h=>by simp only[PV.sub];rw[qgh cs (by simpa[PV.names] using h)]
 | .iface t x,h=>by simp only[PV.sub];rw[PV.sub_congr x (by simpa[PV.names] using h)]
 | .fn k cap,h=>by simp only[PV.sub];rw[qgh cap (by simpa[PV.names] using h)]
 | .tup xs,h=>by simp only[PV.sub];rw[qgh xs (by simpa[PV.names] using h)]
 | .ref nm o,h=>by simp only[PV.sub,h nm (by simp[PV.names])]
 | .aref nm k i o,h=>by simp only[PV.sub,h nm (by simp[PV.names])]
 | .arr nm k o n,h=>by simp only[PV.sub,h nm (by simp[PV.names])]
 | .mp nm,h=>by simp only[PV.sub,h nm (by simp[PV.names])]
 | .it nm,h=>by simp only[PV.sub,h nm (by simp[PV.names])]
 | .undef,_=>rfl
 | .bool _,_=>rfl
 | .int _ _,_=>rfl
 | .str _,_=>rfl
 | .nilS,_=>rfl
 | .nilP,_=>rfl
 | .nilF,_=>rfl
 | .nilI,_=>rfl
 | .nilM,_=>rfl
 | .sl _ _ _,_=>rfl
 | .ptr _ _,_=>rfl
 | .yld _,_=>rfl
 | .imap _,_=>rfl
 | .glob _ _,_=>rfl
theorem qgh {f g:Nm→Option (Option Ob)}:∀ (xs:List PV),(∀ nm∈qbd xs,f nm=g nm)→qdy f xs=qdy g xs
 | [],_=>rfl
 | x :: xs,h=>by
  simp only[qdy]
  rw[PV.sub_congr x (fun nm hn=>h nm (List.mem_append_left _ hn)),qgh xs (fun nm hn=>h nm (List.mem_append_right _ hn))]
end
theorem Ob.sub_congr {f g:Nm→Option (Option Ob)} (o:Ob) (h:∀ nm∈o.names,f nm=g nm):o.sub f=o.sub g:=by
 cases o with
 | cells ty cs=>simp only[Ob.sub];rw[qgh cs h]
 | arr k kt xs=>rfl
 | map es=>rfl
 | siter s p=>rfl
mutual
theorem sub_id:∀ (x:PV),x.sub (fun _=>none)=x
 | .agg cs=>by simp[PV.sub,subL_id cs]
 | .iface t x=>by simp[PV.sub,sub_id x]
 | .fn g cap=>by simp[PV.sub,subL_id cap]
 | .tup xs=>by simp[PV.sub,subL_id xs]
 | .undef | .bool _ | .int _ _ | .str _ | .nilS | .nilP | .nilF | .nilI | .nilM | .sl _ _ _ | .ptr _ _ | .yld _ | .imap _ | .glob _ _ | .ref _ _ | .aref _ _ _ _ | .arr _ _ _ _ | .mp _ | .it _=>by simp[PV.sub]
theorem subL_id:∀ (xs:List PV),qdy (fun _=>none) xs=xs
 | []=>rfl
 | x :: xs=>by simp[qdy,sub_id x,subL_id xs]
end
theorem Ob.sub_id (o:Ob):o.sub (fun _=>none)=o:=by cases o<;>simp[Ob.sub,subL_id]
def nextN (σ:Nm→Option Ob) (l:List Nm):List Nm:=l.flatMap fun nm=>((σ nm).map Ob.names).getD []
theorem qjt (σ:Nm→Option Ob) (d:Nat) (l:List Nm):qbs σ (d+1) l=l++qbs σ d (nextN σ l):=rfl
theorem qsg {σ:Nm→Option Ob}:∀ (d:Nat) (l:List Nm) (nm:Nm),nm∈l→nm∈qbs σ d l
 | 0,_,_,h=>h
 | _+1,_,_,h=>List.mem_append_left _ h
theorem qhh {σ:Nm→Option Ob}:∀ (d:Nat) (l l':List Nm),(∀ nm∈l,nm∈l')→∀ nm∈qbs σ d l,nm∈qbs σ d l':=by
 intro d
 induction d with
 | zero=>intro l l' h;exact h
 | succ d ih =>
  intro l l' h nm hn
  rw[qjt] at hn ⊢
  rcases List.mem_append.1 hn with hn | hn
  ·exact List.mem_append_left _ (h nm hn)
  ·refine List.mem_append_right _ (ih _ _ (fun m hm=>?_) nm hn)
   obtain⟨k,hk,hm⟩:=List.mem_flatMap.1 hm
   exact List.mem_flatMap.2 ⟨k,h k hk,hm⟩
theorem next_congr {σ σ':Nm→Option Ob} {l:List Nm} (h:Ag l σ σ'):nextN σ l=nextN σ' l:=by
 unfold nextN
 induction l with
 | nil=>rfl
 | cons x l ih=>rw[List.flatMap_cons,List.flatMap_cons,h x List.mem_cons_self,ih fun nm hn=>h nm (List.mem_cons_of_mem _ hn)]
theorem qhi {σ σ':Nm→Option Ob}:∀ (d:Nat) (l:List Nm),Ag (qbs σ d l) σ σ'→qbs σ d l=qbs σ' d l:=by
 intro d
 induction d with
 | zero=>intro l _;rfl
 | succ d ih =>
  intro l h
  rw[qjt] at h
  have h1:Ag l σ σ':=fun nm hn=>h nm (List.mem_append_left _ hn)
  rw[qjt,qjt,←next_congr h1,ih _ fun nm hn=>h nm (List.mem_append_right _ hn)]
theorem Qdd {σ σ':Nm→Option Ob}:∀ (d:Nat) (o:Ob),Ag (qbs σ d o.names) σ σ'→qk9 σ (d+1) o=qk9 σ' (d+1) o:=by
 intro d
 induction d with
 | zero =>
  intro o h
  simp only[qk9]
  exact Ob.sub_congr o fun nm hn=>by rw[h nm hn]
 | succ d ih =>
  intro o h
  rw[qk9,qk9]
  refine Ob.sub_congr o fun nm hn=>?_
  have h1:=h nm (qsg _ _ _ hn)
  rw[←h1]
  cases ho:σ nm with
  | none=>rfl
  | some ob =>
   simp only[Option.map_some]
   rw[ih ob fun m hm=>h m ?_]
   rw[qjt]
   refine List.mem_append_right _ (qhh d _ _ (fun k hk=>List.mem_flatMap.2 ⟨nm,hn,by simpa[ho] using hk⟩) m hm)
theorem qh6 {σ σ':Nm→Option Ob} {S:List Nm} (h:Ag (qbs σ qbe S) σ σ'):∀ nm∈S,qb5 σ nm=qb5 σ' nm:=by
 intro nm hn
 have h1:=h nm (qsg _ _ _ hn)
 unfold qb5
 rw[←h1]
 cases ho:σ nm with
 | none=>rfl
 | some ob =>
  simp only[Option.map_some]
  rw[show qbe=2+1 from rfl,Qdd 2 ob fun m hm=>h m ?_]
  rw[show qbe=2+1 from rfl,qjt]
  exact List.mem_append_right _ (qhh 2 _ _ (fun k hk=>List.mem_flatMap.2 ⟨nm,hn,by simpa[ho] using hk⟩) m hm)
theorem qp0 {σ σ':Nm→Option Ob} {R:List Nm} (h:Ag R σ σ'):qf7 σ R=qf7 σ' R:=by
 unfold qf7
 have:∀ (l:List Nm),Ag l σ σ'→(l.all fun nm=>(((σ nm).map Ob.names).getD []).all fun m=>R.contains m)=(l.all fun nm=>(((σ' nm).map Ob.names).getD []).all fun m=>R.contains m):=by
  intro l
  induction l with
  | nil=>intro _;rfl
  | cons x l ih=>intro h;rw[List.all_cons,List.all_cons,h x List.mem_cons_self,ih fun nm hn=>h nm (List.mem_cons_of_mem _ hn)]
 exact this R h
theorem qdj {α:Type} {b:Bool} {x:Option α} {y:α} (h:chk b x=some y):b=true∧x=some y:=by
 cases b
 ·simp[chk] at h
 ·exact⟨rfl,by simpa[chk] using h⟩
theorem qtk {x:PV} {xs:List PV} (h:x∈xs):∀ nm∈x.names,nm∈qbd xs:=by
 induction xs with
 | nil=>cases h
 | cons y ys ih =>
  intro nm hn
  rcases List.mem_cons.1 h with rfl | h
  ·exact List.mem_append_left _ hn
  ·exact List.mem_append_right _ (ih h nm hn)
theorem qco {tm tm':List PV} {xs:List RX} (h:∀ x∈xs,x.ev tm=x.ev tm'):xs.map (RX.ev tm)=xs.map (RX.ev tm'):=List.map_congr_left h
theorem fill_congr {tm tm':List PV}:∀ (ps:List (Nat×Nat×RX)) (z:List PV),(∀ x∈ps.map (·.2.2),x.ev tm=x.ev tm')→qjk tm z ps=qjk tm' z ps:=by
 intro ps
 induction ps with
 | nil=>intro z _;rfl
 | cons p ps ih =>
  obtain⟨off,n,x⟩:=p
  intro z h
  simp only[qjk]
  rw[h x (by simp),ih _ fun y hy=>h y (by simp at hy ⊢;exact .inr hy)]
theorem qh5 {tm tm':List PV} {x:Option RX} (h:∀ y∈x.toList,y.ev tm=y.ev tm'):evO tm x=evO tm' x:=by
 cases x with
 | none=>rfl
 | some y=>simp only[evO];rw[h y (by simp)]
section
variable {σ σ':Nm→Option Ob} {tm tm':List PV}
theorem qmo {k:Nat} {v:PV} (h:∀ nm∈v.names,σ nm=σ' nm):qk8 σ k v=qk8 σ' k v:=by
 cases v<;>first | rfl | skip
 rename_i nm k' o n
 simp only[qk8]
 rw[h nm (by simp[PV.names])]
theorem len_congr {c:TC} {v:PV} (h:∀ nm∈v.names,σ nm=σ' nm):Qci σ c v=Qci σ' c v:=by
 cases v<;>cases c<;>first | rfl | skip
 rename_i nm
 simp only[Qci]
 rw[h nm (by simp[PV.names])]
theorem qsz {dst:Nat} (op:ROp) (hx:∀ x∈op.xs,x.ev tm=x.ev tm') (hσ:Ag (qbs σ qbe (qbd (op.xs.map (RX.ev tm)))) σ σ'):exec dst σ tm op=exec dst σ' tm' op:=by
 have hn:∀ x∈op.xs,∀ nm∈(x.ev tm).names,σ nm=σ' nm:=fun x hx nm hn=>hσ nm (qsg _ _ _ (qtk (List.mem_map_of_mem hx) nm hn))
 cases op with
 | mov x=>simp only[exec];rw[hx x (by simp[ROp.xs])]
 | pick c a b=>simp only[exec];rw[hx c (by simp[ROp.xs]),hx a (by simp[ROp.xs]),hx b (by simp[ROp.xs])]
 | box x=>simp only[exec];rw[hx x (by simp[ROp.xs])]
 | alloc z=>rfl
 | build z ps=>simp only[exec];rw[fill_congr ps z (by simpa[ROp.xs] using hx)]
 | mkSl k ps =>
  have h1:=qco (xs:=ps) hx
  simp only[ROp.xs] at hσ
  simp only[exec]
  rw[←h1]
  have h2:=qhi _ _ hσ
  rw[←h2,←qp0 hσ,qgh (f:=qb5 σ) (g:=qb5 σ') _ (qh6 hσ)]
 | load n ag x =>
  have h1:=hn x (by simp[ROp.xs])
  simp only[exec]
  rw[←hx x (by simp[ROp.xs])]
  cases hv:x.ev tm<;>first | rfl | skip
  all_goals (rw[hv] at h1;(try simp only);rw[h1 _ (by simp[PV.names])])
 | store n x v =>
  have h1:=hn x (by simp[ROp.xs])
  simp only[exec]
  rw[←hx x (by simp[ROp.xs]),←hx v (by simp[ROp.xs])]
  cases hv:x.ev tm<;>first | rfl | skip
  all_goals (rw[hv] at h1;(try simp only);rw[h1 _ (by simp[PV.names])])
 | nilck x=>simp only[exec];rw[hx x (by simp[ROp.xs])]
 | bin op c cst x y=>simp only[exec];rw[hx x (by simp[ROp.xs]),hx y (by simp[ROp.xs])]
 | un op x=>simp only[exec];rw[hx x (by simp[ROp.xs])]
 | conv k x=>simp only[exec];rw[hx x (by simp[ROp.xs])]
 | toBytes x=>simp only[exec];rw[hx x (by simp[ROp.xs])]
 | ofBytes x =>
  simp only[exec]
  rw[←hx x (by simp[ROp.xs]),qmo (hn x (by simp[ROp.xs]))]
 | ofRune x=>simp only[exec];rw[hx x (by simp[ROp.xs])]
 | strId x=>simp only[exec];rw[hx x (by simp[ROp.xs])]
 | mkI t x=>simp only[exec];rw[hx x (by simp[ROp.xs])]
 | mkF f cap=>simp only[exec];rw[qco (xs:=cap) hx]
 | mkMap=>rfl
 | insert c x k v =>
  have h1:=hn x (by simp[ROp.xs])
  simp only[exec]
  rw[←hx x (by simp[ROp.xs]),←hx k (by simp[ROp.xs]),←hx v (by simp[ROp.xs])]
  have hv2:Ag (qbs σ qbe (v.ev tm).names) σ σ':=fun nm hn=>hσ nm (qhh _ _ _ (fun m hm=>by simp[ROp.xs,qbd,hm]) nm hn)
  have hsh:qf7 σ (if (v.ev tm).names.isEmpty=true then [] else qbs σ qbe (v.ev tm).names)=qf7 σ' (if (v.ev tm).names.isEmpty=true then [] else qbs σ qbe (v.ev tm).names):=by
   split
   ·rfl
   ·exact qp0 hv2
  rw[←qhi _ _ hv2,hsh,PV.sub_congr (f:=qb5 σ) (g:=qb5 σ') (v.ev tm) (qh6 hv2)]
  cases hv:x.ev tm<;>first | rfl | skip
  all_goals (rw[hv] at h1;(try simp only);rw[h1 _ (by simp[PV.names])])
 | lookup c z ok x k =>
  have h1:=hn x (by simp[ROp.xs])
  simp only[exec]
  rw[←hx x (by simp[ROp.xs]),←hx k (by simp[ROp.xs])]
  cases hv:x.ev tm<;>first | rfl | skip
  all_goals (rw[hv] at h1;(try simp only);rw[h1 _ (by simp[PV.names])])
 | mkS k z l c=>simp only[exec];rw[hx l (by simp[ROp.xs]),hx c (by simp[ROp.xs])]
 | slice k x lo hi mx =>
  simp only[ROp.xs] at hx
  simp only[exec]
  rw[hx x (by simp),qh5 (x:=lo) fun y hy=>hx y (by simp at hy ⊢;simp[hy]),qh5 (x:=hi) fun y hy=>hx y (by simp at hy ⊢;simp[hy]),qh5 (x:=mx) fun y hy=>hx y (by simp at hy ⊢;simp[hy])]
 | strSlice x lo hi =>
  simp only[ROp.xs] at hx
  simp only[exec]
  rw[hx x (by simp),qh5 (x:=lo) fun y hy=>hx y (by simp at hy ⊢;simp[hy]),qh5 (x:=hi) fun y hy=>hx y (by simp at hy ⊢;simp[hy])]
 | fieldAddr off x=>simp only[exec];rw[hx x (by simp[ROp.xs])]
 | field off n ag x=>simp only[exec];rw[hx x (by simp[ROp.xs])]
 | idxAddr k x i=>simp only[exec];rw[hx x (by simp[ROp.xs]),hx i (by simp[ROp.xs])]
 | idxAddrA k len x i=>simp only[exec];rw[hx x (by simp[ROp.xs]),hx i (by simp[ROp.xs])]
 | strIdx x i=>simp only[exec];rw[hx x (by simp[ROp.xs]),hx i (by simp[ROp.xs])]
 | extract j x=>simp only[exec];rw[hx x (by simp[ROp.xs])]
 | len c x =>
  simp only[exec]
  rw[←hx x (by simp[ROp.xs]),len_congr (hn x (by simp[ROp.xs]))]
 | append k ty s x =>
  have h1:=hn s (by simp[ROp.xs])
  simp only[exec]
  rw[←hx x (by simp[ROp.xs]),←hx s (by simp[ROp.xs]),qmo (hn x (by simp[ROp.xs]))]
  cases hv:s.ev tm with
  | arr nm k' o n =>
   rw[hv] at h1
   have:=h1 nm (by simp[PV.names])
   cases qk8 σ' k (x.ev tm) with
   | none=>rfl
   | some ys=>show (match σ nm with | some (.arr k'' kt xs)=>_ | _=>none)=_;rw[this];rfl
  | sl k' xs full=>cases full<;>rfl
  | _=>rfl
 | copy k d s =>
  have h1:=hn d (by simp[ROp.xs])
  simp only[exec]
  rw[←hx s (by simp[ROp.xs]),←hx d (by simp[ROp.xs]),qmo (hn s (by simp[ROp.xs]))]
  cases hv:d.ev tm<;>first | rfl | skip
  all_goals (rw[hv] at h1;(try simp only);try rw[h1 _ (by simp[PV.names])])
 | minmax mx xs=>simp only[exec];rw[qco (xs:=xs) hx]
 | call f args=>rfl
 | iter x=>simp only[exec];rw[hx x (by simp[ROp.xs])]
 | next x =>
  have h1:=hn x (by simp[ROp.xs])
  simp only[exec]
  rw[←hx x (by simp[ROp.xs])]
  cases hv:x.ev tm<;>first | rfl | skip
  all_goals (rw[hv] at h1;(try simp only);rw[h1 _ (by simp[PV.names])])
 | tassert t z ok x=>simp only[exec];rw[hx x (by simp[ROp.xs])]
 | bad=>rfl
theorem exec_blind {dst:Nat} (op:ROp) (hb:qr0 op=true) (hx:∀ x∈op.xs,x.ev tm=x.ev tm'):exec dst σ tm op=exec dst σ' tm' op:=by
 cases op<;>simp only[qr0] at hb<;>first | (cases hb;done) | skip
 case mov x=>simp only[exec];rw[hx x (by simp[ROp.xs])]
 case pick c a b=>simp only[exec];rw[hx c (by simp[ROp.xs]),hx a (by simp[ROp.xs]),hx b (by simp[ROp.xs])]
 case nilck x=>simp only[exec];rw[hx x (by simp[ROp.xs])]
 case mkI t x=>simp only[exec];rw[hx x (by simp[ROp.xs])]
 case mkF f cap=>simp only[exec];rw[qco (xs:=cap) hx]
 case fieldAddr off x=>simp only[exec];rw[hx x (by simp[ROp.xs])]
 case extract j x=>simp only[exec];rw[hx x (by simp[ROp.xs])]
 case slice k x lo hi mx =>
  simp only[ROp.xs] at hx
  simp only[exec]
  rw[hx x (by simp),qh5 (x:=lo) fun y hy=>hx y (by simp at hy ⊢;simp[hy]),qh5 (x:=hi) fun y hy=>hx y (by simp at hy ⊢;simp[hy]),qh5 (x:=mx) fun y hy=>hx y (by simp at hy ⊢;simp[hy])]
theorem exec_load {dst:Nat} (op:ROp) (hb:qgn op=true) (hx:∀ x∈op.xs,x.ev tm=x.ev tm') (hag:Ag (qbd (op.xs.map (RX.ev tm))) σ σ'):exec dst σ tm op=exec dst σ' tm' op:=by
 cases op<;>simp only[qgn] at hb<;>first | (cases hb;done) | skip
 case load n ag x =>
  have hxe:=hx x (by simp[ROp.xs])
  have h:∀ nm∈(x.ev tm).names,σ nm=σ' nm:=fun nm hn=>hag nm (by simpa[ROp.xs,qbd] using hn)
  simp only[exec,←hxe]
  cases hev:x.ev tm with
  | ref nm o=>simp only[h nm (by rw[hev];simp[PV.names])]
  | aref nm k i o=>simp only[h nm (by rw[hev];simp[PV.names])]
  | _=>rfl
def Qdn (sp:FuncId→(Nm→Option Ob)→List PV→Option Out):Prop:=∀ (g:FuncId) (σ σ':Nm→Option Ob) (vs:List PV),Ag (qbs σ qbe (qbd vs)) σ σ'→sp g σ vs=sp g σ' vs
def Qdo (io:FuncId→Nat→(Nm→Option Ob)→List PV→Option Out):Prop:=∀ (g:FuncId) (d:Nat) (σ σ':Nm→Option Ob) (vs:List PV) (out:Out),Ag (qbs σ qbe (qbd vs)) σ σ'→io g d σ vs=some out→(qbp out=true∨qcp out=true)→io g d σ' vs=some out
structure Qhr (M:qdb):Prop where
 sp:Qdn M.sp
 io:Qdo M.io
theorem qrd:∀ {xs:List PV},qcu xs=false↔∀ x∈xs,x.hasY=false
 | []=>by simp[qcu]
 | x :: xs=>by simp[qcu,qrd (xs:=xs)]
theorem qli {nm:Nm}:∀ {xs:List PV},nm∈qbd xs↔∃ x∈xs,nm∈x.names
 | []=>by simp[qbd]
 | x :: xs=>by simp[qbd,qli (xs:=xs)]
theorem qsv {f:FuncId} {vs cap:List PV} {x:PV} (h:x∈qb3 f vs cap):x∈vs∨x∈cap:=by
 unfold qb3 at h
 split at h
 ·exact List.mem_append.1 h
 ·rcases List.mem_append.1 h with h | h
  ·exact .inr (List.mem_of_mem_take h)
  ·rcases List.mem_append.1 h with h | h
   ·exact .inl h
   ·exact .inr (List.mem_of_mem_drop h)
theorem call_congr {M:qdb} (hM:Qhr M) {E:Type} {h:qbg E} {dep dst:Nat} {f:RX} {args:List RX} {e e1:E} {out:Out} (hx:∀ x∈(f :: args),x.ev tm=x.ev tm') (hσ:Ag (qbs σ qbe (qbd ((f :: args).map (RX.ev tm)))) σ σ')
  (hy:qcu ((f :: args).map (RX.ev tm))=false) (hst:qbp out=true∨qcp out=true) (hc:qb1 M h dep dst σ tm f args e=some (out,e1)):e1=e∧∀ e2:E,qb1 M h dep dst σ' tm' f args e2=some (out,e2):=by
 have hf:=hx f List.mem_cons_self
 have ha:=qco (xs:=args) fun x h=>hx x (List.mem_cons_of_mem _ h)
 have hyf:(f.ev tm).hasY=false:=(Bool.or_eq_false_iff.1 hy).1
 have hya:qcu (args.map (RX.ev tm))=false:=(Bool.or_eq_false_iff.1 hy).2
 unfold qb1 at hc ⊢
 rw[←hf,←ha]
 cases hv:f.ev tm with
 | yld d=>rw[hv] at hyf;simp[PV.hasY] at hyf
 | fn g cap =>
  rw[hv] at hc hyf
  simp only[PV.hasY] at hyf
  have hyv:qcu (qb3 g (args.map (RX.ev tm)) cap)=false:=qrd.2 fun x hx=>(qsv hx).elim (qrd.1 hya x) (qrd.1 hyf x)
  have hsub:∀ nm∈qbd (qb3 g (args.map (RX.ev tm)) cap),nm∈qbd ((f :: args).map (RX.ev tm)):=by
   intro nm hn
   obtain⟨x,hx,hn⟩:=qli.1 hn
   rcases qsv hx with h | h
   ·exact List.mem_append_right _ (qli.2 ⟨x,h,hn⟩)
   ·refine List.mem_append_left _ ?_
    rw[hv];simp only[PV.names];exact qli.2 ⟨x,h,hn⟩
  have hσ2:Ag (qbs σ qbe (qbd (qb3 g (args.map (RX.ev tm)) cap))) σ σ':=fun nm hn=>hσ nm (qhh _ _ _ hsub nm hn)
  simp only at hc ⊢
  rw[←hM.sp (qd2 g) σ σ' _ hσ2,←qhi _ _ hσ2,←qp0 hσ2,←qgh (f:=qb5 σ) (g:=qb5 σ') _ (qh6 hσ2)]
  split at hc
  ·rename_i out1 hsp
   cases hc
   exact⟨rfl,fun e2=>by simp⟩
  ·rename_i hsp
   split at hc
   ·rename_i hio
    simp only[hio,if_true]
    split at hc
    ·rename_i out1 ho
     cases hc
     exact⟨rfl,fun e2=>by simp[hM.io (qd2 g) dst σ σ' _ _ hσ2 ho hst]⟩
    ·cases hc
   rename_i hio
   simp only[hio,Bool.false_eq_true,if_false]
   rw[hyv] at hc ⊢
   simp only[Bool.false_eq_true,if_false] at hc ⊢
   split at hc
   ·rename_i hS
    split at hc
    ·rename_i r obs u hcall
     cases hc
     exact⟨rfl,fun e2=>by simp[hS,hcall]⟩
    ·cases hc
   ·rename_i hS
    obtain⟨hk,hc2⟩:=qdj hc
    split at hc2
    ·rename_i r obs u hcall
     cases hc2
     exact⟨rfl,fun e2=>by simp[hS,hk,hcall,chk]⟩
    ·cases hc2
 | _=>rw[hv] at hc;simp at hc
end
end Go.Ab


namespace Go.Ab
section swap
variable {M:qdb} {E:Type} {h:qbg E} {dep:Nat} {rops:List qbo}
theorem qn6 {i:Nat} {o:qbo} {st:St} {e e1:E} {out:Out} {info:qlb} (hx:qhc M h dep rops i o st e=some (out,e1,info)):info.dst=o.dst:=by
 unfold qhc at hx
 split at hx
 ·split at hx
  ·cases hx;rfl
  ·cases hx
 ·cases hx;rfl
 ·cases hx
theorem xs_isCall (op:ROp):qg1 op=true→∃ f args,op=.call f args:=by
 cases op<;>simp[qg1]
theorem qgp {tm tm':List PV} {l:List Nat} (h:∀ s∈l,tm.getD s .undef=tm'.getD s .undef):(l.flatMap fun s=>(tm'.getD s .undef).names)=l.flatMap fun s=>(tm.getD s .undef).names:=by
 rw[List.flatMap_def,List.flatMap_def,List.map_congr_left fun s hs=>by rw[←h s hs]]
theorem qw2 {op:ROp} {tm tm':List PV} (h:∀ x∈op.xs,x.ev tm=x.ev tm'):qq8 op tm=qq8 op tm':=by
 cases op<;>try rfl
 rename_i f args
 unfold qq8
 simp only
 rw[h f (by simp[ROp.xs]),qco (xs:=args) fun x hx=>h x (by simp[ROp.xs,hx])]
theorem qzk {op:ROp} {tm tm':List PV} {v:PV} (h:∀ x∈op.xs,x.ev tm=x.ev tm'):ldOf op tm v=ldOf op tm' v:=by
 cases op<;>try rfl
 rename_i n ag x
 unfold ldOf
 simp only
 rw[h x (by simp[ROp.xs])]
theorem qc5 (hM:Qhr M) {i:Nat} {o:qbo} {st st':St} {e e1:E} {out:Out} {info:qlb} (hx:qhc M h dep rops i o st e=some (out,e1,info)) (hc:info.cls=.quiet∨info.cls=.turns)
  (h1:∀ s∈info.reads,st.tmps.getD s .undef=st'.tmps.getD s .undef) (h2:∀ nm∈info.rn,qbf st.objs nm=qbf st'.objs nm) (h3:qcz o st'=qcz o st) :
  (qbp out=true∨qcp out=true)∧e1=e∧∀ e2:E,qhc M h dep rops i o st' e2=some (out,e2,info):=by
 have hw:(∀ s∈qby rops o,st.tmps.getD s .undef=st'.tmps.getD s .undef)→qfo rops o st'.tmps=qfo rops o st.tmps:=by
  intro hg
  unfold qfo qby at *
  cases hgu:o.guard with
  | none=>rfl
  | some jw =>
   obtain⟨j,want⟩:=jw
   rw[hgu] at hg
   simp only at hg ⊢
   cases hj:rops[j]? with
   | none=>rfl
   | some p =>
    rw[hj] at hg
    simp only at hg ⊢
    cases hd:p.dst with
    | none=>rfl
    | some d =>
     rw[hd] at hg
     simp only
     rw[hg d (by simp)]
 unfold qhc at hx
 split at hx
 ·rename_i hwt
  split at hx
  ·rename_i out' e1' hout
   cases hx
   simp only[qfx] at h1 h2 hc
   have hyn0:(qg1 o.op&&qcu (o.op.xs.map (RX.ev st.tmps)))=false:=by
    cases hb:(qg1 o.op&&qcu (o.op.xs.map (RX.ev st.tmps))) with
    | false=>rfl
    | true =>
     cases hy:qq8 o.op st.tmps<;>simp[hb,hy] at hc
   have hyn:qg1 o.op=true→qcu (o.op.xs.map (RX.ev st.tmps))=false:=fun h=>by rw[h] at hyn0;simpa using hyn0
   have hst:qbp out=true∨qcp out=true:=by
    rw[hyn0] at hc
    cases hb:qbp out with
    | true=>exact .inl rfl
    | false =>
     cases hb2:qcp out with
     | true=>exact .inr rfl
     | false=>rw[hb,hb2] at hc;cases hb3:qyh out<;>simp[hb3] at hc
   have hxs:∀ x∈o.op.xs,x.ev st.tmps=x.ev st'.tmps:=by
    intro x hx
    cases x with
    | c v=>rfl
    | t s=>exact h1 s (List.mem_append_left _ (List.mem_filterMap.2 ⟨.t s,hx,rfl⟩))
   have hfr:=h3
   have hwt':=hw fun s hs=>h1 s (List.mem_append_right _ hs)
   have h2':(qr0 o.op&&qbp out)=false→Ag (qbs (qbf st.objs) (qgy o.op (qbp out)) (qbd (o.op.xs.map (RX.ev st.tmps))++out.frz)) (qbf st.objs) (qbf st'.objs):=fun hb=>by
    unfold qv7 at h2
    rw[if_neg (by rw[hb];simp)] at h2
    exact h2
   have hrn:qv7 o st' out=qv7 o st out:=by
    unfold qv7
    rw[←qco hxs]
    cases hb:(qr0 o.op&&qbp out) with
    | true=>rfl
    | false=>rw[←qhi _ _ (h2' hb)]
   have hrv:qyl (qbf st'.objs) (qv7 o st out)=qyl (qbf st.objs) (qv7 o st out):=by
    unfold qyl
    rw[List.flatMap_def,List.flatMap_def,List.map_congr_left fun nm hn=>by rw[←h2 nm hn]]
   have hup:out.ups=[]:=by
    rcases hst with hs | hs
    ·unfold qbp at hs;simp only[Bool.and_eq_true,List.isEmpty_iff] at hs;exact hs.1.2
    ·unfold qcp at hs;simp only[Bool.and_eq_true,List.isEmpty_iff] at hs;exact hs.1.1.2
   have hinfo:qfx rops i o st' out=qfx rops i o st out:=by
    unfold qfx
    rw[hrn,hrv,←qw2 hxs,←qco hxs,qgp h1,←qzk hxs,hup]
    rfl
   have h2s:(qr0 o.op&&qbp out)=false→Ag (qbs (qbf st.objs) (qgy o.op (qbp out)) (qbd (o.op.xs.map (RX.ev st.tmps)))) (qbf st.objs) (qbf st'.objs):=fun hb nm hn =>
    h2' hb nm (qhh _ _ _ (fun m hm=>List.mem_append_left _ hm) nm hn)
   unfold qfj at hout
   obtain⟨hf,hout⟩:=qbh hout
   have key:e1=e∧∀ e2:E,qfj M h dep o st' e2=some (out,e2):=by
    unfold qfj
    rw[hfr,hf]
    cases hic:qg1 o.op with
    | true =>
     obtain⟨f,args,hop⟩:=xs_isCall _ hic
     have hyn:=hyn hic
     rw[hop] at hout hxs h2s hyn
     rw[hop]
     obtain⟨hout,hgd⟩:=qny hout
     obtain⟨g1,g2⟩:=call_congr (σ:=qbf st.objs) (σ':=qbf st'.objs) (tm:=st.tmps) (tm':=st'.tmps) hM hxs (h2s rfl) hyn hst hout
     exact⟨g1,fun e2=>by simp[chk,g2 e2,hgd]⟩
    | false =>
     have hout':exec (o.dst.getD 0) (qbf st.objs) st.tmps o.op=some out∧e1=e:=by
      cases hop:o.op<;>rw[hop] at hout hic<;>simp[qg1] at hic<;>(simp only at hout;split at hout<;>simp_all)
     have hcg:exec (o.dst.getD 0) (qbf st.objs) st.tmps o.op=exec (o.dst.getD 0) (qbf st'.objs) st'.tmps o.op:=by
      cases hb:(qr0 o.op&&qbp out) with
      | true=>exact exec_blind o.op (by revert hb;cases qr0 o.op<;>simp) hxs
      | false =>
       have h2q:=h2s hb
       unfold qgy at h2q
       cases hl:(qgn o.op&&qbp out) with
       | true =>
        rw[if_pos hl] at h2q
        exact exec_load o.op (by revert hl;cases qgn o.op<;>simp) hxs h2q
       | false =>
        rw[if_neg (by rw[hl];simp)] at h2q
        exact qsz o.op hxs h2q
     rw[hout'.1] at hcg
     refine⟨hout'.2,fun e2=>?_⟩
     cases hop:o.op<;>rw[hop] at hcg hic<;>simp[qg1] at hic<;>simp[chk,←hcg]
   refine⟨hst,key.1,fun e2=>?_⟩
   unfold qhc
   rw[hwt',hwt]
   simp only[key.2 e2,hinfo]
  ·cases hx
 ·rename_i hwt
  cases hx
  refine⟨.inl rfl,rfl,fun e2=>?_⟩
  unfold qhc
  rw[hw fun s hs=>h1 s hs,hwt,qgp h1]
 ·cases hx
theorem qki {st:St} {dst:Option Nat} {out:Out} (hs:qbp out=true):apply st dst out=match dst with
  | some d=>{st with tmps:=st.tmps.set d out.v,objs:=if out.new.isEmpty then st.objs else st.objs.set d out.new}
  | none=>st:=by
 unfold qbp at hs
 simp only[Bool.and_eq_true,Option.isNone_iff_eq_none,List.isEmpty_iff] at hs
 obtain⟨⟨⟨⟨⟨h1,h2⟩,h3⟩,h4⟩,h5⟩,h6⟩:=hs
 unfold apply
 rw[h1,h2,h3,h4,h5,h6]
 cases dst<;>simp
theorem qgj {st:St} {dst:Option Nat} {out:Out} (hs:qbp out=true) {s:Nat} (h:s ∉ dst.toList):(apply st dst out).tmps.getD s .undef=st.tmps.getD s .undef:=by
 rw[qki hs]
 cases dst with
 | none=>rfl
 | some d =>
  have hne:d≠s:=fun e=>h (by simp[e])
  simp only[List.getD_eq_getElem?_getD,List.getElem?_set_ne hne]
theorem qgk {st:St} {dst:Option Nat} {out:Out} (hs:qbp out=true) {nm:Nm} (h:nm.1 ∉ dst.toList):qbf (apply st dst out).objs nm=qbf st.objs nm:=by
 rw[qki hs]
 cases dst with
 | none=>rfl
 | some d =>
  have hne:nm.1≠d:=fun e=>h (by simp[e])
  simp only
  split
  ·rfl
  ·exact qbw _ hne
theorem Ql5 {o:qbo} {st st':St} (h:∀ d,o.dst=some d→((st'.objs[d]?).map List.isEmpty=(st.objs[d]?).map List.isEmpty)):qcz o st'=qcz o st:=by
 unfold qcz
 cases hm:qlj o.op with
 | false=>rfl
 | true =>
  simp only[if_true]
  cases hd:o.dst with
  | none=>rfl
  | some d =>
   have:=h d hd
   simp only
   cases h1:st'.objs[d]? with
   | none=>rw[h1] at this;cases h2:st.objs[d]? with
    | none=>rfl
    | some l=>rw[h2] at this;cases this
   | some l'=>rw[h1] at this;cases h2:st.objs[d]? with
    | none=>rw[h2] at this;cases this
    | some l =>
     rw[h2] at this
     simp only[Option.map_some,Option.some.injEq] at this
     cases l<;>cases l'<;>simp_all
theorem qfs {st:St} {dst:Option Nat} {out:Out} (hs:qbp out=true) {o:qbo} (h:∀ d,o.dst=some d→d ∉ dst.toList):qcz o (apply st dst out)=qcz o st:=by
 refine Ql5 fun d' hd'=>?_
 have h:=h d' hd'
 rw[qki hs]
 cases dst with
 | none=>rfl
 | some d =>
  have hne:d≠d':=fun e=>h (by simp[e])
  simp only
  split
  ·rfl
  ·rw[List.getElem?_set_ne hne]
def qr8 (u:Option (Nm×Ob)) (st:St):St :=
 match u with
 | some (nm,ob)=>{st with objs:=qb9 st.objs nm ob}
 | none=>st
def Qgf (σ:Nm→Option Ob) (R:List Nm) (st:St):St:=if R.isEmpty then st else qbt σ R st
def qk4 (k:Option Nm) (st:St):St :=
 match k with
 | some nm=>qhf (fun m=>if m=nm then some none else none) st
 | none=>st
def zs (o:Out):List Nm:=o.frz++o.kill.toList
def qti (dst:Option Nat) (v:PV) (new:List Ob) (st:St):St :=
 match dst with
 | some d=>{st with tmps:=st.tmps.set d v,objs:=if new.isEmpty then st.objs else st.objs.set d new}
 | none=>st
theorem qcj {st:St} {dst:Option Nat} {out:Out} (hs:qbp out=true):apply st dst out=qti dst out.v out.new st:=by
 rw[qki hs];cases dst<;>rfl
theorem qf0 {st:St} {dst:Option Nat} {out:Out} (hs:qcp out=true):apply st dst out=qti dst out.v out.new (Qgf (qbf st.objs) out.frz (qk4 out.kill (qr8 out.upd st))):=by
 unfold qcp at hs
 simp only[Bool.and_eq_true,Option.isNone_iff_eq_none,List.isEmpty_iff] at hs
 obtain⟨⟨⟨h2,h3⟩,h4⟩,_⟩:=hs
 unfold apply
 rw[h2,h3,h4]
 unfold Qgf
 cases hu:out.upd<;>cases hk:out.kill<;>cases dst<;>cases hf:out.frz<;>simp[qti,qr8,qk4]
theorem qqs {d d':Option Nat} (h:∀ x∈d'.toList,x ∉ d.toList) (v v':PV) (n n':List Ob) (st:St):qti d v n (qti d' v' n' st)=qti d' v' n' (qti d v n st):=by
 cases d with
 | none=>rfl
 | some x =>
  cases d' with
  | none=>rfl
  | some y =>
   have hne:x≠y:=fun e=>h y (by simp) (by simp[e])
   simp only[qti,St.mk.injEq]
   refine⟨List.set_comm _ _ hne.symm,?_,trivial⟩
   split<;>split<;>simp_all [List.set_comm]
theorem Qfa {objs:List (List Ob)} {nm:Nm} {o:Ob} {d:Nat} {new:List Ob} (h:nm.1≠d):qb9 (objs.set d new) nm o=(qb9 objs nm o).set d new:=by
 unfold qb9
 rw[List.getElem?_set_ne (Ne.symm h)]
 cases hg:objs[nm.1]? with
 | none=>rfl
 | some l=>simp only;rw[List.set_comm _ _ (Ne.symm h)]
theorem updP_setD {u:Option (Nm×Ob)} {d:Option Nat} (h:∀ p,u=some p→p.1.1 ∉ d.toList) (v:PV) (n:List Ob) (st:St):qr8 u (qti d v n st)=qti d v n (qr8 u st):=by
 cases u with
 | none=>rfl
 | some p =>
  obtain⟨nm,ob⟩:=p
  cases d with
  | none=>rfl
  | some d =>
   have hne:nm.1≠d:=fun e=>h _ rfl (by simp[e])
   simp only[qr8,qti,St.mk.injEq,true_and,and_true]
   split
   ·rfl
   ·exact Qfa hne
theorem puts_set {d:Nat} {new:List Ob}:∀ (R:List Nm) (objs:List (List Ob)),(∀ nm∈R,nm.1≠d)→R.foldl (fun objs nm=>qb9 objs nm qd5) (objs.set d new)=(R.foldl (fun objs nm=>qb9 objs nm qd5) objs).set d new:=by
 intro R
 induction R with
 | nil=>intro objs _;rfl
 | cons nm R ih =>
  intro objs h
  simp only[List.foldl_cons]
  rw[Qfa (h nm List.mem_cons_self),ih _ fun m hm=>h m (List.mem_cons_of_mem _ hm)]
theorem qyr (x:PV) {f:Nm→Option (Option Ob)} (h:∀ nm∈x.names,f nm=none):x.sub f=x:=by
 rw[PV.sub_congr (f:=f) (g:=fun _=>none) x h]
 exact sub_id x
theorem frzP_setD {R:List Nm} {d:Option Nat} {σ σ':Nm→Option Ob} {v:PV} {n:List Ob} (hσ:∀ nm∈R,qb5 σ' nm=qb5 σ nm) (h:∀ nm∈R,nm.1 ∉ d.toList) (hv:R≠[]→∀ nm∈v.names,nm ∉ R) (hn:R≠[]→∀ o∈n,∀ nm∈o.names,nm ∉ R) (st:St) :
  Qgf σ' R (qti d v n st)=qti d v n (Qgf σ R st):=by
 unfold Qgf
 by_cases hR:R=[]
 ·subst hR;rfl
 have hE:R.isEmpty=false:=by cases R<;>simp_all
 have hf:(fun m=>if R.contains m then qb5 σ' m else none)=(fun m=>if R.contains m then qb5 σ m else none):=by
  funext m
  by_cases hm:R.contains m=true
  ·rw[if_pos hm,if_pos hm,hσ m (by simpa using hm)]
  ·rw[if_neg hm,if_neg hm]
 simp only[hE,Bool.false_eq_true,if_false]
 unfold qbt
 rw[hf]
 generalize hg:(fun m=>if R.contains m then qb5 σ m else none)=f
 have hfn:∀ nm,nm ∉ R→f nm=none:=fun nm h=>by
  rw[←hg];simp only;rw[if_neg (by simpa using h)]
 cases d with
 | none=>rfl
 | some d =>
  have h':∀ nm∈R,nm.1≠d:=fun nm hm e=>h nm hm (by simp[e])
  have hvs:v.sub f=v:=qyr v fun nm hm=>hfn nm (hv hR nm hm)
  have hns:n.map (Ob.sub f)=n:=by
   have:∀ o∈n,Ob.sub f o=o:=fun o ho=>by
    rw[Ob.sub_congr (f:=f) (g:=fun _=>none) o fun nm hm=>hfn nm (hn hR o ho nm hm)]
    exact Ob.sub_id o
   exact (List.map_congr_left this).trans (List.map_id' n)
  have htm:qdy f (st.tmps.set d v)=(qdy f st.tmps).set d v:=by
   have key:∀ (l:List PV),qdy f l=l.map (PV.sub f):=by
    intro l
    induction l with
    | nil=>rfl
    | cons x l ih=>simp only[qdy,List.map_cons,ih]
   rw[key,key,List.map_set,hvs]
  simp only[qti,qhf,St.mk.injEq,and_true]
  refine⟨htm,?_⟩
  split
  ·rfl
  ·rw[List.map_set,hns]
   exact puts_set R _ h'
theorem qqm (f:Nm→Option (Option Ob)):∀ (l:List PV),qdy f l=l.map (PV.sub f)
 | []=>rfl
 | x :: l=>by simp only[qdy,List.map_cons,qqm f l]
theorem obsub_no {n:List Ob} {f:Nm→Option (Option Ob)} (h:∀ o∈n,∀ nm∈o.names,f nm=none):n.map (Ob.sub f)=n:=by
 have:∀ o∈n,Ob.sub f o=o:=fun o ho=>by
  rw[Ob.sub_congr (f:=f) (g:=fun _=>none) o fun nm hm=>h o ho nm hm]
  exact Ob.sub_id o
 exact (List.map_congr_left this).trans (List.map_id' n)
theorem killP_setD {k:Option Nm} {d:Option Nat} {v:PV} {n:List Ob} (hv:∀ nm∈v.names,nm ∉ k.toList) (hn:∀ o∈n,∀ nm∈o.names,nm ∉ k.toList) (st:St):qk4 k (qti d v n st)=qti d v n (qk4 k st):=by
 cases k with
 | none=>rfl
 | some nm =>
  cases d with
  | none=>rfl
  | some d =>
   have hf:∀ m,m ∉ (some nm).toList→(if m=nm then some none else none:Option (Option Ob))=none:=fun m hm=>if_neg fun e=>hm (by simp[e])
   simp only[qk4,qti,qhf,St.mk.injEq,and_true]
   refine⟨by rw[qqm,qqm,List.map_set,qyr v fun m hm=>hf m (hv m hm)],?_⟩
   split
   ·rfl
   ·rw[List.map_set,obsub_no fun o ho m hm=>hf m (hn o ho m hm)]
theorem Qdq {out:Out} (hz:zs out=[]):out.frz=[]∧out.kill=none:=by
 unfold zs at hz
 obtain⟨h1,h2⟩:=List.append_eq_nil_iff.1 hz
 exact⟨h1,by cases hk:out.kill with | none=>rfl | some k=>rw[hk] at h2;cases h2⟩
theorem qyp {st:St} {dst:Option Nat} {out:Out} (hs:qcp out=true) (hz:zs out=[]) {s:Nat} (h:s ∉ dst.toList):(apply st dst out).tmps.getD s .undef=st.tmps.getD s .undef:=by
 rw[qf0 hs,(Qdq hz).1,(Qdq hz).2]
 have:(qr8 out.upd st).tmps=st.tmps:=by cases out.upd<;>rfl
 cases dst with
 | none=>simp only[qti,Qgf,qk4,List.isEmpty_nil,if_true];rw[this]
 | some d =>
  have hne:d≠s:=fun e=>h (by simp[e])
  simp only[qti,Qgf,qk4,List.isEmpty_nil,if_true,this,List.getD_eq_getElem?_getD,List.getElem?_set_ne hne]
theorem outD_vn {i:Nat} {o:qbo} {st:St} {e e1:E} {out:Out} {info:qlb} (hx:qhc M h dep rops i o st e=some (out,e1,info)):info.vn=info.reads.flatMap fun s=>(st.tmps.getD s .undef).names:=by
 unfold qhc at hx
 split at hx
 ·split at hx
  ·cases hx;rfl
  ·cases hx
 ·cases hx;rfl
 ·cases hx
theorem Qbo {st:St} {dst:Option Nat} {out:Out} (hs:qcp out=true) {s:Nat} (h:s ∉ dst.toList) (hn:∀ nm∈(st.tmps.getD s .undef).names,nm ∉ zs out):(apply st dst out).tmps.getD s .undef=st.tmps.getD s .undef:=by
 rw[qf0 hs]
 have hu:(qr8 out.upd st).tmps=st.tmps:=by cases out.upd<;>rfl
 have key:∀ (f:Nm→Option (Option Ob)) (l:List PV),(qdy f l).getD s .undef=(l.getD s .undef).sub f:=by
  intro f l
  rw[qqm,List.getD_eq_getElem?_getD,List.getD_eq_getElem?_getD,List.getElem?_map]
  cases l[s]?<;>rfl
 have hk:(qk4 out.kill (qr8 out.upd st)).tmps.getD s .undef=st.tmps.getD s .undef:=by
  cases hq:out.kill with
  | none=>exact congrArg (fun l=>l.getD s .undef) hu
  | some k =>
   show (qdy _ (qr8 out.upd st).tmps).getD s .undef=_
   rw[hu,key]
   exact qyr _ fun nm hm=>if_neg fun e=>hn nm hm (by unfold zs;rw[hq];simp[e])
 have hf:∀ σ,(Qgf σ out.frz (qk4 out.kill (qr8 out.upd st))).tmps.getD s .undef=st.tmps.getD s .undef:=by
  intro σ
  unfold Qgf
  split
  ·exact hk
  ·unfold qbt
   show (qdy _ (qk4 out.kill (qr8 out.upd st)).tmps).getD s .undef=_
   rw[key,hk]
   exact qyr _ fun nm hm=>by
    have:=hn nm hm
    rw[if_neg (by unfold zs at this;simp at this ⊢;exact this.1)]
 cases dst with
 | none=>simp only[qti];exact hf _
 | some d =>
  have hne:d≠s:=fun e=>h (by simp[e])
  simp only[qti]
  rw[List.getD_eq_getElem?_getD,List.getElem?_set_ne hne,←List.getD_eq_getElem?_getD]
  exact hf _
theorem qyq {st:St} {dst:Option Nat} {out:Out} (hs:qcp out=true) (hz:zs out=[]) {nm:Nm} (ht:nm ∉ qdl out) (h:nm.1 ∉ dst.toList):qbf (apply st dst out).objs nm=qbf st.objs nm:=by
 rw[qf0 hs,(Qdq hz).1,(Qdq hz).2]
 have:qbf (qr8 out.upd st).objs nm=qbf st.objs nm:=by
  unfold qdl at ht
  cases hu:out.upd with
  | none=>rfl
  | some p =>
   obtain⟨m,ob⟩:=p
   rw[hu] at ht
   simp only[List.mem_singleton] at ht
   exact qce ob ht
 cases dst with
 | none=>simp only[qti,Qgf,qk4,List.isEmpty_nil,if_true];exact this
 | some d =>
  have hne:nm.1≠d:=fun e=>h (by simp[e])
  simp only[qti,Qgf,qk4,List.isEmpty_nil,if_true]
  split
  ·exact this
  ·rw[qbw _ hne];exact this
theorem Qbp {st:St} {dst:Option Nat} {out:Out} (hs:qcp out=true) {nm:Nm} (ht:nm ∉ qdl out++zs out) (h:nm.1 ∉ dst.toList) (hn:∀ ob,qbf st.objs nm=some ob→∀ m∈ob.names,m ∉ zs out) :
  qbf (apply st dst out).objs nm=qbf st.objs nm:=by
 rw[qf0 hs]
 have hu:qbf (qr8 out.upd st).objs nm=qbf st.objs nm:=by
  cases hq:out.upd with
  | none=>rfl
  | some p =>
   obtain⟨m,ob⟩:=p
   exact qce ob fun e=>ht (List.mem_append_left _ (by unfold qdl;rw[hq];simp[e]))
 have hsub:∀ {σ:List (List Ob)} {f:Nm→Option (Option Ob)},qbf σ nm=qbf st.objs nm→(∀ m,m ∉ zs out→f m=none)→qbf (σ.map (·.map (Ob.sub f))) nm=qbf st.objs nm:=by
  intro σ f hσ hf
  rw[qde,hσ]
  cases hq:qbf st.objs nm with
  | none=>rfl
  | some ob =>
   simp only[Option.map_some,Option.some.injEq]
   rw[Ob.sub_congr (f:=f) (g:=fun _=>none) ob fun m hm=>hf m (hn ob hq m hm)]
   exact Ob.sub_id ob
 have hk:qbf (qk4 out.kill (qr8 out.upd st)).objs nm=qbf st.objs nm:=by
  cases hq:out.kill with
  | none=>exact hu
  | some k=>exact hsub hu fun m hm=>if_neg fun e=>hm (by unfold zs;rw[hq];simp[e])
 have hf:qbf (Qgf (qbf st.objs) out.frz (qk4 out.kill (qr8 out.upd st))).objs nm=qbf st.objs nm:=by
  unfold Qgf
  split
  ·exact hk
  ·unfold qbt
   simp only
   rw[qng,if_neg fun hm=>ht (List.mem_append_right _ (List.mem_append_left _ hm))]
   exact hsub hk fun m hm=>if_neg fun e=>hm (List.mem_append_left _ (by simpa using e))
 cases dst with
 | none=>exact hf
 | some d =>
  have hne:nm.1≠d:=fun e=>h (by simp[e])
  simp only[qti]
  split
  ·exact hf
  ·rw[qbw _ hne];exact hf
theorem outD_rv {i:Nat} {o:qbo} {st:St} {e e1:E} {out:Out} {info:qlb} (hx:qhc M h dep rops i o st e=some (out,e1,info)):info.rv=if qgn o.op then [] else qyl (qbf st.objs) info.rn:=by
 unfold qhc at hx
 split at hx
 ·split at hx
  ·cases hx;rfl
  ·cases hx
 ·cases hx
  show ([]:List Nm)=_
  cases qgn o.op<;>rfl
 ·cases hx
def qfm (g:PV→PV):Ob→Ob
 | .cells ty cs=>.cells ty (cs.map g)
 | o=>o
def Qkr (g:PV→PV) (S:List Nm):Prop:=∀ v:PV,(∀ m∈v.names,m∈S)→g v=v
theorem sel_keeps {g:PV→PV} {S:List Nm} (hg:Qkr g S) {cs:List PV} {o n:Nat} {ag:Bool} {v:PV} (h:sel cs o n ag=some v) (hv:∀ m∈v.names,m∈S):sel (cs.map g) o n ag=some v:=by
 unfold sel at h ⊢
 cases ag with
 | true =>
  simp only[if_true] at h ⊢
  obtain⟨h1,h2⟩:=qbh h
  cases h2
  simp only[decide_eq_true_eq] at h1
  have e:((cs.map g).drop o).take n=(cs.drop o).take n:=by
   rw[←List.map_drop,←List.map_take]
   refine (List.map_congr_left fun x hx=>hg x fun m hm=>hv m ?_).trans (List.map_id' _)
   rw[PV.names]
   exact qtk hx m hm
  rw[e]
  simp[chk,h1]
 | false =>
  simp only[Bool.false_eq_true,if_false] at h ⊢
  rw[List.getElem?_map,h]
  exact congrArg some (hg v hv)
theorem qxp {d:Nat} {σ σ':Nm→Option Ob} {tm:List PV} {n:Nat} {ag:Bool} {x:RX} {out:Out} (h:exec d σ tm (.load n ag x)=some out) (hσ:∀ nm∈(x.ev tm).names,∃ g,Qkr g out.v.names∧σ' nm=(σ nm).map (qfm g)):exec d σ' tm (.load n ag x)=some out:=by
 simp only[exec] at h ⊢
 cases hx:x.ev tm with
 | ref nm o =>
  rw[hx] at h hσ
  simp only at h ⊢
  obtain⟨g,hg,hs⟩:=hσ nm (by simp[PV.names])
  rw[hs]
  cases hq:σ nm with
  | none=>rw[hq] at h;cases h
  | some ob =>
   rw[hq] at h
   cases ob with
   | cells ty cs =>
    simp only[Option.map_some,qfm] at h ⊢
    obtain⟨v,hv,rfl⟩:=Option.map_eq_some_iff.1 h
    rw[sel_keeps hg hv fun m hm=>hm]
    rfl
   | arr k kt xs=>cases h
   | map es=>cases h
   | siter s pos=>cases h
 | aref nm k i o =>
  rw[hx] at h hσ
  simp only at h ⊢
  obtain⟨g,hg,hs⟩:=hσ nm (by simp[PV.names])
  rw[hs]
  cases hq:σ nm with
  | none=>rw[hq] at h;cases h
  | some ob =>
   rw[hq] at h
   cases ob with
   | cells ty cs=>cases h
   | arr k kt xs=>exact h
   | map es=>cases h
   | siter s pos=>cases h
 | _=>rw[hx] at h;exact h
theorem outD_load {i:Nat} {o:qbo} {st st':St} {e e1:E} {out:Out} {info:qlb} (hx:qhc M h dep rops i o st e=some (out,e1,info)) (hl:qgn o.op=true)
  (h1:∀ s∈info.reads,st.tmps.getD s .undef=st'.tmps.getD s .undef) (h2:∀ nm∈info.rn,∃ g,Qkr g info.on∧qbf st'.objs nm=(qbf st.objs nm).map (qfm g)) :
  ∀ e2:E,qhc M h dep rops i o st' e2=some (out,e2,info):=by
 intro e2
 obtain⟨dst,op,gu⟩:=o
 cases op<;>simp only[qgn,Bool.false_eq_true] at hl
 rename_i n ag x
 have hw:(∀ s∈qby rops ⟨dst,.load n ag x,gu⟩,st.tmps.getD s .undef=st'.tmps.getD s .undef)→qfo rops ⟨dst,.load n ag x,gu⟩ st'.tmps=qfo rops ⟨dst,.load n ag x,gu⟩ st.tmps:=by
  intro hg
  unfold qfo qby at *
  cases hgu:gu with
  | none=>rfl
  | some jw =>
   obtain⟨j,want⟩:=jw
   rw[hgu] at hg
   simp only at hg ⊢
   cases hj:rops[j]? with
   | none=>rfl
   | some p =>
    rw[hj] at hg
    simp only at hg ⊢
    cases hd:p.dst with
    | none=>rfl
    | some d =>
     rw[hd] at hg
     simp only
     rw[hg d (by simp)]
 unfold qhc at hx ⊢
 cases hwt:qfo rops ⟨dst,.load n ag x,gu⟩ st.tmps with
 | none=>rw[hwt] at hx;cases hx
 | some b =>
  rw[hwt] at hx
  cases b with
  | false =>
   simp only at hx
   cases hx
   rw[hw fun s hs=>h1 s hs,hwt]
   simp only[Option.some.injEq,Prod.mk.injEq,true_and]
   congr 1
   exact qgp h1
  | true =>
   simp only at hx
   cases hout:qfj M h dep ⟨dst,.load n ag x,gu⟩ st e with
   | none=>rw[hout] at hx;cases hx
   | some q =>
    obtain⟨out',e'⟩:=q
    rw[hout] at hx
    simp only at hx
    obtain⟨rfl,rfl,rfl⟩:out'=out∧e'=e1∧qfx rops i ⟨dst,.load n ag x,gu⟩ st out'=info:=by
     simp only[Option.some.injEq,Prod.mk.injEq] at hx;exact hx
    have hxe:x.ev st.tmps=x.ev st'.tmps:=by
     cases x with
     | c v=>rfl
     | t s=>exact h1 s (List.mem_append_left _ (List.mem_filterMap.2 ⟨.t s,by simp[ROp.xs],rfl⟩))
    unfold qfj at hout
    obtain⟨_,hout⟩:=qbh hout
    simp only at hout
    cases hex:exec (dst.getD 0) (qbf st.objs) st.tmps (.load n ag x) with
    | none=>rw[hex] at hout;cases hout
    | some o2 =>
     rw[hex] at hout
     simp only[Option.some.injEq,Prod.mk.injEq] at hout
     obtain⟨rfl,rfl⟩:=hout
     have hstay:qbp o2=true:=by
      simp only[exec] at hex
      split at hex
      ·split at hex
       ·obtain⟨v,_,rfl⟩:=Option.map_eq_some_iff.1 hex;rfl
       ·cases hex
      ·obtain⟨v,_,rfl⟩:=Option.map_eq_some_iff.1 hex;rfl
      ·split at hex
       ·split at hex
        ·obtain⟨_,hex⟩:=qbh hex
         obtain⟨v,_,rfl⟩:=Option.map_eq_some_iff.1 hex;rfl
        ·cases hex
       ·cases hex
      ·cases hex
     have hfz:o2.frz=[]:=by
      unfold qbp at hstay
      simp only[Bool.and_eq_true,List.isEmpty_iff] at hstay
      exact hstay.1.1.1.2
     have hrn:∀ s:St,qv7 ⟨dst,.load n ag x,gu⟩ s o2=(x.ev s.tmps).names:=by
      intro s
      unfold qv7
      rw[if_neg (by simp[qr0])]
      simp[qgy,qgn,hstay,qbs,ROp.xs,qbd,hfz]
     have hσ:∀ nm∈(x.ev st.tmps).names,∃ g,Qkr g o2.v.names∧qbf st'.objs nm=(qbf st.objs nm).map (qfm g):=by
      intro nm hn
      obtain⟨g,hg,hq⟩:=h2 nm (by show nm∈qv7 ⟨dst,.load n ag x,gu⟩ st o2;rw[hrn];exact hn)
      exact⟨g,fun v hv=>hg v fun m hm=>List.mem_append_left _ (hv m hm),hq⟩
     have hex2:=qxp hex hσ
     have hexd:exec (dst.getD 0) (qbf st'.objs) st'.tmps (.load n ag x)=some o2:=by
      rw[←hex2]
      simp only[exec,hxe]
     have hout2:qfj M h dep ⟨dst,.load n ag x,gu⟩ st' e2=some (o2,e2):=by
      unfold qfj
      simp[qcz,qlj,chk,hexd]
     rw[hw fun s hs=>h1 s (List.mem_append_right _ hs),hwt]
     simp only[hout2,Option.some.injEq,Prod.mk.injEq,true_and]
     have hup:o2.ups=[]:=by
      unfold qbp at hstay
      simp only[Bool.and_eq_true,List.isEmpty_iff] at hstay
      exact hstay.1.2
     unfold qfx
     simp only[hrn,qgn,if_true,←hxe,hup,ldOf,List.map_nil]
     congr 1
     exact qgp h1
theorem qyb {st:St} {dst:Option Nat} {out:Out} (hs:qcp out=true) {nm:Nm} (ht:nm ∉ qdl out++zs out) (h:nm.1 ∉ dst.toList) {S:List Nm} (hS:∀ m∈S,m ∉ zs out) :
  ∃ g,Qkr g S∧qbf (apply st dst out).objs nm=(qbf st.objs nm).map (qfm g):=by
 rw[qf0 hs]
 have hu:qbf (qr8 out.upd st).objs nm=qbf st.objs nm:=by
  cases hq:out.upd with
  | none=>rfl
  | some p =>
   obtain⟨m,ob⟩:=p
   exact qce ob fun e=>ht (List.mem_append_left _ (by unfold qdl;rw[hq];simp[e]))
 have hmap:∀ (f:Nm→Option (Option Ob)) (x:Option Ob),x.map (Ob.sub f)=x.map (qfm (PV.sub f)):=by
  intro f x
  cases x with
  | none=>rfl
  | some ob=>cases ob<;>simp[Ob.sub,qfm,qqm]
 have hcomp:∀ (g g':PV→PV) (x:Option Ob),(x.map (qfm g)).map (qfm g')=x.map (qfm (g'∘g)):=by
  intro g g' x
  cases x with
  | none=>rfl
  | some ob=>cases ob<;>simp[qfm]
 have hk:∃ g,Qkr g S∧qbf (qk4 out.kill (qr8 out.upd st)).objs nm=(qbf st.objs nm).map (qfm g):=by
  cases hq:out.kill with
  | none =>
   refine⟨id,fun v _=>rfl,?_⟩
   show qbf (qr8 out.upd st).objs nm=_
   rw[hu]
   cases qbf st.objs nm with
   | none=>rfl
   | some ob=>cases ob<;>simp[qfm]
  | some k =>
   refine⟨PV.sub fun m=>if m=k then some none else none,fun v hv=>qyr v fun m hm=>if_neg fun e=>hS m (hv m hm) (by unfold zs;rw[hq,e];simp),?_⟩
   show qbf ((qr8 out.upd st).objs.map _) nm=_
   rw[qde,hu,hmap]
 obtain⟨g,hg,hk⟩:=hk
 have hf:∃ g,Qkr g S∧qbf (Qgf (qbf st.objs) out.frz (qk4 out.kill (qr8 out.upd st))).objs nm=(qbf st.objs nm).map (qfm g):=by
  unfold Qgf
  split
  ·exact⟨g,hg,hk⟩
  ·unfold qbt
   simp only
   rw[qng,if_neg fun hm=>ht (List.mem_append_right _ (List.mem_append_left _ hm))]
   refine⟨PV.sub (fun m=>if out.frz.contains m then qb5 (qbf st.objs) m else none)∘g,fun v hv=>?_,?_⟩
   ·show PV.sub _ (g v)=v
    rw[hg v hv]
    exact qyr v fun m hm=>if_neg fun e=>hS m (hv m hm) (List.mem_append_left _ (by simpa using e))
   ·show qbf ((qk4 out.kill (qr8 out.upd st)).objs.map _) nm=_
    rw[qde,hk,hmap,hcomp]
 obtain⟨g2,hg2,hf⟩:=hf
 refine⟨g2,hg2,?_⟩
 cases dst with
 | none=>exact hf
 | some d =>
  have hne:nm.1≠d:=fun e=>h (by simp[e])
  simp only[qti]
  split
  ·exact hf
  ·rw[qbw _ hne];exact hf
theorem puts_get {d:Nat}:∀ (R:List Nm) (objs:List (List Ob)),(∀ nm∈R,nm.1≠d)→(R.foldl (fun objs nm=>qb9 objs nm qd5) objs)[d]?=objs[d]?:=by
 intro R
 induction R with
 | nil=>intro objs _;rfl
 | cons nm R ih =>
  intro objs h
  simp only[List.foldl_cons]
  rw[ih _ fun m hm=>h m (List.mem_cons_of_mem _ hm)]
  unfold qb9
  cases objs[nm.1]? with
  | none=>rfl
  | some l=>simp only;rw[List.getElem?_set_ne (h nm List.mem_cons_self)]
theorem qpv {st:St} {dst:Option Nat} {out:Out} (hs:qcp out=true) {o:qbo} (h:∀ d,o.dst=some d→d ∉ dst.toList) (ht:∀ nm∈qdl out++zs out,nm.1 ∉ o.dst.toList):qcz o (apply st dst out)=qcz o st:=by
 refine Ql5 fun d' hd'=>?_
 have h:=h d' hd'
 rw[qf0 hs]
 have h1:((qr8 out.upd st).objs[d']?)=st.objs[d']?:=by
  cases hu:out.upd with
  | none=>rfl
  | some p =>
   obtain⟨m,ob⟩:=p
   have:m.1≠d':=fun e=>ht m (List.mem_append_left _ (by unfold qdl;rw[hu];simp)) (by rw[hd',e];simp)
   simp only[qr8]
   unfold qb9
   cases st.objs[m.1]? with
   | none=>rfl
   | some l=>simp only;rw[List.getElem?_set_ne this]
 have hk:((qk4 out.kill (qr8 out.upd st)).objs[d']?).map List.isEmpty=(st.objs[d']?).map List.isEmpty:=by
  cases out.kill with
  | none=>show ((qr8 out.upd st).objs[d']?).map List.isEmpty=_;rw[h1]
  | some k =>
   simp only[qk4,qhf]
   rw[List.getElem?_map,h1]
   cases st.objs[d']? with
   | none=>rfl
   | some l=>cases l<;>rfl
 have h2:((Qgf (qbf st.objs) out.frz (qk4 out.kill (qr8 out.upd st))).objs[d']?).map List.isEmpty=(st.objs[d']?).map List.isEmpty:=by
  unfold Qgf
  split
  ·exact hk
  ·unfold qbt
   simp only
   rw[puts_get _ _ fun nm hn e=>ht nm (List.mem_append_right _ (List.mem_append_left _ hn)) (by rw[hd',e];simp)]
   simp only[qhf]
   rw[List.getElem?_map,←hk]
   cases (qk4 out.kill (qr8 out.upd st)).objs[d']? with
   | none=>rfl
   | some l=>cases l<;>rfl
 cases dst with
 | none=>exact h2
 | some d =>
  have hne:d≠d':=fun e=>h (by simp[e])
  simp only[qti]
  split
  ·exact h2
  ·rw[List.getElem?_set_ne hne];exact h2
theorem qci {a b:List Nat} (h:qdw a b=true):∀ x∈b,x ∉ a:=by
 intro x hx ha
 have:=List.all_eq_true.1 h x ha
 simp at this
 exact this hx
theorem qlg {i:Nat} {o:qbo} {st:St} {e e1:E} {out:Out} {info:qlb} (hx:qhc M h dep rops i o st e=some (out,e1,info)) :
  (info.cls=.quiet→qbp out=true)∧(info.cls=.turns→qcp out=true∧info.tch=qdl out++zs out∧info.frz=!(zs out).isEmpty∧∀ nm∈qbs (qbf st.objs) qbe out.frz,nm∈info.rn) ∧
   (∀ nm∈out.v.names,nm∈info.on)∧(∀ ob∈out.new,∀ nm∈ob.names,nm∈info.on):=by
 unfold qhc at hx
 split at hx
 ·split at hx
  ·rename_i out' e1' hout
   cases hx
   unfold qfx
   simp only
   refine⟨fun hc=>?_,fun hc=>?_,fun nm hn=>List.mem_append_left _ hn,fun ob ho nm hn=>List.mem_append_right _ (List.mem_flatMap.2 ⟨ob,ho,hn⟩)⟩
   ·split at hc
    ·split at hc<;>cases hc
    ·split at hc
     ·assumption
     ·split at hc
      ·cases hc
      ·split at hc<;>cases hc
   ·split at hc
    ·split at hc<;>cases hc
    ·split at hc
     ·cases hc
     ·rename_i hns
      split at hc
      ·rename_i ht
       refine⟨ht,rfl,rfl,fun nm hn=>?_⟩
       unfold qv7
       rw[if_neg (by simp[hns])]
       rw[show qgy o.op (qbp out)=qbe by unfold qgy;rw[if_neg (by simp[hns])]]
       exact qhh _ _ _ (fun m hm=>List.mem_append_right _ hm) nm hn
      ·split at hc<;>cases hc
  ·cases hx
 ·cases hx
  exact⟨fun _=>rfl,fun hc=>by (cases hc),fun nm hn=>by (simp[PV.names,qbd] at hn),fun ob ho=>by (cases ho)⟩
 ·cases hx
theorem comm_qt {st:St} {dq dt:Option Nat} {oq ot:Out} (hq:qbp oq=true) (ht:qcp ot=true) (hd:∀ x∈dt.toList,x ∉ dq.toList) (hd':∀ x∈dq.toList,x ∉ dt.toList)
  (htch:∀ nm∈qdl ot++zs ot,nm.1 ∉ dq.toList) (hσ:∀ nm∈ot.frz,qb5 (qbf (apply st dq oq).objs) nm=qb5 (qbf st.objs) nm)
  (hv:zs ot≠[]→∀ nm∈oq.v.names,nm ∉ zs ot) (hn:zs ot≠[]→∀ o∈oq.new,∀ nm∈o.names,nm ∉ zs ot):apply (apply st dq oq) dt ot=apply (apply st dt ot) dq oq:=by
 rw[qf0 (st:=apply st dq oq) ht,qcj (st:=apply st dt ot) hq,qf0 ht]
 rw[qcj hq] at hσ ⊢
 have hz:∀ {nm},nm∈ot.frz∨nm∈ot.kill.toList→zs ot≠[]∧nm∈zs ot:=fun {nm} h=>by
  have hm:nm∈zs ot:=List.mem_append.2 h
  exact⟨fun e=>by (rw[e] at hm;cases hm),hm⟩
 have hne:ot.frz≠[]→zs ot≠[]:=fun h e=>h (Qdq e).1
 rw[updP_setD (fun p hp=>htch p.1 (List.mem_append_left _ (by unfold qdl;rw[hp];simp))),
  killP_setD (fun nm hm hk=>hv (hz (.inr hk)).1 nm hm (hz (.inr hk)).2) (fun o ho nm hm hk=>hn (hz (.inr hk)).1 o ho nm hm (hz (.inr hk)).2),
  frzP_setD hσ (fun nm hm=>htch nm (List.mem_append_right _ (List.mem_append_left _ hm))) (fun h nm hm hf=>hv (hne h) nm hm (List.mem_append_left _ hf)) (fun h o ho nm hm hf=>hn (hne h) o ho nm hm (List.mem_append_left _ hf)),
  qqs (fun x hx=>hd' x hx)]
theorem swapD0 (hM:Qhr M) {i j:Nat} {a b:qbo} {st:St} {e ea eb:E} {oa ob:Out} {ia ib:qlb} (h1:qhc M h dep rops i a st e=some (oa,ea,ia)) (h2:qhc M h dep rops j b (apply st a.dst oa) ea=some (ob,eb,ib))
  (hi:(qdw ia.dst.toList (ib.reads++ib.dst.toList)&&qdw ib.dst.toList ia.reads&&qdw ia.dst.toList (ib.rn.map (·.1))&&qdw ib.dst.toList (ia.rn.map (·.1))&&indepC ia ib)=true):ea=e∧eb=e∧qhc M h dep rops j b st e=some (ob,e,ib)∧qhc M h dep rops i a (apply st b.dst ob) e=some (oa,e,ia)∧apply (apply st a.dst oa) b.dst ob=apply (apply st b.dst ob) a.dst oa:=by
 have da:=qn6 h1
 have db:=qn6 h2
 obtain⟨fa1,fa2,fa3,fa4⟩:=qlg h1
 obtain⟨fb1,fb2,fb3,fb4⟩:=qlg h2
 simp only[Bool.and_eq_true] at hi
 obtain⟨⟨⟨⟨g1,g2⟩,g3⟩,g4⟩,hC⟩:=hi
 rw[da] at g1 g3
 rw[db] at g1 g2 g4
 have g1:=qci g1
 have g2:=qci g2
 have g3:=qci g3
 have g4:=qci g4
 have gd:∀ x∈b.dst.toList,x ∉ a.dst.toList:=fun x hx=>g1 x (List.mem_append_right _ hx)
 have gd':∀ x∈a.dst.toList,x ∉ b.dst.toList:=fun x hx hx'=>gd x hx' hx
 have gb:∀ d,b.dst=some d→d ∉ a.dst.toList:=fun d hd=>gd d (by rw[hd];simp)
 have ga:∀ d,a.dst=some d→d ∉ b.dst.toList:=fun d hd=>gd' d (by rw[hd];simp)
 have hno:∀ (l:List Nm) (t:List Nm),(l.all fun nm=>!t.contains nm)=true→∀ nm∈l,nm ∉ t:=fun l t hl nm hm ht=>by
  have:=List.all_eq_true.1 hl nm hm
  simp at this
  exact this ht
 unfold indepC at hC
 split at hC
 ·
  rename_i ca cb
  have sa:=fa1 ca
  have sb:=fb1 cb
  obtain⟨_,ea',_⟩:=qc5 hM (st':=st) h1 (by rw[ca];simp) (fun _ _=>rfl) (fun _ _=>rfl) rfl
  subst ea'
  obtain⟨_,eb',mb⟩:=qc5 hM (st':=st) h2 (by rw[cb];simp) (fun s hs=>qgj sa (g1 s (List.mem_append_left _ hs))) (fun nm hn=>qgk sa (g3 nm.1 (List.mem_map.2 ⟨nm,hn,rfl⟩)))
   (qfs sa gb).symm
  subst eb'
  obtain⟨_,_,ma⟩:=qc5 hM (st':=apply st b.dst ob) h1 (by rw[ca];simp) (fun s hs=>(qgj sb (g2 s hs)).symm) (fun nm hn=>(qgk sb (g4 nm.1 (List.mem_map.2 ⟨nm,hn,rfl⟩))).symm)
   (qfs sb ga)
  refine⟨rfl,rfl,mb _,ma _,?_⟩
  rw[qcj sa,qcj sb,qcj sb,qcj sa]
  exact qqs gd' _ _ _ _ _
 ·
  rename_i ca cb
  have sa:=fa1 ca
  obtain⟨sb,tb,zb,rb⟩:=fb2 cb
  unfold Ql0 at hC
  simp only[Bool.and_eq_true,Bool.or_eq_true] at hC
  obtain⟨⟨c1,c2⟩,c3⟩:=hC
  have c1:=hno _ _ c1
  rw[da] at c2
  have c2:=qci c2
  rw[tb] at c1 c2
  have htch:∀ nm∈qdl ob++zs ob,nm.1 ∉ a.dst.toList:=fun nm hm=>c2 nm.1 (List.mem_map.2 ⟨nm,hm,rfl⟩)
  obtain⟨_,ea',_⟩:=qc5 hM (st':=st) h1 (by rw[ca];simp) (fun _ _=>rfl) (fun _ _=>rfl) rfl
  subst ea'
  obtain⟨_,eb',mb⟩:=qc5 hM (st':=st) h2 (by rw[cb];simp) (fun s hs=>qgj sa (g1 s (List.mem_append_left _ hs))) (fun nm hn=>qgk sa (g3 nm.1 (List.mem_map.2 ⟨nm,hn,rfl⟩)))
   (qfs sa gb).symm
  subst eb'
  have hz:zs ob=[]∨((∀ s∈ia.reads,∀ nm∈(st.tmps.getD s .undef).names,nm ∉ zs ob)∧(qgn a.op=false→∀ nm∈ia.rn,∀ x,qbf st.objs nm=some x→∀ m∈x.names,m ∉ zs ob)∧∀ nm∈ia.on,nm ∉ zs ob):=by
   rcases c3 with c3 | c3
   ·rw[zb] at c3
    exact .inl (by simpa using c3)
   ·obtain⟨⟨c5,c4⟩,c6⟩:=c3
    simp only[if_true] at c4 c5
    refine .inr ⟨fun s hs nm hn hf=>?_,fun hnl nm hn x hx m hm hf=>?_,fun nm hn hf=>?_⟩
    ·have:=hno _ _ c4 nm (by rw[outD_vn h1];exact List.mem_flatMap.2 ⟨s,hs,hn⟩)
     rw[tb] at this
     exact this (List.mem_append_right _ hf)
    ·have:=hno _ _ c5 m (by rw[outD_rv h1,hnl];exact List.mem_flatMap.2 ⟨nm,hn,by rw[hx];exact hm⟩)
     rw[tb] at this
     exact this (List.mem_append_right _ hf)
    ·have:=hno _ _ c6 nm hn
     rw[tb] at this
     exact this (List.mem_append_right _ hf)
  have hslots:∀ s∈ia.reads,st.tmps.getD s .undef=(apply st b.dst ob).tmps.getD s .undef:=fun s hs=>by
   rcases hz with hz | hz
   ·exact (qyp sb hz (g2 s hs)).symm
   ·exact (Qbo sb (g2 s hs) (hz.1 s hs)).symm
  have ma:∀ e2:E,qhc M h dep rops i a (apply st b.dst ob) e2=some (oa,e2,ia):=by
   rcases hz with hz | hz
   ·exact (qc5 hM (st':=apply st b.dst ob) h1 (by rw[ca];simp) hslots (fun nm hn=>(qyq sb hz (fun hu=>c1 nm hn (List.mem_append_left _ hu)) (g4 nm.1 (List.mem_map.2 ⟨nm,hn,rfl⟩))).symm) (qpv sb ga htch)).2.2
   ·cases hl:qgn a.op with
    | false=>exact (qc5 hM (st':=apply st b.dst ob) h1 (by rw[ca];simp) hslots (fun nm hn=>(Qbp sb (c1 nm hn) (g4 nm.1 (List.mem_map.2 ⟨nm,hn,rfl⟩)) (hz.2.1 hl nm hn)).symm) (qpv sb ga htch)).2.2
    | true=>exact outD_load h1 hl hslots fun nm hn=>qyb sb (c1 nm hn) (g4 nm.1 (List.mem_map.2 ⟨nm,hn,rfl⟩)) hz.2.2
  refine⟨rfl,rfl,mb _,ma _,comm_qt sa sb gd gd' htch (fun nm hm=>?_) (fun hne nm hn=>?_) (fun hne o ho nm hn=>?_)⟩
  ·exact qh6 (S:=ob.frz) (fun m hm=>qgk sa (g3 m.1 (List.mem_map.2 ⟨m,rb m hm,rfl⟩))) nm hm
  ·rcases hz with hz | hz
   ·exact absurd hz hne
   ·exact hz.2.2 nm (fa3 nm hn)
  ·rcases hz with hz | hz
   ·exact absurd hz hne
   ·exact hz.2.2 nm (fa4 o ho nm hn)
 ·
  rename_i ca cb
  have sb:=fb1 cb
  obtain⟨sa,ta,za,ra⟩:=fa2 ca
  unfold Ql0 at hC
  simp only[Bool.and_eq_true,Bool.or_eq_true] at hC
  obtain⟨⟨c1,c2⟩,c3⟩:=hC
  have c1:=hno _ _ c1
  rw[db] at c2
  have c2:=qci c2
  rw[ta] at c1 c2
  have htch:∀ nm∈qdl oa++zs oa,nm.1 ∉ b.dst.toList:=fun nm hm=>c2 nm.1 (List.mem_map.2 ⟨nm,hm,rfl⟩)
  have hz:zs oa=[]∨(ib.reads=[]∧ib.rn=[]∧∀ nm∈ib.on,nm ∉ zs oa):=by
   rcases c3 with c3 | c3
   ·rw[za] at c3
    exact .inl (by simpa using c3)
   ·obtain⟨⟨c5,c4⟩,c6⟩:=c3
    refine .inr ⟨by simpa using c4,by simpa using c5,fun nm hn hf=>?_⟩
    have:=hno _ _ c6 nm hn
    rw[ta] at this
    exact this (List.mem_append_right _ hf)
  obtain⟨_,ea',_⟩:=qc5 hM (st':=st) h1 (by rw[ca];simp) (fun _ _=>rfl) (fun _ _=>rfl) rfl
  subst ea'
  obtain⟨_,eb',mb⟩:=qc5 hM (st':=st) h2 (by rw[cb];simp)
   (fun s hs=>by
    rcases hz with hz | hz
    ·exact qyp sa hz (g1 s (List.mem_append_left _ hs))
    ·rw[hz.1] at hs;cases hs)
   (fun nm hn=>by
    rcases hz with hz | hz
    ·exact qyq sa hz (fun hu=>c1 nm hn (List.mem_append_left _ hu)) (g3 nm.1 (List.mem_map.2 ⟨nm,hn,rfl⟩))
    ·rw[hz.2.1] at hn;cases hn)
   (qpv sa gb htch).symm
  subst eb'
  obtain⟨_,_,ma⟩:=qc5 hM (st':=apply st b.dst ob) h1 (by rw[ca];simp) (fun s hs=>(qgj sb (g2 s hs)).symm) (fun nm hn=>(qgk sb (g4 nm.1 (List.mem_map.2 ⟨nm,hn,rfl⟩))).symm)
   (qfs sb ga)
  refine⟨rfl,rfl,mb _,ma _,(comm_qt sb sa gd' gd htch (fun nm hm=>?_) (fun hne nm hn=>?_) (fun hne o ho nm hn=>?_)).symm⟩
  ·exact (qh6 (S:=oa.frz) (fun m hm=>(qgk sb (g4 m.1 (List.mem_map.2 ⟨m,ra m hm,rfl⟩))).symm) nm hm).symm
  ·rcases hz with hz | hz
   ·exact absurd hz hne
   ·exact hz.2.2 nm (fb3 nm hn)
  ·rcases hz with hz | hz
   ·exact absurd hz hne
   ·exact hz.2.2 nm (fb4 o ho nm hn)
 ·cases hC
theorem Qb5 {i:Nat} {o:qbo} {st st':St} {e e1:E} {out:Out} {info:qlb} (hx:qhc M h dep rops i o st e=some (out,e1,info)) (hc:info.cls=.calls) (h1:∀ s∈info.reads,st.tmps.getD s .undef=st'.tmps.getD s .undef) (h3:qcz o st'=qcz o st) :
  qbp out=true∧qhc M h dep rops i o st' e=some (out,e1,info):=by
 obtain⟨dst,op,gu⟩:=o
 unfold qhc at hx ⊢
 have hw:(∀ s∈qby rops ⟨dst,op,gu⟩,st.tmps.getD s .undef=st'.tmps.getD s .undef)→qfo rops ⟨dst,op,gu⟩ st'.tmps=qfo rops ⟨dst,op,gu⟩ st.tmps:=by
  intro hg
  unfold qfo qby at *
  cases hgu:gu with
  | none=>rfl
  | some jw =>
   obtain⟨j,want⟩:=jw
   rw[hgu] at hg
   simp only at hg ⊢
   cases hj:rops[j]? with
   | none=>rfl
   | some p =>
    rw[hj] at hg
    simp only at hg ⊢
    cases hd:p.dst with
    | none=>rfl
    | some d =>
     rw[hd] at hg
     simp only
     rw[hg d (by simp)]
 cases hwt:qfo rops ⟨dst,op,gu⟩ st.tmps with
 | none=>rw[hwt] at hx;cases hx
 | some b =>
  rw[hwt] at hx
  cases b with
  | false=>simp only at hx;cases hx;cases hc
  | true =>
   simp only at hx
   cases hout:qfj M h dep ⟨dst,op,gu⟩ st e with
   | none=>rw[hout] at hx;cases hx
   | some q =>
    obtain⟨out',e'⟩:=q
    rw[hout] at hx
    simp only at hx
    obtain⟨rfl,rfl,rfl⟩:out'=out∧e'=e1∧qfx rops i ⟨dst,op,gu⟩ st out'=info:=by
     simp only[Option.some.injEq,Prod.mk.injEq] at hx;exact hx
    have hyl:qq8 op st.tmps=true:=by
     simp only[qfx] at hc
     split at hc
     ·split at hc
      ·assumption
      ·cases hc
     ·split at hc
      ·cases hc
      ·split at hc
       ·cases hc
       ·split at hc<;>cases hc
    unfold qq8 at hyl
    split at hyl
    case h_2=>cases hyl
    rename_i f args
    split at hyl
    case h_2=>cases hyl
    rename_i d hf
    have hread:∀ x∈f :: args,x.ev st.tmps=x.ev st'.tmps:=by
     intro x hxm
     cases x with
     | c v=>rfl
     | t s=>exact h1 s (List.mem_append_left _ (List.mem_filterMap.2 ⟨.t s,by simpa[ROp.xs] using hxm,rfl⟩))
    have hfe:=hread f List.mem_cons_self
    have hae:=qco (xs:=args) fun x hxm=>hread x (List.mem_cons_of_mem _ hxm)
    have hae2:=qco (xs:=f :: args) hread
    unfold qfj at hout
    obtain⟨hfr,hout⟩:=qbh hout
    simp only at hout
    obtain⟨hcall,hgd⟩:=qny hout
    have hcall2:=hcall
    unfold qb1 at hcall2
    simp only[hf,hyl,if_true] at hcall2
    obtain⟨hny,hcall3⟩:=qbh hcall2
    clear hcall2
    cases hh:h d (args.map (RX.ev st.tmps)) e with
    | none=>rw[hh] at hcall3;cases hcall3
    | some q =>
     obtain⟨bb,ee⟩:=q
     rw[hh] at hcall3
     simp only[Option.some.injEq,Prod.mk.injEq] at hcall3
     obtain⟨rfl,rfl⟩:=hcall3
     refine⟨rfl,?_⟩
     have hcall':qb1 M h dep (dst.getD 0) (qbf st'.objs) st'.tmps f args e=some ({v:=.bool bb},ee):=by
      unfold qb1
      simp only[←hfe,←hae,hf,hyl,if_true,hny,chk,hh]
     have hout':qfj M h dep ⟨dst,.call f args,gu⟩ st' e=some ({v:=.bool bb},ee):=by
      unfold qfj
      rw[h3,hfr]
      simp only[chk,if_true,hcall',hgd]
     rw[hw fun s hs=>h1 s (List.mem_append_right _ hs),hwt]
     simp only[hout',Option.some.injEq,Prod.mk.injEq,true_and]
     have hfn:(f.ev st.tmps).names=[]:=by rw[hf];rfl
     have hnil:qbd ((f :: args).map (RX.ev st.tmps))=[]:=by
      rw[List.map_cons]
      simp only[qbd,hfn,List.nil_append]
      exact List.isEmpty_iff.1 hyl
     have hrn:∀ s:St,qbd ((f :: args).map (RX.ev s.tmps))=[]→qv7 ⟨dst,.call f args,gu⟩ s {v:=.bool bb}=[]:=by
      intro s hs
      unfold qv7
      rw[if_neg (by simp[qr0])]
      have:(ROp.call f args).xs=f :: args:=rfl
      rw[this,hs]
      simp only[List.append_nil]
      have:∀ (σ:Nm→Option Ob) (k:Nat),qbs σ k []=[]:=by
       intro σ k
       induction k with
       | zero=>rfl
       | succ k ih=>simp[qbs,ih]
      exact this _ _
     unfold qfx
     rw[hrn st hnil,hrn st' (by rw[←hae2];exact hnil)]
     have hy2:qq8 (.call f args) st'.tmps=qq8 (.call f args) st.tmps:=by
      unfold qq8;simp only[←hfe,←hae]
     have e2:(ROp.call f args).xs=f :: args:=rfl
     simp only[hy2,e2,←hae2,qgn,qyl,List.flatMap_nil,ldOf,List.map_nil]
     congr 1
     exact qgp h1
theorem outD_at {i:Nat} {o:qbo} {st st':St} {e:E} (h1:∀ s∈qk1 o.op.xs++qby rops o,st.tmps.getD s .undef=st'.tmps.getD s .undef) (h2:st'.objs=st.objs):qhc M h dep rops i o st' e=qhc M h dep rops i o st e:=by
 have hw:qfo rops o st'.tmps=qfo rops o st.tmps:=by
  have hg:∀ s∈qby rops o,st.tmps.getD s .undef=st'.tmps.getD s .undef:=fun s hs=>h1 s (List.mem_append_right _ hs)
  unfold qfo qby at *
  cases hgu:o.guard with
  | none=>rfl
  | some jw =>
   obtain⟨j,want⟩:=jw
   rw[hgu] at hg
   simp only at hg ⊢
   cases hj:rops[j]? with
   | none=>rfl
   | some p =>
    rw[hj] at hg
    simp only at hg ⊢
    cases hd:p.dst with
    | none=>rfl
    | some d =>
     rw[hd] at hg
     simp only
     rw[hg d (by simp)]
 have hxs:∀ x∈o.op.xs,x.ev st.tmps=x.ev st'.tmps:=by
  intro x hx
  cases x with
  | c v=>rfl
  | t s=>exact h1 s (List.mem_append_left _ (List.mem_filterMap.2 ⟨.t s,hx,rfl⟩))
 have hout:qfj M h dep o st' e=qfj M h dep o st e:=by
  unfold qfj
  have hf:qcz o st'=qcz o st:=by unfold qcz;rw[h2]
  rw[hf,h2]
  cases hop:o.op<;>rw[hop] at hxs
  case call f args =>
   simp only
   have:qb1 M h dep (o.dst.getD 0) (qbf st.objs) st'.tmps f args e=qb1 M h dep (o.dst.getD 0) (qbf st.objs) st.tmps f args e:=by
    unfold qb1
    rw[←hxs f List.mem_cons_self,←qco (xs:=args) fun x hx=>hxs x (List.mem_cons_of_mem _ hx)]
   rw[this]
  all_goals
   simp only
   rw[←qsz (σ:=qbf st.objs) (σ':=qbf st.objs) _ hxs fun _ _=>rfl]
 have hinfo:∀ out,qfx rops i o st' out=qfx rops i o st out:=by
  intro out
  have hrn:qv7 o st' out=qv7 o st out:=by unfold qv7;rw[h2,←qco hxs]
  unfold qfx
  rw[hrn,h2,←qw2 hxs,←qco hxs,qgp h1,←qzk hxs]
 unfold qhc
 rw[hw,hout]
 split
 ·split
  ·rw[hinfo]
  ·rfl
 ·rw[qgp fun s hs=>h1 s (List.mem_append_right _ hs)]
 ·rfl
def ioObjs (dst:Option Nat) (o:Out) (objs:List (List Ob)):List (List Ob) :=
 let objs:=if o.ups.isEmpty then objs else qdr o.ups objs
 let objs:=match o.slot with
  | some r=>objs.set r (objs.getD r []++o.new)
  | none=>objs
 match dst with
 | some d=>if o.slot.isSome||o.new.isEmpty then objs else objs.set d o.new
 | none=>objs
def setT (dst:Option Nat) (v:PV) (tm:List PV):List PV:=match dst with
 | some d=>tm.set d v
 | none=>tm
theorem qr2 {st:St} {dst:Option Nat} {out:Out} (hs:qyh out=true):apply st dst out={tmps:=setT dst out.v st.tmps,keep:=st.keep,objs:=ioObjs dst out st.objs}:=by
 unfold qyh at hs
 simp only[Bool.and_eq_true,List.isEmpty_iff,Option.isNone_iff_eq_none] at hs
 obtain⟨⟨⟨h1,h2⟩,h3⟩,h4⟩:=hs
 unfold apply ioObjs setT
 rw[h1,h2,h3,h4]
 cases dst<;>cases out.slot<;>cases hu:out.ups<;>simp
theorem qvo {st:St} {dst:Option Nat} {out:Out} (hs:qbp out=true) (hn:out.new=[]):apply st dst out={st with tmps:=setT dst out.v st.tmps}:=by
 rw[qki hs,hn]
 cases dst<;>rfl
theorem qvc {dst:Option Nat} {v:PV} {tm:List PV} {s:Nat} (h:s ∉ dst.toList):(setT dst v tm).getD s .undef=tm.getD s .undef:=by
 cases dst with
 | none=>rfl
 | some d =>
  have:d≠s:=fun e=>h (by simp[e])
  simp only[setT,List.getD_eq_getElem?_getD,List.getElem?_set_ne this]
theorem setT_comm {d d':Option Nat} (h:∀ x∈d'.toList,x ∉ d.toList) (v v':PV) (tm:List PV):setT d v (setT d' v' tm)=setT d' v' (setT d v tm):=by
 cases d with
 | none=>rfl
 | some a =>
  cases d' with
  | none=>rfl
  | some b =>
   have:b≠a:=fun e=>h b (by simp) (by simp[e])
   simp only[setT]
   exact List.set_comm _ _ this
theorem comm_io {st:St} {da db:Option Nat} {oa ob:Out} (ha:qbp oa=true) (hn:oa.new=[]) (hb:qyh ob=true) (hd:∀ x∈da.toList,x ∉ db.toList):apply (apply st da oa) db ob=apply (apply st db ob) da oa:=by
 rw[qvo ha hn,qr2 hb,qr2 hb,qvo ha hn]
 simp only[setT_comm hd]
theorem look_puts {nm:Nm}:∀ (l:List (Nm×Ob)) (objs:List (List Ob)) (ob0:Ob),qbf objs nm=some ob0→∃ ob1,qbf (qdr l objs) nm=some ob1∧((nm,ob1)∈l∨(ob1=ob0∧∀ p∈l,p.1≠nm)):=by
 intro l
 induction l with
 | nil=>intro objs ob0 h;exact⟨ob0,h,.inr ⟨rfl,fun _ h=>by cases h⟩⟩
 | cons p l ih =>
  obtain⟨m,o⟩:=p
  intro objs ob0 h
  by_cases hm:m=nm
  ·subst hm
   obtain⟨ob1,q1,q2⟩:=ih (qb9 objs m o) o (qds o h)
   refine⟨ob1,q1,.inl ?_⟩
   rcases q2 with q2 | ⟨rfl,_⟩
   ·exact List.mem_cons_of_mem _ q2
   ·exact List.mem_cons_self
  ·obtain⟨ob1,q1,q2⟩:=ih (qb9 objs m o) ob0 (by rw[qce o (fun e=>hm e.symm)];exact h)
   refine⟨ob1,q1,?_⟩
   rcases q2 with q2 | ⟨q2,q3⟩
   ·exact .inl (List.mem_cons_of_mem _ q2)
   ·refine .inr ⟨q2,fun p hp=>?_⟩
    rcases List.mem_cons.1 hp with rfl | hp
    ·exact hm
    ·exact q3 p hp
theorem look_io {st:St} {dst:Option Nat} {out:Out} (hs:qyh out=true) {nm:Nm} {ob0:Ob} (h0:qbf st.objs nm=some ob0) (hd:nm.1 ∉ dst.toList) (hm:∃ p∈out.ups,p.1=nm):∃ ob1,qbf (apply st dst out).objs nm=some ob1∧(nm,ob1)∈out.ups:=by
 rw[qr2 hs]
 obtain⟨ob1,q1,q2⟩:=look_puts out.ups st.objs ob0 h0
 have hin:(nm,ob1)∈out.ups:=by
  rcases q2 with q2 | ⟨_,q3⟩
  ·exact q2
  ·obtain⟨p,hp,he⟩:=hm;exact absurd he (q3 p hp)
 refine⟨ob1,?_,hin⟩
 have h1:qbf (if out.ups.isEmpty then st.objs else qdr out.ups st.objs) nm=some ob1:=by
  cases hu:out.ups with
  | nil=>rw[hu] at hin;cases hin
  | cons p l=>rw[hu] at q1;exact q1
 unfold ioObjs
 simp only
 generalize (if out.ups.isEmpty then st.objs else qdr out.ups st.objs)=objs at h1 ⊢
 have h2:qbf (match out.slot with
  | some r=>objs.set r (objs.getD r []++out.new)
  | none=>objs) nm=some ob1:=by
  cases out.slot with
  | none=>exact h1
  | some r =>
   simp only
   unfold qbf at h1 ⊢
   by_cases hr:r=nm.1
   ·subst hr
    cases hl:objs[nm.1]? with
    | none=>rw[hl] at h1;cases h1
    | some l =>
     rw[hl] at h1
     have hlt:=(List.getElem?_eq_some_iff.1 hl).1
     rw[List.getElem?_set_self hlt,List.getD_eq_getElem?_getD,hl]
     simp only at h1
     simp only[Option.getD_some]
     rw[List.getElem?_append_left (List.getElem?_eq_some_iff.1 h1).1]
     exact h1
   ·rw[List.getElem?_set_ne hr];exact h1
 cases dst with
 | none=>exact h2
 | some d =>
  simp only
  split
  ·exact h2
  ·have:d≠nm.1:=fun e=>hd (by simp[e])
   unfold qbf at h2 ⊢
   rw[List.getElem?_set_ne this]
   exact h2
theorem same1_eq:∀ {u v:PV},same1 u v=true→u=v:=by
 intro u v h
 unfold same1 at h
 split at h
 ·simp only[decide_eq_true_eq] at h;obtain⟨rfl,rfl,rfl,rfl⟩:=h;rfl
 ·simp only[decide_eq_true_eq] at h;obtain⟨rfl,rfl⟩:=h;rfl
 ·simp only[decide_eq_true_eq] at h;obtain⟨rfl,rfl⟩:=h;rfl
 ·rfl
 ·rfl
 ·cases h
theorem good1_sel {l:Nm×Nat×Nat×Bool×PV} {ob:Ob} (h:good1 l ob=true):∃ ty cs,ob=.cells ty cs∧sel cs l.2.1 l.2.2.1 l.2.2.2.1=some l.2.2.2.2:=by
 unfold good1 at h
 split at h
 ·rename_i ty cs
  split at h
  ·rename_i u hu;exact⟨_,_,rfl,by rw[hu,same1_eq h]⟩
  ·cases h
 ·cases h
theorem Qlc {i:Nat} {o:qbo} {st:St} {e e1:E} {out:Out} {info:qlb} (hx:qhc M h dep rops i o st e=some (out,e1,info)) :
  (info.nw=true→out.new=[]∧qlj o.op=false)∧(info.cls=.ios→qyh out=true∧info.bef=out.ups.map (fun p=>(p.1,qbf st.objs p.1))∧info.aft=out.ups)∧(∀ s∈qk1 o.op.xs++qby rops o,info.cls=.ios→s∈info.reads):=by
 unfold qhc at hx
 split at hx
 ·split at hx
  ·cases hx
   unfold qfx
   refine⟨fun hn=>?_,fun hc=>⟨?_,rfl,rfl⟩,fun s hs _=>hs⟩
   all_goals simp only at *
   ·simp only[Bool.and_eq_true,List.isEmpty_iff,Bool.not_eq_true'] at hn;exact hn
   ·split at hc
    ·split at hc<;>cases hc
    ·split at hc
     ·cases hc
     ·split at hc
      ·cases hc
      ·split at hc
       ·assumption
       ·cases hc
  ·cases hx
 ·cases hx
  exact⟨fun hn=>⟨rfl,by simpa using hn⟩,fun hc=>(by cases hc),fun _ _ hc=>(by cases hc)⟩
 ·cases hx
theorem Ql6 {o:qbo} (hm:qlj o.op=false) (st st':St):qcz o st'=qcz o st:=by
 unfold qcz
 rw[hm]
 rfl
theorem Qb6 {i:Nat} {o:qbo} {st st':St} {e e1:E} {out:Out} {info:qlb} (hx:qhc M h dep rops i o st e=some (out,e1,info)) {l:Nm×Nat×Nat×Bool×PV} (hl:info.ld=some l)
  (h1:∀ s∈info.reads,st.tmps.getD s .undef=st'.tmps.getD s .undef) (h2:∃ ob,qbf st'.objs l.1=some ob∧good1 l ob=true):(∃ ob,qbf st.objs l.1=some ob)∧info.rn=[l.1]∧∀ e2:E,qhc M h dep rops i o st' e2=some (out,e2,info):=by
 obtain⟨dst,op,gu⟩:=o
 have hw:(∀ s∈qby rops ⟨dst,op,gu⟩,st.tmps.getD s .undef=st'.tmps.getD s .undef)→qfo rops ⟨dst,op,gu⟩ st'.tmps=qfo rops ⟨dst,op,gu⟩ st.tmps:=by
  intro hg
  unfold qfo qby at *
  cases hgu:gu with
  | none=>rfl
  | some jw =>
   obtain⟨j,want⟩:=jw
   rw[hgu] at hg
   simp only at hg ⊢
   cases hj:rops[j]? with
   | none=>rfl
   | some p =>
    rw[hj] at hg
    simp only at hg ⊢
    cases hd:p.dst with
    | none=>rfl
    | some d =>
     rw[hd] at hg
     simp only
     rw[hg d (by simp)]
 unfold qhc at hx
 split at hx
 case h_2=>cases hx;cases hl
 case h_3=>cases hx
 rename_i hwt
 split at hx
 case h_2=>cases hx
 rename_i out' e' hout
 cases hx
 simp only[qfx] at hl h1
 unfold ldOf at hl
 split at hl
 case h_2=>cases hl
 rename_i n ag x
 split at hl
 case h_2=>cases hl
 rename_i nm k hxv
 cases hl
 obtain⟨ob,hob,hgo⟩:=h2
 simp only at hob
 obtain⟨ty,cs,rfl,hsel⟩:=good1_sel hgo
 simp only at hsel
 have hxe:x.ev st.tmps=x.ev st'.tmps:=by
  cases x with
  | c v=>rfl
  | t s=>exact h1 s (List.mem_append_left _ (List.mem_filterMap.2 ⟨.t s,by simp[ROp.xs],rfl⟩))
 unfold qfj at hout
 obtain⟨_,hout⟩:=qbh hout
 simp only at hout
 cases hex:exec (dst.getD 0) (qbf st.objs) st.tmps (.load n ag x) with
 | none=>rw[hex] at hout;cases hout
 | some o2 =>
  rw[hex] at hout
  simp only[Option.some.injEq,Prod.mk.injEq] at hout
  obtain⟨rfl,rfl⟩:=hout
  simp only[exec,hxv] at hex
  split at hex
  case h_2=>cases hex
  rename_i ty0 cs0 hlk
  obtain⟨v,hv,rfl⟩:=Option.map_eq_some_iff.1 hex
  simp only at hsel
  have hrn:∀ s:St,x.ev s.tmps=.ref nm k→qv7 ⟨dst,.load n ag x,gu⟩ s {v}=[nm]:=by
   intro s hs
   unfold qv7
   rw[if_neg (by simp[qr0])]
   have hst:qbp {v}=true:=rfl
   simp[qgy,qgn,hst,qbs,ROp.xs,qbd,hs,PV.names]
  refine⟨⟨_,hlk⟩,hrn st hxv,fun e2=>?_⟩
  have hexd:exec (dst.getD 0) (qbf st'.objs) st'.tmps (.load n ag x)=some {v}:=by
   simp only[exec,←hxe,hxv,hob,hsel,Option.map_some]
  have hout2:qfj M h dep ⟨dst,.load n ag x,gu⟩ st' e2=some ({v},e2):=by
   unfold qfj
   simp[qcz,qlj,chk,hexd]
  unfold qhc
  rw[hw fun s hs=>h1 s (List.mem_append_right _ hs),hwt]
  simp only[hout2,Option.some.injEq,Prod.mk.injEq,true_and]
  unfold qfx
  simp only[hrn st hxv,hrn st' (by rw[←hxe];exact hxv),qgn,if_true,←hxe,ldOf,List.map_nil]
  congr 1
  exact qgp h1
theorem swapI (hM:Qhr M) {i j:Nat} {a b:qbo} {st:St} {e ea eb:E} {oa ob:Out} {ia ib:qlb} (h1:qhc M h dep rops i a st e=some (oa,ea,ia)) (h2:qhc M h dep rops j b (apply st a.dst oa) ea=some (ob,eb,ib))
  (hd:(qdw ia.dst.toList (ib.reads++ib.dst.toList)&&qdw ib.dst.toList ia.reads&&qdw ia.dst.toList (ib.rn.map (·.1))&&qdw ib.dst.toList (ia.rn.map (·.1)))=true) (hi:indepI ia ib=true) :
  ∃ em,qhc M h dep rops j b st e=some (ob,em,ib)∧qhc M h dep rops i a (apply st b.dst ob) em=some (oa,eb,ia)∧apply (apply st a.dst oa) b.dst ob=apply (apply st b.dst ob) a.dst oa:=by
 have da:=qn6 h1
 have db:=qn6 h2
 obtain⟨fa1,_,_,_⟩:=qlg h1
 obtain⟨fb1,_,_,_⟩:=qlg h2
 obtain⟨na1,na2,na3⟩:=Qlc h1
 obtain⟨nb1,nb2,nb3⟩:=Qlc h2
 simp only[Bool.and_eq_true] at hd
 obtain⟨⟨⟨g1,g2⟩,g3⟩,g4⟩:=hd
 rw[da] at g1 g3
 rw[db] at g1 g2 g4
 have g1:=qci g1
 have g2:=qci g2
 have g3:=qci g3
 have g4:=qci g4
 have gd:∀ x∈b.dst.toList,x ∉ a.dst.toList:=fun x hx=>g1 x (List.mem_append_right _ hx)
 have gd':∀ x∈a.dst.toList,x ∉ b.dst.toList:=fun x hx hx'=>gd x hx' hx
 unfold indepI at hi
 split at hi
 ·rename_i ca cb
  obtain⟨hnw,hor⟩:=Bool.and_eq_true_iff.1 hi
  obtain⟨hnew,hmk⟩:=na1 hnw
  obtain⟨sb,hbef,haft⟩:=nb2 cb
  have sa:=fa1 ca
  obtain⟨_,ea',ma0⟩:=qc5 hM (st':=st) h1 (.inl ca) (fun _ _=>rfl) (fun _ _=>rfl) rfl
  subst ea'
  have hap:apply st a.dst oa={st with tmps:=setT a.dst oa.v st.tmps}:=qvo sa hnew
  have mb:qhc M h dep rops j b st ea=some (ob,eb,ib):=by
   rw[←h2]
   exact (outD_at (fun s hs=>by rw[hap];exact (qvc (g1 s (List.mem_append_left _ (nb3 s hs cb)))).symm) (by rw[hap])).symm
  have hsl:∀ s∈ia.reads,st.tmps.getD s .undef=(apply st b.dst ob).tmps.getD s .undef:=fun s hs=>by
   rw[qr2 sb]
   exact (qvc (g2 s hs)).symm
  refine⟨eb,mb,?_,comm_io sa hnew sb gd'⟩
  rcases Bool.or_eq_true_iff.1 hor with hrn | hL
  ·have hrn:=List.isEmpty_iff.1 hrn
   exact (qc5 hM (st':=apply st b.dst ob) h1 (.inl ca) hsl (fun nm hn=>by rw[hrn] at hn;cases hn) (Ql6 hmk _ _)).2.2 eb
  ·unfold Ql1 at hL
   split at hL
   case h_2=>cases hL
   rename_i l hl
   simp only[Bool.and_eq_true] at hL
   obtain⟨k1,k2,k3⟩:=hL
   rw[haft] at k1 k2
   obtain⟨p,hp,hpe⟩:=List.any_eq_true.1 k1
   have hpe:=of_decide_eq_true hpe
   have hrn:ia.rn=[l.1]∧∃ ob0,qbf st.objs l.1=some ob0:=by
    have hq:=List.all_eq_true.1 k3 (p.1,qbf (apply st a.dst oa).objs p.1) (by rw[hbef];exact List.mem_map.2 ⟨p,hp,rfl⟩)
    simp only[hpe,decide_true,Bool.not_true,Bool.false_or] at hq
    rw[hap] at hq
    split at hq
    ·rename_i ob0 h0
     have h0:qbf st.objs l.1=some ob0:=h0
     exact⟨(Qb6 (st':=st) h1 hl (fun _ _=>rfl) ⟨ob0,h0,hq⟩).2.1,ob0,h0⟩
    ·cases hq
   obtain⟨hrn,ob0,h0⟩:=hrn
   obtain⟨ob1,q1,q2⟩:=look_io sb h0 (g4 l.1.1 (by rw[hrn];simp)) ⟨p,hp,hpe⟩
   have hg:=List.all_eq_true.1 k2 (l.1,ob1) q2
   simp only[decide_true,Bool.not_true,Bool.false_or] at hg
   exact (Qb6 h1 hl hsl ⟨ob1,q1,hg⟩).2.2 eb
 ·rename_i ca cb
  obtain⟨hnw,hor⟩:=Bool.and_eq_true_iff.1 hi
  obtain⟨hnew,hmk⟩:=nb1 hnw
  obtain⟨sa,hbef,haft⟩:=na2 ca
  have sb:=fb1 cb
  obtain⟨_,eb',mb0⟩:=qc5 hM (st':=apply st a.dst oa) h2 (.inl cb) (fun _ _=>rfl) (fun _ _=>rfl) rfl
  subst eb'
  have hsl:∀ s∈ib.reads,(apply st a.dst oa).tmps.getD s .undef=st.tmps.getD s .undef:=fun s hs=>by
   rw[qr2 sa]
   exact qvc (g1 s (List.mem_append_left _ hs))
  have mb:qhc M h dep rops j b st e=some (ob,e,ib):=by
   rcases Bool.or_eq_true_iff.1 hor with hrn | hL
   ·have hrn:=List.isEmpty_iff.1 hrn
    exact (qc5 hM (st':=st) h2 (.inl cb) hsl (fun nm hn=>by rw[hrn] at hn;cases hn) (Ql6 hmk _ _)).2.2 e
   ·unfold Ql1 at hL
    split at hL
    case h_2=>cases hL
    rename_i l hl
    simp only[Bool.and_eq_true] at hL
    obtain⟨k1,k2,k3⟩:=hL
    rw[haft] at k1
    obtain⟨p,hp,hpe⟩:=List.any_eq_true.1 k1
    have hpe:=of_decide_eq_true hpe
    have hq:=List.all_eq_true.1 k3 (p.1,qbf st.objs p.1) (by rw[hbef];exact List.mem_map.2 ⟨p,hp,rfl⟩)
    simp only[hpe,decide_true,Bool.not_true,Bool.false_or] at hq
    split at hq
    ·rename_i ob0 h0
     exact (Qb6 h2 hl hsl ⟨ob0,h0,hq⟩).2.2 e
    ·cases hq
  have hap:apply st b.dst ob={st with tmps:=setT b.dst ob.v st.tmps}:=qvo sb hnew
  refine⟨e,mb,?_,(comm_io sb hnew sa gd).symm⟩
  rw[←h1]
  exact outD_at (fun s hs=>by rw[hap];exact (qvc (g2 s (na3 s hs ca))).symm) (by rw[hap])
 ·cases hi
theorem swapD (hM:Qhr M) {i j:Nat} {a b:qbo} {st:St} {e ea eb:E} {oa ob:Out} {ia ib:qlb} (h1:qhc M h dep rops i a st e=some (oa,ea,ia)) (h2:qhc M h dep rops j b (apply st a.dst oa) ea=some (ob,eb,ib))
  (hi:qw5 ia ib=true):∃ em,qhc M h dep rops j b st e=some (ob,em,ib)∧qhc M h dep rops i a (apply st b.dst ob) em=some (oa,eb,ia)∧apply (apply st a.dst oa) b.dst ob=apply (apply st b.dst ob) a.dst oa:=by
 unfold qw5 at hi
 obtain⟨hd,hor⟩:=Bool.and_eq_true_iff.1 hi
 rcases Bool.or_eq_true_iff.1 hor with hC | hYI
 ·obtain⟨rfl,rfl,q1,q2,q3⟩:=swapD0 hM h1 h2 (by rw[hd,hC];rfl)
  exact⟨_,q1,q2,q3⟩
 rcases Bool.or_eq_true_iff.1 hYI with hY | hI
 case inr=>exact swapI hM h1 h2 hd hI
 ·have da:=qn6 h1
  have db:=qn6 h2
  obtain⟨fa1,_,_,_⟩:=qlg h1
  obtain⟨fb1,_,_,_⟩:=qlg h2
  simp only[Bool.and_eq_true] at hd
  obtain⟨⟨⟨g1,g2⟩,g3⟩,g4⟩:=hd
  rw[da] at g1 g3
  rw[db] at g1 g2 g4
  have g1:=qci g1
  have g2:=qci g2
  have g3:=qci g3
  have g4:=qci g4
  have gd:∀ x∈b.dst.toList,x ∉ a.dst.toList:=fun x hx=>g1 x (List.mem_append_right _ hx)
  have gd':∀ x∈a.dst.toList,x ∉ b.dst.toList:=fun x hx hx'=>gd x hx' hx
  have gb:∀ d,b.dst=some d→d ∉ a.dst.toList:=fun d hd=>gd d (by rw[hd];simp)
  have ga:∀ d,a.dst=some d→d ∉ b.dst.toList:=fun d hd=>gd' d (by rw[hd];simp)
  unfold indepY at hY
  split at hY
  ·rename_i ca cb
   have sa:=fa1 ca
   obtain⟨_,ea',ma0⟩:=qc5 hM (st':=st) h1 (.inl ca) (fun _ _=>rfl) (fun _ _=>rfl) rfl
   subst ea'
   obtain⟨sb,mb⟩:=Qb5 (st':=st) h2 cb (fun s hs=>qgj sa (g1 s (List.mem_append_left _ hs))) (qfs sa gb).symm
   obtain⟨_,_,ma⟩:=qc5 hM (st':=apply st b.dst ob) h1 (.inl ca) (fun s hs=>(qgj sb (g2 s hs)).symm) (fun nm hn=>(qgk sb (g4 nm.1 (List.mem_map.2 ⟨nm,hn,rfl⟩))).symm) (qfs sb ga)
   refine⟨eb,mb,ma _,?_⟩
   rw[qcj sa,qcj sb,qcj sb,qcj sa]
   exact qqs gd' _ _ _ _ _
  ·rename_i ca cb
   have sb:=fb1 cb
   obtain⟨sa,ma0⟩:=Qb5 (st':=st) h1 ca (fun _ _=>rfl) rfl
   obtain⟨_,eb',mb⟩:=qc5 hM (st':=st) h2 (.inl cb) (fun s hs=>qgj sa (g1 s (List.mem_append_left _ hs))) (fun nm hn=>qgk sa (g3 nm.1 (List.mem_map.2 ⟨nm,hn,rfl⟩))) (qfs sa gb).symm
   subst eb'
   obtain⟨_,ma⟩:=Qb5 (st':=apply st b.dst ob) h1 ca (fun s hs=>(qgj sb (g2 s hs)).symm) (qfs sb ga)
   refine⟨e,mb _,ma,?_⟩
   rw[qcj sa,qcj sb,qcj sb,qcj sa]
   exact qqs gd' _ _ _ _ _
  ·cases hY
abbrev Qks:=Nat×Nat×qlb
inductive Qko (M:qdb) {E:Type} (h:qbg E) (dep:Nat) (rops:List qbo):List Qks→St→E→St→E→Prop
 | nil (st:St) (e:E):Qko M h dep rops [] st e st e
 | cons (t:Qks) (rest:List Qks) (o:qbo) (st st2:St) (out:Out) (e e1 e2:E) (ho:rops[t.1]?=some o) (hs:qhc M h dep rops t.1 o st e=some (out,e1,t.2.2)) (hr:Qko M h dep rops rest (apply st o.dst out) e1 st2 e2) :
   Qko M h dep rops (t :: rest) st e st2 e2
theorem Qh3 (hM:Qhr M) {t:Qks}:∀ {s1 s2:List Qks} {st st2:St} {e e2:E},Qko M h dep rops (s1++t :: s2) st e st2 e2→(∀ y∈s1,qw5 y.2.2 t.2.2=true)→Qko M h dep rops (t :: (s1++s2)) st e st2 e2:=by
 intro s1
 induction s1 with
 | nil=>intro s2 st st2 e e2 hr _;exact hr
 | cons y s1 ih =>
  intro s2 st st2 e e2 hr hi
  cases hr with
  | cons _ _ oy _ _ outy _ e1 _ hoy hsy hr =>
   have:=ih hr fun z hz=>hi z (List.mem_cons_of_mem _ hz)
   cases this with
   | cons _ _ ot _ _ outt _ e3 _ hot hst hr2 =>
    obtain⟨em,q3,q4,q5⟩:=swapD hM hsy hst (hi y List.mem_cons_self)
    refine .cons t _ ot st st2 outt _ _ e2 hot q3 (.cons y _ oy _ st2 outy _ _ e2 hoy q4 ?_)
    rw[←q5];exact hr2
theorem Qbt {i:Nat} {o:qbo} {st:St} {e e1:E} {out:Out} {info:qlb} (hx:qhc M h dep rops i o st e=some (out,e1,info)):stepG M h dep rops o st e=some (apply st o.dst out,e1):=by
 unfold qhc at hx
 unfold stepG
 split at hx
 ·split at hx
  ·rename_i o2 e2 ho
   cases hx
   simp[qpq,ho]
  ·cases hx
 ·cases hx;rfl
 ·cases hx
theorem runsG_any (hM:Qhr M):∀ (l:List Nat) (L:List Qks) {st st2:St} {e e2:E},Qko M h dep rops L st e st2 e2→L.Pairwise (fun y x=>x.2.1.testBit y.1=true∨qw5 y.2.2 x.2.2=true)→l.Perm (L.map (·.1))→l.Nodup →
  (∀ l1 x l2,l=l1++x :: l2→∀ t∈L,t.1=x→∀ y∈L,t.2.1.testBit y.1=true→y.1∈l1)→qym M h dep rops l st e st2 e2:=by
 intro l
 induction l with
 | nil =>
  intro L st st2 e e2 hr _ hp _ _
  have:L=[]:=by simpa using hp.symm.eq_nil
  subst this
  cases hr
  exact .nil _ _
 | cons x l ih =>
  intro L st st2 e e2 hr hpw hp hnd hord
  have hx:x∈L.map (·.1):=hp.mem_iff.1 List.mem_cons_self
  obtain⟨t,ht,htx⟩:=List.mem_map.1 hx
  obtain⟨s1,s2,rfl⟩:=List.append_of_mem ht
  have hind:∀ y∈s1,qw5 y.2.2 t.2.2=true:=by
   intro y hy
   rcases (List.pairwise_append.1 hpw).2.2 y hy t List.mem_cons_self with h | h
   ·have:=hord [] x l rfl t ht htx y (List.mem_append_left _ hy) h
    cases this
   ·exact h
  have hr2:=Qh3 hM hr hind
  cases hr2 with
  | cons _ _ o _ _ out _ e1 _ ho hs hr3 =>
   rw[htx] at ho hs
   refine .cons x l o st _ st2 e e1 e2 ho (Qbt hs) (ih (s1++s2) hr3 ?_ ?_ (List.nodup_cons.1 hnd).2 ?_)
   ·obtain⟨p1,p2,p3⟩:=List.pairwise_append.1 hpw
    exact List.pairwise_append.2 ⟨p1,(List.pairwise_cons.1 p2).2,fun y hy z hz=>p3 y hy z (List.mem_cons_of_mem _ hz)⟩
   ·have h1:(x :: l).Perm (x :: (s1++s2).map (·.1)):=by
     refine hp.trans ?_
     rw[List.map_append,List.map_cons,List.map_append,htx]
     exact List.perm_middle
    exact h1.cons_inv
   ·intro l1 z l2 hl t' ht' htz y hy hb
    have hmem:∀ {q},q∈s1++s2→q∈s1++t :: s2:=fun {q} hq=>by
     rcases List.mem_append.1 hq with hq | hq
     ·exact List.mem_append_left _ hq
     ·exact List.mem_append_right _ (List.mem_cons_of_mem _ hq)
    have:=hord (x :: l1) z l2 (by rw[hl];rfl) t' (hmem ht') htz y (hmem hy) hb
    rcases List.mem_cons.1 this with hyx | h
    ·exfalso
     have h1:(x :: l).Perm (x :: (s1++s2).map (·.1)):=by
      refine hp.trans ?_
      rw[List.map_append,List.map_cons,List.map_append,htx]
      exact List.perm_middle
     have h2:=(h1.cons_inv).mem_iff.2 (List.mem_map.2 ⟨y,hy,rfl⟩)
     rw[hyx] at h2
     exact (List.nodup_cons.1 hnd).1 h2
    ·exact h
theorem runD_items:∀ (l:List (Nat×Nat)) (infos:List qlb) {st st2:St} {e e2:E},Qhq M h dep rops l infos st e=some (st2,e2) →
  ∃ L:List Qks,L.map (fun t=>(t.1,t.2.1))=l∧Qko M h dep rops L st e st2 e2∧L.Pairwise (fun y x=>x.2.1.testBit y.1=true∨qw5 y.2.2 x.2.2=true) ∧
   ∀ j∈infos,∀ x∈L,x.2.1.testBit j.i=true∨qw5 j x.2.2=true:=by
 intro l
 induction l with
 | nil =>
  intro infos st st2 e e2 hr
  simp only[Qhq,Option.some.injEq,Prod.mk.injEq] at hr
  obtain⟨rfl,rfl⟩:=hr
  exact⟨[],rfl,.nil _ _,.nil,fun _ _ x hx=>by cases hx⟩
 | cons p l ih =>
  obtain⟨i,bef⟩:=p
  intro infos st st2 e e2 hr
  simp only[Qhq] at hr
  split at hr
  case h_2=>cases hr
  rename_i o ho
  split at hr
  case h_2=>cases hr
  rename_i st1 e1 info hs
  obtain⟨hk,hr⟩:=qbh hr
  obtain⟨L,h1,h2,h3,h4⟩:=ih (info :: infos) hr
  unfold qyd at hs
  split at hs
  case h_2=>cases hs
  rename_i out e1' info' hout
  cases hs
  have hii:info.i=i:=by
   unfold qhc at hout
   split at hout
   ·split at hout
    ·cases hout;rfl
    ·cases hout
   ·cases hout;rfl
   ·cases hout
  refine⟨(i,bef,info) :: L,by simp[h1],.cons (i,bef,info) L o st st2 out e e1 e2 ho hout h2,List.pairwise_cons.2 ⟨fun x hx=>?_,h3⟩,fun j hj x hx=>?_⟩
  ·have:=h4 info List.mem_cons_self x hx
   rwa [hii] at this
  ·rcases List.mem_cons.1 hx with rfl | hx
   ·have:=List.all_eq_true.1 hk j hj
    simpa using this
   ·exact h4 j (List.mem_cons_of_mem _ hj) x hx
end swap
inductive Anc (ops:Array Oper):Nat→Nat→Prop
 | base (i:Nat) (o:Oper) (e:Edge) (ho:ops[i]?=some o) (he:e∈o.after) (hb:Region.binds .any e=true):Anc ops i e.on
 | step (i y:Nat) (o:Oper) (e:Edge) (ho:ops[i]?=some o) (he:e∈o.after) (hb:Region.binds .any e=true) (h:Anc ops e.on y):Anc ops i y
inductive OrdL (ops:Array Oper):List Nat→Prop
 | nil:OrdL ops []
 | cons (i:Nat) (acc:List Nat) (h:∀ o,ops[i]?=some o→∀ e∈o.after,Region.binds .any e=true→e.on∈acc) (hr:OrdL ops acc):OrdL ops (i :: acc)
section order
variable {ops:Array Oper}
theorem OrdL.drop' {l1 l2:List Nat} (h:OrdL ops (l1++l2)):OrdL ops l2:=by
 induction l1 with
 | nil=>exact h
 | cons x l1 ih=>cases h with | cons _ _ _ hr=>exact ih hr
theorem Qbk {x y:Nat} (ha:Anc ops x y):∀ {l1 l2:List Nat},OrdL ops (l1++x :: l2)→y∈l2:=by
 induction ha with
 | base i o e ho he hb=>intro l1 l2 h;cases h.drop' with | cons _ _ h1 _=>exact h1 o ho e he hb
 | step i y o e ho he hb _ ih =>
  intro l1 l2 h
  cases h.drop' with
  | cons _ _ h1 hr =>
   have hm:=h1 o ho e he hb
   obtain⟨s1,s2,rfl⟩:=List.append_of_mem hm
   exact List.mem_append_right _ (List.mem_cons_of_mem _ (ih hr))
theorem qqy {acc:List (Nat×Nat)} {k b:Nat} (h:acc.lookup k=some b):(k,b)∈acc:=by
 induction acc with
 | nil=>simp at h
 | cons p acc ih =>
  obtain⟨k',b'⟩:=p
  rw[List.lookup_cons] at h
  by_cases hk:(k==k')=true
  ·rw[hk] at h
   cases h
   rw[beq_iff_eq.1 hk];exact List.mem_cons_self
  ·rw[Bool.not_eq_true] at hk
   rw[hk] at h
   exact List.mem_cons_of_mem _ (ih h)
theorem Qch {acc:List (Nat×Nat)} {k:Nat} (h:k∈acc.map (·.1)):(acc.lookup k).isSome=true:=by
 induction acc with
 | nil=>simp at h
 | cons p acc ih =>
  obtain⟨k',b'⟩:=p
  rw[List.lookup_cons]
  by_cases hk:(k==k')=true
  ·rw[hk];rfl
  ·rw[Bool.not_eq_true] at hk
   rw[hk]
   refine ih ?_
   rw[List.map_cons,List.mem_cons] at h
   rcases h with h | h
   ·rw[h] at hk;simp at hk
   ·exact h
theorem Qhb {acc:List (Nat×Nat)} {y:Nat}:∀ {es:List Edge},(qtb acc es).testBit y=true→∃ e∈es,Region.binds .any e=true∧(y=e.on∨∃ b,(e.on,b)∈acc∧b.testBit y=true):=by
 intro es
 induction es with
 | nil=>intro h;simp[qtb] at h
 | cons e es ih =>
  intro h
  simp only[qtb] at h
  by_cases hb:Region.binds .any e=true
  ·rw[if_pos hb] at h
   rw[Nat.testBit_or,Nat.testBit_or,Bool.or_eq_true,Bool.or_eq_true] at h
   rcases h with (h | h) | h
   ·refine⟨e,List.mem_cons_self,hb,.inl ?_⟩
    rw[Nat.testBit_two_pow] at h
    exact (of_decide_eq_true h).symm
   ·refine⟨e,List.mem_cons_self,hb,.inr ?_⟩
    cases hl:acc.lookup e.on with
    | none=>rw[hl] at h;simp at h
    | some b=>rw[hl] at h;exact⟨b,qqy hl,h⟩
   ·obtain⟨e',he',r⟩:=ih h
    exact⟨e',List.mem_cons_of_mem _ he',r⟩
  ·rw[if_neg hb] at h
   obtain⟨e',he',r⟩:=ih h
   exact⟨e',List.mem_cons_of_mem _ he',r⟩
theorem Qfj {l:List Nat} (h:l.Nodup):l.reverse.Nodup:=by
 unfold List.Nodup at *
 rw[List.pairwise_reverse]
 exact h.imp fun hne e=>hne e.symm
theorem qmw {l:List Nat}:∀ {m:List Nat},l.Nodup→(∀ x∈l,x∈m)→l.length≤m.length:=by
 induction l with
 | nil=>intro m _ _;exact Nat.zero_le _
 | cons x l ih =>
  intro m hnd hs
  obtain⟨m1,m2,rfl⟩:=List.append_of_mem (hs x List.mem_cons_self)
  have hx:=(List.nodup_cons.1 hnd).1
  have:=ih (m:=m1++m2) (List.nodup_cons.1 hnd).2 fun y hy=>by
   have hm:=hs y (List.mem_cons_of_mem _ hy)
   rcases List.mem_append.1 hm with hm | hm
   ·exact List.mem_append_left _ hm
   ·rcases List.mem_cons.1 hm with rfl | hm
    ·exact absurd hy hx
    ·exact List.mem_append_right _ hm
  simp only[List.length_append,List.length_cons] at this ⊢
  omega
theorem befGo_spec:∀ (c:List Nat) (acc:List (Nat×Nat)) (r:List (Nat×Nat)),befGo ops c acc=some r→OrdL ops (acc.map (·.1))→(acc.map (·.1)).Nodup→(∀ i∈acc.map (·.1),i < ops.size)→(∀ p∈acc,∀ y,p.2.testBit y=true→Anc ops p.1 y) →
  OrdL ops (r.map (·.1)).reverse∧(r.map (·.1)).Nodup∧(∀ i∈r.map (·.1),i < ops.size)∧r.length=ops.size∧∀ p∈r,∀ y,p.2.testBit y=true→Anc ops p.1 y:=by
 intro c
 induction c with
 | nil =>
  intro acc r h h1 h2 h3 h4
  simp only[befGo] at h
  split at h
  ·rename_i hl
   cases h
   refine⟨by rw[List.map_reverse,List.reverse_reverse];exact h1,by rw[List.map_reverse];exact Qfj h2,fun i hi=>h3 i (by rw[List.map_reverse,List.mem_reverse] at hi;exact hi),by rw[List.length_reverse];exact hl,fun p hp=>h4 p (List.mem_reverse.1 hp)⟩
  ·cases h
 | cons i c ih =>
  intro acc r h h1 h2 h3 h4
  simp only[befGo] at h
  split at h
  case h_2=>cases h
  rename_i o ho
  split at h
  case isFalse=>cases h
  rename_i hk
  obtain⟨hk1,hk2⟩:=hk
  have hedge:∀ e∈o.after,Region.binds .any e=true→e.on∈acc.map (·.1):=by
   intro e he hb
   have:=List.all_eq_true.1 hk2 e (by simpa using he)
   rw[hb] at this
   simp only[Bool.not_true,Bool.false_or] at this
   obtain⟨b,hb'⟩:=Option.isSome_iff_exists.1 this
   exact List.mem_map.2 ⟨(e.on,b),qqy hb',rfl⟩
  refine ih _ r h ?_ ?_ ?_ ?_
  ·refine .cons i _ (fun o' ho' e he hb=>?_) h1
   rw[ho] at ho';cases ho'
   exact hedge e he hb
  ·refine List.nodup_cons.2 ⟨fun hm=>?_,h2⟩
   have:=Qch hm
   rw[Option.isNone_iff_eq_none.1 hk1] at this
   cases this
  ·intro k hk
   rcases List.mem_cons.1 hk with rfl | hk
   ·exact (Array.getElem?_eq_some_iff.1 ho).1
   ·exact h3 k hk
  ·intro p hp y hy
   rcases List.mem_cons.1 hp with rfl | hp
   ·obtain⟨e,he,hb,hr⟩:=Qhb hy
    have he':e∈o.after:=by simpa using he
    rcases hr with rfl | ⟨b,hm,hbit⟩
    ·exact .base i o e ho he' hb
    ·exact .step i y o e ho he' hb (h4 _ hm y hbit)
   ·exact h4 p hp y hy
theorem qy7 {l:List Nat} {n:Nat} (h1:l.Nodup) (h2:∀ i∈l,i < n) (h3:l.length=n):l.Perm (List.range n):=by
 refine (List.perm_ext_iff_of_nodup h1 List.nodup_range).2 fun a=>⟨fun ha=>List.mem_range.2 (h2 a ha),fun ha=>?_⟩
 exact Classical.byContradiction fun hn=>by
  have:=qmw (l:=a :: l) (m:=List.range n) (List.nodup_cons.2 ⟨hn,h1⟩) fun x hx=>by
   rcases List.mem_cons.1 hx with rfl | hx
   ·exact ha
   ·exact List.mem_range.2 (h2 x hx)
  simp at this
  omega
theorem Qfo {c:List Nat} (hc1:OrdL ops c.reverse) (hc2:c.Perm (List.range ops.size)):∀ (fuel t:Nat) (listed:Array Bool) (acc:List Nat),
  listed.size=ops.size→(∀ k,k < ops.size→(listed.getD k false=true↔k∈acc))→acc.Nodup→(∀ k∈acc,k < ops.size)→acc.length+fuel=ops.size→OrdL ops acc →
  ∃ l,Region.linearise.go .any ops fuel t listed acc=l∧OrdL ops l.reverse∧l.Nodup∧(∀ k∈l,k < ops.size)∧l.length=ops.size:=by
 intro fuel
 induction fuel with
 | zero =>
  intro t listed acc _ _ hnd hlt hlen hord
  exact⟨acc.reverse,rfl,by rwa [List.reverse_reverse],Qfj hnd,fun k hk=>hlt k (List.mem_reverse.1 hk),by rw[List.length_reverse];omega⟩
 | succ fuel ih =>
  intro t listed acc hsz hl hnd hlt hlen hord
  have gd:∀ k,k < ops.size→listed.getD k true=listed.getD k false:=fun k hk=>by simp[hsz,hk]
  have hready:Region.ready .any ops listed≠[]:=by
   have hex:∃ c1 i c2,c=c1++i :: c2∧(∀ x∈c1,x∈acc)∧i ∉ acc:=by
    have hne:∃ k∈c,k ∉ acc:=Classical.byContradiction fun hno=>by
     have hall:∀ k∈c,k∈acc:=fun k hk=>Classical.byContradiction fun h=>hno ⟨k,hk,h⟩
     have:=qmw (l:=List.range ops.size) (m:=acc) List.nodup_range fun x hx=>hall x (hc2.mem_iff.2 hx)
     simp at this
     omega
    clear hc1 hc2
    induction c with
    | nil=>obtain⟨k,hk,_⟩:=hne;cases hk
    | cons x c ihc =>
     by_cases hx:x∈acc
     ·obtain⟨k,hk,hka⟩:=hne
      rcases List.mem_cons.1 hk with rfl | hk
      ·exact absurd hx hka
      ·obtain⟨c1,i,c2,rfl,h1,h2⟩:=ihc ⟨k,hk,hka⟩
       exact⟨x :: c1,i,c2,rfl,fun y hy=>(List.mem_cons.1 hy).elim (fun e=>e ▸ hx) (h1 y),h2⟩
     ·exact⟨[],x,c,rfl,fun y hy=>(by cases hy),hx⟩
   obtain⟨c1,i,c2,rfl,h1,h2⟩:=hex
   have hin:i < ops.size:=List.mem_range.1 (hc2.mem_iff.1 (List.mem_append_right _ List.mem_cons_self))
   have hmem:i∈Region.ready .any ops listed:=by
    refine mem_ready.2 ⟨?_,ops[i],Array.getElem?_eq_getElem hin,fun e he hb=>?_⟩
    ·rw[gd i hin]
     cases hb:listed.getD i false with
     | false=>rfl
     | true=>exact absurd ((hl i hin).1 hb) h2
    ·have ho:OrdL ops (c2.reverse++i :: c1.reverse):=by simpa using hc1
     have hon:e.on∈c1:=by simpa using Qbk (.base i ops[i] e (Array.getElem?_eq_getElem hin) he hb) ho
     have hacc:=h1 _ hon
     exact (hl e.on (hlt _ hacc)).2 hacc
   intro h0
   rw[h0] at hmem
   cases hmem
  simp only[Region.linearise.go]
  change ∃ l,(match (Region.ready .any ops listed)[t%(Region.ready .any ops listed).length]? with
   | some i=>Region.linearise.go .any ops fuel (t / (Region.ready .any ops listed).length) (listed.setIfInBounds i true) (i :: acc)
   | none=>acc.reverse)=l∧_
  have hlt2:t%(Region.ready .any ops listed).length < (Region.ready .any ops listed).length:=Nat.mod_lt _ (List.length_pos_iff.2 hready)
  rw[List.getElem?_eq_getElem hlt2]
  simp only
  have him:=List.getElem_mem hlt2
  generalize (Region.ready .any ops listed)[t%(Region.ready .any ops listed).length]=i at him ⊢
  obtain⟨hi1,o,ho,hi2⟩:=mem_ready.1 him
  have hin:i < ops.size:=(Array.getElem?_eq_some_iff.1 ho).1
  have hia:i ∉ acc:=fun hm=>by
   have:=(hl i hin).2 hm
   rw[←gd i hin,hi1] at this
   cases this
  refine ih _ _ _ (by simpa using hsz) (fun k hk=>?_) (List.nodup_cons.2 ⟨hia,hnd⟩) (fun k hk=>?_) (by simp only[List.length_cons];omega) (.cons i acc (fun o' ho' e he hb=>?_) hord)
  ·by_cases hki:k=i
   ·subst hki;simp[hsz,hk]
   ·have:(listed.setIfInBounds i true).getD k false=listed.getD k false:=getD_set_ne false (Ne.symm hki)
    rw[this,hl k hk]
    simp[hki]
  ·rcases List.mem_cons.1 hk with rfl | hk
   ·exact hin
   ·exact hlt k hk
  ·rw[ho] at ho';cases ho'
   have:=hi2 e he hb
   have hon:e.on < ops.size:=by
    rcases Nat.lt_or_ge e.on listed.size with h | h
    ·omega
    ·simp[Array.getElem?_eq_none h] at this
   exact (hl e.on hon).1 this
end order
section draw
variable {E:Type} {cx:Cx} {w0:World} {I0 F0:Nat→Prop} {O0:Own} {Hd:Nat→Option Obj} {R:qkj E} {e e':E} {F F':Nat→Prop} {lp:Nat→Option Nat} {suf tmv:List Value}
variable {I I':Nat→Prop} {L:Loc} {st st':St} {a:Act} {w w':World} {o:Oper} {M:qdb} {h:qbg E} {dep:Nat}
theorem Fr.drew {ds:List Deferred} (hf:Fr cx w0 I0 F0 O0 Hd R e ds I F L w):Fr cx w0 I0 F0 O0 Hd R e ds I F L w.drew :=
 hf.same ⟨rfl,rfl,rfl,rfl⟩
theorem Qh9 {ops:Array Oper} {id:Nat} (hM:qgs cx M.call) (hsp:MSp cx M) (hloc:Qhr M) (href:Ref cx lp R h dep w0 I0 F0) {ro:Option Nat} {Q:Exit→Act→World→Prop} {st2:St} {e2:E} {ord:List Nat} {l:List (Nat×Nat)}
  (hb:befGo ops ord []=some l) (hr:Qhq M h dep (ops.toList.map (qhb cx.P cx.G)) l [] (qgf (qmp (ops.toList.map (qhb cx.P cx.G))) st) e=some (st2,e2))
  (hs:SR lp I L st a.tmps.toList suf w) (hf:Fr cx w0 I0 F0 O0 Hd R e a.defers I F L w)
  (hQ:∀ a' w' I' F' L',SR lp I' L' st2 a'.tmps.toList suf w'→Fr cx w0 I0 F0 O0 Hd R e2 a'.defers I' F' L' w'→Q .normal a' w'):(Code.region id ops true).wpIn (fen ro) 0 cx.P Q a w:=by
 obtain⟨b1,b2,b3,b4,b5⟩:=befGo_spec ord [] l hb .nil List.nodup_nil (fun i hi=>by cases hi) (fun p hp=>by cases hp)
 have hcp:(l.map (·.1)).Perm (List.range ops.size):=qy7 b2 b3 (by rw[List.length_map];exact b4)
 obtain⟨L',hs',hf'⟩:=qrv (qmp (ops.toList.map (qhb cx.P cx.G))) hs hf
 obtain⟨items,i1,i2,i3,_⟩:=runD_items l [] hr
 refine wpIn_region_draw fun t=>?_
 simp only[Region.schedule,cx.mixed,Bool.true_or,if_true]
 obtain⟨sch,s1,s2,s3,s4,s5⟩:=Qfo b1 hcp ops.size t (Array.replicate ops.size false) [] (by simp) (fun k hk=>by simp[hk]) List.nodup_nil (fun k hk=>by cases hk) (by simp) .nil
 have hsch:Region.linearise .any ops t=sch:=s1
 rw[hsch]
 have hmap:items.map (·.1)=l.map (·.1):=by rw[←i1,List.map_map];rfl
 have hG:=runsG_any hloc sch items i2 i3 (by rw[hmap];exact (qy7 s3 s4 s5).trans hcp.symm) s3 (fun l1 x l2 hl t' ht htx y hy hbit=>by
  have hp:(t'.1,t'.2.1)∈l:=by rw[←i1];exact List.mem_map.2 ⟨t',ht,rfl⟩
  have hanc:=b5 _ hp y.1 hbit
  simp only at hanc
  rw[htx] at hanc
  rw[hl] at s2
  simp only[List.reverse_append,List.reverse_cons,List.append_assoc,List.singleton_append] at s2
  simpa using Qbk hanc s2)
 rw[←List.append_nil sch]
 exact qsd (l':=[]) hM hsp href hG (hs'.same ⟨rfl,rfl,rfl,rfl⟩) hf'.drew hQ
end draw
end Go.Ab


namespace Go.Ab
section
variable {E:Type} {cx:Cx} {w0:World} {I0 F0:Nat→Prop} {O0:Own} {Hd:Nat→Option Obj} {R:qkj E} {e:E} {F:Nat→Prop} {lp:Nat→Option Nat} {suf tmv:List Value}
variable {I:Nat→Prop} {L:Loc} {st:St} {w:World} {ds:List Deferred}
theorem qt1 {t:Nat} (h:qqi st t=true):st.objs[t]?=some []:=by
 unfold qqi at h
 split at h
 ·assumption
 ·cases h
theorem qzh {t:Nat} (h:st.objs[t]?=some []) (j:Nat):qbf st.objs (t,j)=none:=by
 unfold qbf;rw[h];rfl
theorem qha.ren {ob:Ob} {p:Option (Nat×Nat)} {f:Nm→Nm} {L L':Loc} (h:qha w I lp L ob p) (hf:∀ nm p,L nm=some p→L' (f nm)=some p):qha w I lp L' (ob.ren f) p:=by
 cases p with
 | none=>obtain⟨k,kt,rfl⟩:=h;exact⟨k,kt,rfl⟩
 | some p =>
  cases ob with
  | cells ty cs=>obtain⟨c,E,h1,h2,h4,h3⟩:=h;exact⟨c,E,h1,h2,h4,h3.rename hf⟩
  | arr k kt xs=>exact h
  | map es=>exact h
  | siter s pos=>exact h
def qk2 (L:Loc) (t:Nat) (nm:Nm):Loc:=fun m=>if m=(t,0) then L nm else if m=nm then some none else L m
theorem rehome_ok (t:Nat) (hs:SR lp I L st tmv suf w) (hf:Fr cx w0 I0 F0 O0 Hd R e ds I F L w):∃ L',SR lp I L' (qjc t st) tmv suf w∧Fr cx w0 I0 F0 O0 Hd R e ds I F L' w:=by
 unfold qjc
 split
 case h_2=>exact⟨L,hs,hf⟩
 rename_i nm k o n hx
 split
 case isFalse=>exact⟨L,hs,hf⟩
 rename_i hc
 obtain⟨hne,hem⟩:=hc
 have hcl:=qt1 hem
 split
 case h_2=>exact⟨L,hs,hf⟩
 rename_i ob hlk
 obtain⟨p,hp,ha⟩:=hs.ob nm ob hlk
 have hno:L (t,0)=none:=hs.dom _ (qzh hcl 0)
 have hnt:nm.1≠t:=by
  intro h1
  unfold qbf at hlk
  rw[h1,hcl] at hlk
  simp at hlk
 have hren:∀ m q,L m=some q→qk2 L t nm (if m=nm then (t,0) else m)=some q:=by
  intro m q hq
  unfold qk2
  by_cases hm:m=nm
  ·subst hm;simp[hq]
  ·have hmt:m≠(t,0):=fun h=>by rw[h,hno] at hq;cases hq
   simp[hm,hmt,hq]
 have hsome:∀ m b C,qk2 L t nm m=some (some (b,C))→∃ m',L m'=some (some (b,C))∧(m=(t,0)∧m'=nm∨m≠(t,0)∧m≠nm∧m'=m):=by
  intro m b C hm
  unfold qk2 at hm
  split at hm
  ·rename_i h1;exact⟨nm,hm,.inl ⟨h1,rfl⟩⟩
  ·rename_i h1
   split at hm
   ·cases hm
   ·rename_i h2;exact⟨m,hm,.inr ⟨h1,h2,rfl⟩⟩
 refine⟨qk2 L t nm,⟨hs.tm.rename hren,hs.kp.rename hren,?_,?_⟩,?_⟩
 ·intro m ob' hl
  have hlt:t < (qb9 (st.objs.map (·.map (Ob.ren fun m=>if m=nm then (t,0) else m))) nm qd5).length:=by
   have h1:=(List.getElem?_eq_some_iff.1 hcl).1
   unfold qb9
   split<;>simp<;>exact h1
  by_cases h1:m.1=t
  ·obtain⟨a,j⟩:=m
   simp only at h1;subst h1
   rw[qb0 _ hlt] at hl
   cases j with
   | succ j=>simp at hl
   | zero =>
    simp only[List.getElem?_cons_zero,Option.some.injEq] at hl
    subst hl
    exact⟨p,by simp[qk2,hp],ha.ren hren⟩
  ·rw[qbw _ h1] at hl
   have h1':m≠(t,0):=fun h=>h1 (by rw[h])
   by_cases h2:m=nm
   ·subst h2
    have:qbf (st.objs.map (·.map (Ob.ren fun m'=>if m'=m then (t,0) else m'))) m=some (ob.ren fun m'=>if m'=m then (t,0) else m'):=by
     rw[qde,hlk];rfl
    rw[qds qd5 this] at hl
    cases hl
    exact⟨none,by simp[qk2,h1'],⟨0,0,rfl⟩⟩
   ·rw[qce qd5 h2,qde] at hl
    obtain⟨ob0,hl0,rfl⟩:=Option.map_eq_some_iff.1 hl
    obtain⟨q,hq,hb⟩:=hs.ob m ob0 hl0
    exact⟨q,by simp[qk2,h1',h2,hq],hb.ren hren⟩
 ·intro m hl
  have hlt:t < (qb9 (st.objs.map (·.map (Ob.ren fun m=>if m=nm then (t,0) else m))) nm qd5).length:=by
   have h1:=(List.getElem?_eq_some_iff.1 hcl).1
   unfold qb9
   split<;>simp<;>exact h1
  by_cases h1:m.1=t
  ·obtain⟨a,j⟩:=m
   simp only at h1;subst h1
   rw[qb0 _ hlt] at hl
   cases j with
   | zero=>simp at hl
   | succ j =>
    have h2:((a,j+1):Nm)≠nm:=fun h=>hnt (by rw[←h])
    simp only[qk2,h2,if_false]
    have h3:((a,j+1):Nm)≠(a,0):=fun h=>by simp at h
    simp only[h3,if_false]
    exact hs.dom _ (qzh hcl _)
  ·rw[qbw _ h1] at hl
   have h1':m≠(t,0):=fun h=>h1 (by rw[h])
   have h2:m≠nm:=fun h=>by
    subst h
    have:=(qdt qd5).1 hl
    rw[qde,hlk] at this
    cases this
   have:=(qdt qd5).1 hl
   rw[qde] at this
   simp only[qk2,h1',h2,if_false]
   exact hs.dom m (by simpa using this)
 ·refine hf.own rfl rfl rfl (Nat.le_refl _) (fun _ _ _=>rfl) (fun _ h=>h) (fun _ h=>.inl h) (fun m b C hm=>?_) (fun m m' b C C' h1 h2=>?_)
  ·obtain⟨m',hm',_⟩:=hsome m b C hm
   exact⟨(hf.lB m' b C hm').2.1,(hf.lB m' b C hm').2.2.1,.inr ⟨m',C,hm'⟩⟩
  ·obtain⟨x,hx1,hx2⟩:=hsome m b C h1
   obtain⟨y,hy1,hy2⟩:=hsome m' b C' h2
   have hxy:=hf.inj x y b C C' hx1 hy1
   rcases hx2 with ⟨rfl,rfl⟩ | ⟨g1,g2,rfl⟩<;>rcases hy2 with ⟨rfl,rfl⟩ | ⟨g3,g4,rfl⟩
   ·rfl
   ·exact absurd hxy.symm g4
   ·exact absurd hxy g2
   ·exact hxy
theorem growNil_ok {nm:Nm} {ty:Nat} {cs:List PV} {i k:Nat} (hlk:qbf st.objs nm=some (.cells ty cs)) (hi:cs[i]?=some .nilS) (hs:SR lp I L st tmv suf w) (hf:Fr cx w0 I0 F0 O0 Hd R e ds I F L w) :
  ∃ L',SR lp I L' {st with objs:=st.objs.set nm.1 ((st.objs.getD nm.1 []).set nm.2 (.cells ty (cs.set i (.arr (nm.1,(st.objs.getD nm.1 []).length) k 0 0)))++[.arr k 0 []])} tmv suf w∧Fr cx w0 I0 F0 O0 Hd R e ds I F L' w:=by
 obtain⟨d,j⟩:=nm
 simp only
 cases hl:st.objs[d]? with
 | none=>unfold qbf at hlk;simp only[hl] at hlk;cases hlk
 | some l =>
  have hlook:∀ j,qbf st.objs (d,j)=l[j]?:=fun j=>by unfold qbf;simp only[hl]
  have hgd:st.objs.getD d []=l:=by rw[List.getD_eq_getElem?_getD,hl];rfl
  have hlt:=(List.getElem?_eq_some_iff.1 hl).1
  rw[hgd]
  rw[hlook] at hlk
  have hj:=(List.getElem?_eq_some_iff.1 hlk).1
  have hfree:L (d,l.length)=none:=hs.dom _ (by rw[hlook];simp)
  let L':Loc:=fun t=>if t=(d,l.length) then some none else L t
  have hle:Qkq L L':=by
   intro t p hp
   have:t≠(d,l.length):=fun h=>by rw[h,hfree] at hp;cases hp
   simp only[L',this,if_false];exact hp
  refine⟨L',⟨hs.tm.reloc hle,hs.kp.reloc hle,fun t ob ht=>?_,fun t ht=>?_⟩,?_⟩
  ·simp only at ht
   by_cases h1:t.1=d
   ·obtain⟨a,b⟩:=t
    simp only at h1;subst h1
    rw[qb0 _ hlt] at ht
    by_cases hb:b < l.length
    ·rw[List.getElem?_append_left (by simpa using hb)] at ht
     have hne:((a,b):Nm)≠(a,l.length):=fun h=>by have:=congrArg Prod.snd h;simp at this;omega
     by_cases hbj:b=j
     ·subst hbj
      rw[List.getElem?_set_self hb] at ht
      cases ht
      obtain⟨p,hp,ha⟩:=hs.ob (a,b) _ (by rw[hlook];exact hlk)
      refine⟨p,by simp only[L',hne,if_false];exact hp,?_⟩
      cases p with
      | none=>obtain⟨k',kt',h⟩:=ha;cases h
      | some p =>
       obtain⟨b0,C⟩:=p
       obtain⟨c,E',q1,q2,q3,q4⟩:=ha
       refine⟨c,E',q1,q2,q3,?_⟩
       have q5:=q4.reloc hle
       obtain⟨v,hv,hr⟩:=q5.get hi
       have hvv:=qf3 hr
       subst hvv
       have:=q5.set i (x:=.arr (a,l.length) k 0 0) (v:=.slice none 0 0) (.arrN _ k (by simp[L']))
       rwa [Qbw hv] at this
     ·rw[List.getElem?_set_ne (Ne.symm hbj)] at ht
      obtain⟨p,hp,ha⟩:=hs.ob (a,b) ob (by rw[hlook];exact ht)
      exact⟨p,by simp only[L',hne,if_false];exact hp,ha.reloc hle⟩
    ·rw[List.getElem?_append_right (by simpa using hb)] at ht
     simp only[List.length_set] at ht
     have hb2:b=l.length:=by
      have:=(List.getElem?_eq_some_iff.1 ht).1
      simp at this;omega
     subst hb2
     simp at ht
     subst ht
     exact⟨none,by simp[L'],⟨k,_,rfl⟩⟩
   ·rw[qbw _ h1] at ht
    obtain⟨p,hp,ha⟩:=hs.ob t ob ht
    have hne:t≠(d,l.length):=fun h=>h1 (by rw[h])
    exact⟨p,by simp only[L',hne,if_false];exact hp,ha.reloc hle⟩
  ·simp only at ht
   by_cases h1:t.1=d
   ·obtain⟨a,b⟩:=t
    simp only at h1;subst h1
    rw[qb0 _ hlt] at ht
    have hb:l.length < b:=by
     have:=List.getElem?_eq_none_iff.1 ht
     simp at this;omega
    have hne:((a,b):Nm)≠(a,l.length):=fun h=>by have:=congrArg Prod.snd h;simp at this;omega
    simp only[L',hne,if_false]
    exact hs.dom _ (by rw[hlook];exact List.getElem?_eq_none_iff.2 (by omega))
   ·rw[qbw _ h1] at ht
    have hne:t≠(d,l.length):=fun h=>h1 (by rw[h])
    simp only[L',hne,if_false]
    exact hs.dom t ht
  ·have hsome:∀ t b C,L' t=some (some (b,C))→L t=some (some (b,C)):=by
    intro t b C ht
    simp only[L'] at ht
    split at ht
    ·cases ht
    ·exact ht
   exact hf.own rfl rfl rfl (Nat.le_refl _) (fun _ _ _=>rfl) (fun _ h=>h) (fun _ h=>.inl h) (fun t b C ht=>by
    have:=hsome t b C ht
    exact⟨(hf.lB t b C this).2.1,(hf.lB t b C this).2.2.1,.inr ⟨t,C,this⟩⟩) fun t t' b C C' h1 h2=>hf.inj t t' b C C' (hsome _ _ _ h1) (hsome _ _ _ h2)
theorem Qj1 {d len:Nat} {m:Nm} {ob:Ob} {l:List Ob} (hl:st.objs[d]?=some l) (hlen:l.length=len) (hmd:m.1≠d) (hlk:qbf st.objs m=some ob) (hs:SR lp I L st tmv suf w) (hf:Fr cx w0 I0 F0 O0 Hd R e ds I F L w) :
  let f:Nm→Nm:=fun x=>if x=m then (d,len) else x
  let objs:=qb9 (st.objs.map (·.map (Ob.ren f))) m qd5
  ∃ L',SR lp I L' {tmps:=qf1 f st.tmps,objs:=objs.set d (objs.getD d []++[ob.ren f]),keep:=qf1 f st.keep} tmv suf w∧Fr cx w0 I0 F0 O0 Hd R e ds I F L' w:=by
 intro f objs
 obtain⟨p,hp,ha⟩:=hs.ob m ob hlk
 have hlook:∀ j,qbf st.objs (d,j)=l[j]?:=fun j=>by unfold qbf;simp only[hl]
 have hfree:L (d,len)=none:=hs.dom _ (by rw[hlook];simp[hlen])
 have hne:m≠(d,len):=fun h=>hmd (by rw[h])
 let L':Loc:=fun t=>if t=(d,len) then L m else if t=m then some none else L t
 have hren:∀ x q,L x=some q→L' (f x)=some q:=by
  intro x q hq
  simp only[L',f]
  by_cases hx:x=m
  ·subst hx;simp[hq]
  ·have hxt:x≠(d,len):=fun h=>by rw[h,hfree] at hq;cases hq
   simp[hx,hxt,hq]
 have hsome:∀ x b C,L' x=some (some (b,C))→∃ x',L x'=some (some (b,C))∧(x=(d,len)∧x'=m∨x≠(d,len)∧x≠m∧x'=x):=by
  intro x b C hx
  simp only[L'] at hx
  split at hx
  ·rename_i h1;exact⟨m,hx,.inl ⟨h1,rfl⟩⟩
  ·rename_i h1
   split at hx
   ·cases hx
   ·rename_i h2;exact⟨x,hx,.inr ⟨h1,h2,rfl⟩⟩
 have hobd:objs[d]?=some (l.map (Ob.ren f)):=by
  simp only[objs]
  unfold qb9
  split
  ·rename_i l' hl'
   rw[List.getElem?_set_ne hmd,List.getElem?_map,hl];rfl
  ·rw[List.getElem?_map,hl];rfl
 have hlt:d < objs.length:=(List.getElem?_eq_some_iff.1 hobd).1
 have hgd:objs.getD d []=l.map (Ob.ren f):=by rw[List.getD_eq_getElem?_getD,hobd];rfl
 have hlm:qbf (st.objs.map (·.map (Ob.ren f))) m=some (ob.ren f):=by rw[qde,hlk];rfl
 refine⟨L',⟨hs.tm.rename hren,hs.kp.rename hren,?_,?_⟩,?_⟩
 ·intro t ob' ht
  simp only at ht
  rw[hgd] at ht
  by_cases h1:t.1=d
  ·obtain⟨a,j⟩:=t
   simp only at h1;subst h1
   rw[qb0 _ hlt] at ht
   by_cases hj:j < l.length
   ·rw[List.getElem?_append_left (by simpa using hj),List.getElem?_map] at ht
    obtain⟨ob0,h0,rfl⟩:=Option.map_eq_some_iff.1 ht
    obtain⟨q,hq,hb⟩:=hs.ob (a,j) ob0 (by rw[hlook];exact h0)
    have h2:((a,j):Nm)≠(a,len):=fun h=>by have:=congrArg Prod.snd h;simp at this;omega
    have h3:((a,j):Nm)≠m:=fun h=>hmd (by rw[←h])
    exact⟨q,by simp only[L',h2,h3,if_false];exact hq,hb.ren hren⟩
   ·rw[List.getElem?_append_right (by simpa using hj)] at ht
    simp only[List.length_map] at ht
    have hj2:j=len:=by
     have:=(List.getElem?_eq_some_iff.1 ht).1
     simp at this;omega
    subst hj2
    rw[hlen] at ht
    simp at ht
    subst ht
    exact⟨p,by simp[L',hp],ha.ren hren⟩
  ·rw[qbw _ h1] at ht
   have h2:t≠(d,len):=fun h=>h1 (by rw[h])
   by_cases h3:t=m
   ·subst h3
    rw[qds qd5 hlm] at ht
    cases ht
    exact⟨none,by simp[L',h2],⟨0,0,rfl⟩⟩
   ·rw[qce qd5 h3,qde] at ht
    obtain⟨ob0,h0,rfl⟩:=Option.map_eq_some_iff.1 ht
    obtain⟨q,hq,hb⟩:=hs.ob t ob0 h0
    exact⟨q,by simp[L',h2,h3,hq],hb.ren hren⟩
 ·intro t ht
  simp only at ht
  rw[hgd] at ht
  by_cases h1:t.1=d
  ·obtain⟨a,j⟩:=t
   simp only at h1;subst h1
   rw[qb0 _ hlt] at ht
   have hj:l.length < j:=by have:=List.getElem?_eq_none_iff.1 ht;simp at this;omega
   have h2:((a,j):Nm)≠(a,len):=fun h=>by have:=congrArg Prod.snd h;simp at this;omega
   have h3:((a,j):Nm)≠m:=fun h=>hmd (by rw[←h])
   simp only[L',h2,h3,if_false]
   exact hs.dom _ (by rw[hlook];exact List.getElem?_eq_none_iff.2 (by omega))
  ·rw[qbw _ h1] at ht
   have h2:t≠(d,len):=fun h=>h1 (by rw[h])
   have h3:t≠m:=fun h=>by
    subst h
    have:=(qdt qd5).1 ht
    rw[hlm] at this;cases this
   have:=(qdt qd5).1 ht
   rw[qde] at this
   simp only[L',h2,h3,if_false]
   exact hs.dom t (by simpa using this)
 ·refine hf.own rfl rfl rfl (Nat.le_refl _) (fun _ _ _=>rfl) (fun _ h=>h) (fun _ h=>.inl h) (fun x b C hx=>?_) (fun x x' b C C' h1 h2=>?_)
  ·obtain⟨x',hx',_⟩:=hsome x b C hx
   exact⟨(hf.lB x' b C hx').2.1,(hf.lB x' b C hx').2.2.1,.inr ⟨x',C,hx'⟩⟩
  ·obtain⟨y,hy1,hy2⟩:=hsome x b C h1
   obtain⟨z,hz1,hz2⟩:=hsome x' b C' h2
   have hyz:=hf.inj y z b C C' hy1 hz1
   rcases hy2 with ⟨rfl,rfl⟩ | ⟨g1,g2,rfl⟩<;>rcases hz2 with ⟨rfl,rfl⟩ | ⟨g3,g4,rfl⟩
   ·rfl
   ·exact absurd hyz.symm g4
   ·exact absurd hyz g2
   ·exact hyz
theorem growC_ok (x off k:Nat) (hs:SR lp I L st tmv suf w) (hf:Fr cx w0 I0 F0 O0 Hd R e ds I F L w):∃ L',SR lp I L' (growC x off k st) tmv suf w∧Fr cx w0 I0 F0 O0 Hd R e ds I F L' w:=by
 unfold growC
 split
 case h_2=>exact⟨L,hs,hf⟩
 rename_i nm o hx
 split
 case h_2=>exact⟨L,hs,hf⟩
 rename_i cs hlk
 unfold qph
 simp only
 split
 ·rename_i hi;exact growNil_ok hlk hi hs hf
 ·rename_i m k' o' n' hi
  split
  case isFalse=>exact⟨L,hs,hf⟩
  rename_i hm
  split
  case h_2=>exact⟨L,hs,hf⟩
  rename_i ob hob
  cases hl:st.objs[nm.1]? with
  | none=>unfold qbf at hlk;rw[hl] at hlk;cases hlk
  | some l =>
   have hgd:st.objs.getD nm.1 []=l:=by rw[List.getD_eq_getElem?_getD,hl];rfl
   rw[hgd]
   exact Qj1 hl rfl hm hob hs hf
 ·exact⟨L,hs,hf⟩
theorem grow_ok (t k:Nat) (hs:SR lp I L st tmv suf w) (hf:Fr cx w0 I0 F0 O0 Hd R e ds I F L w):∃ L',SR lp I L' (qst t k st) tmv suf w∧Fr cx w0 I0 F0 O0 Hd R e ds I F L' w:=by
 unfold qst
 split
 ·exact growC_ok _ _ _ hs hf
 split
 case h_2=>exact⟨L,hs,hf⟩
 rename_i hx
 split
 case isFalse=>exact⟨L,hs,hf⟩
 rename_i hem
 have hcl:=qt1 hem
 have hn:=hs.news hcl [.arr k 0 []] [none] rfl (by
  intro j ob p h1 h2
  cases j with
  | zero=>simp at h1 h2;subst h1;subst h2;exact⟨k,_,rfl⟩
  | succ j=>simp at h1)
 have hxs:st.tmps[t]?=some .nilS:=by
  cases h:st.tmps[t]? with
  | none=>rw[List.getD_eq_getElem?_getD,h] at hx;simp at hx
  | some x=>rw[List.getD_eq_getElem?_getD,h] at hx;simp at hx;rw[hx]
 obtain⟨v,hv,hr⟩:=hs.tm.get hxs
 have hvv:=qf3 hr
 subst hvv
 have hp:=hn.put t (v:=.arr (t,0) k 0 0) (v':=.slice none 0 0) (.arrN _ k (by simp[qdn]))
 rw[Qbw hv] at hp
 refine⟨qdn L t [none],hp,?_⟩
 refine Fr.news hf hcl rfl rfl rfl (Nat.le_refl _) (fun _ _=>rfl) ?_ ?_
 ·intro j b C hj
  cases j with
  | zero=>simp at hj
  | succ j=>simp at hj
 ·intro j j' b C C' h1 _
  cases j with
  | zero=>simp at h1
  | succ j=>simp at h1
theorem norm0_ok (asg:List Nat) (grow:List (Nat×Nat)) (hs:SR lp I L st tmv suf w) (hf:Fr cx w0 I0 F0 O0 Hd R e ds I F L w):∃ L',SR lp I L' (Qcc asg grow st) tmv suf w∧Fr cx w0 I0 F0 O0 Hd R e ds I F L' w:=by
 have h1:∀ (asg:List Nat) (st:St) (L:Loc),SR lp I L st tmv suf w→Fr cx w0 I0 F0 O0 Hd R e ds I F L w→∃ L',SR lp I L' (asg.foldl (fun st t=>qjc t st) st) tmv suf w∧Fr cx w0 I0 F0 O0 Hd R e ds I F L' w:=by
  intro asg
  induction asg with
  | nil=>intro st L hs hf;exact⟨L,hs,hf⟩
  | cons t asg ih =>
   intro st L hs hf
   obtain⟨L',hs',hf'⟩:=rehome_ok t hs hf
   exact ih _ L' hs' hf'
 have h2:∀ (grow:List (Nat×Nat)) (st:St) (L:Loc),SR lp I L st tmv suf w→Fr cx w0 I0 F0 O0 Hd R e ds I F L w→∃ L',SR lp I L' (grow.foldl (fun st (t,k)=>qst t k st) st) tmv suf w∧Fr cx w0 I0 F0 O0 Hd R e ds I F L' w:=by
  intro grow
  induction grow with
  | nil=>intro st L hs hf;exact⟨L,hs,hf⟩
  | cons t grow ih =>
   intro st L hs hf
   obtain⟨L',hs',hf'⟩:=grow_ok t.1 t.2 hs hf
   exact ih _ L' hs' hf'
 obtain⟨L1,hs1,hf1⟩:=h1 asg st L hs hf
 exact h2 grow _ L1 hs1 hf1
theorem undef_some (xs:List Nat) {L:Option Loc}:∀ (k:Nat) {ys:List PV} {vs:List Value},qbn w I lp L ys vs→qbn w I lp L ((ys.zipIdx k).map fun (v,i)=>if xs.contains i then .undef else v) vs:=by
 intro k ys
 induction ys generalizing k with
 | nil=>intro vs h;cases h;exact .nil
 | cons y ys ih =>
  intro vs h
  cases h with
  | cons _ v _ vs h hs =>
   rw[List.zipIdx_cons,List.map_cons]
   refine .cons _ _ _ _ ?_ (ih (k+1) hs)
   simp only
   split
   ·exact .undef v
   ·exact h
theorem undefAt_ok (xs:List Nat) (hs:SR lp I L st tmv suf w):SR lp I L (qhe xs st) tmv suf w:={hs with tm:=undef_some xs 0 hs.tm}
theorem keep_some (xs:List Nat) {L:Option Loc}:∀ (k:Nat) {ys:List PV} {vs:List Value},qbn w I lp L ys vs→qbn w I lp L ((ys.zipIdx k).map fun (v,i)=>if xs.contains i then v else .undef) vs:=by
 intro k ys
 induction ys generalizing k with
 | nil=>intro vs h;cases h;exact .nil
 | cons y ys ih =>
  intro vs h
  cases h with
  | cons _ v _ vs h hs =>
   rw[List.zipIdx_cons,List.map_cons]
   refine .cons _ _ _ _ ?_ (ih (k+1) hs)
   simp only
   split
   ·exact h
   ·exact .undef v
theorem Qjv (xs:List Nat) (hs:SR lp I L st tmv suf w):SR lp I L (qf2 xs st) tmv suf w:={hs with tm:=keep_some xs 0 hs.tm}
theorem Qbr (qd5:Option (List Nat)) (hs:SR lp I L st tmv suf w) (hf:Fr cx w0 I0 F0 O0 Hd R e ds I F L w):∃ L',SR lp I L' (Qhp qd5 st) tmv suf w∧Fr cx w0 I0 F0 O0 Hd R e ds I F L' w:=by
 unfold Qhp
 split
 ·exact⟨L,hs,hf⟩
 ·exact qrv _ (Qjv _ hs) hf
theorem drop_ok (xs:List Nat) (hs:SR lp I L st tmv suf w) (hf:Fr cx w0 I0 F0 O0 Hd R e ds I F L w):∃ L',SR lp I L' (drop xs st) tmv suf w∧Fr cx w0 I0 F0 O0 Hd R e ds I F L' w:=by
 unfold drop
 exact qrv _ (undefAt_ok xs hs) hf
theorem Qml {R:List Nm} {d m:Nat} (h:(d,m)∈R):∀ {n},m < n→m < qxw R d n
 | n+1,hn=>by
  unfold qxw
  split
  ·exact hn
  ·rename_i hc
   have hne:m≠n:=fun e=>hc (by rw[←e];exact List.contains_iff_mem.2 h)
   exact Qml h (by omega)
theorem Qhw (hs:SR lp I L st tmv suf w) (hf:Fr cx w0 I0 F0 O0 Hd R e ds I F L w):∃ L',SR lp I L' (trim st) tmv suf w∧Fr cx w0 I0 F0 O0 Hd R e ds I F L' w:=by
 obtain⟨T,O,K⟩:=st
 unfold trim
 simp only
 generalize hR:(qbd T++qbd K++O.flatMap fun l=>l.flatMap Ob.names)=Rn
 let D:Nm→Prop:=fun nm=>(qbf O nm).isSome=true∧qxw Rn nm.1 (O.getD nm.1 []).length≤nm.2
 have hno:∀ nm∈Rn,¬ D nm:=by
  rintro nm hn ⟨h1,h2⟩
  have hl:nm.2 < (O.getD nm.1 []).length:=by
   unfold qbf at h1
   cases hq:O[nm.1]? with
   | none=>rw[hq] at h1;cases h1
   | some l =>
    rw[hq] at h1
    rw[List.getD_eq_getElem?_getD,hq]
    obtain⟨x,hx⟩:=Option.isSome_iff_exists.1 h1
    exact (List.getElem?_eq_some_iff.1 hx).1
  have:=Qml (R:=Rn) (d:=nm.1) (m:=nm.2) hn hl
  omega
 have hsub:∀ xs:List PV,(∀ nm∈qbd xs,nm∈Rn)→qdy (fun m=>if D m then some none else none) xs=xs:=by
  intro xs hx
  rw[qgh (g:=fun _=>none) xs fun nm hn=>if_neg (hno nm (hx nm hn)),subL_id]
 have hobs:∀ nm ob,qbf O nm=some ob→ob.sub (fun m=>if D m then some none else none)=ob:=by
  intro nm ob hl
  cases ob with
  | cells ty cs =>
   show Ob.cells ty _=_
   rw[hsub cs fun m hm=>?_]
   rw[←hR]
   refine List.mem_append_right _ (List.mem_flatMap.2 ?_)
   unfold qbf at hl
   cases hq:O[nm.1]? with
   | none=>rw[hq] at hl;cases hl
   | some l =>
    rw[hq] at hl
    exact⟨l,List.mem_of_getElem? hq,List.mem_flatMap.2 ⟨_,List.mem_of_getElem? hl,hm⟩⟩
  | arr k kt xs=>rfl
  | map es=>rfl
  | siter s pos=>rfl
 have hl:=hs.letgo (D:=D) (objs':=O.zipIdx.map fun x=>x.1.take (qxw Rn x.2 x.1.length)) (by
  intro nm
  have hrhs:(qbf O nm).map (Ob.sub fun m=>if D m then some none else none)=qbf O nm:=by
   cases hq:qbf O nm with
   | none=>rfl
   | some ob=>simp only[Option.map_some];rw[hobs nm ob hq]
  simp only
  rw[hrhs]
  by_cases hd:D nm
  ·rw[if_pos hd]
   obtain⟨h1,h2⟩:=hd
   unfold qbf
   rw[List.getElem?_map,List.getElem?_zipIdx]
   cases hq:O[nm.1]? with
   | none=>rfl
   | some l =>
    rw[List.getD_eq_getElem?_getD,hq] at h2
    simp only[Option.map_some,Nat.zero_add,Option.getD_some] at h2 ⊢
    exact List.getElem?_eq_none (by rw[List.length_take];omega)
  ·rw[if_neg hd]
   unfold qbf
   rw[List.getElem?_map,List.getElem?_zipIdx]
   cases hq:O[nm.1]? with
   | none=>rfl
   | some l =>
    simp only[Option.map_some,Nat.zero_add]
    rw[List.getElem?_take]
    split
    ·rfl
    ·rename_i hc
     cases hx:l[nm.2]? with
     | none=>rfl
     | some x =>
      exfalso
      refine hd ⟨?_,?_⟩
      ·unfold qbf;rw[hq];simp[hx]
      ·rw[List.getD_eq_getElem?_getD,hq];simp only[Option.getD_some];omega)
 rw[hsub T fun nm hn=>by rw[←hR];simp[hn],hsub K fun nm hn=>by rw[←hR];simp[hn]] at hl
 refine⟨_,hl,hf.letgo fun nm p hn=>?_⟩
 split at hn
 ·cases hn
 ·exact hn
theorem qwl (asg:List Nat) (grow:List (Nat×Nat)) (hs:SR lp I L st tmv suf w) (hf:Fr cx w0 I0 F0 O0 Hd R e ds I F L w):∃ L',SR lp I L' (norm asg grow st) tmv suf w∧Fr cx w0 I0 F0 O0 Hd R e ds I F L' w:=by
 obtain⟨L1,hs1,hf1⟩:=norm0_ok asg grow hs hf
 exact drop_ok _ hs1 hf1
end
end Go.Ab

