/-
  Part 18 of a proof: a machine of our own for the given program, its laws, and what it says of the program. Nothing here is a claim by itself.
-/
import Derived.Test.YtgoedlagdbgcbaaGreatDoorK06
import Derived.Test.YtgoedlagdbgcbaaGreatDoorK17
import Derived.Test.YtgoedlagdbgcbaaGreatDoorRows
import Derived.ProofKit
import Derived.ChangeMaps5
import Derived.ChangeSame
import Derived.ChangeVars
import Derived.JoinedOf
import Derived.RowKit
import Derived.RowKitTokens
import Derived.LaidLaws
import Derived.LaidHandle
import Derived.Stop.Joined
import Derived.Carry
import Derived.Stop.LaidTwo
import Derived.Stop.LaidErr
import Derived.LaidSub
import Derived.Lib.LaidTab
import Derived.Shelf.Vars
import Derived.Handed
import Derived.Test.YtgoedlagdbgcbaaGreatDoorK05
import Derived.KernelRfl
set_option linter.all false

namespace Go.Ab.Core
open Go Go.Ab
def nodeD:DTy:=.struct [.int .i64,.str,.slice (.int .i64)]
def Qhz:DTy:=.struct [.int .i64,.slice (.struct [.int .i64,.str,.str]),.slice nodeD,.int .i64]
mutual
theorem qyu:∀ (D:DTy) (v:PV),Qmb D v→okV v=true
 | .bool,_,h=>by obtain ⟨b,rfl⟩:=h;rfl
 | .int k,_,h=>by obtain ⟨n,rfl,_⟩:=h;rfl
 | .str,_,h=>by obtain ⟨s,rfl,_⟩:=h;rfl
 | .slice e,_,h=>by
  rcases h with rfl | ⟨xs,rfl,_,hx⟩
  ·rfl
  ·have:∀ l:List PV,(∀ x∈l,Qmb e x)→qca l=true:=fun l=>by
    induction l with
    | nil=>intro _;rfl
    | cons a l ih=>intro hl;simp only [qca,qyu e a (hl a List.mem_cons_self),Bool.true_and];exact ih fun y hy=>hl y (List.mem_cons_of_mem _ hy)
   simp only [okV];exact this xs hx
 | .struct fs,_,h=>by
  obtain ⟨vs,rfl,h⟩:=h
  simp only [okV]
  exact Qqc fs vs h
theorem Qqc:∀ (fs:List DTy) (vs:List PV),HasVs fs vs→qca (cellsL vs)=true
 | [],_,h=>by have h:_=[]:=h;subst h;rfl
 | D :: fs,_,h=>by
  obtain ⟨v,r,rfl,h1,h2⟩:=h
  have a:=qyu D v h1
  have b:=Qqc fs r h2
  simp only [cellsL]
  refine qdw ?_ b
  cases v<;>simp_all [PV.cells,qca,okV]
end
theorem ints_of:∀ (xs:List PV),(∀ x∈xs,Qmb (.int .i64) x)→∃ l,xs=qg6 l
 | [],_=>⟨[],rfl⟩
 | x :: xs,h=>by
  obtain ⟨n,rfl,_⟩:=h x List.mem_cons_self
  obtain ⟨l,rfl⟩:=ints_of xs fun y hy=>h y (List.mem_cons_of_mem _ hy)
  exact ⟨n :: l,rfl⟩
theorem raw_of {α:Type} {R:PV→α→Prop} {D:DTy} (hD:∀ v,Qmb D v→∃ a,R v a):∀ (xs:List PV),(∀ x∈xs,Qmb D x)→∃ l,RawL R xs l
 | [],_=>⟨[],.nil⟩
 | x :: xs,h=>by
  obtain ⟨a,ha⟩:=hD x (h x List.mem_cons_self)
  obtain ⟨l,hl⟩:=raw_of hD xs fun y hy=>h y (List.mem_cons_of_mem _ hy)
  exact ⟨a :: l,.cons ha hl⟩
theorem qr4 {e:DTy} {v:PV} (h:Qmb (.slice e) v):v.cells=[v]∧v.isCell=true:=by
 rcases h with rfl | ⟨xs,rfl,_,_⟩<;>exact ⟨rfl,rfl⟩
theorem node_of {v:PV} (h:Qmb nodeD v):∃ n,RawN v n:=by
 obtain ⟨vs,rfl,_,_,rfl,⟨k,rfl,_⟩,_,_,rfl,⟨s,rfl,_⟩,x,_,rfl,hx,rfl⟩:=h
 have hc:=qr4 hx
 have hok:=qyu _ _ hx
 have key:∃ l,IsR 1 x (qg6 l):=by
  rcases hx with rfl | ⟨xs,rfl,_,hx⟩
  ·exact ⟨[],.nil⟩
  ·obtain ⟨l,rfl⟩:=ints_of xs hx
   exact ⟨l,.sl _⟩
 obtain ⟨l,hl⟩:=key
 refine ⟨⟨k,s,l⟩,x,?_,hl,hok⟩
 rw [show cellsL [PV.int .i64 k,PV.str s,x]=[.int .i64 k,.str s,x] by simp only [cellsL,hc.1];rfl]
 rfl
theorem tree_of {v:PV} (h:Qmb (.slice nodeD) v):∃ t,RawT v t:=by
 have hok:=qyu _ _ h
 rcases h with rfl | ⟨xs,rfl,_,hx⟩
 ·exact ⟨[],[],.nil,.nil,rfl⟩
 ·obtain ⟨l,hl⟩:=raw_of (fun v=>node_of) xs hx
  exact ⟨l,xs,.sl _,hl,hok⟩
theorem stmt_of {v:PV} (h:Qmb Qhz v):∃ s,RawS v s:=by
 obtain ⟨vs,rfl,_,_,rfl,⟨k,rfl,_⟩,u,_,rfl,hu,x,_,rfl,hx,_,_,rfl,⟨e,rfl,_⟩,rfl⟩:=h
 have h1:=qr4 hu
 have h2:=qr4 hx
 obtain ⟨t,ht⟩:=tree_of hx
 refine ⟨⟨k,t,e⟩,u,x,?_,h1.2,ht⟩
 rw [show cellsL [PV.int .i64 k,u,x,PV.int .i64 e]=[.int .i64 k,u,x,.int .i64 e] by simp only [cellsL,h1.1,h2.1];rfl]
 rfl
theorem Qpr {v:PV} (h:Qmb (.slice Qhz) v):∃ xs l,IsR 4 v xs∧RawL RawS xs l∧okV v=true:=by
 have hok:=qyu _ _ h
 rcases h with rfl | ⟨xs,rfl,_,hx⟩
 ·exact ⟨[],[],.nil,.nil,rfl⟩
 ·obtain ⟨l,hl⟩:=raw_of (fun v=>stmt_of) xs hx
  exact ⟨xs,l,.sl _,hl,hok⟩
theorem Qh7:qb3 B0 .cl (.fn 8 []) []=some (.bool true):=by
 obtain ⟨n,h⟩:=ev_shown
 exact Qlz (by decide) h rfl rfl
theorem told_ahead:Told fn5 [.slice Qhz,.int .i64]:=by
 rintro us ⟨x,_,rfl,hx,_,_,rfl,⟨n,rfl,_⟩,rfl⟩
 obtain ⟨xs,l,h1,h2,hok⟩:=Qpr hx
 exact ⟨by simp [qca,okV,hok],Nat.le_of_ble_eq_true rfl,ahead_raw Qh7 h1 h2 hok n⟩
end Go.Ab.Core


namespace Go.Ab.Core
open Go Go.Ab Go.Proofs Go.Proofs.YtgoedlagdbgcbaaGreatDoor Go.ChangeShapes Go.WideShapes Go.RowKit
theorem p_own:ownKnob Tryz.prog.godebug=none:=by kernel_rfl
theorem p_p:Tryz.prog.globalNamed "internal/strconv.uint64pow10"=some 6:=by kernel_rfl
theorem p_pt:(Tryz.prog.globals[6]?).map (·.type)=some 294:=by kernel_rfl
theorem p_cS:Tryz.prog.cellsOf 425=1:=by kernel_rfl
theorem p_cs:Tryz.prog.cellsOf 9=1:=by kernel_rfl
theorem p_star : "*" ++ "errors.errorString" = "*errors.errorString":=by decide
theorem p_row (u:TypeId) (h:Tryz.prog.typeName? 3 u=some "*errors.errorString"):u=407 :=
 typeName_ptr_named (nm := "errors.errorString") (by rw [p_star];kernel_rfl) (by kernel_rfl) (by decide) u (by rw [p_star];exact h)
theorem p_e0:Tryz.prog.globalNamed "diaeresis/node.errNode"=some 1:=by kernel_rfl
theorem p_t0:(Tryz.prog.globals[1]?).map (·.type)=some 67:=by kernel_rfl
theorem Qcw {W:World} {n:String} {g:Nat} {cs:Array Value} (hg:Tryz.prog.globalNamed n=some g) (h:W.var? Tryz.prog n=some cs):∃ E fr,W.heap[g]?=some (.cells cs E fr):=by
 unfold World.var? at h
 rw [hg] at h
 simp only [Option.bind_some] at h
 split at h
 ·rename_i cs' E fr hh
  cases h
  exact ⟨E,fr,hh⟩
 ·cases h
theorem Qnn {W:World} {b:Nat} {o:Obj} (h:W.heap[b]?=some o):b < W.heap.size:=(Array.getElem?_eq_some_iff.1 h).1
theorem laid_one {P:Program} {n nm:String} {text:List UInt8} {r:List (String×DataW Unit)} {W:World} {g:Nat} {ti tp te ts:TypeId} {ms:Array (String×TypeId)} {f:Field}
  (h:laidMet P ((n,.iface nm (.ptr (.agg [.lit (.string text)]))) :: r) W)
  (hg:P.globalNamed n=some g) (ht:(P.globals[g]?).map (·.type)=some ti) (hi:P.underlying ti=some (.interface ms)) (hrow:∀ u,P.typeName? 3 u=some nm→u=tp)
  (hp:P.underlying tp=some (.pointer te)) (he:P.underlying te=some (.struct #[f])) (hft:f.type=ts) (hfo:f.offset=0) (hs:P.underlying ts=some .string) (hc:P.cellsOf te=1) (hcs:P.cellsOf ts=1) :
  ∃ (a:Addr) (c0:Array Value) (t0:TypeId),W.var? P n=some #[.iface tp (.pointer (some a))]∧W.heap[a.block]?=some (.cells c0 t0 (0,0)):=by
 obtain ⟨ps,⟨g0,t0,cs0,f0,p0,q0,hg0,ht0,hv0,hd0,_,e0⟩,_,hrows⟩:=h
 obtain rfl:=Option.some.inj (hg.symm.trans hg0)
 obtain rfl:=Option.some.inj (ht.symm.trans ht0)
 subst e0
 obtain ⟨l0⟩:=cs0
 have ok0:∀ u v,l0=[.iface u v]→Value.okWide P W .any 0 u v:=fun u v e=>by
  subst e
  exact (hrows g 0 (by simp [MemPlace.row])).2 u v (by simpa using World.var?_cell hg0 hv0 0)
 obtain ⟨a0,s0,rfl,hc0,hs0,hz0,rfl⟩:=errorString_of_trod hi hrow hp he hft hfo hs hc hcs hd0 ok0
 obtain ⟨c0,t0,hb0⟩:=(hrows a0.block a0.off (by simp [MemPlace.row])).1
 exact ⟨a0,c0,t0,hv0,hb0⟩
set_option maxRecDepth 100000 in
theorem Qck {W:World} (hsh:W.ShapedOpen Tryz.prog) (h:laidMetH Tryz.prog Rows.coreAheadRow.laid W):cx0.Wd (fun b=>b < W.heap.size) W:=by
 have hd:laidMet Tryz.prog [("math/bits.deBruijn32tab",Rows.laid_math_bits_deBruijn32tab),("math/bits.deBruijn64tab",Rows.laid_math_bits_deBruijn64tab),("internal/strconv.uint64pow10",Rows.laid_internal_strconv_uint64pow10),("diaeresis/node.errNode",Rows.laid_diaeresis_node_errNode)] W:=h
 have hs:=hd.filter fun x=>x.1 == "diaeresis/node.errNode"
 have hp:=hd.filter fun x=>x.1 == "internal/strconv.uint64pow10"
 have hs:laidMet Tryz.prog [("diaeresis/node.errNode",Rows.laid_diaeresis_node_errNode)] W:=hs
 have hp:laidMet Tryz.prog [("internal/strconv.uint64pow10",Lib.tabData .u64 Lib.pow10Tab)] W:=hp
 have hpw:Lib.TabIs Tryz.prog W "internal/strconv.uint64pow10" .u64 Lib.pow10Tab:=Lib.tabIs_of_head p_p p_pt Tryz.underlying294 Tryz.underlying263 (by kernel_rfl) (by kernel_rfl) hp
 obtain ⟨E3,f3,r3⟩:=Qcw p_p hpw
 obtain ⟨a0,c0,t0,hv0,hb0⟩:=laid_one hs p_e0 p_t0 Tryz.underlying67 p_row Tryz.underlying407 Tryz.underlying425 rfl rfl Tryz.underlying9 p_cS p_cs
 obtain ⟨E1,f1,r1⟩:=Qcw p_e0 hv0
 exact ⟨⟨fun _=>a0,fun g hg=>by
   obtain rfl:=List.mem_singleton.1 hg
   exact ⟨Qnn r1,Qnn hb0,⟨E1,f1,r1⟩,c0,t0,hb0⟩,fun g hg g' hg' hn=>by
   obtain rfl:=List.mem_singleton.1 hg
   obtain rfl:=List.mem_singleton.1 hg'
   exact absurd rfl hn⟩,fun p hp=>(by cases hp),fun p hp=>by
  obtain rfl:=List.mem_singleton.1 hp
  exact ⟨Qnn r3,E3,f3,r3⟩,fun g hg=>by cases hg⟩
theorem qn1 {H:Type} {enc:TypeId×Value→H} {C:Checked} {os:Os} {f:FuncId} {fn:Func} {s:ChangeSpec} {conds:List PathCond} {apart fresh handsOn again:Bool} {X:World→Array Value→Prop}
  (hX:∀ (w w':World) (args:Array Value),w.heap=w'.heap→X w args→X w' args)
  (own:ownKnob C.prog.godebug=none) (started:os.Started) (noInit:C.prog.inits.idxOf? f=none) (hfn:C.prog.funcs[f]?=some fn)
  (witness:∃ (w:World) (tape:Tape) (i:Input),w.os=os∧(w.forCall tape i).Shaped C.prog∧i.vars=[]∧Input.okWide C.prog (w.forCall tape i) .any w.heap.size f i ∧
   ((s.pre enc C.prog fn conds apart (w.forCall tape i).memory i.args∧X (w.forCall tape i).memory i.args)∧sizedMet enc C.prog fn (OpenSpec.ofChange s) apart (w.forCall tape i).memory i.args)∧({}:Assume).holds C.prog (lone (Frame.enter C.prog f i.args .normal) [] (w.forCall tape i)))
  (contract:∀ (W:World) (base:Nat) (args:Array Value) (ds gs:List (DataW H)) (before:List MemPlace),
   (∀ (j:Nat) t v,fn.params[j]?=some t→args[j]?=some v→Value.okWide C.prog W .any base t v) →
   DataW.Whole enc C.prog fn.params.toList s.vars apart W args.toList ds gs before→X W args→W.ShapedOpen C.prog →
   Calls C.prog f args W fun e W'=>∃ v,e=.returned v∧s.post enc C.prog fn apart fresh handsOn again W args v W') :
  ReturnsInHanded {} C os f .any (fun w args=>(s.pre enc C.prog fn conds apart w args∧X w args)∧sizedMet enc C.prog fn (OpenSpec.ofChange s) apart w args) (s.post enc C.prog fn apart fresh handsOn again):=by
 refine returnsInHanded_of_calls own started noInit witness ?_
 intro w tape i _ hsh _ hok hpre _
 obtain ⟨_,_,_,fn',hfn',_,_,_,_,hval⟩:=hok
 have e:fn'=fn:=Option.some.inj (hfn'.symm.trans hfn)
 subst e
 obtain ⟨⟨⟨ds,gs,before,hw,hc⟩,hx⟩,hz⟩:=hpre
 have hw':=DataW.Whole.of_heap (w':=w.forCall tape i) (by rfl) hw
 refine (contract (w.forCall tape i) w.heap.size i.args ds gs before hval hw' (hX _ _ _ (by rfl) hx) hsh).mono fun e W' ⟨v,he,hp⟩=>?_
 subst he
 exact ChangeSpec.post_blind hp
mutual
def Qpq:DataW Unit→List Value
 | .lit (.int k n)=>[.int k n]
 | .agg ds=>Qhy ds
 | _=>[]
def Qhy:List (DataW Unit)→List Value
 | []=>[]
 | d :: ds=>Qpq d++Qhy ds
end
def textOf:DataW Unit→ByteArray
 | .iface _ (.ptr (.agg [.lit (.string s)]))=>⟨s.toArray⟩
 | _=>⟨#[]⟩
def putTab (h:Array Obj) (i:Nat) (d:DataW Unit):Array Obj:=h.modify i fun
 | .cells _ t frozen=>.cells (Qpq d).toArray t frozen
 | o=>o
def putCell (h:Array Obj) (i:Nat) (v:Value):Array Obj:=h.modify i fun
 | .cells _ t frozen=>.cells #[v] t frozen
 | o=>o
noncomputable def low:Nat:=(World.holding Tryz.prog default ⟨#[],#[],[]⟩).heap.size
noncomputable def qzh (os:Os):World :=
 let w0:=World.holding Tryz.prog os ⟨#[.cells #[.string (textOf Rows.laid_diaeresis_node_errNode)] 425],#[],[]⟩
 {w0 with heap:=putTab (putTab (putTab (putCell w0.heap 1 (.iface 407 (.pointer (some ⟨low+0,0,none⟩)))) 10 Rows.laid_math_bits_deBruijn32tab) 11 Rows.laid_math_bits_deBruijn64tab) 6 Rows.laid_internal_strconv_uint64pow10 }
theorem qtk (os:Os) (args:Array Value):laidMetH Tryz.prog Rows.coreAheadRow.laid ((qzh os).forCall (fun _ _=>0) ⟨#[],args,[]⟩).memory :=
 (laidMet_of_run' 8 (by kernel_rfl) (by kernel_rfl):laidMet Tryz.prog [("math/bits.deBruijn32tab",Rows.laid_math_bits_deBruijn32tab),("math/bits.deBruijn64tab",Rows.laid_math_bits_deBruijn64tab),("internal/strconv.uint64pow10",Rows.laid_internal_strconv_uint64pow10),("diaeresis/node.errNode",Rows.laid_diaeresis_node_errNode)] _)
set_option maxRecDepth 100000
theorem qbu {a b:Bool} (ha:a=true) (hb:b=true):(a&&b)=true:=by rw [ha,hb];rfl
theorem jp_1:(laidOutB Tryz.prog)=true:=by kernel_rfl
theorem jp_2:(mapsRowed Tryz.prog)=true:=by kernel_rfl
theorem jp_6:((Tryz.prog.stops==[]))=true:=by kernel_rfl
theorem jp_8:((Tryz.prog.stopKnobs==[]))=true:=by kernel_rfl
theorem jp_24:(Tryz.prog.stopsHeard)=true:=by kernel_rfl
theorem jp_25:(Tryz.prog.mayEnter)=true:=by kernel_rfl
end Go.Ab.Core


namespace Go.Ab.Core
open Go Go.Ab
mutual
def Tr.wt (w:Int→Nat):Tr→Nat
 | .mk k _ ks=>wtL w ks+w k
def wtL (w:Int→Nat):List Tr→Nat
 | []=>0
 | t :: ts=>t.wt w+wtL w ts
end
def Qrs (w:Int→Nat):List Nd→Nat
 | []=>0
 | n :: l=>w n.kind+Qrs w l
theorem Qbu (w:Int→Nat) (n:Nd):∀ l:List Nd,Qrs w (l++[n])=Qrs w l+w n.kind
 | []=>by simp [Qrs]
 | a :: l=>by simp only [List.cons_append,Qrs,Qbu w n l];omega
def V (w:Int→Nat):List Tr→List Int→Int
 | [],_=>0
 | _,[]=>0
 | a :: ts,u :: us=>(1 - u) * a.wt w+V w ts us
variable (w:Int→Nat)
theorem V_set:∀ (ts:List Tr) (us:List Int) (k:Nat) (h:k < ts.length),ts.length≤us.length→V w ts (us.set k (us.getD k 0+1))=V w ts us - ts[k].wt w
 | [],_,k,h,_=>by simp at h
 | a :: ts,[],k,_,h=>by simp at h
 | a :: ts,u :: us,0,_,_=>by
  simp only [List.set_cons_zero,List.getD_cons_zero,V,List.getElem_cons_zero]
  have:(1 - (u+1)) * (a.wt w:Int)=(1 - u) * a.wt w - a.wt w:=by
   rw [show (1 - (u+1))=(1 - u) - 1 by omega,Int.sub_mul,Int.one_mul]
  omega
 | a :: ts,u :: us,k+1,h,h2=>by
  simp only [List.set_cons_succ,List.getD_cons_succ,V,List.getElem_cons_succ]
  have:=V_set ts us k (by simpa using h) (by simpa using h2)
  omega
theorem V_snoc (b:Tr):∀ (ts:List Tr) (us:List Int),ts.length < us.length→V w (ts++[b]) us=V w ts us+(1 - us.getD ts.length 0) * b.wt w
 | [],[],h=>by simp at h
 | [],u :: us,_=>by
  simp [V]
 | a :: ts,[],h=>by simp at h
 | a :: ts,u :: us,h=>by
  have:=V_snoc b ts us (by simpa using h)
  simp only [List.cons_append,V,this,List.length_cons,List.getD_cons_succ]
  omega
theorem V_bump (ts:List Tr):∀ (ks:List Int) (us:List Int),(∀ k∈ks,0≤k∧k < ts.length)→ts.length≤us.length→V w ts (bump us ks)=V w ts us - wtL w (ks.map (pick ts))
 | [],us,_,_=>by simp [bump,wtL]
 | k :: ks,us,h,hl=>by
  have hk:=h k (by simp)
  have hk':k.toNat < ts.length:=by omega
  show V w ts (bump (us.set k.toNat (us.getD k.toNat 0+1)) ks)=_
  rw [V_bump ts ks _ (fun j hj=>h j (by simp [hj])) (by simpa using hl),V_set w ts us k.toNat hk' hl]
  simp only [List.map_cons,wtL,pick,List.getD_eq_getElem?_getD,List.getElem?_eq_getElem hk',Option.getD_some]
  simp only [Int.natCast_add]
  omega
theorem V_ones:∀ (ts:List Tr) (us:List Int),ts.length=us.length→(∀ u∈us,u=1)→V w ts us=0
 | [],_,_,_=>rfl
 | a :: ts,[],h,_=>by simp at h
 | a :: ts,u :: us,h,h1=>by
  have hu:=h1 u (by simp)
  subst hu
  simp only [V,V_ones ts us (by simpa using h) fun u hu=>h1 u (by simp [hu])]
  omega
theorem Qpn {t:List Nd}:∀ (ns:List Nd) (i:Nat) (us us':List Int) (ts:List Tr),t.drop i=ns→us.length=t.length→ts.length=i→(∀ j (hj:j < ts.length),Qme t ts[j] j)→(∀ j,i≤j→us.getD j 0=0)→V w ts us=Qrs w (t.take i)→qdh i us ns=some us' →
  ∃ ts':List Tr,ts'.length=t.length∧us'.length=t.length∧(∀ j (hj:j < ts'.length),Qme t ts'[j] j)∧V w ts' us'=Qrs w t
 | [],i,us,us',ts,hd,hu,hl,h1,_,hW,hr=>by
  simp only [qdh,Option.some.injEq] at hr
  subst hr
  have:t.length≤i:=List.drop_eq_nil_iff.1 hd
  have hi:i=t.length∨t.length < i:=by omega
  rcases hi with rfl | hi
  ·exact ⟨ts,hl,hu,h1,by rw [hW,List.take_length]⟩
  ·exfalso
   have:=h1 t.length (by omega)
   cases hq:ts[t.length] with
   | mk k x ks =>
    rw [hq] at this
    obtain ⟨l,hl,_⟩:=this
    simp at hl
 | n :: ns,i,us,us',ts,hd,hu,hl,h1,h0,hW,hr=>by
  have hi:i < t.length:=by
   rcases Nat.lt_or_ge i t.length with h | h
   ·exact h
   ·rw [List.drop_eq_nil_of_le h] at hd;cases hd
  rw [List.drop_eq_getElem_cons hi] at hd
  injection hd with hn hd
  simp only [qdh] at hr
  by_cases hc:(qtm i (-1) n.kids&&qge n)=true
  ·rw [if_pos hc] at hr
   simp only [Bool.and_eq_true] at hc
   have hk:=Qgo hc.1 (by omega)
   have hk':∀ k∈n.kids,0≤k∧k < ts.length:=by rw [hl];exact hk
   have hb0:(bump us n.kids).getD i 0=0:=by rw [qri i _ _ hk i (Nat.le_refl _)];exact h0 i (Nat.le_refl _)
   refine Qpn ns (i+1) (bump us n.kids) us' (ts++[.mk n.kind n.text (n.kids.map (pick ts))]) hd (by rw [qpr,hu]) (by simp [hl]) ?_ ?_ ?_ hr
   ·intro j hj
    rcases Nat.lt_or_ge j ts.length with h | h
    ·rw [List.getElem_append_left h];exact h1 j h
    ·have:j=i:=by simp at hj;omega
     subst this
     rw [List.getElem_append_right h]
     simp only [hl,Nat.sub_self,List.getElem_cons_zero]
     exact ⟨n.kids,by rw [List.getElem?_eq_getElem hi,hn],qvz h1 _ hk'⟩
   ·intro j hj
    rw [qri i _ _ hk j (by omega)]
    exact h0 j (by omega)
   ·rw [V_snoc w _ _ _ (by rw [qpr];omega),hl,hb0,V_bump w ts _ _ hk' (by omega),hW]
    rw [List.take_succ_eq_append_getElem hi,Qbu,hn]
    simp only [Tr.wt]
    omega
  ·rw [if_neg hc] at hr
   cases hr
theorem right_wt {t:List Nd} (h:qc7 t=true) {a:Tr} (ha:Qme t a (t.length - 1)):a.wt w=Qrs w t:=by
 unfold qc7 at h
 cases hg:qdh 0 (List.replicate t.length 0) t with
 | none=>rw [hg] at h;simp at h
 | some us =>
  rw [hg] at h
  simp only [Bool.and_eq_true,decide_eq_true_eq] at h
  obtain ⟨⟨hl1,hl2⟩,h3⟩:=h
  obtain ⟨ts,q1,q2,q3,q5⟩:=Qpn w t 0 (List.replicate t.length 0) us [] rfl (by simp) rfl (fun j hj=>by simp at hj) (fun j _=>by simp [List.getD_eq_getElem?_getD,List.getElem?_replicate];split<;>rfl) rfl hg
  have hlt:t.length - 1 < ts.length:=by omega
  rw [Qqx ha (q3 _ hlt)]
  have hW:=V_set w ts us (t.length - 1) hlt (by omega)
  have e:us.set (t.length - 1) (us.getD (t.length - 1) 0+1)=qkf us:=by unfold qkf;rw [q2]
  rw [e,V_ones w ts (qkf us) (by unfold qkf;simp;omega) (fun u hu=>by
   have:=List.all_eq_true.1 h3 u hu
   simpa using this),q5] at hW
  omega
end Go.Ab.Core


namespace Go.Ab.Core
open Go Go.Ab
section walk
variable {E:Type}
mutual
def pre (st:E→Int→Tx→E):Tr→E→E
 | .mk k x ks,e=>preL st ks (st e k x)
def preL (st:E→Int→Tx→E):List Tr→E→E
 | [],e=>e
 | a :: ks,e=>preL st ks (pre st a e)
end
def Goes (h:qbl E) (d:Nat) (st:E→Int→Tx→E) (M:Nat) (P:Nat→E→Prop):Prop:=∀ (n:Nd) (e:E) (m:Nat),m < M→P m e→h d [nd n] e=some (true,st e n.kind n.text)∧P (m+1) (st e n.kind n.text)
end walk
mutual
theorem pre_ind {E:Type} {st:E→Int→Tx→E} {M:Nat} {P:Nat→E→Prop} (hp:∀ e k x m,m < M→P m e→P (m+1) (st e k x)):∀ (a:Tr) (e:E) (m:Nat),m+a.size≤M→P m e→P (m+a.size) (pre st a e)
 | .mk k x ks,e,m,hm,h=>by
  simp only [Tr.size] at hm ⊢
  simp only [pre]
  have:=Qp5 hp ks _ (m+1) (by omega) (hp e k x m (by omega) h)
  rwa [show m+1+qcp ks=m+(qcp ks+1) by omega] at this
theorem Qp5 {E:Type} {st:E→Int→Tx→E} {M:Nat} {P:Nat→E→Prop} (hp:∀ e k x m,m < M→P m e→P (m+1) (st e k x)):∀ (ks:List Tr) (e:E) (m:Nat),m+qcp ks≤M→P m e→P (m+qcp ks) (preL st ks e)
 | [],_,_,_,h=>h
 | a :: ks,e,m,hm,h=>by
  simp only [qcp] at hm ⊢
  simp only [preL]
  have:=Qp5 hp ks _ (m+a.size) (by omega) (pre_ind hp a e m (by omega) h)
  rwa [Nat.add_assoc] at this
end
def qwk (t:List Nd) (i:Int):PV:=.fn 60 [.ptr [tl t] 0,.ptr [I i] 0]
theorem Qdc (t:List Nd) (i:Int):qb3 B0 .cl (.fn 36 []) [tl t,I i]=some (qwk t i):=by
 refine call (d:=fun _=>.cl) rfl (by decide) (by simp [qca]) rfl ?_
 rw [List.map_cons,List.map_cons,List.map_nil,run36]
 simp only [qf7,cells_tl,cells_I]
 rw [show Qhq [tl t] 0=.ptr [tl t] 0 from rfl,show Qhq [I i] 0=.ptr [I i] 0 from rfl]
 rw [show Qmc (tl t)=true from rfl,show Qmc (I i)=true from rfl,qbg,qbg]
 rw [show okU (.fn 60 [.ptr [tl t] 0,.ptr [I i] 0])=true by simp [okU,okV,qca],qbg]
 rfl
abbrev In (E:Type):=List PV×Option Ex×E
noncomputable def qxk {E:Type} (h:qbl E) (dep:Nat):List PV×E→Option (Sum (List PV×E) (PV×E)):=(fun z12=>qba (qbc (.bin .lss .num false (.c (nth z12.1 4)) (.c (nth z12.1 3)))) (fun z13=>qck z13 (qba (qbc (.idxAddr 1 (.c (nth z12.1 2)) (.c (nth z12.1 4)))) (fun z14=>qba (qbc (.load 1 false (.c z14))) (fun z15=>qba (qbc (.un .not (.c (nth z12.1 6)))) (fun z16=>qck z16 (qba (some (.tup [],z12.2)) (fun z17=>some (.inr z17))) (qba (qbc (.load 1 false (.c (nth z12.1 0)))) (fun z18=>qba (qb3 B0 .cl (.fn 36 []) [z18,z15]) (fun z19=>qba (qpt B0 (qjt dep h (fun z20=>fun z21=>fun z22=>qby (qqa z21 1) (qby (qb8 (nth z21 0) 3) (qba (h (qbj (nth z20 6)) [.agg [qbi (nth z21 0) 0,qbi (nth z21 0) 1,qbi (nth z21 0) 2]] z22) (fun z23=>qby (qb8 (.bool z23.1) 1) (qba (qbc (.un .not (.c (qbi (.bool z23.1) 0)))) (fun z24=>qck z24 (some (false,([nth z20 0,nth z20 1,nth z20 2,nth z20 3,nth z20 4,nth z20 5,nI (qbj (nth z20 6)),qbi (.bool z23.1) 0],(some (.exit 2),z23.2)))) (some (true,([nth z20 0,nth z20 1,nth z20 2,nth z20 3,nth z20 4,nth z20 5,nI (qbj (nth z20 6)),qbi (.bool z23.1) 0],(none,z23.2))))))))))) dep z19 ([nth z12.1 0,nth z12.1 1,nth z12.1 2,nth z12.1 3,nth z12.1 4,z19,nI (qbj (nth z12.1 5)),nth z12.1 6],(none,z12.2))) (fun z25=>qzq (qsj z25.2.1) (qba (qbc (.bin .add .num true (.c (nth z25.1 4)) (.c (.int .i64 1)))) (fun z26=>some (.inl ([nth z25.1 0,nth z25.1 1,nth z25.1 2,nth z25.1 3,z26,nI (qbj (nth z25.1 6)),nth z25.1 7],z25.2.2)))) (qzq (Qdu z25.2.1) (qba (some (.tup [],z25.2.2)) (fun z27=>some (.inr z27))) (qzq (qzs z25.2.1 2) (qba (qbc (.bin .add .num true (.c (nth z25.1 4)) (.c (.int .i64 1)))) (fun z28=>some (.inl ([nth z25.1 0,nth z25.1 1,nth z25.1 2,nth z25.1 3,z28,nI (qbj (nth z25.1 6)),nth z25.1 7],z25.2.2)))) none)))))))))) (qba (some (.tup [],z12.2)) (fun z29=>some (.inr z29)))))
theorem load_tl (t:List Nd):qbc (.load 1 false (.c (.ptr [tl t] 0)))=some (tl t):=rfl
def vals (t:List Nd) (i:Int) (l:List Int) (j:Nat) (w:PV) (dep:Nat):List PV:=[.ptr [tl t] 0,.ptr [I i] 0,il l,I (l.length:Nat),I (j:Nat),w,I (dep:Nat),.bool true]
def inner {E:Type} (v:List PV) (st:E→Int→Tx→E):In E→Int→Tx→In E:=fun r k x=>(v,none,st r.2.2 k x)
mutual
theorem Qjl {E:Type} (v:List PV) (st:E→Int→Tx→E):∀ (a:Tr) (e:E),pre (inner v st) a (v,none,e)=(v,none,pre st a e)
 | .mk k x ks,e=>by simp only [pre,inner];exact Qc6 v st ks _
theorem Qc6 {E:Type} (v:List PV) (st:E→Int→Tx→E):∀ (ks:List Tr) (e:E),preL (inner v st) ks (v,none,e)=(v,none,preL st ks e)
 | [],e=>rfl
 | a :: ks,e=>by simp only [preL];rw [Qjl v st a e];exact Qc6 v st ks _
end
noncomputable def Qjc {E:Type} (h:qbl E):List PV→List PV→E→Option (Bool×KRec E):=(fun z20=>fun z21=>fun z22=>qby (qqa z21 1) (qby (qb8 (nth z21 0) 3) (qba (h (qbj (nth z20 6)) [.agg [qbi (nth z21 0) 0,qbi (nth z21 0) 1,qbi (nth z21 0) 2]] z22) (fun z23=>qby (qb8 (.bool z23.1) 1) (qba (qbc (.un .not (.c (qbi (.bool z23.1) 0)))) (fun z24=>qck z24 (some (false,([nth z20 0,nth z20 1,nth z20 2,nth z20 3,nth z20 4,nth z20 5,nI (qbj (nth z20 6)),qbi (.bool z23.1) 0],(some (.exit 2),z23.2)))) (some (true,([nth z20 0,nth z20 1,nth z20 2,nth z20 3,nth z20 4,nth z20 5,nI (qbj (nth z20 6)),qbi (.bool z23.1) 0],(none,z23.2))))))))))
theorem Qht {E:Type} (h:qbl E) (dep:Nat):qxk h dep=(fun z12=>qba (qbc (.bin .lss .num false (.c (nth z12.1 4)) (.c (nth z12.1 3)))) (fun z13=>qck z13 (qba (qbc (.idxAddr 1 (.c (nth z12.1 2)) (.c (nth z12.1 4)))) (fun z14=>qba (qbc (.load 1 false (.c z14))) (fun z15=>qba (qbc (.un .not (.c (nth z12.1 6)))) (fun z16=>qck z16 (qba (some (.tup [],z12.2)) (fun z17=>some (.inr z17))) (qba (qbc (.load 1 false (.c (nth z12.1 0)))) (fun z18=>qba (qb3 B0 .cl (.fn 36 []) [z18,z15]) (fun z19=>qba (qpt B0 (qjt dep h (Qjc h)) dep z19 ([nth z12.1 0,nth z12.1 1,nth z12.1 2,nth z12.1 3,nth z12.1 4,z19,nI (qbj (nth z12.1 5)),nth z12.1 6],(none,z12.2))) (fun z25=>qzq (qsj z25.2.1) (qba (qbc (.bin .add .num true (.c (nth z25.1 4)) (.c (.int .i64 1)))) (fun z26=>some (.inl ([nth z25.1 0,nth z25.1 1,nth z25.1 2,nth z25.1 3,z26,nI (qbj (nth z25.1 6)),nth z25.1 7],z25.2.2)))) (qzq (Qdu z25.2.1) (qba (some (.tup [],z25.2.2)) (fun z27=>some (.inr z27))) (qzq (qzs z25.2.1 2) (qba (qbc (.bin .add .num true (.c (nth z25.1 4)) (.c (.int .i64 1)))) (fun z28=>some (.inl ([nth z25.1 0,nth z25.1 1,nth z25.1 2,nth z25.1 3,z28,nI (qbj (nth z25.1 6)),nth z25.1 7],z25.2.2)))) none)))))))))) (qba (some (.tup [],z12.2)) (fun z29=>some (.inr z29))))):=rfl
theorem round_goes {E:Type} {h:qbl E} {d:Nat} {st:E→Int→Tx→E} {M:Nat} {P:Nat→E→Prop} (hg:Goes h d st M P) (t:List Nd) (i:Int) (l:List Int) (j:Nat) (w:PV) :
  Goes (qjt (d+1) h (Qjc h)) (d+1) (inner (vals t i l j w d) st) M (fun m r=>r=(vals t i l j w d,none,r.2.2)∧P m r.2.2):=by
 intro n r m hm hr
 obtain ⟨v,p,e⟩:=r
 obtain ⟨hr,he⟩:=hr
 have hr1:v=vals t i l j w d:=congrArg Prod.fst hr
 have hr2:p=none:=congrArg (fun q:In E=>q.2.1) hr
 subst hr1;subst hr2
 obtain ⟨h1,h2⟩:=hg n e m hm he
 refine ⟨?_,rfl,h2⟩
 simp only [qjt,if_true,Qjc,vals,qdd,qdc,qdg,qdq,qfv,qgl,qjb,qju,qcj,qh5]
 rw [show qqa [nd n] 1=true by simp [qqa,qca,qyt],qbg,show qb8 (nd n) 3=true from rfl,qbg]
 rw [show [PV.agg [qbi (nd n) 0,qbi (nd n) 1,qbi (nd n) 2]]=[nd n] from rfl,h1,qbb]
 rfl
mutual
theorem Qpk {t:List Nd} (hf:Fine t):∀ (a:Tr) (i:Nat),Qme t a i→∀ {E:Type} (h:qbl E) (d:Nat) (st:E→Int→Tx→E) (M:Nat) (P:Nat→E→Prop),Goes h d st M P→∀ e m,P m e→m+a.size≤M→qpt B0 h d (qwk t (i:Int)) e=some (pre st a e)
 | .mk k x ks,i,ha,E,h,d,st,M,P,hg,e,m,he,hm=>by
  simp only [Tr.size] at hm
  obtain ⟨l,hl,hks⟩:=ha
  have hi:i < t.length:=(List.getElem?_eq_some_iff.1 hl).1
  have hn:t[i]=⟨k,x,l⟩:=(List.getElem?_eq_some_iff.1 hl).2
  refine Qji (qhk fun _=>.cl) (g:=60) (fn:=fn60) rfl (cap:=[.ptr [tl t] 0,.ptr [I (i:Int)] 0]) (by simp [qca,okV]) (Nat.le_of_ble_eq_true rfl) (u:=.tup []) ?_
  rw [List.map_cons,List.map_cons,List.map_nil,run60,load_tl,qbb,qnd,qbb,qmh hi,qbb,Qj6,qbb]
  obtain ⟨h1,h2⟩:=hg t[i] e m (by omega) he
  rw [show h d [.agg [I t[i].kind,.str t[i].text,il t[i].kids]] e=some (true,st e t[i].kind t[i].text) from h1,qbb]
  rw [show qb8 (.bool true) 1=true from rfl,qbg,qbb,qbb,qmh hi,qbb,fa3_2,qbb,qzd,qbb,qh1,qbb]
  rw [hn] at h2 ⊢
  rw [show qbs [.ptr [tl t] 0,.ptr [I (i:Int)] 0,il l,I (l.length:Nat),.int .i64 0]=true from rfl,qbg]
  exact Qhu hf ks (i:Int) l 0 (by have:=(hf.nd _ (List.getElem_mem hi)).kids;rw [hn] at this;exact this) hks h d st M P hg _ (m+1) h2 (by omega)
theorem Qhu {t:List Nd} (hf:Fine t):∀ (ks:List Tr) (i:Int) (l:List Int) (j:Nat),l.length≤big→Qch t ks (l.drop j)→∀ {E:Type} (h:qbl E) (d:Nat) (st:E→Int→Tx→E) (M:Nat) (P:Nat→E→Prop),Goes h d st M P→∀ e m,P m e→m+qcp ks≤M →
  qci (qxk h (d+1)) ([.ptr [tl t] 0,.ptr [I i] 0,il l,I (l.length:Nat),I (j:Nat),I (d:Nat),.bool true],e)=some (.tup [],preL st ks e)
 | [],i,l,j,hb,hks,E,h,d,st,M,P,hg,e,m,he,hm=>by
  have hks:l.drop j=[]:=hks
  have hj:=List.drop_eq_nil_iff.1 hks
  refine qde ?_
  simp only [qxk,qdq,qfv,qdp,qbb]
  rw [show decide ((j:Int) < (l.length:Nat))=false by simp;omega,qbm]
  rfl
 | a :: ks,i,l,j,hb,hks,E,h,d,st,M,P,hg,e,m,he,hm=>by
  simp only [qcp] at hm
  obtain ⟨k,l',h1,h2,h3⟩:=hks
  have hj:j < l.length:=by
   rcases Nat.lt_or_ge j l.length with hj | hj
   ·exact hj
   ·rw [List.drop_eq_nil_of_le hj] at h1;cases h1
  rw [List.drop_eq_getElem_cons hj] at h1
  injection h1 with h4 h5
  have hbl:=qfu
  have hr:=Qpk hf a k h2 (qjt (d+1) h (Qjc h)) (d+1) _ M _ (round_goes hg t i l j (qwk t (k:Int))) (vals t i l j (qwk t (k:Int)) d,none,e) m ⟨rfl,he⟩ (by omega)
  rw [Qjl] at hr
  have hs:qxk h (d+1) ([.ptr [tl t] 0,.ptr [I i] 0,il l,I (l.length:Nat),I (j:Nat),I (d:Nat),.bool true],e)=some (.inl ([.ptr [tl t] 0,.ptr [I i] 0,il l,I (l.length:Nat),I ((j+1:Nat):Int),I (d:Nat),.bool true],pre st a e)):=by
   rw [Qht]
   simp only [qdd,qdc,qdg,qdq,qfv,qgl,qjb,qju,qdp,qbb,qcj,qh5]
   rw [show decide ((j:Int) < (l.length:Nat))=true by simp;omega,qb6,qrw hj,qbb,qnd,qbb,h4]
   rw [show qbc (.un .not (.c (.bool true)))=some (.bool false) from rfl,qbb,qbm,load_tl,qbb,Qdc,qbb]
   rw [show qpt B0 (qjt (d+1) h (Qjc h)) (d+1) (qwk t (k:Int)) ([.ptr [tl t] 0,.ptr [I i] 0,il l,I (l.length:Nat),I (j:Nat),qwk t (k:Int),I (d:Nat),.bool true],none,e)=_ from hr,qbb]
   simp only [vals,qdd,qdc,qdg,qdq,qfv,qgl,qjb,qju,qcj,qh5]
   rw [show ∀ A B:Option (Sum (List PV×E) (PV×E)),qzq (qsj (none:Option Ex)) A B=A from fun _ _=>rfl]
   simp only [qd0,qg9,qbb]
   rw [qhd (by unfold big at hb;omega)]
  rw [qdj hs]
  exact Qhu hf ks i l (j+1) hb (by rw [h5];exact h3) h d st M P hg _ (m+a.size) (pre_ind (st:=st) (M:=M) (P:=P) (fun e k x m hm hp=>(hg ⟨k,x,[]⟩ e m hm hp).2) a e m (by omega) he) (by omega)
end
end Go.Ab.Core


namespace Go.Ab.Core
open Go Go.Ab
noncomputable def qqb (t:List Nd):PV:=if qc7 t then .sl 1 (qfl (qfh t)) false else .nilS
def nv (w:PV) (ns:List Tx):In Unit:=([.nilS,w,I (ns.length:Nat),.sl 1 (qfl ns) false],none,())
def Qde (r:In Unit) (k:Int) (x:Tx):In Unit:=if qje k=true then ([nth r.1 0,nth r.1 1,nI (qbj (nth r.1 2)+1),.sl 1 (qbd (nth r.1 3)++[.str x]) false],none,()) else r
theorem Qjy (w:PV) (ns:List Tx) (k:Int) (x:Tx):Qde (nv w ns) k x=nv w (ns++if qje k=true then [x] else []):=by
 unfold Qde
 cases qje k with
 | false=>simp
 | true=>simp [nv,qfl,qbd];rfl
mutual
theorem Qjk (w:PV):∀ (a:Tr) (ns:List Tx),pre Qde a (nv w ns)=nv w (ns++nmT a)
 | .mk k x ks,ns=>by simp only [pre,Qjy,nmT];rw [Qc5 w ks,List.append_assoc]
theorem Qc5 (w:PV):∀ (ks:List Tr) (ns:List Tx),preL Qde ks (nv w ns)=nv w (ns++nmL ks)
 | [],ns=>by simp [preL,nmL]
 | a :: ks,ns=>by simp only [preL,nmL];rw [Qjk w a,Qc5 w ks,List.append_assoc]
end
noncomputable def Qm3:List PV→List PV→Unit→Option (Bool×KRec Unit):=(fun z6=>fun z7=>fun z8=>qby (qqa z7 1) (qby (qb8 (nth z7 0) 3) (qba (qb3 B0 .cl (.fn 37 []) [.agg [qbi (nth z7 0) 0,qbi (nth z7 0) 1,qbi (nth z7 0) 2]]) (fun z9=>qck z9 (qby (qdx 1 [qbi (nth z7 0) 1]) (qby (leN (qc1 0 (qbv [qbi (nth z7 0) 1])) (qbv [qbi (nth z7 0) 1])) (qby (qrn (leN (qbj (nth z6 2)) (qbv (qbd (nth z6 3)))) (leN (qc1 (qbj (nth z6 2)) (qbv (qbw (qbv [qbi (nth z7 0) 1]) (qb5 0 [qbi (nth z7 0) 1])))) 2147483648)) (some (true,([nth z6 0,nth z6 1,nI (qc1 (qbj (nth z6 2)) (qbv (qbw (qbv [qbi (nth z7 0) 1]) (qb5 0 [qbi (nth z7 0) 1])))),.sl 1 (ql3 (qbw (qbj (nth z6 2)) (qbd (nth z6 3))) (qbw (qbv [qbi (nth z7 0) 1]) (qb5 0 [qbi (nth z7 0) 1]))) false],(none,z8))))))) (some (true,([nth z6 0,nth z6 1,nI (qbj (nth z6 2)),.sl 1 (qbd (nth z6 3)) false],(none,z8))))))))
theorem Qjz (w:PV):Goes (qjt 0 qbe Qm3) 0 Qde 400 (fun m r=>∃ ns:List Tx,r=nv w ns∧ns.length≤m):=by
 rintro n _ m hm ⟨ns,rfl,hl⟩
 rw [Qjy]
 refine ⟨?_,_,rfl,by split<;>simp<;>omega⟩
 simp only [qjt,if_true,nv,Qm3,qdd,qdc,qdg,qdq,qcj,qh5,qb1]
 rw [show qqa [nd n] 1=true by simp [qqa,qca,qyt],qbg,show qb8 (nd n) 3=true from rfl,qbg]
 rw [show PV.agg [qbi (nd n) 0,qbi (nd n) 1,qbi (nd n) 2]=nd n from rfl,show qbi (nd n) 1=.str n.text from rfl,Qdv,qbb,qco]
 cases qje n.kind with
 | false =>
  rw [if_neg (by simp)]
  simp
 | true =>
  rw [if_pos rfl,show qdx 1 [PV.str n.text]=true from rfl]
  simp only [qbg,qf4,List.length_singleton,qd3,Nat.zero_add,qke,Nat.le_refl,decide_true,qfk,qfq,List.drop_zero,List.take_succ_cons,List.take_zero,qg5,Bool.true_and,qg3,qg7,if_true]
  rw [show decide (ns.length+1≤2147483648)=true by simp;omega,qbg]
  rw [List.take_of_length_le (by rw [qg7];exact Nat.le_refl _)]
  simp [qfl]
theorem names_raw {t:List Nd} (ht:Fine t):qm2 (qk6 B0 fun _=>.cl) fn18 .cl qbe 0 ([tl t].map KV.cv) ()=some (qqb t,()):=by
 rw [List.map_cons,List.map_nil,run18,qs8 ht,qbb,qpg,qbb,qco]
 unfold qqb
 cases hr:qc7 t with
 | false=>rfl
 | true =>
  obtain ⟨a,h1,h2,h3,h4,h5,h6⟩:=qgu hr
  have hnm:qfh t=nmT a:=by unfold qfh;rw [h1]
  rw [if_neg (by simp),qk2,qbb]
  simp only [qd0,Qpg,qbb]
  rw [Qmf (by omega) (by omega),Qdc,qbb]
  have hw:=Qpk ht a (t.length - 1) h2 (qjt 0 qbe Qm3) 0 Qde 400 _ (Qjz (qwk t ((t.length - 1:Nat):Int))) (nv (qwk t ((t.length - 1:Nat):Int)) []) 0 ⟨[],rfl,Nat.le_refl _⟩ (by omega)
  rw [Qjk,List.nil_append] at hw
  refine range_then _ hw ?_
  simp only [nv,qdg,qdq,qcj,qb1,qxl]
  rw [show ∀ A B:Option (PV×Unit),qzq (qsj (none:Option Ex)) A B=A from fun _ _=>rfl]
  rw [show okU (.sl 1 (qfl (nmT a)) false)=true by simp [okU,okV,qh9],qbg,hnm]
  rfl
theorem names_run {t:List Nd} (ht:Fine t):qb3 B0 .cl (.fn 18 []) [tl t]=some (qqb t) :=
 call (d:=fun _=>.cl) rfl (by decide) (by simp [qca]) rfl (names_raw ht)
theorem qy8 {t:List Nd} (h:qc7 t=false):qfh t=[]:=by unfold qfh;rw [qhn h]
theorem qvq (t:List Nd):qbc (.len .slice (.c (qqb t)))=some (I ((qfh t).length:Nat)):=by
 unfold qqb
 cases hr:qc7 t with
 | false=>rw [qy8 hr];rfl
 | true=>rw [if_pos rfl,qgk,qg7];rfl
end Go.Ab.Core


namespace Go.Ab.Core
open Go Go.Ab
noncomputable def fmT (c t:Bool):Option (PV×Unit):=qba (qck (.bool c) (some (.bool t)) (some (.bool false))) fun z=>some (z,())
theorem qmi (c t:Bool):fmT c t=some (.bool (c&&t),()):=by cases c<;>cases t<;>rfl
noncomputable def r27 (k:Int) (x:List UInt8) (ks:List Int):Option (PV×Unit):=qm2 (qk6 B0 fun _=>.cl) fn27 .cl qbe 0 [.cv (.agg [.int .i64 k,.str x,.sl 1 (qg6 ks) false])] ()
theorem r27_1 (x:List UInt8) (ks:List Int):r27 1 x ks=fmT (((qg6 ks).length:Int)==0) (!(x==[])):=by kernel_rfl
theorem r27_2 (x:List UInt8) (ks:List Int):r27 2 x ks=fmT (((qg6 ks).length:Int)==0) (!(x==[])):=by kernel_rfl
theorem r27_3 (x:List UInt8) (ks:List Int):r27 3 x ks=fmT (((qg6 ks).length:Int)==0) (!(x==[])):=by kernel_rfl
theorem r27_4 (x:List UInt8) (ks:List Int):r27 4 x ks=fmT (((qg6 ks).length:Int)==0) (!(x==[])):=by kernel_rfl
theorem r27_5 (x:List UInt8) (ks:List Int):r27 5 x ks=fmT (((qg6 ks).length:Int)==1) (x==[]):=by kernel_rfl
theorem r27_6 (x:List UInt8) (ks:List Int):r27 6 x ks=fmT (((qg6 ks).length:Int)==2) (x==[]):=by kernel_rfl
theorem r27_7 (x:List UInt8) (ks:List Int):r27 7 x ks=fmT (((qg6 ks).length:Int)==3) (x==[]):=by kernel_rfl
theorem r27_8 (x:List UInt8) (ks:List Int):r27 8 x ks=fmT (((qg6 ks).length:Int)==1) (!(x==[])):=by kernel_rfl
theorem r27_9 (x:List UInt8) (ks:List Int):r27 9 x ks=fmT (((qg6 ks).length:Int)==0) (!(x==[])):=by kernel_rfl
theorem r27_10 (x:List UInt8) (ks:List Int):r27 10 x ks=fmT (((qg6 ks).length:Int)==1) (!(x==[])):=by kernel_rfl
theorem r27_11 (x:List UInt8) (ks:List Int):r27 11 x ks=fmT (decide (((qg6 ks).length:Int) ≥ 1)) (x==[]):=by kernel_rfl
theorem r27_12 (x:List UInt8) (ks:List Int):r27 12 x ks=fmT (((qg6 ks).length:Int)==2) (x==[]):=by kernel_rfl
theorem r27_13 (x:List UInt8) (ks:List Int):r27 13 x ks=fmT (((qg6 ks).length:Int)==0) (!(x==[])):=by kernel_rfl
theorem r27_14 (x:List UInt8) (ks:List Int):r27 14 x ks=fmT (((qg6 ks).length:Int)==0) (!(x==[])):=by kernel_rfl
theorem r27_0 (x:List UInt8) (ks:List Int):r27 0 x ks=some (.bool false,()):=by kernel_rfl
theorem r27_neg (m:Nat) (x:List UInt8) (ks:List Int):r27 (.negSucc m) x ks=some (.bool false,()):=by kernel_rfl
theorem r27_15 (m:Nat) (x:List UInt8) (ks:List Int):r27 (.ofNat (m+15)) x ks=some (.bool false,()):=by kernel_rfl
theorem formRef (n:Nd) (hn:n.Fine):r27 n.kind n.text n.kids=some (.bool (qge n),()):=by
 obtain ⟨k,x,ks⟩:=n
 have hk:ks.length≤1000000:=hn.kids
 match k with
 | .negSucc m=>exact r27_neg m x ks
 | .ofNat 0=>exact r27_0 x ks
 | .ofNat 1 =>
  show r27 1 x ks=_
  rw [r27_1,qmi,show qge ⟨Int.ofNat 1,x,ks⟩=(decide ((0:Int)≤(ks.length:Int))&&decide ((ks.length:Int)≤0)&&((x != [])==true)) from rfl]
  refine congrArg (fun b=>some (PV.bool b,())) ?_
  rw [Bool.eq_iff_iff]
  cases x<;>simp [qcz]<;>omega
 | .ofNat 2 =>
  show r27 2 x ks=_
  rw [r27_2,qmi,show qge ⟨Int.ofNat 2,x,ks⟩=(decide ((0:Int)≤(ks.length:Int))&&decide ((ks.length:Int)≤0)&&((x != [])==true)) from rfl]
  refine congrArg (fun b=>some (PV.bool b,())) ?_
  rw [Bool.eq_iff_iff]
  cases x<;>simp [qcz]<;>omega
 | .ofNat 3 =>
  show r27 3 x ks=_
  rw [r27_3,qmi,show qge ⟨Int.ofNat 3,x,ks⟩=(decide ((0:Int)≤(ks.length:Int))&&decide ((ks.length:Int)≤0)&&((x != [])==true)) from rfl]
  refine congrArg (fun b=>some (PV.bool b,())) ?_
  rw [Bool.eq_iff_iff]
  cases x<;>simp [qcz]<;>omega
 | .ofNat 4 =>
  show r27 4 x ks=_
  rw [r27_4,qmi,show qge ⟨Int.ofNat 4,x,ks⟩=(decide ((0:Int)≤(ks.length:Int))&&decide ((ks.length:Int)≤0)&&((x != [])==true)) from rfl]
  refine congrArg (fun b=>some (PV.bool b,())) ?_
  rw [Bool.eq_iff_iff]
  cases x<;>simp [qcz]<;>omega
 | .ofNat 5 =>
  show r27 5 x ks=_
  rw [r27_5,qmi,show qge ⟨Int.ofNat 5,x,ks⟩=(decide ((1:Int)≤(ks.length:Int))&&decide ((ks.length:Int)≤1)&&((x != [])==false)) from rfl]
  refine congrArg (fun b=>some (PV.bool b,())) ?_
  rw [Bool.eq_iff_iff]
  cases x<;>simp [qcz]<;>omega
 | .ofNat 6 =>
  show r27 6 x ks=_
  rw [r27_6,qmi,show qge ⟨Int.ofNat 6,x,ks⟩=(decide ((2:Int)≤(ks.length:Int))&&decide ((ks.length:Int)≤2)&&((x != [])==false)) from rfl]
  refine congrArg (fun b=>some (PV.bool b,())) ?_
  rw [Bool.eq_iff_iff]
  cases x<;>simp [qcz]<;>omega
 | .ofNat 7 =>
  show r27 7 x ks=_
  rw [r27_7,qmi,show qge ⟨Int.ofNat 7,x,ks⟩=(decide ((3:Int)≤(ks.length:Int))&&decide ((ks.length:Int)≤3)&&((x != [])==false)) from rfl]
  refine congrArg (fun b=>some (PV.bool b,())) ?_
  rw [Bool.eq_iff_iff]
  cases x<;>simp [qcz]<;>omega
 | .ofNat 8 =>
  show r27 8 x ks=_
  rw [r27_8,qmi,show qge ⟨Int.ofNat 8,x,ks⟩=(decide ((1:Int)≤(ks.length:Int))&&decide ((ks.length:Int)≤1)&&((x != [])==true)) from rfl]
  refine congrArg (fun b=>some (PV.bool b,())) ?_
  rw [Bool.eq_iff_iff]
  cases x<;>simp [qcz]<;>omega
 | .ofNat 9 =>
  show r27 9 x ks=_
  rw [r27_9,qmi,show qge ⟨Int.ofNat 9,x,ks⟩=(decide ((0:Int)≤(ks.length:Int))&&decide ((ks.length:Int)≤0)&&((x != [])==true)) from rfl]
  refine congrArg (fun b=>some (PV.bool b,())) ?_
  rw [Bool.eq_iff_iff]
  cases x<;>simp [qcz]<;>omega
 | .ofNat 10 =>
  show r27 10 x ks=_
  rw [r27_10,qmi,show qge ⟨Int.ofNat 10,x,ks⟩=(decide ((1:Int)≤(ks.length:Int))&&decide ((ks.length:Int)≤1)&&((x != [])==true)) from rfl]
  refine congrArg (fun b=>some (PV.bool b,())) ?_
  rw [Bool.eq_iff_iff]
  cases x<;>simp [qcz]<;>omega
 | .ofNat 11 =>
  show r27 11 x ks=_
  rw [r27_11,qmi,show qge ⟨Int.ofNat 11,x,ks⟩=(decide ((1:Int)≤(ks.length:Int))&&decide ((ks.length:Int)≤1048576)&&((x != [])==false)) from rfl]
  refine congrArg (fun b=>some (PV.bool b,())) ?_
  rw [Bool.eq_iff_iff]
  cases x<;>simp [qcz]<;>omega
 | .ofNat 12 =>
  show r27 12 x ks=_
  rw [r27_12,qmi,show qge ⟨Int.ofNat 12,x,ks⟩=(decide ((2:Int)≤(ks.length:Int))&&decide ((ks.length:Int)≤2)&&((x != [])==false)) from rfl]
  refine congrArg (fun b=>some (PV.bool b,())) ?_
  rw [Bool.eq_iff_iff]
  cases x<;>simp [qcz]<;>omega
 | .ofNat 13 =>
  show r27 13 x ks=_
  rw [r27_13,qmi,show qge ⟨Int.ofNat 13,x,ks⟩=(decide ((0:Int)≤(ks.length:Int))&&decide ((ks.length:Int)≤0)&&((x != [])==true)) from rfl]
  refine congrArg (fun b=>some (PV.bool b,())) ?_
  rw [Bool.eq_iff_iff]
  cases x<;>simp [qcz]<;>omega
 | .ofNat 14 =>
  show r27 14 x ks=_
  rw [r27_14,qmi,show qge ⟨Int.ofNat 14,x,ks⟩=(decide ((0:Int)≤(ks.length:Int))&&decide ((ks.length:Int)≤0)&&((x != [])==true)) from rfl]
  refine congrArg (fun b=>some (PV.bool b,())) ?_
  rw [Bool.eq_iff_iff]
  cases x<;>simp [qcz]<;>omega
 | .ofNat (m+15)=>exact r27_15 m x ks
theorem Qnq (n:Nd) (hn:n.Fine):qb3 B0 .cl (.fn 27 []) [nd n]=some (.bool (qge n)) :=
 call (d:=fun _=>.cl) rfl (by decide) (by simp [qca,qyt]) rfl (formRef n hn)
end Go.Ab.Core


namespace Go.Ab.Core
open Go Go.Ab
theorem last_loop {t:List Nd} (ht:Fine t) {ups:List Int} (hu:ups.length=t.length) (h1:1≤t.length) {step:List PV×Unit→Option (Sum (List PV×Unit) (PV×Unit))}
  (hs:∀ i,i+1 < t.length→step ([tl t,I (t.length:Nat),I (i:Nat),il ups],())=some (if ups.getD i 0=1 then .inl ([tl t,I (t.length:Nat),I ((i+1:Nat):Int),il ups],()) else .inr (.bool false,())))
  (he:step ([tl t,I (t.length:Nat),I ((t.length - 1:Nat):Int),il ups],())=some (.inr (.bool true,()))) :
  qci step ([tl t,I (t.length:Nat),I ((0:Nat):Int),il ups],())=some (.bool ((ups.take (t.length - 1)).all (·==1)),()):=by
 refine Eq.trans (qxr (fun i (_:Unit)=>([tl t,I (t.length:Nat),I (i:Int),il ups],())) (t.length - 1) (fun _ _=>True)
  (fun i _=>(PV.bool (((ups.take (t.length - 1)).drop i).all (·==1)),())) (fun i _ hi _=>?_) (fun _ _=>?_) (a0:=()) trivial) (by simp)
 ·have hlt:i < (ups.take (t.length - 1)).length:=by rw [List.length_take];omega
  have hl2:i < ups.length:=by omega
  rw [List.drop_eq_getElem_cons hlt,List.all_cons]
  have hg:ups.getD i 0=(ups.take (t.length - 1))[i]:=by
   rw [List.getElem_take,List.getD_eq_getElem?_getD,List.getElem?_eq_getElem hl2];rfl
  rw [hs i (by omega),hg]
  by_cases h:(ups.take (t.length - 1))[i]=1
  ·left
   refine ⟨(),by rw [if_pos h],trivial,?_⟩
   simp only [h]
   simp
  ·right
   rw [if_neg h,show ((ups.take (t.length - 1))[i]==1)=false by simpa using h]
   rfl
 ·rw [he,List.drop_eq_nil_of_le (by rw [List.length_take];omega)]
  rfl
theorem lastUp_all {ups:List Int} (h1:1≤ups.length) (h0:ups.getD (ups.length - 1) 0=0):(qkf ups).all (·==1)=(ups.take (ups.length - 1)).all (·==1):=by
 unfold qkf
 rw [h0]
 have e:ups.set (ups.length - 1) (0+1)=ups.take (ups.length - 1)++[1]:=by
  apply List.ext_getElem?
  intro i
  rw [List.getElem?_set]
  by_cases hi:ups.length - 1=i
  ·subst hi
   rw [if_pos rfl,if_pos (by omega),List.getElem?_append_right (by rw [List.length_take];omega)]
   simp [Nat.min_eq_left (Nat.sub_le _ _)]
  ·rw [if_neg hi]
   by_cases h2:i < ups.length - 1
   ·rw [List.getElem?_append_left (by rw [List.length_take];omega),List.getElem?_take_of_lt h2]
   ·rw [List.getElem?_eq_none (by omega),List.getElem?_eq_none (by simp;omega)]
 rw [e,List.all_append]
 simp
theorem Qms {t:List Nd} (ht:Fine t):qm2 (qk6 B0 fun _=>.cl) fn10 .cl qbe 0 ([tl t].map KV.cv) ()=some (.bool (qc7 t),()):=by
 have hlt:=ht.len
 have hb:=qfu
 rw [List.map_cons,List.map_nil,run10]
 simp only [qk2,qbb,qd0,qdp,I_gtr,qco]
 by_cases h1:t.length < 1
 ·have:qc7 t=false:=by unfold qc7;simp [show ¬ 1≤t.length by omega]
  simp [show ((t.length:Nat):Int) < 1 by omega,this]
 have h1':¬ ((t.length:Nat):Int) < 1:=by omega
 by_cases h2:400 < t.length
 ·have:qc7 t=false:=by unfold qc7;simp [show ¬ t.length≤400 by omega]
  simp [h1',show (400:Int) < ((t.length:Nat):Int) by omega,this]
 have h2':¬ (400:Int) < ((t.length:Nat):Int):=by omega
 simp only [h1',h2',decide_false,Bool.false_eq_true,if_false,qbb,qbm]
 rw [Qqh (by unfold qdr;omega)]
 simp only [qbb,qh5]
 rw [show qbs [tl t,I t.length,I 0]=true from rfl,qbg,qs9]
 have hrb:qc7 t=(match qdh 0 (List.replicate t.length 0) t with | some ups=>(qkf ups).all (·==1) | none=>false):=by
  unfold qc7;simp [show 1≤t.length by omega,show t.length≤400 by omega]<;>rfl
 rw [hrb]
 refine Eq.trans (Qm6 (fun i (ups:List Int)=>([tl t,I t.length,I (i:Int),il ups],())) t.length (fun i ups=>ups.length=t.length∧qxj (i * big) ups∧∀ j,i≤j+1→ups.getD j 0=0)
  (fun i ups=>(PV.bool (match qdh i ups (t.drop i) with | some ups=>(qkf ups).all (·==1) | none=>false),())) (fun i ups hi hu=>?_) (fun ups hu=>?_) (a0:=List.replicate t.length 0) ⟨by simp,fun u hu=>by
   have:=List.eq_of_mem_replicate hu;omega,fun j _=>by simp [List.getD_eq_getElem?_getD,List.getElem?_replicate];split<;>rfl⟩) (by simp only [List.drop_zero]<;>rfl)
 ·simp only [qdd,qdc,qdg,qdq,qk2,qdp,qbb]
  rw [show decide ((i:Int) < (t.length:Nat))=true by simpa using hi,qb6,qmh hi]
  have hnf:=ht.nd t[i] (List.getElem_mem hi)
  simp only [qbb,Qj6,qcj,qh5,qce]
  rw [show qb3 B0 .cl (.fn 27 []) [.agg [I t[i].kind,.str t[i].text,il t[i].kids]]=some (.bool (qge t[i])) from Qnq t[i] hnf]
  simp only [qbb,qpg,qco]
  rw [List.drop_eq_getElem_cons hi]
  cases hfm:qge t[i] with
  | false=>exact ⟨_,rfl,.inr (by simp [qdh,hfm])⟩
  | true =>
   rw [if_neg (by simp)]
   rw [show qbs [tl t,I t.length,I i,I (-1),I 0]=true from rfl,qbg]
   refine ⟨_,Qqr ht hi hu.1 hu.2.1 (fun ups=>.inl ([tl t,I t.length,I ((i+1:Nat):Int),il ups],()))
    (fun j last ups=>([tl t,I t.length,I i,I last,I (j:Int),il ups],())) (fun j last ups hj hu' hle=>?_) (fun last ups hu'=>?_),?_⟩
   ·simp only [qdd,qdc,qdg,qdq,qfv,qgl,qmh hi,qbb,fa3_2,qzd,qh1,qdp]
    rw [show decide ((j:Int) < (t[i].kids.length:Nat))=true by simpa using hj,qb6,qrw hj]
    simp only [qbb,qnd,I_leq,I_geq,qco]
    by_cases g1:t[i].kids[j]≤last
    ·simp [g1]
    by_cases g2:(i:Int)≤t[i].kids[j]
    ·simp [g1,g2]
    simp only [g1,g2,decide_false,Bool.false_eq_true,if_false,qbb,qbm,Bool.or_self]
    by_cases g3:0≤t[i].kids[j]
    ·obtain ⟨m,hm⟩:=Int.eq_ofNat_of_zero_le g3
     rw [if_pos g3,hm]
     have hmt:m < t.length:=by rw [hm] at g2;omega
     have hmu:m < ups.length:=by omega
     have hub:=hle _ (List.getElem_mem hmu)
     have hjb:=hnf.kids
     have hib:i * big≤1000000 * 1000000:=Nat.mul_le_mul (by unfold big at hlt;omega) (by decide)
     simp only [qwt,qbb,qcj,qru,qd3,Nat.zero_add,qce,show decide (m < t.length)=true by simpa using hmt,qbg,qnv hmu,qg9,qxn hmu,Int.toNat_natCast]
     rw [qhd (i:=j) (by omega),w64 (n:=ups[m]+1) (by omega) (by omega)]
     simp [List.getD_eq_getElem?_getD,hmu]
     rfl
    ·rw [if_neg g3]
     have:qvp (I t[i].kids[j])=none:=by simp [qvp,qjv,I,g3]
     rw [this];rfl
   ·simp only [qdd,qdc,qdg,qdq,qfv,qgl,qmh hi,qbb,fa3_2,qzd,qh1,qdp]
    rw [show decide (((t[i].kids.length:Nat):Int) < (t[i].kids.length:Nat))=false by simp,qbm]
    simp only [qg9,qbb,qcj,qh5,qce]
    rw [qhd (by omega)]
    rfl
   ·cases hk:qtm (i:Int) (-1) t[i].kids with
    | false=>right;simp [qdh,hk]
    | true =>
     left
     refine ⟨bump ups t[i].kids,by simp,⟨by rw [qpr];exact hu.1,fun u hu'=>?_,fun j hj=>?_⟩,by simp [qdh,hk,hfm]⟩
     ·have:=hu.2.1.bump u hu'
      have hk':=hnf.kids
      rw [Nat.add_mul]
      omega
     ·rw [qri i _ _ (fun k hk2=>Qgo hk (by omega) k hk2) j (by omega)]
      exact hu.2.2 j (by omega)
 ·simp only [qdd,qdc,qdg,qdq,qk2,qdp,qbb]
  rw [show decide (((t.length:Nat):Int) < (t.length:Nat))=false by simp,qbm]
  simp only [qcj,qh5,qce]
  rw [show qbs [tl t,I t.length,I 0]=true from rfl,qbg]
  have hl0:=hu.2.2 (t.length - 1) (by omega)
  have hll:=last_loop ht hu.1 (by omega) (step:=(fun z40=>qba (qbc (.bin .add .num true (.c (nth z40.1 2)) (.c (I 1)))) (fun z41=>qba (qbc (.len .slice (.c (nth z40.1 0)))) (fun z42=>qba (qbc (.bin .lss .num false (.c z41) (.c z42))) (fun z43=>qck z43 (qba (qvp (nth z40.1 2)) (fun z44=>qby (ltN z44 (qbj (nth z40.1 1))) (qba (qpo (qbd (nth z40.1 3)) (qc1 0 z44) 0 1 false) (fun z45=>qba (qbc (.bin .neq .num true (.c z45) (.c (I 1)))) (fun z46=>qck z46 (qba (some (.bool false,z40.2)) (fun z47=>some (.inr z47))) (qba (qbc (.bin .add .num true (.c (nth z40.1 2)) (.c (I 1)))) (fun z48=>some (.inl ([nth z40.1 0,nI (qbj (nth z40.1 1)),z48,.sl 1 (qbd (nth z40.1 3)) false],z40.2))))))))) (qba (some (.bool true,z40.2)) (fun z49=>some (.inr z49)))))))) (fun i hi=>?_) ?_
  ·rw [show ∀ X:Option (PV×Unit),X=some (.bool ((ups.take (t.length - 1)).all (·==1)),())→qba X (fun z=>some (Sum.inr z))=some (.inr (.bool ((ups.take (t.length - 1)).all (·==1)),())) from fun X hX=>by rw [hX];rfl]
   ·rw [List.drop_length]
    simp only [qdh]
    rw [lastUp_all (by omega) (by rw [hu.1];exact hl0),hu.1]
   ·exact hll
  ·have hiu:i < ups.length:=by have:=hu.1;omega
   simp only [qdd,qdc,qdg,qdq,qg9,qk2,qdp,qbb]
   rw [qhd (by omega),show decide (((i+1:Nat):Int) < (t.length:Nat))=true by simp;omega,qb6,qwt,qbb]
   simp only [qcj,qru,qd3,Nat.zero_add,qce,qh5]
   rw [show decide (i < t.length)=true by simp;omega,qbg,qnv hiu,qbb,Qho,qbb,qco,List.getD_eq_getElem?_getD,List.getElem?_eq_getElem hiu]
   by_cases hq:ups[i]=1
   ·simp [hq]
    rfl
   ·simp [hq]
  ·simp only [qdd,qdc,qdg,qdq,qg9,qk2,qdp,qbb]
   rw [qhd (by omega),show t.length - 1+1=t.length by omega,show decide (((t.length:Nat):Int) < (t.length:Nat))=false by simp,qbm]
theorem Qmr {t:List Nd} (ht:Fine t):qb3 B0 .cl (.fn 10 []) [tl t]=some (.bool (qc7 t)) :=
 call (d:=fun _=>.cl) rfl (by decide) (by simp [qca]) rfl (Qms ht)
end Go.Ab.Core


namespace Go.Ab.Core
open Go Go.Ab
def w8 (k:Int):Nat:=if k=8 then 1 else 0
mutual
theorem wt_set:∀ a:Tr,a.wt w8=setT a
 | .mk k x ks=>by simp only [Tr.wt,setT,w8,wtL_set ks];omega
theorem wtL_set:∀ ks:List Tr,wtL w8 ks=setL ks
 | []=>rfl
 | a :: ks=>by simp only [wtL,setL,wt_set a,wtL_set ks]
end
def Qh8 (t:List Nd):Nat:=if qc7 t=true then Qrs w8 t else 0
theorem setCnt_eq (t:List Nd):Qh8 t=Qpv t:=by
 unfold Qh8 Qpv
 cases hr:qc7 t with
 | false=>rw [qhn hr];rfl
 | true =>
  obtain ⟨a,h1,h2,_⟩:=qgu hr
  rw [h1,if_pos rfl,← right_wt w8 hr h2,wt_set]
theorem cntK_le:∀ l:List Nd,Qrs w8 l≤l.length
 | []=>Nat.le_refl _
 | n :: l=>by
  have:=cntK_le l
  simp only [Qrs,w8,List.length_cons]
  split<;>omega
abbrev Q:=List PV×Unit
noncomputable def qxm:Q→Option (Sum Q (Sum Q (PV×Unit))):=(fun z115=>qba (qbc (.idxAddr 4 (.c (nth z115.1 0)) (.c (nth z115.1 5)))) (fun z116=>qba (qbc (.fieldAddr 2 (.c z116))) (fun z117=>qba (qbc (.load 1 false (.c z117))) (fun z118=>qba (qbc (.len .slice (.c z118))) (fun z119=>qba (qbc (.bin .lss .num false (.c (nth z115.1 6)) (.c z119))) (fun z120=>qck z120 (qba (qbc (.idxAddr 4 (.c (nth z115.1 0)) (.c (nth z115.1 5)))) (fun z121=>qba (qbc (.fieldAddr 2 (.c z121))) (fun z122=>qba (qbc (.load 1 false (.c z122))) (fun z123=>qba (qb3 B0 .cl (.fn 10 []) [z123]) (fun z124=>qck z124 (qba (qbc (.idxAddr 4 (.c (nth z115.1 0)) (.c (nth z115.1 5)))) (fun z125=>qba (qbc (.fieldAddr 2 (.c z125))) (fun z126=>qba (qbc (.load 1 false (.c z126))) (fun z127=>qba (qbc (.idxAddr 3 (.c z127) (.c (nth z115.1 6)))) (fun z128=>qba (qbc (.fieldAddr 0 (.c z128))) (fun z129=>qba (qbc (.load 1 false (.c z129))) (fun z130=>qba (qbc (.bin .eql .num true (.c z130) (.c (.int .i64 8)))) (fun z131=>qck z131 (qba (qbc (.bin .add .num true (.c (nth z115.1 4)) (.c (.int .i64 1)))) (fun z132=>qba (qbc (.bin .add .num true (.c (nth z115.1 6)) (.c (.int .i64 1)))) (fun z133=>some (.inl ([nth z115.1 0,nth z115.1 1,nth z115.1 2,nth z115.1 3,z132,nth z115.1 5,z133],z115.2))))) (qba (qbc (.bin .add .num true (.c (nth z115.1 6)) (.c (.int .i64 1)))) (fun z134=>some (.inl ([nth z115.1 0,nth z115.1 1,nth z115.1 2,nth z115.1 3,nth z115.1 4,nth z115.1 5,z134],z115.2)))))))))))) (qba (qbc (.bin .add .num true (.c (nth z115.1 6)) (.c (.int .i64 1)))) (fun z135=>some (.inl ([nth z115.1 0,nth z115.1 1,nth z115.1 2,nth z115.1 3,nth z115.1 4,nth z115.1 5,z135],z115.2))))))))) (qba (qba (qbc (.bin .add .num true (.c (nth z115.1 5)) (.c (.int .i64 1)))) (fun z136=>some (.inl ([nth z115.1 0,nth z115.1 1,nth z115.1 2,nth z115.1 3,nth z115.1 4,z136],z115.2)))) (fun z137=>some (.inr z137)))))))))
noncomputable def qy7:Q→Option (Sum Q (Sum Q (PV×Unit))):=(fun z91=>qba (qbc (.len .slice (.c (nth z91.1 6)))) (fun z92=>qba (qbc (.bin .lss .num false (.c (nth z91.1 7)) (.c z92))) (fun z93=>qck z93 (qba (qbc (.idxAddr 1 (.c (nth z91.1 2)) (.c (nth z91.1 5)))) (fun z94=>qba (qbc (.load 1 false (.c z94))) (fun z95=>qba (qbc (.idxAddr 1 (.c z95) (.c (nth z91.1 7)))) (fun z96=>qba (qbc (.load 1 false (.c z96))) (fun z97=>qba (qbc (.bin .lss .num true (.c z97) (.c (.int .i64 (-1))))) (fun z98=>qck z98 (qba (qba (some (.bool false,z91.2)) (fun z99=>some (.inr z99))) (fun z100=>some (.inr z100))) (qba (qbc (.len .slice (.c (nth z91.1 3)))) (fun z101=>qba (qbc (.bin .geq .num false (.c z97) (.c z101))) (fun z102=>qck z102 (qba (qba (some (.bool false,z91.2)) (fun z103=>some (.inr z103))) (fun z104=>some (.inr z104))) (qba (qbc (.bin .geq .num true (.c z97) (.c (.int .i64 0)))) (fun z105=>qck z105 (qba (qbc (.idxAddr 1 (.c (nth z91.1 3)) (.c z97))) (fun z106=>qba (qbc (.load 1 false (.c z106))) (fun z107=>qba (qbc (.idxAddr 1 (.c (nth z91.1 6)) (.c (nth z91.1 7)))) (fun z108=>qba (qbc (.load 1 false (.c z108))) (fun z109=>qba (qbc (.bin .neq .str false (.c z107) (.c z109))) (fun z110=>qck z110 (qba (qba (some (.bool false,z91.2)) (fun z111=>some (.inr z111))) (fun z112=>some (.inr z112))) (qba (qbc (.bin .add .num true (.c (nth z91.1 7)) (.c (.int .i64 1)))) (fun z113=>some (.inl ([nth z91.1 0,nth z91.1 1,nth z91.1 2,nth z91.1 3,nth z91.1 4,nth z91.1 5,nth z91.1 6,z113],z91.2)))))))))) (qba (qbc (.bin .add .num true (.c (nth z91.1 7)) (.c (.int .i64 1)))) (fun z114=>some (.inl ([nth z91.1 0,nth z91.1 1,nth z91.1 2,nth z91.1 3,nth z91.1 4,nth z91.1 5,nth z91.1 6,z114],z91.2))))))))))))))) (qba (qby (qbs [nth z91.1 0,nth z91.1 1,nth z91.1 2,nth z91.1 3,nth z91.1 4,nth z91.1 5,.int .i64 0]) (qci (fun z115=>qba (qbc (.idxAddr 4 (.c (nth z115.1 0)) (.c (nth z115.1 5)))) (fun z116=>qba (qbc (.fieldAddr 2 (.c z116))) (fun z117=>qba (qbc (.load 1 false (.c z117))) (fun z118=>qba (qbc (.len .slice (.c z118))) (fun z119=>qba (qbc (.bin .lss .num false (.c (nth z115.1 6)) (.c z119))) (fun z120=>qck z120 (qba (qbc (.idxAddr 4 (.c (nth z115.1 0)) (.c (nth z115.1 5)))) (fun z121=>qba (qbc (.fieldAddr 2 (.c z121))) (fun z122=>qba (qbc (.load 1 false (.c z122))) (fun z123=>qba (qb3 B0 .cl (.fn 10 []) [z123]) (fun z124=>qck z124 (qba (qbc (.idxAddr 4 (.c (nth z115.1 0)) (.c (nth z115.1 5)))) (fun z125=>qba (qbc (.fieldAddr 2 (.c z125))) (fun z126=>qba (qbc (.load 1 false (.c z126))) (fun z127=>qba (qbc (.idxAddr 3 (.c z127) (.c (nth z115.1 6)))) (fun z128=>qba (qbc (.fieldAddr 0 (.c z128))) (fun z129=>qba (qbc (.load 1 false (.c z129))) (fun z130=>qba (qbc (.bin .eql .num true (.c z130) (.c (.int .i64 8)))) (fun z131=>qck z131 (qba (qbc (.bin .add .num true (.c (nth z115.1 4)) (.c (.int .i64 1)))) (fun z132=>qba (qbc (.bin .add .num true (.c (nth z115.1 6)) (.c (.int .i64 1)))) (fun z133=>some (.inl ([nth z115.1 0,nth z115.1 1,nth z115.1 2,nth z115.1 3,z132,nth z115.1 5,z133],z115.2))))) (qba (qbc (.bin .add .num true (.c (nth z115.1 6)) (.c (.int .i64 1)))) (fun z134=>some (.inl ([nth z115.1 0,nth z115.1 1,nth z115.1 2,nth z115.1 3,nth z115.1 4,nth z115.1 5,z134],z115.2)))))))))))) (qba (qbc (.bin .add .num true (.c (nth z115.1 6)) (.c (.int .i64 1)))) (fun z135=>some (.inl ([nth z115.1 0,nth z115.1 1,nth z115.1 2,nth z115.1 3,nth z115.1 4,nth z115.1 5,z135],z115.2))))))))) (qba (qba (qbc (.bin .add .num true (.c (nth z115.1 5)) (.c (.int .i64 1)))) (fun z136=>some (.inl ([nth z115.1 0,nth z115.1 1,nth z115.1 2,nth z115.1 3,nth z115.1 4,z136],z115.2)))) (fun z137=>some (.inr z137))))))))) ([nth z91.1 0,nth z91.1 1,nth z91.1 2,nth z91.1 3,nth z91.1 4,nth z91.1 5,.int .i64 0],z91.2))) (fun z138=>some (.inr z138))))))
noncomputable def qvc:Q→Option (Sum Q (PV×Unit)):=(fun z78=>qba (qbc (.len .slice (.c (nth z78.1 0)))) (fun z79=>qba (qbc (.bin .lss .num false (.c (nth z78.1 5)) (.c z79))) (fun z80=>qck z80 (qba (qbc (.idxAddr 4 (.c (nth z78.1 0)) (.c (nth z78.1 5)))) (fun z81=>qba (qbc (.fieldAddr 2 (.c z81))) (fun z82=>qba (qbc (.load 1 false (.c z82))) (fun z83=>qba (qb3 B0 .cl (.fn 18 []) [z83]) (fun z84=>qba (qbc (.len .slice (.c z84))) (fun z85=>qba (qbc (.idxAddr 1 (.c (nth z78.1 2)) (.c (nth z78.1 5)))) (fun z86=>qba (qbc (.load 1 false (.c z86))) (fun z87=>qba (qbc (.len .slice (.c z87))) (fun z88=>qba (qbc (.bin .neq .num false (.c z85) (.c z88))) (fun z89=>qck z89 (qba (some (.bool false,z78.2)) (fun z90=>some (.inr z90))) (qby (qbs [nth z78.1 0,nth z78.1 1,nth z78.1 2,nth z78.1 3,nth z78.1 4,nth z78.1 5,z84,.int .i64 0]) (qci (fun z91=>qba (qbc (.len .slice (.c (nth z91.1 6)))) (fun z92=>qba (qbc (.bin .lss .num false (.c (nth z91.1 7)) (.c z92))) (fun z93=>qck z93 (qba (qbc (.idxAddr 1 (.c (nth z91.1 2)) (.c (nth z91.1 5)))) (fun z94=>qba (qbc (.load 1 false (.c z94))) (fun z95=>qba (qbc (.idxAddr 1 (.c z95) (.c (nth z91.1 7)))) (fun z96=>qba (qbc (.load 1 false (.c z96))) (fun z97=>qba (qbc (.bin .lss .num true (.c z97) (.c (.int .i64 (-1))))) (fun z98=>qck z98 (qba (qba (some (.bool false,z91.2)) (fun z99=>some (.inr z99))) (fun z100=>some (.inr z100))) (qba (qbc (.len .slice (.c (nth z91.1 3)))) (fun z101=>qba (qbc (.bin .geq .num false (.c z97) (.c z101))) (fun z102=>qck z102 (qba (qba (some (.bool false,z91.2)) (fun z103=>some (.inr z103))) (fun z104=>some (.inr z104))) (qba (qbc (.bin .geq .num true (.c z97) (.c (.int .i64 0)))) (fun z105=>qck z105 (qba (qbc (.idxAddr 1 (.c (nth z91.1 3)) (.c z97))) (fun z106=>qba (qbc (.load 1 false (.c z106))) (fun z107=>qba (qbc (.idxAddr 1 (.c (nth z91.1 6)) (.c (nth z91.1 7)))) (fun z108=>qba (qbc (.load 1 false (.c z108))) (fun z109=>qba (qbc (.bin .neq .str false (.c z107) (.c z109))) (fun z110=>qck z110 (qba (qba (some (.bool false,z91.2)) (fun z111=>some (.inr z111))) (fun z112=>some (.inr z112))) (qba (qbc (.bin .add .num true (.c (nth z91.1 7)) (.c (.int .i64 1)))) (fun z113=>some (.inl ([nth z91.1 0,nth z91.1 1,nth z91.1 2,nth z91.1 3,nth z91.1 4,nth z91.1 5,nth z91.1 6,z113],z91.2)))))))))) (qba (qbc (.bin .add .num true (.c (nth z91.1 7)) (.c (.int .i64 1)))) (fun z114=>some (.inl ([nth z91.1 0,nth z91.1 1,nth z91.1 2,nth z91.1 3,nth z91.1 4,nth z91.1 5,nth z91.1 6,z114],z91.2))))))))))))))) (qba (qby (qbs [nth z91.1 0,nth z91.1 1,nth z91.1 2,nth z91.1 3,nth z91.1 4,nth z91.1 5,.int .i64 0]) (qci (fun z115=>qba (qbc (.idxAddr 4 (.c (nth z115.1 0)) (.c (nth z115.1 5)))) (fun z116=>qba (qbc (.fieldAddr 2 (.c z116))) (fun z117=>qba (qbc (.load 1 false (.c z117))) (fun z118=>qba (qbc (.len .slice (.c z118))) (fun z119=>qba (qbc (.bin .lss .num false (.c (nth z115.1 6)) (.c z119))) (fun z120=>qck z120 (qba (qbc (.idxAddr 4 (.c (nth z115.1 0)) (.c (nth z115.1 5)))) (fun z121=>qba (qbc (.fieldAddr 2 (.c z121))) (fun z122=>qba (qbc (.load 1 false (.c z122))) (fun z123=>qba (qb3 B0 .cl (.fn 10 []) [z123]) (fun z124=>qck z124 (qba (qbc (.idxAddr 4 (.c (nth z115.1 0)) (.c (nth z115.1 5)))) (fun z125=>qba (qbc (.fieldAddr 2 (.c z125))) (fun z126=>qba (qbc (.load 1 false (.c z126))) (fun z127=>qba (qbc (.idxAddr 3 (.c z127) (.c (nth z115.1 6)))) (fun z128=>qba (qbc (.fieldAddr 0 (.c z128))) (fun z129=>qba (qbc (.load 1 false (.c z129))) (fun z130=>qba (qbc (.bin .eql .num true (.c z130) (.c (.int .i64 8)))) (fun z131=>qck z131 (qba (qbc (.bin .add .num true (.c (nth z115.1 4)) (.c (.int .i64 1)))) (fun z132=>qba (qbc (.bin .add .num true (.c (nth z115.1 6)) (.c (.int .i64 1)))) (fun z133=>some (.inl ([nth z115.1 0,nth z115.1 1,nth z115.1 2,nth z115.1 3,z132,nth z115.1 5,z133],z115.2))))) (qba (qbc (.bin .add .num true (.c (nth z115.1 6)) (.c (.int .i64 1)))) (fun z134=>some (.inl ([nth z115.1 0,nth z115.1 1,nth z115.1 2,nth z115.1 3,nth z115.1 4,nth z115.1 5,z134],z115.2)))))))))))) (qba (qbc (.bin .add .num true (.c (nth z115.1 6)) (.c (.int .i64 1)))) (fun z135=>some (.inl ([nth z115.1 0,nth z115.1 1,nth z115.1 2,nth z115.1 3,nth z115.1 4,nth z115.1 5,z135],z115.2))))))))) (qba (qba (qbc (.bin .add .num true (.c (nth z115.1 5)) (.c (.int .i64 1)))) (fun z136=>some (.inl ([nth z115.1 0,nth z115.1 1,nth z115.1 2,nth z115.1 3,nth z115.1 4,z136],z115.2)))) (fun z137=>some (.inr z137))))))))) ([nth z91.1 0,nth z91.1 1,nth z91.1 2,nth z91.1 3,nth z91.1 4,nth z91.1 5,.int .i64 0],z91.2))) (fun z138=>some (.inr z138)))))) ([nth z78.1 0,nth z78.1 1,nth z78.1 2,nth z78.1 3,nth z78.1 4,nth z78.1 5,z84,.int .i64 0],z78.2))))))))))))) (qba (qba (qck (nth z78.1 1) (qba (qbc (.len .slice (.c (nth z78.1 3)))) (fun z139=>qba (qbc (.bin .eql .num false (.c (nth z78.1 4)) (.c z139))) (fun z140=>some z140))) (some (.bool false))) (fun z141=>some (z141,z78.2))) (fun z142=>some (.inr z142))))))
theorem sets_loop {L:List St} (hf:qrp L) {j:Nat} (hj:j < L.length) (s:Nat) (hs:s≤big) (mV bV:PV) :
  qci qxm ([sl4 L,.bool true,mV,bV,I (s:Nat),I (j:Nat),I ((0:Nat):Int)],())=some (.inl ([sl4 L,.bool true,mV,bV,I ((s+Qh8 L[j].t:Nat):Int),I ((j+1:Nat):Int)],())):=by
 have hfj:=hf.fine _ (List.getElem_mem hj)
 have hl:=hfj.len
 have hb:=qfu
 have hll:=hf.len
 have hc:∀ k,Qrs w8 (L[j].t.take k)≤k:=fun k=>Nat.le_trans (cntK_le _) (by rw [List.length_take];omega)
 refine qmc (fun k=>([sl4 L,.bool true,mV,bV,I ((s+(if qc7 L[j].t=true then Qrs w8 (L[j].t.take k) else 0):Nat):Int),I (j:Nat),I (k:Nat)],())) L[j].t.length (by simp [Qrs]) (fun k hk=>?_) ?_
 ·unfold qxm
  simp only [qdd,qdc,qdg,qdq,qfv,qgl,qjb,qzw hj,qbb,fa4_2,qzc,qk2,qdp]
  rw [show decide ((k:Int) < (L[j].t.length:Nat))=true by simp;omega,qb6,Qmr hfj,qbb,qco]
  have hck:=hc k
  cases hr:qc7 L[j].t with
  | false =>
   rw [if_neg (by simp)]
   simp only [qd0,qg9,qbb]
   rw [qhd (by omega)]
   simp
  | true =>
   rw [if_pos rfl]
   simp only [qmh hk,qbb,fa3_0,Qnc,qd0,Qhp,qco]
   have e:L[j].t.take (k+1)=L[j].t.take k++[L[j].t[k]]:=List.take_succ_eq_append_getElem hk
   rw [e,Qbu]
   by_cases h8:L[j].t[k].kind=8
   ·rw [if_pos (by simpa using h8)]
    simp only [qg9,qbb,w8,h8,if_true]
    rw [qhd (by omega),qhd (by omega)]
    simp only [Nat.add_assoc]
   ·rw [if_neg (by simpa using h8)]
    simp only [qg9,qbb,w8,h8,if_false,if_true,Nat.add_zero]
    rw [qhd (by omega)]
 ·unfold qxm
  simp only [qdd,qdc,qdg,qdq,qfv,qgl,qjb,qzw hj,qbb,fa4_2,qzc,qk2,qdp]
  rw [show decide ((L[j].t.length:Int) < (L[j].t.length:Nat))=false by simp,qbm]
  simp only [qd0,qg9,qbb]
  rw [qhd (by omega),List.take_length]
  rfl
theorem Qfl.get {texts:List Tx} {vs:List Int} {xs:List Tx} (h:Qfl texts vs xs):∀ {k:Nat},k < xs.length→∃ v x,vs[k]?=some v∧xs[k]?=some x∧(v = -1∨∃ n:Nat,v=n∧texts[n]?=some x):=by
 induction h with
 | nil=>intro k hk;simp at hk
 | cons h _ ih =>
  intro k hk
  cases k with
  | zero=>exact ⟨_,_,rfl,rfl,h⟩
  | succ k=>exact ih (by simpa using hk)
theorem idx_names {t:List Nd} {k:Nat} {x:Tx} (hk:(qfh t)[k]?=some x):qbc (.idxAddr 1 (.c (qqb t)) (.c (I (k:Int))))=some (.ptr [.str x] 0):=by
 unfold qqb
 cases hr:qc7 t with
 | false=>rw [qy8 hr] at hk;simp at hk
 | true =>
  rw [if_pos rfl]
  exact qgj (by omega) (show (qfl (qfh t))[k]?=some (.str x) by simp [qfl,hk])
theorem load_str (x:Tx):qbc (.load 1 false (.c (.ptr [PV.str x] 0)))=some (.str x):=rfl
theorem names_loop {L:List St} (hf:qrp L) {j:Nat} (hj:j < L.length) (s:Nat) (hs:s≤big) {M:List (List Int)} {texts:List Tx} {ms:List Int} (hM:M[j]?=some ms) (hm:Qfl texts ms (qfh L[j].t)) (hn:(qfh L[j].t).length≤400) :
  qci qy7 ([sl4 L,.bool true,.sl 1 (M.map il) false,.sl 1 (qfl texts) false,I (s:Nat),I (j:Nat),qqb L[j].t,I ((0:Nat):Int)],()) =
   some (.inl ([sl4 L,.bool true,.sl 1 (M.map il) false,.sl 1 (qfl texts) false,I ((s+Qh8 L[j].t:Nat):Int),I ((j+1:Nat):Int)],())):=by
 have hb:=qfu
 refine qmc (fun k=>([sl4 L,.bool true,.sl 1 (M.map il) false,.sl 1 (qfl texts) false,I (s:Nat),I (j:Nat),qqb L[j].t,I (k:Nat)],())) (qfh L[j].t).length rfl (fun k hk=>?_) ?_
 ·obtain ⟨v,x,h1,h2,h3⟩:=hm.get hk
  obtain ⟨hk1,h1⟩:=List.getElem?_eq_some_iff.1 h1
  unfold qy7
  simp only [qdd,qdc,qdg,qdq,qfv,qgl,qjb,qju,qvq,qbb,qdp]
  have hidx:qbc (.idxAddr 1 (.c (.sl 1 (M.map il) false)) (.c (I (j:Int))))=some (.ptr [il ms] 0) :=
   qgj (by omega) (show (M.map il)[j]?=some (il ms) by rw [List.getElem?_map,hM];rfl)
  rw [show decide ((k:Int) < ((qfh L[j].t).length:Nat))=true by simp;omega,qb6,hidx,qbb,show ∀ v:List Int,qbc (.load 1 false (.c (.ptr [il v] 0)))=some (il v) from fun _=>rfl,qbb,qrw hk1]
  simp only [qbb,qnd,h1,qd0,qdp,qgk,qg7,I_geq]
  rcases h3 with rfl | ⟨n,rfl,h3⟩
  ·rw [show decide ((-1:Int) < -1)=false from rfl,qbm,show decide (((texts.length:Nat):Int) ≤ -1)=false by simp;omega,qbm,show decide ((0:Int) ≤ -1)=false from rfl,qbm]
   simp only [qg9,qbb]
   rw [qhd (by omega)]
  ·have hn2:=(List.getElem?_eq_some_iff.1 h3).1
   rw [show decide ((n:Int) < -1)=false from decide_eq_false (by omega),qbm,show decide (((texts.length:Nat):Int)≤n)=false by simp;omega,qbm,show decide ((0:Int)≤n)=true by simp,qb6]
   rw [show qbc (.idxAddr 1 (.c (.sl 1 (qfl texts) false)) (.c (I (n:Int))))=some (.ptr [.str x] 0) from qgj (by omega) (show (qfl texts)[n]?=some (.str x) by simp [qfl,h3])]
   simp only [qbb,load_str,idx_names h2]
   rw [show qbc (.bin .neq .str false (.c (.str x)) (.c (.str x)))=some (.bool (!(x==x))) from rfl,qbb,show (!(x==x))=false by simp,qbm]
   simp only [qg9,qbb]
   rw [qhd (by omega)]
 ·unfold qy7
  simp only [qdd,qdc,qdg,qdq,qfv,qgl,qjb,qju,qvq,qbb,qdp]
  rw [show decide (((qfh L[j].t).length:Int) < ((qfh L[j].t).length:Nat))=false by simp,qbm]
  rw [show qbs [sl4 L,.bool true,.sl 1 (M.map il) false,.sl 1 (qfl texts) false,I (s:Nat),I (j:Nat),.int .i64 0]=true from rfl,qbg]
  have:=sets_loop hf hj s hs (.sl 1 (M.map il) false) (.sl 1 (qfl texts) false)
  unfold qxm at this
  rw [show PV.int .i64 0=I ((0:Nat):Int) from rfl]
  refine Eq.trans (congrArg (fun X=>qba X fun z=>some (Sum.inr z)) this) rfl
mutual
theorem cntT_le:∀ a:Tr,Qrq a≤a.size
 | .mk k x ks=>by
  have:=cntL_le ks
  simp only [Qrq,Tr.size]
  split<;>omega
theorem cntL_le:∀ ks:List Tr,Qrr ks≤qcp ks
 | []=>Nat.le_refl _
 | a :: ks=>by
  have h1:=cntT_le a
  have h2:=cntL_le ks
  simp only [Qrr,qcp]
  omega
end
theorem qyn:∀ (rest:List St) {s:S},s.Tied→∃ more,(qh8 rest s).texts=s.texts++more
 | [],s,_=>⟨[],by simp [qh8]⟩
 | x :: rest,s,h=>by
  obtain ⟨a,h1,_⟩:=(qlo h x.t).texts
  obtain ⟨b,h2⟩:=qyn rest (qlo h x.t).tied
  exact ⟨a++b,by rw [qh8,h2,h1,List.append_assoc]⟩
theorem Qfh {L:List St} (hf:qrp L) {M:List (List Int)} {texts:List Tx}:∀ (rest:List St) {j:Nat} {s:S} {m:Nat},L.drop j=rest→j≤L.length→M.drop j=qfx rest s→s.Good m→s.Tied→m+1200 * rest.length < big→texts=(qh8 rest s).texts →
  qci qvc ([sl4 L,.bool true,.sl 1 (M.map il) false,.sl 1 (qfl texts) false,I (s.texts.length:Nat),I (j:Nat)],())=some (.bool true,())
 | [],j,s,m,hd,hj,hM,hs,ht,hm,hx=>by
  have e:j=L.length:=by have:=List.drop_eq_nil_iff.1 hd;omega
  refine qde ?_
  subst e
  have hx:texts=s.texts:=hx
  unfold qvc
  simp only [qdd,qdc,qdg,qdq,qfv,qgl,qze,qbb,qdp]
  rw [show decide ((L.length:Int) < (L.length:Nat))=false by simp,qbm,qb6]
  simp only [qgk,qg7,qbb,qd0,Qhp,hx]
  simp
 | x :: rest,j,s,m,hd,hj,hM,hs,ht,hm,hx=>by
  obtain ⟨hj',h1,h2⟩:=qjg hd
  subst h1
  simp only [List.length_cons] at hm
  have hb:=qfu
  have h6:m+1200 < big:=Nat.lt_of_le_of_lt (by rw [Nat.mul_add];exact Nat.add_le_add_left (Nat.le_add_left _ _) m) hm
  have h9:m+1200+1200 * rest.length < big:=by rw [Nat.mul_add,Nat.mul_one,Nat.add_comm (1200 * _),← Nat.add_assoc] at hm;exact hm
  obtain ⟨hM1,hM2,hM3⟩:=qjg (show M.drop j=(qcn s L[j].t).means :: qfx rest (qcn s L[j].t) from hM)
  have hfj:=hf.fine _ (List.getElem_mem hj')
  have hcame:=qlo ht L[j].t
  have hgood:=qpd hs L[j].t
  obtain ⟨new,n1,n2⟩:=hcame.means
  have n1:(qcn s L[j].t).means=new:=n1
  obtain ⟨more,q1,q2⟩:=hcame.texts
  have q1:(qcn s L[j].t).texts=s.texts++more:=q1
  obtain ⟨mr,r1⟩:=qyn rest hcame.tied
  have hrel:Qfl texts (qcn s L[j].t).means (qfh L[j].t):=by
   rw [n1,hx,show qh8 (L[j] :: rest) s=qh8 rest (qcn s L[j].t) from rfl,r1]
   exact n2.more
  have hnl:(qfh L[j].t).length≤400:=by
   unfold qfh
   cases hr:qc7 L[j].t with
   | false=>rw [qhn hr];exact Nat.zero_le _
   | true =>
    obtain ⟨a,h1,h2,h3,h4,h5,h6⟩:=qgu hr
    rw [h1]
    have:(nmT a).length≤a.size:=by rw [Qm2];exact cntT_le a
    show (nmT a).length≤400
    omega
  have hsl:s.texts.length≤big:=by have:=hs.fine.texts;omega
  have hloop:=names_loop hf hj' s.texts.length hsl (M:=M) (texts:=texts) (by rw [List.getElem?_eq_getElem hM1,hM2]) hrel hnl
  have hstep:qvc ([sl4 L,.bool true,.sl 1 (M.map il) false,.sl 1 (qfl texts) false,I (s.texts.length:Nat),I (j:Nat)],())=some (.inl ([sl4 L,.bool true,.sl 1 (M.map il) false,.sl 1 (qfl texts) false,I (((qcn s L[j].t).texts.length:Nat):Int),I ((j+1:Nat):Int)],())):=by
   unfold qvc
   simp only [qdd,qdc,qdg,qdq,qfv,qgl,qze,qbb,qdp]
   have hidx:qbc (.idxAddr 1 (.c (.sl 1 (M.map il) false)) (.c (I (j:Int))))=some (.ptr [il (qcn s L[j].t).means] 0) :=
    qgj (by have:=hf.len;omega) (show (M.map il)[j]?=some (il (qcn s L[j].t).means) by rw [List.getElem?_map,List.getElem?_eq_getElem hM1,hM2];rfl)
   rw [show decide ((j:Int) < (L.length:Nat))=true by simp;omega,qb6,qzw hj',qbb,fa4_2,qbb,qzc,qbb,names_run hfj,qbb,qvq,qbb,hidx,qbb]
   rw [show ∀ v:List Int,qbc (.load 1 false (.c (.ptr [il v] 0)))=some (il v) from fun _=>rfl,qbb,qh1,qbb,Qho,qbb]
   rw [show ((((qfh L[j].t).length:Nat):Int) != (((qcn s L[j].t).means.length:Nat):Int))=false by rw [hrel.length];simp,qbm]
   rw [show qbs [sl4 L,.bool true,.sl 1 (M.map il) false,.sl 1 (qfl texts) false,I (s.texts.length:Nat),I (j:Nat),qqb L[j].t,.int .i64 0]=true by
    unfold qqb
    cases qc7 L[j].t<;>rfl,qbg]
   rw [show (((qcn s L[j].t).texts.length:Nat):Int)=((s.texts.length+Qh8 L[j].t:Nat):Int) by rw [q1,List.length_append,q2,setCnt_eq]]
   exact hloop
  rw [qdj hstep]
  exact Qfh hf rest (j:=j+1) (s:=qcn s L[j].t) (m:=m+1200) h2 (by omega) hM3 hgood hcame.tied h9 hx
end Go.Ab.Core


namespace Go.Ab.Core
open Go Go.Ab
theorem means_lend {l:List St} (hl:qrp l):qkw B0 .cl false 17 [sl4 l]=some (.sl 1 ((qfx l S0).map il) false):=by
 obtain ⟨w,hw,h⟩:=qr7 hl
 refine qhq (qhk fun _=>.cl) (fn:=fn17) rfl (by simp [qca]) (Nat.le_of_ble_eq_true rfl) ?_ rfl
 rw [List.map_cons,List.map_nil,run17,h,qbb]
 rfl
theorem bound_raw (hsh:qb3 B0 .cl (.fn 8 []) []=some (.bool true)) {v:PV} {xs:List PV} {l:List St} (hv:IsR 4 v xs) (hx:RawL RawS xs l) (hok:okV v=true) :
  qm2 (qk6 B0 fun _=>.cl) fn6 .cl qbe 0 ([v].map KV.cv) ()=some (.bool true,()):=by
 have hbl:=qfu
 have hf:=Qld l
 have hll:=hf.len
 rw [List.map_cons,List.map_nil,run6,hsh,qbb,few_run hv hx hok,qbb]
 generalize hL:fewL l=L at *
 rw [show ∀ A B:Option (PV×Unit),nilB (sl4 L) A B=B from fun _ _=>rfl]
 simp only [qvx,qf4,qx9]
 have hsl:slO 4 4 (svs L) 0 L.length=sl4 L:=by
  have:=qmr 4 (svs L)
  rwa [qx9] at this
 rw [hsl,means_lend hf,qbb,Qpb hf,qbb]
 simp only [qgk,qze,List.length_map,qqc,qbb,qd0,Qho]
 rw [show (((L.length:Nat):Int) != ((L.length:Nat):Int))=false by simp,qbm]
 rw [show qbs [sl4 L,.bool true,.sl 1 ((qfx L S0).map il) false,.sl 1 (qfl (qh8 L S0).texts) false,I 0,I 0]=true from rfl,qbg]
 exact Qfh hf L (j:=0) (s:=S0) (m:=0) rfl (Nat.zero_le _) rfl Qpd S0_tied (by unfold big;omega) rfl
end Go.Ab.Core


namespace Go.Ab.Core
open Go Go.Ab
theorem told_bound:Told fn6 [.slice Qhz]:=by
 rintro us ⟨x,_,rfl,hx,rfl⟩
 obtain ⟨xs,l,h1,h2,hok⟩:=Qpr hx
 exact ⟨by simp [qca,hok],Nat.le_of_ble_eq_true rfl,bound_raw Qh7 h1 h2 hok⟩
end Go.Ab.Core

