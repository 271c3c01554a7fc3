/-
  Part 18 of a proof: a machine of our own for the given program, its laws, and what it says of the program. Nothing here is a claim by itself.
-/
import Derived.Test.YtgoedlagdbgcbaaGreatDoorK06
import Derived.Test.YtgoedlagdbgcbaaGreatDoorK17
import Derived.Test.YtgoedlagdbgcbaaGreatDoorRows
import Derived.ProofKit
import Derived.ChangeMaps5
import Derived.ChangeSame
import Derived.ChangeVars
import Derived.JoinedOf
import Derived.RowKit
import Derived.RowKitTokens
import Derived.LaidLaws
import Derived.LaidHandle
import Derived.Stop.Joined
import Derived.Carry
import Derived.Stop.LaidTwo
import Derived.Stop.LaidErr
import Derived.LaidSub
import Derived.Lib.LaidTab
import Derived.Shelf.Vars
import Derived.Handed
set_option linter.all false

namespace Go.Ab.Core
open Go Go.Ab
def nodeD:DTy:=.struct [.int .i64,.str,.slice (.int .i64)]
def stmtD:DTy:=.struct [.int .i64,.slice (.struct [.int .i64,.str,.str]),.slice nodeD,.int .i64]
mutual
theorem qzh:∀ (D:DTy) (v:PV),Qmx D v→okV v=true
 | .bool,_,h=>by obtain⟨b,rfl⟩:=h;rfl
 | .int k,_,h=>by obtain⟨n,rfl,_⟩:=h;rfl
 | .str,_,h=>by obtain⟨s,rfl,_⟩:=h;rfl
 | .slice e,_,h=>by
  rcases h with rfl | ⟨xs,rfl,_,hx⟩
  ·rfl
  ·have:∀ l:List PV,(∀ x∈l,Qmx e x)→qb8 l=true:=fun l=>by
    induction l with
    | nil=>intro _;rfl
    | cons a l ih=>intro hl;simp only[qb8,qzh e a (hl a List.mem_cons_self),Bool.true_and];exact ih fun y hy=>hl y (List.mem_cons_of_mem _ hy)
   simp only[okV];exact this xs hx
 | .struct fs,_,h=>by
  obtain⟨vs,rfl,h⟩:=h
  simp only[okV]
  exact Qqz fs vs h
theorem Qqz:∀ (fs:List DTy) (vs:List PV),HasVs fs vs→qb8 (cellsL vs)=true
 | [],_,h=>by have h:_=[]:=h;subst h;rfl
 | D :: fs,_,h=>by
  obtain⟨v,r,rfl,h1,h2⟩:=h
  have a:=qzh D v h1
  have b:=Qqz fs r h2
  simp only[cellsL]
  refine qd4 ?_ b
  cases v<;>simp_all [PV.cells,qb8,okV]
end
theorem ints_of:∀ (xs:List PV),(∀ x∈xs,Qmx (.int .i64) x)→∃ l,xs=qgk l
 | [],_=>⟨[],rfl⟩
 | x :: xs,h=>by
  obtain⟨n,rfl,_⟩:=h x List.mem_cons_self
  obtain⟨l,rfl⟩:=ints_of xs fun y hy=>h y (List.mem_cons_of_mem _ hy)
  exact⟨n :: l,rfl⟩
theorem raw_of {α:Type} {R:PV→α→Prop} {D:DTy} (hD:∀ v,Qmx D v→∃ a,R v a):∀ (xs:List PV),(∀ x∈xs,Qmx D x)→∃ l,Qp4 R xs l
 | [],_=>⟨[],.nil⟩
 | x :: xs,h=>by
  obtain⟨a,ha⟩:=hD x (h x List.mem_cons_self)
  obtain⟨l,hl⟩:=raw_of hD xs fun y hy=>h y (List.mem_cons_of_mem _ hy)
  exact⟨a :: l,.cons ha hl⟩
theorem qsg {e:DTy} {v:PV} (h:Qmx (.slice e) v):v.cells=[v]∧v.isCell=true:=by
 rcases h with rfl | ⟨xs,rfl,_,_⟩<;>exact⟨rfl,rfl⟩
theorem node_of {v:PV} (h:Qmx nodeD v):∃ n,RawN v n:=by
 obtain⟨vs,rfl,_,_,rfl,⟨k,rfl,_⟩,_,_,rfl,⟨s,rfl,_⟩,x,_,rfl,hx,rfl⟩:=h
 have hc:=qsg hx
 have hok:=qzh _ _ hx
 have key:∃ l,IsR 1 x (qgk l):=by
  rcases hx with rfl | ⟨xs,rfl,_,hx⟩
  ·exact⟨[],.nil⟩
  ·obtain⟨l,rfl⟩:=ints_of xs hx
   exact⟨l,.sl _⟩
 obtain⟨l,hl⟩:=key
 refine⟨⟨k,s,l⟩,x,?_,hl,hok⟩
 rw[show cellsL [PV.int .i64 k,PV.str s,x]=[.int .i64 k,.str s,x] by simp only[cellsL,hc.1];rfl]
 rfl
theorem tree_of {v:PV} (h:Qmx (.slice nodeD) v):∃ t,RawT v t:=by
 have hok:=qzh _ _ h
 rcases h with rfl | ⟨xs,rfl,_,hx⟩
 ·exact⟨[],[],.nil,.nil,rfl⟩
 ·obtain⟨l,hl⟩:=raw_of (fun v=>node_of) xs hx
  exact⟨l,xs,.sl _,hl,hok⟩
theorem stmt_of {v:PV} (h:Qmx stmtD v):∃ s,RawS v s:=by
 obtain⟨vs,rfl,_,_,rfl,⟨k,rfl,_⟩,u,_,rfl,hu,x,_,rfl,hx,_,_,rfl,⟨e,rfl,_⟩,rfl⟩:=h
 have h1:=qsg hu
 have h2:=qsg hx
 obtain⟨t,ht⟩:=tree_of hx
 refine⟨⟨k,t,e⟩,u,x,?_,h1.2,ht⟩
 rw[show cellsL [PV.int .i64 k,u,x,PV.int .i64 e]=[.int .i64 k,u,x,.int .i64 e] by simp only[cellsL,h1.1,h2.1];rfl]
 rfl
theorem stmts_of {v:PV} (h:Qmx (.slice stmtD) v):∃ xs l,IsR 4 v xs∧Qp4 RawS xs l∧okV v=true:=by
 have hok:=qzh _ _ h
 rcases h with rfl | ⟨xs,rfl,_,hx⟩
 ·exact⟨[],[],.nil,.nil,rfl⟩
 ·obtain⟨l,hl⟩:=raw_of (fun v=>stmt_of) xs hx
  exact⟨xs,l,.sl _,hl,hok⟩
theorem shown_run:qb6 B0 .cl (.fn 8 []) []=some (.bool true):=by
 obtain⟨n,h⟩:=ev_shown
 exact Qmk (by decide) h rfl rfl
end Go.Ab.Core


namespace Go.Ab.Core
open Go Go.Ab
theorem told_bare:Told fn3 [.slice stmtD]:=by
 rintro us ⟨x,_,rfl,hx,rfl⟩
 obtain⟨xs,l,h1,h2,hok⟩:=stmts_of hx
 exact⟨by simp[qb8,hok],Nat.le_of_ble_eq_true rfl,Qp1 shown_run h1 h2 hok⟩
end Go.Ab.Core


namespace Go.Ab.Core
open Go Go.Ab Go.Proofs Go.Proofs.YtgoedlagdbgcbaaGreatDoor Go.ChangeShapes Go.WideShapes Go.RowKit
theorem p_own:ownKnob Tryz.prog.godebug=none:=by kernel_rfl
theorem p_p:Tryz.prog.globalNamed "internal/strconv.uint64pow10"=some 6:=by kernel_rfl
theorem p_pt:(Tryz.prog.globals[6]?).map (·.type)=some 294:=by kernel_rfl
theorem p_cS:Tryz.prog.cellsOf 425=1:=by kernel_rfl
theorem p_cs:Tryz.prog.cellsOf 9=1:=by kernel_rfl
theorem p_star : "*" ++ "errors.errorString" = "*errors.errorString":=by decide
theorem p_row (u:TypeId) (h:Tryz.prog.typeName? 3 u=some "*errors.errorString"):u=407 :=
 typeName_ptr_named (nm := "errors.errorString") (by rw[p_star];kernel_rfl) (by kernel_rfl) (by decide) u (by rw[p_star];exact h)
theorem p_e0:Tryz.prog.globalNamed "diaeresis/node.errNode"=some 1:=by kernel_rfl
theorem p_t0:(Tryz.prog.globals[1]?).map (·.type)=some 67:=by kernel_rfl
theorem Qde {W:World} {n:String} {g:Nat} {cs:Array Value} (hg:Tryz.prog.globalNamed n=some g) (h:W.var? Tryz.prog n=some cs):∃ E fr,W.heap[g]?=some (.cells cs E fr):=by
 unfold World.var? at h
 rw[hg] at h
 simp only[Option.bind_some] at h
 split at h
 ·rename_i cs' E fr hh
  cases h
  exact⟨E,fr,hh⟩
 ·cases h
theorem Qpb {W:World} {b:Nat} {o:Obj} (h:W.heap[b]?=some o):b < W.heap.size:=(Array.getElem?_eq_some_iff.1 h).1
theorem laid_one {P:Program} {n nm:String} {text:List UInt8} {r:List (String×DataW Unit)} {W:World} {g:Nat} {ti tp te ts:TypeId} {ms:Array (String×TypeId)} {f:Field}
  (h:laidMet P ((n,.iface nm (.ptr (.agg [.lit (.string text)]))) :: r) W)
  (hg:P.globalNamed n=some g) (ht:(P.globals[g]?).map (·.type)=some ti) (hi:P.underlying ti=some (.interface ms)) (hrow:∀ u,P.typeName? 3 u=some nm→u=tp)
  (hp:P.underlying tp=some (.pointer te)) (he:P.underlying te=some (.struct #[f])) (hft:f.type=ts) (hfo:f.offset=0) (hs:P.underlying ts=some .string) (hc:P.cellsOf te=1) (hcs:P.cellsOf ts=1) :
  ∃ (a:Addr) (c0:Array Value) (t0:TypeId),W.var? P n=some #[.iface tp (.pointer (some a))]∧W.heap[a.block]?=some (.cells c0 t0 (0,0)):=by
 obtain⟨ps,⟨g0,t0,cs0,f0,p0,q0,hg0,ht0,hv0,hd0,_,e0⟩,_,hrows⟩:=h
 obtain rfl:=Option.some.inj (hg.symm.trans hg0)
 obtain rfl:=Option.some.inj (ht.symm.trans ht0)
 subst e0
 obtain⟨l0⟩:=cs0
 have ok0:∀ u v,l0=[.iface u v]→Value.okWide P W .any 0 u v:=fun u v e=>by
  subst e
  exact (hrows g 0 (by simp[MemPlace.row])).2 u v (by simpa using World.var?_cell hg0 hv0 0)
 obtain⟨a0,s0,rfl,hc0,hs0,hz0,rfl⟩:=errorString_of_trod hi hrow hp he hft hfo hs hc hcs hd0 ok0
 obtain⟨c0,t0,hb0⟩:=(hrows a0.block a0.off (by simp[MemPlace.row])).1
 exact⟨a0,c0,t0,hv0,hb0⟩
set_option maxRecDepth 100000 in
theorem wd_of_laid {W:World} (hsh:W.ShapedOpen Tryz.prog) (h:laidMetH Tryz.prog Rows.coreBareRow.laid W):cx0.Wd (fun b=>b < W.heap.size) W:=by
 have hd:laidMet Tryz.prog [("math/bits.deBruijn32tab",Rows.laid_math_bits_deBruijn32tab),("math/bits.deBruijn64tab",Rows.laid_math_bits_deBruijn64tab),("internal/strconv.uint64pow10",Rows.laid_internal_strconv_uint64pow10),("diaeresis/node.errNode",Rows.laid_diaeresis_node_errNode)] W:=h
 have hs:=hd.filter fun x=>x.1 == "diaeresis/node.errNode"
 have hp:=hd.filter fun x=>x.1 == "internal/strconv.uint64pow10"
 have hs:laidMet Tryz.prog [("diaeresis/node.errNode",Rows.laid_diaeresis_node_errNode)] W:=hs
 have hp:laidMet Tryz.prog [("internal/strconv.uint64pow10",Lib.tabData .u64 Lib.pow10Tab)] W:=hp
 have hpw:Lib.TabIs Tryz.prog W "internal/strconv.uint64pow10" .u64 Lib.pow10Tab:=Lib.tabIs_of_head p_p p_pt Tryz.underlying294 Tryz.underlying263 (by kernel_rfl) (by kernel_rfl) hp
 obtain⟨E3,f3,r3⟩:=Qde p_p hpw
 obtain⟨a0,c0,t0,hv0,hb0⟩:=laid_one hs p_e0 p_t0 Tryz.underlying67 p_row Tryz.underlying407 Tryz.underlying425 rfl rfl Tryz.underlying9 p_cS p_cs
 obtain⟨E1,f1,r1⟩:=Qde p_e0 hv0
 exact⟨⟨fun _=>a0,fun g hg=>by
   obtain rfl:=List.mem_singleton.1 hg
   exact⟨Qpb r1,Qpb hb0,⟨E1,f1,r1⟩,c0,t0,hb0⟩,fun g hg g' hg' hn=>by
   obtain rfl:=List.mem_singleton.1 hg
   obtain rfl:=List.mem_singleton.1 hg'
   exact absurd rfl hn⟩,fun p hp=>(by cases hp),fun p hp=>by
  obtain rfl:=List.mem_singleton.1 hp
  exact⟨Qpb r3,E3,f3,r3⟩,fun g hg=>by cases hg⟩
theorem qwz {H:Type} {enc:TypeId×Value→H} {C:Checked} {os:Os} {f:FuncId} {fn:Func} {s:ChangeSpec} {conds:List PathCond} {apart fresh handsOn again:Bool} {X:World→Array Value→Prop}
  (hX:∀ (w w':World) (args:Array Value),w.heap=w'.heap→X w args→X w' args)
  (own:ownKnob C.prog.godebug=none) (started:os.Started) (noInit:C.prog.inits.idxOf? f=none) (hfn:C.prog.funcs[f]?=some fn)
  (witness:∃ (w:World) (tape:Tape) (i:Input),w.os=os∧(w.forCall tape i).Shaped C.prog∧i.vars=[]∧Input.okWide C.prog (w.forCall tape i) .any w.heap.size f i ∧
   ((s.pre enc C.prog fn conds apart (w.forCall tape i).memory i.args∧X (w.forCall tape i).memory i.args)∧sizedMet enc C.prog fn (OpenSpec.ofChange s) apart (w.forCall tape i).memory i.args)∧({}:Assume).holds C.prog (lone (Frame.enter C.prog f i.args .normal) [] (w.forCall tape i)))
  (contract:∀ (W:World) (base:Nat) (args:Array Value) (ds gs:List (DataW H)) (before:List MemPlace),
   (∀ (j:Nat) t v,fn.params[j]?=some t→args[j]?=some v→Value.okWide C.prog W .any base t v) →
   DataW.Whole enc C.prog fn.params.toList s.vars apart W args.toList ds gs before→X W args→W.ShapedOpen C.prog →
   Calls C.prog f args W fun e W'=>∃ v,e=.returned v∧s.post enc C.prog fn apart fresh handsOn again W args v W') :
  ReturnsInHanded {} C os f .any (fun w args=>(s.pre enc C.prog fn conds apart w args∧X w args)∧sizedMet enc C.prog fn (OpenSpec.ofChange s) apart w args) (s.post enc C.prog fn apart fresh handsOn again):=by
 refine returnsInHanded_of_calls own started noInit witness ?_
 intro w tape i _ hsh _ hok hpre _
 obtain⟨_,_,_,fn',hfn',_,_,_,_,hval⟩:=hok
 have e:fn'=fn:=Option.some.inj (hfn'.symm.trans hfn)
 subst e
 obtain⟨⟨⟨ds,gs,before,hw,hc⟩,hx⟩,hz⟩:=hpre
 have hw':=DataW.Whole.of_heap (w':=w.forCall tape i) (by rfl) hw
 refine (contract (w.forCall tape i) w.heap.size i.args ds gs before hval hw' (hX _ _ _ (by rfl) hx) hsh).mono fun e W' ⟨v,he,hp⟩=>?_
 subst he
 exact ChangeSpec.post_blind hp
mutual
def Qqe:DataW Unit→List Value
 | .lit (.int k n)=>[.int k n]
 | .agg ds=>Qji ds
 | _=>[]
def Qji:List (DataW Unit)→List Value
 | []=>[]
 | d :: ds=>Qqe d++Qji ds
end
def textOf:DataW Unit→ByteArray
 | .iface _ (.ptr (.agg [.lit (.string s)]))=>⟨s.toArray⟩
 | _=>⟨#[]⟩
def putTab (h:Array Obj) (i:Nat) (d:DataW Unit):Array Obj:=h.modify i fun
 | .cells _ t frozen=>.cells (Qqe d).toArray t frozen
 | o=>o
def putCell (h:Array Obj) (i:Nat) (v:Value):Array Obj:=h.modify i fun
 | .cells _ t frozen=>.cells #[v] t frozen
 | o=>o
noncomputable def low:Nat:=(World.holding Tryz.prog default ⟨#[],#[],[]⟩).heap.size
noncomputable def Qkp (os:Os):World :=
 let w0:=World.holding Tryz.prog os ⟨#[.cells #[.string (textOf Rows.laid_diaeresis_node_errNode)] 425],#[],[]⟩
 {w0 with heap:=putTab (putTab (putTab (putCell w0.heap 1 (.iface 407 (.pointer (some ⟨low+0,0,none⟩)))) 10 Rows.laid_math_bits_deBruijn32tab) 11 Rows.laid_math_bits_deBruijn64tab) 6 Rows.laid_internal_strconv_uint64pow10}
theorem Qg2 (os:Os) (args:Array Value):laidMetH Tryz.prog Rows.coreBareRow.laid ((Qkp os).forCall (fun _ _=>0) ⟨#[],args,[]⟩).memory :=
 (laidMet_of_run' 8 (by kernel_rfl) (by kernel_rfl):laidMet Tryz.prog [("math/bits.deBruijn32tab",Rows.laid_math_bits_deBruijn32tab),("math/bits.deBruijn64tab",Rows.laid_math_bits_deBruijn64tab),("internal/strconv.uint64pow10",Rows.laid_internal_strconv_uint64pow10),("diaeresis/node.errNode",Rows.laid_diaeresis_node_errNode)] _)
set_option maxRecDepth 100000
theorem qcm {a b:Bool} (ha:a=true) (hb:b=true):(a&&b)=true:=by rw[ha,hb];rfl
theorem jp_1:(laidOutB Tryz.prog)=true:=by kernel_rfl
theorem jp_2:(mapsRowed Tryz.prog)=true:=by kernel_rfl
theorem jp_6:((Tryz.prog.stops==[]))=true:=by kernel_rfl
theorem jp_8:((Tryz.prog.stopKnobs==[]))=true:=by kernel_rfl
theorem jp_24:(Tryz.prog.stopsHeard)=true:=by kernel_rfl
theorem jp_25:(Tryz.prog.mayEnter)=true:=by kernel_rfl
end Go.Ab.Core

