/-
  Part 24 of a proof: a machine of our own for the given program, its laws, and what it says of the program. Nothing here is a claim by itself.
-/
import Derived.Test.YtddfndlppfhcaaaGreatDoorK06
import Derived.Test.YtddfndlppfhcaaaGreatDoorK23
import Derived.Test.YtddfndlppfhcaaaGreatDoorRows
import Derived.ProofKit
import Derived.ChangeMaps5
import Derived.ChangeSame
import Derived.ChangeVars
import Derived.JoinedOf
import Derived.RowKit
import Derived.RowKitTokens
import Derived.LaidLaws
import Derived.LaidHandle
import Derived.Stop.Joined
import Derived.Carry
import Derived.Stop.LaidTwo
import Derived.Stop.LaidErr
import Derived.LaidSub
import Derived.Lib.LaidTab
import Derived.Shelf.Vars
import Derived.Handed
set_option linter.all false

namespace Go.Ab.DocNone
open Go Go.Ab
theorem shown_run:qke B0 .cl (.fn 4 []) []=some (.bool true):=by
 obtain⟨n,h⟩:=ev_shown
 exact call_eval (by decide) h rfl rfl
theorem told_none:Told fn3 [.int .i64,.int .i64,.str]:=by
 rintro us ⟨_,_,rfl,⟨x,rfl,_⟩,_,_,rfl,⟨y,rfl,_⟩,_,_,rfl,⟨s,rfl,_⟩,rfl⟩
 exact⟨rfl,Nat.le_of_ble_eq_true rfl,law_none shown_run _ _ s rfl rfl⟩
end Go.Ab.DocNone


namespace Go.Ab.DocNone
open Go Go.Ab Go.Proofs Go.Proofs.YtddfndlppfhcaaaGreatDoor Go.ChangeShapes Go.WideShapes Go.RowKit
theorem p_own:ownKnob Tryz.prog.godebug=none:=by kernel_rfl
theorem p_et:Tryz.prog.globalNamed "errors.errorType"=some 8:=by kernel_rfl
theorem p_p:Tryz.prog.globalNamed "internal/strconv.uint64pow10"=some 5:=by kernel_rfl
theorem p_pt:(Tryz.prog.globals[5]?).map (·.type)=some 230:=by kernel_rfl
theorem p_rt:(Tryz.prog.cutTypes.find? (·.1 == "internal/reflectlite.rtype")).map (·.2)=some 167:=by kernel_rfl
theorem p_oneRow:((List.range 378).filter fun t=>Tryz.prog.rowNamed t [101,114,114,111,114])=[81]:=by kernel_rfl
theorem p_size:Tryz.prog.types.size=378:=by kernel_rfl
theorem Qje:Tryz.prog.cellsOf 366=1:=by kernel_rfl
theorem Qjd:Tryz.prog.cellsOf 9=1:=by kernel_rfl
theorem p_star : "*" ++ "errors.errorString" = "*errors.errorString":=by decide
theorem qp5 (u:TypeId) (h:Tryz.prog.typeName? 3 u=some "*errors.errorString"):u=348 :=
 typeName_ptr_named (nm := "errors.errorString") (by rw[p_star];kernel_rfl) (by kernel_rfl) (by decide) u (by rw[p_star];exact h)
theorem qjs {W:World} {n:String} {g:Nat} {cs:Array Value} (hg:Tryz.prog.globalNamed n=some g) (h:W.var? Tryz.prog n=some cs):∃ E fr,W.heap[g]?=some (.cells cs E fr):=by
 unfold World.var? at h
 rw[hg] at h
 simp only[Option.bind_some] at h
 split at h
 ·rename_i cs' E fr hh
  cases h
  exact⟨E,fr,hh⟩
 ·cases h
theorem qj1 {W:World} {b:Nat} {o:Obj} (h:W.heap[b]?=some o):b < W.heap.size:=(Array.getElem?_eq_some_iff.1 h).1
theorem qq2 {P:Program} {n nm:String} {text:List UInt8} {r:List (String×DataW Unit)} {W:World} {g:Nat} {ti tp te ts:TypeId} {ms:Array (String×TypeId)} {f:Field}
  (h:laidMet P ((n,.iface nm (.ptr (.agg [.lit (.string text)]))) :: r) W)
  (hg:P.globalNamed n=some g) (ht:(P.globals[g]?).map (·.type)=some ti) (hi:P.underlying ti=some (.interface ms)) (hrow:∀ u,P.typeName? 3 u=some nm→u=tp)
  (hp:P.underlying tp=some (.pointer te)) (he:P.underlying te=some (.struct #[f])) (hft:f.type=ts) (hfo:f.offset=0) (hs:P.underlying ts=some .string) (hc:P.cellsOf te=1) (hcs:P.cellsOf ts=1) :
  ∃ (a:Addr) (c0:Array Value) (t0:TypeId),W.var? P n=some #[.iface tp (.pointer (some a))]∧W.heap[a.block]?=some (.cells c0 t0 (0,0)):=by
 obtain⟨ps,⟨g0,t0,cs0,f0,p0,q0,hg0,ht0,hv0,hd0,_,e0⟩,_,hrows⟩:=h
 obtain rfl:=Option.some.inj (hg.symm.trans hg0)
 obtain rfl:=Option.some.inj (ht.symm.trans ht0)
 subst e0
 obtain⟨l0⟩:=cs0
 have ok0:∀ u v,l0=[.iface u v]→Value.okWide P W .any 0 u v:=fun u v e=>by
  subst e
  exact (hrows g 0 (by simp[MemPlace.row])).2 u v (by simpa using World.var?_cell hg0 hv0 0)
 obtain⟨a0,s0,rfl,hc0,hs0,hz0,rfl⟩:=errorString_of_trod hi hrow hp he hft hfo hs hc hcs hd0 ok0
 obtain⟨c0,t0,hb0⟩:=(hrows a0.block a0.off (by simp[MemPlace.row])).1
 exact⟨a0,c0,t0,hv0,hb0⟩
theorem p_e0:Tryz.prog.globalNamed "diaeresis/group.errGroup"=some 3:=by kernel_rfl
theorem p_t0:(Tryz.prog.globals[3]?).map (·.type)=some 81:=by kernel_rfl
theorem p_e1:Tryz.prog.globalNamed "diaeresis/node.errNode"=some 9:=by kernel_rfl
theorem p_t1:(Tryz.prog.globals[9]?).map (·.type)=some 81:=by kernel_rfl
theorem p_e2:Tryz.prog.globalNamed "diaeresis/parse.errSyntax"=some 4:=by kernel_rfl
theorem p_t2:(Tryz.prog.globals[4]?).map (·.type)=some 81:=by kernel_rfl
theorem p_e3:Tryz.prog.globalNamed "diaeresis/relex.errRange"=some 0:=by kernel_rfl
theorem p_t3:(Tryz.prog.globals[0]?).map (·.type)=some 81:=by kernel_rfl
theorem p_e4:Tryz.prog.globalNamed "diaeresis/relex.errFull"=some 1:=by kernel_rfl
theorem p_t4:(Tryz.prog.globals[1]?).map (·.type)=some 81:=by kernel_rfl
set_option maxRecDepth 100000 in
theorem wd_of_laid {W:World} (hsh:W.ShapedOpen Tryz.prog) (h:laidMetH Tryz.prog Rows.documentNoneRow.laid W):cx0.Wd (fun b=>b < W.heap.size) W:=by
 have h':handlesMet Tryz.prog [("errors.errorType",Rows.laid_errors_errorType)] W:=h.2
 have hd:laidMet Tryz.prog [("math/bits.deBruijn32tab",Rows.laid_math_bits_deBruijn32tab),("math/bits.deBruijn64tab",Rows.laid_math_bits_deBruijn64tab),("internal/strconv.uint64pow10",Rows.laid_internal_strconv_uint64pow10),("unicode/utf8.acceptRanges",Rows.laid_unicode_utf8_acceptRanges),("diaeresis/group.errGroup",Rows.laid_diaeresis_group_errGroup),("diaeresis/node.errNode",Rows.laid_diaeresis_node_errNode),("diaeresis/parse.errSyntax",Rows.laid_diaeresis_parse_errSyntax),("diaeresis/relex.errRange",Rows.laid_diaeresis_relex_errRange),("diaeresis/relex.errFull",Rows.laid_diaeresis_relex_errFull),("unicode/utf8.first",Rows.laid_unicode_utf8_first)] W:=h.1
 have hs:=hd.filter fun x=>x.1 == "diaeresis/group.errGroup"||x.1 == "diaeresis/node.errNode"||x.1 == "diaeresis/parse.errSyntax"||x.1 == "diaeresis/relex.errRange"||x.1 == "diaeresis/relex.errFull"
 have hp:=hd.filter fun x=>x.1 == "internal/strconv.uint64pow10"
 have hs:laidMet Tryz.prog [("diaeresis/group.errGroup",Rows.laid_diaeresis_group_errGroup),("diaeresis/node.errNode",Rows.laid_diaeresis_node_errNode),("diaeresis/parse.errSyntax",Rows.laid_diaeresis_parse_errSyntax),("diaeresis/relex.errRange",Rows.laid_diaeresis_relex_errRange),("diaeresis/relex.errFull",Rows.laid_diaeresis_relex_errFull)] W:=hs
 have hp:laidMet Tryz.prog [("internal/strconv.uint64pow10",Lib.tabData .u64 Lib.pow10Tab)] W:=hp
 obtain⟨name,u,ty,e1,e2,e3,e4,e5⟩:=h' _ (List.mem_singleton.2 rfl)
 have en:name=[101,114,114,111,114]:=(Option.some.inj e1).symm
 subst en
 obtain rfl:=Option.some.inj (p_rt.symm.trans e2)
 have hm:ty∈(List.range 378).filter fun t=>Tryz.prog.rowNamed t [101,114,114,111,114]:=List.mem_filter.2 ⟨List.mem_range.2 (by rw[←p_size];exact e3),e4⟩
 rw[p_oneRow] at hm
 obtain rfl:=List.mem_singleton.1 hm
 have hh:typeHandle Tryz.prog 81=.pointer (some ⟨12,81,none⟩):=by kernel_rfl
 rw[hh] at e5
 have h0:W.cell? ⟨8,0,none⟩=some et0:=by simpa[et0] using World.var?_cell p_et e5 0
 have i0:8 < W.heap.size:=by
  rcases Nat.lt_or_ge 8 W.heap.size with h | h
  ·exact h
  ·simp[World.cell?,Array.getElem?_eq_none h] at h0
 have hpw:Lib.TabIs Tryz.prog W "internal/strconv.uint64pow10" .u64 Lib.pow10Tab:=Lib.tabIs_of_head p_p p_pt Tryz.underlying230 Tryz.underlying195 (by kernel_rfl) (by kernel_rfl) hp
 obtain⟨E3,f3,r3⟩:=qjs p_p hpw
 have hs0:=hd.filter fun x=>x.1 == "diaeresis/group.errGroup"
 have hs0:laidMet Tryz.prog [("diaeresis/group.errGroup",Rows.laid_diaeresis_group_errGroup)] W:=hs0
 obtain⟨a0,c0,t0,hv0,hb0⟩:=qq2 hs0 p_e0 p_t0 Tryz.underlying81 qp5 Tryz.underlying348 Tryz.underlying366 rfl rfl Tryz.underlying9 Qje Qjd
 obtain⟨E10,f10,r10⟩:=qjs p_e0 hv0
 have hs1:=hd.filter fun x=>x.1 == "diaeresis/node.errNode"
 have hs1:laidMet Tryz.prog [("diaeresis/node.errNode",Rows.laid_diaeresis_node_errNode)] W:=hs1
 obtain⟨a1,c1,t1,hv1,hb1⟩:=qq2 hs1 p_e1 p_t1 Tryz.underlying81 qp5 Tryz.underlying348 Tryz.underlying366 rfl rfl Tryz.underlying9 Qje Qjd
 obtain⟨E11,f11,r11⟩:=qjs p_e1 hv1
 have hs2:=hd.filter fun x=>x.1 == "diaeresis/parse.errSyntax"
 have hs2:laidMet Tryz.prog [("diaeresis/parse.errSyntax",Rows.laid_diaeresis_parse_errSyntax)] W:=hs2
 obtain⟨a2,c2,t2,hv2,hb2⟩:=qq2 hs2 p_e2 p_t2 Tryz.underlying81 qp5 Tryz.underlying348 Tryz.underlying366 rfl rfl Tryz.underlying9 Qje Qjd
 obtain⟨E12,f12,r12⟩:=qjs p_e2 hv2
 have hs3:=hd.filter fun x=>x.1 == "diaeresis/relex.errRange"
 have hs3:laidMet Tryz.prog [("diaeresis/relex.errRange",Rows.laid_diaeresis_relex_errRange)] W:=hs3
 obtain⟨a3,c3,t3,hv3,hb3⟩:=qq2 hs3 p_e3 p_t3 Tryz.underlying81 qp5 Tryz.underlying348 Tryz.underlying366 rfl rfl Tryz.underlying9 Qje Qjd
 obtain⟨E13,f13,r13⟩:=qjs p_e3 hv3
 have hs4:=hd.filter fun x=>x.1 == "diaeresis/relex.errFull"
 have hs4:laidMet Tryz.prog [("diaeresis/relex.errFull",Rows.laid_diaeresis_relex_errFull)] W:=hs4
 obtain⟨a4,c4,t4,hv4,hb4⟩:=qq2 hs4 p_e4 p_t4 Tryz.underlying81 qp5 Tryz.underlying348 Tryz.underlying366 rfl rfl Tryz.underlying9 Qje Qjd
 obtain⟨E14,f14,r14⟩:=qjs p_e4 hv4
 have ne01:a0≠a1:=by
  have hq:=hd.filter fun x=>x.1 == "diaeresis/group.errGroup"||x.1 == "diaeresis/node.errNode"
  have hq:laidMet Tryz.prog [("diaeresis/group.errGroup",Rows.laid_diaeresis_group_errGroup),("diaeresis/node.errNode",Rows.laid_diaeresis_node_errNode)] W:=hq
  obtain⟨b0,b1,_,_,_,_,_,_,hw0,hw1,_,_,_,_,_,_,hne,_,_⟩:=laid_sentinels2 hq p_e0 p_t0 p_e1 p_t1 Tryz.underlying81 qp5 Tryz.underlying348 Tryz.underlying366 rfl rfl Tryz.underlying9 Qje Qjd
  obtain rfl:a0=b0:=by simpa using hv0.symm.trans hw0
  obtain rfl:a1=b1:=by simpa using hv1.symm.trans hw1
  exact hne
 have ne02:a0≠a2:=by
  have hq:=hd.filter fun x=>x.1 == "diaeresis/group.errGroup"||x.1 == "diaeresis/parse.errSyntax"
  have hq:laidMet Tryz.prog [("diaeresis/group.errGroup",Rows.laid_diaeresis_group_errGroup),("diaeresis/parse.errSyntax",Rows.laid_diaeresis_parse_errSyntax)] W:=hq
  obtain⟨b0,b1,_,_,_,_,_,_,hw0,hw1,_,_,_,_,_,_,hne,_,_⟩:=laid_sentinels2 hq p_e0 p_t0 p_e2 p_t2 Tryz.underlying81 qp5 Tryz.underlying348 Tryz.underlying366 rfl rfl Tryz.underlying9 Qje Qjd
  obtain rfl:a0=b0:=by simpa using hv0.symm.trans hw0
  obtain rfl:a2=b1:=by simpa using hv2.symm.trans hw1
  exact hne
 have ne03:a0≠a3:=by
  have hq:=hd.filter fun x=>x.1 == "diaeresis/group.errGroup"||x.1 == "diaeresis/relex.errRange"
  have hq:laidMet Tryz.prog [("diaeresis/group.errGroup",Rows.laid_diaeresis_group_errGroup),("diaeresis/relex.errRange",Rows.laid_diaeresis_relex_errRange)] W:=hq
  obtain⟨b0,b1,_,_,_,_,_,_,hw0,hw1,_,_,_,_,_,_,hne,_,_⟩:=laid_sentinels2 hq p_e0 p_t0 p_e3 p_t3 Tryz.underlying81 qp5 Tryz.underlying348 Tryz.underlying366 rfl rfl Tryz.underlying9 Qje Qjd
  obtain rfl:a0=b0:=by simpa using hv0.symm.trans hw0
  obtain rfl:a3=b1:=by simpa using hv3.symm.trans hw1
  exact hne
 have ne04:a0≠a4:=by
  have hq:=hd.filter fun x=>x.1 == "diaeresis/group.errGroup"||x.1 == "diaeresis/relex.errFull"
  have hq:laidMet Tryz.prog [("diaeresis/group.errGroup",Rows.laid_diaeresis_group_errGroup),("diaeresis/relex.errFull",Rows.laid_diaeresis_relex_errFull)] W:=hq
  obtain⟨b0,b1,_,_,_,_,_,_,hw0,hw1,_,_,_,_,_,_,hne,_,_⟩:=laid_sentinels2 hq p_e0 p_t0 p_e4 p_t4 Tryz.underlying81 qp5 Tryz.underlying348 Tryz.underlying366 rfl rfl Tryz.underlying9 Qje Qjd
  obtain rfl:a0=b0:=by simpa using hv0.symm.trans hw0
  obtain rfl:a4=b1:=by simpa using hv4.symm.trans hw1
  exact hne
 have ne12:a1≠a2:=by
  have hq:=hd.filter fun x=>x.1 == "diaeresis/node.errNode"||x.1 == "diaeresis/parse.errSyntax"
  have hq:laidMet Tryz.prog [("diaeresis/node.errNode",Rows.laid_diaeresis_node_errNode),("diaeresis/parse.errSyntax",Rows.laid_diaeresis_parse_errSyntax)] W:=hq
  obtain⟨b0,b1,_,_,_,_,_,_,hw0,hw1,_,_,_,_,_,_,hne,_,_⟩:=laid_sentinels2 hq p_e1 p_t1 p_e2 p_t2 Tryz.underlying81 qp5 Tryz.underlying348 Tryz.underlying366 rfl rfl Tryz.underlying9 Qje Qjd
  obtain rfl:a1=b0:=by simpa using hv1.symm.trans hw0
  obtain rfl:a2=b1:=by simpa using hv2.symm.trans hw1
  exact hne
 have ne13:a1≠a3:=by
  have hq:=hd.filter fun x=>x.1 == "diaeresis/node.errNode"||x.1 == "diaeresis/relex.errRange"
  have hq:laidMet Tryz.prog [("diaeresis/node.errNode",Rows.laid_diaeresis_node_errNode),("diaeresis/relex.errRange",Rows.laid_diaeresis_relex_errRange)] W:=hq
  obtain⟨b0,b1,_,_,_,_,_,_,hw0,hw1,_,_,_,_,_,_,hne,_,_⟩:=laid_sentinels2 hq p_e1 p_t1 p_e3 p_t3 Tryz.underlying81 qp5 Tryz.underlying348 Tryz.underlying366 rfl rfl Tryz.underlying9 Qje Qjd
  obtain rfl:a1=b0:=by simpa using hv1.symm.trans hw0
  obtain rfl:a3=b1:=by simpa using hv3.symm.trans hw1
  exact hne
 have ne14:a1≠a4:=by
  have hq:=hd.filter fun x=>x.1 == "diaeresis/node.errNode"||x.1 == "diaeresis/relex.errFull"
  have hq:laidMet Tryz.prog [("diaeresis/node.errNode",Rows.laid_diaeresis_node_errNode),("diaeresis/relex.errFull",Rows.laid_diaeresis_relex_errFull)] W:=hq
  obtain⟨b0,b1,_,_,_,_,_,_,hw0,hw1,_,_,_,_,_,_,hne,_,_⟩:=laid_sentinels2 hq p_e1 p_t1 p_e4 p_t4 Tryz.underlying81 qp5 Tryz.underlying348 Tryz.underlying366 rfl rfl Tryz.underlying9 Qje Qjd
  obtain rfl:a1=b0:=by simpa using hv1.symm.trans hw0
  obtain rfl:a4=b1:=by simpa using hv4.symm.trans hw1
  exact hne
 have ne23:a2≠a3:=by
  have hq:=hd.filter fun x=>x.1 == "diaeresis/parse.errSyntax"||x.1 == "diaeresis/relex.errRange"
  have hq:laidMet Tryz.prog [("diaeresis/parse.errSyntax",Rows.laid_diaeresis_parse_errSyntax),("diaeresis/relex.errRange",Rows.laid_diaeresis_relex_errRange)] W:=hq
  obtain⟨b0,b1,_,_,_,_,_,_,hw0,hw1,_,_,_,_,_,_,hne,_,_⟩:=laid_sentinels2 hq p_e2 p_t2 p_e3 p_t3 Tryz.underlying81 qp5 Tryz.underlying348 Tryz.underlying366 rfl rfl Tryz.underlying9 Qje Qjd
  obtain rfl:a2=b0:=by simpa using hv2.symm.trans hw0
  obtain rfl:a3=b1:=by simpa using hv3.symm.trans hw1
  exact hne
 have ne24:a2≠a4:=by
  have hq:=hd.filter fun x=>x.1 == "diaeresis/parse.errSyntax"||x.1 == "diaeresis/relex.errFull"
  have hq:laidMet Tryz.prog [("diaeresis/parse.errSyntax",Rows.laid_diaeresis_parse_errSyntax),("diaeresis/relex.errFull",Rows.laid_diaeresis_relex_errFull)] W:=hq
  obtain⟨b0,b1,_,_,_,_,_,_,hw0,hw1,_,_,_,_,_,_,hne,_,_⟩:=laid_sentinels2 hq p_e2 p_t2 p_e4 p_t4 Tryz.underlying81 qp5 Tryz.underlying348 Tryz.underlying366 rfl rfl Tryz.underlying9 Qje Qjd
  obtain rfl:a2=b0:=by simpa using hv2.symm.trans hw0
  obtain rfl:a4=b1:=by simpa using hv4.symm.trans hw1
  exact hne
 have ne34:a3≠a4:=by
  have hq:=hd.filter fun x=>x.1 == "diaeresis/relex.errRange"||x.1 == "diaeresis/relex.errFull"
  have hq:laidMet Tryz.prog [("diaeresis/relex.errRange",Rows.laid_diaeresis_relex_errRange),("diaeresis/relex.errFull",Rows.laid_diaeresis_relex_errFull)] W:=hq
  obtain⟨b0,b1,_,_,_,_,_,_,hw0,hw1,_,_,_,_,_,_,hne,_,_⟩:=laid_sentinels2 hq p_e3 p_t3 p_e4 p_t4 Tryz.underlying81 qp5 Tryz.underlying348 Tryz.underlying366 rfl rfl Tryz.underlying9 Qje Qjd
  obtain rfl:a3=b0:=by simpa using hv3.symm.trans hw0
  obtain rfl:a4=b1:=by simpa using hv4.symm.trans hw1
  exact hne
 exact⟨⟨fun g=>if g=0 then a3 else if g=1 then a4 else if g=3 then a0 else if g=4 then a2 else a1,fun g hg=>by
   simp only[List.mem_cons,List.not_mem_nil,or_false] at hg
   rcases hg with rfl | rfl | rfl | rfl | rfl
   ·exact⟨qj1 r13,qj1 hb3,⟨E13,f13,r13⟩,c3,t3,hb3⟩
   ·exact⟨qj1 r14,qj1 hb4,⟨E14,f14,r14⟩,c4,t4,hb4⟩
   ·exact⟨qj1 r10,qj1 hb0,⟨E10,f10,r10⟩,c0,t0,hb0⟩
   ·exact⟨qj1 r12,qj1 hb2,⟨E12,f12,r12⟩,c2,t2,hb2⟩
   ·exact⟨qj1 r11,qj1 hb1,⟨E11,f11,r11⟩,c1,t1,hb1⟩,fun g hg g' hg' hn=>by
   simp only[List.mem_cons,List.not_mem_nil,or_false] at hg hg'
   rcases hg with rfl | rfl | rfl | rfl | rfl<;>rcases hg' with rfl | rfl | rfl | rfl | rfl
   ·exact absurd rfl hn
   ·exact ne34
   ·exact ne03.symm
   ·exact ne23.symm
   ·exact ne13.symm
   ·exact ne34.symm
   ·exact absurd rfl hn
   ·exact ne04.symm
   ·exact ne24.symm
   ·exact ne14.symm
   ·exact ne03
   ·exact ne04
   ·exact absurd rfl hn
   ·exact ne02
   ·exact ne01
   ·exact ne23
   ·exact ne24
   ·exact ne02.symm
   ·exact absurd rfl hn
   ·exact ne12.symm
   ·exact ne13
   ·exact ne14
   ·exact ne01.symm
   ·exact ne12
   ·exact absurd rfl hn⟩,fun p hp=>(by
  obtain rfl:=List.mem_singleton.1 hp
  exact⟨i0,h0⟩),fun p hp=>by
  obtain rfl:=List.mem_singleton.1 hp
  exact⟨qj1 r3,E3,f3,r3⟩,fun g hg=>by cases hg⟩
theorem qs9 {H:Type} {enc:TypeId×Value→H} {C:Checked} {os:Os} {f:FuncId} {fn:Func} {s:ChangeSpec} {conds:List PathCond} {apart fresh handsOn again:Bool} {X:World→Array Value→Prop}
  (hX:∀ (w w':World) (args:Array Value),w.heap=w'.heap→X w args→X w' args)
  (own:ownKnob C.prog.godebug=none) (started:os.Started) (noInit:C.prog.inits.idxOf? f=none) (hfn:C.prog.funcs[f]?=some fn)
  (witness:∃ (w:World) (tape:Tape) (i:Input),w.os=os∧(w.forCall tape i).Shaped C.prog∧i.vars=[]∧Input.okWide C.prog (w.forCall tape i) .any w.heap.size f i ∧
   ((s.pre enc C.prog fn conds apart (w.forCall tape i).memory i.args∧X (w.forCall tape i).memory i.args)∧sizedMet enc C.prog fn (OpenSpec.ofChange s) apart (w.forCall tape i).memory i.args)∧({}:Assume).holds C.prog (lone (Frame.enter C.prog f i.args .normal) [] (w.forCall tape i)))
  (contract:∀ (W:World) (base:Nat) (args:Array Value) (ds gs:List (DataW H)) (before:List MemPlace),
   (∀ (j:Nat) t v,fn.params[j]?=some t→args[j]?=some v→Value.okWide C.prog W .any base t v) →
   DataW.Whole enc C.prog fn.params.toList s.vars apart W args.toList ds gs before→X W args→W.ShapedOpen C.prog →
   Calls C.prog f args W fun e W'=>∃ v,e=.returned v∧s.post enc C.prog fn apart fresh handsOn again W args v W') :
  ReturnsInHanded {} C os f .any (fun w args=>(s.pre enc C.prog fn conds apart w args∧X w args)∧sizedMet enc C.prog fn (OpenSpec.ofChange s) apart w args) (s.post enc C.prog fn apart fresh handsOn again):=by
 refine returnsInHanded_of_calls own started noInit witness ?_
 intro w tape i _ hsh _ hok hpre _
 obtain⟨_,_,_,fn',hfn',_,_,_,_,hval⟩:=hok
 have e:fn'=fn:=Option.some.inj (hfn'.symm.trans hfn)
 subst e
 obtain⟨⟨⟨ds,gs,before,hw,hc⟩,hx⟩,hz⟩:=hpre
 have hw':=DataW.Whole.of_heap (w':=w.forCall tape i) (by rfl) hw
 refine (contract (w.forCall tape i) w.heap.size i.args ds gs before hval hw' (hX _ _ _ (by rfl) hx) hsh).mono fun e W' ⟨v,he,hp⟩=>?_
 subst he
 exact ChangeSpec.post_blind hp
mutual
def Qky:DataW Unit→List Value
 | .lit (.int k n)=>[.int k n]
 | .agg ds=>Qdw ds
 | _=>[]
def Qdw:List (DataW Unit)→List Value
 | []=>[]
 | d :: ds=>Qky d++Qdw ds
end
def Qdv:DataW Unit→ByteArray
 | .iface _ (.ptr (.agg [.lit (.string s)]))=>⟨s.toArray⟩
 | _=>⟨#[]⟩
def Qd9 (h:Array Obj) (i:Nat) (d:DataW Unit):Array Obj:=h.modify i fun
 | .cells _ t frozen=>.cells (Qky d).toArray t frozen
 | o=>o
def qsh (h:Array Obj) (i:Nat) (v:Value):Array Obj:=h.modify i fun
 | .cells _ t frozen=>.cells #[v] t frozen
 | o=>o
noncomputable def low:Nat:=(World.holding Tryz.prog default ⟨#[],#[],[]⟩).heap.size
noncomputable def Qfq (os:Os):World :=
 let w0:=World.holding Tryz.prog os ⟨#[.cells #[.string (Qdv Rows.laid_diaeresis_group_errGroup)] 366,.cells #[.string (Qdv Rows.laid_diaeresis_node_errNode)] 366,.cells #[.string (Qdv Rows.laid_diaeresis_parse_errSyntax)] 366,.cells #[.string (Qdv Rows.laid_diaeresis_relex_errRange)] 366,.cells #[.string (Qdv Rows.laid_diaeresis_relex_errFull)] 366],#[],[]⟩
 let h0:=qsh w0.heap 8 (.iface 167 (.agg #[.pointer (some ⟨12,81,none⟩)]))
 let h1:=qsh (qsh (qsh (qsh (qsh (h0) 3 (.iface 348 (.pointer (some ⟨low+0,0,none⟩)))) 9 (.iface 348 (.pointer (some ⟨low+1,0,none⟩)))) 4 (.iface 348 (.pointer (some ⟨low+2,0,none⟩)))) 0 (.iface 348 (.pointer (some ⟨low+3,0,none⟩)))) 1 (.iface 348 (.pointer (some ⟨low+4,0,none⟩)))
 {w0 with heap:=Qd9 (Qd9 (Qd9 (Qd9 (Qd9 (h1) 10 Rows.laid_math_bits_deBruijn32tab) 11 Rows.laid_math_bits_deBruijn64tab) 5 Rows.laid_internal_strconv_uint64pow10) 7 Rows.laid_unicode_utf8_acceptRanges) 6 Rows.laid_unicode_utf8_first}
theorem Qcj (os:Os) (args:Array Value):laidMetH Tryz.prog Rows.documentNoneRow.laid ((Qfq os).forCall (fun _ _=>0) ⟨#[],args,[]⟩).memory :=
 laidMetH_of_parts (laidMet_of_run' 8 (by kernel_rfl) (by kernel_rfl)) (by kernel_rfl)
set_option maxRecDepth 100000
theorem qb6 {a b:Bool} (ha:a=true) (hb:b=true):(a&&b)=true:=by rw[ha,hb];rfl
theorem jp_1:(laidOutB Tryz.prog)=true:=by kernel_rfl
theorem jp_2:(mapsRowed Tryz.prog)=true:=by kernel_rfl
theorem jp_6:((Tryz.prog.stops==[]))=true:=by kernel_rfl
theorem jp_8:((Tryz.prog.stopKnobs==[]))=true:=by kernel_rfl
theorem jp_24:(Tryz.prog.stopsHeard)=true:=by kernel_rfl
theorem jp_25:(Tryz.prog.mayEnter)=true:=by kernel_rfl
end Go.Ab.DocNone

