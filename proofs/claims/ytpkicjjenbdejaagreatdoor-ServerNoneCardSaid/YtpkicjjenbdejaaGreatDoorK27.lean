/- Part 27 of a proof: laws of a machine. -/
import Derived.Test.YtpkicjjenbdejaaGreatDoorK24
import Derived.Test.YtpkicjjenbdejaaGreatDoorK25
import Derived.Test.YtpkicjjenbdejaaGreatDoorK26
import Derived.Test.YtpkicjjenbdejaaGreatDoorRows
import Derived.ProofKit
import Derived.ChangeMaps5
import Derived.ChangeSame
import Derived.ChangeVars
import Derived.JoinedOf
import Derived.RowKit
import Derived.RowKitTokens
import Derived.LaidLaws
import Derived.LaidHandle
import Derived.Stop.Joined
import Derived.Carry
import Derived.Stop.LaidTwo
import Derived.Stop.LaidErr
import Derived.LaidSub
import Derived.Lib.LaidTab
import Derived.Shelf.Vars
import Derived.Handed
set_option linter.all false

namespace Go.Ab.fC
open Go Go.Ab Go.Proofs Go.Proofs.YtpkicjjenbdejaaGreatDoor Go.ChangeShapes Go.WideShapes Go.RowKit
variable{zzd:Type} {C:Checked} {P:eX} {W:eS} {X:eS->Array eT->Prop} {b g:Nat} {conds:List PathCond} {cs:Array eT} {f:Field} {fn:Func} {ms:Array (String×eY)} {n:String} {os:Os} {r:List (String×DataW Unit)} {s:ChangeSpec} {text:fp} {enc:eY×eT->zzd}
theorem p_own:ownKnob Tryz.prog.godebug=none:=by kernel_rfl
theorem p_et:Tryz.prog.globalNamed "errors.errorType"=some 3:=by kernel_rfl
theorem p_p:Tryz.prog.globalNamed "internal/strconv.uint64pow10"=some 4:=by kernel_rfl
theorem p_pt:(Tryz.prog.globals[4]?).map (·.type)=some 233:=by kernel_rfl
theorem p_rt:(Tryz.prog.cutTypes.find? (·.1 == "internal/reflectlite.rtype")).map (·.2)=some 139:=by kernel_rfl
theorem zB:((List.range 774).filter fun t=>Tryz.prog.rowNamed t [101,114,114,111,114])=[37]:=by kernel_rfl
theorem zC:Tryz.prog.types.size=774:=by kernel_rfl
theorem FX:Tryz.prog.cellsOf 491=1:=by kernel_rfl
theorem FW:Tryz.prog.cellsOf 9=1:=by kernel_rfl
theorem zD : "*" ++ "errors.errorString" = "*errors.errorString":=by decide
theorem Hl {a b:Bool} (ha:a=true) (hb:b=true):(a&&b)=true:=by rw[ha,hb];rfl
set_option maxRecDepth 100000 in
theorem p_rl:List.range Tryz.prog.types.size=List.range' 0 130++(List.range' 130 130++(List.range' 260 130++(List.range' 390 130++(List.range' 520 130++(List.range' 650 124))))):=by rw[zC];kernel_rfl
set_option maxRecDepth 100000 in
theorem FH (u:eY) (h:Tryz.prog.typeName? 3 u=some "*errors.errorString"):u=489 :=
 typeName_ptr_named (nm:= "errors.errorString") (by
  rw[zD,p_rl];simp only[cA];exact Hl pr_0 (Hl pr_1 (Hl pr_2 (Hl pr_3 (Hl pr_4 pr_5))))) (by
  rw[p_rl];simp only[cA];exact Hl pn_0 (Hl pn_1 (Hl pn_2 (Hl pn_3 (Hl pn_4 pn_5))))) (by decide) u (by rw[zD];exact h)
theorem Fw (hg:Tryz.prog.globalNamed n=some g) (h:W.var? Tryz.prog n=some cs):∃ E fr,W.heap[g]?=some (.cells cs E fr):=by unfold World.var? at h;rw[hg] at h;simp only[dc] at h;split at h;{rename_i jn E fr hh;cases h;exact⟨E,fr,hh⟩};{cases h}
theorem Cw {o:Obj} (h:W.heap[b]?=some o):b < W.heap.size:=(dL.1 h).1
theorem Ga {J:String} {ti tp te ts:eY} 
  (h:laidMet P ((n,.iface J (.ptr (.agg [.lit (.string text)]))) :: r) W)
  (hg:P.globalNamed n=some g) (ht:(P.globals[g]?).map (·.type)=some ti) (hi:P.underlying ti=some (.interface ms)) (nk:∀ u,P.typeName? 3 u=some J->u=tp)
  (hp:P.underlying tp=some (.pointer te)) (he:P.underlying te=some (.struct #[f])) (hft:f.type=ts) (oL:f.offset=0) (hs:P.underlying ts=some .string) (hc:P.cellsOf te=1) (iZ:P.cellsOf ts=1) :
  ∃ (a:Addr) (c0:Array eT) (t0:eY),W.var? P n=some #[.iface tp (.pointer (some a))]/\W.heap[a.block]?=some (.cells c0 t0 (0,0)):=by
 obtain⟨ps,⟨g0,t0,cs0,f0,p0,q0,hg0,ht0,pn,Ft,_,e0⟩,_,hrows⟩:=h;obtain rfl:=bw (hg.symm.trans hg0);obtain rfl:=bw (ht.symm.trans ht0);subst e0;obtain⟨l0⟩:=cs0;have ok0:∀ u v,l0=[.iface u v]->Value.okWide P W .any 0 u v:=fun u v e=>by subst e;exact (hrows g 0 (by simp[MemPlace.row])).2 u v (by simpa using World.var?_cell hg0 pn 0)
 obtain⟨a0,s0,rfl,hc0,lZ,hz0,rfl⟩:=errorString_of_trod hi nk hp he hft oL hs hc iZ Ft ok0;obtain⟨c0,t0,hb0⟩:=(hrows a0.block a0.off (by simp[MemPlace.row])).1;exact⟨a0,c0,t0,pn,hb0⟩
theorem AY {n0 n1:String} {x0 x1:fp} {g0 g1:Nat} {a0 a1:Addr} (h:laidMet Tryz.prog ((n0,.iface "*errors.errorString" (.ptr (.agg [.lit (.string x0)]))) :: (n1,.iface "*errors.errorString" (.ptr (.agg [.lit (.string x1)]))) :: r) W)
  (e0:Tryz.prog.globalNamed n0=some g0) (y0:(Tryz.prog.globals[g0]?).map (·.type)=some 37) (e1:Tryz.prog.globalNamed n1=some g1) (y1:(Tryz.prog.globals[g1]?).map (·.type)=some 37) (v0:W.var? Tryz.prog n0=some #[.iface 489 (.pointer (some a0))]) (v1:W.var? Tryz.prog n1=some #[.iface 489 (.pointer (some a1))]):a0≠a1:=by
 obtain⟨b0,b1,_,_,_,_,_,_,w0,w1,_,_,_,_,_,_,gj,_,_⟩:=laid_sentinels2 h e0 y0 e1 y1 Tryz.underlying37 FH Tryz.underlying489 Tryz.underlying491 rfl rfl Tryz.underlying9 FX FW;obtain rfl:a0=b0:=by simpa using v0.symm.trans w0
 obtain rfl:a1=b1:=by simpa using v1.symm.trans w1
 exact gj
abbrev k0:String×DataW Unit:=("diaeresis/json.errJson",Rows.laid_diaeresis_json_errJson)
abbrev k1:String×DataW Unit:=("strconv.ErrSyntax",Rows.laid_strconv_ErrSyntax)
abbrev k2:String×DataW Unit:=("diaeresis/server.errAsked",Rows.laid_diaeresis_server_errAsked)
abbrev k3:String×DataW Unit:=("diaeresis/buffer.errFull",Rows.laid_diaeresis_buffer_errFull)
abbrev k4:String×DataW Unit:=("diaeresis/relex.errFull",Rows.laid_diaeresis_relex_errFull)
abbrev k5:String×DataW Unit:=("diaeresis/group.errGroup",Rows.laid_diaeresis_group_errGroup)
abbrev k6:String×DataW Unit:=("diaeresis/parse.errSyntax",Rows.laid_diaeresis_parse_errSyntax)
abbrev k7:String×DataW Unit:=("diaeresis/node.errNode",Rows.laid_diaeresis_node_errNode)
abbrev k8:String×DataW Unit:=("diaeresis/eval.errNone",Rows.laid_diaeresis_eval_errNone)
abbrev k9:String×DataW Unit:=("diaeresis/number.errOver",Rows.laid_diaeresis_number_errOver)
abbrev C6:String×DataW Unit:=("diaeresis/number.errDivide",Rows.laid_diaeresis_number_errDivide)
abbrev C5:String×DataW Unit:=("diaeresis/frame.errFrame",Rows.laid_diaeresis_frame_errFrame)
theorem FV:Tryz.prog.globalNamed "diaeresis/json.errJson"=some 2:=by kernel_rfl
theorem GB:(Tryz.prog.globals[2]?).map (·.type)=some 37:=by kernel_rfl
theorem FU:Tryz.prog.globalNamed "strconv.ErrSyntax"=some 13:=by kernel_rfl
theorem GA:(Tryz.prog.globals[13]?).map (·.type)=some 37:=by kernel_rfl
theorem FT:Tryz.prog.globalNamed "diaeresis/server.errAsked"=some 1:=by kernel_rfl
theorem Gz:(Tryz.prog.globals[1]?).map (·.type)=some 37:=by kernel_rfl
theorem FS:Tryz.prog.globalNamed "diaeresis/buffer.errFull"=some 5:=by kernel_rfl
theorem Gy:(Tryz.prog.globals[5]?).map (·.type)=some 37:=by kernel_rfl
theorem FR:Tryz.prog.globalNamed "diaeresis/relex.errFull"=some 10:=by kernel_rfl
theorem Gx:(Tryz.prog.globals[10]?).map (·.type)=some 37:=by kernel_rfl
theorem FQ:Tryz.prog.globalNamed "diaeresis/group.errGroup"=some 15:=by kernel_rfl
theorem Gw:(Tryz.prog.globals[15]?).map (·.type)=some 37:=by kernel_rfl
theorem FP:Tryz.prog.globalNamed "diaeresis/parse.errSyntax"=some 20:=by kernel_rfl
theorem Gv:(Tryz.prog.globals[20]?).map (·.type)=some 37:=by kernel_rfl
theorem FO:Tryz.prog.globalNamed "diaeresis/node.errNode"=some 19:=by kernel_rfl
theorem Gu:(Tryz.prog.globals[19]?).map (·.type)=some 37:=by kernel_rfl
theorem FN:Tryz.prog.globalNamed "diaeresis/eval.errNone"=some 18:=by kernel_rfl
theorem Gt:(Tryz.prog.globals[18]?).map (·.type)=some 37:=by kernel_rfl
theorem FM:Tryz.prog.globalNamed "diaeresis/number.errOver"=some 21:=by kernel_rfl
theorem Gs:(Tryz.prog.globals[21]?).map (·.type)=some 37:=by kernel_rfl
theorem FJ:Tryz.prog.globalNamed "diaeresis/number.errDivide"=some 22:=by kernel_rfl
theorem Gm:(Tryz.prog.globals[22]?).map (·.type)=some 37:=by kernel_rfl
theorem FI:Tryz.prog.globalNamed "diaeresis/frame.errFrame"=some 0:=by kernel_rfl
theorem Gl:(Tryz.prog.globals[0]?).map (·.type)=some 37:=by kernel_rfl
set_option maxRecDepth 100000 in
theorem Z0 (iR:W.ShapedOpen Tryz.prog) (h:laidMetH Tryz.prog Rows.serverNoneRow.laid W):cx0.Wd (fun b=>b < W.heap.size) W:=by
 have h':handlesMet Tryz.prog [("errors.errorType",Rows.laid_errors_errorType)] W:=h.2;have hd:laidMet Tryz.prog [("unicode/utf8.first",Rows.laid_unicode_utf8_first),("unicode/utf8.acceptRanges",Rows.laid_unicode_utf8_acceptRanges),("diaeresis/json.errJson",Rows.laid_diaeresis_json_errJson),("strconv.ErrSyntax",Rows.laid_strconv_ErrSyntax),("strconv.ErrRange",Rows.laid_strconv_ErrRange),("internal/strconv.uint64pow10",Rows.laid_internal_strconv_uint64pow10),("math/bits.deBruijn32tab",Rows.laid_math_bits_deBruijn32tab),("math/bits.deBruijn64tab",Rows.laid_math_bits_deBruijn64tab),("diaeresis/server.errAsked",Rows.laid_diaeresis_server_errAsked),("diaeresis/buffer.errFull",Rows.laid_diaeresis_buffer_errFull),("diaeresis/buffer.errRange",Rows.laid_diaeresis_buffer_errRange),("diaeresis/relex.errFull",Rows.laid_diaeresis_relex_errFull),("diaeresis/relex.errRange",Rows.laid_diaeresis_relex_errRange),("diaeresis/group.errGroup",Rows.laid_diaeresis_group_errGroup),("diaeresis/parse.errSyntax",Rows.laid_diaeresis_parse_errSyntax),("diaeresis/node.errNode",Rows.laid_diaeresis_node_errNode),("diaeresis/edit.errEdit",Rows.laid_diaeresis_edit_errEdit),("diaeresis/eval.errNone",Rows.laid_diaeresis_eval_errNone),("diaeresis/number.errOver",Rows.laid_diaeresis_number_errOver),("diaeresis/number.errDivide",Rows.laid_diaeresis_number_errDivide),("diaeresis/frame.errFrame",Rows.laid_diaeresis_frame_errFrame)] W:=h.1;have hs:=hd.filter fun x=>x.1 == "diaeresis/json.errJson"||x.1 == "strconv.ErrSyntax"||x.1 == "diaeresis/server.errAsked"||x.1 == "diaeresis/buffer.errFull"||x.1 == "diaeresis/relex.errFull"||x.1 == "diaeresis/group.errGroup"||x.1 == "diaeresis/parse.errSyntax"||x.1 == "diaeresis/node.errNode"||x.1 == "diaeresis/eval.errNone"||x.1 == "diaeresis/number.errOver"||x.1 == "diaeresis/number.errDivide"||x.1 == "diaeresis/frame.errFrame"
 have hp:=hd.filter fun x=>x.1 == "internal/strconv.uint64pow10";have hs:laidMet Tryz.prog [("diaeresis/json.errJson",Rows.laid_diaeresis_json_errJson),("strconv.ErrSyntax",Rows.laid_strconv_ErrSyntax),("diaeresis/server.errAsked",Rows.laid_diaeresis_server_errAsked),("diaeresis/buffer.errFull",Rows.laid_diaeresis_buffer_errFull),("diaeresis/relex.errFull",Rows.laid_diaeresis_relex_errFull),("diaeresis/group.errGroup",Rows.laid_diaeresis_group_errGroup),("diaeresis/parse.errSyntax",Rows.laid_diaeresis_parse_errSyntax),("diaeresis/node.errNode",Rows.laid_diaeresis_node_errNode),("diaeresis/eval.errNone",Rows.laid_diaeresis_eval_errNone),("diaeresis/number.errOver",Rows.laid_diaeresis_number_errOver),("diaeresis/number.errDivide",Rows.laid_diaeresis_number_errDivide),("diaeresis/frame.errFrame",Rows.laid_diaeresis_frame_errFrame)] W:=hs;have hp:laidMet Tryz.prog [("internal/strconv.uint64pow10",Lib.tabData .u64 Lib.pow10Tab)] W:=hp;obtain⟨name,u,ty,e1,e2,e3,e4,e5⟩:=h' _ (cc.2 rfl);have en:name=[101,114,114,111,114]:=(bw e1).symm;subst en;obtain rfl:=bw (p_rt.symm.trans e2);have hm:ty∈(List.range 774).filter fun t=>Tryz.prog.rowNamed t [101,114,114,111,114]:=cE.2 ⟨cV.2 (by rw[<-zC];exact e3),e4⟩;rw[zB] at hm;obtain rfl:=cc.1 hm;have hh:typeHandle Tryz.prog 37=.pointer (some ⟨23,37,none⟩):=by kernel_rfl
 rw[hh] at e5;have h0:W.cell? ⟨3,0,none⟩=some et0:=by simpa[et0] using World.var?_cell p_et e5 0
 have i0:3 < W.heap.size:=by rcases cZ 3 W.heap.size with h | h;{exact h};{simp[World.cell?,dx h] at h0}
 have hpw:Lib.TabIs Tryz.prog W "internal/strconv.uint64pow10" .u64 Lib.pow10Tab:=Lib.tabIs_of_head p_p p_pt Tryz.underlying233 Tryz.underlying150 (by kernel_rfl) (by kernel_rfl) hp;obtain⟨E3,f3,r3⟩:=Fw p_p hpw;have lZ:=hd.filter fun x=>x.1 == "diaeresis/json.errJson";have lZ:laidMet Tryz.prog [("diaeresis/json.errJson",Rows.laid_diaeresis_json_errJson)] W:=lZ;obtain⟨a0,c0,t0,pn,hb0⟩:=Ga lZ FV GB Tryz.underlying37 FH Tryz.underlying489 Tryz.underlying491 rfl rfl Tryz.underlying9 FX FW;obtain⟨E10,f10,r10⟩:=Fw FV pn;have jU:=hd.filter fun x=>x.1 == "strconv.ErrSyntax";have jU:laidMet Tryz.prog [("strconv.ErrSyntax",Rows.laid_strconv_ErrSyntax)] W:=jU;obtain⟨a1,c1,t1,py,hb1⟩:=Ga jU FU GA Tryz.underlying37 FH Tryz.underlying489 Tryz.underlying491 rfl rfl Tryz.underlying9 FX FW;obtain⟨E11,f11,r11⟩:=Fw FU py;have jV:=hd.filter fun x=>x.1 == "diaeresis/server.errAsked";have jV:laidMet Tryz.prog [("diaeresis/server.errAsked",Rows.laid_diaeresis_server_errAsked)] W:=jV;obtain⟨a2,c2,t2,kD,pR⟩:=Ga jV FT Gz Tryz.underlying37 FH Tryz.underlying489 Tryz.underlying491 rfl rfl Tryz.underlying9 FX FW;obtain⟨E12,f12,r12⟩:=Fw FT kD;have uo:=hd.filter fun x=>x.1 == "diaeresis/buffer.errFull";have uo:laidMet Tryz.prog [("diaeresis/buffer.errFull",Rows.laid_diaeresis_buffer_errFull)] W:=uo;obtain⟨a3,c3,t3,sP,hb3⟩:=Ga uo FS Gy Tryz.underlying37 FH Tryz.underlying489 Tryz.underlying491 rfl rfl Tryz.underlying9 FX FW;obtain⟨E13,f13,r13⟩:=Fw FS sP;have hs4:=hd.filter fun x=>x.1 == "diaeresis/relex.errFull";have hs4:laidMet Tryz.prog [("diaeresis/relex.errFull",Rows.laid_diaeresis_relex_errFull)] W:=hs4;obtain⟨a4,c4,t4,sQ,hb4⟩:=Ga hs4 FR Gx Tryz.underlying37 FH Tryz.underlying489 Tryz.underlying491 rfl rfl Tryz.underlying9 FX FW;obtain⟨E14,f14,r14⟩:=Fw FR sQ;have hs5:=hd.filter fun x=>x.1 == "diaeresis/group.errGroup";have hs5:laidMet Tryz.prog [("diaeresis/group.errGroup",Rows.laid_diaeresis_group_errGroup)] W:=hs5;obtain⟨a5,c5,t5,sR,hb5⟩:=Ga hs5 FQ Gw Tryz.underlying37 FH Tryz.underlying489 Tryz.underlying491 rfl rfl Tryz.underlying9 FX FW;obtain⟨E15,f15,r15⟩:=Fw FQ sR;have hs6:=hd.filter fun x=>x.1 == "diaeresis/parse.errSyntax";have hs6:laidMet Tryz.prog [("diaeresis/parse.errSyntax",Rows.laid_diaeresis_parse_errSyntax)] W:=hs6;obtain⟨a6,c6,t6,sS,hb6⟩:=Ga hs6 FP Gv Tryz.underlying37 FH Tryz.underlying489 Tryz.underlying491 rfl rfl Tryz.underlying9 FX FW;obtain⟨E16,f16,r16⟩:=Fw FP sS;have hs7:=hd.filter fun x=>x.1 == "diaeresis/node.errNode";have hs7:laidMet Tryz.prog [("diaeresis/node.errNode",Rows.laid_diaeresis_node_errNode)] W:=hs7;obtain⟨a7,c7,t7,sT,hb7⟩:=Ga hs7 FO Gu Tryz.underlying37 FH Tryz.underlying489 Tryz.underlying491 rfl rfl Tryz.underlying9 FX FW;obtain⟨E17,f17,r17⟩:=Fw FO sT;have hs8:=hd.filter fun x=>x.1 == "diaeresis/eval.errNone";have hs8:laidMet Tryz.prog [("diaeresis/eval.errNone",Rows.laid_diaeresis_eval_errNone)] W:=hs8;obtain⟨a8,c8,t8,sU,hb8⟩:=Ga hs8 FN Gt Tryz.underlying37 FH Tryz.underlying489 Tryz.underlying491 rfl rfl Tryz.underlying9 FX FW;obtain⟨E18,f18,r18⟩:=Fw FN sU;have hs9:=hd.filter fun x=>x.1 == "diaeresis/number.errOver";have hs9:laidMet Tryz.prog [("diaeresis/number.errOver",Rows.laid_diaeresis_number_errOver)] W:=hs9;obtain⟨a9,c9,t9,sV,hb9⟩:=Ga hs9 FM Gs Tryz.underlying37 FH Tryz.underlying489 Tryz.underlying491 rfl rfl Tryz.underlying9 FX FW;obtain⟨E19,f19,r19⟩:=Fw FM sV;have hs10:=hd.filter fun x=>x.1 == "diaeresis/number.errDivide";have hs10:laidMet Tryz.prog [("diaeresis/number.errDivide",Rows.laid_diaeresis_number_errDivide)] W:=hs10;obtain⟨a10,c10,t10,l4,hb10⟩:=Ga hs10 FJ Gm Tryz.underlying37 FH Tryz.underlying489 Tryz.underlying491 rfl rfl Tryz.underlying9 FX FW;obtain⟨E110,f110,r110⟩:=Fw FJ l4;have hs11:=hd.filter fun x=>x.1 == "diaeresis/frame.errFrame";have hs11:laidMet Tryz.prog [("diaeresis/frame.errFrame",Rows.laid_diaeresis_frame_errFrame)] W:=hs11;obtain⟨a11,c11,t11,l5,hb11⟩:=Ga hs11 FI Gl Tryz.underlying37 FH Tryz.underlying489 Tryz.underlying491 rfl rfl Tryz.underlying9 FX FW;obtain⟨E111,f111,r111⟩:=Fw FI l5;have ne0_1:=AY (show laidMet Tryz.prog [k0,k1] W from hd.filter fun x=>x.1==k0.1||x.1==k1.1) FV GB FU GA pn py
 have ne0_2:=AY (show laidMet Tryz.prog [k0,k2] W from hd.filter fun x=>x.1==k0.1||x.1==k2.1) FV GB FT Gz pn kD;have ne0_3:=AY (show laidMet Tryz.prog [k0,k3] W from hd.filter fun x=>x.1==k0.1||x.1==k3.1) FV GB FS Gy pn sP;have ne0_4:=AY (show laidMet Tryz.prog [k0,k4] W from hd.filter fun x=>x.1==k0.1||x.1==k4.1) FV GB FR Gx pn sQ;have ne0_5:=AY (show laidMet Tryz.prog [k0,k5] W from hd.filter fun x=>x.1==k0.1||x.1==k5.1) FV GB FQ Gw pn sR;have ne0_6:=AY (show laidMet Tryz.prog [k0,k6] W from hd.filter fun x=>x.1==k0.1||x.1==k6.1) FV GB FP Gv pn sS;have ne0_7:=AY (show laidMet Tryz.prog [k0,k7] W from hd.filter fun x=>x.1==k0.1||x.1==k7.1) FV GB FO Gu pn sT;have ne0_8:=AY (show laidMet Tryz.prog [k0,k8] W from hd.filter fun x=>x.1==k0.1||x.1==k8.1) FV GB FN Gt pn sU;have ne0_9:=AY (show laidMet Tryz.prog [k0,k9] W from hd.filter fun x=>x.1==k0.1||x.1==k9.1) FV GB FM Gs pn sV;have zE:=AY (show laidMet Tryz.prog [k0,C6] W from hd.filter fun x=>x.1==k0.1||x.1==C6.1) FV GB FJ Gm pn l4;have zF:=AY (show laidMet Tryz.prog [k0,C5] W from hd.filter fun x=>x.1==k0.1||x.1==C5.1) FV GB FI Gl pn l5;have ne1_2:=AY (show laidMet Tryz.prog [k1,k2] W from hd.filter fun x=>x.1==k1.1||x.1==k2.1) FU GA FT Gz py kD;have ne1_3:=AY (show laidMet Tryz.prog [k1,k3] W from hd.filter fun x=>x.1==k1.1||x.1==k3.1) FU GA FS Gy py sP;have ne1_4:=AY (show laidMet Tryz.prog [k1,k4] W from hd.filter fun x=>x.1==k1.1||x.1==k4.1) FU GA FR Gx py sQ;have ne1_5:=AY (show laidMet Tryz.prog [k1,k5] W from hd.filter fun x=>x.1==k1.1||x.1==k5.1) FU GA FQ Gw py sR;have ne1_6:=AY (show laidMet Tryz.prog [k1,k6] W from hd.filter fun x=>x.1==k1.1||x.1==k6.1) FU GA FP Gv py sS;have ne1_7:=AY (show laidMet Tryz.prog [k1,k7] W from hd.filter fun x=>x.1==k1.1||x.1==k7.1) FU GA FO Gu py sT;have ne1_8:=AY (show laidMet Tryz.prog [k1,k8] W from hd.filter fun x=>x.1==k1.1||x.1==k8.1) FU GA FN Gt py sU;have ne1_9:=AY (show laidMet Tryz.prog [k1,k9] W from hd.filter fun x=>x.1==k1.1||x.1==k9.1) FU GA FM Gs py sV;have zG:=AY (show laidMet Tryz.prog [k1,C6] W from hd.filter fun x=>x.1==k1.1||x.1==C6.1) FU GA FJ Gm py l4;have zH:=AY (show laidMet Tryz.prog [k1,C5] W from hd.filter fun x=>x.1==k1.1||x.1==C5.1) FU GA FI Gl py l5;have ne2_3:=AY (show laidMet Tryz.prog [k2,k3] W from hd.filter fun x=>x.1==k2.1||x.1==k3.1) FT Gz FS Gy kD sP;have ne2_4:=AY (show laidMet Tryz.prog [k2,k4] W from hd.filter fun x=>x.1==k2.1||x.1==k4.1) FT Gz FR Gx kD sQ;have ne2_5:=AY (show laidMet Tryz.prog [k2,k5] W from hd.filter fun x=>x.1==k2.1||x.1==k5.1) FT Gz FQ Gw kD sR;have ne2_6:=AY (show laidMet Tryz.prog [k2,k6] W from hd.filter fun x=>x.1==k2.1||x.1==k6.1) FT Gz FP Gv kD sS;have ne2_7:=AY (show laidMet Tryz.prog [k2,k7] W from hd.filter fun x=>x.1==k2.1||x.1==k7.1) FT Gz FO Gu kD sT;have ne2_8:=AY (show laidMet Tryz.prog [k2,k8] W from hd.filter fun x=>x.1==k2.1||x.1==k8.1) FT Gz FN Gt kD sU;have ne2_9:=AY (show laidMet Tryz.prog [k2,k9] W from hd.filter fun x=>x.1==k2.1||x.1==k9.1) FT Gz FM Gs kD sV;have zI:=AY (show laidMet Tryz.prog [k2,C6] W from hd.filter fun x=>x.1==k2.1||x.1==C6.1) FT Gz FJ Gm kD l4;have zJ:=AY (show laidMet Tryz.prog [k2,C5] W from hd.filter fun x=>x.1==k2.1||x.1==C5.1) FT Gz FI Gl kD l5;have ne3_4:=AY (show laidMet Tryz.prog [k3,k4] W from hd.filter fun x=>x.1==k3.1||x.1==k4.1) FS Gy FR Gx sP sQ;have ne3_5:=AY (show laidMet Tryz.prog [k3,k5] W from hd.filter fun x=>x.1==k3.1||x.1==k5.1) FS Gy FQ Gw sP sR;have ne3_6:=AY (show laidMet Tryz.prog [k3,k6] W from hd.filter fun x=>x.1==k3.1||x.1==k6.1) FS Gy FP Gv sP sS;have ne3_7:=AY (show laidMet Tryz.prog [k3,k7] W from hd.filter fun x=>x.1==k3.1||x.1==k7.1) FS Gy FO Gu sP sT;have ne3_8:=AY (show laidMet Tryz.prog [k3,k8] W from hd.filter fun x=>x.1==k3.1||x.1==k8.1) FS Gy FN Gt sP sU;have ne3_9:=AY (show laidMet Tryz.prog [k3,k9] W from hd.filter fun x=>x.1==k3.1||x.1==k9.1) FS Gy FM Gs sP sV;have zK:=AY (show laidMet Tryz.prog [k3,C6] W from hd.filter fun x=>x.1==k3.1||x.1==C6.1) FS Gy FJ Gm sP l4;have zL:=AY (show laidMet Tryz.prog [k3,C5] W from hd.filter fun x=>x.1==k3.1||x.1==C5.1) FS Gy FI Gl sP l5;have ne4_5:=AY (show laidMet Tryz.prog [k4,k5] W from hd.filter fun x=>x.1==k4.1||x.1==k5.1) FR Gx FQ Gw sQ sR;have ne4_6:=AY (show laidMet Tryz.prog [k4,k6] W from hd.filter fun x=>x.1==k4.1||x.1==k6.1) FR Gx FP Gv sQ sS;have ne4_7:=AY (show laidMet Tryz.prog [k4,k7] W from hd.filter fun x=>x.1==k4.1||x.1==k7.1) FR Gx FO Gu sQ sT;have ne4_8:=AY (show laidMet Tryz.prog [k4,k8] W from hd.filter fun x=>x.1==k4.1||x.1==k8.1) FR Gx FN Gt sQ sU;have ne4_9:=AY (show laidMet Tryz.prog [k4,k9] W from hd.filter fun x=>x.1==k4.1||x.1==k9.1) FR Gx FM Gs sQ sV;have zM:=AY (show laidMet Tryz.prog [k4,C6] W from hd.filter fun x=>x.1==k4.1||x.1==C6.1) FR Gx FJ Gm sQ l4;have zN:=AY (show laidMet Tryz.prog [k4,C5] W from hd.filter fun x=>x.1==k4.1||x.1==C5.1) FR Gx FI Gl sQ l5;have ne5_6:=AY (show laidMet Tryz.prog [k5,k6] W from hd.filter fun x=>x.1==k5.1||x.1==k6.1) FQ Gw FP Gv sR sS;have ne5_7:=AY (show laidMet Tryz.prog [k5,k7] W from hd.filter fun x=>x.1==k5.1||x.1==k7.1) FQ Gw FO Gu sR sT;have ne5_8:=AY (show laidMet Tryz.prog [k5,k8] W from hd.filter fun x=>x.1==k5.1||x.1==k8.1) FQ Gw FN Gt sR sU;have ne5_9:=AY (show laidMet Tryz.prog [k5,k9] W from hd.filter fun x=>x.1==k5.1||x.1==k9.1) FQ Gw FM Gs sR sV;have zO:=AY (show laidMet Tryz.prog [k5,C6] W from hd.filter fun x=>x.1==k5.1||x.1==C6.1) FQ Gw FJ Gm sR l4;have zP:=AY (show laidMet Tryz.prog [k5,C5] W from hd.filter fun x=>x.1==k5.1||x.1==C5.1) FQ Gw FI Gl sR l5;have ne6_7:=AY (show laidMet Tryz.prog [k6,k7] W from hd.filter fun x=>x.1==k6.1||x.1==k7.1) FP Gv FO Gu sS sT;have ne6_8:=AY (show laidMet Tryz.prog [k6,k8] W from hd.filter fun x=>x.1==k6.1||x.1==k8.1) FP Gv FN Gt sS sU;have ne6_9:=AY (show laidMet Tryz.prog [k6,k9] W from hd.filter fun x=>x.1==k6.1||x.1==k9.1) FP Gv FM Gs sS sV;have zQ:=AY (show laidMet Tryz.prog [k6,C6] W from hd.filter fun x=>x.1==k6.1||x.1==C6.1) FP Gv FJ Gm sS l4;have zR:=AY (show laidMet Tryz.prog [k6,C5] W from hd.filter fun x=>x.1==k6.1||x.1==C5.1) FP Gv FI Gl sS l5;have ne7_8:=AY (show laidMet Tryz.prog [k7,k8] W from hd.filter fun x=>x.1==k7.1||x.1==k8.1) FO Gu FN Gt sT sU;have ne7_9:=AY (show laidMet Tryz.prog [k7,k9] W from hd.filter fun x=>x.1==k7.1||x.1==k9.1) FO Gu FM Gs sT sV;have zS:=AY (show laidMet Tryz.prog [k7,C6] W from hd.filter fun x=>x.1==k7.1||x.1==C6.1) FO Gu FJ Gm sT l4;have zT:=AY (show laidMet Tryz.prog [k7,C5] W from hd.filter fun x=>x.1==k7.1||x.1==C5.1) FO Gu FI Gl sT l5;have ne8_9:=AY (show laidMet Tryz.prog [k8,k9] W from hd.filter fun x=>x.1==k8.1||x.1==k9.1) FN Gt FM Gs sU sV;have zU:=AY (show laidMet Tryz.prog [k8,C6] W from hd.filter fun x=>x.1==k8.1||x.1==C6.1) FN Gt FJ Gm sU l4;have zV:=AY (show laidMet Tryz.prog [k8,C5] W from hd.filter fun x=>x.1==k8.1||x.1==C5.1) FN Gt FI Gl sU l5;have zW:=AY (show laidMet Tryz.prog [k9,C6] W from hd.filter fun x=>x.1==k9.1||x.1==C6.1) FM Gs FJ Gm sV l4;have zX:=AY (show laidMet Tryz.prog [k9,C5] W from hd.filter fun x=>x.1==k9.1||x.1==C5.1) FM Gs FI Gl sV l5;have pP:=AY (show laidMet Tryz.prog [C6,C5] W from hd.filter fun x=>x.1==C6.1||x.1==C5.1) FJ Gm FI Gl l4 l5;have sF:∃ m,W.cell? ⟨17,0,none⟩=some (.int .i64 m):=cell_of_shapedOpen_int iR (g:=17) (t:=3) (zero:=#[.int .i64 0]) (eR (by kernel_rfl)) (by kernel_rfl) rfl (by kernel_rfl) (by kernel_rfl) Tryz.underlying3
 exact⟨⟨fun g=>if g=0 then a11 else if g=1 then a2 else if g=2 then a0 else if g=5 then a3 else if g=10 then a4 else if g=13 then a1 else if g=15 then a5 else if g=18 then a8 else if g=19 then a7 else if g=20 then a6 else if g=21 then a9 else a10,fun g hg=>by
   simp only[bE,eC,or_false] at hg;rcases hg with rfl | rfl | rfl | rfl | rfl | rfl | rfl | rfl | rfl | rfl | rfl | rfl;·exact⟨Cw r111,Cw hb11,⟨E111,f111,r111⟩,c11,t11,hb11⟩
   ·exact⟨Cw r12,Cw pR,⟨E12,f12,r12⟩,c2,t2,pR⟩
   ·exact⟨Cw r10,Cw hb0,⟨E10,f10,r10⟩,c0,t0,hb0⟩
   ·exact⟨Cw r13,Cw hb3,⟨E13,f13,r13⟩,c3,t3,hb3⟩
   ·exact⟨Cw r14,Cw hb4,⟨E14,f14,r14⟩,c4,t4,hb4⟩
   ·exact⟨Cw r11,Cw hb1,⟨E11,f11,r11⟩,c1,t1,hb1⟩
   ·exact⟨Cw r15,Cw hb5,⟨E15,f15,r15⟩,c5,t5,hb5⟩
   ·exact⟨Cw r18,Cw hb8,⟨E18,f18,r18⟩,c8,t8,hb8⟩
   ·exact⟨Cw r17,Cw hb7,⟨E17,f17,r17⟩,c7,t7,hb7⟩
   ·exact⟨Cw r16,Cw hb6,⟨E16,f16,r16⟩,c6,t6,hb6⟩
   ·exact⟨Cw r19,Cw hb9,⟨E19,f19,r19⟩,c9,t9,hb9⟩
   ·exact⟨Cw r110,Cw hb10,⟨E110,f110,r110⟩,c10,t10,hb10⟩,fun g hg g' sL hn=>by
   simp only[bE,eC,or_false] at hg sL;rcases hg with rfl | rfl | rfl | rfl | rfl | rfl | rfl | rfl | rfl | rfl | rfl | rfl<;>rcases sL with rfl | rfl | rfl | rfl | rfl | rfl | rfl | rfl | rfl | rfl | rfl | rfl;·exact eQ rfl hn
   ·exact zJ.symm
   ·exact zF.symm
   ·exact zL.symm
   ·exact zN.symm
   ·exact zH.symm
   ·exact zP.symm
   ·exact zV.symm
   ·exact zT.symm
   ·exact zR.symm
   ·exact zX.symm
   ·exact pP.symm
   ·exact zJ
   ·exact eQ rfl hn
   ·exact ne0_2.symm
   ·exact ne2_3
   ·exact ne2_4
   ·exact ne1_2.symm
   ·exact ne2_5
   ·exact ne2_8
   ·exact ne2_7
   ·exact ne2_6
   ·exact ne2_9
   ·exact zI
   ·exact zF
   ·exact ne0_2
   ·exact eQ rfl hn
   ·exact ne0_3
   ·exact ne0_4
   ·exact ne0_1
   ·exact ne0_5
   ·exact ne0_8
   ·exact ne0_7
   ·exact ne0_6
   ·exact ne0_9
   ·exact zE
   ·exact zL
   ·exact ne2_3.symm
   ·exact ne0_3.symm
   ·exact eQ rfl hn
   ·exact ne3_4
   ·exact ne1_3.symm
   ·exact ne3_5
   ·exact ne3_8
   ·exact ne3_7
   ·exact ne3_6
   ·exact ne3_9
   ·exact zK
   ·exact zN
   ·exact ne2_4.symm
   ·exact ne0_4.symm
   ·exact ne3_4.symm
   ·exact eQ rfl hn
   ·exact ne1_4.symm
   ·exact ne4_5
   ·exact ne4_8
   ·exact ne4_7
   ·exact ne4_6
   ·exact ne4_9
   ·exact zM
   ·exact zH
   ·exact ne1_2
   ·exact ne0_1.symm
   ·exact ne1_3
   ·exact ne1_4
   ·exact eQ rfl hn
   ·exact ne1_5
   ·exact ne1_8
   ·exact ne1_7
   ·exact ne1_6
   ·exact ne1_9
   ·exact zG
   ·exact zP
   ·exact ne2_5.symm
   ·exact ne0_5.symm
   ·exact ne3_5.symm
   ·exact ne4_5.symm
   ·exact ne1_5.symm
   ·exact eQ rfl hn
   ·exact ne5_8
   ·exact ne5_7
   ·exact ne5_6
   ·exact ne5_9
   ·exact zO
   ·exact zV
   ·exact ne2_8.symm
   ·exact ne0_8.symm
   ·exact ne3_8.symm
   ·exact ne4_8.symm
   ·exact ne1_8.symm
   ·exact ne5_8.symm
   ·exact eQ rfl hn
   ·exact ne7_8.symm
   ·exact ne6_8.symm
   ·exact ne8_9
   ·exact zU
   ·exact zT
   ·exact ne2_7.symm
   ·exact ne0_7.symm
   ·exact ne3_7.symm
   ·exact ne4_7.symm
   ·exact ne1_7.symm
   ·exact ne5_7.symm
   ·exact ne7_8
   ·exact eQ rfl hn
   ·exact ne6_7.symm
   ·exact ne7_9
   ·exact zS
   ·exact zR
   ·exact ne2_6.symm
   ·exact ne0_6.symm
   ·exact ne3_6.symm
   ·exact ne4_6.symm
   ·exact ne1_6.symm
   ·exact ne5_6.symm
   ·exact ne6_8
   ·exact ne6_7
   ·exact eQ rfl hn
   ·exact ne6_9
   ·exact zQ
   ·exact zX
   ·exact ne2_9.symm
   ·exact ne0_9.symm
   ·exact ne3_9.symm
   ·exact ne4_9.symm
   ·exact ne1_9.symm
   ·exact ne5_9.symm
   ·exact ne8_9.symm
   ·exact ne7_9.symm
   ·exact ne6_9.symm
   ·exact eQ rfl hn
   ·exact zW
   ·exact pP
   ·exact zI.symm
   ·exact zE.symm
   ·exact zK.symm
   ·exact zM.symm
   ·exact zG.symm
   ·exact zO.symm
   ·exact zU.symm
   ·exact zS.symm
   ·exact zQ.symm
   ·exact zW.symm
   ·exact eQ rfl hn⟩,fun p hp=>(by
  obtain rfl:=cc.1 hp;exact⟨i0,h0⟩),fun p hp=>by
  obtain rfl:=cc.1 hp;exact⟨Cw r3,E3,f3,r3⟩,fun g hg=>by
  obtain rfl:=cc.1 hg;refine⟨?_,sF⟩;obtain⟨m,hm⟩:=sF;rcases cZ 17 W.heap.size with h | h;·exact h
  ·simp[World.cell?,dx h] at hm⟩
theorem YO {f:eU} {apart fresh handsOn again:Bool} 
  (hX:∀ (w w':eS) (args:Array eT),w.heap=w'.heap->X w args->X w' args)
  (own:ownKnob C.prog.godebug=none) (started:os.Started) (noInit:C.prog.inits.idxOf? f=none) (kV:C.prog.funcs[f]?=some fn)
  (witness:∃ (w:eS) (tape:Tape) (i:Input),w.os=os/\(w.forCall tape i).Shaped C.prog/\i.vars=[]/\Input.okWide C.prog (w.forCall tape i) .any w.heap.size f i /\
   ((s.pre enc C.prog fn conds apart (w.forCall tape i).memory i.args/\X (w.forCall tape i).memory i.args)/\sizedMet enc C.prog fn (OpenSpec.ofChange s) apart (w.forCall tape i).memory i.args)/\({}:Assume).holds C.prog (lone (Frame.enter C.prog f i.args .normal) [] (w.forCall tape i)))
  (zY:∀ (W:eS) (base:Nat) (args:Array eT) (ds gs:List (DataW zzd)) (before:List MemPlace),
   (∀ (j:Nat) t v,fn.params[j]?=some t->args[j]?=some v->Value.okWide C.prog W .any base t v) ->
   DataW.Whole enc C.prog fn.params.toList s.vars apart W args.toList ds gs before->X W args->W.ShapedOpen C.prog ->
   Calls C.prog f args W fun e W'=>∃ v,e=.returned v/\s.post enc C.prog fn apart fresh handsOn again W args v W') :
  ReturnsInHanded {} C os f .any (fun w args=>(s.pre enc C.prog fn conds apart w args/\X w args)/\sizedMet enc C.prog fn (OpenSpec.ofChange s) apart w args) (s.post enc C.prog fn apart fresh handsOn again):=by
 refine returnsInHanded_of_calls own started noInit witness ?_;intro w tape i _ iR _ jx hpre _;obtain⟨_,_,_,fn',hfn',_,_,_,_,kz⟩:=jx;have e:fn'=fn:=bw (hfn'.symm.trans kV);subst e;obtain⟨⟨⟨ds,gs,before,hw,hc⟩,H⟩,hz⟩:=hpre;have hw':=DataW.Whole.of_heap (w':=w.forCall tape i) (by rfl) hw;refine (zY (w.forCall tape i) w.heap.size i.args ds gs before kz hw' (hX _ _ _ (by rfl) H) iR).mono fun e W' ⟨v,he,hp⟩=>?_;subst he;exact ChangeSpec.post_blind hp
mutual
def W7:DataW Unit->List eT
 | .lit (.int k n)=>[.int k n]
 | .agg ds=>V4 ds
 | _=>[]
def V4:List (DataW Unit)->List eT
 | []=>[]
 | d :: ds=>W7 d++V4 ds
end
def Eu:DataW Unit->ByteArray
 | .iface _ (.ptr (.agg [.lit (.string s)]))=>⟨s.toArray⟩
 | _=>⟨#[]⟩
def Nu (h:Array Obj) (i:Nat) (d:DataW Unit):Array Obj:=h.modify i fun
 | .cells _ t frozen=>.cells (W7 d).toArray t frozen
 | o=>o
def Eb (h:Array Obj) (i:Nat) (v:eT):Array Obj:=h.modify i fun
 | .cells _ t frozen=>.cells #[v] t frozen
 | o=>o
noncomputable def EF:Nat:=(World.holding Tryz.prog default ⟨#[],#[],[]⟩).heap.size
noncomputable def Ww (os:Os):eS :=
 let w0:=World.holding Tryz.prog os ⟨#[.cells #[.string (Eu Rows.laid_diaeresis_json_errJson)] 491,.cells #[.string (Eu Rows.laid_strconv_ErrSyntax)] 491,.cells #[.string (Eu Rows.laid_strconv_ErrRange)] 491,.cells #[.string (Eu Rows.laid_diaeresis_server_errAsked)] 491,.cells #[.string (Eu Rows.laid_diaeresis_buffer_errFull)] 491,.cells #[.string (Eu Rows.laid_diaeresis_buffer_errRange)] 491,.cells #[.string (Eu Rows.laid_diaeresis_relex_errFull)] 491,.cells #[.string (Eu Rows.laid_diaeresis_relex_errRange)] 491,.cells #[.string (Eu Rows.laid_diaeresis_group_errGroup)] 491,.cells #[.string (Eu Rows.laid_diaeresis_parse_errSyntax)] 491,.cells #[.string (Eu Rows.laid_diaeresis_node_errNode)] 491,.cells #[.string (Eu Rows.laid_diaeresis_edit_errEdit)] 491,.cells #[.string (Eu Rows.laid_diaeresis_eval_errNone)] 491,.cells #[.string (Eu Rows.laid_diaeresis_number_errOver)] 491,.cells #[.string (Eu Rows.laid_diaeresis_number_errDivide)] 491,.cells #[.string (Eu Rows.laid_diaeresis_frame_errFrame)] 491],#[],[]⟩
 let h0:=Eb w0.heap 3 (.iface 139 (.agg #[.pointer (some ⟨23,37,none⟩)]))
 let U:=Eb (Eb (Eb (Eb (Eb (Eb (Eb (Eb (Eb (Eb (Eb (Eb (Eb (Eb (Eb (Eb (h0) 2 (.iface 489 (.pointer (some ⟨EF+0,0,none⟩)))) 13 (.iface 489 (.pointer (some ⟨EF+1,0,none⟩)))) 14 (.iface 489 (.pointer (some ⟨EF+2,0,none⟩)))) 1 (.iface 489 (.pointer (some ⟨EF+3,0,none⟩)))) 5 (.iface 489 (.pointer (some ⟨EF+4,0,none⟩)))) 8 (.iface 489 (.pointer (some ⟨EF+5,0,none⟩)))) 10 (.iface 489 (.pointer (some ⟨EF+6,0,none⟩)))) 16 (.iface 489 (.pointer (some ⟨EF+7,0,none⟩)))) 15 (.iface 489 (.pointer (some ⟨EF+8,0,none⟩)))) 20 (.iface 489 (.pointer (some ⟨EF+9,0,none⟩)))) 19 (.iface 489 (.pointer (some ⟨EF+10,0,none⟩)))) 9 (.iface 489 (.pointer (some ⟨EF+11,0,none⟩)))) 18 (.iface 489 (.pointer (some ⟨EF+12,0,none⟩)))) 21 (.iface 489 (.pointer (some ⟨EF+13,0,none⟩)))) 22 (.iface 489 (.pointer (some ⟨EF+14,0,none⟩)))) 0 (.iface 489 (.pointer (some ⟨EF+15,0,none⟩)))
 {w0 with heap:=Nu (Nu (Nu (Nu (Nu (U) 6 Rows.laid_unicode_utf8_first) 7 Rows.laid_unicode_utf8_acceptRanges) 4 Rows.laid_internal_strconv_uint64pow10) 11 Rows.laid_math_bits_deBruijn32tab) 12 Rows.laid_math_bits_deBruijn64tab}
theorem Y2 (os:Os) (args:Array eT):laidMetH Tryz.prog Rows.serverNoneRow.laid ((Ww os).forCall (fun _ _=>0) ⟨#[],args,[]⟩).memory :=
 laidMetH_of_parts (laidMet_of_run' 8 (by kernel_rfl) (by kernel_rfl)) (by kernel_rfl)
end Go.Ab.fC

