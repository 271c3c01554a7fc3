/- Part 46 of a proof: laws of a machine. -/
import Derived.Test.YtekfceoganklgaaGreatDoorK43
import Derived.Test.YtekfceoganklgaaGreatDoorK44
import Derived.Test.YtekfceoganklgaaGreatDoorK45
import Derived.Test.YtekfceoganklgaaGreatDoorRows
import Derived.ProofKit
import Derived.ChangeMaps5
import Derived.ChangeSame
import Derived.ChangeVars
import Derived.JoinedOf
import Derived.RowKit
import Derived.RowKitTokens
import Derived.LaidLaws
import Derived.LaidHandle
import Derived.Stop.Joined
import Derived.Carry
import Derived.Stop.LaidTwo
import Derived.Stop.LaidErr
import Derived.LaidSub
import Derived.Lib.LaidTab
import Derived.Shelf.Vars
import Derived.Handed
set_option linter.all false

namespace Go.Ab.mm
open Go Go.Ab Go.Proofs Go.Proofs.YtekfceoganklgaaGreatDoor Go.ChangeShapes Go.WideShapes Go.RowKit
variable{zzb:Type} {C:Checked} {P:lO} {W:lJ} {X:lJ->Array lK->Prop} {b g:Nat} {conds:List PathCond} {cs:Array lK} {f:Field} {fn:Func} {ms:Array (String×lP)} {n:String} {os:Os} {r:List (String×DataW Unit)} {s:ChangeSpec} {text:l4}
theorem p_own:ownKnob Tryz.prog.godebug=none:=by kernel_rfl
theorem p_et:Tryz.prog.globalNamed "errors.errorType"=some 8:=by kernel_rfl
theorem p_p:Tryz.prog.globalNamed "internal/strconv.uint64pow10"=some 6:=by kernel_rfl
theorem p_pt:(Tryz.prog.globals[6]?).map (·.type)=some 212:=by kernel_rfl
theorem p_rt:(Tryz.prog.cutTypes.find? (·.1 == "internal/reflectlite.rtype")).map (·.2)=some 271:=by kernel_rfl
theorem zfP:((List.range 574).filter fun t=>Tryz.prog.rowNamed t [101,114,114,111,114])=[42]:=by kernel_rfl
theorem zfQ:Tryz.prog.types.size=574:=by kernel_rfl
theorem H9:Tryz.prog.cellsOf 528=1:=by kernel_rfl
theorem H8:Tryz.prog.cellsOf 9=1:=by kernel_rfl
theorem zfR : "*" ++ "errors.errorString" = "*errors.errorString":=by decide
theorem Ko {a b:Bool} (ha:a=true) (hb:b=true):(a&&b)=true:=by rw[ha,hb];rfl
set_option maxRecDepth 100000 in
theorem p_rl:List.range Tryz.prog.types.size=List.range' 0 130++(List.range' 130 130++(List.range' 260 130++(List.range' 390 130++(List.range' 520 54)))):=by rw[zfQ];kernel_rfl
set_option maxRecDepth 100000 in
theorem HO (u:lP) (h:Tryz.prog.typeName? 3 u=some "*errors.errorString"):u=526 :=
 typeName_ptr_named (nm:= "errors.errorString") (by
  rw[zfR,p_rl];simp only[jn];exact Ko pr_0 (Ko pr_1 (Ko pr_2 (Ko pr_3 pr_4)))) (by
  rw[p_rl];simp only[jn];exact Ko pn_0 (Ko pn_1 (Ko pn_2 (Ko pn_3 pn_4)))) (by decide) u (by rw[zfR];exact h)
theorem Ho (hg:Tryz.prog.globalNamed n=some g) (h:W.var? Tryz.prog n=some cs):∃ E fr,W.heap[g]?=some (.cells cs E fr):=by unfold World.var? at h;rw[hg] at h;simp only[jT] at h;split at h;{rename_i og E fr hh;cases h;exact⟨E,fr,hh⟩};{cases h}
theorem DJ {o:Obj} (h:W.heap[b]?=some o):b < W.heap.size:=(kB.1 h).1
theorem Iq {J:String} {ti tp te ts:lP} 
  (h:laidMet P ((n,.iface J (.ptr (.agg [.lit (.string text)]))) :: r) W)
  (hg:P.globalNamed n=some g) (ht:(P.globals[g]?).map (·.type)=some ti) (hi:P.underlying ti=some (.interface ms)) (zA:∀ u,P.typeName? 3 u=some J->u=tp)
  (hp:P.underlying tp=some (.pointer te)) (he:P.underlying te=some (.struct #[f])) (hft:f.type=ts) (ui:f.offset=0) (hs:P.underlying ts=some .string) (hc:P.cellsOf te=1) (oJ:P.cellsOf ts=1) :
  ∃ (a:Addr) (c0:Array lK) (t0:lP),W.var? P n=some #[.iface tp (.pointer (some a))]/\W.heap[a.block]?=some (.cells c0 t0 (0,0)):=by
 obtain⟨ps,⟨g0,t0,cs0,f0,p0,q0,hg0,ht0,ym,hd0,_,e0⟩,_,hrows⟩:=h;obtain rfl:=ic (hg.symm.trans hg0);obtain rfl:=ic (ht.symm.trans ht0);subst e0;obtain⟨l0⟩:=cs0;have ok0:∀ u v,l0=[.iface u v]->Value.okWide P W .any 0 u v:=fun u v e=>by subst e;exact (hrows g 0 (by simp[MemPlace.row])).2 u v (by simpa using World.var?_cell hg0 ym 0)
 obtain⟨a0,s0,rfl,hc0,rT,hz0,rfl⟩:=errorString_of_trod hi zA hp he hft ui hs hc oJ hd0 ok0;obtain⟨c0,t0,hb0⟩:=(hrows a0.block a0.off (by simp[MemPlace.row])).1;exact⟨a0,c0,t0,ym,hb0⟩
theorem Bv {n0 n1:String} {x0 x1:l4} {g0 g1:Nat} {a0 a1:Addr} (h:laidMet Tryz.prog ((n0,.iface "*errors.errorString" (.ptr (.agg [.lit (.string x0)]))) :: (n1,.iface "*errors.errorString" (.ptr (.agg [.lit (.string x1)]))) :: r) W)
  (e0:Tryz.prog.globalNamed n0=some g0) (y0:(Tryz.prog.globals[g0]?).map (·.type)=some 42) (e1:Tryz.prog.globalNamed n1=some g1) (y1:(Tryz.prog.globals[g1]?).map (·.type)=some 42) (v0:W.var? Tryz.prog n0=some #[.iface 526 (.pointer (some a0))]) (v1:W.var? Tryz.prog n1=some #[.iface 526 (.pointer (some a1))]):a0≠a1:=by
 obtain⟨b0,b1,_,_,_,_,_,_,w0,w1,_,_,_,_,_,_,mP,_,_⟩:=laid_sentinels2 h e0 y0 e1 y1 Tryz.underlying42 HO Tryz.underlying526 Tryz.underlying528 rfl rfl Tryz.underlying9 H9 H8;obtain rfl:a0=b0:=by simpa using v0.symm.trans w0
 obtain rfl:a1=b1:=by simpa using v1.symm.trans w1
 exact mP
abbrev k0:String×DataW Unit:=("diaeresis/number.errOver",Rows.laid_diaeresis_number_errOver)
abbrev k1:String×DataW Unit:=("diaeresis/number.errDivide",Rows.laid_diaeresis_number_errDivide)
abbrev k2:String×DataW Unit:=("diaeresis/group.errGroup",Rows.laid_diaeresis_group_errGroup)
abbrev k3:String×DataW Unit:=("strconv.ErrRange",Rows.laid_strconv_ErrRange)
abbrev k4:String×DataW Unit:=("strconv.ErrSyntax",Rows.laid_strconv_ErrSyntax)
abbrev k5:String×DataW Unit:=("diaeresis/node.errNode",Rows.laid_diaeresis_node_errNode)
abbrev k6:String×DataW Unit:=("diaeresis/parse.errSyntax",Rows.laid_diaeresis_parse_errSyntax)
abbrev k7:String×DataW Unit:=("diaeresis/relex.errRange",Rows.laid_diaeresis_relex_errRange)
abbrev k8:String×DataW Unit:=("diaeresis/relex.errFull",Rows.laid_diaeresis_relex_errFull)
abbrev k9:String×DataW Unit:=("diaeresis/eval.errNone",Rows.laid_diaeresis_eval_errNone)
theorem H7:Tryz.prog.globalNamed "diaeresis/number.errOver"=some 13:=by kernel_rfl
theorem Jf:(Tryz.prog.globals[13]?).map (·.type)=some 42:=by kernel_rfl
theorem H6:Tryz.prog.globalNamed "diaeresis/number.errDivide"=some 14:=by kernel_rfl
theorem Je:(Tryz.prog.globals[14]?).map (·.type)=some 42:=by kernel_rfl
theorem H5:Tryz.prog.globalNamed "diaeresis/group.errGroup"=some 11:=by kernel_rfl
theorem Jd:(Tryz.prog.globals[11]?).map (·.type)=some 42:=by kernel_rfl
theorem H4:Tryz.prog.globalNamed "strconv.ErrRange"=some 16:=by kernel_rfl
theorem Jc:(Tryz.prog.globals[16]?).map (·.type)=some 42:=by kernel_rfl
theorem H3:Tryz.prog.globalNamed "strconv.ErrSyntax"=some 15:=by kernel_rfl
theorem Jb:(Tryz.prog.globals[15]?).map (·.type)=some 42:=by kernel_rfl
theorem H2:Tryz.prog.globalNamed "diaeresis/node.errNode"=some 7:=by kernel_rfl
theorem Ja:(Tryz.prog.globals[7]?).map (·.type)=some 42:=by kernel_rfl
theorem H1:Tryz.prog.globalNamed "diaeresis/parse.errSyntax"=some 12:=by kernel_rfl
theorem I9:(Tryz.prog.globals[12]?).map (·.type)=some 42:=by kernel_rfl
theorem H0:Tryz.prog.globalNamed "diaeresis/relex.errRange"=some 4:=by kernel_rfl
theorem I8:(Tryz.prog.globals[4]?).map (·.type)=some 42:=by kernel_rfl
theorem HZ:Tryz.prog.globalNamed "diaeresis/relex.errFull"=some 0:=by kernel_rfl
theorem I7:(Tryz.prog.globals[0]?).map (·.type)=some 42:=by kernel_rfl
theorem HY:Tryz.prog.globalNamed "diaeresis/eval.errNone"=some 5:=by kernel_rfl
theorem I6:(Tryz.prog.globals[5]?).map (·.type)=some 42:=by kernel_rfl
set_option maxRecDepth 100000 in
theorem eM (oD:W.ShapedOpen Tryz.prog) (h:laidMetH Tryz.prog Rows.evalPrintsRow.laid W):cx0.Wd (fun b=>b < W.heap.size) W:=by
 have h':handlesMet Tryz.prog [("errors.errorType",Rows.laid_errors_errorType)] W:=h.2;have hd:laidMet Tryz.prog [("math/bits.deBruijn32tab",Rows.laid_math_bits_deBruijn32tab),("math/bits.deBruijn64tab",Rows.laid_math_bits_deBruijn64tab),("internal/strconv.uint64pow10",Rows.laid_internal_strconv_uint64pow10),("unicode/utf8.acceptRanges",Rows.laid_unicode_utf8_acceptRanges),("diaeresis/number.errOver",Rows.laid_diaeresis_number_errOver),("diaeresis/number.errDivide",Rows.laid_diaeresis_number_errDivide),("diaeresis/group.errGroup",Rows.laid_diaeresis_group_errGroup),("strconv.ErrRange",Rows.laid_strconv_ErrRange),("strconv.ErrSyntax",Rows.laid_strconv_ErrSyntax),("diaeresis/node.errNode",Rows.laid_diaeresis_node_errNode),("diaeresis/parse.errSyntax",Rows.laid_diaeresis_parse_errSyntax),("diaeresis/relex.errRange",Rows.laid_diaeresis_relex_errRange),("diaeresis/relex.errFull",Rows.laid_diaeresis_relex_errFull),("diaeresis/eval.errNone",Rows.laid_diaeresis_eval_errNone),("unicode/utf8.first",Rows.laid_unicode_utf8_first)] W:=h.1;have hs:=hd.filter fun x=>x.1 == "diaeresis/number.errOver"||x.1 == "diaeresis/number.errDivide"||x.1 == "diaeresis/group.errGroup"||x.1 == "strconv.ErrRange"||x.1 == "strconv.ErrSyntax"||x.1 == "diaeresis/node.errNode"||x.1 == "diaeresis/parse.errSyntax"||x.1 == "diaeresis/relex.errRange"||x.1 == "diaeresis/relex.errFull"||x.1 == "diaeresis/eval.errNone"
 have hp:=hd.filter fun x=>x.1 == "internal/strconv.uint64pow10";have hs:laidMet Tryz.prog [("diaeresis/number.errOver",Rows.laid_diaeresis_number_errOver),("diaeresis/number.errDivide",Rows.laid_diaeresis_number_errDivide),("diaeresis/group.errGroup",Rows.laid_diaeresis_group_errGroup),("strconv.ErrRange",Rows.laid_strconv_ErrRange),("strconv.ErrSyntax",Rows.laid_strconv_ErrSyntax),("diaeresis/node.errNode",Rows.laid_diaeresis_node_errNode),("diaeresis/parse.errSyntax",Rows.laid_diaeresis_parse_errSyntax),("diaeresis/relex.errRange",Rows.laid_diaeresis_relex_errRange),("diaeresis/relex.errFull",Rows.laid_diaeresis_relex_errFull),("diaeresis/eval.errNone",Rows.laid_diaeresis_eval_errNone)] W:=hs;have hp:laidMet Tryz.prog [("internal/strconv.uint64pow10",Lib.tabData .u64 Lib.pow10Tab)] W:=hp;obtain⟨name,u,ty,e1,e2,e3,e4,e5⟩:=h' _ (iU.2 rfl);have en:name=[101,114,114,111,114]:=(ic e1).symm;subst en;obtain rfl:=ic (p_rt.symm.trans e2);have hm:ty∈(List.range 574).filter fun t=>Tryz.prog.rowNamed t [101,114,114,111,114]:=ju.2 ⟨jS.2 (by rw[<-zfQ];exact e3),e4⟩;rw[zfP] at hm;obtain rfl:=iU.1 hm;have hh:typeHandle Tryz.prog 42=.pointer (some ⟨17,42,none⟩):=by kernel_rfl
 rw[hh] at e5;have h0:W.cell? ⟨8,0,none⟩=some et0:=by simpa[et0] using World.var?_cell p_et e5 0
 have i0:8 < W.heap.size:=by rcases ka 8 W.heap.size with h | h;{exact h};{simp[World.cell?,kC h] at h0}
 have hpw:Lib.TabIs Tryz.prog W "internal/strconv.uint64pow10" .u64 Lib.pow10Tab:=Lib.tabIs_of_head p_p p_pt Tryz.underlying212 Tryz.underlying165 (by kernel_rfl) (by kernel_rfl) hp;obtain⟨E3,f3,r3⟩:=Ho p_p hpw;have rT:=hd.filter fun x=>x.1 == "diaeresis/number.errOver";have rT:laidMet Tryz.prog [("diaeresis/number.errOver",Rows.laid_diaeresis_number_errOver)] W:=rT;obtain⟨a0,c0,t0,ym,hb0⟩:=Iq rT H7 Jf Tryz.underlying42 HO Tryz.underlying526 Tryz.underlying528 rfl rfl Tryz.underlying9 H9 H8;obtain⟨E10,f10,r10⟩:=Ho H7 ym;have pI:=hd.filter fun x=>x.1 == "diaeresis/number.errDivide";have pI:laidMet Tryz.prog [("diaeresis/number.errDivide",Rows.laid_diaeresis_number_errDivide)] W:=pI;obtain⟨a1,c1,t1,yA,hb1⟩:=Iq pI H6 Je Tryz.underlying42 HO Tryz.underlying526 Tryz.underlying528 rfl rfl Tryz.underlying9 H9 H8;obtain⟨E11,f11,r11⟩:=Ho H6 yA;have pJ:=hd.filter fun x=>x.1 == "diaeresis/group.errGroup";have pJ:laidMet Tryz.prog [("diaeresis/group.errGroup",Rows.laid_diaeresis_group_errGroup)] W:=pJ;obtain⟨a2,c2,t2,qH,vk⟩:=Iq pJ H5 Jd Tryz.underlying42 HO Tryz.underlying526 Tryz.underlying528 rfl rfl Tryz.underlying9 H9 H8;obtain⟨E12,f12,r12⟩:=Ho H5 qH;have zZ:=hd.filter fun x=>x.1 == "strconv.ErrRange";have zZ:laidMet Tryz.prog [("strconv.ErrRange",Rows.laid_strconv_ErrRange)] W:=zZ;obtain⟨a3,c3,t3,hv3,hb3⟩:=Iq zZ H4 Jc Tryz.underlying42 HO Tryz.underlying526 Tryz.underlying528 rfl rfl Tryz.underlying9 H9 H8;obtain⟨E13,f13,r13⟩:=Ho H4 hv3;have hs4:=hd.filter fun x=>x.1 == "strconv.ErrSyntax";have hs4:laidMet Tryz.prog [("strconv.ErrSyntax",Rows.laid_strconv_ErrSyntax)] W:=hs4;obtain⟨a4,c4,t4,hv4,hb4⟩:=Iq hs4 H3 Jb Tryz.underlying42 HO Tryz.underlying526 Tryz.underlying528 rfl rfl Tryz.underlying9 H9 H8;obtain⟨E14,f14,r14⟩:=Ho H3 hv4;have hs5:=hd.filter fun x=>x.1 == "diaeresis/node.errNode";have hs5:laidMet Tryz.prog [("diaeresis/node.errNode",Rows.laid_diaeresis_node_errNode)] W:=hs5;obtain⟨a5,c5,t5,hv5,hb5⟩:=Iq hs5 H2 Ja Tryz.underlying42 HO Tryz.underlying526 Tryz.underlying528 rfl rfl Tryz.underlying9 H9 H8;obtain⟨E15,f15,r15⟩:=Ho H2 hv5;have hs6:=hd.filter fun x=>x.1 == "diaeresis/parse.errSyntax";have hs6:laidMet Tryz.prog [("diaeresis/parse.errSyntax",Rows.laid_diaeresis_parse_errSyntax)] W:=hs6;obtain⟨a6,c6,t6,hv6,hb6⟩:=Iq hs6 H1 I9 Tryz.underlying42 HO Tryz.underlying526 Tryz.underlying528 rfl rfl Tryz.underlying9 H9 H8;obtain⟨E16,f16,r16⟩:=Ho H1 hv6;have hs7:=hd.filter fun x=>x.1 == "diaeresis/relex.errRange";have hs7:laidMet Tryz.prog [("diaeresis/relex.errRange",Rows.laid_diaeresis_relex_errRange)] W:=hs7;obtain⟨a7,c7,t7,hv7,hb7⟩:=Iq hs7 H0 I8 Tryz.underlying42 HO Tryz.underlying526 Tryz.underlying528 rfl rfl Tryz.underlying9 H9 H8;obtain⟨E17,f17,r17⟩:=Ho H0 hv7;have hs8:=hd.filter fun x=>x.1 == "diaeresis/relex.errFull";have hs8:laidMet Tryz.prog [("diaeresis/relex.errFull",Rows.laid_diaeresis_relex_errFull)] W:=hs8;obtain⟨a8,c8,t8,hv8,hb8⟩:=Iq hs8 HZ I7 Tryz.underlying42 HO Tryz.underlying526 Tryz.underlying528 rfl rfl Tryz.underlying9 H9 H8;obtain⟨E18,f18,r18⟩:=Ho HZ hv8;have hs9:=hd.filter fun x=>x.1 == "diaeresis/eval.errNone";have hs9:laidMet Tryz.prog [("diaeresis/eval.errNone",Rows.laid_diaeresis_eval_errNone)] W:=hs9;obtain⟨a9,c9,t9,hv9,hb9⟩:=Iq hs9 HY I6 Tryz.underlying42 HO Tryz.underlying526 Tryz.underlying528 rfl rfl Tryz.underlying9 H9 H8;obtain⟨E19,f19,r19⟩:=Ho HY hv9;have ne0_1:=Bv (show laidMet Tryz.prog [k0,k1] W from hd.filter fun x=>x.1==k0.1||x.1==k1.1) H7 Jf H6 Je ym yA
 have ne0_2:=Bv (show laidMet Tryz.prog [k0,k2] W from hd.filter fun x=>x.1==k0.1||x.1==k2.1) H7 Jf H5 Jd ym qH;have ne0_3:=Bv (show laidMet Tryz.prog [k0,k3] W from hd.filter fun x=>x.1==k0.1||x.1==k3.1) H7 Jf H4 Jc ym hv3;have ne0_4:=Bv (show laidMet Tryz.prog [k0,k4] W from hd.filter fun x=>x.1==k0.1||x.1==k4.1) H7 Jf H3 Jb ym hv4;have ne0_5:=Bv (show laidMet Tryz.prog [k0,k5] W from hd.filter fun x=>x.1==k0.1||x.1==k5.1) H7 Jf H2 Ja ym hv5;have ne0_6:=Bv (show laidMet Tryz.prog [k0,k6] W from hd.filter fun x=>x.1==k0.1||x.1==k6.1) H7 Jf H1 I9 ym hv6;have ne0_7:=Bv (show laidMet Tryz.prog [k0,k7] W from hd.filter fun x=>x.1==k0.1||x.1==k7.1) H7 Jf H0 I8 ym hv7;have ne0_8:=Bv (show laidMet Tryz.prog [k0,k8] W from hd.filter fun x=>x.1==k0.1||x.1==k8.1) H7 Jf HZ I7 ym hv8;have ne0_9:=Bv (show laidMet Tryz.prog [k0,k9] W from hd.filter fun x=>x.1==k0.1||x.1==k9.1) H7 Jf HY I6 ym hv9;have ne1_2:=Bv (show laidMet Tryz.prog [k1,k2] W from hd.filter fun x=>x.1==k1.1||x.1==k2.1) H6 Je H5 Jd yA qH;have ne1_3:=Bv (show laidMet Tryz.prog [k1,k3] W from hd.filter fun x=>x.1==k1.1||x.1==k3.1) H6 Je H4 Jc yA hv3;have ne1_4:=Bv (show laidMet Tryz.prog [k1,k4] W from hd.filter fun x=>x.1==k1.1||x.1==k4.1) H6 Je H3 Jb yA hv4;have ne1_5:=Bv (show laidMet Tryz.prog [k1,k5] W from hd.filter fun x=>x.1==k1.1||x.1==k5.1) H6 Je H2 Ja yA hv5;have ne1_6:=Bv (show laidMet Tryz.prog [k1,k6] W from hd.filter fun x=>x.1==k1.1||x.1==k6.1) H6 Je H1 I9 yA hv6;have ne1_7:=Bv (show laidMet Tryz.prog [k1,k7] W from hd.filter fun x=>x.1==k1.1||x.1==k7.1) H6 Je H0 I8 yA hv7;have ne1_8:=Bv (show laidMet Tryz.prog [k1,k8] W from hd.filter fun x=>x.1==k1.1||x.1==k8.1) H6 Je HZ I7 yA hv8;have ne1_9:=Bv (show laidMet Tryz.prog [k1,k9] W from hd.filter fun x=>x.1==k1.1||x.1==k9.1) H6 Je HY I6 yA hv9;have ne2_3:=Bv (show laidMet Tryz.prog [k2,k3] W from hd.filter fun x=>x.1==k2.1||x.1==k3.1) H5 Jd H4 Jc qH hv3;have ne2_4:=Bv (show laidMet Tryz.prog [k2,k4] W from hd.filter fun x=>x.1==k2.1||x.1==k4.1) H5 Jd H3 Jb qH hv4;have ne2_5:=Bv (show laidMet Tryz.prog [k2,k5] W from hd.filter fun x=>x.1==k2.1||x.1==k5.1) H5 Jd H2 Ja qH hv5;have ne2_6:=Bv (show laidMet Tryz.prog [k2,k6] W from hd.filter fun x=>x.1==k2.1||x.1==k6.1) H5 Jd H1 I9 qH hv6;have ne2_7:=Bv (show laidMet Tryz.prog [k2,k7] W from hd.filter fun x=>x.1==k2.1||x.1==k7.1) H5 Jd H0 I8 qH hv7;have ne2_8:=Bv (show laidMet Tryz.prog [k2,k8] W from hd.filter fun x=>x.1==k2.1||x.1==k8.1) H5 Jd HZ I7 qH hv8;have ne2_9:=Bv (show laidMet Tryz.prog [k2,k9] W from hd.filter fun x=>x.1==k2.1||x.1==k9.1) H5 Jd HY I6 qH hv9;have ne3_4:=Bv (show laidMet Tryz.prog [k3,k4] W from hd.filter fun x=>x.1==k3.1||x.1==k4.1) H4 Jc H3 Jb hv3 hv4;have ne3_5:=Bv (show laidMet Tryz.prog [k3,k5] W from hd.filter fun x=>x.1==k3.1||x.1==k5.1) H4 Jc H2 Ja hv3 hv5;have ne3_6:=Bv (show laidMet Tryz.prog [k3,k6] W from hd.filter fun x=>x.1==k3.1||x.1==k6.1) H4 Jc H1 I9 hv3 hv6;have ne3_7:=Bv (show laidMet Tryz.prog [k3,k7] W from hd.filter fun x=>x.1==k3.1||x.1==k7.1) H4 Jc H0 I8 hv3 hv7;have ne3_8:=Bv (show laidMet Tryz.prog [k3,k8] W from hd.filter fun x=>x.1==k3.1||x.1==k8.1) H4 Jc HZ I7 hv3 hv8;have ne3_9:=Bv (show laidMet Tryz.prog [k3,k9] W from hd.filter fun x=>x.1==k3.1||x.1==k9.1) H4 Jc HY I6 hv3 hv9;have ne4_5:=Bv (show laidMet Tryz.prog [k4,k5] W from hd.filter fun x=>x.1==k4.1||x.1==k5.1) H3 Jb H2 Ja hv4 hv5;have ne4_6:=Bv (show laidMet Tryz.prog [k4,k6] W from hd.filter fun x=>x.1==k4.1||x.1==k6.1) H3 Jb H1 I9 hv4 hv6;have ne4_7:=Bv (show laidMet Tryz.prog [k4,k7] W from hd.filter fun x=>x.1==k4.1||x.1==k7.1) H3 Jb H0 I8 hv4 hv7;have ne4_8:=Bv (show laidMet Tryz.prog [k4,k8] W from hd.filter fun x=>x.1==k4.1||x.1==k8.1) H3 Jb HZ I7 hv4 hv8;have ne4_9:=Bv (show laidMet Tryz.prog [k4,k9] W from hd.filter fun x=>x.1==k4.1||x.1==k9.1) H3 Jb HY I6 hv4 hv9;have ne5_6:=Bv (show laidMet Tryz.prog [k5,k6] W from hd.filter fun x=>x.1==k5.1||x.1==k6.1) H2 Ja H1 I9 hv5 hv6;have ne5_7:=Bv (show laidMet Tryz.prog [k5,k7] W from hd.filter fun x=>x.1==k5.1||x.1==k7.1) H2 Ja H0 I8 hv5 hv7;have ne5_8:=Bv (show laidMet Tryz.prog [k5,k8] W from hd.filter fun x=>x.1==k5.1||x.1==k8.1) H2 Ja HZ I7 hv5 hv8;have ne5_9:=Bv (show laidMet Tryz.prog [k5,k9] W from hd.filter fun x=>x.1==k5.1||x.1==k9.1) H2 Ja HY I6 hv5 hv9;have ne6_7:=Bv (show laidMet Tryz.prog [k6,k7] W from hd.filter fun x=>x.1==k6.1||x.1==k7.1) H1 I9 H0 I8 hv6 hv7;have ne6_8:=Bv (show laidMet Tryz.prog [k6,k8] W from hd.filter fun x=>x.1==k6.1||x.1==k8.1) H1 I9 HZ I7 hv6 hv8;have ne6_9:=Bv (show laidMet Tryz.prog [k6,k9] W from hd.filter fun x=>x.1==k6.1||x.1==k9.1) H1 I9 HY I6 hv6 hv9;have ne7_8:=Bv (show laidMet Tryz.prog [k7,k8] W from hd.filter fun x=>x.1==k7.1||x.1==k8.1) H0 I8 HZ I7 hv7 hv8;have ne7_9:=Bv (show laidMet Tryz.prog [k7,k9] W from hd.filter fun x=>x.1==k7.1||x.1==k9.1) H0 I8 HY I6 hv7 hv9;have ne8_9:=Bv (show laidMet Tryz.prog [k8,k9] W from hd.filter fun x=>x.1==k8.1||x.1==k9.1) HZ I7 HY I6 hv8 hv9;have yx:∃ m,W.cell? ⟨1,0,none⟩=some (.int .i64 m):=cell_of_shapedOpen_int oD (g:=1) (t:=3) (zero:=#[.int .i64 0]) (lI (by kernel_rfl)) (by kernel_rfl) rfl (by kernel_rfl) (by kernel_rfl) Tryz.underlying3
 exact⟨⟨fun g=>if g=0 then a8 else if g=4 then a7 else if g=5 then a9 else if g=7 then a5 else if g=11 then a2 else if g=12 then a6 else if g=13 then a0 else if g=14 then a1 else if g=15 then a4 else a3,fun g hg=>by
   simp only[im,jZ,or_false] at hg;rcases hg with rfl | rfl | rfl | rfl | rfl | rfl | rfl | rfl | rfl | rfl;·exact⟨DJ r18,DJ hb8,⟨E18,f18,r18⟩,c8,t8,hb8⟩
   ·exact⟨DJ r17,DJ hb7,⟨E17,f17,r17⟩,c7,t7,hb7⟩
   ·exact⟨DJ r19,DJ hb9,⟨E19,f19,r19⟩,c9,t9,hb9⟩
   ·exact⟨DJ r15,DJ hb5,⟨E15,f15,r15⟩,c5,t5,hb5⟩
   ·exact⟨DJ r12,DJ vk,⟨E12,f12,r12⟩,c2,t2,vk⟩
   ·exact⟨DJ r16,DJ hb6,⟨E16,f16,r16⟩,c6,t6,hb6⟩
   ·exact⟨DJ r10,DJ hb0,⟨E10,f10,r10⟩,c0,t0,hb0⟩
   ·exact⟨DJ r11,DJ hb1,⟨E11,f11,r11⟩,c1,t1,hb1⟩
   ·exact⟨DJ r14,DJ hb4,⟨E14,f14,r14⟩,c4,t4,hb4⟩
   ·exact⟨DJ r13,DJ hb3,⟨E13,f13,r13⟩,c3,t3,hb3⟩,fun g hg g' yE hn=>by
   simp only[im,jZ,or_false] at hg yE;rcases hg with rfl | rfl | rfl | rfl | rfl | rfl | rfl | rfl | rfl | rfl<;>rcases yE with rfl | rfl | rfl | rfl | rfl | rfl | rfl | rfl | rfl | rfl;·exact lH rfl hn
   ·exact ne7_8.symm
   ·exact ne8_9
   ·exact ne5_8.symm
   ·exact ne2_8.symm
   ·exact ne6_8.symm
   ·exact ne0_8.symm
   ·exact ne1_8.symm
   ·exact ne4_8.symm
   ·exact ne3_8.symm
   ·exact ne7_8
   ·exact lH rfl hn
   ·exact ne7_9
   ·exact ne5_7.symm
   ·exact ne2_7.symm
   ·exact ne6_7.symm
   ·exact ne0_7.symm
   ·exact ne1_7.symm
   ·exact ne4_7.symm
   ·exact ne3_7.symm
   ·exact ne8_9.symm
   ·exact ne7_9.symm
   ·exact lH rfl hn
   ·exact ne5_9.symm
   ·exact ne2_9.symm
   ·exact ne6_9.symm
   ·exact ne0_9.symm
   ·exact ne1_9.symm
   ·exact ne4_9.symm
   ·exact ne3_9.symm
   ·exact ne5_8
   ·exact ne5_7
   ·exact ne5_9
   ·exact lH rfl hn
   ·exact ne2_5.symm
   ·exact ne5_6
   ·exact ne0_5.symm
   ·exact ne1_5.symm
   ·exact ne4_5.symm
   ·exact ne3_5.symm
   ·exact ne2_8
   ·exact ne2_7
   ·exact ne2_9
   ·exact ne2_5
   ·exact lH rfl hn
   ·exact ne2_6
   ·exact ne0_2.symm
   ·exact ne1_2.symm
   ·exact ne2_4
   ·exact ne2_3
   ·exact ne6_8
   ·exact ne6_7
   ·exact ne6_9
   ·exact ne5_6.symm
   ·exact ne2_6.symm
   ·exact lH rfl hn
   ·exact ne0_6.symm
   ·exact ne1_6.symm
   ·exact ne4_6.symm
   ·exact ne3_6.symm
   ·exact ne0_8
   ·exact ne0_7
   ·exact ne0_9
   ·exact ne0_5
   ·exact ne0_2
   ·exact ne0_6
   ·exact lH rfl hn
   ·exact ne0_1
   ·exact ne0_4
   ·exact ne0_3
   ·exact ne1_8
   ·exact ne1_7
   ·exact ne1_9
   ·exact ne1_5
   ·exact ne1_2
   ·exact ne1_6
   ·exact ne0_1.symm
   ·exact lH rfl hn
   ·exact ne1_4
   ·exact ne1_3
   ·exact ne4_8
   ·exact ne4_7
   ·exact ne4_9
   ·exact ne4_5
   ·exact ne2_4.symm
   ·exact ne4_6
   ·exact ne0_4.symm
   ·exact ne1_4.symm
   ·exact lH rfl hn
   ·exact ne3_4.symm
   ·exact ne3_8
   ·exact ne3_7
   ·exact ne3_9
   ·exact ne3_5
   ·exact ne2_3.symm
   ·exact ne3_6
   ·exact ne0_3.symm
   ·exact ne1_3.symm
   ·exact ne3_4
   ·exact lH rfl hn⟩,fun p hp=>(by
  obtain rfl:=iU.1 hp;exact⟨i0,h0⟩),fun p hp=>by
  obtain rfl:=iU.1 hp;exact⟨DJ r3,E3,f3,r3⟩,fun g hg=>by
  obtain rfl:=iU.1 hg;refine⟨?_,yx⟩;obtain⟨m,hm⟩:=yx;rcases ka 1 W.heap.size with h | h;·exact h
  ·simp[World.cell?,kC h] at hm⟩
theorem cW {BC:lP×lK->zzb} {f:lL} {apart fresh handsOn again:Bool} 
  (hX:∀ (w w':lJ) (args:Array lK),w.heap=w'.heap->X w args->X w' args)
  (own:ownKnob C.prog.godebug=none) (started:os.Started) (noInit:C.prog.inits.idxOf? f=none) (pY:C.prog.funcs[f]?=some fn)
  (witness:∃ (w:lJ) (tape:Tape) (i:Input),w.os=os/\(w.forCall tape i).Shaped C.prog/\i.vars=[]/\Input.okWide C.prog (w.forCall tape i) .any w.heap.size f i /\
   ((s.pre BC C.prog fn conds apart (w.forCall tape i).memory i.args/\X (w.forCall tape i).memory i.args)/\sizedMet BC C.prog fn (OpenSpec.ofChange s) apart (w.forCall tape i).memory i.args)/\({}:Assume).holds C.prog (lone (Frame.enter C.prog f i.args .normal) [] (w.forCall tape i)))
  (zfS:∀ (W:lJ) (base:Nat) (args:Array lK) (ds gs:List (DataW zzb)) (before:List MemPlace),
   (∀ (j:Nat) t v,fn.params[j]?=some t->args[j]?=some v->Value.okWide C.prog W .any base t v) ->
   DataW.Whole BC C.prog fn.params.toList s.vars apart W args.toList ds gs before->X W args->W.ShapedOpen C.prog ->
   Calls C.prog f args W fun e W'=>∃ v,e=.returned v/\s.post BC C.prog fn apart fresh handsOn again W args v W') :
  ReturnsInHanded {} C os f .any (fun w args=>(s.pre BC C.prog fn conds apart w args/\X w args)/\sizedMet BC C.prog fn (OpenSpec.ofChange s) apart w args) (s.post BC C.prog fn apart fresh handsOn again):=by
 refine returnsInHanded_of_calls own started noInit witness ?_;intro w tape i _ oD _ oS hpre _;obtain⟨_,_,_,fn',hfn',_,_,_,_,qj⟩:=oS;have e:fn'=fn:=ic (hfn'.symm.trans pY);subst e;obtain⟨⟨⟨ds,gs,before,hw,hc⟩,O⟩,hz⟩:=hpre;have hw':=DataW.Whole.of_heap (w':=w.forCall tape i) (by rfl) hw;refine (zfS (w.forCall tape i) w.heap.size i.args ds gs before qj hw' (hX _ _ _ (by rfl) O) oD).mono fun e W' ⟨v,he,hp⟩=>?_;subst he;exact ChangeSpec.post_blind hp
mutual
def Zp:DataW Unit->List lK
 | .lit (.int k n)=>[.int k n]
 | .agg ds=>Yd ds
 | _=>[]
def Yd:List (DataW Unit)->List lK
 | []=>[]
 | d :: ds=>Zp d++Yd ds
end
def Iy:DataW Unit->ByteArray
 | .iface _ (.ptr (.agg [.lit (.string s)]))=>⟨s.toArray⟩
 | _=>⟨#[]⟩
def PM (h:Array Obj) (i:Nat) (d:DataW Unit):Array Obj:=h.modify i fun
 | .cells _ t frozen=>.cells (Zp d).toArray t frozen
 | o=>o
def HA (h:Array Obj) (i:Nat) (v:lK):Array Obj:=h.modify i fun
 | .cells _ t frozen=>.cells #[v] t frozen
 | o=>o
noncomputable def low:Nat:=(World.holding Tryz.prog default ⟨#[],#[],[]⟩).heap.size
noncomputable def YM (os:Os):lJ :=
 let w0:=World.holding Tryz.prog os ⟨#[.cells #[.string (Iy Rows.laid_diaeresis_number_errOver)] 528,.cells #[.string (Iy Rows.laid_diaeresis_number_errDivide)] 528,.cells #[.string (Iy Rows.laid_diaeresis_group_errGroup)] 528,.cells #[.string (Iy Rows.laid_strconv_ErrRange)] 528,.cells #[.string (Iy Rows.laid_strconv_ErrSyntax)] 528,.cells #[.string (Iy Rows.laid_diaeresis_node_errNode)] 528,.cells #[.string (Iy Rows.laid_diaeresis_parse_errSyntax)] 528,.cells #[.string (Iy Rows.laid_diaeresis_relex_errRange)] 528,.cells #[.string (Iy Rows.laid_diaeresis_relex_errFull)] 528,.cells #[.string (Iy Rows.laid_diaeresis_eval_errNone)] 528],#[],[]⟩
 let h0:=HA w0.heap 8 (.iface 271 (.agg #[.pointer (some ⟨17,42,none⟩)]))
 let U:=HA (HA (HA (HA (HA (HA (HA (HA (HA (HA (h0) 13 (.iface 526 (.pointer (some ⟨low+0,0,none⟩)))) 14 (.iface 526 (.pointer (some ⟨low+1,0,none⟩)))) 11 (.iface 526 (.pointer (some ⟨low+2,0,none⟩)))) 16 (.iface 526 (.pointer (some ⟨low+3,0,none⟩)))) 15 (.iface 526 (.pointer (some ⟨low+4,0,none⟩)))) 7 (.iface 526 (.pointer (some ⟨low+5,0,none⟩)))) 12 (.iface 526 (.pointer (some ⟨low+6,0,none⟩)))) 4 (.iface 526 (.pointer (some ⟨low+7,0,none⟩)))) 0 (.iface 526 (.pointer (some ⟨low+8,0,none⟩)))) 5 (.iface 526 (.pointer (some ⟨low+9,0,none⟩)))
 {w0 with heap:=PM (PM (PM (PM (PM (U) 9 Rows.laid_math_bits_deBruijn32tab) 10 Rows.laid_math_bits_deBruijn64tab) 6 Rows.laid_internal_strconv_uint64pow10) 3 Rows.laid_unicode_utf8_acceptRanges) 2 Rows.laid_unicode_utf8_first}
theorem dn (os:Os) (args:Array lK):laidMetH Tryz.prog Rows.evalPrintsRow.laid ((YM os).forCall (fun _ _=>0) ⟨#[],args,[]⟩).memory :=
 laidMetH_of_parts (laidMet_of_run' 8 (by kernel_rfl) (by kernel_rfl)) (by kernel_rfl)
end Go.Ab.mm

