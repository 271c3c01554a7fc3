/-
  Part 6 of a proof: a machine of our own for the given program, its laws, and what it says of the program. Nothing here is a claim by itself.
-/
import Derived.Test.YtbeonejdegijfaaGreatDoorK05
import Derived.Test.YtbeonejdegijfaaGreatDoorK03
import Derived.Test.YtbeonejdegijfaaGreatDoorK04
set_option linter.all false

namespace Go.Ab.Derive2
open Go Go.Ab
def Qlq (c:Int):PV:=if c=0 then .nilI else .iface 145 (.agg [I c])
theorem errV_ok (c:Int):okV (Qlq c)=true:=by unfold Qlq;split<;>rfl
theorem errV_free (c:Int):(Qlq c).free=true:=by unfold Qlq;split<;>rfl
theorem err_neq (c:Int):qbb (.bin .neq .iface true (.c (Qlq c)) (.c .nilI))=some (.bool (decide (c≠0))):=by
 unfold Qlq
 by_cases h:c=0
 ·simp only[h,if_true];rfl
 ·rw[if_neg h,show decide (c≠0)=true by simp[h]];rfl
def Qc4:PV:=.agg [.bool false,.bool false,.nilS]
theorem Qme (c:Int):qbj B0 .cl (.fn 63 []) [Qlq c]=some (I c):=by
 refine call (d:=fun _=>.cl) rfl (by decide) (by simp[qb3,errV_ok]) rfl ?_
 rw[List.map_cons,List.map_nil,run63]
 unfold Qlq
 by_cases h:c=0
 ·subst h;rfl
 ·simp only[h,if_false];rfl
theorem Qjr {vs:List PV} {l:List Arr} (h:Qfc vs l) (hl:l.length≤1000000) (hs:∀ a∈l,a.n.length≤1000000):qft B0 .cl true 62 [.sl 3 vs false]=some (Qlq (if l.all Arr.right then 0 else 114)):=by
 refine lendN (d:=fun _=>.cl) rfl (by simp[qb3,okV,h.ok]) rfl ?_ (by rw[errV_free];rfl)
 rw[List.map_cons,List.map_nil,run62,qgk,h.len]
 simp only[qbe]
 rw[show qb9 [.sl 3 vs false,.int .i64 ((l.length:Nat):Int),.int .i64 0]=true from rfl,qbk]
 have key:∀ m i,i+m=l.length→qf0 (fun z2=>qba (qbb (.bin .lss .num false (.c (nth z2.1 2)) (.c (nth z2.1 1)))) (fun z3=>qca z3 (qba (qbb (.idxAddr 3 (.c (nth z2.1 0)) (.c (nth z2.1 2)))) (fun z4=>qba (qbb (.load 3 true (.c z4))) (fun z5=>qbq (qbi z5 3) (qba (qbj B0 .cl (.fn 27 []) [.agg [qbf z5 0,qbf z5 1,qbf z5 2]]) (fun z6=>qba (qbb (.un .not (.c z6))) (fun z7=>qca z7 (qba (qbb (.build [.int .i64 0] [(0,(1,.c (.int .i64 114)))])) (fun z8=>qba (some (PV.iface 145 z8,z2.2)) (fun z9=>some (.inr z9)))) (qba (qbb (.bin .add .num true (.c (nth z2.1 2)) (.c (.int .i64 1)))) (fun z10=>some (.inl ([nth z2.1 0,nth z2.1 1,z10],z2.2)))))))))) (qba (some (PV.nilI,z2.2)) (fun z11=>some (.inr z11))))) (([.sl 3 vs false,I l.length,I i],()):List PV×Unit)=some (Qlq (if (l.drop i).all Arr.right then 0 else 114),()):=by
  intro m
  induction m with
  | zero =>
   intro i hi
   refine qch ?_
   have:i=l.length:=by omega
   subst this
   simp[Qlq]
  | succ m ih =>
   intro i hi
   have hlt:i < l.length:=by omega
   rw[qsq hlt]
   obtain⟨v,hv,ha⟩:=h.get i hlt
   have hr:=qns ha (hs _ (List.getElem_mem hlt))
   obtain⟨x,rfl,hx⟩:=ha.get
   cases hrt:(l[i]).right with
   | false =>
    refine qch ?_
    simp only[qdw,qdv,qd4,qfw,qbe,qbh]
    rw[if_pos (by simpa using hlt),Qgr hv]
    simp only[qbe,Qdb,qwj (qwz (a:=.bool (l[i]).li) (b:=.bool (l[i]).ru) rfl rfl hx.cell),qbk,qnd,qnc,qln,hr,qdl,hrt,Bool.not_false,qbh,if_true,Qpd]
    rw[List.all_cons,hrt]
    rfl
   | true =>
    rw[qdg (s':=([.sl 3 vs false,I l.length,I ((i+1:Nat):Int)],()))]
    ·rw[ih (i+1) (by omega),List.all_cons,hrt,Bool.true_and]
    ·simp only[qdw,qdv,qd4,qfw,qbe,qbh]
     rw[if_pos (by simpa using hlt),Qgr hv]
     simp only[qbe,Qdb,qwj (qwz (a:=.bool (l[i]).li) (b:=.bool (l[i]).ru) rfl rfl hx.cell),qbk,qnd,qnc,qln,hr,qdl,hrt,Bool.not_true,qbh,if_false,Bool.false_eq_true,qfg,qri,qzp (by omega:i < 9223372036854775807)]
 have:=key l.length 0 (by omega)
 simpa[qfg] using this
def Arr.sz (a b:Arr):Int×Int:=if a.li&&(b.li&&decide (a.n.length≠b.n.length)) then (0,110) else if a.li then (a.n.length,0) else (b.n.length,0)
theorem size6 {a b:Arr} {x y:PV} (hx:IsL x a.n) (hy:IsL y b.n):qbj B0 .cl (.fn 76 []) [.agg [.bool a.li,.bool a.ru,x,.bool b.li,.bool b.ru,y]]=some (.tup [I (a.sz b).1,Qlq (a.sz b).2]):=by
 have hv:(PV.agg [.bool a.li,.bool a.ru,x,.bool b.li,.bool b.ru,y]).isVal=true:=by simp[PV.isVal,PV.isCell,hx.cell,hy.cell]
 refine call (d:=fun _=>.cl) rfl (by decide) (by simp[qb3,okV,hx.ok,hy.ok]) rfl ?_
 rw[List.map_cons,List.map_nil,run76,qgy,hv,qbk]
 simp only[qga,qcv,show sel [PV.bool a.li,.bool a.ru,x,.bool b.li,.bool b.ru,y] 0 1 false=some (.bool a.li) from rfl,show sel [PV.bool a.li,.bool a.ru,x,.bool b.li,.bool b.ru,y] 3 1 false=some (.bool b.li) from rfl,show sel [PV.bool a.li,.bool a.ru,x,.bool b.li,.bool b.ru,y] 2 1 false=some x from rfl,show sel [PV.bool a.li,.bool a.ru,x,.bool b.li,.bool b.ru,y] 5 1 false=some y from rfl,
  qbe,qbh,hx.len,hy.len,Qjw,Qpd]
 unfold Arr.sz
 have e:((a.n.length:Int) != (b.n.length:Int))=decide (a.n.length≠b.n.length):=by
  by_cases h:a.n.length=b.n.length
  ·simp[h]
  ·have:¬ (a.n.length:Int)=(b.n.length:Int):=by omega
   simp[h,this]
 rw[e]
 cases a.li<;>cases b.li<;>simp[Qlq]<;>(try (by_cases h:a.n.length=b.n.length<;>simp[h,Qlq]))<;>rfl
def Arr.text (a:Arr):Bool:=a.ru&&decide (0 < a.n.length)
theorem Qmg {v:PV} {a:Arr} (h:IsA v a):qbj B0 .cl (.fn 64 []) [v]=some (.bool a.text):=by
 obtain⟨x,rfl,hx⟩:=h.get
 refine call (d:=fun _=>.cl) rfl (by decide) (by simp[qb3,h.ok]) rfl ?_
 rw[List.map_cons,List.map_nil,run64,qgy,qwz rfl rfl hx.cell,qbk]
 simp only[qga,qcv,qxf,qvk,qqg,qbe,hx.len,qbh,qfg,Qjx]
 unfold Arr.text
 have e:decide ((0:Int) < (a.n.length:Int))=decide (0 < a.n.length):=by by_cases h:0 < a.n.length<;>simp[h]
 rw[e]
 cases a.ru<;>simp
def Arr.at (a:Arr) (i:Nat):Int:=if a.li then a.n.getD i 0 else a.n.getD 0 0
def Arr.fits (a:Arr) (i:Nat):Prop:=if a.li then i < a.n.length else 0 < a.n.length
theorem of_run {v:PV} {a:Arr} (h:IsA v a) {i:Nat} (hi:a.fits i):qbj B0 .cl (.fn 142 []) [v,I i]=some (I (a.at i)):=by
 obtain⟨x,rfl,hx⟩:=h.get
 refine call (d:=fun _=>.cl) rfl (by decide) (by simp[qb3,h.ok]) rfl ?_
 rw[List.map_cons,List.map_cons,List.map_nil,run142,qgy,qwz rfl rfl hx.cell,qbk]
 simp only[qga,qcv,qxf,qvk,qqg,qbe,qbh]
 unfold Arr.at
 unfold Arr.fits at hi
 cases hli:a.li with
 | true =>
  simp only[hli,if_true] at hi
  simp only[if_true,hx.idx hi,qbe,Qm9]
  rw[List.getD_eq_getElem?_getD,List.getElem?_eq_getElem hi]
  rfl
 | false =>
  simp only[hli,Bool.false_eq_true,if_false] at hi
  simp only[Bool.false_eq_true,if_false]
  rw[show (PV.int .i64 0)=I ((0:Nat):Int) from rfl,hx.idx hi]
  simp only[qbe,Qm9]
  rw[List.getD_eq_getElem?_getD,List.getElem?_eq_getElem hi]
  rfl
def qda (a b:Arr) (i:Nat):Nat→List (Int×Int)
 | 0=>[]
 | m+1=>(a.at i,b.at i) :: qda a b (i+1) m
def Qkk (p:Int×Int):List PV:=[I p.1,I p.2]
theorem both_run {a b:Arr} {x y:PV} (hx:IsL x a.n) (hy:IsL y b.n) (n:Nat):qbj B0 .cl (.fn 77 []) [.agg [.bool a.li,.bool a.ru,x,.bool b.li,.bool b.ru,y],I n]=some (.fn 141 [.ptr [I n] 0,.ptr [.bool a.li,.bool a.ru,x,.bool b.li,.bool b.ru,y] 0]):=by
 have hv:(PV.agg [.bool a.li,.bool a.ru,x,.bool b.li,.bool b.ru,y]).isVal=true:=by simp[PV.isVal,PV.isCell,hx.cell,hy.cell]
 refine call (d:=fun _=>.cl) rfl (by decide) (by simp[qb3,okV,hx.ok,hy.ok]) rfl ?_
 rw[List.map_cons,List.map_cons,List.map_nil,run77,qgy,hv,qbk,show qjc (I (n:Int))=true from rfl,qbk]
 rw[show okU (.fn 141 [Qkj (qfu (I n)) 0,Qkj (qfu (.agg [.bool a.li,.bool a.ru,x,.bool b.li,.bool b.ru,y])) 0])=true by
  show okV _=true
  have:okV (PV.fn 141 [.ptr [I n] 0,.ptr [.bool a.li,.bool a.ru,x,.bool b.li,.bool b.ru,y] 0])=true:=by simp[okV,qb3,hx.ok,hy.ok]
  exact this]
 rfl
theorem Qf3 {E:Type} (h:qbg E) (dep:Nat) {a b:Arr} {x y:PV} (hx:IsL x a.n) (hy:IsL y b.n) (n:Nat) (hn:n≤1000000) (hf:∀ i,i < n→a.fits i∧b.fits i) {e e':E}
  (hyy:qc8 h dep ((qda a b 0 n).map Qkk) e=some e'):qgd B0 h dep (.fn 141 [.ptr [I n] 0,.ptr [.bool a.li,.bool a.ru,x,.bool b.li,.bool b.ru,y] 0]) e=some e':=by
 have hA:IsA (.agg [.bool a.li,.bool a.ru,x]) a:=.mk _ _ _ _ hx
 have hB:IsA (.agg [.bool b.li,.bool b.ru,y]) b:=.mk _ _ _ _ hy
 refine qlg (qhu fun _=>.cl) (g:=141) (fn:=fn141) rfl (by simp[qb3,okV,hx.ok,hy.ok]) (Nat.le_of_ble_eq_true rfl) (u:=.tup []) ?_
 simp only[List.map_cons,List.map_nil]
 rw[run141,qrx,qxe]
 simp only[qbe]
 rw[show qb9 [nI dep,.ptr [.bool a.li,.bool a.ru,x,.bool b.li,.bool b.ru,y] 0,I n,.int .i64 0]=true from rfl,qbk]
 have key:∀ m i,i+m=n→∀ e e',qc8 h dep ((qda a b i m).map Qkk) e=some e'→qf0 (fun z2=>qba (qbb (.bin .lss .num false (.c (nth z2.1 3)) (.c (nth z2.1 2)))) (fun z3=>qca z3 (qba (qbb (.fieldAddr 0 (.c (nth z2.1 1)))) (fun z4=>qba (qbb (.load 3 true (.c z4))) (fun z5=>qba (qbj B0 .cl (.fn 142 []) [z5,nth z2.1 3]) (fun z6=>qba (qbb (.fieldAddr 3 (.c (nth z2.1 1)))) (fun z7=>qba (qbb (.load 3 true (.c z7))) (fun z8=>qba (qbj B0 .cl (.fn 142 []) [z8,nth z2.1 3]) (fun z9=>qba (h (qbz (nth z2.1 0)) [z6,z9] z2.2) (fun z10=>qba (qbb (.un .not (.c (.bool z10.1)))) (fun z11=>qca z11 (qba (some (PV.tup [],z10.2)) (fun z12=>some (.inr z12))) (qba (qbb (.bin .add .num true (.c (nth z2.1 3)) (.c (.int .i64 1)))) (fun z13=>some (.inl ([nI (qbz (nth z2.1 0)),nth z2.1 1,nth z2.1 2,z13],z10.2))))))))))))) (qba (some (PV.tup [],z2.2)) (fun z14=>some (.inr z14))))) (([nI dep,.ptr [.bool a.li,.bool a.ru,x,.bool b.li,.bool b.ru,y] 0,I n,I i],e):List PV×E)=some (.tup [],e'):=by
  intro m
  induction m with
  | zero =>
   intro i hi e e' hq
   have:i=n:=by omega
   subst this
   cases hq
   refine qch ?_
   simp
  | succ m ih =>
   intro i hi e e' hq
   have hlt:i < n:=by omega
   obtain⟨f1,f2⟩:=hf i hlt
   have o1:=of_run hA f1
   have o2:=of_run hB f2
   have q0:qbb (.load 3 true (.c (.ptr [.bool a.li,.bool a.ru,x,.bool b.li,.bool b.ru,y] 0)))=some (.agg [.bool a.li,.bool a.ru,x]):=rfl
   have q3:qbb (.load 3 true (.c (.ptr [.bool a.li,.bool a.ru,x,.bool b.li,.bool b.ru,y] 3)))=some (.agg [.bool b.li,.bool b.ru,y]):=rfl
   have g0:qbb (.fieldAddr 0 (.c (.ptr [.bool a.li,.bool a.ru,x,.bool b.li,.bool b.ru,y] 0)))=some (.ptr [.bool a.li,.bool a.ru,x,.bool b.li,.bool b.ru,y] 0):=rfl
   have g3:qbb (.fieldAddr 3 (.c (.ptr [.bool a.li,.bool a.ru,x,.bool b.li,.bool b.ru,y] 0)))=some (.ptr [.bool a.li,.bool a.ru,x,.bool b.li,.bool b.ru,y] 3):=rfl
   unfold qda at hq
   simp only[List.map_cons,qc8,Qkk] at hq
   split at hq
   ·rename_i e1 hh
    rw[qdg (s':=([nI dep,.ptr [.bool a.li,.bool a.ru,x,.bool b.li,.bool b.ru,y] 0,I n,I ((i+1:Nat):Int)],e1))]
    ·exact ih (i+1) (by omega) _ _ hq
    ·simp only[qdw,qdv,qd4,qfz,qfw,qbe,qbh]
     rw[if_pos (by simpa using hlt)]
     simp only[g0,g3,q0,q3,o1,o2,qbe,qp9,qfl,qr4,Int.toNat_natCast,hh,qdl,Bool.not_true,qbh,if_false,Bool.false_eq_true,qfg,qri,qzp (by omega:i < 9223372036854775807)]
   ·rename_i e1 hh
    cases hq
    refine qch ?_
    simp only[qdw,qdv,qd4,qfz,qfw,qbe,qbh]
    rw[if_pos (by simpa using hlt)]
    simp only[g0,g3,q0,q3,o1,o2,qbe,qp9,qfl,qr4,Int.toNat_natCast,hh,qdl,Bool.not_false,qbh,if_true]
   ·cases hq
 have:=key n 0 (by omega) e e' hyy
 simpa[qfg] using this
noncomputable def qy9:List PV→List PV→Unit→Option (Bool×KRec Unit):=(fun z25=>fun z26=>fun z27=>qbq (qh1 z26 2) (qba (qca (nth z25 8) (qba (qb2 (nth z25 2) 1 1 false) (fun z28=>qba (qb2 (nth z25 3) 1 1 false) (fun z29=>qba (qbb (.bin .neq .bool false (.c z28) (.c z29))) (fun z30=>some z30)))) (some (.bool false))) (fun z31=>qca z31 (qba (qb2 (nth z25 1) 0 1 false) (fun z32=>qba (qbj B0 .cl (.fn 78 []) [z32,.int .i64 0,.int .i64 1]) (fun z33=>qba (qbb (.extract 0 (.c z33))) (fun z34=>qba (qbb (.extract 1 (.c z33))) (fun z35=>qba (qbb (.bin .neq .num true (.c z35) (.c (.int .i64 0)))) (fun z36=>qca z36 (qba (qbb (.build [.bool false,.bool false,.nilS] [])) (fun z37=>qbq (qbi z37 3) (qbq (qbi z35 1) (some (false,([nth z25 0,nth z25 1,nth z25 2,nth z25 3,qbf z37 0,qbf z37 1,qbf z37 2,qbf z35 0,nth z25 8,nth z25 9,nth z25 10,nI (qbz (nth z25 11)),.sl 1 (qbl (nth z25 12)) false],(some .ret,z27))))))) (qbq (qc7 1 [z34]) (qbq (leN (qdu 0 (qbu [z34])) (qbu [z34])) (qbq (qnj (leN (qbz (nth z25 11)) (qbu (qbl (nth z25 12)))) (leN (qdu (qbz (nth z25 11)) (qbu (qb1 (qbu [z34]) (qcx 0 [z34])))) 2147483648)) (some (true,([nth z25 0,nth z25 1,nth z25 2,nth z25 3,nth z25 4,nth z25 5,nth z25 6,nth z25 7,nth z25 8,nth z25 9,nth z25 10,nI (qdu (qbz (nth z25 11)) (qbu (qb1 (qbu [z34]) (qcx 0 [z34])))),.sl 1 (qpk (qb1 (qbz (nth z25 11)) (qbl (nth z25 12))) (qb1 (qbu [z34]) (qcx 0 [z34]))) false],(none,z27))))))))))))) (qba (qb2 (nth z25 1) 0 1 false) (fun z38=>qba (qbj B0 .cl (.fn 78 []) [z38,nth z26 0,nth z26 1]) (fun z39=>qba (qbb (.extract 0 (.c z39))) (fun z40=>qba (qbb (.extract 1 (.c z39))) (fun z41=>qba (qbb (.bin .neq .num true (.c z41) (.c (.int .i64 0)))) (fun z42=>qca z42 (qba (qbb (.build [.bool false,.bool false,.nilS] [])) (fun z43=>qbq (qbi z43 3) (qbq (qbi z41 1) (some (false,([nth z25 0,nth z25 1,nth z25 2,nth z25 3,qbf z43 0,qbf z43 1,qbf z43 2,qbf z41 0,nth z25 8,nth z25 9,nth z25 10,nI (qbz (nth z25 11)),.sl 1 (qbl (nth z25 12)) false],(some .ret,z27))))))) (qbq (qc7 1 [z40]) (qbq (leN (qdu 0 (qbu [z40])) (qbu [z40])) (qbq (qnj (leN (qbz (nth z25 11)) (qbu (qbl (nth z25 12)))) (leN (qdu (qbz (nth z25 11)) (qbu (qb1 (qbu [z40]) (qcx 0 [z40])))) 2147483648)) (some (true,([nth z25 0,nth z25 1,nth z25 2,nth z25 3,nth z25 4,nth z25 5,nth z25 6,nth z25 7,nth z25 8,nth z25 9,nth z25 10,nI (qdu (qbz (nth z25 11)) (qbu (qb1 (qbu [z40]) (qcx 0 [z40])))),.sl 1 (qpk (qb1 (qbz (nth z25 11)) (qbl (nth z25 12))) (qb1 (qbu [z40]) (qcx 0 [z40]))) false],(none,z27))))))))))))))))
def dyL (f:Int→Int→Int×NE):List (Int×Int)→Sum Int (List Int)
 | []=>.inr []
 | p :: l=>if (f p.1 p.2).2.no≠0 then .inl (f p.1 p.2).2.no else match dyL f l with
  | .inl c=>.inl c
  | .inr r=>.inr ((f p.1 p.2).1 :: r)
def dyF (g:List UInt8) (sub:Bool) (x y:Int):Int×NE:=if sub then nDy g 0 1 else nDy g x y
def dySt (z:PV) (g:List UInt8) (a b:Arr) (x y:PV) (eqv li:Bool) (w:List PV) (k:Nat) (xs:List PV):List PV :=
 [z,.str g,.agg [.bool a.li,.bool a.ru,x],.agg [.bool b.li,.bool b.ru,y]]++w++[.bool eqv,.bool li,.bool false,nI k,.sl 1 xs false]
theorem okSls_one (n:Int):qc7 1 [I n]=true:=rfl
theorem dyBody_run (z:PV) (g:List UInt8) (a b:Arr) (x y:PV) (eqv li:Bool) (c0 c1 c2 c3:PV) (acc:List Int) (hacc:acc.length < 1000000) (p:Int×Int) :
  qy9 (dySt z g a b x y eqv li [c0,c1,c2,c3] acc.length (qcy acc)) (Qkk p) () =
   let r:=dyF g (eqv&&(a.ru != b.ru)) p.1 p.2
   if r.2.no≠0 then some (false,(dySt z g a b x y eqv li [.bool false,.bool false,.nilS,I r.2.no] acc.length (qcy acc),(some .ret,())))
   else some (true,(dySt z g a b x y eqv li [c0,c1,c2,c3] (acc++[r.1]).length (qcy (acc++[r.1])),(none,()))):=by
 unfold qy9 dySt
 simp only[List.cons_append,List.nil_append,qdw,qdv,qd4,qfz,qke,qqy,qr3,qth,Qkr,Qkk]
 rw[show qh1 [I p.1,I p.2] 2=true from rfl,qbk]
 simp only[qbh,qga,qcv,Qje,qxe,qvk,qbe,qm2,dy_run,qgz,List.getElem?_cons_zero,List.getElem?_cons_succ,qfg,Qjw,build0,qdw,qdv,
  show qbi (.agg [.bool false,.bool false,.nilS]) 3=true from rfl,qbk,qnd,qnc,qln,okSls_one]
 have hlen:∀ n,(decide (acc.length≤(qcy acc).length)&&decide (acc.length+((qcy acc).length - (qcy acc).length+1)≤n))=decide (acc.length+1≤n):=fun n=>by simp[qc5]
 have fin:∀ r:Int×NE,(if (r.2.no != 0)=true then qbq (qbi (I r.2.no) 1) (some (false,([z,.str g,.agg [.bool a.li,.bool a.ru,x],.agg [.bool b.li,.bool b.ru,y],.bool false,.bool false,.nilS,qbf (I r.2.no) 0,.bool eqv,.bool li,.bool false,nI (qbz (nth [z,.str g,.agg [.bool a.li,.bool a.ru,x],.agg [.bool b.li,.bool b.ru,y],c0,c1,c2,c3,.bool eqv,.bool li,.bool false,nI acc.length,.sl 1 (qcy acc) false] 11)),.sl 1 (qbl (nth [z,.str g,.agg [.bool a.li,.bool a.ru,x],.agg [.bool b.li,.bool b.ru,y],c0,c1,c2,c3,.bool eqv,.bool li,.bool false,nI acc.length,.sl 1 (qcy acc) false] 12)) false],(some Ex.ret,()))))
   else qbq (leN (qdu 0 (qbu [I r.1])) (qbu [I r.1])) (qbq (qnj (leN (qbz (nth [z,.str g,.agg [.bool a.li,.bool a.ru,x],.agg [.bool b.li,.bool b.ru,y],c0,c1,c2,c3,.bool eqv,.bool li,.bool false,nI acc.length,.sl 1 (qcy acc) false] 11)) (qbu (qbl (nth [z,.str g,.agg [.bool a.li,.bool a.ru,x],.agg [.bool b.li,.bool b.ru,y],c0,c1,c2,c3,.bool eqv,.bool li,.bool false,nI acc.length,.sl 1 (qcy acc) false] 12)))) (leN (qdu (qbz (nth [z,.str g,.agg [.bool a.li,.bool a.ru,x],.agg [.bool b.li,.bool b.ru,y],c0,c1,c2,c3,.bool eqv,.bool li,.bool false,nI acc.length,.sl 1 (qcy acc) false] 11)) (qbu (qb1 (qbu [I r.1]) (qcx 0 [I r.1])))) 2147483648)) (some (true,([z,.str g,.agg [.bool a.li,.bool a.ru,x],.agg [.bool b.li,.bool b.ru,y],c0,c1,c2,c3,.bool eqv,.bool li,.bool false,nI (qdu (qbz (nth [z,.str g,.agg [.bool a.li,.bool a.ru,x],.agg [.bool b.li,.bool b.ru,y],c0,c1,c2,c3,.bool eqv,.bool li,.bool false,nI acc.length,.sl 1 (qcy acc) false] 11)) (qbu (qb1 (qbu [I r.1]) (qcx 0 [I r.1])))),.sl 1 (qpk (qb1 (qbz (nth [z,.str g,.agg [.bool a.li,.bool a.ru,x],.agg [.bool b.li,.bool b.ru,y],c0,c1,c2,c3,.bool eqv,.bool li,.bool false,nI acc.length,.sl 1 (qcy acc) false] 11)) (qbl (nth [z,.str g,.agg [.bool a.li,.bool a.ru,x],.agg [.bool b.li,.bool b.ru,y],c0,c1,c2,c3,.bool eqv,.bool li,.bool false,nI acc.length,.sl 1 (qcy acc) false] 12))) (qb1 (qbu [I r.1]) (qcx 0 [I r.1]))) false],((none:Option Ex),())))))) =
   (if r.2.no≠0 then some (false,([z,.str g,.agg [.bool a.li,.bool a.ru,x],.agg [.bool b.li,.bool b.ru,y],.bool false,.bool false,.nilS,I r.2.no,.bool eqv,.bool li,.bool false,nI acc.length,.sl 1 (qcy acc) false],(some Ex.ret,())))
   else some (true,([z,.str g,.agg [.bool a.li,.bool a.ru,x],.agg [.bool b.li,.bool b.ru,y],c0,c1,c2,c3,.bool eqv,.bool li,.bool false,nI (acc++[r.1]).length,.sl 1 (qcy (acc++[r.1])) false],(none,())))):=by
  intro r
  by_cases h:r.2.no=0
  ·rw[if_neg (by simp[h]),if_neg (by simp[h])]
   show qbq (leN (0+1) 1) (qbq (qnj (leN (qbz (nI acc.length)) (qcy acc).length) (leN (qbz (nI acc.length)+1) 2147483648)) (some (true,(_,(none,())))))=_
   simp only[Qna,Qd8,qp9,qfl,Int.toNat_natCast,qc5]
   rw[show (decide (0+1≤1))=true from rfl,qbk,show (decide (acc.length≤acc.length)&&decide (acc.length+1≤2147483648))=true by simp;omega,qbk]
   have e1:qbz (nI acc.length)=acc.length:=by simp
   show some (true,([z,.str g,.agg [.bool a.li,.bool a.ru,x],.agg [.bool b.li,.bool b.ru,y],c0,c1,c2,c3,.bool eqv,.bool li,.bool false,nI (qbz (nI acc.length)+1),.sl 1 ((qcy acc).take (qbz (nI acc.length))++[I r.1]) false],((none:Option Ex),())))=_
   rw[e1,List.take_of_length_le (by rw[qc5];exact Nat.le_refl _),List.length_append,show qcy (acc++[r.1])=qcy acc++[I r.1] by simp[qcy]]
   rfl
  ·rw[if_pos (by simp[h]),if_pos h]
   rfl
 unfold dyF
 cases eqv with
 | false =>
  simp only[Bool.false_eq_true,if_false,Bool.false_and]
  exact fin _
 | true =>
  simp only[if_true,Bool.true_and]
  have e:(!(a.ru==b.ru))=(a.ru != b.ru):=rfl
  rw[e]
  cases a.ru != b.ru with
  | false =>
   simp only[Bool.false_eq_true,if_false]
   exact fin _
  | true =>
   simp only[if_true]
   exact fin _
theorem Qkn (body:List PV→List PV→Unit→Option (Bool×KRec Unit)) (vs args:List PV):qfs 0 qbc body 0 args (vs,(none,()))=body vs args ():=rfl
theorem dyAll_run (z:PV) (g:List UInt8) (a b:Arr) (x y:PV) (eqv li:Bool) (c0 c1 c2 c3:PV):∀ (ps:List (Int×Int)) (acc:List Int),acc.length+ps.length < 1000000 →
  match dyL (dyF g (eqv&&(a.ru != b.ru))) ps with
  | .inl c=>∃ k xs,qc8 (qfs 0 qbc qy9) 0 (ps.map Qkk) (dySt z g a b x y eqv li [c0,c1,c2,c3] acc.length (qcy acc),(none,()))=some (dySt z g a b x y eqv li [.bool false,.bool false,.nilS,I c] k xs,(some .ret,()))
  | .inr r=>qc8 (qfs 0 qbc qy9) 0 (ps.map Qkk) (dySt z g a b x y eqv li [c0,c1,c2,c3] acc.length (qcy acc),(none,()))=some (dySt z g a b x y eqv li [c0,c1,c2,c3] (acc++r).length (qcy (acc++r)),(none,())):=by
 intro ps
 induction ps with
 | nil=>intro acc _;simp[dyL,qc8]
 | cons p ps ih =>
  intro acc hl
  simp only[List.length_cons] at hl
  have hb:=dyBody_run z g a b x y eqv li c0 c1 c2 c3 acc (by omega) p
  simp only at hb
  unfold dyL
  simp only[List.map_cons,qc8,Qkn]
  rw[hb]
  by_cases h:(dyF g (eqv&&(a.ru != b.ru)) p.1 p.2).2.no=0
  ·simp only[h,ne_eq,not_true_eq_false,if_false]
   have hi:=ih (acc++[(dyF g (eqv&&(a.ru != b.ru)) p.1 p.2).1]) (by simp;omega)
   cases hd:dyL (dyF g (eqv&&(a.ru != b.ru))) ps with
   | inl c =>
    rw[hd] at hi
    exact hi
   | inr r =>
    rw[hd] at hi
    simp only at hi ⊢
    rw[hi]
    simp
  ·simp only[h,ne_eq,not_false_eq_true,if_true]
   exact⟨_,_,rfl⟩
theorem dyTail {a b:Arr} {x y:PV} (hx:IsL x a.n) (hy:IsL y b.n) (g:List UInt8) (eqv li:Bool) (n:Nat) (hn:n < 1000000) (hf:∀ i,i < n→a.fits i∧b.fits i) :
  (qba (qbj B0 .cl (.fn 77 []) [.agg [.bool a.li,.bool a.ru,x,.bool b.li,.bool b.ru,y],I n]) (fun z24=>Qkt (.nilS) (qba (qgd B0 (qfs 0 qbc qy9) 0 z24 ([z24,.str g,.agg [.bool a.li,.bool a.ru,x],.agg [.bool b.li,.bool b.ru,y],.bool false,.bool false,.nilS,.int .i64 0,.bool eqv,.bool li,.bool false,nI 0,.sl 1 [] false],(none,()))) (fun z44=>qrk (qj4 z44.2.1) (qbq (qbi (.int .i64 0) 1) (qbq (okU (PV.tup [.agg [nth z44.1 9,nth z44.1 10,slO 1 1 (qbl (nth z44.1 12)) 0 (qbz (nth z44.1 11))],qbf (.int .i64 0) 0])) (some (PV.tup [.agg [nth z44.1 9,nth z44.1 10,slO 1 1 (qbl (nth z44.1 12)) 0 (qbz (nth z44.1 11))],qbf (.int .i64 0) 0],z44.2.2)))) (qrk (qni z44.2.1) (some (PV.tup [.agg [nth z44.1 4,nth z44.1 5,nth z44.1 6],nth z44.1 7],z44.2.2)) none))))) =
   match dyL (dyF g (eqv&&(a.ru != b.ru))) (qda a b 0 n) with
   | .inl c=>some (PV.tup [Qc4,I c],())
   | .inr r=>some (PV.tup [.agg [.bool li,.bool false,.sl 1 (qcy r) false],I 0],()):=by
 rw[both_run hx hy n]
 simp only[qbe]
 have hlen:(qda a b 0 n).length=n:=by
  have:∀ m i,(qda a b i m).length=m:=by
   intro m
   induction m with
   | zero=>intro i;rfl
   | succ m ih=>intro i;simp[qda,ih]
  exact this n 0
 have hall:=dyAll_run (.fn 141 [.ptr [I n] 0,.ptr [.bool a.li,.bool a.ru,x,.bool b.li,.bool b.ru,y] 0]) g a b x y eqv li (.bool false) (.bool false) .nilS (.int .i64 0) (qda a b 0 n) [] (by simp[hlen];omega)
 unfold Qkt
 dsimp only
 cases hd:dyL (dyF g (eqv&&(a.ru != b.ru))) (qda a b 0 n) with
 | inl c =>
  rw[hd] at hall
  obtain⟨k,xs,hall⟩:=hall
  have hr:=Qf3 (qfs 0 qbc qy9) 0 hx hy n (by omega) hf hall
  unfold dySt at hr
  simp only[List.cons_append,List.nil_append,List.length_nil,show qcy []=[] from rfl] at hr
  rw[hr]
  rfl
 | inr r =>
  rw[hd] at hall
  simp only[List.nil_append] at hall
  have hr:=Qf3 (qfs 0 qbc qy9) 0 hx hy n (by omega) hf hall
  unfold dySt at hr
  simp only[List.cons_append,List.nil_append,List.length_nil,show qcy []=[] from rfl] at hr
  rw[hr]
  have es:slO 1 1 (qcy r) 0 r.length=.sl 1 (qcy r) false:=by
   unfold slO
   rw[if_pos ⟨rfl,by rw[qc5];omega⟩,List.drop_zero,List.take_of_length_le (by rw[qc5];exact Nat.le_refl _)]
  simp only[qbe]
  show qbq (qbi (.int .i64 0) 1) (qbq (okU (PV.tup [.agg [.bool li,.bool false,slO 1 1 (qcy r) 0 (qbz (nI r.length))],qbf (.int .i64 0) 0])) (some (PV.tup [.agg [.bool li,.bool false,slO 1 1 (qcy r) 0 (qbz (nI r.length))],qbf (.int .i64 0) 0],())))=_
  rw[qp9,qfl,Int.toNat_natCast,es,show qbi (.int .i64 0) 1=true from rfl,qbk,show okU (.tup [.agg [.bool li,.bool false,.sl 1 (qcy r) false],qbf (.int .i64 0) 0])=true by
   show okV (.tup [.agg [.bool li,.bool false,.sl 1 (qcy r) false],I 0])=true
   simp[okV,qb3,qkw],qbk]
  rfl
end Go.Ab.Derive2


namespace Go.Ab.Derive2
open Go Go.Ab
theorem build6 {a b:Arr} {x y:PV} (hx:IsL x a.n) (hy:IsL y b.n) :
  qbb (.build [.bool false,.bool false,.nilS,.bool false,.bool false,.nilS] [(0,(3,.c (.agg [.bool a.li,.bool a.ru,x]))),(3,(3,.c (.agg [.bool b.li,.bool b.ru,y])))])=some (.agg [.bool a.li,.bool a.ru,x,.bool b.li,.bool b.ru,y]):=by
 simp[qbb,exec,qhq,RX.ev,PV.cells,qwz (a:=.bool a.li) (b:=.bool a.ru) rfl rfl hx.cell,qwz (a:=.bool b.li) (b:=.bool b.ru) rfl rfl hy.cell,splice,chk]
theorem okCells6 {a b:Arr} {x y:PV} (hx:IsL x a.n) (hy:IsL y b.n):qbi (.agg [.bool a.li,.bool a.ru,x,.bool b.li,.bool b.ru,y]) 6=true:=by
 simp[qbi,PV.isVal,PV.isCell,hx.cell,hy.cell]
theorem okSls3 {a:Arr} {x:PV} (hx:IsL x a.n):qc7 3 [.agg [.bool a.li,.bool a.ru,x]]=true:=by
 simp[qc7,qwz (a:=.bool a.li) (b:=.bool a.ru) rfl rfl hx.cell,PV.cells]
theorem okSls33 {a b:Arr} {x y:PV} (hx:IsL x a.n) (hy:IsL y b.n):qc7 3 [.agg [.bool a.li,.bool a.ru,x],.agg [.bool b.li,.bool b.ru,y]]=true:=by
 simp[qc7,qwz (a:=.bool a.li) (b:=.bool a.ru) rfl rfl hx.cell,qwz (a:=.bool b.li) (b:=.bool b.ru) rfl rfl hy.cell,PV.cells]
def Arr.isEq (g:List UInt8):Bool:=(g==gEq)||(g==gNe)
def Arr.dy (g:List UInt8) (a b:Arr):Arr×Int :=
 if (a.right&&b.right)=false then (qj2,114)
 else if qn7 g=false then (qj2,102)
 else if (a.sz b).2≠0 then (qj2,(a.sz b).2)
 else if !Arr.isEq g&&(a.text||b.text) then (qj2,102)
 else match dyL (dyF g (Arr.isEq g&&(a.ru != b.ru))) (qda a b 0 (a.sz b).1.toNat) with
  | .inl c=>(qj2,c)
  | .inr r=>(⟨a.li||b.li,false,r⟩,0)
theorem qrv {a:Arr} (h:a.right=true):a.n.length≤200:=by
 unfold Arr.right at h
 simp only[Bool.and_eq_true] at h
 cases hl:a.li with
 | true=>simpa[hl] using h.2
 | false=>simp[hl] at h;omega
theorem sz_fits {a b:Arr} (ha:a.right=true) (hb:b.right=true) (hs:(a.sz b).2=0):(a.sz b).1=((a.sz b).1.toNat:Nat)∧(a.sz b).1.toNat≤200∧∀ i,i < (a.sz b).1.toNat→a.fits i∧b.fits i:=by
 have la:=qrv ha
 have lb:=qrv hb
 unfold Arr.right at ha hb
 simp only[Bool.and_eq_true] at ha hb
 have h1:=ha.2
 have h2:=hb.2
 unfold Arr.sz at hs ⊢
 unfold Arr.fits
 cases hl:a.li<;>cases hr:b.li<;>simp[hl,hr] at h1 h2 hs ⊢
 ·refine⟨by omega,fun i hi=>by omega⟩
 ·refine⟨by omega,fun i hi=>by omega⟩
 ·refine⟨by omega,fun i hi=>by omega⟩
 ·by_cases h:a.n.length=b.n.length
  ·simp[h];omega
  ·simp[h] at hs
set_option maxHeartbeats 2000000 in
theorem adyR {v u:PV} {a b:Arr} (hv:IsA v a) (hu:IsA u b) (hla:a.n.length≤1000000) (hlb:b.n.length≤1000000) (g:List UInt8) :
  ∃ w,qbj B0 .cl (.fn 42 []) [.str g,v,u]=some (.tup [w,I (Arr.dy g a b).2])∧IsA w (Arr.dy g a b).1:=by
 have hok:qb3 [.str g,v,u]=true:=by simp[qb3,okV,hv.ok,hu.ok]
 have hri:=Qjr (.cons hv (.cons hu .nil)) (by simp) (by intro c hc;simp at hc;rcases hc with rfl | rfl<;>assumption)
 have htx:=Qmg hv
 have hty:=Qmg hu
 obtain⟨x,rfl,hx⟩:=hv.get
 obtain⟨y,rfl,hy⟩:=hu.get
 have hsz:=size6 hx hy
 suffices key:∃ w,qf8 (qfj B0 (fun _=>.cl)) fn42 (.cl) qbc 0 [.cv (.str g),.cv (.agg [.bool a.li,.bool a.ru,x]),.cv (.agg [.bool b.li,.bool b.ru,y])] ()=some (.tup [w,I (Arr.dy g a b).2],())∧IsA w (Arr.dy g a b).1 by
  obtain⟨w,h1,h2⟩:=key
  exact⟨w,call (d:=fun _=>.cl) rfl (by decide) hok rfl h1,h2⟩
 rw[run42,show qjc (.str g)=true from rfl,qbk,qgy,qgy,qwz rfl rfl hx.cell,qwz rfl rfl hy.cell,qbk,qbk]
 simp only[qga,qcv,sel3_a,qxf,qvk,Qje,qxe,qbe,build6 hx hy,okCells6 hx hy,qbk,okSls33 hx hy]
 rw[show slO 3 3 [.agg [.bool a.li,.bool a.ru,x],.agg [.bool b.li,.bool b.ru,y]] 0 (qbu [.agg [.bool a.li,.bool a.ru,x],.agg [.bool b.li,.bool b.ru,y]])=.sl 3 [.agg [.bool a.li,.bool a.ru,x],.agg [.bool b.li,.bool b.ru,y]] false from rfl,hri]
 simp only[qbe,err_neq,qbh,build0,Qme,List.all_cons,List.all_nil,Bool.and_true]
 unfold Arr.dy
 by_cases hr:(a.right&&b.right)=true
 ·simp only[hr,if_true,ne_eq,not_true_eq_false,decide_false,Bool.false_eq_true,if_false,Qdm,qbe,qdl,qbh,Bool.true_eq_false]
  by_cases hd:qn7 g=true
  ·simp only[hd,Bool.not_true,Bool.false_eq_true,if_false,Bool.true_eq_false]
   rw[show qbj B0 .cl (.fn 76 []) [.agg [qbf (.agg [.bool a.li,.bool a.ru,x,.bool b.li,.bool b.ru,y]) 0,qbf (.agg [.bool a.li,.bool a.ru,x,.bool b.li,.bool b.ru,y]) 1,qbf (.agg [.bool a.li,.bool a.ru,x,.bool b.li,.bool b.ru,y]) 2,qbf (.agg [.bool a.li,.bool a.ru,x,.bool b.li,.bool b.ru,y]) 3,qbf (.agg [.bool a.li,.bool a.ru,x,.bool b.li,.bool b.ru,y]) 4,qbf (.agg [.bool a.li,.bool a.ru,x,.bool b.li,.bool b.ru,y]) 5]]=some (.tup [I (a.sz b).1,Qlq (a.sz b).2]) from hsz]
   simp only[qbe,qgz,List.getElem?_cons_zero,List.getElem?_cons_succ,qwh,qbh,err_neq,Qme]
   by_cases hs:(a.sz b).2=0
   ·simp only[Bool.and_eq_true] at hr
    obtain⟨z1,z2,z3⟩:=sz_fits hr.1 hr.2 hs
    rw[z1]
    generalize (a.sz b).1.toNat=n at z2 z3 ⊢
    have tail:=fun eqv li=>dyTail hx hy g eqv li n (by omega) z3
    have fin:∀ (eqv li:Bool),∃ w,(match dyL (dyF g (eqv&&(a.ru != b.ru))) (qda a b 0 n) with
      | .inl c=>some (PV.tup [Qc4,I c],())
      | .inr r=>some (PV.tup [.agg [.bool li,.bool false,.sl 1 (qcy r) false],I 0],()))=some (PV.tup [w,I (match dyL (dyF g (eqv&&(a.ru != b.ru))) (qda a b 0 n) with
       | .inl c=>(qj2,c)
       | .inr r=>((⟨li,false,r⟩:Arr),0)).2],())∧IsA w (match dyL (dyF g (eqv&&(a.ru != b.ru))) (qda a b 0 n) with
       | .inl c=>(qj2,c)
       | .inr r=>((⟨li,false,r⟩:Arr),0)).1:=by
     intro eqv li
     cases dyL (dyF g (eqv&&(a.ru != b.ru))) (qda a b 0 n) with
     | inl c=>exact⟨_,rfl,qd3⟩
     | inr r=>exact⟨_,rfl,.mk _ _ _ _ (.sl _ _)⟩
    have bl:∀ li:Bool,qbb (.build [.bool false,.bool false,.nilS] [(0,(1,.c (.bool li)))])=some (.agg [.bool li,.bool false,.nilS]):=fun li=>rfl
    have ok3:∀ li:Bool,qbi (.agg [.bool li,.bool false,.nilS]) 3=true:=fun li=>rfl
    by_cases h1:g=gEq
    ·subst h1
     have q1:(gEq==[61])=true:=rfl
     have q2:Arr.isEq gEq=true:=rfl
     simp only[q1,q2,hs,ne_eq,not_true_eq_false,decide_false,Bool.false_eq_true,if_true,if_false,bl,qbe,ok3,qbk,Bool.not_true,Bool.false_and,Bool.true_and]
     cases hli:a.li with
     | true =>
      simp only[if_true,Bool.true_or]
      obtain⟨w,f1,f2⟩:=fin true true
      refine⟨w,Eq.trans (Eq.trans ?_ (tail true true)) f1,f2⟩
      rw[hli]
      rfl
     | false =>
      simp only[if_false,Bool.false_or,Bool.false_eq_true]
      obtain⟨w,f1,f2⟩:=fin true b.li
      refine⟨w,Eq.trans (Eq.trans ?_ (tail true b.li)) f1,f2⟩
      rw[hli]
      rfl
    ·have q1:(g==[61])=false:=by simpa[gEq] using h1
     simp only[q1,hs,ne_eq,not_true_eq_false,decide_false,Bool.false_eq_true,if_true,if_false,bl,qbe,ok3,qbk]
     rw[show qbi (.bool (g==[226,137,160])) 1=true from rfl,qbk,show qbf (.bool (g==[226,137,160])) 0=.bool (g==[226,137,160]) from rfl]
     have q2:Arr.isEq g=(g==[226,137,160]):=by
      unfold Arr.isEq
      rw[show (g==gEq)=false from q1,Bool.false_or];rfl
     rw[q2]
     simp only[qdl,qbe,qbh,htx,hty]
     cases h2:(g==[226,137,160]) with
     | true =>
      simp only[Bool.not_true,Bool.false_eq_true,if_false,Bool.false_and,Bool.true_and]
      cases hli:a.li with
      | true =>
       simp only[if_true,Bool.true_or]
       obtain⟨w,f1,f2⟩:=fin true true
       refine⟨w,Eq.trans (Eq.trans ?_ (tail true true)) f1,f2⟩
       rw[hli]
       rfl
      | false =>
       simp only[if_false,Bool.false_or,Bool.false_eq_true]
       obtain⟨w,f1,f2⟩:=fin true b.li
       refine⟨w,Eq.trans (Eq.trans ?_ (tail true b.li)) f1,f2⟩
       rw[hli]
       rfl
     | false =>
      simp only[Bool.not_false,if_true,Bool.true_and]
      cases ht1:a.text with
      | true=>simp only[if_true,Bool.true_or];exact⟨_,rfl,qd3⟩
      | false =>
       cases ht2:b.text with
       | true=>simp only[if_true,Bool.false_or,if_false,Bool.false_eq_true];exact⟨_,rfl,qd3⟩
       | false =>
        simp only[if_false,Bool.false_or,Bool.false_eq_true]
        cases hli:a.li with
        | true =>
         simp only[if_true,Bool.true_or]
         obtain⟨w,f1,f2⟩:=fin false true
         refine⟨w,Eq.trans (Eq.trans ?_ (tail false true)) f1,f2⟩
         rw[hli]
         rfl
        | false =>
         simp only[if_false,Bool.false_or,Bool.false_eq_true]
         obtain⟨w,f1,f2⟩:=fin false b.li
         refine⟨w,Eq.trans (Eq.trans ?_ (tail false b.li)) f1,f2⟩
         rw[hli]
         rfl
   ·simp only[hs,ne_eq,not_false_eq_true,decide_true,if_true]
    cases (g==[61]) with
    | true=>exact⟨Qc4,rfl,qd3⟩
    | false=>exact⟨Qc4,rfl,qd3⟩
  ·have hd':qn7 g=false:=by simpa using hd
   simp only[hd',Bool.not_false,if_true]
   exact⟨Qc4,rfl,qd3⟩
 ·have hr':(a.right&&b.right)=false:=by simpa using hr
  simp only[hr',Bool.false_eq_true,if_false,if_true]
  exact⟨Qc4,rfl,qd3⟩
end Go.Ab.Derive2


namespace Go.Ab.Derive2
open Go Go.Ab
section
variable {x0 x1 x2 x3 x4 x5 x6 x7:PV}
end
end Go.Ab.Derive2


namespace Go.Ab.Derive2
open Go Go.Ab
section
variable {g:List UInt8} {n:Int} (hU:qbj B0 .cl (.fn 178 []) [.str g]=some (.tup [.int .i64 n,.bool false]))
include hU
end
end Go.Ab.Derive2


namespace Go.Ab.Derive2
open Go Go.Ab
theorem of_io {g:List UInt8}:ioO B0 sh49 49 [.str g]=some [.int .u32 0,.int .i32 0,.int .u32 0,.str g,.bool false,.bool false,.nilS,.nilI]:=by
 refine qmd (qhu fun _=>.cl) (fn:=fn49) rfl (Pf:=shs49) rfl (xs:=[]) (obs:=[]) rfl rfl rfl ?_
 rw[show shs49 [] []=sh49 from rfl,run49]
 rfl
end Go.Ab.Derive2


namespace Go.Ab.Derive2
open Go Go.Ab
theorem Qf0 {E α β:Type} {B:KB} {h:qbg E} {dep:Nat} {f:PV} {e:E} {K:E→Option β} (st:Nat→α→E) (l:List (List PV)) (P:Nat→α→Prop) (Q:β→Prop) (hr:∀ {e'},qc8 h dep l e=some e'→qgd B h dep f e=some e') {a0:α} (he0:e=st 0 a0) (h0:P 0 a0)
  (hs:∀ i a (hi:i < l.length),P i a→(∃ a',h dep l[i] (st i a)=some (true,st (i+1) a')∧P (i+1) a')∨∃ e',h dep l[i] (st i a)=some (false,e')∧∃ r,K e'=some r∧Q r)
  (he:∀ a,P l.length a→∃ r,K (st l.length a)=some r∧Q r):∃ r,qba (qgd B h dep f e) K=some r∧Q r:=by
 obtain⟨e',h1,r,h2,h3⟩:=Qfe (h:=h) (d:=dep) st l P (fun e'=>∃ r,K e'=some r∧Q r) hs he h0
 subst he0
 refine⟨r,?_,h3⟩
 rw[hr h1]
 exact h2
theorem dyn_run {v u:PV} {a b:Arr} (hv:IsA v a) (hu:IsA u b) (hla:a.n.length≤1000000) (hlb:b.n.length≤1000000) {g:List UInt8} (hg:qn7 g=true) :
  ∃ w,qbj B0 .cl (.fn 16 []) [.str g,v,u]=some (.tup [w,I (Arr.dy g a b).2])∧IsA w (Arr.dy g a b).1:=by
 obtain⟨w,h1,h2⟩:=adyR hv hu hla hlb g
 refine⟨w,call (d:=fun _=>.cl) rfl (by decide) (by simp[qb3,okV,hv.ok,hu.ok]) rfl ?_,h2⟩
 rw[List.map_cons,List.map_cons,List.map_cons,List.map_nil,run16,qgt hv,cT,qgt hu,cT,Qdm,bV,hg]
 simp only[qbh,if_true,ql1 hv,ql1 hu,bV,h1,qgz,List.getElem?_cons_zero,List.getElem?_cons_succ,qcq h2,cT,qhw h2]
theorem result_run {v:PV} {a:Arr} (hv:IsA v a) (c:Int):∃ w,qbj B0 .cl (.fn 150 []) [v,I c]=some (.tup [w,qt4 c])∧IsA w (if c=0 then a else qj2):=by
 by_cases h:c=0
 ·subst h
  refine⟨v,call (d:=fun _=>.cl) rfl (by decide) (by simp[qb3,okV,hv.ok,I]) rfl ?_,by rw[if_pos rfl];exact hv⟩
  rw[List.map_cons,List.map_cons,List.map_nil,run150,qgt hv,cT,iD,Qjw,bV]
  simp only[qbh,bne_self_eq_false,Bool.false_eq_true,if_false,ql1 hv,bV,qcq hv,cT,qhw hv]
  rfl
 ·refine⟨Qc4,call (d:=fun _=>.cl) rfl (by decide) (by simp[qb3,okV,hv.ok,I]) rfl ?_,by rw[if_neg h];exact qd3⟩
  rw[List.map_cons,List.map_cons,List.map_nil,run150,qgt hv,cT,iD,Qjw,bV]
  rw[qbh,if_pos (by simpa using h),show qbb (.build [I 0] [(0,(1,.c (I c)))])=some (.agg [I c]) from rfl,bV,show qt4 c=.iface 124 (.agg [I c]) from if_neg h]
  rfl
def qwe (vs:List PV):List (List PV):=(List.range vs.length).map fun i=>[I ((vs.length - 1 - i:Nat):Int),vs.getD (vs.length - 1 - i) .undef]
theorem back_fn {vs:List PV} (f:Bool) (hok:qb3 vs=true):qbj B0 .cl (.fn 149 []) [.sl 3 vs f]=some (.fn 179 [.ptr [.sl 3 vs f] 0]):=by
 refine call (d:=fun _=>.cl) rfl (by decide) (by simp[qb3,okV,hok]) rfl ?_
 rw[List.map_cons,List.map_nil,run149,show qjc (.sl 3 vs f)=true from rfl,cT]
 have:okU (.fn 179 [.ptr [.sl 3 vs f] 0])=true:=by simp[okU,okV,qb3,hok]
 show qbq (okU (.fn 179 [.ptr [.sl 3 vs f] 0])) _=_
 rw[this];rfl
theorem back_range {E:Type} (h:qbg E) (dep:Nat) {vs:List PV} (f:Bool) (hok:qb3 vs=true) (hl:vs.length≤1000000) (hs:∀ v∈vs,∃ a b c,v=.agg [a,b,c]) {e e':E} (hy:qc8 h dep (qwe vs) e=some e') :
  qgd B0 h dep (.fn 179 [.ptr [.sl 3 vs f] 0]) e=some e':=by
 refine qlg (qhu fun _=>.cl) (g:=179) (fn:=fn179) rfl (by simp[qb3,okV,hok]) (Nat.le_of_ble_eq_true rfl) (u:=.tup []) ?_
 simp only[List.map_cons,List.map_nil]
 have l1:qbb (.load 1 false (.c (.ptr [.sl 3 vs f] 0)))=some (.sl 3 vs f):=rfl
 have hlen:(qwe vs).length=vs.length:=by simp[qwe]
 rw[run179,l1,bV,qgk,bV,iD,iD,I_sub,w64 (by omega) (by omega),bV,show qb9 [nI dep,.ptr [.sl 3 vs f] 0,I ((vs.length:Int) - 1)]=true from rfl,cT]
 have hgo:∀ i,i < vs.length→(qwe vs)[i]?=some [I ((vs.length - 1 - i:Nat):Int),vs.getD (vs.length - 1 - i) .undef]∧∃ a b c,vs[vs.length - 1 - i]?=some (.agg [a,b,c])∧vs.getD (vs.length - 1 - i) .undef=.agg [a,b,c]:=by
  intro i hi
  refine⟨by simp[qwe,hi],?_⟩
  have hlt:vs.length - 1 - i < vs.length:=by omega
  obtain⟨a,b,c,habc⟩:=hs _ (List.getElem_mem hlt)
  exact⟨a,b,c,by rw[List.getElem?_eq_getElem hlt,habc],by rw[List.getD_eq_getElem?_getD,List.getElem?_eq_getElem hlt,habc];rfl⟩
 have e0:∀ i,i < vs.length→(vs.length:Int) - 1 - (i:Int)=((vs.length - 1 - i:Nat):Int):=by intro i hi;omega
 rw[show (vs.length:Int) - 1=(vs.length:Int) - 1 - ((0:Nat):Int) by simp]
 refine (qtl (h:=h) (d:=dep) (fun i=>[nI dep,.ptr [.sl 3 vs f] 0,I ((vs.length:Int) - 1 - (i:Int))]) (qwe vs) (fun e=>(PV.tup [],e)) ?_ ?_ ?_ hy)
 ·intro i hi e e' hq
  rw[hlen] at hi
  obtain⟨g1,a,b,c,g2,g3⟩:=hgo i hi
  rw[(List.getElem?_eq_some_iff.1 g1).2,g3] at hq
  simp only[qdw,qdv,qd4]
  rw[e0 i hi]
  simp only[iD,I_geq,bV,qbh]
  rw[if_pos (by simpa using Int.natCast_nonneg _)]
  simp only[l1,bV,Qgr g2,Qdb,qp9,qfl,qr4,Int.toNat_natCast,hq,qdl,Bool.not_true,qbh,Bool.false_eq_true,if_false,I_sub]
  rw[w64 (by omega) (by omega),show ((vs.length - 1 - i:Nat):Int) - 1=(vs.length:Int) - 1 - ((i+1:Nat):Int) by omega]
 ·intro i hi e e' hq
  rw[hlen] at hi
  obtain⟨g1,a,b,c,g2,g3⟩:=hgo i hi
  rw[(List.getElem?_eq_some_iff.1 g1).2,g3] at hq
  simp only[qdw,qdv,qd4]
  rw[e0 i hi]
  simp only[iD,I_geq,bV,qbh]
  rw[if_pos (by simpa using Int.natCast_nonneg _)]
  simp only[l1,bV,Qgr g2,Qdb,qp9,qfl,qr4,Int.toNat_natCast,hq,qdl,Bool.not_false,qbh,if_true]
 ·intro e
  rw[hlen]
  simp only[qdw,qdv,qd4,iD,I_geq,bV,qbh]
  rw[if_neg (by simp;omega)]
end Go.Ab.Derive2


namespace Go.Ab.Derive2
open Go Go.Ab
theorem Qm1 (a0 a1 a2 a3 a4 a5 a6 a7 a8 a9 a10 a11 a12 a13 x:PV) (l:List PV):nth (a0 :: a1 :: a2 :: a3 :: a4 :: a5 :: a6 :: a7 :: a8 :: a9 :: a10 :: a11 :: a12 :: a13 :: x :: l) 14=x:=rfl
theorem Qm0 (a0 a1 a2 a3 a4 a5 a6 a7 a8 a9 a10 a11 a12 a13 a14 x:PV) (l:List PV):nth (a0 :: a1 :: a2 :: a3 :: a4 :: a5 :: a6 :: a7 :: a8 :: a9 :: a10 :: a11 :: a12 :: a13 :: a14 :: x :: l) 15=x:=rfl
def fresh (g:List UInt8):List PV:=[.int .u32 0,.int .i32 0,.int .u32 0,.str g,.bool false,.bool false,.nilS,.nilI]
def redF (D:Arr→Arr→Arr×Int):List Arr→Arr→Arr×Int
 | [],o=>(o,0)
 | x :: xs,o=>if (D x o).2=0 then redF D xs (D x o).1 else (qj2,(D x o).2)
def Qkf (D:Arr→Arr→Arr×Int) (N:Arr×Int) (b:Arr):Arr×Int :=
 match b.n.reverse with
 | []=>N
 | n :: r=>redF D (r.map (qjn b.ru)) (qjn b.ru n)
structure DyOK (g:List UInt8) (D:Arr→Arr→Arr×Int):Prop where
 run:∀ {v u:PV} {a b:Arr},IsA v a→IsA u b→a.n.length≤1000000→b.n.length≤1000000→∃ w,qbj B0 .cl (.fn 16 []) [.str g,v,u]=some (.tup [w,I (D a b).2])∧IsA w (D a b).1
 le:∀ a b,(D a b).1.n.length≤1000000
theorem redF_le {D:Arr→Arr→Arr×Int} (hD:∀ a b,(D a b).1.n.length≤1000000):∀ (l:List Arr) (o:Arr),o.n.length≤1000000→(redF D l o).1.n.length≤1000000
 | [],_,h=>h
 | x :: xs,o,h=>by
  unfold redF
  split
  ·exact redF_le hD xs _ (hD x o)
  ·simp[qj2]
theorem Qk0 {b:Arr} (h:b.n≠[]):∃ r m,b.n=r.reverse++[m]∧b.n.reverse=m :: r:=by
 cases hr:b.n.reverse with
 | nil=>exact absurd (List.reverse_eq_nil_iff.1 hr) h
 | cons m r =>
  refine⟨r,m,?_,rfl⟩
  have:=congrArg List.reverse hr
  simpa using this
theorem sl_hi {k m:Nat} {xs:List PV} {f:Bool} (h:m≤xs.length):qbb (.slice k (.c (.sl k xs f)) none (some (.c (I m))) none)=some (.sl k (xs.take m) (f&&m==xs.length)):=by
 simp[qbb,exec,RX.ev,evO,qk9,qnk,chk,I,h,qh3]
theorem qy6 (c:Int):qbf (qt4 c) 0=qt4 c:=by unfold qt4;split<;>rfl
theorem Qkp (c:Int):qbi (qt4 c) 1=true:=by unfold qt4;split<;>rfl
theorem itm_agg (ru:Bool) (n:Int):PV.agg [qbf (qwq ru n) 0,qbf (qwq ru n) 1,qbf (qwq ru n) 2]=qwq ru n:=rfl
theorem qxj {g:List UInt8} {D:Arr→Arr→Arr×Int} (hD:DyOK g D) (N:Arr×Int) {v:PV} {b:Arr} (hv:IsA v b) (hl:b.n.length≤1000000) (hne:b.n≠[]) :
  ∃ w,ioO B0 sh84 84 (v :: fresh g)=some (w :: qt4 (Qkf D N b).2 :: fresh g)∧IsA w (Qkf D N b).1:=by
 obtain⟨x,rfl,hx⟩:=hv.get
 suffices key:∃ rs,qnf (qfj B0 fun _=>.cl) fn84 sh84 (.agg [.bool b.li,.bool b.ru,x] :: fresh g)=some rs∧∃ w,rs=w :: qt4 (Qkf D N b).2 :: fresh g∧IsA w (Qkf D N b).1 by
  obtain⟨rs,h1,w,rfl,h2⟩:=key
  exact⟨w,qmd (qhu fun _=>.cl) (fn:=fn84) rfl (Pf:=shs84) rfl (xs:=[]) (obs:=[]) rfl rfl (by simp[qb3,okV,hx.ok,fresh]) h1,h2⟩
 obtain⟨r,m,hb,hbr⟩:=Qk0 hne
 have hpos:0 < b.n.length:=by rw[hb];simp
 have hrl:r.length+1=b.n.length:=by rw[hb];simp
 have hR:Qkf D N b=redF D (r.map (qjn b.ru)) (qjn b.ru m):=by unfold Qkf;rw[hbr]
 have hvs:b.n.map (qwq b.ru)=r.reverse.map (qwq b.ru)++[qwq b.ru m]:=by rw[hb];simp
 unfold fresh
 rw[run84,Qfg hx,cT]
 simp only[qga,qcv,qqg,sel3_a,bV,hx.len,iD,qvb,qbh]
 rw[if_neg (by simp;omega),agg33 hx,bV,items_fn hx,bV]
 rw[Qly (f:=.fn 93 [.ptr [.bool b.li,.bool b.ru,x] 0]) (l:=b.n.map (qjn b.ru)) (vs:=b.n.map (qwq b.ru)) (by simp[okV,qb3,hx.ok]) (Qk9 _ _) (by simpa using hl) fun h e e' hq=>Qla h 0 hx hl (by rw[List.map_map] at hq;exact hq),bV,qgk,bV]
 rw[List.length_map,iD,I_sub,w64 (by omega) (by omega),bV,show (b.n.length:Int) - 1=((r.length:Nat):Int) by omega]
 have hlast:(b.n.map (qwq b.ru))[r.length]?=some (.agg [.bool false,.bool b.ru,.sl 1 [I m] false]):=by
  rw[hvs,List.getElem?_append_right (by simp)];simp[qwq]
 rw[Qgr hlast,bV,Qdb,bV,show qbi (.agg [.bool false,.bool b.ru,.sl 1 [I m] false]) 3=true from rfl,cT]
 rw[bV,I_sub,w64 (by omega) (by omega),bV,show (b.n.length:Int) - 1=((r.length:Nat):Int) by omega]
 rw[sl_hi (k:=3) (m:=r.length) (by rw[List.length_map];omega),bV]
 have htake:(b.n.map (qwq b.ru)).take r.length=r.reverse.map (qwq b.ru):=by
  rw[hvs,List.take_append_of_le_length (by simp)]
  exact List.take_of_length_le (by simp)
 rw[htake]
 generalize hus:r.reverse.map (qwq b.ru)=us
 have husl:us.length=r.length:=by rw[←hus];simp
 have husok:qb3 us=true:=by
  rw[←hus]
  exact (Qk9 b.ru r.reverse).ok
 have hust:∀ v∈us,∃ a b c,v=.agg [a,b,c]:=by
  intro v hv
  rw[←hus] at hv
  obtain⟨n,_,rfl⟩:=List.mem_map.1 hv
  exact⟨_,_,_,rfl⟩
 have hbl:(qwe us).length=r.length:=by simp[qwe,husl]
 have hbi:∀ i (hi:i < r.length) (h2:i < (qwe us).length),(qwe us)[i]=[I ((r.length - 1 - i:Nat):Int),qwq b.ru r[i]]:=by
  intro i hi h2
  simp only[qwe,List.getElem_map,List.getElem_range,husl]
  rw[←hus,List.getD_eq_getElem?_getD,List.getElem?_map,List.getElem?_reverse (by omega),show r.length - 1 - (r.length - 1 - i)=i by omega,List.getElem?_eq_getElem hi]
  rfl
 rw[back_fn _ husok,bV,hR]
 clear hR
 generalize hRR:redF D (r.map (qjn b.ru)) (qjn b.ru m)=R
 let z16:PV:=.fn 179 [.ptr [.sl 3 us (false&&r.length==(b.n.map (qwq b.ru)).length)] 0]
 refine Qf0 (fun _ w=>(([z16,.int .u32 0,.int .i32 0,.int .u32 0,.str g,.bool false,.bool false,.nilS,.nilI,.bool false,.bool false,.nilS,.nilI,qbf w 0,qbf w 1,qbf w 2],(none,())):KRec Unit)) (qwe us)
  (fun i w=>∃ o,IsA w o∧o.n.length≤1000000∧redF D ((r.drop i).map (qjn b.ru)) o=R)
  (fun rs=>∃ w,rs=w :: qt4 R.2 :: fresh g∧IsA w R.1)
  (fun hq=>back_range _ 0 _ husok (by omega) hust hq) (a0:=qwq b.ru m) rfl ⟨qjn b.ru m,Qnj _ _,by simp[qjn],hRR⟩ ?_ ?_
 ·rintro i w hi ⟨o,hw,ho,hq⟩
  have hi':i < r.length:=by omega
  rw[hbi i hi' hi]
  rw[List.drop_eq_getElem_cons hi',List.map_cons] at hq
  unfold redF at hq
  obtain⟨w2,h1,h2⟩:=hD.run (Qnj b.ru r[i]) hw (by simp[qjn]) ho
  obtain⟨w3,h3,h4⟩:=result_run h2 (D (qjn b.ru r[i]) o).2
  simp only[qfs,if_true,qdw,qdv,qd4,qfz,qke,qqy,qr3,qth,Qkr,nth_9,Qgh,Qgg,Qgf,Qge,Qm1,Qm0]
  rw[show qh1 [I ((r.length - 1 - i:Nat):Int),qwq b.ru r[i]] 2=true from rfl,cT,show qbi (qwq b.ru r[i]) 3=true from rfl,cT,itm_agg,qhw hw,h1,bV]
  simp only[qgz,List.getElem?_cons_zero,List.getElem?_cons_succ,bV,h3,qcq h4,cT,Qn1,qbh]
  by_cases hc:(D (qjn b.ru r[i]) o).2=0
  ·left
   refine⟨w3,?_,(D (qjn b.ru r[i]) o).1,by rw[if_pos hc] at h4;exact h4,hD.le _ _,by rw[if_pos hc] at hq;exact hq⟩
   rw[if_neg (by simpa using hc)]
  ·right
   rw[if_pos (by simpa using hc)]
   rw[if_neg hc] at hq
   refine⟨_,by rw[Qkp,cT],?_⟩
   refine⟨_,rfl,Qc4,?_,by rw[←hq];exact qd3⟩
   rw[←hq,qy6]
   rfl
 ·rintro w ⟨o,hw,ho,hq⟩
  rw[hbl,List.drop_length,List.map_nil] at hq
  unfold redF at hq
  refine⟨_,rfl,w,?_,by rw[←hq];exact hw⟩
  rw[←hq]
  simp only[qdw,qdv,qd4,qfz,qke,qqy,qr3,qth,Qkr,nth_9,Qgh,Qgg,Qgf,Qge,Qm1,Qm0,qhw hw]
  rfl
def headV (ru:Bool) (l:List Int) (i:Nat):PV:=.agg [.bool true,.bool ru,.sl 1 (qcy (l.take (i+1))) true]
def Qdq (ru:Bool) (l:List Int) (i:Nat):Arr:=⟨true,ru,l.take (i+1)⟩
theorem head_is (ru:Bool) (l:List Int) (i:Nat):IsA (headV ru l i) (Qdq ru l i):=.mk _ _ _ _ (.sl _ _)
theorem heads_fn {a:Arr} {x:PV} (h:IsL x a.n):qbj B0 .cl (.fn 87 []) [.agg [.bool a.li,.bool a.ru,x]]=some (.fn 151 [.ptr [.bool a.li,.bool a.ru,x] 0]):=by
 refine call (d:=fun _=>.cl) rfl (by decide) (by simp[qb3,okV,h.ok]) rfl ?_
 rw[List.map_cons,List.map_nil,run87,Qfg h,cT]
 have:okU (.fn 151 [.ptr [.bool a.li,.bool a.ru,x] 0])=true:=by simp[okU,okV,qb3,h.ok]
 show qbq (okU (.fn 151 [.ptr [.bool a.li,.bool a.ru,x] 0])) _=_
 rw[this];rfl
theorem hi3 {l:List Int} {k:Nat} {f:Bool} (h:k≤l.length):qbb (.slice 1 (.c (.sl 1 (qcy l) f)) none (some (.c (I k))) (some (.c (I k))))=some (.sl 1 (qcy (l.take k)) true):=by
 have h2:k≤(qcy l).length:=by rw[qc5];exact h
 simp[qbb,exec,RX.ev,evO,qk9,qnk,chk,I,h2,qye,qh3]
theorem Qlf {E:Type} (h:qbg E) (dep:Nat) {a:Arr} {x:PV} (hx:IsL x a.n) (hl:a.n.length≤1000000) {e e':E} (hy:qc8 h dep ((List.range a.n.length).map fun i=>[headV a.ru a.n i]) e=some e') :
  qgd B0 h dep (.fn 151 [.ptr [.bool a.li,.bool a.ru,x] 0]) e=some e':=by
 refine qlg (qhu fun _=>.cl) (g:=151) (fn:=fn151) rfl (by simp[qb3,okV,hx.ok]) (Nat.le_of_ble_eq_true rfl) (u:=.tup []) ?_
 simp only[List.map_cons,List.map_nil]
 rw[run151,fa3_0,bV,fa3_2,bV,ld3_2,bV,hx.len,bV,show qb9 [nI dep,.ptr [.bool a.li,.bool a.ru,x] 0,I a.n.length,.int .i64 0]=true from rfl,cT]
 have hsl:∀ i,i < a.n.length→qbb (.slice 1 (.c x) none (some (.c (I ((i+1:Nat):Int)))) (some (.c (I ((i+1:Nat):Int)))))=some (.sl 1 (qcy (a.n.take (i+1))) true):=by
  intro i hi
  generalize hn:a.n=n at hx hi
  cases hx with
  | nil=>simp at hi
  | sl l f=>exact hi3 (by omega)
 have hbd:∀ (ru:Bool) (l:List Int),qbb (.build [.bool false,.bool false,.nilS] [(0,(1,.c (.bool true))),(1,(1,.c (.bool ru))),(2,(1,.c (.sl 1 (qcy l) true)))])=some (.agg [.bool true,.bool ru,.sl 1 (qcy l) true]):=fun _ _=>rfl
 refine (qtl (h:=h) (d:=dep) (fun i=>[nI dep,.ptr [.bool a.li,.bool a.ru,x] 0,I a.n.length,I i]) ((List.range a.n.length).map fun i=>[headV a.ru a.n i]) (fun e=>(PV.tup [],e)) ?_ ?_ ?_ hy)
 ·intro i hi e e' hq
  rw[List.length_map,List.length_range] at hi
  rw[List.getElem_map,List.getElem_range] at hq
  simp only[qdw,qdv,qd4,qfz,qfw,bV,qbh]
  rw[if_pos (by simpa using hi)]
  simp only[fa3_0,fa3_1,fa3_2,ld3_1,ld3_2,bV,iD,qri,qzp (by omega:i < 9223372036854775807),hsl i hi,hbd]
  rw[show PV.agg [.bool true,.bool a.ru,.sl 1 (qcy (a.n.take (i+1))) true]=headV a.ru a.n i from rfl]
  simp only[qp9,qfl,qr4,Int.toNat_natCast,hq,bV,qdl,Bool.not_true,qbh,Bool.false_eq_true,if_false]
 ·intro i hi e e' hq
  rw[List.length_map,List.length_range] at hi
  rw[List.getElem_map,List.getElem_range] at hq
  simp only[qdw,qdv,qd4,qfz,qfw,bV,qbh]
  rw[if_pos (by simpa using hi)]
  simp only[fa3_0,fa3_1,fa3_2,ld3_1,ld3_2,bV,iD,qri,qzp (by omega:i < 9223372036854775807),hsl i hi,hbd]
  rw[show PV.agg [.bool true,.bool a.ru,.sl 1 (qcy (a.n.take (i+1))) true]=headV a.ru a.n i from rfl]
  simp only[qp9,qfl,qr4,Int.toNat_natCast,hq,bV,qdl,Bool.not_false,qbh,if_true]
 ·intro e
  rw[List.length_map,List.length_range]
  simp only[qdw,qdv,qd4,qfz,qfw,bV,qbh,Int.lt_irrefl,decide_false,Bool.false_eq_true,if_false]
end Go.Ab.Derive2


namespace Go.Ab.Derive2
open Go Go.Ab
def thrF (F:Arr→Arr×Int):List Arr→Sum Int (List Arr)
 | []=>.inr []
 | a :: l=>if (F a).2=0 then (match thrF F l with
  | .inl c=>.inl c
  | .inr r=>.inr ((F a).1 :: r)) else .inl (F a).2
theorem Qfk (F:Arr→Arr×Int) (a:Arr) (l:List Arr):thrF F (a :: l)=if (F a).2=0 then (match thrF F l with
  | .inl c=>.inl c
  | .inr r=>.inr ((F a).1 :: r)) else .inl (F a).2:=rfl
def thrJ (acc:List Arr):Sum Int (List Arr)→Sum Int (List Arr)
 | .inl c=>.inl c
 | .inr r=>.inr (acc++r)
theorem thrJ_nil (x:Sum Int (List Arr)):thrJ [] x=x:=by cases x<;>rfl
def thrA (F:Arr→Arr×Int) (b:Arr) (l:List Arr):Arr×Int :=
 match thrF F l with
 | .inl c=>(qj2,c)
 | .inr r=>(gatA b.li b.ru r,Qb0 b.li r)
theorem okSls_is {v:PV} {a:Arr} (h:IsA v a):qc7 3 [v]=true:=by
 obtain⟨x,rfl,hx⟩:=h.get
 exact okSls3 hx
theorem build_is {v:PV} {a:Arr} (h:IsA v a):qbb (.build [.bool false,.bool false,.nilS] [(0,(3,.c v))])=some v:=by
 obtain⟨x,rfl,hx⟩:=h.get
 exact agg33 hx
theorem through_0 {g:List UInt8} {F:Arr→Arr×Int} {v fv:PV} {b:Arr} {vs:List PV} {l:List Arr} (hv:IsA v b) (hf:okV fv=true) (hvs:Qfc vs l) (hl:l.length≤1000000)
  (hr:∀ {E:Type} (h:qbg E) {e e':E},qc8 h 0 (vs.map fun v=>[v]) e=some e'→qgd B0 h 0 fv e=some e')
  (hdo:∀ {v:PV} {a:Arr},IsA v a→a∈l→∃ w,ioO B0 sh84 84 (v :: fresh g)=some (w :: qt4 (F a).2 :: fresh g)∧IsA w (F a).1) (hF:∀ a∈l,(F a).1.n.length≤1000000) :
  ∃ w,ioO B0 Qft 86 (v :: fv :: fresh g)=some (w :: qt4 (thrA F b l).2 :: fresh g)∧IsA w (thrA F b l).1:=by
 suffices key:∃ rs,qnf (qfj B0 fun _=>.cl) fn86 Qft (v :: fv :: fresh g)=some rs∧∃ w,rs=w :: qt4 (thrA F b l).2 :: fresh g∧IsA w (thrA F b l).1 by
  obtain⟨rs,h1,w,rfl,h2⟩:=key
  exact⟨w,qmd (qhu fun _=>.cl) (fn:=fn86) rfl (Pf:=shs86) rfl (xs:=[.cv .nilI,.cv .nilI,.fn 1000084 []]) (obs:=[]) rfl rfl (by simp[qb3,okV,hv.ok,hf,fresh]) h1,h2⟩
 have hlen:=hvs.len
 unfold fresh
 rw[run86_0,qgt hv,cT]
 refine Qf0 (fun i xs=>(([fv,.int .u32 0,.int .i32 0,.int .u32 0,.str g,.bool false,.bool false,.nilS,.nilI,v,.bool false,.bool false,.nilS,.nilI,nI i,.sl 3 xs false],(none,())):KRec Unit)) (vs.map fun v=>[v])
  (fun i xs=>∃ acc,Qfc xs acc∧xs.length=i∧(∀ a∈acc,a.n.length≤1000000)∧thrF F l=thrJ acc (thrF F (l.drop i)))
  (fun rs=>∃ w,rs=w :: qt4 (thrA F b l).2 :: fresh g∧IsA w (thrA F b l).1)
  (fun hq=>hr _ hq) (a0:=[]) rfl ⟨[],.nil,rfl,by simp,by rw[List.drop_zero];exact (thrJ_nil _).symm⟩ ?_ ?_
 ·rintro i xs hi ⟨acc,ha,hxl,hsz,hq⟩
  rw[List.length_map] at hi
  have hi':i < l.length:=by omega
  obtain⟨u,h3,h4⟩:=hvs.get i hi'
  have hu:vs[i]=u:=by rw[List.getElem?_eq_getElem hi] at h3;exact Option.some.inj h3
  rw[List.getElem_map,hu]
  rw[List.drop_eq_getElem_cons hi'] at hq
  rw[Qfk] at hq
  obtain⟨w,h1,h2⟩:=hdo h4 (List.getElem_mem hi')
  unfold fresh at h1
  simp only[qfs,if_true,qdw,qdv,qd4,qfz,qke,qqy,qr3,qth,Qkr,nth_9,Qgh,Qgg,Qgf,Qge,Qm1,Qm0]
  rw[show qh1 [u] 1=true by simp[qh1,qb3,h4.ok],cT,qcq h4,cT,qhw h4,h1,bV]
  simp only[qdw,qdv,qd4,qfz,qke,qqy,qr3,qth,Qkr,nth_9]
  rw[qcq h2,cT,Qn1,bV,qbh]
  by_cases hc:(F l[i]).2=0
  ·left
   rw[if_neg (by simpa using hc),qhw h2,okSls_is h2,cT]
   rw[if_pos hc] at hq
   refine⟨xs++[w],?_,acc++[(F l[i]).1],ha.snoc h2,by simp[hxl],?_,?_⟩
   ·simp only[Ql4,lenL_eq,Qna,qp9,qfl,Int.toNat_natCast,qdz,Qmh,Qn2,catL_eq,Qd8,List.length_singleton,List.drop_zero,List.take_succ_cons,List.take_zero,hxl]
    rw[show decide (0+1≤1)=true from rfl,cT,show (decide (i≤i)&&decide (i+1≤2147483648))=true by simp;omega,cT,List.take_of_length_le (by omega)]
   ·intro a h
    rcases List.mem_append.1 h with h | h
    ·exact hsz a h
    ·rw[List.mem_singleton.1 h];exact hF _ (List.getElem_mem hi')
   ·rw[hq]
    cases thrF F (l.drop (i+1))<;>simp[thrJ]
  ·right
   rw[if_pos (by simpa using hc),Qkp,cT]
   rw[if_neg hc] at hq
   refine⟨_,rfl,?_⟩
   have hA:thrA F b l=(qj2,(F l[i]).2):=by unfold thrA;rw[hq];rfl
   rw[hA]
   refine⟨_,rfl,Qc4,?_,qd3⟩
   rw[qy6]
   rfl
 ·rintro xs ⟨acc,ha,hxl,hsz,hq⟩
  rw[List.length_map,hlen,List.drop_length] at hq
  rw[List.length_map] at hxl
  have hA:thrA F b l=(gatA b.li b.ru acc,Qb0 b.li acc):=by unfold thrA;rw[hq];simp[thrF,thrJ]
  rw[hA]
  have hal:=ha.len
  obtain⟨w,h1,h2⟩:=Qlh hv (.sl false ha) (by omega) hsz
  simp only[qdw,qdv,qd4,qfz,qke,qqy,qr3,qth,Qkr,nth_9,Qgh,Qgg,Qgf,Qge,Qm1,Qm0,qp9,qfl,Int.toNat_natCast,qdz]
  rw[show ∀ X Y:Option (List PV),qrk (qj4 none) X Y=X from fun _ _=>rfl,ql1 hv,bV,build_is hv,bV,List.length_map,show vs.length=xs.length by omega,slO_3,h1,bV]
  simp only[qgz,List.getElem?_cons_zero,List.getElem?_cons_succ,bV,qcq h2,Qkp,cT,qhw h2,qy6]
  exact⟨_,rfl,w,rfl,h2⟩
end Go.Ab.Derive2


namespace Go.Ab.Derive2
open Go Go.Ab
structure MonOK (g:List UInt8) (M:Arr→Arr×Int):Prop where
 run:∀ {v:PV} {a:Arr},IsA v a→a.n.length≤1000000→∃ w,qbj B0 .cl (.fn 13 []) [.str g,v]=some (.tup [w,I (M a).2])∧IsA w (M a).1
 le:∀ a,(M a).1.n.length≤1000000
def qyi (b:Arr):List Arr:=(List.range b.n.length).map (Qdq b.ru b.n)
theorem heads_is (b:Arr):Qfc ((List.range b.n.length).map (headV b.ru b.n)) (qyi b):=by
 unfold qyi
 induction List.range b.n.length with
 | nil=>exact .nil
 | cons i l ih=>exact .cons (head_is _ _ _) ih
def scanA (D:Arr→Arr→Arr×Int) (N:Arr×Int) (b:Arr):Arr×Int:=thrA (Qkf D N) b (qyi b)
theorem redA_le {D:Arr→Arr→Arr×Int} (hD:∀ a b,(D a b).1.n.length≤1000000) {N:Arr×Int} {b:Arr} (h:b.n≠[]):(Qkf D N b).1.n.length≤1000000:=by
 obtain⟨r,m,_,hbr⟩:=Qk0 h
 unfold Qkf
 rw[hbr]
 exact redF_le hD _ _ (by simp[qjn])
theorem scan_run {g:List UInt8} {D:Arr→Arr→Arr×Int} (hD:DyOK g D) (N:Arr×Int) {v:PV} {b:Arr} (hv:IsA v b) (hl:b.n.length≤1000000) :
  ∃ w,ioO B0 sh85 85 (v :: fresh g)=some (w :: qt4 (scanA D N b).2 :: fresh g)∧IsA w (scanA D N b).1:=by
 obtain⟨x,rfl,hx⟩:=hv.get
 have hfok:okV (.fn 151 [.ptr [.bool b.li,.bool b.ru,x] 0])=true:=by simp[okV,qb3,hx.ok]
 have hmem:∀ a∈qyi b,a.n≠[]∧a.n.length≤1000000:=by
  intro a ha
  obtain⟨i,hi,rfl⟩:=List.mem_map.1 ha
  rw[List.mem_range] at hi
  constructor
  ·intro he
   have:=congrArg List.length he
   simp only[Qdq,List.length_take,List.length_nil] at this
   omega
  ·simp only[Qdq,List.length_take];omega
 obtain⟨w,h1,h2⟩:=through_0 (g:=g) (F:=Qkf D N) hv hfok (heads_is b) (by simpa[qyi] using hl) (fun h e e' hq=>Qlf h 0 hx hl (by rw[List.map_map] at hq;exact hq))
  (fun h ha=>qxj hD N h (hmem _ ha).2 (hmem _ ha).1) (fun a ha=>redA_le hD.le (hmem a ha).1)
 refine⟨w,qmd (qhu fun _=>.cl) (fn:=fn85) rfl (Pf:=shs85) rfl (xs:=[]) (obs:=[]) rfl rfl (by simp[qb3,okV,hx.ok,fresh]) ?_,h2⟩
 unfold fresh at h1 ⊢
 rw[show shs85 [] []=sh85 from rfl,run85,qgt hv,cT,ql1 hv,bV,bV,agg33 hx,bV,heads_fn hx,bV,h1,bV]
 simp only[qdw,qdv,qd4,qfz,qke,qqy,qr3,qth,Qkr,nth_9,qcq h2,cT,qhw h2]
 rfl
def ifR (b:Arr) (r:Arr×Int):Arr×Int:=if b.right then r else (qj2,114)
theorem check_0 {g:List UInt8} {v:PV} {b:Arr} {r:Arr×Int} {rs:List PV} (hv:IsA v b) (hl:b.n.length≤1000000) (hrl:rs.length=8)
  (h:b.right=true→∃ w,ioO B0 sh84 84 (v :: fresh g)=some (w :: qt4 r.2 :: rs)∧IsA w r.1) :
  ∃ w rs,ioO B0 Qfv 48 (v :: fresh g)=some (w :: I (ifR b r).2 :: rs)∧IsA w (ifR b r).1:=by
 have key:∃ w rs,qnf (qfj B0 fun _=>.cl) fn48 Qfv (v :: fresh g)=some (w :: I (ifR b r).2 :: rs)∧IsA w (ifR b r).1:=by
  unfold fresh ifR
  rw[run48_0,qgt hv,cT,ql1 hv,bV,qns hv hl,bV,qdl,bV,qbh]
  cases hb:b.right with
  | false=>exact⟨_,_,rfl,qd3⟩
  | true =>
   obtain⟨w,h1,h2⟩:=h hb
   unfold fresh at h1
   rw[show (!true)=false from rfl]
   simp only[Bool.false_eq_true,if_false,if_true,bV,h1,qdw,qdv,qcq h2,cT,Qh5,qhw h2]
   exact⟨_,_,rfl,h2⟩
 obtain⟨w,rs,h1,h2⟩:=key
 exact⟨w,rs,qmd (qhu fun _=>.cl) (fn:=fn48) rfl (Pf:=shs48) rfl (xs:=[.cv .nilI,.fn 1000084 []]) (obs:=[]) rfl rfl (by simp[qb3,okV,hv.ok,fresh]) h1,h2⟩
theorem check_1 {g:List UInt8} {v:PV} {b:Arr} {r:Arr×Int} {rs:List PV} (hv:IsA v b) (hl:b.n.length≤1000000)
  (h:b.right=true→∃ w,ioO B0 sh85 85 (v :: fresh g)=some (w :: qt4 r.2 :: rs)∧IsA w r.1) :
  ∃ w rs,ioO B0 Qfu 48 (v :: fresh g)=some (w :: I (ifR b r).2 :: rs)∧IsA w (ifR b r).1:=by
 have key:∃ w rs,qnf (qfj B0 fun _=>.cl) fn48 Qfu (v :: fresh g)=some (w :: I (ifR b r).2 :: rs)∧IsA w (ifR b r).1:=by
  unfold fresh ifR
  rw[run48_1,qgt hv,cT,ql1 hv,bV,qns hv hl,bV,qdl,bV,qbh]
  cases hb:b.right with
  | false=>exact⟨_,_,rfl,qd3⟩
  | true =>
   obtain⟨w,h1,h2⟩:=h hb
   unfold fresh at h1
   rw[show (!true)=false from rfl]
   simp only[Bool.false_eq_true,if_false,if_true,bV,h1,qdw,qdv,qcq h2,cT,Qh5,qhw h2]
   exact⟨_,_,rfl,h2⟩
 obtain⟨w,rs,h1,h2⟩:=key
 exact⟨w,rs,qmd (qhu fun _=>.cl) (fn:=fn48) rfl (Pf:=shs48) rfl (xs:=[.cv .nilI,.fn 85 []]) (obs:=[]) rfl rfl (by simp[qb3,okV,hv.ok,fresh]) h1,h2⟩
theorem red_any {g:List UInt8} {v:PV} {b:Arr} {r:Arr×Int} {rs:List PV} (hv:IsA v b) (hl:b.n.length≤1000000) (hrl:rs.length=8)
  (h:b.right=true→∃ w,ioO B0 sh84 84 (v :: fresh g)=some (w :: qt4 r.2 :: rs)∧IsA w r.1) :
  ∃ w,qbj B0 .cl (.fn 19 []) [.str g,v]=some (.tup [w,I (ifR b r).2])∧IsA w (ifR b r).1:=by
 obtain⟨w,rs,h1,h2⟩:=check_0 hv hl hrl h
 refine⟨w,call (d:=fun _=>.cl) rfl (by decide) (by simp[qb3,okV,hv.ok]) rfl ?_,h2⟩
 unfold fresh at h1
 rw[List.map_cons,List.map_cons,List.map_nil,run19,qgt hv,cT,ql1 hv,bV,of_io,bV]
 simp only[qdw,qdv,qd4,qfz,qke,qqy,qr3,qth,h1,bV,qcq h2,cT,qhw h2]
theorem scan_any {g:List UInt8} {D:Arr→Arr→Arr×Int} (hD:DyOK g D) (N:Arr×Int) {v:PV} {b:Arr} (hv:IsA v b) (hl:b.n.length≤1000000) :
  ∃ w,qbj B0 .cl (.fn 21 []) [.str g,v]=some (.tup [w,I (ifR b (scanA D N b)).2])∧IsA w (ifR b (scanA D N b)).1:=by
 obtain⟨w,rs,h1,h2⟩:=check_1 hv hl fun _=>scan_run hD N hv hl
 refine⟨w,call (d:=fun _=>.cl) rfl (by decide) (by simp[qb3,okV,hv.ok]) rfl ?_,h2⟩
 unfold fresh at h1
 rw[List.map_cons,List.map_cons,List.map_nil,run21,qgt hv,cT,ql1 hv,bV,of_io,bV]
 simp only[qdw,qdv,qd4,qfz,qke,qqy,qr3,qth,h1,bV,qcq h2,cT,qhw h2]
end Go.Ab.Derive2


namespace Go.Ab.Derive2
open Go Go.Ab
theorem dyL_len {f:Int→Int→Int×NE}:∀ {l:List (Int×Int)} {r:List Int},dyL f l=.inr r→r.length=l.length
 | [],r,h=>by unfold dyL at h;cases h;rfl
 | p :: l,r,h=>by
  unfold dyL at h
  split at h
  ·cases h
  ·split at h
   ·cases h
   ·rename_i r' hr
    cases h
    simp[dyL_len hr]
theorem Qf4 (a b:Arr):∀ (n i:Nat),(qda a b i n).length=n
 | 0,_=>rfl
 | n+1,i=>by unfold qda;rw[List.length_cons,Qf4 a b n (i+1)]
theorem qn0:qj2.n.length≤1000000:=by simp[qj2]
theorem dy_le (g:List UInt8) (a b:Arr):(Arr.dy g a b).1.n.length≤1000000:=by
 unfold Arr.dy
 split
 ·exact qn0
 split
 ·exact qn0
 split
 ·exact qn0
 split
 ·exact qn0
 rename_i h1 _ h3 _
 split
 ·exact qn0
 ·rename_i r hr
  have h1:(a.right&&b.right)=true:=by cases h:(a.right&&b.right)<;>simp_all
  simp only[Bool.and_eq_true] at h1
  have hs:=sz_fits h1.1 h1.2 (Decidable.not_not.1 h3)
  show r.length≤1000000
  rw[dyL_len hr,Qf4]
  have:=hs.2.1
  omega
theorem dy_ok {g:List UInt8} (hg:qn7 g=true):DyOK g (Arr.dy g):=⟨fun hv hu ha hb=>dyn_run hv hu ha hb hg,dy_le g⟩
theorem Qhb (n:Int):(qjn false n).right=true:=rfl
theorem dy_itm {g:List UInt8} (hg:qn7 g=true) (he:Arr.isEq g=false) (x y:Int):Arr.dy g (qjn false x) (qjn false y)=if (nDy g x y).2.no≠0 then (qj2,(nDy g x y).2.no) else (qjn false (nDy g x y).1,0):=by
 unfold Arr.dy
 rw[Qhb,Qhb,if_neg (by simp),if_neg (by simp[hg]),if_neg (by simp[qjn,Arr.sz]),if_neg (by simp[qjn,Arr.text]),he]
 have hp:qda (qjn false x) (qjn false y) 0 ((qjn false x).sz (qjn false y)).1.toNat=[(x,y)]:=rfl
 rw[hp]
 unfold dyL dyF
 simp only[Bool.false_and,Bool.false_eq_true,if_false]
 by_cases h:(nDy g x y).2.no≠0
 ·rw[if_pos h,if_pos h]
 ·rw[if_neg h,if_neg h]
  rfl
end Go.Ab.Derive2


namespace Go.Ab
def Qc7 (memo:FuncId→List PV→Option PV) (c:qs2):qs2:=fun E h dep g args e =>
 match dep,memo g args with
 | 0,some r=>some (r,[],e)
 | _,_=>c E h dep g args e
def qy3 (memo:FuncId→List PV→Option PV) (sp:FuncId→(Nm→Option Ob)→List PV→Option Out) (tab:FuncId→Option RFn):Nat→qfk
 | 0=>qlc sp tab 0
 | n+1=>{qlc sp tab 0 with call:=Qc7 memo (qpm (qy3 memo sp tab n) n tab),io:=Qjz (qy3 memo sp tab n) n tab}
def evalFm (memo:FuncId→List PV→Option PV) (sp:FuncId→(Nm→Option Ob)→List PV→Option Out) (tab:FuncId→Option RFn) (n:Nat):qs2:=(qy3 memo sp tab n).call
section memo
variable {memo:FuncId→List PV→Option PV} {sp:FuncId→(Nm→Option Ob)→List PV→Option Out} {tab:FuncId→Option RFn}
 (hm:∀ g args r,memo g args=some r→∃ n,qcp sp tab n Unit qbc 0 g args ()=some (r,[],()))
include hm
theorem evalMm_le:∀ n,MLe (qy3 memo sp tab n) (qlc sp tab):=by
 intro n
 induction n with
 | zero=>exact Qn0 0
 | succ n ih =>
  have hk:=Qci ih n tab
  refine MLe.of_tail ⟨fun k=>rfl,?_,fun k=>rfl,fun k=>rfl,fun k=>rfl,fun g dst σ vs out h=>Qnk ih n tab g dst σ vs out h⟩ rfl rfl rfl rfl
  intro E1 E2 RE h1 h2 hh dep g args e1 e2 he r obs e1' h
  simp only[qy3,Qc7] at h
  split at h
  ·rename_i r' hr
   cases h
   obtain⟨m,hm'⟩:=hm g args r hr
   obtain⟨_,rfl,a,ha⟩:=qt3 m Unit E2 (fun _ e=>e2=e) qbc (fun k=>h2 (k - 1)) (fun _ _ _ _ _ _ _ h=>by cases h) 0 g args () e2 rfl r [] () hm'
   exact⟨e2,he,a,fun k hk=>ha (k+1) (by omega)⟩
  ·exact hk E1 E2 RE h1 h2 hh _ g args e1 e2 he r obs e1' h
theorem ev_memo {n:Nat} {g:FuncId} {args:List PV} {r:PV} (h:evalFm memo sp tab n Unit qbc 0 g args ()=some (r,[],())):∃ m,qcp sp tab m Unit qbc 0 g args ()=some (r,[],()):=by
 obtain⟨m,hm'⟩:=qw1 (evalMm_le hm n) g args h
 exact⟨m,hm' m (Nat.le_refl _)⟩
end memo
mutual
def sameV:PV→PV→Bool
 | .bool a,.bool b=>a==b
 | .int k n,.int k' n'=>decide (k=k')&&decide (n=n')
 | .str s,.str s'=>decide (s=s')
 | .nilS,.nilS=>true
 | .nilI,.nilI=>true
 | .agg cs,.agg cs'=>sameL cs cs'
 | .sl k xs f,.sl k' xs' f'=>decide (k=k')&&(f==f')&&sameL xs xs'
 | _,_=>false
def sameL:List PV→List PV→Bool
 | [],[]=>true
 | x :: xs,y :: ys=>sameV x y&&sameL xs ys
 | _,_=>false
end
mutual
theorem sameV_eq:∀ (x y:PV),sameV x y=true→x=y
 | x,y,h=>by
  unfold sameV at h
  split at h
  ·simpa using h
  ·simp only[Bool.and_eq_true,decide_eq_true_eq] at h;rw[h.1,h.2]
  ·simp only[decide_eq_true_eq] at h;rw[h]
  ·rfl
  ·rfl
  ·rename_i cs cs';rw[qwf cs cs' h]
  ·rename_i k xs f k' xs' f'
   simp only[Bool.and_eq_true,decide_eq_true_eq,beq_iff_eq] at h
   rw[h.1.1,h.1.2,qwf xs xs' h.2]
  ·cases h
theorem qwf:∀ (xs ys:List PV),sameL xs ys=true→xs=ys
 | xs,ys,h=>by
  unfold sameL at h
  split at h
  ·rfl
  ·rename_i x xs y ys
   simp only[Bool.and_eq_true] at h
   rw[sameV_eq x y h.1,qwf xs ys h.2]
  ·cases h
end
abbrev Qfb:=List (FuncId×List PV×PV)
def Qgm:Qfb→FuncId→List PV→Option PV
 | [],_,_=>none
 | p :: l,g,args=>if p.1=g∧sameL p.2.1 args=true then some p.2.2 else Qgm l g args
def qs1 (sp:FuncId→(Nm→Option Ob)→List PV→Option Out) (tab:FuncId→Option RFn) (l:Qfb):Prop :=
 ∀ p∈l,∃ n,qcp sp tab n Unit qbc 0 p.1 p.2.1 ()=some (p.2.2,[],())
theorem qpq {sp:FuncId→(Nm→Option Ob)→List PV→Option Out} {tab:FuncId→Option RFn}:qs1 sp tab []:=fun _ h=>by cases h
theorem qby {sp:FuncId→(Nm→Option Ob)→List PV→Option Out} {tab:FuncId→Option RFn} {g:FuncId} {args:List PV} {r:PV} {l:Qfb}
  (h:∃ n,qcp sp tab n Unit qbc 0 g args ()=some (r,[],())) (hl:qs1 sp tab l):qs1 sp tab ((g,args,r) :: l):=fun p hp=>by
 rcases List.mem_cons.1 hp with rfl | hp
 ·exact h
 ·exact hl p hp
theorem Qbm {sp:FuncId→(Nm→Option Ob)→List PV→Option Out} {tab:FuncId→Option RFn}:∀ {l:Qfb},qs1 sp tab l→∀ g args r,Qgm l g args=some r→∃ n,qcp sp tab n Unit qbc 0 g args ()=some (r,[],())
 | [],_,_,_,_,h=>by cases h
 | p :: l,hl,g,args,r,h=>by
  unfold Qgm at h
  split at h
  ·rename_i hp
   cases h
   have:=hl p List.mem_cons_self
   rwa [hp.1,qwf _ _ hp.2] at this
  ·exact Qbm (fun q hq=>hl q (List.mem_cons_of_mem _ hq)) g args r h
theorem ev_known {sp:FuncId→(Nm→Option Ob)→List PV→Option Out} {tab:FuncId→Option RFn} {l:Qfb} (hl:qs1 sp tab l) {n:Nat} {g:FuncId} {args:List PV} {r:PV}
  (h:evalFm (Qgm l) sp tab n Unit qbc 0 g args ()=some (r,[],())):∃ m,qcp sp tab m Unit qbc 0 g args ()=some (r,[],()):=ev_memo (Qbm hl) h
end Go.Ab


namespace Go.Ab
noncomputable section
section qh5
variable {R:Type}
def fN (n:Nat) (K:Nat→R):R:=match n with
 | 0=>K 0
 | m+1=>K (Nat.succ m)
def fI (n:Int) (K:Int→R):R:=match n with
 | .ofNat m=>fN m fun m=>K (.ofNat m)
 | .negSucc m=>fN m fun m=>K (.negSucc m)
def fB (b:Bool) (K:Bool→R):R:=match b with
 | true=>K true
 | false=>K false
def fKd (k:IntKind) (K:IntKind→R):R:=match k with
 | .i8=>K .i8 | .i16=>K .i16 | .i32=>K .i32 | .i64=>K .i64
 | .u8=>K .u8 | .u16=>K .u16 | .u32=>K .u32 | .u64=>K .u64
def fS:List UInt8→(List UInt8→R)→R
 | [],K=>K []
 | x :: xs,K=>fS xs fun xs=>K (x :: xs)
def fP {α β:Type} (p:α×β) (K:α×β→R):R:=match p with
 |(a,b)=>K (a,b)
def fSp {α:Type}:List α→(List α→R)→R
 | [],K=>K []
 | x :: xs,K=>fSp xs fun xs=>K (x :: xs)
mutual
def fV (d:Bool):PV→(PV→R)→R
 | .undef,K=>K .undef
 | .bool b,K=>fB b fun b=>K (.bool b)
 | .int k n,K=>fKd k fun k=>fI n fun n=>K (.int k n)
 | .str s,K=>fS s fun s=>K (.str s)
 | .nilS,K=>K .nilS | .nilP,K=>K .nilP | .nilF,K=>K .nilF | .nilI,K=>K .nilI | .nilM,K=>K .nilM
 | .sl k xs f,K=>match d with
  | true=>fVL true xs fun xs=>K (.sl k xs f)
  | false=>fSp xs fun xs=>K (.sl k xs f)
 | .ptr cs o,K=>match d with
  | true=>fVL true cs fun cs=>K (.ptr cs o)
  | false=>fSp cs fun cs=>K (.ptr cs o)
 | .agg cs,K=>fVL d cs fun cs=>K (.agg cs)
 | .iface t x,K=>fV d x fun x=>K (.iface t x)
 | .fn f cap,K=>fVL d cap fun cap=>K (.fn f cap)
 | .yld l,K=>K (.yld l)
 | .tup xs,K=>fVL d xs fun xs=>K (.tup xs)
 | .imap es,K=>match d with
  | true=>fVL true es fun es=>K (.imap es)
  | false=>fSp es fun es=>K (.imap es)
 | .glob g t,K=>K (.glob g t)
 | .ref nm o,K=>fP nm fun nm=>fN o fun o=>K (.ref nm o)
 | .aref nm k i o,K=>fP nm fun nm=>fN i fun i=>fN o fun o=>K (.aref nm k i o)
 | .arr nm k o n,K=>fP nm fun nm=>fN o fun o=>fN n fun n=>K (.arr nm k o n)
 | .mp nm,K=>fP nm fun nm=>K (.mp nm)
 | .it nm,K=>fP nm fun nm=>K (.it nm)
def fVL (d:Bool):List PV→(List PV→R)→R
 | [],K=>K []
 | x :: xs,K=>fV d x fun x=>fVL d xs fun xs=>K (x :: xs)
end
def fH:PV→(PV→R)→R
 | .undef,K=>K .undef
 | .bool b,K=>K (.bool b) | .int k n,K=>K (.int k n) | .str s,K=>K (.str s)
 | .nilS,K=>K .nilS | .nilP,K=>K .nilP | .nilF,K=>K .nilF | .nilI,K=>K .nilI | .nilM,K=>K .nilM
 | .sl k xs f,K=>K (.sl k xs f)
 | .ptr cs o,K=>K (.ptr cs o)
 | .agg cs,K=>fVL false cs fun cs=>K (.agg cs)
 | .iface t x,K=>fV false x fun x=>K (.iface t x)
 | .fn f cap,K=>fVL false cap fun cap=>K (.fn f cap)
 | .yld l,K=>K (.yld l)
 | .tup xs,K=>fVL false xs fun xs=>K (.tup xs)
 | .imap es,K=>K (.imap es)
 | .glob g t,K=>K (.glob g t)
 | .ref nm o,K=>fP nm fun nm=>K (.ref nm o)
 | .aref nm k i o,K=>fP nm fun nm=>K (.aref nm k i o)
 | .arr nm k o n,K=>fP nm fun nm=>K (.arr nm k o n)
 | .mp nm,K=>fP nm fun nm=>K (.mp nm)
 | .it nm,K=>fP nm fun nm=>K (.it nm)
def fHL (l:List PV):(List PV→R)→R:=List.rec (motive:=fun _=>(List PV→R)→R) (fun K=>K []) (fun x _ ih K=>fH x fun x=>ih fun xs=>K (x :: xs)) l
def fOb (d:Bool):Ob→(Ob→R)→R
 | .cells ty cs,K=>fVL d cs fun cs=>K (.cells ty cs)
 | .arr k ty xs,K=>match d with
  | true=>fVL true xs fun xs=>K (.arr k ty xs)
  | false=>fSp xs fun xs=>K (.arr k ty xs)
 | .map es,K=>fSp es fun es=>K (.map es)
 | .siter s p,K=>fN p fun p=>K (.siter s p)
def fObs (d:Bool):List Ob→(List Ob→R)→R
 | [],K=>K []
 | x :: xs,K=>fOb d x fun x=>fObs d xs fun xs=>K (x :: xs)
def fObH:Ob→(Ob→R)→R
 | .cells ty cs,K=>fVL false cs fun cs=>K (.cells ty cs)
 | .arr k ty xs,K=>K (.arr k ty xs)
 | .map es,K=>K (.map es)
 | .siter s p,K=>K (.siter s p)
def fObHs:List Ob→(List Ob→R)→R
 | [],K=>K []
 | x :: xs,K=>fObH x fun x=>fObHs xs fun xs=>K (x :: xs)
def fOL:List (List Ob)→(List (List Ob)→R)→R
 | [],K=>K []
 | x :: xs,K=>fObHs x fun x=>fOL xs fun xs=>K (x :: xs)
def fSt (st:St) (K:St→R):R:=match st with
 | ⟨tmps,objs,keep⟩=>fHL tmps fun tmps=>fOL objs fun objs=>fHL keep fun keep=>K ⟨tmps,objs,keep⟩
def fTm (st:St) (K:St→R):R:=match st with
 | ⟨tmps,objs,keep⟩=>fHL tmps fun tmps=>K ⟨tmps,objs,keep⟩
def fUpd (u:Option (Nm×Ob)) (K:Option (Nm×Ob)→R):R:=match u with
 | none=>K none
 | some (nm,o)=>fP nm fun nm=>fOb false o fun o=>K (some (nm,o))
def deepOp:ROp→Bool
 | .call _ _=>true
 | .toBytes _=>true
 | _=>false
def fOut (d:Bool) (o:Out) (K:Out→R):R:=match o with
 | ⟨v,new,upd,kill,frz,gone,ups,io,slot⟩=>fV d v fun v=>fObs d new fun new=>fUpd upd fun upd=>K ⟨v,new,upd,kill,frz,gone,ups,io,slot⟩
end qh5
def getR {α:Type} (l:List α):Nat→Option α:=List.rec (motive:=fun _=>Nat→Option α) (fun _=>none) (fun x _ ih n=>Nat.rec (motive:=fun _=>Option α) (some x) (fun m _=>ih m) n) l
def nthR (l:List PV):Nat→PV:=List.rec (motive:=fun _=>Nat→PV) (fun _=>.undef) (fun x _ ih n=>Nat.rec (motive:=fun _=>PV) x (fun m _=>ih m) n) l
def setR (l:List PV):Nat→PV→List PV:=List.rec (motive:=fun _=>Nat→PV→List PV) (fun _ _=>[]) (fun x xs ih n v=>Nat.rec (motive:=fun _=>List PV) (v :: xs) (fun m _=>x :: ih m v) n) l
def lookR (σ:List (List Ob)) (nm:Nm):Option Ob:=match getR σ nm.1 with
 | some l=>getR l nm.2
 | none=>none
def RX.evR (tm:List PV):RX→RX
 | .t i=>.c (nthR tm i)
 | .c v=>.c v
def RX.evF (tm:List PV):RX→PV
 | .t i=>nthR tm i
 | .c v=>v
def Qjm (m i:Nat):Bool:=Nat.beq (Nat.land (Nat.shiftRight m i) 1) 1
def qtj:List Nat→Nat
 | []=>0
 | d :: ds=>Nat.lor (Nat.shiftLeft 1 d) (qtj ds)
def Qg9 (m:Nat) (b:Bool):Nat→List PV→List PV
 | _,[]=>[]
 | i,v :: vs=>(match Qjm m i with
  | true=>bif b then v else .undef
  | false=>bif b then .undef else v) :: Qg9 m b (Nat.succ i) vs
def qw2:Nat→List PV→List Nat
 | _,[]=>[]
 | i,v :: vs=>match v with
  | .undef=>i :: qw2 (Nat.succ i) vs
  | _=>qw2 (Nat.succ i) vs
def qgi (R:List Nm):Nat→List (List Ob)→List Nat
 | _,[]=>[]
 | i,l :: ls=>match l with
  | []=>qgi R (Nat.succ i) ls
  | _ :: _=>match R.all fun nm=>nm.1 != i with
   | true=>i :: qgi R (Nat.succ i) ls
   | false=>qgi R (Nat.succ i) ls
def Qcm (ds:List Nat) (st:St):St:={st with tmps:=Qg9 (qtj ds) false 0 st.tmps}
def qx7 (ks:List Nat) (st:St):St:={st with tmps:=Qg9 (qtj ks) true 0 st.tmps}
def Qcl (st:St):List Nat:=qgi (qbm st.tmps++qbm st.keep++st.objs.flatMap fun l=>l.flatMap Ob.names) 0 st.objs
def undefsQ (st:St):List Nat:=qw2 0 st.tmps
def Qd2 (m:Nat):Nat→List (List Ob)→List (List Ob)
 | _,[]=>[]
 | i,l :: ls=>(match Qjm m i with
  | true=>[]
  | false=>l) :: Qd2 m (Nat.succ i) ls
def Qph (objs:List (List Ob)):List Nat→Bool
 | []=>true
 | d :: ds=>match getR objs d with
  | some (_ :: _)=>false
  | _=>Qph objs ds
def Qn9 (ds:List Nat) (st:St):St :=
 let st:=qkq (fun m=>match Qjm (qtj ds) m.1 with | true=>some none | false=>none) st
 {st with objs:=Qd2 (qtj ds) 0 st.objs}
def Qjc (ds:List Nat) (st:St):St:=match Qph st.objs ds with
 | true=>st
 | false=>Qn9 ds st
def Qn8 (st:St):St:=match Qcl st with
 | []=>st
 | d :: ds=>Qn9 (d :: ds) st
def dropQ (ds:List Nat) (st:St):St:=Qn8 (Qcm ds st)
def qyh (m:Nat):Nat→List PV→Bool
 | _,[]=>true
 | i,v :: vs=>match v with
  | .arr nm _ _ _=>(match Qjm m i with
   | true=>(match nm with
    |(a,b)=>(match Nat.beq a i with
     | true=>(match b with
      | 0=>qyh m (Nat.succ i) vs
      | _+1=>false)
     | false=>false))
   | false=>qyh m (Nat.succ i) vs)
  | _=>qyh m (Nat.succ i) vs
def qrw {R:Type}:List Nat→St→(St→R)→R
 | [],st,K=>K st
 | t :: asg,st,K=>match nthR st.tmps t with
  | .arr nm k o n=>fSt (qj1 t st) fun st=>qrw asg st K
  | _=>qrw asg st K
def norm0K {R:Type} (asg:List Nat) (grow:List (Nat×Nat)) (st:St) (K:St→R):R:=match qyh (qtj asg) 0 st.tmps with
 | true=>K (grow.foldl (fun st (t,k)=>Qdr t k st) st)
 | false=>qrw asg st fun st=>K (grow.foldl (fun st (t,k)=>Qdr t k st) st)
def normQ (asg:List Nat) (grow:List (Nat×Nat)) (st:St):St:=norm0K asg grow st fun st=>fSt st fun st=>dropQ (undefsQ st) st
def tidyQ (live:Option (List Nat)) (st:St):St :=
 match live with
 | none=>st
 | some ks=>Qn8 (qx7 ks st)
def stillO (o:Out):Bool:=qb7 o&&o.new.isEmpty
def Qcj (st:St) (dst:Option Nat) (o:Out):St:=match stillO o with
 | true=>(match dst with
  | some d=>{st with tmps:=setR st.tmps d o.v}
  | none=>st)
 | false=>apply st dst o
def freshQ (o:qbw) (st:St):Bool :=
 if Qgp o.op then
  match o.dst with
  | some d=>match getR st.objs d with
   | some []=>true
   | _=>false
  | none=>match o.op with
   | .call _ _=>true
   | _=>false
 else true
def outQ (M:qfk) {E:Type} (h:qbg E) (dep:Nat) (o:qbw) (st:St) (e:E):Option (Out×E) :=
 chk (freshQ o st) (match o.op with
  | .call f args=>match qck M h dep (o.dst.getD 0) (lookR st.objs) [] (f.evR st.tmps) (args.map (RX.evR st.tmps)) e with
   | some (out,e)=>chk (qpb o.dst out) (some (out,e))
   | none=>none
  | op=>match exec (o.dst.getD 0) (lookR st.objs) [] (op.mapX (RX.evR st.tmps)) with
   | some out=>some (out,e)
   | none=>none)
def Qmb (ops:List qbw) (o:qbw) (tm:List PV):Option Bool :=
 match o.guard with
 | none=>some true
 | some (j,want) =>
  match getR ops j with
  | some p=>match p.dst with
   | some d=>match nthR tm d with
    | .bool b=>some (b==want)
    | .tup []=>some false
    | _=>none
   | none=>none
  | none=>none
def stepQ (M:qfk) {E:Type} (h:qbg E) (dep:Nat) (ops:List qbw) (o:qbw) (st:St) (e:E):Option (St×E) :=
 match Qmb ops o st.tmps with
 | some true=>match outQ M h dep o st e with
  | some (out,e)=>fOut (deepOp o.op) out fun out=>some (Qcj st o.dst out,e)
  | none=>none
 | some false=>some (Qcj st o.dst {v:=.tup []},e)
 | none=>none
def runQ (M:qfk) {E:Type} (h:qbg E) (dep:Nat) (ops:List qbw):List qbw→St→E→Option (St×E)
 | [],st,e=>some (st,e)
 | o :: rest,st,e=>match stepQ M h dep ops o st e with
  | some (st,e)=>runQ M h dep ops rest st e
  | none=>none
def rnQ (o:qbw) (st:St) (out:Out):List Nm :=
 if qwd o.op&&qb7 out then [] else qcm (lookR st.objs) (qkf o.op (qb7 out)) (qbm (o.op.xs.map (RX.evF st.tmps))++out.frz)
def yldQ (op:ROp) (tm:List PV):Bool :=
 match op with
 | .call f args=>match f.evF tm with
  | .yld _=>(qbm (args.map (RX.evF tm))).isEmpty
  | _=>false
 | _=>false
def infoQ (ops:List qbw) (i:Nat) (o:qbw) (st:St) (out:Out):qrh :=
 let vs:=o.op.xs.map (RX.evF st.tmps)
 {i,dst:=o.dst,reads:=qs8 o.op.xs++qdb ops o,rn:=rnQ o st out,rv:=if qjo o.op then [] else Qdp (lookR st.objs) (rnQ o st out),
  cls:=if qh2 o.op&&qdi vs then (if yldQ o.op st.tmps then .calls else .other) else if qb7 out then .quiet else if qdm out then .turns else .other,
  on:=out.v.names++out.new.flatMap Ob.names,tch:=qd6 out++(out.frz++out.kill.toList),frz:=!(out.frz++out.kill.toList).isEmpty,
  vn:=(qs8 o.op.xs++qdb ops o).flatMap fun s=>(nthR st.tmps s).names}
def outDQ (M:qfk) {E:Type} (h:qbg E) (dep:Nat) (ops:List qbw) (i:Nat) (o:qbw) (st:St) (e:E):Option (St×E×qrh) :=
 match Qmb ops o st.tmps with
 | some true=>match outQ M h dep o st e with
  | some (out,e)=>fOut (deepOp o.op) out fun out=>some (Qcj st o.dst out,e,infoQ ops i o st out)
  | none=>none
 | some false=>some (Qcj st o.dst {v:=.tup []},e,{i,cls:=.quiet,dst:=o.dst,reads:=qdb ops o,rn:=[],vn:=(qdb ops o).flatMap fun s=>(nthR st.tmps s).names})
 | none=>none
def runDQ (M:qfk) {E:Type} (h:qbg E) (dep:Nat) (ops:List qbw):List (Nat×Nat)→List qrh→St→E→Option (St×E)
 | [],_,st,e=>some (st,e)
 |(i,bef) :: rest,infos,st,e=>match getR ops i with
  | some o=>match outDQ M h dep ops i o st e with
   | some (st,e,info)=>chk (infos.all fun j=>bef.testBit j.i||qzx j info) (runDQ M h dep ops rest (info :: infos) st e)
   | none=>none
  | none=>none
def qml (M:qfk) (fuel:Nat):qc6→{E:Type}→qbg E→Nat→St→E→Option (Ex×St×E)
 | .skip,_,_,_,st,e=>some (.normal,st,e)
 | .region ops none qhs,_,h,dep,st,e=>match runQ M h dep ops ops (Qjc (qre ops) st) e with
  | some (st,e)=>fTm (tidyQ qhs st) fun st=>some (.normal,st,e)
  | none=>none
 | .region ops (some bef) qhs,_,h,dep,st,e=>match runDQ M h dep ops bef [] (Qjc (qre ops) st) e with
  | some (st,e)=>fTm (tidyQ qhs st) fun st=>some (.normal,st,e)
  | none=>none
 | .seq a b,_,h,dep,st,e=>match qml M fuel a h dep st e with
  | some (.normal,st,e)=>qml M fuel b h dep st e
  | r=>r
 | .cond c a b,_,h,dep,st,e=>match c.ev st.tmps with
  | .bool true=>qml M fuel a h dep st e
  | .bool false=>qml M fuel b h dep st e
  | _=>none
 | .block id body,_,h,dep,st,e=>match qml M fuel body h dep st e with
  | some (.exit id',st,e)=>if id'=id then some (.normal,st,e) else some (.exit id',st,e)
  | r=>r
 | .loop asg grow body,E,h,dep,st,e=>fSt (normQ asg grow st) fun st =>
  match qg2 (fun (s:St×E)=>match qml M fuel body h dep s.1 s.2 with
   | some (.normal,st1,e)=>fSt (dropQ (undefs st) st1) fun st1=>fSt (normQ asg grow st1) fun st=>some (.inl (st,e))
   | some (x,st,e)=>some (.inr (x,st,e))
   | none=>none) fuel (st,e) with
  | some (x,st,e)=>some (x,st,e)
  | none=>none
 | .scope body,_,h,dep,st,e=>match qml M fuel body h dep st e with
  | some (.exit id,st,e)=>if id < qg7 then some (.exit id,st,e) else none
  | r=>r
 | .norm grow,_,_,_,st,e=>fSt (normQ [] grow (trim st)) fun st=>some (.normal,st,e)
 | .rangeFunc f ps a b,_,h,dep,st,e=>qbt M fuel (.rangeFunc f ps a b) h dep st e
 | .exit id,_,_,_,st,e=>some (.exit id,st,e)
 | .ret,_,_,_,st,e=>some (.ret,st,e)
 | .dreg _ _ _ _,_,_,_,_,_=>none
 | .bad,_,_,_,_,_=>none
def callQ (M:qfk) (n:Nat) (tab:FuncId→Option RFn):qs2:=fun _ h dep f args e =>
 match tab f with
 | none=>none
 | some fn=>fVL false args fun args =>
  match qml M n fn.code h dep {tmps:=args++List.replicate (fn.nt - args.length) .undef,objs:=List.replicate fn.nt [],keep:=[]} e with
  | some (x,st,e) =>
   match x with
   | .exit _=>none
   | _=>match qmz st fn.res with
    | some vs=>match qkj fn.shut st (qqw vs) with
     | some (v,obs)=>fV true v fun v=>fObs true obs fun obs=>some (v,obs,e)
     | none=>none
    | none=>none
  | none=>none
def qll (M:qfk) (fuel nt:Nat):qc6→St→Option (Ex×St×List Nat)
 | .dreg ops f args live,st=>match runQ M qbc 0 ops ops (Qjc (qre ops) st) () with
  | some (st,_)=>chk (decide (args.length+1≤nt)&&isFn (f.ev st.tmps))
    (fTm (tidyQ live (pushD nt (f.ev st.tmps :: args.map (RX.ev st.tmps)) st)) fun st=>some (.normal,st,[args.length]))
  | none=>none
 | .seq a b,st=>match qll M fuel nt a st with
  | some (.normal,st,l)=>match qll M fuel nt b st with
   | some (x,st,l')=>some (x,st,l'++l)
   | none=>none
  | r=>r
 | .cond c a b,st=>match c.ev st.tmps with
  | .bool true=>qll M fuel nt a st
  | .bool false=>qll M fuel nt b st
  | _=>none
 | .block id body,st=>match qll M fuel nt body st with
  | some (.exit id',st,l)=>if id'=id then some (.normal,st,l) else some (.exit id',st,l)
  | r=>r
 | .scope body,st=>if qwn body then none else match qll M fuel nt body st with
  | some (.exit id,st,l)=>if id < qg7 then some (.exit id,st,l) else none
  | r=>r
 | c,st=>qq1 (qml M fuel c qbc 0 st ())
def ioRawQ (M:qfk) (n:Nat) (fn:RFn) (ins:List Ob) (vs:List PV):Option (St×PV) :=
 if noD fn.code then fSt (ioSt fn.gone fn.nt ins vs) fun st0=>match qml M n fn.code qbc 0 st0 () with
  | some (x,st,_) =>
   match x with
   | .exit _=>none
   | _=>match qmz st fn.res with
    | some rs=>some (st,qqw rs)
    | none=>none
  | none=>none
 else fSt (ioSt fn.gone fn.nt ins vs) fun st0=>match qll M n fn.nt fn.code st0 with
  | some (x,st,l) =>
   match x with
   | .exit _=>none
   | _=>match Qn4 M fn.nt l st with
    | some st=>match qmz st fn.res with
     | some rs=>some (st,qqw rs)
     | none=>none
    | none=>none
  | none=>none
def fObD {R:Type}:Ob→(Ob→R)→R
 | .cells ty cs,K=>fVL false cs fun cs=>K (.cells ty cs)
 | .arr k ty xs,K=>fVL false xs fun xs=>K (.arr k ty xs)
 | .map es,K=>fSp es fun es=>K (.map es)
 | .siter s p,K=>K (.siter s p)
def fObDs {R:Type}:List Ob→(List Ob→R)→R
 | [],K=>K []
 | x :: xs,K=>fObD x fun x=>fObDs xs fun xs=>K (x :: xs)
def ioOfQ (M:qfk) (n:Nat) (tab:FuncId→Option RFn) (f:FuncId) (dst:Nat) (σ:Nm→Option Ob) (vs:List PV):Option Out :=
 match tab f with
 | none=>none
 | some fn =>
  fSp (qgh (qcm σ qbn (qbm vs))) fun R =>
  match R.mapM σ with
  | none=>none
  | some ins =>
   chk (!qdi vs&&qjk σ R&&ins.all (fun o=>!o.hasY)&&(decide (vs.length≤fn.nt)&&decide (R.length≤fn.nt)&&decide (0 < fn.nt))) (
    fObDs (ins.map (Ob.ren fun m=>(0,R.idxOf m))) fun ins=>fVL false (qhy (fun m=>(0,R.idxOf m)) vs) fun vs =>
    match ioRawQ M n fn ins vs with
    | some (st,v)=>fSt st fun st=>qq5 σ dst R st v
    | none=>none)
def Qhz (memo:FuncId→List PV→Option PV) (sp:FuncId→(Nm→Option Ob)→List PV→Option Out) (tab:FuncId→Option RFn):Nat→qfk
 | 0=>qlc sp tab 0
 | n+1=>{qlc sp tab 0 with call:=Qc7 memo (callQ (Qhz memo sp tab n) n tab),io:=ioOfQ (Qhz memo sp tab n) n tab}
def evalFq (memo:FuncId→List PV→Option PV) (sp:FuncId→(Nm→Option Ob)→List PV→Option Out) (tab:FuncId→Option RFn) (n:Nat):qs2:=(Qhz memo sp tab n).call
section qc2
variable {R:Type}
theorem fN_eq (n:Nat) (K:Nat→R):fN n K=K n:=by cases n<;>rfl
theorem fI_eq (n:Int) (K:Int→R):fI n K=K n:=by cases n<;>simp only[fI,fN_eq]
theorem fB_eq (b:Bool) (K:Bool→R):fB b K=K b:=by cases b<;>rfl
theorem fKd_eq (k:IntKind) (K:IntKind→R):fKd k K=K k:=by cases k<;>rfl
theorem fS_eq:∀ (s:List UInt8) (K:List UInt8→R),fS s K=K s
 | [],_=>rfl
 | x :: xs,K=>by simp only[fS];rw[fS_eq xs]
theorem Qlm {α β:Type} (p:α×β) (K:α×β→R):fP p K=K p:=rfl
theorem qy1 {α:Type}:∀ (s:List α) (K:List α→R),fSp s K=K s
 | [],_=>rfl
 | x :: xs,K=>by simp only[fSp];rw[qy1 xs]
mutual
theorem fV_eq (d:Bool):∀ (v:PV) (K:PV→R),fV d v K=K v
 | .undef,K | .nilS,K | .nilP,K | .nilF,K | .nilI,K | .nilM,K | .yld _,K | .glob _ _,K=>by simp only[fV]
 | .bool b,K=>by simp only[fV,fB_eq]
 | .int k n,K=>by simp only[fV,fKd_eq,fI_eq]
 | .str s,K=>by simp only[fV,fS_eq]
 | .sl k xs f,K=>by cases d<;>simp only[fV,qy1];rw[qmk true xs]
 | .ptr cs o,K=>by cases d<;>simp only[fV,qy1];rw[qmk true cs]
 | .imap es,K=>by cases d<;>simp only[fV,qy1];rw[qmk true es]
 | .agg cs,K=>by simp only[fV];rw[qmk d cs]
 | .iface t x,K=>by simp only[fV];rw[fV_eq d x]
 | .fn f cap,K=>by simp only[fV];rw[qmk d cap]
 | .tup xs,K=>by simp only[fV];rw[qmk d xs]
 | .ref nm o,K=>by simp only[fV,Qlm,fN_eq]
 | .aref nm k i o,K=>by simp only[fV,Qlm,fN_eq]
 | .arr nm k o n,K=>by simp only[fV,Qlm,fN_eq]
 | .mp nm,K=>by simp only[fV,Qlm]
 | .it nm,K=>by simp only[fV,Qlm]
theorem qmk (d:Bool):∀ (xs:List PV) (K:List PV→R),fVL d xs K=K xs
 | [],K=>by simp only[fVL]
 | x :: xs,K=>by simp only[fVL];rw[fV_eq d x,qmk d xs]
end
theorem fH_eq (v:PV) (K:PV→R):fH v K=K v:=by cases v<;>simp only[fH,qmk,fV_eq,Qlm]
theorem fHL_eq:∀ (xs:List PV) (K:List PV→R),fHL xs K=K xs
 | [],_=>rfl
 | x :: xs,K=>by
  show fH x (fun x=>fHL xs fun xs=>K (x :: xs))=_
  rw[fH_eq,fHL_eq xs]
theorem fOb_eq (d:Bool) (o:Ob) (K:Ob→R):fOb d o K=K o:=by cases o<;>cases d<;>simp only[fOb,qmk,qy1,fN_eq]
theorem Qln (d:Bool):∀ (xs:List Ob) (K:List Ob→R),fObs d xs K=K xs
 | [],_=>rfl
 | x :: xs,K=>by simp only[fObs];rw[fOb_eq,Qln d xs]
theorem fObH_eq (o:Ob) (K:Ob→R):fObH o K=K o:=by cases o<;>simp only[fObH,qmk]
theorem Qny:∀ (xs:List Ob) (K:List Ob→R),fObHs xs K=K xs
 | [],_=>rfl
 | x :: xs,K=>by simp only[fObHs];rw[fObH_eq,Qny xs]
theorem fOL_eq:∀ (xs:List (List Ob)) (K:List (List Ob)→R),fOL xs K=K xs
 | [],_=>rfl
 | x :: xs,K=>by simp only[fOL];rw[Qny,fOL_eq xs]
theorem qvz (st:St) (K:St→R):fSt st K=K st:=by cases st;simp only[fSt,fHL_eq,fOL_eq]
theorem Qhv (st:St) (K:St→R):fTm st K=K st:=by cases st;simp only[fTm,fHL_eq]
theorem fUpd_eq (u:Option (Nm×Ob)) (K:Option (Nm×Ob)→R):fUpd u K=K u:=by
 cases u with
 | none=>rfl
 | some p=>simp only[fUpd,Qlm,fOb_eq]
theorem fOut_eq (d:Bool) (o:Out) (K:Out→R):fOut d o K=K o:=by cases o;simp only[fOut,fV_eq,Qln,fUpd_eq]
end qc2
theorem qq7 {α:Type}:∀ (l:List α) (n:Nat),getR l n=l[n]?
 | [],_=>by simp[getR]
 | x :: xs,0=>rfl
 | x :: xs,n+1=>by rw[List.getElem?_cons_succ,←qq7 xs n];rfl
theorem qqz:∀ (l:List PV) (n:Nat),nthR l n=l.getD n .undef
 | [],_=>by simp[nthR]
 | x :: xs,0=>rfl
 | x :: xs,n+1=>by rw[List.getD_cons_succ,←qqz xs n];rfl
theorem setR_eq:∀ (l:List PV) (n:Nat) (v:PV),setR l n v=l.set n v
 | [],_,_=>by simp[setR]
 | x :: xs,0,_=>rfl
 | x :: xs,n+1,v=>by rw[List.set_cons_succ,←setR_eq xs n];rfl
theorem evR_eq (tm:List PV):RX.evR tm=fun x=>.c (x.ev tm):=by
 funext x
 cases x with
 | t i=>simp only[RX.evR,RX.ev,qqz]
 | c v=>rfl
theorem Qm7 (σ:List (List Ob)):lookR σ=qbo σ:=by
 funext nm
 unfold lookR qbo
 rw[qq7]
 cases σ[nm.1]? with
 | none=>rfl
 | some l=>exact qq7 l nm.2
theorem evF_eq (tm:List PV):RX.evF tm=RX.ev tm:=by
 funext x
 cases x with
 | t i=>exact qqz tm i
 | c v=>rfl
theorem Qpe (m i:Nat):Qjm m i=m.testBit i:=by
 unfold Qjm
 rw[Nat.testBit_eq_decide_div_mod_eq]
 show ((m >>> i) &&& 1).beq 1=_
 rw[Nat.and_one_is_mod,Nat.shiftRight_eq_div_pow]
 by_cases h:m / 2 ^ i%2=1
 ·rw[h];rfl
 ·cases hb:(m / 2 ^ i%2).beq 1 with
  | false=>simp[h]
  | true=>exact absurd (Nat.eq_of_beq_eq_true hb) h
theorem qxx (i:Nat):∀ ds:List Nat,Qjm (qtj ds) i=ds.contains i
 | []=>by rw[Qpe];simp[qtj]
 | d :: ds=>by
  have ih:=qxx i ds
  rw[Qpe] at ih ⊢
  show (1 <<< d ||| qtj ds).testBit i=_
  rw[Nat.testBit_or,ih,Nat.one_shiftLeft,Nat.testBit_two_pow,List.contains_cons]
  congr 1
  by_cases h:i=d
  ·simp[h]
  ·have h2:¬d=i:=fun e=>h e.symm
   simp[h,h2]
theorem qx8 (ds:List Nat) (b:Bool):∀ (l:List PV) (i:Nat),Qg9 (qtj ds) b i l=(l.zipIdx i).map fun (v,j)=>if ds.contains j=b then v else .undef
 | [],_=>rfl
 | v :: vs,i=>by
  simp only[Qg9,List.zipIdx_cons,List.map_cons,qx8 ds b vs,qxx]
  congr 1
  cases ds.contains i<;>cases b<;>simp
theorem Qj0 (ds:List Nat) (st:St):Qcm ds st=qms ds st:=by
 unfold Qcm qms
 rw[qx8]
 congr 2
 funext p
 cases ds.contains p.2<;>simp
theorem Qg8 (ds:List Nat) (st:St):qx7 ds st=qkh ds st:=by
 unfold qx7 qkh
 rw[qx8]
theorem qz2:∀ (l:List PV) (i:Nat),qw2 i l=((l.zipIdx i).filter fun (v,_)=>qg4 v).map (·.2)
 | [],_=>rfl
 | v :: vs,i=>by
  simp only[qw2,List.zipIdx_cons,List.filter_cons,qz2 vs]
  cases v<;>simp[qg4]
theorem undefsQ_eq (st:St):undefsQ st=undefs st:=qz2 _ _
theorem qvf (R:List Nm):∀ (objs:List (List Ob)) (i:Nat) (f:Nat→List Ob),(∀ j,j < objs.length→f (i+j)=objs.getD j []) →
  (List.range' i objs.length).filter (fun d=>!(f d).isEmpty&&R.all fun nm=>nm.1 != d)=qgi R i objs
 | [],_,_,_=>rfl
 | l :: ls,i,f,hf=>by
  have ih:=qvf R ls (i+1) f fun j hj=>by
   have:=hf (j+1) (by simpa using hj)
   rw[show i+1+j=i+(j+1) by omega,this]
   rfl
  have h0:f i=l:=hf 0 (by simp)
  simp only[List.length_cons,List.range'_succ,List.filter_cons,h0,qgi]
  rw[ih]
  cases l with
  | nil=>simp
  | cons a l=>cases (R.all fun nm=>nm.1 != i)<;>simp
theorem qw0 (st:St):Qcl st=qqk st:=by
 unfold Qcl qqk
 rw[←qvf _ st.objs 0 (fun d=>st.objs.getD d []) (fun j _=>by rw[Nat.zero_add]),List.range_eq_range']
theorem Qca (ds:List Nat):∀ (l:List (List Ob)) (i:Nat),Qd2 (qtj ds) i l=(l.zipIdx i).map fun (v,j)=>if ds.contains j then [] else v
 | [],_=>rfl
 | v :: vs,i=>by
  simp only[Qd2,List.zipIdx_cons,List.map_cons,Qca ds vs,qxx]
  congr 1
  cases ds.contains i<;>simp
theorem Qjt (objs:List (List Ob)):∀ ds:List Nat,Qph objs ds=ds.all fun d=>(objs.getD d []).isEmpty
 | []=>rfl
 | d :: ds=>by
  simp only[Qph,List.all_cons,Qjt objs ds,qq7,List.getD_eq_getElem?_getD]
  cases objs[d]? with
  | none=>simp
  | some l=>cases l<;>simp
theorem Qjd (ds:List Nat) (st:St) (h:(ds.all fun d=>(st.objs.getD d []).isEmpty)=false):Qn9 ds st=qk8 ds st:=by
 unfold qk8
 rw[if_neg (by rw[h];decide)]
 unfold Qn9
 rw[show (fun m:Nm=>match Qjm (qtj ds) m.1 with | true=>some (none:Option Ob) | false=>none)=fun m=>if ds.contains m.1 then some none else none by
  funext m
  rw[qxx]
  cases ds.contains m.1<;>rfl]
 simp only[Qca]
theorem qpj (ds:List Nat) (st:St):Qjc ds st=qk8 ds st:=by
 unfold Qjc
 rw[Qjt]
 split
 ·rename_i h;unfold qk8;rw[if_pos h]
 ·rename_i h;exact Qjd ds st h
theorem qve (R:List Nm):∀ (objs:List (List Ob)) (i d:Nat),d∈qgi R i objs→i≤d∧∃ a l,objs[d - i]?=some (a :: l)
 | [],_,_,h=>by simp[qgi] at h
 | l :: ls,i,d,h=>by
  have ih:=qve R ls (i+1) d
  have step:d∈qgi R (i+1) ls→i≤d∧∃ a l',(l :: ls)[d - i]?=some (a :: l'):=fun h=>by
   obtain⟨h1,a,l',h2⟩:=ih h
   refine⟨by omega,a,l',?_⟩
   rw[show d - i=d - (i+1)+1 by omega,List.getElem?_cons_succ]
   exact h2
  simp only[qgi] at h
  split at h
  ·exact step h
  ·split at h
   ·rcases List.mem_cons.1 h with rfl | h
    ·exact⟨Nat.le_refl _,_,_,by rw[Nat.sub_self];rfl⟩
    ·exact step h
   ·exact step h
theorem Qjb (st:St):Qn8 st=qk8 (qqk st) st:=by
 unfold Qn8
 split
 ·rename_i h;rw[←qw0,h];rfl
 ·rename_i d ds h
  rw[←qw0,h]
  refine Qjd _ _ ?_
  obtain⟨_,a,l,h2⟩:=qve _ st.objs 0 d (by rw[show qgi _ 0 st.objs=d :: ds from h];exact List.mem_cons_self)
  rw[List.all_cons,List.getD_eq_getElem?_getD,show st.objs[d]?=some (a :: l) from h2]
  rfl
theorem qsr (ds:List Nat) (st:St):dropQ ds st=drop ds st:=by unfold dropQ drop;rw[Qjb,Qj0]
theorem Qbz (asg:List Nat):∀ (l:List PV) (i t:Nat),qyh (qtj asg) i l=true→asg.contains (i+t)=true→∀ nm k o n,l.getD t .undef=.arr nm k o n→nm=(i+t,0)
 | [],_,_,_,_,_,_,_,_=>by simp
 | x :: xs,i,0,h,hc,nm,k,o,n=>by
  intro e
  simp only[List.getD_cons_zero] at e
  subst e
  simp only[qyh,qxx] at h
  rw[show asg.contains i=true from hc] at h
  obtain⟨a,b⟩:=nm
  dsimp only at h
  cases hb:Nat.beq a i with
  | false=>rw[hb] at h;cases h
  | true =>
   rw[hb] at h
   cases b with
   | zero=>rw[Nat.eq_of_beq_eq_true hb];rfl
   | succ b=>cases h
 | x :: xs,i,t+1,h,hc,nm,k,o,n=>by
  rw[List.getD_cons_succ,show i+(t+1)=i+1+t by omega]
  rw[show i+(t+1)=i+1+t by omega] at hc
  refine Qbz asg xs (i+1) t ?_ hc nm k o n
  simp only[qyh] at h
  repeat' split at h
  all_goals first | exact h | cases h
theorem Qbe (t:Nat) (st:St) (h:∀ nm k o n,st.tmps.getD t .undef=.arr nm k o n→nm=(t,0)):qj1 t st=st:=by
 unfold qj1
 split
 ·rename_i nm k o n e
  rw[if_neg]
  exact fun hh=>hh.1 (h nm k o n e)
 ·rfl
theorem Qbd (st:St):∀ (asg:List Nat),(∀ t∈asg,∀ nm k o n,st.tmps.getD t .undef=.arr nm k o n→nm=(t,0))→asg.foldl (fun st t=>qj1 t st) st=st
 | [],_=>rfl
 | t :: asg,h=>by rw[List.foldl_cons,Qbe t st (h t List.mem_cons_self)];exact Qbd st asg fun u hu=>h u (List.mem_cons_of_mem _ hu)
theorem qqt {R:Type}:∀ (asg:List Nat) (st:St) (K:St→R),qrw asg st K=K (asg.foldl (fun st t=>qj1 t st) st)
 | [],_,_=>rfl
 | t :: asg,st,K=>by
  rw[List.foldl_cons]
  simp only[qrw]
  split
  ·rw[qvz];exact qqt asg _ K
  ·rename_i h
   rw[Qbe t st (fun nm k o n e=>absurd (by rw[qqz];exact e) (h nm k o n))]
   exact qqt asg st K
theorem norm0K_eq {R:Type} (asg:List Nat) (grow:List (Nat×Nat)) (st:St) (K:St→R):norm0K asg grow st K=K (norm0 asg grow st):=by
 unfold norm0K norm0
 split
 ·rename_i h;rw[Qbd st asg fun t ht nm k o n e=>by have:=Qbz asg st.tmps 0 t h (by simpa using ht) nm k o n e;simpa using this]
 ·rw[qqt]
theorem qwk (asg:List Nat) (grow:List (Nat×Nat)) (st:St):normQ asg grow st=norm asg grow st:=by unfold normQ norm;rw[norm0K_eq,qvz,qsr,undefsQ_eq]
theorem qrm (live:Option (List Nat)) (st:St):tidyQ live st=Qmf live st:=by
 unfold tidyQ Qmf
 split
 ·rfl
 ·rw[Qjb,Qg8]
theorem evRs_eq (tm tm':List PV) (xs:List RX):(xs.map fun x=>RX.c (x.ev tm)).map (RX.ev tm')=xs.map (RX.ev tm):=by
 rw[List.map_map];rfl
theorem exec_instA (d:Nat) (σ:Nm→Option Ob) (T:List PV) (op:ROp):exec d σ [] (op.mapX fun x=>.c (x.ev T))=exec d σ T op:=by
 cases op with
 | build z ps=>simp only[ROp.mapX,exec];rw[Qnv T]
 | slice k x lo hi mx=>simp only[ROp.mapX,exec];rw[qlv,qlv,qlv];rfl
 | strSlice x lo hi=>simp only[ROp.mapX,exec];rw[qlv,qlv];rfl
 | minmax mx xs=>simp only[ROp.mapX,exec,List.map_map];rfl
 | mkSl k xs=>simp only[ROp.mapX,exec,List.map_map];rfl
 | mkF f xs=>simp only[ROp.mapX,exec,List.map_map];rfl
 | _=>rfl
theorem qzl (st:St) (dst:Option Nat) (o:Out):Qcj st dst o=apply st dst o:=by
 unfold Qcj
 split
 ·rename_i h
  obtain⟨v,new,upd,kill,frz,gone,ups,io,slot⟩:=o
  simp only[stillO,qb7,Bool.and_eq_true,Option.isNone_iff_eq_none,List.isEmpty_iff] at h
  obtain⟨⟨⟨⟨⟨⟨rfl,rfl⟩,rfl⟩,rfl⟩,rfl⟩,rfl⟩,rfl⟩:=h
  unfold apply
  cases dst<;>simp[setR_eq]
 ·rfl
section eval_eq
variable (M:qfk) {E:Type} (h:qbg E) (dep:Nat) (ops:List qbw)
theorem Qdy (dst:Nat) (σ:Nm→Option Ob) (tm:List PV) (f:RX) (args:List RX) (e:E):qck M h dep dst σ [] (.c (f.ev tm)) (args.map fun x=>.c (x.ev tm)) e=qck M h dep dst σ tm f args e:=by
 have hv:=evRs_eq tm [] args
 unfold qck
 simp only[hv]
 rfl
theorem outQ_eq (o:qbw) (st:St) (e:E):outQ M h dep o st e=qh4 M h dep o st e:=by
 unfold outQ qh4
 rw[show freshQ o st=qgc o st by unfold freshQ qgc;simp only[qq7]<;>rfl,Qm7,evR_eq]
 congr 1
 cases o.op with
 | call f args=>have hc:=Qdy M h dep (o.dst.getD 0) (qbo st.objs) st.tmps f args e;simp only[hc]<;>rfl
 | _=>simp only[exec_instA]<;>rfl
theorem Qff (o:qbw) (tm:List PV):Qmb ops o tm=qji ops o tm:=by
 unfold Qmb qji
 simp only[qq7,qqz]<;>rfl
theorem stepQ_eq (o:qbw) (st:St) (e:E):stepQ M h dep ops o st e=stepG M h dep ops o st e:=by
 unfold stepQ stepG qro
 rw[Qff]
 split<;>rename_i hw<;>simp only[hw,fOut_eq,outQ_eq,qzl]<;>rfl
theorem Qj7:∀ (l:List qbw) (st:St) (e:E),runQ M h dep ops l st e=qhe M h dep ops l st e
 | [],_,_=>rfl
 | o :: l,st,e=>by
  simp only[runQ,qhe,stepQ_eq,Qj7 l]<;>rfl
theorem infoQ_eq (i:Nat) (o:qbw) (st:St) (out:Out):infoQ ops i o st out=qk1 ops i o st out:=by
 unfold infoQ qk1 rnQ Qfy yldQ qto
 simp only[evF_eq,Qm7,qqz]<;>rfl
theorem outDQ_eq (i:Nat) (o:qbw) (st:St) (e:E):outDQ M h dep ops i o st e=Qfp M h dep ops i o st e:=by
 unfold outDQ Qfp qmr
 rw[Qff,outQ_eq]
 cases qji ops o st.tmps with
 | none=>rfl
 | some b =>
  cases b with
  | true =>
   cases qh4 M h dep o st e with
   | none=>rfl
   | some p=>simp only[fOut_eq,qzl,infoQ_eq]
  | false=>simp only[qzl,qqz]
theorem Qmm:∀ (l:List (Nat×Nat)) (infos:List qrh) (st:St) (e:E),runDQ M h dep ops l infos st e=Qmn M h dep ops l infos st e
 | [],_,_,_=>rfl
 |(i,bef) :: l,infos,st,e=>by
  simp only[runDQ,Qmn,qq7,outDQ_eq,Qmm l]<;>rfl
end eval_eq
theorem qjh (M:qfk) (fuel:Nat):∀ (c:qc6) {E:Type} (h:qbg E) (dep:Nat) (st:St) (e:E),qml M fuel c h dep st e=qbt M fuel c h dep st e
 | .skip,_,_,_,_,_ | .exit _,_,_,_,_,_ | .ret,_,_,_,_,_ | .bad,_,_,_,_,_ | .dreg _ _ _ _,_,_,_,_,_ | .rangeFunc _ _ _ _,_,_,_,_,_=>by simp only[qml,qbt]<;>rfl
 | .norm _,_,_,_,_,_=>by simp only[qml,qbt,qvz,Qhv,qpj,qrm,qwk,qsr]<;>rfl
 | .region ops none qhs,_,h,dep,st,e=>by simp only[qml,qbt,qvz,Qhv,qpj,qrm,qwk,qsr,Qj7]<;>rfl
 | .region ops (some bef) qhs,_,h,dep,st,e=>by simp only[qml,qbt,qvz,Qhv,qpj,qrm,qwk,qsr,Qmm]<;>rfl
 | .seq a b,_,h,dep,st,e=>by simp only[qml,qbt,qjh M fuel a,qjh M fuel b]<;>rfl
 | .cond c a b,_,h,dep,st,e=>by simp only[qml,qbt,qjh M fuel a,qjh M fuel b]<;>rfl
 | .block id b,_,h,dep,st,e=>by simp only[qml,qbt,qjh M fuel b]<;>rfl
 | .scope b,_,h,dep,st,e=>by simp only[qml,qbt,qjh M fuel b]<;>rfl
 | .loop asg grow b,_,h,dep,st,e=>by simp only[qml,qbt,qvz,Qhv,qpj,qrm,qwk,qsr,qjh M fuel b]<;>rfl
theorem callQ_eq (M:qfk) (n:Nat) (tab:FuncId→Option RFn):callQ M n tab=qpm M n tab:=by
 funext E h dep f args e
 simp only[callQ,qpm,qmk,qjh,fV_eq,Qln]<;>rfl
theorem qk3 (M:qfk) (fuel nt:Nat):∀ (c:qc6) (st:St),qll M fuel nt c st=qcn M fuel nt c st
 | .dreg ops f args live,st=>by simp only[qll,qcn,Qj7,qpj,Qhv,qrm]<;>rfl
 | .seq a b,st=>by simp only[qll,qcn,qk3 M fuel nt a,qk3 M fuel nt b]<;>rfl
 | .cond c a b,st=>by simp only[qll,qcn,qk3 M fuel nt a,qk3 M fuel nt b]<;>rfl
 | .block id b,st=>by simp only[qll,qcn,qk3 M fuel nt b]<;>rfl
 | .scope b,st=>by simp only[qll,qcn,qk3 M fuel nt b]<;>rfl
 | .skip,_ | .region _ _ _,_ | .loop _ _ _,_ | .rangeFunc _ _ _ _,_ | .exit _,_ | .ret,_ | .norm _,_ | .bad,_=>by simp only[qll,qcn,qjh]<;>rfl
theorem ioRawQ_eq (M:qfk) (n:Nat) (fn:RFn) (ins:List Ob) (vs:List PV):ioRawQ M n fn ins vs=qtq M n fn ins vs:=by
 unfold ioRawQ qtq
 simp only[qvz,qjh,qk3]<;>rfl
theorem fObD_eq {R:Type} (o:Ob) (K:Ob→R):fObD o K=K o:=by cases o<;>simp only[fObD,qmk,qy1]
theorem Qnz {R:Type}:∀ (xs:List Ob) (K:List Ob→R),fObDs xs K=K xs
 | [],_=>rfl
 | x :: xs,K=>by simp only[fObDs];rw[fObD_eq,Qnz xs]
theorem ioOfQ_eq (M:qfk) (n:Nat) (tab:FuncId→Option RFn):ioOfQ M n tab=Qjz M n tab:=by
 funext f dst σ vs
 unfold ioOfQ Qjz
 simp only[qy1,Qnz,qmk,ioRawQ_eq,qvz]<;>rfl
theorem Qhy (memo:FuncId→List PV→Option PV) (sp:FuncId→(Nm→Option Ob)→List PV→Option Out) (tab:FuncId→Option RFn):∀ n,Qhz memo sp tab n=qy3 memo sp tab n
 | 0=>rfl
 | n+1=>by simp only[Qhz,qy3,Qhy memo sp tab n,callQ_eq,ioOfQ_eq]
theorem qcl {sp:FuncId→(Nm→Option Ob)→List PV→Option Out} {tab:FuncId→Option RFn} {l:Qfb} (hl:qs1 sp tab l) {n:Nat} {g:FuncId} {args:List PV} {r:PV}
  (h:evalFq (Qgm l) sp tab n Unit qbc 0 g args ()=some (r,[],())):∃ m,qcp sp tab m Unit qbc 0 g args ()=some (r,[],()) :=
 ev_known hl (n:=n) (by unfold evalFm;rw[←Qhy];exact h)
end
end Go.Ab

