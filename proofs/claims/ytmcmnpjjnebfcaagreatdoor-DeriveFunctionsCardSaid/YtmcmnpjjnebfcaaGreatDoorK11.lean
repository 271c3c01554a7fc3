/-
  Part 11 of a proof: a machine of our own for the given program, its laws, and what it says of the program. Nothing here is a claim by itself.
-/
import Derived.Test.YtmcmnpjjnebfcaaGreatDoorK10
import Derived.Test.YtmcmnpjjnebfcaaGreatDoorProg
import Derived.WalkKit
import Derived.LaidEql
import Derived.Stop.Asserts
import Derived.RowKitTokens
import Derived.Test.YtmcmnpjjnebfcaaGreatDoorK01
import Derived.Lib.Builder
import Derived.Lib.UnsafeStr
import Derived.Lib.Bytealg
import Derived.Lib.AppendZerosOnto
import Derived.Lib.Walk
import Derived.Lib.SliceRun
import Derived.Laws.Externs
import Derived.Shelf.RegionOpenPlain
import Derived.Shelf.Strings.Replace
import Derived.Shelf.Strconv.Itoa4
import Derived.Lib.Strings
import Derived.Conc.MuLone
import Derived.Laws.LoneSync
import Derived.KernelRfl
import Derived.Test.YtmcmnpjjnebfcaaGreatDoorK05
import Derived.Test.YtmcmnpjjnebfcaaGreatDoorK03
import Derived.ChangeArms
import Derived.ChangeSlices
import Derived.ChangeMaps5
import Derived.JoinedOf
import Derived.RowKit
import Derived.Test.YtmcmnpjjnebfcaaGreatDoorRows
import Derived.ProofKit
import Derived.ChangeSame
import Derived.ChangeVars
import Derived.LaidLaws
import Derived.LaidHandle
import Derived.Stop.Joined
import Derived.Carry
import Derived.Stop.LaidTwo
import Derived.Stop.LaidErr
import Derived.LaidSub
import Derived.Lib.LaidTab
import Derived.Shelf.Vars
import Derived.Handed
set_option linter.all false

set_option maxRecDepth 20000
namespace Go.Ab.Derive2.Sh
open Go Go.Ab Go.Ab.Derive2
theorem Ng (n:Int):Ax B0 .cl (.fn 103 []) [I n]=some (.bool (EG n)):=by
 refine call (d:=fun _=>.cl) rfl (by decide) rfl rfl ?_;rw[ZZ,Z1,run103];simp only[A3,EF,Fp,AS,Cz,Ao,An];unfold EG;by_cases h1:0<=n<;>by_cases h2:n<=1114111<;>by_cases h3:n < 55296<;>simp[h1,h2,h3]
theorem Ks {v:PV} {a:Arr} (h:AK v a) (hl:a.n.length<=1000000):Ax B0 .cl (.fn 43 []) [v]=some (.bool a.right):=by
 refine call (d:=fun _=>.cl) rfl (by decide) (by simp[At,h.ok]) rfl ?_;rw[ZZ,Z1,run43];unfold wc we wf wg wh wi wj wo wr wv;rw[BZ h,cT];rw[show AZ [.int .i64 0]=true from rfl,cT];have lx:=BS h
 have tail:(if a.li=true then (if decide ((a.n.length:Int)<=200)=true then some (PV.bool true) else if (!a.li)=true then some (.bool ((a.n.length:Int)==1)) else some (.bool false)) else if (!a.li)=true then some (.bool ((a.n.length:Int)==1)) else some (.bool false))=some (PV.bool (if a.li then decide (a.n.length<=200) else decide (a.n.length=1))):=by
  have e1:decide ((a.n.length:Int)<=200)=decide (a.n.length<=200):=by
   by_cases h:a.n.length<=200
   ·simp[h];omega
   ·have:¬ (a.n.length:Int)<=200:=by omega
    simp[h,this]
  have e2:((a.n.length:Int)==1)=decide (a.n.length=1):=by
   by_cases h:a.n.length=1
   ·simp[h]
   ·have:¬ (a.n.length:Int)=1:=by omega
    simp[h,this]
  rw[e1,e2];cases a.li;·simp
  ·by_cases h:a.n.length<=200<;>simp[h]
 have key:∀ m i,i+m=a.n.length->Bg (fun z1=>Ac (Ac (AU (Aa z1.1 1) 2 1 false) (fun z2=>Ac (Ad (.len .slice (.c z2))) (fun z3=>Ac (Ad (.bin .lss .num false (.c (Aa z1.1 0)) (.c z3))) (fun z4=>Ah z4 (Ac (AU (Aa z1.1 1) 1 1 false) (fun z5=>some z5)) (some (PV.bool false)))))) (fun z6=>Ah z6 (Ac (AU (Aa z1.1 1) 2 1 false) (fun z7=>Ac (Ad (.idxAddr 1 (.c z7) (.c (Aa z1.1 0)))) (fun z8=>Ac (Ad (.load 1 false (.c z8))) (fun z9=>Ac (Ax B0 .cl (.fn 103 []) [z9]) (fun z10=>Ac (Ad (.un .not (.c z10))) (fun z11=>Ah z11 (Ac (some (PV.bool false,z1.2)) (fun z12=>some (.inr z12))) (Ac (Ad (.bin .add .num true (.c (Aa z1.1 0)) (.c (.int .i64 1)))) (fun z13=>some (.inl ([z13,Aa z1.1 1],z1.2)))))))))) (Ac (Ac (Ac (AU (Aa z1.1 1) 0 1 false) (fun z14=>Ah z14 (Ac (AU (Aa z1.1 1) 2 1 false) (fun z15=>Ac (Ad (.len .slice (.c z15))) (fun z16=>Ac (Ad (.bin .leq .num true (.c z16) (.c (.int .i64 200)))) (fun z17=>Ah z17 (some (PV.bool true)) (Ac (AU (Aa z1.1 1) 0 1 false) (fun z18=>Ac (Ad (.un .not (.c z18))) (fun z19=>Ah z19 (Ac (AU (Aa z1.1 1) 2 1 false) (fun z20=>Ac (Ad (.len .slice (.c z20))) (fun z21=>Ac (Ad (.bin .eql .num true (.c z21) (.c (.int .i64 1)))) (fun z22=>some z22)))) (some (PV.bool false))))))))) (Ac (AU (Aa z1.1 1) 0 1 false) (fun z23=>Ac (Ad (.un .not (.c z23))) (fun z24=>Ah z24 (Ac (AU (Aa z1.1 1) 2 1 false) (fun z25=>Ac (Ad (.len .slice (.c z25))) (fun z26=>Ac (Ad (.bin .eql .num true (.c z26) (.c (.int .i64 1)))) (fun z27=>some z27)))) (some (PV.bool false))))))) (fun z28=>some (z28,z1.2))) (fun z29=>some (.inr z29))))) (([I i,v],()):List PV×Unit)=some (.bool (!(a.ru&&(a.n.drop i).any fun n=>!EG n)&&(if a.li then decide (a.n.length<=200) else decide (a.n.length=1))),()):=by
  intro m;induction m with
  | zero =>
   intro i hi;refine BW ?_;have hd0:a.n.drop i=[]:=aU (by omega);have hlt:¬ ((i:Int) < (a.n.length:Int)):=by omega
   simp only[A7,A4,ES h,BR h,lx.len,bV,AS,hlt,decide_false,Bv,An,Ca,iD,Fp,CN,hd0,List.any_nil,Bool.and_false,ax,aE];rw[tail];rfl
  | succ m ih =>
   intro i hi;have hlt:i < a.n.length:=by omega
   have hlt':(i:Int) < (a.n.length:Int):=by omega
   cases hru:a.ru with
   | false =>
    refine BW ?_;simp only[A7,A4,ES h,Cd h,BR h,lx.len,bV,AS,hlt',decide_true,BN,hru,Bv,An,Ca,iD,Fp,CN,bq,ax,aE];rw[tail];rfl
   | true =>
    rw[FV hlt,List.any_cons];cases hq:EG a.n[i] with
    | false =>
     refine BW ?_;simp only[A7,A4,Cd h,BR h,lx.len,bV,AS,hlt',decide_true,BN,hru,lx.idx hlt,CG,Ng,hq,Ca,ax,bO,aG,Z8,bq]
    | true =>
     rw[Dq (s':=([I ((i+1:Nat):Int),v],()))]
     ·rw[ih (i+1) (by omega),hru];simp only[Z8,aV]
     ·simp only[A7,A4,Cd h,BR h,lx.len,bV,AS,hlt',decide_true,BN,hru,lx.idx hlt,CG,Ng,hq,Ca,Z8,Bv,iD,BT,Ct (by omega:i < 9223372036854775807)]
 have:=key a.n.length 0 (by omega);unfold Arr.right;simpa[A3] using this
theorem R0 {v u:PV} {l m:List Int} (hv:Bd v l) (hu:Bd u m) (hl:l.length<=1000000) (hm:m.length<=1000000):Ax B0 .cl (.fn 29 []) [v,u]=some (.bool (Dn l m)):=by
 refine call (d:=fun _=>.cl) rfl (by decide) (by simp[At,hv.ok,hu.ok]) rfl ?_;rw[ZZ,ZZ,Z1,run29];unfold wc wh wj wo wr wt;rw[hv.len,hu.len];simp only[bV,Ce,An];by_cases hlm:l.length=m.length
 ·have h1:(((l.length:Int) != (m.length:Int))=true)↔False:=by simp[hlm]
  simp only[h1,if_false];have h0:AZ [v,u,.int .i64 0]=true:=by simp only[AZ,bj,hv.und,hu.und];rfl
  rw[h0,cT]
  have key:∀ k i,i+k=l.length->Bg (fun z4=>Ac (Ad (.len .slice (.c (Aa z4.1 0)))) (fun z5=>Ac (Ad (.bin .lss .num false (.c (Aa z4.1 2)) (.c z5))) (fun z6=>Ah z6 (Ac (Ad (.idxAddr 1 (.c (Aa z4.1 0)) (.c (Aa z4.1 2)))) (fun z7=>Ac (Ad (.load 1 false (.c z7))) (fun z8=>Ac (Ad (.idxAddr 1 (.c (Aa z4.1 1)) (.c (Aa z4.1 2)))) (fun z9=>Ac (Ad (.load 1 false (.c z9))) (fun z10=>Ac (Ad (.bin .neq .num false (.c z8) (.c z10))) (fun z11=>Ah z11 (Ac (some (PV.bool false,z4.2)) (fun z12=>some (.inr z12))) (Ac (Ad (.bin .add .num true (.c (Aa z4.1 2)) (.c (.int .i64 1)))) (fun z13=>some (.inl ([Aa z4.1 0,Aa z4.1 1,z13],z4.2)))))))))) (Ac (some (PV.bool true,z4.2)) (fun z14=>some (.inr z14)))))) (([v,u,I i],()):List PV×Unit)=some (.bool (Dn (l.drop i) (m.drop i)),()):=by
   intro k;induction k with
   | zero =>
    intro i hi;refine BW ?_;have h2:l.drop i=[]:=aU (by omega);have h3:m.drop i=[]:=aU (by omega);have hlt:¬ ((i:Int) < (l.length:Int)):=by omega
    simp only[A7,A4,Bc,hv.len,bV,AS,hlt,decide_false,Bv,h2,h3,Dn]
   | succ k ih =>
    intro i hi;have hlt:i < l.length:=by omega
    have hlt2:i < m.length:=by omega
    have hlt':(i:Int) < (l.length:Int):=by omega
    rw[FV hlt,FV hlt2];cases hx:(l[i]==m[i]) with
    | true =>
     have hb:(l[i] != m[i])=false:=by simp[bne,hx]
     rw[Dq (s':=([v,u,I ((i+1:Nat):Int)],()))]
     ·rw[ih (i+1) (by omega)];simp only[Dn,hx,aE]
     ·simp only[A7,A4,Bc,hv.len,bV,AS,hlt',decide_true,BN,hv.idx hlt,hu.idx hlt2,CG,Ce,hb,Bv,iD,BT,Ct (by omega:i < 9223372036854775807)]
    | false =>
     have hb:(l[i] != m[i])=true:=by simp[bne,hx]
     refine BW ?_;simp only[A7,A4,Bc,hv.len,bV,AS,hlt',decide_true,BN,hv.idx hlt,hu.idx hlt2,CG,Ce,hb,Dn,hx,bq]
  have:=key l.length 0 (by omega);simpa[A3] using this
 ·have:¬ (l.length:Int)=(m.length:Int):=by omega
  have h2:Dn l m=false:=by
   cases he:Dn l m with
   | false=>rfl
   | true=>exact absurd (congrArg List.length ((PR l m).1 he)) hlm
  simp[this,h2]
theorem rsame_run {v u:PV} {a b:Arr} (hv:AK v a) (hu:AK u b) (ha:a.n.length<=1000000) (hb:b.n.length<=1000000):Ax B0 .cl (.fn 11 []) [v,u]=some (.bool (a.same b)):=by
 refine call (d:=fun _=>.cl) rfl (by decide) (by simp[At,hv.ok,hu.ok]) rfl ?_;rw[ZZ,ZZ,Z1,run11];unfold we wf wg wv;rw[BZ hv,BZ hu,cT,cT];simp only[ES hv,ES hu,Cd hv,Cd hu,BR hv,BR hu,bV,Iz,An,R0 (BS hv) (BS hu) ha hb];unfold Arr.same;cases (a.li==b.li)<;>cases (a.ru==b.ru)<;>simp
end Go.Ab.Derive2.Sh


set_option maxRecDepth 20000
namespace Go.Ab.Derive2.Sh
open Go Go.Ab Go.Ab.Derive2
theorem MD (a b c d e f g h i x:PV) (l:List PV):Aa (a :: b :: c :: d :: e :: f :: g :: h :: i :: x :: l) 9=x:=rfl
theorem P4 (a b c d e f g h i j x:PV) (l:List PV):Aa (a :: b :: c :: d :: e :: f :: g :: h :: i :: j :: x :: l) 10=x:=rfl
theorem IG (n:Int):Az (Av 0 (Ae [I n])) (Ae [I n])=true:=rfl
theorem DK {c:TC} {s:Bool} (a:List UInt8):Ad (.bin .eql c s (.c (.str a)) (.c (.str a)))=some (.bool true):=by rw[Jq,beq_self_eq_true]
theorem Cb {c:TC} {s:Bool} {a b:List UInt8} (h:¬ a=b):Ad (.bin .eql c s (.c (.str a)) (.c (.str b)))=some (.bool false):=by rw[Jq,beq_eq_false_iff_ne.2 h]
theorem J3 {l:List Int} {k:Nat} (h:k=l.length):AD 1 1 (Am l) 0 k=.sl 1 (Am l) false:=by
 subst h;rw[Nx _ (Z5 _),bA]
theorem okU3 (li ru:Bool) (l:List Int) (f:Bool):Bh (.agg [.bool li,.bool ru,.sl 1 (Am l) f])=true:=by simp[Bh,okV,At,EX]
theorem okU3t (li ru:Bool) (l:List Int) (f:Bool) (n:Int):Bh (.tup [.agg [.bool li,.bool ru,.sl 1 (Am l) f],I n])=true:=by simp[Bh,okV,At,EX]
theorem okB (b:Bool):AA (PV.bool b) 1=true:=rfl
theorem cellB (b:Bool):Ai (PV.bool b) 0=.bool b:=rfl
theorem okLike (r:Bool) (l:List Int) (f:Bool):AA (Ej r (.sl 1 (Am l) f)) 3=true:=rfl
def EI:PV:=.agg [.bool false,.bool false,.nilS]
theorem rno (c:Int):Ac (Ad (.build [.bool false,.bool false,.nilS] [])) (fun z=>Af (AA z 3) (some (PV.tup [.agg [Ai z 0,Ai z 1,Ai z 2],.int .i64 c],())))=some (.tup [EI,I c],()):=rfl
theorem Kg (c:Int):Ac (Ad (.build [.bool false,.bool false,.nilS] [])) (fun z=>Af (AA z 3) (some (PV.tup [.agg [Ai z 0,Ai z 1,Ai z 2],I c],())))=some (.tup [EI,I c],()):=rfl
def Kc (g:FuncId) (args:List PV) (r:Arr) (c:Int):Prop:=∃ y,Ax B0 .cl (.fn g []) args=some (.tup [y,I c])/\AK y r
def On (g:FuncId) (args:List PV) (r:Arr):Prop:=∃ y,Ax B0 .cl (.fn g []) args=some y/\AK y r
theorem U7 (r:Bool):Ax B0 .cl (.fn 47 []) [.bool r]=some (I (DB r)):=by
 refine call (d:=fun _=>.cl) rfl (by decide) rfl rfl ?_;rw[ZZ,Z1,run47];cases r<;>rfl
theorem rlist_nil (r:Bool):Ax B0 .cl (.fn 45 []) [.nilS,.bool r]=some (Ej r .nilS):=by
 refine call (d:=fun _=>.cl) rfl (by decide) rfl rfl ?_;rw[ZZ,ZZ,Z1,run45,Om rfl rfl rfl rfl rfl rfl];rfl
theorem Kt (l:List Int) (f r:Bool):A8 B0 .cl false 45 [.sl 1 (Am l) f,.bool r]=some (Ej r (.sl 1 (Am l) f)):=by
 refine lend (d:=fun _=>.cl) rfl (by simp[At,okV,EX]) rfl ?_ rfl;rw[ZZ,ZZ,Z1,run45,Om rfl rfl rfl rfl rfl rfl];rfl
theorem TX (n:Int):Ax B0 .cl (.fn 48 []) [I n]=some (Lv n):=by
 refine call (d:=fun _=>.cl) rfl (by decide) rfl rfl ?_;rw[ZZ,Z1,run48,E0,PH,okU3];rfl
theorem UH {a:Arr} (h:a.n.length≠1):BH a=111:=by unfold BH;rw[if_pos h]
theorem VA {a:Arr} (h:a.n.length=1) (hr:a.ru=true):BH a=102:=by unfold BH;rw[if_neg (by simp[h]),if_pos hr]
theorem VB {a:Arr} {n:Int} (h:a.n=[n]) (hr:a.ru=false):BH a=0/\AV a=n:=by
 have:BH a=0:=by unfold BH;simp[h,hr]
 exact⟨this,by unfold AV;simp[this,h]⟩
theorem len_ne {a:Arr}:((a.n.length:Int) != 1)=decide (a.n.length≠1):=by
 by_cases h:a.n.length=1
 ·simp[h]
 ·have:¬ (a.n.length:Int)=1:=by omega
  simp[h,this]
theorem Zb {v:PV} {a:Arr} (h:AK v a):Kc 46 [v] (FJ a) (DV a):=by
 have key:∃ y,AK y (FJ a)/\AM (AL B0 fun _=>.cl) fn46 .cl AP 0 [.cv v] ()=some (.tup [y,I (DV a)],()):=by
  rw[run46];unfold wc wf wg wh wj wm wr;rw[BZ h,cT];simp only[BR h,Cd h,bV,(BS h).len,iD,Ce,An,len_ne];by_cases h1:a.n.length=1
  case neg =>
   have e:=UH h1;have e1:DV a=111:=by unfold DV;rw[e];rfl
   refine⟨EI,by unfold FJ;rw[e1];exact BB,?_⟩;simp only[decide_eq_true h1,if_true,e1];exact rno 111
  case pos =>
   obtain⟨n,hn⟩:=List.length_eq_one_iff.1 h1;have hx:=BS h;rw[hn] at hx;have hi:=idx0 hx;rw[iD] at hi;simp only[h1,ne_eq,not_true_eq_false,decide_false,Z0,if_false,hi,bV,CG,AS,Cz,An];cases hru:a.ru with
   | true =>
    have e1:DV a=102:=by unfold DV;rw[VA h1 hru];rfl
    refine⟨EI,by unfold FJ;rw[e1];exact BB,?_⟩;simp only[if_true,bV,An,e1];exact rno 102
   | false =>
    obtain⟨f1,f2⟩:=VB hn hru;simp only[Z0,if_false,bV,An];by_cases h2:n < 0
    ·have e1:DV a=102:=by unfold DV;rw[f1,f2,if_neg (by simp),if_pos h2]
     refine⟨EI,by unfold FJ;rw[e1];exact BB,?_⟩;simp only[decide_eq_true h2,if_true,e1];exact rno 102
    ·by_cases h3:200 < n
     ·have e1:DV a=113:=by unfold DV;rw[f1,f2,if_neg (by simp),if_neg h2,if_pos h3]
      refine⟨EI,by unfold FJ;rw[e1];exact BB,?_⟩;simp only[decide_eq_false h2,decide_eq_true h3,Z0,if_false,if_true,e1];exact rno 113
     ·have e1:DV a=0:=by unfold DV;rw[f1,f2,if_neg (by simp),if_neg h2,if_neg h3]
      obtain⟨N,rfl⟩:∃ N:Nat,n=N:=⟨n.toNat,by omega⟩;have hA:FJ a=⟨true,false,En N⟩:=by unfold FJ;rw[e1,f2];rfl
      refine⟨Ej false (.sl 1 (Am (En N)) false),by rw[hA];exact .mk _ _ _ _ (.sl _ _),?_⟩;simp only[decide_eq_false h2,decide_eq_false h3,Z0,if_false,e1];rw[show AZ [I N,nI 0,I 1]=true from rfl,cT];refine GK (fun i=>([I N,I i,I ((i+1:Nat):Int),.bool false,.bool false,.nilS,.sl 1 (Am (En i)) false],())) N rfl (fun i hlt=>?_) ?_
      ·have d:decide (((i+1:Nat):Int)<=(N:Int))=true:=decide_eq_true (by omega);simp only[A7,A4,Bc,BD,Cl,DI,DH,Fp,bV,An,d,if_true,E0,cT,IG,CF,ah,B2];rw[HH (Iw i).symm (by rw[Iw];omega),HG (Iw i).symm,If,<-UW];simp only[cT,BT,bV,Ct (by omega:i+1 < 9223372036854775807)]
      ·have d:decide (((N+1:Nat):Int)<=(N:Int))=false:=decide_eq_false (by omega);simp only[A7,A4,Bc,BD,Cl,DI,DH,Fp,bV,An,d,Z0,if_false,CF,ah,B2];rw[J3 (Iw N).symm,Kt];rfl
 obtain⟨y,h1,h2⟩:=key;exact⟨y,call (d:=fun _=>.cl) rfl (by decide) (by simp[At,h.ok]) rfl h2,h1⟩
def rv (i:Nat) (l:List Int):List Int:=l.reverse.take i++l.drop i
theorem rv_len (i:Nat) (l:List Int) (h:i<=l.length):(rv i l).length=l.length:=by simp[rv];omega
theorem rv_set {i:Nat} {l:List Int} (h:i < l.length):(rv i l).set i (l[l.length - 1 - i]'(by omega))=rv (i+1) l:=by
 have hr:i < l.reverse.length:=by simpa using h
 have e:l.reverse[i]=l[l.length - 1 - i]'(by omega):=List.getElem_reverse hr;unfold rv;rw[FV h,List.take_succ_eq_append_getElem hr,List.set_append_right _ _ (by simp;omega),e];have:i - (List.take i l.reverse).length=0:=by simp;omega
 rw[this,List.set_cons_zero];simp
theorem rv_all (l:List Int):rv l.length l=l.reverse:=by
 have:l.reverse.take l.length=l.reverse:=av (by simp);simp[rv,this]
theorem rcells {y:PV} {a:Arr} (h:AK y a):PV.agg [Ai y 0,Ai y 1,Ai y 2]=y:=by
 obtain⟨x,rfl,hx⟩:=h.get;rfl
theorem Ld {y:PV} {a:Arr} (h:AK y a) (c:PV):Af (AA y 3) (some (PV.tup [.agg [Ai y 0,Ai y 1,Ai y 2],c],()))=some (.tup [y,c],()):=by
 rw[FT h,cT,rcells h]
theorem rmonR (g:List UInt8) {v:PV} {a:Arr} (h:AK v a) (hl:a.n.length<=400000):Kc 22 [.str g,v] (monA g a) (monE g a):=by
 have key:∃ y,AK y (monA g a)/\AM (AL B0 fun _=>.cl) fn22 .cl AP 0 [.cv (.str g),.cv v] ()=some (.tup [y,I (monE g a)],()):=by
  rw[run22];unfold wa wb wc wd we wf wg wh wi wj wl wr ws wv;rw[BZ h,cT];simp only[Cq h,BR h,bV,Ks h (by omega),Ca,An];unfold monE monA;cases hr:a.right with
  | false =>
   exact⟨EI,BB,rno 114⟩
  | true =>
   have lz:Az (Ae (Am a.n)) 2147483648=true:=by simp[BC];omega
   simp only[Z8,Z0,if_false,(BS h).elems,bV,lz,cT];simp only[show ([226,141,180]:List UInt8)=gR from rfl,show ([226,141,179]:List UInt8)=gI from rfl,show ([44]:List UInt8)=gC from rfl,show ([226,140,189]:List UInt8)=gT from rfl,show ([226,134,145]:List UInt8)=gU from rfl,show ([226,137,162]:List UInt8)=gN from rfl];by_cases h1:g=gR
   ·subst h1;simp only[DK,bV,An,if_true,ES h,Ca,rlist_nil,(BS h).len,E0,cT,PH,Kt];unfold MA;cases a.li with
    | false=>exact⟨Ej false .nilS,.mk _ _ _ _ .nil,rfl⟩
    | true=>exact⟨Ej false (.sl 1 (Am [(a.n.length:Int)]) false),.mk _ _ _ _ (.sl _ _),rfl⟩
   simp only[Cb h1,h1,bV,An,Z0,if_false];by_cases h2:g=gI
   ·subst h2;obtain⟨y,c1,c2⟩:=Zb h;refine⟨y,by simpa using c2,?_⟩;simp only[DK,bV,An,if_true,c1,B3,af,ai,Ld c2,bX,if_false]
   simp only[Cb h2,h2,bV,An,Z0,if_false];by_cases h3:g=gC
   ·subst h3;refine⟨Ej a.ru (.sl 1 (Am a.n) false),.mk _ _ _ _ (.sl _ _),?_⟩;simp only[DK,bV,An,if_true,Cd h,JA,Kt];rfl
   simp only[Cb h3,h3,bV,An,Z0,if_false];by_cases h4:g=gT
   ·subst h4;refine⟨.agg [.bool a.li,.bool a.ru,.sl 1 (Am a.n.reverse) false],.mk _ _ _ _ (.sl _ _),?_⟩;simp only[DK,bV,An,if_true];rw[show AZ [nI (Ae (Am a.n)),PV.int .i64 0]=true from rfl,cT];refine GK (fun i=>([I a.n.length,I i,v,.bool false,.bool false,.nilS,.sl 1 (Am (rv i a.n)) false],())) a.n.length (by simp[rv,BC,I]) (fun i hlt=>?_) ?_
    ·have d:decide ((i:Int) < (a.n.length:Int))=true:=decide_eq_true (by omega);have w1:IntKind.i64.wrap ((a.n.length:Int) - 1)=((a.n.length - 1:Nat):Int):=by rw[DN (by omega) (by omega)];omega
     have w2:IntKind.i64.wrap (((a.n.length - 1:Nat):Int) - (i:Int))=((a.n.length - 1 - i:Nat):Int):=by rw[DN (by omega) (by omega)];omega
     simp only[A7,A4,Bc,BD,Cl,DI,DH,CF,ah,FN,iD,AS,bV,An,d,if_true,BR h,I6,w1,w2,(BS h).idx (by omega:a.n.length - 1 - i < a.n.length),CG,P5,ltN_eq,decide_eq_true hlt,cT,B2];rw[Nf (by rw[rv_len _ _ (by omega)];exact hlt),rv_set hlt];simp only[bV,BT,Ct (by omega:i < 9223372036854775807)]
    ·have d:decide ((a.n.length:Int) < (a.n.length:Int))=false:=by simp
     simp only[A7,A4,Bc,BD,Cl,DI,DH,CF,ah,FN,iD,AS,bV,An,d,Z0,if_false,ES h,Cd h,okB,cellB,cT,B2,rv_all];rw[J3 (by simp),okU3t];rfl
   simp only[Cb h4,h4,bV,An,Z0,if_false];by_cases h5:g=gU
   ·subst h5;refine⟨.agg [.bool false,.bool a.ru,.sl 1 (Am ((a.n++[DB a.ru]).take 1)) false],.mk _ _ _ _ (.sl _ _),?_⟩;have e4:∀ n k,1<=k->DW (some (.int .i64 1)) n k=some 1:=by intro n k hk;simp[DW,CM,Dx,AI,hk]
    by_cases hz:a.n.length=0
    ·have hn:=bI.1 hz;simp only[DK,bV,An,if_true,hn,Cd h,U7,E0,cT,IG,show Ad (.bin .eql .num true (.c (nI (Ae (Am [])))) (.c (.int .i64 0)))=some (.bool true) from rfl];cases a.ru<;>rfl
    ·have hne:((a.n.length:Int)==0)=false:=by simp;intro hq;exact hz (by rw[hq];rfl)
     simp only[DK,bV,An,if_true,SS,BC,FN,iD,CN,hne,Z0,if_false,Cd h,RS];rw[<-iD,e4 _ _ (by omega)];simp only[bV,okB,cellB,cT];rw[Nx _ (by omega),okU3t];have:(a.n++[DB a.ru]).take 1=a.n.take 1:=cm (by omega);rw[this];rfl
   simp only[Cb h5,h5,bV,An,Z0,if_false];by_cases h6:g=gN
   ·subst h6;refine⟨Lv a.n.length,P2 _,?_⟩;simp only[DK,bV,An,if_true,SS,BC,FN,iD,TX];rfl
   simp only[Cb h6,h6,bV,An,Z0,if_false];exact⟨EI,BB,rno 102⟩
 obtain⟨y,h1,h2⟩:=key;exact⟨y,call (d:=fun _=>.cl) rfl (by decide) (by simp[At,okV,h.ok]) rfl h2,h1⟩
end Go.Ab.Derive2.Sh


set_option maxRecDepth 20000
namespace Go.Ab.Derive2.Sh
open Go Go.Ab Go.Ab.Derive2
theorem rreshape {v:PV} {b:Arr} (h:AK v b) (hb:b.n.length<=400000) (N:Nat) (hN:N<=200) (h0:0 < N->0 < b.n.length):On 119 [I N,v] ⟨true,b.ru,Gf b N⟩:=by
 refine⟨Ej b.ru (.sl 1 (Am (Gf b N)) false),?_,.mk _ _ _ _ (.sl _ _)⟩;refine call (d:=fun _=>.cl) rfl (by decide) (by simp[At,h.ok]) rfl ?_;rw[ZZ,ZZ,Z1,run119];unfold wc wf wg wh wj wo wr;rw[BZ h,cT,show AZ [I N,nI 0,PV.int .i64 0]=true from rfl,cT];refine GK (fun i=>([I N,I i,I i,v,.bool false,.bool false,.nilS,.sl 1 (Am (Gf b i)) false],())) N rfl (fun i hlt=>?_) ?_
 ·have hk:i%b.n.length < b.n.length:=cr _ (h0 (by omega));have d:decide ((i:Int) < (N:Int))=true:=decide_eq_true (by omega)
  have r1:Ad (.bin .rem .num false (.c (I i)) (.c (I b.n.length)))=some (I ((i%b.n.length:Nat):Int)):=by
   rw[<-iD,<-iD,Iy _ _ (by omega),Int.tmod_eq_emod_of_nonneg (by omega)];rfl
  have e:b.n[i%b.n.length]=b.n.getD (i%b.n.length) 0:=by rw[Z9,ab hk];rfl
  simp only[A7,A4,Bc,BD,Cl,DI,DH,Ea,AS,bV,An,d,if_true,BR h,(BS h).len,r1,(BS h).idx hk,CG,E0,cT,IG,CF,ah,B2];rw[HH (IK b i).symm (by rw[IK];omega),HG (IK b i).symm,If,e,<-Wz];simp only[cT,iD,BT,bV,Ct (by omega:i < 9223372036854775807)]
 ·have d:decide ((N:Int) < (N:Int))=false:=by simp
  simp only[A7,A4,Bc,BD,Cl,DI,DH,Ea,AS,bV,An,d,Z0,if_false,CF,ah,B2,Cd h];rw[J3 (IK b N).symm,Kt];rfl
theorem turn_get {n:Int} {l:List Int} {i:Nat} (hi:i < l.length) (hs:l.length<=1000000) :
  ∃ j:Nat,j < l.length/\(turn n l)[i]?=l[j]?/\IntKind.i64.wrap (n.tmod l.length+i)=n.tmod l.length+i/\IntKind.i64.wrap ((n.tmod l.length+i).tmod l.length+l.length)=(n.tmod l.length+i).tmod l.length+l.length/\((n.tmod l.length+i).tmod l.length+l.length).tmod l.length=(j:Int):=by
 have hk:0 < l.length:=by omega
 have h2:=dc n (show (0:Int) < (l.length:Int) by omega)
 have h1 : -(l.length:Int) < n.tmod l.length:=by
  have:=dc (-n) (show (0:Int) < (l.length:Int) by omega);rw[Int.neg_tmod] at this;omega
 have hw:IntKind.i64.wrap (n.tmod l.length+i)=n.tmod l.length+i:=DN (by omega) (by omega);obtain⟨w1,w2⟩:=VT (n:=n.tmod l.length+i) hk hs;have hj:=Nb (n:=n.tmod l.length+i) hk;have ht:=Nb (n:=n) hk;refine⟨FZ (n.tmod l.length+i) l.length,hj,?_,hw,w1,w2⟩
 have em:(n.tmod l.length+i)%(l.length:Int)=(n%(l.length:Int)+i)%(l.length:Int):=by
  have e:=Int.tmod_add_mul_tdiv n l.length;have:n.tmod l.length+i=(n+i)+l.length*(-(n.tdiv l.length)):=by rw[Int.mul_neg];omega
  rw[this,Int.add_mul_emod_self_left,Int.emod_add_emod]
 have t0:=Int.emod_nonneg n (show (l.length:Int)≠0 by omega)
 have e2:FZ (n.tmod l.length+i) l.length=(FZ n l.length+i)%l.length:=by
  unfold FZ;rw[em];have:(n%(l.length:Int)+(i:Int))=(((n%(l.length:Int)).toNat+i:Nat):Int):=by omega
  rw[this,<-Int.natCast_emod];exact ah _
 rw[e2];unfold turn;by_cases hc:FZ n l.length+i < l.length
 ·rw[cC hc,bv (by simp;omega),ck]
 ·have:(FZ n l.length+i)%l.length=FZ n l.length+i - l.length:=by
   rw[Nat.mod_eq_sub_mod (by omega),cC (by omega)]
  rw[this,b8 (by simp;omega),b7 (by simp;omega)];congr 1;simp;omega
theorem PE (n:Int) (l:List Int):(turn n l).length=l.length:=by
 rcases cK l.length with h | h;·have:=bI.1 h;subst this;simp[turn]
 ·have:=Nb (n:=n) h;simp[turn];omega
theorem rrotate {v:PV} {b:Arr} (h:AK v b) (hb:b.n.length<=400000) (n:Int):On 120 [I n,v] ⟨b.li,b.ru,if b.n.length=0 then [] else turn n b.n⟩:=by
 have e0:(if b.n.length=0 then [] else turn n b.n)=turn n b.n:=by
  split
  ·rename_i hz;have:=bI.1 hz;rw[this];simp[turn]
  ·rfl
 rw[e0];refine⟨.agg [.bool b.li,.bool b.ru,.sl 1 (Am (turn n b.n)) false],?_,.mk _ _ _ _ (.sl _ _)⟩;refine call (d:=fun _=>.cl) rfl (by decide) (by simp[At,h.ok]) rfl ?_;rw[ZZ,ZZ,Z1,run120];unfold wc we wf wg wh wj wo wp wr;rw[BZ h,cT];simp only[BR h,bV,(BS h).len];rw[show AZ [I n,nI 0,I b.n.length,PV.int .i64 0]=true from rfl,cT];refine GK (fun i=>([I n,I i,I b.n.length,I i,v,.bool false,.bool false,.nilS,.sl 1 (Am ((turn n b.n).take i)) false],())) b.n.length rfl (fun i hlt=>?_) ?_
 ·have d:decide ((i:Int) < (b.n.length:Int))=true:=decide_eq_true (by omega);obtain⟨j,hj,hg,w1,w2,w3⟩:=turn_get (n:=n) hlt (by omega)
  have rem:∀ x:Int,Ad (.bin .rem .num false (.c (I x)) (.c (I b.n.length)))=some (I (x.tmod b.n.length)):=fun x=>by
   rw[<-iD,<-iD,Iy _ _ (by omega)];rfl
  have hl:((turn n b.n).take i).length=i:=by rw[bS,PE];omega
  have hti:i < (turn n b.n).length:=by rw[PE];exact hlt
  have hv:b.n[j]=(turn n b.n)[i]:=by
   rw[ab hti,ab hj] at hg;exact (cf hg).symm
  simp only[A7,A4,Bc,BD,Cl,DI,DH,Ea,ET,AS,bV,An,d,if_true,BR h,rem,BT,w1,w2,w3,(BS h).idx hj,CG,E0,cT,IG,CF,ah,B2];rw[HH hl.symm (by omega),HG hl.symm,If,hv,<-Nc hti];simp only[cT,iD,BT,bV,Ct (by omega:i < 9223372036854775807)]
 ·have d:decide ((b.n.length:Int) < (b.n.length:Int))=false:=by simp
  have ht:(turn n b.n).take b.n.length=turn n b.n:=av (by rw[PE];omega);simp only[A7,A4,Bc,BD,Cl,DI,DH,Ea,ET,AS,bV,An,d,Z0,if_false,CF,ah,B2,ES h,Cd h,okB,cellB,cT,ht];rw[J3 (PE n b.n).symm,okU3];rfl
theorem WJ (b:Arr) (f:Int) (k:Nat):((List.range (k+1)).map fun j=>Ed b f j)=((List.range k).map fun j=>Ed b f j)++[Ed b f k]:=by simp[List.range_succ]
theorem KU (b:Arr) (f:Int) (k:Nat):((List.range k).map fun j=>Ed b f j).length=k:=by simp
theorem Uo {v:PV} {b:Arr} (h:AK v b) (hb:b.n.length<=400000) (f:Int) (hf : -1000000<=f/\f<=1000000) (k:Nat) (hk:k<=200) :
  Bg (fun z24=>Ac (Ad (.bin .add .num false (.c (Aa z24.1 2)) (.c (Aa z24.1 0)))) (fun z25=>Ac (Ad (.bin .lss .num false (.c (Aa z24.1 3)) (.c z25))) (fun z26=>Ah z26 (Ac (Ac (Ad (.bin .lss .num true (.c (Aa z24.1 3)) (.c (.int .i64 0)))) (fun z27=>Ah z27 (some (PV.bool true)) (Ac (AU (Aa z24.1 4) 2 1 false) (fun z28=>Ac (Ad (.len .slice (.c z28))) (fun z29=>Ac (Ad (.bin .geq .num false (.c (Aa z24.1 3)) (.c z29))) (fun z30=>some z30)))))) (fun z31=>Ah z31 (Ac (AU (Aa z24.1 4) 1 1 false) (fun z32=>Ac (Ax B0 .cl (.fn 47 []) [z32]) (fun z33=>Af (AT 1 [z33]) (Af (Az (Av 0 (Ae [z33])) (Ae [z33])) (Af (Bi (Az (Al (Aa z24.1 1)) (Ae (Ap (Aa z24.1 8)))) (Az (Av (Al (Aa z24.1 1)) (Ae (As (Ae [z33]) (AG 0 [z33])))) 2147483648)) (Ac (Ad (.bin .add .num true (.c (Aa z24.1 3)) (.c (.int .i64 1)))) (fun z34=>some (.inl ([Aa z24.1 0,nI (Av (Al (Aa z24.1 1)) (Ae (As (Ae [z33]) (AG 0 [z33])))),Aa z24.1 2,z34,Aa z24.1 4,Aa z24.1 5,Aa z24.1 6,Aa z24.1 7,.sl 1 (A9 (As (Al (Aa z24.1 1)) (Ap (Aa z24.1 8))) (As (Ae [z33]) (AG 0 [z33]))) false],z24.2))))))))) (Ac (AU (Aa z24.1 4) 2 1 false) (fun z35=>Ac (Ad (.idxAddr 1 (.c z35) (.c (Aa z24.1 3)))) (fun z36=>Ac (Ad (.load 1 false (.c z36))) (fun z37=>Af (AT 1 [z37]) (Af (Az (Av 0 (Ae [z37])) (Ae [z37])) (Af (Bi (Az (Al (Aa z24.1 1)) (Ae (Ap (Aa z24.1 8)))) (Az (Av (Al (Aa z24.1 1)) (Ae (As (Ae [z37]) (AG 0 [z37])))) 2147483648)) (Ac (Ad (.bin .add .num true (.c (Aa z24.1 3)) (.c (.int .i64 1)))) (fun z38=>some (.inl ([Aa z24.1 0,nI (Av (Al (Aa z24.1 1)) (Ae (As (Ae [z37]) (AG 0 [z37])))),Aa z24.1 2,z38,Aa z24.1 4,Aa z24.1 5,Aa z24.1 6,Aa z24.1 7,.sl 1 (A9 (As (Al (Aa z24.1 1)) (Ap (Aa z24.1 8))) (As (Ae [z37]) (AG 0 [z37]))) false],z24.2)))))))))))) (Ac (Ac (AU (Aa z24.1 4) 1 1 false) (fun z39=>Ac (A8 B0 .cl false 45 [AD 1 1 (Ap (Aa z24.1 8)) 0 (Al (Aa z24.1 1)),z39]) (fun z40=>Af (AA z40 3) (some (PV.agg [Ai z40 0,Ai z40 1,Ai z40 2],z24.2))))) (fun z41=>some (.inr z41)))))) (([I k,nI 0,I f,I f,v,.bool false,.bool false,.nilS,.sl 1 [] false],()):List PV×Unit)=some (Ej b.ru (.sl 1 (Am ((List.range k).map fun j=>Ed b f j)) false),()):=by
 refine GK (fun i=>([I k,I i,I f,I (f+i),v,.bool false,.bool false,.nilS,.sl 1 (Am ((List.range i).map fun j=>Ed b f j)) false],())) k (by simp[Am,I]) (fun i hlt=>?_) ?_
 ·have w1:IntKind.i64.wrap (f+k)=f+k:=DN (by omega) (by omega);have w2:IntKind.i64.wrap (f+i+1)=f+(i+1:Nat):=by rw[DN (by omega) (by omega)];omega
  have d:decide (f+i < f+k)=true:=decide_eq_true (by omega);simp only[A7,A4,Bc,BD,Cl,DI,DH,Ea,ET,iD,BT,w1,AS,bV,An,d,if_true,Cd h,BR h,(BS h).len,EF];by_cases hin:0<=f+i/\f+i < b.n.length
  ·have d1:decide (f+i < 0)=false:=decide_eq_false (by omega);have d2:decide ((b.n.length:Int)<=f+i)=false:=decide_eq_false (by omega);obtain⟨j,hj⟩:∃ j:Nat,f+i=j:=⟨(f+i).toNat,by omega⟩;have hj2:j < b.n.length:=by omega
   have ei:Ed b f i=b.n[j]:=by
    unfold Ed;rw[if_pos hin,hj,Z9,ah,ab hj2];rfl
   have hix:=(BS h).idx hj2;rw[<-hj] at hix;simp only[d1,d2,Z0,if_false,bV,An,hix,CG,E0,cT,IG,CF,ah,B2];rw[HH (KU b f i).symm (by rw[KU];omega),HG (KU b f i).symm,If,<-ei,<-WJ];simp only[cT,w2,bV]
  ·have e1:(if decide (f+i < 0)=true then some (PV.bool true) else some (PV.bool (decide ((b.n.length:Int)<=f+i))))=some (.bool true):=by
    by_cases q:f+i < 0
    ·simp[q]
    ·have:(b.n.length:Int)<=f+i:=by omega
     simp[q,this]
   have ei:Ed b f i=DB b.ru:=by unfold Ed;rw[if_neg hin]
   simp only[e1,bV,An,if_true,U7,E0,cT,IG,CF,ah,B2];rw[HH (KU b f i).symm (by rw[KU];omega),HG (KU b f i).symm,If,<-ei,<-WJ];simp only[cT,w2,bV]
 ·have w1:IntKind.i64.wrap (f+k)=f+k:=DN (by omega) (by omega);have d:decide (f+k < f+k)=false:=by simp
  simp only[A7,A4,Bc,BD,Cl,DI,DH,Ea,ET,iD,BT,w1,AS,bV,An,d,Z0,if_false,CF,ah,B2,Cd h];rw[J3 (KU b f k).symm,Kt];rfl
theorem rtake {v:PV} {b:Arr} (h:AK v b) (hb:b.n.length<=400000) (n:Int) (hn : -200<=n/\n<=200):On 121 [I n,v] ⟨true,b.ru,He b n⟩:=by
 refine⟨Ej b.ru (.sl 1 (Am (He b n)) false),?_,.mk _ _ _ _ (.sl _ _)⟩;refine call (d:=fun _=>.cl) rfl (by decide) (by simp[At,h.ok]) rfl ?_;rw[ZZ,ZZ,Z1,run121];unfold wc wf wg wh wj wm wo wp wr wv;rw[BZ h,cT];simp only[iD,AS,bV,An,BR h,(BS h).len,BT,negI];by_cases h1:n < 0
 ·have w1:IntKind.i64.wrap ((b.n.length:Int)+n)=(b.n.length:Int)+n:=DN (by omega) (by omega);obtain⟨k,hk⟩:∃ k:Nat,0 - n=k:=⟨(0 - n).toNat,by omega⟩;have w2:IntKind.i64.wrap (0 - n)=k:=by rw[DN (by omega) (by omega)];exact hk
  rw[decide_eq_true h1,if_pos rfl,w1,w2];rw[show AZ [I k,nI 0,I ((b.n.length:Int)+n),I ((b.n.length:Int)+n)]=true from rfl,cT];have:=Uo h hb ((b.n.length:Int)+n) (by omega) k (by omega)
  have e:He b n=(List.range k).map fun j=>Ed b ((b.n.length:Int)+n) j:=by
   unfold He EV tkF;rw[if_pos h1,if_pos h1];have:(-n).toNat=k:=by omega
   rw[this]
  rw[e];exact this
 ·obtain⟨k,rfl⟩:∃ k:Nat,n=k:=⟨n.toNat,by omega⟩;rw[decide_eq_false h1,if_neg (by simp)];rw[show AZ [I k,nI 0,I 0,I 0]=true from rfl,cT];have:=Uo h hb 0 (by omega) k (by omega)
  have e:He b k=(List.range k).map fun j=>Ed b 0 j:=by
   unfold He EV tkF;rw[if_neg h1,if_neg h1,ah]
  rw[e];exact this
def FS (n:Int) (l:List Int) (i:Nat):List Int:=if 0<=n then (l.take i).drop n.toNat else (l.take i).take ((l.length:Int)+n).toNat
theorem lft_0 (n:Int) (l:List Int):FS n l 0=[]:=by unfold FS;split<;>simp
theorem lft_all {n:Int} {l:List Int}:FS n l l.length=HN n l:=by
 unfold FS HN;rw[bA];split
 ·rename_i h;by_cases q:n<=l.length
  ·have:(min n (l.length:Int)).toNat=n.toNat:=by omega
   rw[this]
  ·have:(min n (l.length:Int)).toNat=l.length:=by omega
   rw[this,List.drop_length,aU (by omega)]
 ·rename_i h;have:(max ((l.length:Int)+max n (-(l.length:Int))) 0).toNat=((l.length:Int)+n).toNat:=by omega
  rw[this]
theorem lft_in {n:Int} {l:List Int} {i:Nat} (hi:i < l.length) (h:0<=n/\n<=i\/n < 0/\(i:Int) - l.length < n):FS n l (i+1)=FS n l i++[l[i]]:=by
 unfold FS;rw[Nc hi];rcases h with ⟨h1,h2⟩ | ⟨h1,h2⟩;·rw[if_pos h1,if_pos h1,de (by simp;omega)]
 ·rw[if_neg (by omega),if_neg (by omega)];have:(l.take i).length=i:=by simp;omega
  have e1:(l.take i++[l[i]]).take ((l.length:Int)+n).toNat=l.take i++[l[i]]:=av (by simp;omega);have e2:(l.take i).take ((l.length:Int)+n).toNat=l.take i:=av (by omega);rw[e1,e2]
theorem lft_out {n:Int} {l:List Int} {i:Nat} (hi:i < l.length) (h:¬ (0<=n/\n<=i\/n < 0/\(i:Int) - l.length < n)):FS n l (i+1)=FS n l i:=by
 unfold FS;rw[Nc hi];by_cases h1:0<=n
 ·rw[if_pos h1,if_pos h1,aU (by simp;omega),aU (by simp;omega)]
 ·rw[if_neg h1,if_neg h1,cm (by simp;omega)]
theorem lft_len (n:Int) (l:List Int) (i:Nat):(FS n l i).length<=l.length:=by
 unfold FS;split<;>simp<;>omega
theorem rdrop {v:PV} {b:Arr} (h:AK v b) (hb:b.n.length<=400000) (n:Int):On 122 [I n,v] ⟨true,b.ru,HN n b.n⟩:=by
 refine⟨Ej b.ru (.sl 1 (Am (HN n b.n)) false),?_,.mk _ _ _ _ (.sl _ _)⟩;refine call (d:=fun _=>.cl) rfl (by decide) (by simp[At,h.ok]) rfl ?_;rw[ZZ,ZZ,Z1,run122];unfold wc wf wg wh wj wm wo wr;rw[BZ h,cT];simp only[BR h,bV,(BS h).len];rw[show AZ [I n,nI 0,I b.n.length,PV.int .i64 0]=true from rfl,cT];refine GK (fun i=>([I n,I (FS n b.n i).length,I b.n.length,I i,v,.bool false,.bool false,.nilS,.sl 1 (Am (FS n b.n i)) false],())) b.n.length (by simp[lft_0,Am,I]) (fun i hlt=>?_) ?_
 ·have d:decide ((i:Int) < (b.n.length:Int))=true:=decide_eq_true (by omega);have w1:IntKind.i64.wrap ((i:Int) - b.n.length)=(i:Int) - b.n.length:=DN (by omega) (by omega);have hll:=lft_len n b.n i;simp only[A7,A4,Bc,BD,Cl,DI,DH,Ea,ET,iD,AS,EF,I6,w1,bV,An,d,if_true,BR h];by_cases hin:0<=n/\n<=i\/n < 0/\(i:Int) - b.n.length < n
  ·have e:(if decide (0<=n)=true then (if decide (n<=(i:Int))=true then some (PV.bool true) else if decide (n < 0)=true then some (.bool (decide ((i:Int) - b.n.length < n))) else some (.bool false)) else if decide (n < 0)=true then some (.bool (decide ((i:Int) - b.n.length < n))) else some (.bool false))=some (.bool true):=by
    rcases hin with ⟨q1,q2⟩ | ⟨q1,q2⟩;·simp[q1,q2]
    ·have:¬ 0<=n:=by omega
     simp[q1,q2,this]
   simp only[e,bV,An,if_true,(BS h).idx hlt,CG,E0,cT,IG,CF,ah,B2];rw[HH rfl (by omega),HG rfl,If,<-lft_in hlt hin];have hl:(FS n b.n i).length+1=(FS n b.n (i+1)).length:=by rw[lft_in hlt hin];simp
   rw[hl];simp only[cT,BT,bV,Ct (by omega:i < 9223372036854775807)]
  ·have e:(if decide (0<=n)=true then (if decide (n<=(i:Int))=true then some (PV.bool true) else if decide (n < 0)=true then some (.bool (decide ((i:Int) - b.n.length < n))) else some (.bool false)) else if decide (n < 0)=true then some (.bool (decide ((i:Int) - b.n.length < n))) else some (.bool false))=some (.bool false):=by
    by_cases q1:0<=n
    ·have q2:¬ n<=i:=fun q=>hin (.inl ⟨q1,q⟩);have q3:¬ n < 0:=by omega
     simp[q1,q2,q3]
    ·have q2:n < 0:=by omega
     have q3:¬ (i:Int) - b.n.length < n:=fun q=>hin (.inr ⟨q2,q⟩);simp[q1,q2,q3]
   simp only[e,bV,An,Z0,if_false,CF,ah,B2,FN,iD,BT,Ct (by omega:i < 9223372036854775807),lft_out hlt hin]
 ·have d:decide ((b.n.length:Int) < (b.n.length:Int))=false:=by simp
  simp only[A7,A4,Bc,BD,Cl,DI,DH,Ea,ET,AS,bV,An,d,Z0,if_false,CF,ah,B2,Cd h];rw[J3 rfl,Kt,lft_all];rfl
end Go.Ab.Derive2.Sh


set_option maxRecDepth 20000
namespace Go.Ab.Derive2.Sh
open Go Go.Ab Go.Ab.Derive2
theorem idxP_spec (p:Int->Bool):∀ (l:List Int) (k:Nat),(CD p k l = -1/\∀ (i:Nat) (m:Int),l[i]?=some m->p m=false)\/∃ (j:Nat) (m:Int),l[j]?=some m/\p m=true/\CD p k l=((k+j:Nat):Int)/\∀ i:Nat,i < j->∀ m:Int,l[i]?=some m->p m=false:=by
 intro l;induction l with
 | nil=>intro k;exact .inl ⟨rfl,fun i m h=>by simp at h⟩
 | cons x l ih =>
  intro k;by_cases hx:p x=true
  ·exact .inr ⟨0,x,rfl,hx,by simp[CD,hx],fun i h=>by omega⟩
  ·rw[cH] at hx;rcases ih (k+1) with ⟨h1,h2⟩ | ⟨j,m,h1,h2,h3,h4⟩
   ·refine .inl ⟨by simp[CD,hx,h1],fun i m h=>?_⟩;cases i with
    | zero=>simp at h;subst h;exact hx
    | succ i=>exact h2 i m (by simpa using h)
   ·refine .inr ⟨j+1,m,by simpa using h1,h2,?_,fun i hi m h=>?_⟩
    ·simp only[CD,hx,Z0,if_false,h3];congr 1;omega
    ·cases i with
     | zero=>simp at h;subst h;exact hx
     | succ i=>exact h4 i (by omega) m (by simpa using h)
theorem Zz (a b:Arr) (n:Int):∃ K:Nat,K<=a.n.length/\Cy a b n=((K+1:Nat):Int)/\(∀ (j:Nat) (m:Int),j < K->a.n[j]?=some m->(m != n)=true\/(a.ru==b.ru)=false)/\(∀ m:Int,a.n[K]?=some m->(m != n)=false/\(a.ru==b.ru)=true):=by
 by_cases hr:a.ru=b.ru
 ·rcases idxP_spec (fun x=>n==x) a.n 0 with ⟨h1,h2⟩ | ⟨j,m,h1,h2,h3,h4⟩
  ·refine⟨a.n.length,Z5 _,by unfold Cy;rw[if_pos (.inl (by rw[h1];omega))];omega,fun j m _ hj=>.inl ?_,fun m hm=>by simp at hm⟩;have:=h2 j m hj;simp only[beq_eq_false_iff_ne,ne_eq] at this;simp;intro q;exact this q.symm
  ·have hjl:j < a.n.length:=(ac.1 h1).1;refine⟨j,by omega,?_,fun i m' hi hm=>.inl ?_,fun m' hm=>?_⟩
   ·unfold Cy;rw[if_neg (by rw[h3];exact fun q=>q.elim (fun q=>by omega) (fun q=>q hr)),h3];omega
   ·have:=h4 i hi m' hm;simp only[beq_eq_false_iff_ne,ne_eq] at this;simp;intro q;exact this q.symm
   ·rw[h1] at hm;obtain rfl:=cf hm;have:n=m:=by simpa using h2
    subst this;simp[hr]
 ·refine⟨a.n.length,Z5 _,by unfold Cy;rw[if_pos (.inr hr)];omega,fun j m _ hj=>.inr (by simpa using hr),fun m hm=>by simp at hm⟩
theorem WF {n:Int} (c:Nat):I ((Av c (Ae (As (Ae [I n]) (AG 0 [I n]))):Nat):Int)=I ((c+1:Nat):Int):=If c
theorem rindex {v u:PV} {a b:Arr} (hv:AK v a) (hu:AK u b) (ha:a.n.length<=400000) (hb:b.n.length<=400000):On 56 [v,u] ⟨b.li,false,b.n.map (Cy a b)⟩:=by
 refine⟨.agg [.bool b.li,.bool false,.sl 1 (Am (b.n.map (Cy a b))) false],?_,.mk _ _ _ _ (.sl _ _)⟩;refine call (d:=fun _=>.cl) rfl (by decide) (by simp[At,hv.ok,hu.ok]) rfl ?_;rw[ZZ,ZZ,Z1,run56];unfold wc we wf wg wh wj wo wr wt;rw[BZ hv,BZ hu,cT,cT];simp only[ES hu,bV];rw[show Ad (.build [.bool false,.bool false,.nilS] [(0,(1,.c (.bool b.li)))])=some (.agg [.bool b.li,.bool false,.nilS]) from rfl];simp only[bV,Jr (a:=.bool b.li) (b:=.bool false) (c:=.nilS) rfl,cT,Jz,Jy,IC,CO];rw[show AZ [PV.int .i64 0]=true from rfl,cT];refine GK (fun i=>([I i,v,u,.bool false,.bool false,.nilS,.bool b.li,.bool false,I i,.sl 1 (Am ((b.n.take i).map (Cy a b))) false],())) b.n.length rfl (fun i hlt=>?_) ?_
 ·have d:decide ((i:Int) < (b.n.length:Int))=true:=decide_eq_true (by omega);simp only[A7,A4,Bc,BD,Cl,DI,DH,Ea,ET,MD,AS,bV,An,d,if_true,BR hu,(BS hu).len,CF,ah,B2,FN,iD];rw[show AZ [I i,I 0]=true from rfl,cT];obtain⟨K,k1,k2,k3,k4⟩:=Zz a b b.n[i];have hln:((b.n.take i).map (Cy a b)).length=i:=by simp;omega
  have hfin:((b.n.take i).map (Cy a b))++[Cy a b b.n[i]]=(b.n.take (i+1)).map (Cy a b):=by rw[Nc hlt,bm];rfl
  refine GK (fun j=>([I i,I j,v,u,.bool false,.bool false,.nilS,.bool b.li,.bool false,I i,.sl 1 (Am ((b.n.take i).map (Cy a b))) false],())) K rfl (fun j hj=>?_) ?_
  ·have hja:j < a.n.length:=by omega
   have d1:decide ((j:Int) < (a.n.length:Int))=true:=decide_eq_true (by omega);simp only[A7,A4,Bc,BD,Cl,DI,DH,Ea,ET,MD,P4,AS,bV,An,d1,if_true,BR hv,BR hu,Cd hv,Cd hu,(BS hv).len,(BS hv).idx hja,(BS hu).idx hlt,CG,Ce,HD,CF,ah,B2,FN,iD,BT,Ct (by omega:j < 9223372036854775807)];rcases k3 j _ hj (ab hja) with q | q;·simp only[q,if_true]
   ·simp only[q,ax,if_true];split<;>rfl
  ·by_cases hK:K < a.n.length
   ·have d1:decide ((K:Int) < (a.n.length:Int))=true:=decide_eq_true (by omega);obtain⟨q1,q2⟩:=k4 _ (ab hK);simp only[A7,A4,Bc,BD,Cl,DI,DH,Ea,ET,MD,P4,AS,bV,An,d1,if_true,BR hv,BR hu,Cd hv,Cd hu,(BS hv).len,(BS hv).idx hK,(BS hu).idx hlt,CG,Ce,HD,CF,ah,B2,FN,iD,BT,q1,q2,Z0,if_false,Z8,Ct (by omega:K < 9223372036854775807),E0,cT,IG];rw[HH hln.symm (by omega),HG hln.symm,WF,<-k2,hfin];simp only[cT,bV,Ct (by omega:i < 9223372036854775807)]
   ·have hKe:K=a.n.length:=by omega
    have d1:decide ((K:Int) < (a.n.length:Int))=false:=decide_eq_false (by omega);simp only[A7,A4,Bc,BD,Cl,DI,DH,Ea,ET,MD,P4,AS,bV,An,d1,BR hv,BR hu,(BS hv).len,CF,ah,B2,FN,iD,BT,Z0,if_false,Ct (by omega:K < 9223372036854775807),E0,cT,IG];rw[HH hln.symm (by omega),HG hln.symm,WF,<-k2,hfin];simp only[cT,bV,Ct (by omega:i < 9223372036854775807)]
 ·have d:decide ((b.n.length:Int) < (b.n.length:Int))=false:=by simp
  simp only[A7,A4,Bc,BD,Cl,DI,DH,Ea,ET,MD,AS,bV,An,d,Z0,if_false,BR hu,(BS hu).len,CF,ah,B2,bA];rw[J3 (by simp),okU3];rfl
theorem rjoin {v u:PV} {a b:Arr} (hv:AK v a) (hu:AK u b) (ha:a.n.length<=400000) (hb:b.n.length<=400000):Kc 57 [v,u] (GW a b) (E8 a b):=by
 have e1:∀ l:List Int,decide ((0:Int) < (l.length:Int))=decide (0 < l.length):=by
  intro l;rw[ba,decide_eq_true_iff,decide_eq_true_iff];omega
 have e2:decide ((200:Int) < (a.n.length:Int)+(b.n.length:Int))=decide (200 < a.n.length+b.n.length):=by
  rw[ba,decide_eq_true_iff,decide_eq_true_iff];omega
 have w:IntKind.i64.wrap ((a.n.length:Int)+(b.n.length:Int))=(a.n.length:Int)+(b.n.length:Int):=DN (by omega) (by omega)
 have key:∃ y,AK y (GW a b)/\AM (AL B0 fun _=>.cl) fn57 .cl AP 0 [.cv v,.cv u] ()=some (.tup [y,I (E8 a b)],()):=by
  rw[run57];unfold wc wf wg wp;rw[BZ hv,BZ hu,cT,cT];simp only[BR hv,BR hu,Cd hv,Cd hu,bV,(BS hv).len,(BS hu).len,iD,Cz,An,e1,HD,BT,w,e2];by_cases h1:0 < a.n.length/\0 < b.n.length/\a.ru≠b.ru
  ·have ej:E8 a b=102:=by unfold E8;rw[if_pos h1]
   refine⟨EI,by unfold GW;rw[ej];exact BB,?_⟩;obtain⟨q1,q2,q3⟩:=h1;have:(a.ru==b.ru)=false:=by simpa using q3
   simp only[q1,q2,this,decide_true,if_true,bV,An,ax,ej];exact Kg 102
  ·have c1:(if decide (0 < a.n.length)=true then (if decide (0 < b.n.length)=true then some (PV.bool (!(a.ru==b.ru))) else some (.bool false)) else some (.bool false))=some (.bool false):=by
    by_cases q1:0 < a.n.length
    ·by_cases q2:0 < b.n.length
     ·have:a.ru=b.ru:=bg fun q=>h1 ⟨q1,q2,q⟩;simp[q1,q2,this]
     ·simp[q1,q2]
    ·simp[q1]
   rw[c1];simp only[bV,An,Z0,if_false];by_cases h2:200 < a.n.length+b.n.length
   ·have ej:E8 a b=113:=by unfold E8;rw[if_neg h1,if_pos h2]
    refine⟨EI,by unfold GW;rw[ej];exact BB,?_⟩;simp only[decide_eq_true h2,if_true,ej];exact Kg 113
   ·have ej:E8 a b=0:=by unfold E8;rw[if_neg h1,if_neg h2]
    refine⟨Ej (E7 a||(E7 b||(a.ru&&b.ru))) (.sl 1 (Am (a.n++b.n)) false),by unfold GW;rw[ej];exact .mk _ _ _ _ (.sl _ _),?_⟩;have z1:Az (Ae (Am a.n)) 2147483648=true:=by simp[BC];omega
    have z2:Bi (Az (Ae (Am a.n)) (Ae (Am a.n))) (Az (a.n++b.n).length 2147483648)=true:=by simp[BC];omega
    have z3:A9 (As (Ae (Am a.n)) (Am a.n)) (Am b.n)=Am (a.n++b.n):=by simp[Am,av]
    have z4:Av (Ae (Am a.n)) (Ae (Am b.n))=(a.n++b.n).length:=by simp[BC]
    simp only[decide_eq_false h2,Z0,if_false,(BS hv).elems,(BS hu).elems,bV,z1,z2,z3,z4,cT,J3 rfl,Kt,okLike,ej];unfold E7;cases a.ru<;>cases b.ru<;>by_cases q1:0 < a.n.length<;>by_cases q2:0 < b.n.length<;>simp[q1,q2]<;>rfl
 obtain⟨y,h1,h2⟩:=key;exact⟨y,call (d:=fun _=>.cl) rfl (by decide) (by simp[At,hv.ok,hu.ok]) rfl h2,h1⟩
theorem amt_ne {lo hi:Int} {a:Arr} (h:BH a≠0):CQ lo hi a=BH a:=by unfold CQ;rw[if_neg (fun q=>h q.1)]
theorem by_ne {g:List UInt8} {a b:Arr} (hr:(a.right&&b.right)=true) (hg:g=gR\/g=gT\/g=gU\/g=gD) (h:BH a≠0):dyE g a b=BH a/\dyA g a b=Bw:=by
 rw[Z2] at hr;rcases hg with rfl | rfl | rfl | rfl
 ·obtain⟨e1,e2⟩:=dy_R (a:=a) (b:=b) hr.1 hr.2;have e:DO a b=BH a:=by unfold DO;rw[amt_ne h,if_pos h]
  rw[e1,e2];exact⟨e,by unfold Gc;rw[e,if_neg h]⟩
 ·obtain⟨e1,e2⟩:=dy_T (a:=a) (b:=b) hr.1 hr.2;rw[e1,e2];exact⟨rfl,by unfold HW;rw[if_neg h]⟩
 ·obtain⟨e1,e2⟩:=dy_U (a:=a) (b:=b) hr.1 hr.2;have e:Hn a=BH a:=by unfold Hn;rw[amt_ne h]
  rw[e1,e2];exact⟨e,by unfold HP;rw[e,if_neg h]⟩
 ·obtain⟨e1,e2⟩:=dy_D (a:=a) (b:=b) hr.1 hr.2;rw[e1,e2];exact⟨rfl,by unfold HT;rw[if_neg h]⟩
theorem N6 {y:PV} {a:Arr} (h:AK y a) (c:Int):Af (AA y 3) (some (PV.tup [.agg [Ai y 0,Ai y 1,Ai y 2],I c],()))=some (.tup [y,I c],()):=Ld h _
theorem rby {g:List UInt8} {v u:PV} {a b:Arr} (hg:g=gR\/g=gT\/g=gU\/g=gD) (hv:AK v a) (hu:AK u b) (ha:a.n.length<=400000) (hb:b.n.length<=400000) (hr:(a.right&&b.right)=true) (hin:∀ n∈a.n, -9223372036854775808<=n/\n<=9223372036854775807) :
  Kc 55 [.str g,v,u] (dyA g a b) (dyE g a b):=by
 have hr2:=hr;rw[Z2] at hr2
 have key:∃ y,AK y (dyA g a b)/\AM (AL B0 fun _=>.cl) fn55 .cl AP 0 [.cv (.str g),.cv v,.cv u] ()=some (.tup [y,I (dyE g a b)],()):=by
  rw[run55];unfold wc wd wf wg wh wl wm wr ws wv;rw[BZ hv,BZ hu,cT,cT];simp only[BR hv,BR hu,Cd hv,Cq hu,bV,(BS hv).len,(BS hu).len,iD,Ce,An,len_ne];by_cases h1:a.n.length=1
  case neg =>
   have e:=UH h1;obtain⟨e1,e2⟩:=by_ne (b:=b) hr hg (by rw[e];decide);refine⟨EI,by rw[e2];exact BB,?_⟩;simp only[decide_eq_true h1,if_true,e1,e];exact Kg 111
  case pos =>
   obtain⟨n,hn⟩:=List.length_eq_one_iff.1 h1;have hx:=BS hv;rw[hn] at hx;have hi:=idx0 hx;rw[iD] at hi;obtain⟨n1,n2⟩:=hin n (by rw[hn];exact aJ.2 rfl);simp only[h1,ne_eq,not_true_eq_false,decide_false,Z0,if_false,hi,bV,CG,AS,Cz,CN,An];cases hru:a.ru with
   | true =>
    have e:=VA h1 hru;obtain⟨e1,e2⟩:=by_ne (b:=b) hr hg (by rw[e];decide);refine⟨EI,by rw[e2];exact BB,?_⟩;simp only[if_true,bV,An,e1,e];exact Kg 102
   | false =>
    obtain⟨f1,f2⟩:=VB hn hru;simp only[show ([226,141,180]:List UInt8)=gR from rfl,show ([226,140,189]:List UInt8)=gT from rfl,show ([226,134,145]:List UInt8)=gU from rfl,Z0,if_false,bV,An];rcases hg with rfl | rfl | rfl | rfl
    ·obtain⟨e1,e2⟩:=dy_R (a:=a) (b:=b) hr2.1 hr2.2;rw[e1,e2];simp only[DK,bV,An,if_true];by_cases h2:n < 0
     ·have am:CQ (-9223372036854775808) 200 a=0:=by unfold CQ;rw[f1,f2,if_neg (by omega)]
      have es:DO a b=102:=by unfold DO;rw[am,f2,if_neg (by simp),if_pos h2]
      refine⟨EI,by unfold Gc;rw[es];exact BB,?_⟩;simp only[decide_eq_true h2,if_true,es];exact Kg 102
     ·simp only[decide_eq_false h2,Z0,if_false];by_cases h3:200 < n
      ·have am:CQ (-9223372036854775808) 200 a=113:=by unfold CQ;rw[f1,f2,if_pos ⟨rfl,.inr h3⟩]
       have es:DO a b=113:=by unfold DO;rw[am,if_pos (by decide)]
       refine⟨EI,by unfold Gc;rw[es];exact BB,?_⟩;simp only[decide_eq_true h3,if_true,bV,An,es];exact Kg 113
      ·have am:CQ (-9223372036854775808) 200 a=0:=by unfold CQ;rw[f1,f2,if_neg (by omega)]
       have d4:decide (n < -200)=false:=decide_eq_false (by omega);simp only[decide_eq_false h3,d4,Z0,if_false,bV,An];obtain⟨N,rfl⟩:∃ N:Nat,n=N:=⟨n.toNat,by omega⟩
       have e5:((b.n.length:Int)==0)=decide (b.n.length=0):=by
        by_cases q:b.n.length=0
        ·simp[q]
        ·have:¬ (b.n.length:Int)=0:=by omega
         simp[q,this]
       by_cases h5:0 < (N:Int)/\b.n.length=0
       ·have es:DO a b=110:=by unfold DO;rw[am,f2,if_neg (by simp),if_neg h2,if_pos h5]
        refine⟨EI,by unfold Gc;rw[es];exact BB,?_⟩;simp only[decide_eq_true h5.1,if_true,bV,An,e5,decide_eq_true h5.2,es];exact Kg 110
       ·have es:DO a b=0:=by unfold DO;rw[am,f2,if_neg (by simp),if_neg h2,if_neg h5]
        have c5:(if decide (0 < (N:Int))=true then some (PV.bool (decide (b.n.length=0))) else some (.bool false))=some (.bool false):=by
         by_cases q:0 < (N:Int)
         ·have:¬ b.n.length=0:=fun z=>h5 ⟨q,z⟩;rw[decide_eq_true q,decide_eq_false this];rfl
         ·rw[decide_eq_false q];rfl
        obtain⟨y,y1,y2⟩:=rreshape hu hb N (by omega) (fun q=>Nat.pos_of_ne_zero fun z=>h5 ⟨by omega,z⟩);refine⟨y,by unfold Gc;rw[es,f2];exact y2,?_⟩;simp only[e5,c5,bV,An,Z0,if_false,y1,es];exact N6 y2 0
    ·obtain⟨e1,e2⟩:=dy_T (a:=a) (b:=b) hr2.1 hr2.2;obtain⟨y,y1,y2⟩:=rrotate hu hb n;rw[e1,e2];refine⟨y,by unfold HW;rw[f1,f2];exact y2,?_⟩;simp only[DK,Cb (show ¬ gT=gR by decide),Cb (show ¬ gT=gU by decide),bV,An,Z0,if_false,if_true,y1,f1];exact N6 y2 0
    ·obtain⟨e1,e2⟩:=dy_U (a:=a) (b:=b) hr2.1 hr2.2;rw[e1,e2];simp only[DK,Cb (show ¬ gU=gR by decide),Cb (show ¬ gU=gT by decide),bV,An,Z0,if_false,if_true];by_cases h3:n < -200\/200 < n
     ·have et:Hn a=113:=by unfold Hn CQ;rw[f1,f2,if_pos ⟨rfl,h3⟩]
      have c:(if decide (200 < n)=true then some (PV.bool true) else some (.bool (decide (n < -200))))=some (.bool true):=by
       by_cases q:200 < n
       ·simp[q]
       ·have:n < -200:=by omega
        simp[q,this]
      refine⟨EI,by unfold HP;rw[et];exact BB,?_⟩;simp only[c,bV,An,if_true,et];exact Kg 113
     ·have et:Hn a=0:=by unfold Hn CQ;rw[f1,f2,if_neg (fun q=>h3 q.2)]
      have d3:decide (200 < n)=false:=decide_eq_false (fun q=>h3 (.inr q));have d4:decide (n < -200)=false:=decide_eq_false (fun q=>h3 (.inl q));obtain⟨y,y1,y2⟩:=rtake hu hb n (by omega);refine⟨y,by unfold HP;rw[et,f2];exact y2,?_⟩;simp only[d3,d4,Z0,if_false,bV,An,y1,et];exact N6 y2 0
    ·obtain⟨e1,e2⟩:=dy_D (a:=a) (b:=b) hr2.1 hr2.2;obtain⟨y,y1,y2⟩:=rdrop hu hb n;rw[e1,e2];refine⟨y,by unfold HT;rw[f1,f2];exact y2,?_⟩;simp only[Cb (show ¬ gD=gR by decide),Cb (show ¬ gD=gU by decide),Cb (show ¬ gD=gT by decide),bV,An,Z0,if_false,y1,f1];exact N6 y2 0
 obtain⟨y,h1,h2⟩:=key;exact⟨y,call (d:=fun _=>.cl) rfl (by decide) (by simp[At,okV,hv.ok,hu.ok]) rfl h2,h1⟩
set_option maxHeartbeats 1000000 in
theorem rdyR (g:List UInt8) {v u:PV} {a b:Arr} (hv:AK v a) (hu:AK u b) (ha:a.n.length<=400000) (hb:b.n.length<=400000) (hin:∀ n∈a.n, -9223372036854775808<=n/\n<=9223372036854775807) :
  Kc 28 [.str g,v,u] (dyA g a b) (dyE g a b):=by
 have key:∃ y,AK y (dyA g a b)/\AM (AL B0 fun _=>.cl) fn28 .cl AP 0 [.cv (.str g),.cv v,.cv u] ()=some (.tup [y,I (dyE g a b)],()):=by
  rw[run28];unfold wa wb wd we wi ws wv;rw[BZ hv,BZ hu,cT,cT];simp only[Cq hv,Cq hu,bV,Ks hv (by omega),Ks hu (by omega),Ca,An];cases hra:a.right with
  | false =>
   obtain⟨e1,e2⟩:=dy_not (g:=g) (a:=a) (b:=b) (by rw[hra];rfl);rw[e1,e2];exact⟨EI,BB,rno 114⟩
  | true =>
  cases hrb:b.right with
  | false =>
   obtain⟨e1,e2⟩:=dy_not (g:=g) (a:=a) (b:=b) (by rw[hra,hrb];rfl);rw[e1,e2];exact⟨EI,BB,rno 114⟩
  | true =>
   have hr:(a.right&&b.right)=true:=by rw[hra,hrb];rfl
   simp only[Z8,Z0,if_false];simp only[show ([226,141,180]:List UInt8)=gR from rfl,show ([226,141,179]:List UInt8)=gI from rfl,show ([44]:List UInt8)=gC from rfl,show ([226,140,189]:List UInt8)=gT from rfl,show ([226,134,145]:List UInt8)=gU from rfl,show ([226,134,147]:List UInt8)=gD from rfl,show ([226,137,162]:List UInt8)=gN from rfl];by_cases h1:g=gR
   ·subst h1;obtain⟨y,y1,y2⟩:=rby (.inl rfl) hv hu ha hb hr hin;refine⟨y,y2,?_⟩;simp only[DK,bV,An,if_true,y1,B3,af,ai,Ld y2]
   simp only[Cb h1,bV,An,Z0,if_false];by_cases h4:g=gT
   ·subst h4;obtain⟨y,y1,y2⟩:=rby (.inr (.inl rfl)) hv hu ha hb hr hin;refine⟨y,y2,?_⟩;simp only[DK,bV,An,if_true,y1,B3,af,ai,Ld y2]
   simp only[Cb h4,bV,An,Z0,if_false];by_cases h5:g=gU
   ·subst h5;obtain⟨y,y1,y2⟩:=rby (.inr (.inr (.inl rfl))) hv hu ha hb hr hin;refine⟨y,y2,?_⟩;simp only[DK,bV,An,if_true,y1,B3,af,ai,Ld y2]
   simp only[Cb h5,bV,An,Z0,if_false];by_cases h6:g=gD
   ·subst h6;obtain⟨y,y1,y2⟩:=rby (.inr (.inr (.inr rfl))) hv hu ha hb hr hin;refine⟨y,y2,?_⟩;simp only[DK,bV,An,if_true,y1,B3,af,ai,Ld y2]
   simp only[Cb h6,bV,An,Z0,if_false];by_cases h2:g=gI
   ·subst h2;obtain⟨e1,e2⟩:=dy_I (a:=a) (b:=b) hra hrb;rw[e1,e2];simp only[DK,bV,An,if_true,ES hv,Ca];unfold JT JU;cases a.li with
    | false =>
     exact⟨EI,BB,rno 111⟩
    | true =>
     obtain⟨y,y1,y2⟩:=rindex hv hu ha hb;refine⟨y,y2,?_⟩;simp only[Z8,Z0,if_false,y1,bV];exact N6 y2 0
   simp only[Cb h2,bV,An,Z0,if_false];by_cases h3:g=gC
   ·subst h3;obtain⟨e1,e2⟩:=dy_C (a:=a) (b:=b) hra hrb;obtain⟨y,y1,y2⟩:=rjoin hv hu ha hb;rw[e1,e2];refine⟨y,y2,?_⟩;simp only[DK,bV,An,if_true,y1,B3,af,ai,Ld y2]
   simp only[Cb h3,bV,An,Z0,if_false];by_cases h7:g=gN
   ·subst h7;obtain⟨e1,e2⟩:=dy_N (a:=a) (b:=b) hra hrb;rw[e1,e2];refine⟨Lv (if a.same b then 0 else 1),P2 _,?_⟩;simp only[DK,bV,An,if_true,rsame_run hv hu (by omega) (by omega),iD,TX];cases a.same b<;>rfl
   simp only[Cb h7,bV,An,Z0,if_false];have e1:dyE g a b=102:=by unfold dyE;simp[hra,hrb,h1,h2,h3,h4,h5,h6,h7]
   have e2:dyA g a b=Bw:=by unfold dyA;simp[hra,hrb,h1,h2,h3,h4,h5,h6,h7]
   rw[e1,e2];exact⟨EI,BB,rno 102⟩
 obtain⟨y,h1,h2⟩:=key;exact⟨y,call (d:=fun _=>.cl) rfl (by decide) (by simp[At,okV,hv.ok,hu.ok]) rfl h2,h1⟩
end Go.Ab.Derive2.Sh


set_option maxRecDepth 20000
namespace Go.Ab.Derive2
open Go Go.Ab
theorem rmonAny (g:List UInt8) {v:PV} {a:Arr} (hv:AK v a) (hl:a.n.length<=400000) (hin:a.inr):∃ w,Ax B0 .cl (.fn 8 []) [.str g,v]=some (.tup [w,I (Mo g a).2])/\AK w (Mo g a).1:=by
 unfold Mo;cases hg:Dv g with
 | true =>
  obtain⟨w,h1,h2⟩:=Ar.rmonR hv (by omega) hin g;refine⟨w,call (d:=fun _=>.cl) rfl (by decide) (by simp[At,okV,hv.ok]) rfl ?_,h2⟩;rw[ZZ,ZZ,Z1,run8];unfold wa wb wd wv;rw[BZ hv,cT,Ar.rIsMon_run,bV,hg];simp only[An,if_true,Cq hv,bV,h1,B3,af,ai,FT h2,cT,Hm h2]
 | false =>
  obtain⟨w,h1,h2⟩:=Sh.rmonR g hv hl;refine⟨w,call (d:=fun _=>.cl) rfl (by decide) (by simp[At,okV,hv.ok]) rfl ?_,h2⟩;rw[ZZ,ZZ,Z1,run8];unfold wa wb wd wv;rw[BZ hv,cT,Ar.rIsMon_run,bV,hg];simp only[An,Z0,if_false,Cq hv,bV,h1,B3,af,ai,FT h2,cT,Hm h2]
theorem rdyAny (g:List UInt8) {v u:PV} {a b:Arr} (hv:AK v a) (hu:AK u b) (hl:a.n.length<=400000) (hm:b.n.length<=400000) (ha:a.inr) (hb:b.inr) :
  ∃ w,Ax B0 .cl (.fn 10 []) [.str g,v,u]=some (.tup [w,I (MP g a b).2])/\AK w (MP g a b).1:=by
 unfold MP;cases hg:Ck g with
 | true =>
  obtain⟨w,h1,h2⟩:=Ar.rdyR hv hu (by omega) (by omega) ha hb g;refine⟨w,call (d:=fun _=>.cl) rfl (by decide) (by simp[At,okV,hv.ok,hu.ok]) rfl ?_,h2⟩;rw[ZZ,ZZ,ZZ,Z1,run10];unfold wa wb wd wv;rw[BZ hv,cT,BZ hu,cT,Ar.rIsDy_run,bV,hg];simp only[An,if_true,Cq hv,Cq hu,bV,h1,B3,af,ai,FT h2,cT,Hm h2]
 | false =>
  obtain⟨w,h1,h2⟩:=Sh.rdyR g hv hu hl hm ha;refine⟨w,call (d:=fun _=>.cl) rfl (by decide) (by simp[At,okV,hv.ok,hu.ok]) rfl ?_,h2⟩;rw[ZZ,ZZ,ZZ,Z1,run10];unfold wa wb wd wv;rw[BZ hv,cT,BZ hu,cT,Ar.rIsDy_run,bV,hg];simp only[An,Z0,if_false,Cq hv,Cq hu,bV,h1,B3,af,ai,FT h2,cT,Hm h2]
theorem U3 (a:Arr):a.same a=true:=by simp[Arr.same,PR]
set_option maxHeartbeats 1000000 in
theorem XE (s:List UInt8) {v u:PV} {a b:Arr} (hv:AK v a) (hu:AK u b) (ha:a.inr) (hb:b.inr):AM (AL B0 (fun _=>.cl)) fn3 (.cl) AP 0 [.cv (.str s),.cv v,.cv u] ()=some (.bool true,()):=by
 obtain⟨x,h1,h2⟩:=W4 hv;obtain⟨y,h3,h4⟩:=W4 hu;have la:a.few.n.length<=202:=by simp[Arr.few];omega
 have lb:b.few.n.length<=202:=by simp[Arr.few];omega
 have fa:a.few.inr:=fun n hn=>ha n (aQ hn);have fb:b.few.inr:=fun n hn=>hb n (aQ hn);obtain⟨p,p1,p2⟩:=(Vj (s.take 20)).run h4 (by omega);obtain⟨q,q1,q2⟩:=rmonAny (s.take 20) h4 (by omega) fb;obtain⟨r,r1,r2⟩:=(Wx (s.take 20)).run h2 h4 (by omega) (by omega);obtain⟨t,t1,t2⟩:=rdyAny (s.take 20) h2 h4 (by omega) (by omega) fa fb;have lp:=(Vj (s.take 20)).le b.few;have lr:=(Wx (s.take 20)).le a.few b.few;have e1:Ax B0 .cl (.fn 11 []) [p,q]=some (.bool true):=by rw[Ar.rsame_run p2 q2 (by omega) (by omega),U3]
 have e2:Ax B0 .cl (.fn 11 []) [r,t]=some (.bool true):=by rw[Ar.rsame_run r2 t2 (by omega) (by omega),U3]
 rw[run3];unfold wa wb wd wq wv;rw[BZ hv,cT,BZ hu,cT,shown_run,bV,Cq hv,bV,h1,bV,Sh.okSto_is h2 hv,cT,Cq hu,bV,h3,bV,Sh.okSto_is h4 hu,cT,Sh.stoP_is h2 hv,Sh.stoP_is h4 hu];simp only[short_run,bV,Cq h2,Cq h4,p1,q1,r1,t1,B3,af,ai,FT p2,FT q2,FT r2,FT t2,cT,Hm p2,Hm q2,Hm r2,Hm t2,e1,e2,CN,An,beq_self_eq_true,if_true]
end Go.Ab.Derive2


namespace Go.Proofs.AbAsD
open Go.RowKit Go.Extern.Stop Go.Stop Go.Extern
theorem as_nil (t:Value) (w:World) :
  Calls Tryz.prog 83 #[.nilIface,t] w fun e w'=>e=.returned (.bool false)/\w'=w:=by
 go_enter Tryz.func83,Tryz.ntmps83
 go_wp2
 go_ret
 exact⟨rfl,rfl⟩
def Pr (P Q:TypeId):Prop:=(P=146/\Q=145)\/(P=129/\Q=127)\/(P=137/\Q=136)\/(P=172/\Q=124)
theorem Tryz.valueOf27 {P Q:TypeId} (hp:Pr P Q) (t:Addr) (w:World):(ReflectliteValue.unpack (.iface P (.pointer (some t)))).run Tryz.prog w
  = .ok (.agg #[.pointer (some ⟨9,P,none⟩),.pointer (some ⟨w.heap.size,0,none⟩),.int .u64 150]) (w.alloc (.cells #[.pointer (some t)] P)):=by
 rcases hp with ⟨rfl,rfl⟩ | ⟨rfl,rfl⟩ | ⟨rfl,rfl⟩ | ⟨rfl,rfl⟩<;>kernel_rfl
theorem Tryz.type27 {P Q:TypeId} (hp:Pr P Q) (a:Addr) (w:World):(ReflectliteValue.methodAny (ReflectliteValue.valueError "reflectlite.Value.Type" 0) (fun t _ _ _=>ReflectliteType.toType t) #[.agg #[.pointer (some ⟨9,P,none⟩),.pointer (some a),.int .u64 150]]).run Tryz.prog w
  = .ok (.iface 198 (.agg #[.pointer (some ⟨9,P,none⟩)])) w:=by
 rcases hp with ⟨rfl,rfl⟩ | ⟨rfl,rfl⟩ | ⟨rfl,rfl⟩ | ⟨rfl,rfl⟩<;>kernel_rfl
theorem Tryz.methodKind (h:Value) (w:World):(Go.method 389 198 (.agg #[h]) "Kind").run Tryz.prog w=.ok (236,h) w:=by kernel_rfl
theorem Tryz.kind27 {P Q:TypeId} (hp:Pr P Q) (w:World):((ReflectliteType.abiMethod fun t=>Functor.map (fun a:Nat=>Value.int IntKind.u8 (a:Int)) (Rtype.kind t)) #[.pointer (some ⟨9,P,none⟩)]).run Tryz.prog w=.ok (.int .u8 22) w:=by
 rcases hp with ⟨rfl,rfl⟩ | ⟨rfl,rfl⟩ | ⟨rfl,rfl⟩ | ⟨rfl,rfl⟩<;>kernel_rfl
theorem Tryz.kind25 {P Q:TypeId} (hp:Pr P Q) (w:World):((ReflectliteType.abiMethod fun t=>Functor.map (fun a:Nat=>Value.int IntKind.u8 (a:Int)) (Rtype.kind t)) #[.pointer (some ⟨9,Q,none⟩)]).run Tryz.prog w=.ok (.int .u8 25) w:=by
 rcases hp with ⟨rfl,rfl⟩ | ⟨rfl,rfl⟩ | ⟨rfl,rfl⟩ | ⟨rfl,rfl⟩<;>kernel_rfl
theorem rlm (z:Sem Value) (f:TypeId->Addr->Nat->Nat->Sem Value) (v:Value) :
  ReflectliteValue.method z f #[v]=(do match <-ReflectliteValue.parts v with | none=>z | some (t,a,fl)=>f t a fl (fl%32)):=rfl
theorem Tryz.parts27 {P Q:TypeId} (hp:Pr P Q) (a:Addr) (w:World):(ReflectliteValue.parts (.agg #[.pointer (some ⟨9,P,none⟩),.pointer (some a),.int .u64 150])).run Tryz.prog w=.ok (some (P,a,150)) w:=by
 rcases hp with ⟨rfl,rfl⟩ | ⟨rfl,rfl⟩ | ⟨rfl,rfl⟩ | ⟨rfl,rfl⟩<;>kernel_rfl
theorem Tryz.isNil27 {P Q:TypeId} (hp:Pr P Q) (a p:Addr) (W:World) (ha:W.cell? a=some (.pointer (some p))) :
  (ReflectliteValue.method (ReflectliteValue.valueError "reflectlite.Value.IsNil" 0) ReflectliteValue.isNil #[.agg #[.pointer (some ⟨9,P,none⟩),.pointer (some a),.int .u64 150]]).run Tryz.prog W=.ok (.bool false) W:=by
 rw[rlm];simp only[Sem.run_bind,(Tryz.parts27 hp),Result.andThen]
 rcases hp with ⟨rfl,rfl⟩ | ⟨rfl,rfl⟩ | ⟨rfl,rfl⟩ | ⟨rfl,rfl⟩ <;>
  (simp[ReflectliteValue.isNil,loadVar,isAgg,underlying,Tryz.underlying146,Tryz.underlying129,Tryz.underlying137,Tryz.underlying172,ha,Result.andThen])
theorem Tryz.methodElem (h:Value) (w:World):(Go.method 389 198 (.agg #[h]) "Elem").run Tryz.prog w=.ok (250,.agg #[h]) w:=by kernel_rfl
theorem Tryz.methodImplements (h:Value) (w:World):(Go.method 389 198 (.agg #[h]) "Implements").run Tryz.prog w=.ok (251,.agg #[h]) w:=by kernel_rfl
theorem Tryz.methodAssignableTo (h:Value) (w:World):(Go.method 389 198 (.agg #[h]) "AssignableTo").run Tryz.prog w=.ok (248,.agg #[h]) w:=by kernel_rfl
theorem Tryz.elem27 {P Q:TypeId} (hp:Pr P Q) (w:World):(ReflectliteType.method ReflectliteType.elem #[.agg #[.pointer (some ⟨9,P,none⟩)]]).run Tryz.prog w=.ok (.iface 198 (.agg #[.pointer (some ⟨9,Q,none⟩)])) w:=by
 rcases hp with ⟨rfl,rfl⟩ | ⟨rfl,rfl⟩ | ⟨rfl,rfl⟩ | ⟨rfl,rfl⟩<;>kernel_rfl
theorem Tryz.implements25 {P Q:TypeId} (hp:Pr P Q) (w:World):(ReflectliteType.relation "Implements" ReflectliteType.implements_ #[.agg #[.pointer (some ⟨9,Q,none⟩)],.iface 198 (.agg #[.pointer (some ⟨9,48,none⟩)])]).run Tryz.prog w=.ok (.bool true) w:=by
 rcases hp with ⟨rfl,rfl⟩ | ⟨rfl,rfl⟩ | ⟨rfl,rfl⟩ | ⟨rfl,rfl⟩<;>kernel_rfl
theorem Tryz.typeOf25 {P Q:TypeId} (hp:Pr P Q) (v:Value) (w:World):(ReflectliteType.typeOf #[.iface Q v]).run Tryz.prog w=.ok (.iface 198 (.agg #[.pointer (some ⟨9,Q,none⟩)])) w:=by
 rcases hp with ⟨rfl,rfl⟩ | ⟨rfl,rfl⟩ | ⟨rfl,rfl⟩ | ⟨rfl,rfl⟩<;>kernel_rfl
theorem Tryz.assignable25 {P Q:TypeId} (hp:Pr P Q) (w:World):(ReflectliteType.relation "AssignableTo" ReflectliteType.assignableTo #[.agg #[.pointer (some ⟨9,Q,none⟩)],.iface 198 (.agg #[.pointer (some ⟨9,Q,none⟩)])]).run Tryz.prog w=.ok (.bool true) w:=by
 rcases hp with ⟨rfl,rfl⟩ | ⟨rfl,rfl⟩ | ⟨rfl,rfl⟩ | ⟨rfl,rfl⟩<;>kernel_rfl
theorem Tryz.elemOf27 {P Q:TypeId} (hp:Pr P Q) (w:World):(Rtype.elem? P).run Tryz.prog w=.ok (some Q) w:=by
 rcases hp with ⟨rfl,rfl⟩ | ⟨rfl,rfl⟩ | ⟨rfl,rfl⟩ | ⟨rfl,rfl⟩<;>kernel_rfl
theorem Tryz.mk25 {P Q:TypeId} (hp:Pr P Q) (p:Addr) (w:World):(ReflectliteValue.mk Q p ReflectliteValue.flagAddr).run Tryz.prog w=.ok (.agg #[.pointer (some ⟨9,Q,none⟩),.pointer (some p),.int .u64 409]) w:=by
 rcases hp with ⟨rfl,rfl⟩ | ⟨rfl,rfl⟩ | ⟨rfl,rfl⟩ | ⟨rfl,rfl⟩<;>kernel_rfl
theorem Tryz.elemV27 {P Q:TypeId} (hp:Pr P Q) (a p:Addr) (W:World) (ha:W.cell? a=some (.pointer (some p))) :
  (ReflectliteValue.method (ReflectliteValue.valueError "reflectlite.Value.Elem" 0) ReflectliteValue.elem #[.agg #[.pointer (some ⟨9,P,none⟩),.pointer (some a),.int .u64 150]]).run Tryz.prog W
   = .ok (.agg #[.pointer (some ⟨9,Q,none⟩),.pointer (some p),.int .u64 409]) W:=by
 rw[rlm];simp only[Sem.run_bind,(Tryz.parts27 hp),Result.andThen];have g0:=@Tryz.elemOf27 _ _ hp;have g1:=@Tryz.mk25 _ _ hp
 rcases hp with ⟨rfl,rfl⟩ | ⟨rfl,rfl⟩ | ⟨rfl,rfl⟩ | ⟨rfl,rfl⟩ <;>
  (simp[ReflectliteValue.elem,loadVar,isAgg,underlying,Tryz.underlying146,Tryz.underlying129,Tryz.underlying137,Tryz.underlying172,ha,Result.andThen,g0,g1])
theorem rls (v x:Value):ReflectliteValue.set #[v,x]=(do
  let (some (dst,a,fl),some (src,b,_)):=(<-ReflectliteValue.parts v,<-ReflectliteValue.parts x)
   | unsupported (.noEntry "extern/(internal/reflectlite.Value).Set.zeroValue")
  if fl / ReflectliteValue.flagAddr%2==0 then unsupported (.noEntry "extern/(internal/reflectlite.Value).Set.unaddressable")
  let val <-loadVar src b
  if <-Rtype.directlyAssignable dst src then storeVar dst a val
  else if <-Rtype.implements dst src then
   if (<-Rtype.kind src)==20 then
    match val with
    | .nilIface=>unsupported (.noEntry "extern/reflectlite: a nil value of one interface type handed on as a value of another")
    | _=>storeVar dst a val
   else storeVar dst a (.iface src val)
  else panicString ("reflectlite.Set: value of type "++(<-Rtype.spelt src) ++ " is not assignable to type "++(<-Rtype.spelt dst))
  pure (.tuple #[])):=rfl
theorem Tryz.parts25a {P Q:TypeId} (hp:Pr P Q) (a:Addr) (w:World):(ReflectliteValue.parts (.agg #[.pointer (some ⟨9,Q,none⟩),.pointer (some a),.int .u64 409])).run Tryz.prog w=.ok (some (Q,a,409)) w:=by
 rcases hp with ⟨rfl,rfl⟩ | ⟨rfl,rfl⟩ | ⟨rfl,rfl⟩ | ⟨rfl,rfl⟩<;>kernel_rfl
theorem Tryz.parts25 {P Q:TypeId} (hp:Pr P Q) (a:Addr) (w:World):(ReflectliteValue.parts (.agg #[.pointer (some ⟨9,Q,none⟩),.pointer (some a),.int .u64 153])).run Tryz.prog w=.ok (some (Q,a,153)) w:=by
 rcases hp with ⟨rfl,rfl⟩ | ⟨rfl,rfl⟩ | ⟨rfl,rfl⟩ | ⟨rfl,rfl⟩<;>kernel_rfl
theorem Tryz.direct25 {P Q:TypeId} (hp:Pr P Q) (w:World):(Rtype.directlyAssignable Q Q).run Tryz.prog w=.ok true w:=by
 rcases hp with ⟨rfl,rfl⟩ | ⟨rfl,rfl⟩ | ⟨rfl,rfl⟩ | ⟨rfl,rfl⟩<;>kernel_rfl
theorem Tryz.set25 {P Q:TypeId} (hp:Pr P Q) (ta b:Addr) (e old:Value) (h1:e.oneCell'=true) (W:World) (hb:W.cell? b=some e) (ht:W.cell? ta=some old) (hf:W.frozen? ta=false) :
  (ReflectliteValue.set #[.agg #[.pointer (some ⟨9,Q,none⟩),.pointer (some ta),.int .u64 409],.agg #[.pointer (some ⟨9,Q,none⟩),.pointer (some b),.int .u64 153]]).run Tryz.prog W
   = .ok (.tuple #[]) (W.setCell ta e):=by
 rw[rls];simp only[Sem.run_bind,(Tryz.parts25a hp),(Tryz.parts25 hp),Result.andThen];have g0:=@Tryz.direct25 _ _ hp
 rcases hp with ⟨rfl,rfl⟩ | ⟨rfl,rfl⟩ | ⟨rfl,rfl⟩ | ⟨rfl,rfl⟩ <;>
  (simp[ReflectliteValue.flagAddr,loadVar,Tryz.isAgg145,Tryz.isAgg127,Tryz.isAgg136,Tryz.isAgg124,loadCells,loadCellsFrom,hb,Result.andThen,g0,storeVar,Value.cells,storeCells,Addr.add]
   rw[run_store Tryz.prog W ta _ _ h1];simp[ht,hf])
theorem YJ {P Q:TypeId} (hp:Pr P Q) (v:Value) (w:World):(ReflectliteValue.unpack (.iface Q v)).run Tryz.prog w
  = .ok (.agg #[.pointer (some ⟨9,Q,none⟩),.pointer (some ⟨w.heap.size,0,none⟩),.int .u64 153]) (w.alloc (.cells v.cells Q)):=by
 rcases hp with ⟨rfl,rfl⟩ | ⟨rfl,rfl⟩ | ⟨rfl,rfl⟩ | ⟨rfl,rfl⟩<;>kernel_rfl
theorem valueOf51 {P Q:TypeId} (hp:Pr P Q) (v n:Value) (hv:v.cells=#[n]) (w:World):(ReflectliteValue.unpack (.iface Q v)).run Tryz.prog w
  = .ok (.agg #[.pointer (some ⟨9,Q,none⟩),.pointer (some ⟨w.heap.size,0,none⟩),.int .u64 153]) (w.alloc (.cells #[n] Q)):=by rw[(YJ hp),hv]
set_option maxHeartbeats 8000000 in
set_option maxRecDepth 100000 in
theorem as_hit {P Q:TypeId} (hp:Pr P Q) (v n:Value) (hv:v.cells=#[n]) (h1:n.oneCell'=true) (t:Addr) (old:Value) (w:World) (hg:w.cell? ⟨2,0,none⟩=some (.iface 198 (.agg #[.pointer (some ⟨9,48,none⟩)]))) (ht0:w.cell? t=some old) (hf0:w.frozen? t=false) :
  Calls Tryz.prog 83 #[.iface Q v,.iface P (.pointer (some t))] w fun ev w'=>ev=.returned (.bool true)/\w'=((((w.alloc (.cells #[.pointer (some t)] P)).alloc (.cells #[.pointer (some ⟨9,P,none⟩),.pointer (some ⟨w.heap.size,0,none⟩),.int .u64 150] 162)).alloc (.cells #[.pointer (some ⟨9,P,none⟩),.pointer (some ⟨w.heap.size,0,none⟩),.int .u64 150] 162)).alloc (.cells #[n] Q)).setCell t n:=by
 have h6:=@run_callFunc_extern Tryz.prog 135 _ (fun args=>ReflectliteValue.unpack (args.getD 0 (.tuple #[]))) Tryz.func135 (by kernel_rfl) (by kernel_rfl) (by kernel_rfl) (by kernel_rfl);have h7:=@run_callFunc_extern Tryz.prog 136 _ (ReflectliteValue.methodAny (ReflectliteValue.valueError "reflectlite.Value.Type" 0) (fun t _ _ _=>ReflectliteType.toType t)) Tryz.func136 (by kernel_rfl) (by kernel_rfl) (by kernel_rfl) (by kernel_rfl);have h8:=@run_callFunc_extern Tryz.prog 137 _ (ReflectliteValue.method (ReflectliteValue.valueError "reflectlite.Value.IsNil" 0) ReflectliteValue.isNil) Tryz.func137 (by kernel_rfl) (by kernel_rfl) (by kernel_rfl) (by kernel_rfl);have h27:=@run_callFunc_extern Tryz.prog 236 _ (ReflectliteType.abiMethod fun t=>do pure (.int .u8 (<-Rtype.kind t))) Tryz.func236 (by kernel_rfl) (by kernel_rfl) (by kernel_rfl) (by kernel_rfl);have h37:=@run_callFunc_extern Tryz.prog 250 _ (ReflectliteType.method ReflectliteType.elem) Tryz.func250 (by kernel_rfl) (by kernel_rfl) (by kernel_rfl) (by kernel_rfl);have h38:=@run_callFunc_extern Tryz.prog 251 _ (ReflectliteType.relation "Implements" ReflectliteType.implements_) Tryz.func251 (by kernel_rfl) (by kernel_rfl) (by kernel_rfl) (by kernel_rfl);have h10:=@run_callFunc_extern Tryz.prog 168 _ ReflectliteType.typeOf Tryz.func168 (by kernel_rfl) (by kernel_rfl) (by kernel_rfl) (by kernel_rfl);have h35:=@run_callFunc_extern Tryz.prog 248 _ (ReflectliteType.relation "AssignableTo" ReflectliteType.assignableTo) Tryz.func248 (by kernel_rfl) (by kernel_rfl) (by kernel_rfl) (by kernel_rfl);have h11:=@run_callFunc_extern Tryz.prog 169 _ (ReflectliteValue.method (ReflectliteValue.valueError "reflectlite.Value.Elem" 0) ReflectliteValue.elem) Tryz.func169 (by kernel_rfl) (by kernel_rfl) (by kernel_rfl) (by kernel_rfl);have h12:=@run_callFunc_extern Tryz.prog 170 _ ReflectliteValue.set Tryz.func170 (by kernel_rfl) (by kernel_rfl) (by kernel_rfl) (by kernel_rfl);have tO:=(Tryz.typeOf25 hp);have mA:=Tryz.methodAssignableTo;have a25:=(Tryz.assignable25 hp);have v25:=valueOf51 hp v n hv;have f6:=(Tryz.valueOf27 hp);have f7:=(Tryz.type27 hp);have mK:=Tryz.methodKind;have mE:=Tryz.methodElem;have mI:=Tryz.methodImplements;have k27:=(Tryz.kind27 hp);have k25:=(Tryz.kind25 hp);have e27:=(Tryz.elem27 hp);have i25:=(Tryz.implements25 hp);have n8:=(Tryz.isNil27 hp) ⟨w.heap.size,0,none⟩ t ((w.alloc (.cells #[.pointer (some t)] P)).alloc (.cells #[.pointer (some ⟨9,P,none⟩),.pointer (some ⟨w.heap.size,0,none⟩),.int .u64 150] 162)) (by simp)
 have hlt:2 < w.heap.size:=by
  rcases cA 2 w.heap.size with h | h0;·exact h
  ·have h1:w.heap[2]?=none:=cI h0;simp[World.cell?,h1] at hg
 have hg2:((w.alloc (.cells #[.pointer (some t)] P)).alloc (.cells #[.pointer (some ⟨9,P,none⟩),.pointer (some ⟨w.heap.size,0,none⟩),.int .u64 150] 162)).cell? ⟨2,0,none⟩=some (.iface 198 (.agg #[.pointer (some ⟨9,48,none⟩)])):=by
  rw[World.cell?_alloc_lt _ _ ⟨2,0,none⟩ (by simp;omega),World.cell?_alloc_lt _ _ ⟨2,0,none⟩ hlt];exact hg
 have htl:t.block < w.heap.size:=by
  rcases cA t.block w.heap.size with h | h;·exact h
  ·simp[World.cell?,cI h] at ht0
 have el:=(Tryz.elemV27 hp) ⟨w.heap.size,0,none⟩ t (((w.alloc (.cells #[.pointer (some t)] P)).alloc (.cells #[.pointer (some ⟨9,P,none⟩),.pointer (some ⟨w.heap.size,0,none⟩),.int .u64 150] 162)).alloc (.cells #[.pointer (some ⟨9,P,none⟩),.pointer (some ⟨w.heap.size,0,none⟩),.int .u64 150] 162)) (by rw[World.cell?_alloc_lt _ _ ⟨w.heap.size,0,none⟩ (by simp;omega)];simp)
 have st:=(Tryz.set25 hp) t ⟨w.heap.size+1+1+1,0,none⟩ n old h1 ((((w.alloc (.cells #[.pointer (some t)] P)).alloc (.cells #[.pointer (some ⟨9,P,none⟩),.pointer (some ⟨w.heap.size,0,none⟩),.int .u64 150] 162)).alloc (.cells #[.pointer (some ⟨9,P,none⟩),.pointer (some ⟨w.heap.size,0,none⟩),.int .u64 150] 162)).alloc (.cells #[n] Q))
  (by rw[World.cell?_alloc_at _ _ _ _ (by simp)];rfl)
  (by rw[World.cell?_alloc_lt _ _ t (by simp;omega),World.cell?_alloc_lt _ _ t (by simp;omega),World.cell?_alloc_lt _ _ t (by simp;omega),World.cell?_alloc_lt _ _ t htl];exact ht0)
  (by rw[World.frozen?_alloc_old _ _ t (by simp;omega),World.frozen?_alloc_old _ _ t (by simp;omega),World.frozen?_alloc_old _ _ t (by simp;omega),World.frozen?_alloc_old _ _ t (Nat.ne_of_lt htl)];exact hf0)
 go_enter Tryz.func83,Tryz.ntmps83
 go_wp2
 refine wp_loop_rounds 1 ?_;rw[rounds_succ]
 go_wp2
 go_ret
 exact⟨rfl,rfl⟩
end Go.Proofs.AbAsD


namespace Go.Proofs.AbIsD
open Go.RowKit Go.Extern.Stop Go.Stop Go.Extern Go.Proofs
theorem SB (v:Value) (w:World):(Extern.ReflectliteType.typeOf #[.iface 258 v]).run Tryz.prog w=.ok (.iface 198 (.agg #[.pointer (some ⟨9,258,none⟩)])) w:=by kernel_rfl
theorem Rc (w:World):((Extern.ReflectliteType.method fun t=>do Extern.Rtype.noPackHeld "Comparable" t;(fun a=>Value.bool a.comparable) <$> typeInfo t) #[.agg #[.pointer (some ⟨9,258,none⟩)]]).run Tryz.prog w=.ok (.bool true) w:=by kernel_rfl
theorem Q5 (v:Value) (w:World):(Go.method 389 198 v "Comparable").run Tryz.prog w=.ok (249,v) w:=by kernel_rfl
theorem isComp:(Tryz.prog.info? 258).map (·.comparable)=some true:=by kernel_rfl
theorem isSize:(Tryz.prog.info? 277).map (·.size)=some 1:=by kernel_rfl
theorem noIs265 (v:Value) (xT:TypeId) (w:World):(Instr.typeAssert (.iface 258 v) xT 224 true).run Tryz.prog w=.ok (.tuple #[.nilIface,.bool false]) w:=run_typeAssert_lacksB Tryz.underlying224 (by kernel_rfl) (by kernel_rfl) v xT w
theorem noUn265 (v:Value) (xT:TypeId) (w:World):(Instr.typeAssert (.iface 258 v) xT 206 true).run Tryz.prog w=.ok (.tuple #[.nilIface,.bool false]) w:=run_typeAssert_lacksB Tryz.underlying206 (by kernel_rfl) (by kernel_rfl) v xT w
theorem noUs265 (v:Value) (xT:TypeId) (w:World):(Instr.typeAssert (.iface 258 v) xT 208 true).run Tryz.prog w=.ok (.tuple #[.nilIface,.bool false]) w:=run_typeAssert_lacksB Tryz.underlying208 (by kernel_rfl) (by kernel_rfl) v xT w
theorem noIs143 (v:Value) (xT:TypeId) (w:World):(Instr.typeAssert (.iface 124 v) xT 224 true).run Tryz.prog w=.ok (.tuple #[.nilIface,.bool false]) w:=run_typeAssert_lacksB Tryz.underlying224 (by kernel_rfl) (by kernel_rfl) v xT w
theorem noUn143 (v:Value) (xT:TypeId) (w:World):(Instr.typeAssert (.iface 124 v) xT 206 true).run Tryz.prog w=.ok (.tuple #[.nilIface,.bool false]) w:=run_typeAssert_lacksB Tryz.underlying206 (by kernel_rfl) (by kernel_rfl) v xT w
theorem noUs143 (v:Value) (xT:TypeId) (w:World):(Instr.typeAssert (.iface 124 v) xT 208 true).run Tryz.prog w=.ok (.tuple #[.nilIface,.bool false]) w:=run_typeAssert_lacksB Tryz.underlying208 (by kernel_rfl) (by kernel_rfl) v xT w
set_option maxHeartbeats 1000000 in
set_option maxRecDepth 100000 in
theorem is_same (a:Addr) (w:World) :
  Calls Tryz.prog 139 #[.iface 258 (.pointer (some a)),.iface 258 (.pointer (some a))] w fun e w'=>e=.returned (.bool true)/\w'=w:=by
 obtain⟨i,hi,hcmp⟩:=Z3.1 isComp;obtain⟨j,hj,hjs⟩:=Z3.1 isSize;have h8:=@run_callFunc_extern Tryz.prog 168 _ Extern.ReflectliteType.typeOf Tryz.func168 (by kernel_rfl) (by kernel_rfl) (by kernel_rfl) (by kernel_rfl);have h32:=@run_callFunc_extern Tryz.prog 249 _ (Extern.ReflectliteType.method fun t=>do Extern.Rtype.noPackHeld "Comparable" t;pure (.bool (<-typeInfo t).comparable)) Tryz.func249 (by kernel_rfl) (by kernel_rfl) (by kernel_rfl) (by kernel_rfl);have tT:=SB;have cT:=Rc;have mR:=Q5;have heq:=run_eql_iface_ptr_same (P:=Tryz.prog) w a Tryz.underlying48 Tryz.underlying258 hi hcmp hj
 go_enter Tryz.func139,Tryz.ntmps139
 go_wp2
 refine wp_loop_rounds 1 ?_;rw[rounds_succ]
 go_wp2
 go_ret
 exact⟨rfl,rfl⟩
set_option maxHeartbeats 1000000 in
set_option maxRecDepth 100000 in
theorem is_nil (b:Addr) (w:World) :
  Calls Tryz.prog 139 #[.nilIface,.iface 258 (.pointer (some b))] w fun e w'=>e=.returned (.bool false)/\w'=w:=by
 have hn:=run_eql_iface_nil_left (P:=Tryz.prog) w 258 (.pointer (some b)) Tryz.underlying48
 go_enter Tryz.func139,Tryz.ntmps139
 go_wp2
 go_ret
 exact⟨rfl,rfl⟩
set_option maxHeartbeats 1000000 in
set_option maxRecDepth 100000 in
theorem is_other (a b:Addr) (ca cb:Array Value) (ta tb:TypeId) (w:World) (hne:a≠b) (ha:w.heap[a.block]?=some (.cells ca ta (0,0))) (hb:w.heap[b.block]?=some (.cells cb tb (0,0))) :
  Calls Tryz.prog 139 #[.iface 258 (.pointer (some a)),.iface 258 (.pointer (some b))] w fun e w'=>e=.returned (.bool false)/\w'=w:=by
 obtain⟨i,hi,hcmp⟩:=Z3.1 isComp;obtain⟨j,hj,hjs⟩:=Z3.1 isSize;have h8:=@run_callFunc_extern Tryz.prog 168 _ Extern.ReflectliteType.typeOf Tryz.func168 (by kernel_rfl) (by kernel_rfl) (by kernel_rfl) (by kernel_rfl);have h32:=@run_callFunc_extern Tryz.prog 249 _ (Extern.ReflectliteType.method fun t=>do Extern.Rtype.noPackHeld "Comparable" t;pure (.bool (<-typeInfo t).comparable)) Tryz.func249 (by kernel_rfl) (by kernel_rfl) (by kernel_rfl) (by kernel_rfl);have tT:=SB;have cT:=Rc;have mR:=Q5;have nE:=noIs265;have uE:=noUn265;have vE:=noUs265;have heq:=run_eql_iface_ptr_other (P:=Tryz.prog) w Tryz.underlying48 Tryz.underlying258 hi hcmp hj (by rw[hjs];decide) hne ha hb
 go_enter Tryz.func139,Tryz.ntmps139
 go_wp2
 refine wp_loop_rounds 1 ?_;rw[rounds_succ]
 go_wp2
 go_ret
 exact⟨rfl,rfl⟩
set_option maxHeartbeats 1000000 in
set_option maxRecDepth 100000 in
theorem is_type143 (v:Value) (b:Addr) (w:World) :
  Calls Tryz.prog 139 #[.iface 124 v,.iface 258 (.pointer (some b))] w fun e w'=>e=.returned (.bool false)/\w'=w:=by
 have h8:=@run_callFunc_extern Tryz.prog 168 _ Extern.ReflectliteType.typeOf Tryz.func168 (by kernel_rfl) (by kernel_rfl) (by kernel_rfl) (by kernel_rfl);have h32:=@run_callFunc_extern Tryz.prog 249 _ (Extern.ReflectliteType.method fun t=>do Extern.Rtype.noPackHeld "Comparable" t;pure (.bool (<-typeInfo t).comparable)) Tryz.func249 (by kernel_rfl) (by kernel_rfl) (by kernel_rfl) (by kernel_rfl);have tT:=SB;have cT:=Rc;have mR:=Q5;have nE:=noIs143;have uE:=noUn143;have vE:=noUs143;have hty:=run_eql_iface_types (P:=Tryz.prog) 124 258 v (.pointer (some b)) Tryz.underlying48 (by decide) w
 go_enter Tryz.func139,Tryz.ntmps139
 go_wp2
 refine wp_loop_rounds 1 ?_;rw[rounds_succ]
 go_wp2
 go_ret
 exact⟨rfl,rfl⟩
end Go.Proofs.AbIsD


namespace Go.Proofs.AbDS
open Go.RowKit Go.Proofs
theorem lies_b:liesAt Tryz.prog Tryz.prog.depth 111 (2 / Tryz.prog.cellsOf 111) 0 111 1=true:=by kernel_rfl
theorem info_b':(Tryz.prog.info? 111).map (·.size)=some 2:=by kernel_rfl
theorem info_b:∃ j,Tryz.prog.info? 111=some j/\j.size=2:=Z3.1 info_b'
theorem cells5:Tryz.prog.cellsOf 5=1:=by kernel_rfl
set_option maxHeartbeats 1000000 in
set_option maxRecDepth 100000 in
theorem check_used (b:Nat) (w:World) (h0:w.cell? ⟨b,0,none⟩=some (.pointer (some ⟨b,0,none⟩))) :
  Calls Tryz.prog 132 #[.pointer (some ⟨b,0,none⟩)] w fun e w'=>e=.returned (.tuple #[])/\w'=w:=by
 obtain⟨j,hj,_⟩:=info_b
 go_enter Tryz.func132,Tryz.ntmps132
 go_wp2
 rw[Lib.run_neq_ptr_same w _ Tryz.underlying108 hj]
 go_wp2
 go_end0
 exact⟨rfl,rfl⟩
set_option maxHeartbeats 1000000 in
set_option maxRecDepth 100000 in
theorem check_fresh (b:Nat) (w:World) (h0:w.cell? ⟨b,0,none⟩=some (.pointer none)) (hsh:w.shape? b=some (111,2)) (hfz:w.frozen? ⟨b,0,none⟩=false) :
  Calls Tryz.prog 132 #[.pointer (some ⟨b,0,none⟩)] w fun e w'=>e=.returned (.tuple #[])/\w'=w.setCell ⟨b,0,none⟩ (.pointer (some ⟨b,0,none⟩)):=by
 obtain⟨j,hj,hjs⟩:=info_b
 go_enter Tryz.func132,Tryz.ntmps132
 go_wp2
 rw[Lib.run_to_unsafe w ⟨b,0,none⟩ Tryz.underlying108 Tryz.underlying159 hj (by rw[hjs];decide) hsh (Nat.zero_lt_succ 1)];simp only[Result.andThen];rw[Oper.upon_value]
 go_wp2
 rw[run_callFunc_extern Tryz.func162 (by kernel_rfl) (by kernel_rfl) (by kernel_rfl) (e:=Extern.AbiNoEscape.same) (by kernel_rfl)];rw[Lib.run_noEscape];simp only[Result.andThen];rw[Oper.upon_value]
 go_wp2
 rw[Lib.run_from_unsafe w ⟨b,0,none⟩ Tryz.underlying159 Tryz.underlying108 hj hsh lies_b];simp only[Result.andThen];rw[Oper.upon_value]
 go_wp2
 go_end0
 exact⟨rfl,rfl⟩
set_option maxHeartbeats 1000000 in
set_option maxRecDepth 100000 in
theorem string_some (b g cap:Nat) (p:Value) (cur:Array Value) (l:List UInt8) (w:World) (hbk:w.heap[b]?=some (.cells #[p,.slice (some ⟨g,0,none⟩) l.length cap] 111 (0,0)))
  (hg:w.heap[g]?=some (.cells cur 5 (0,0))) (h0:l≠[]) (hcap:l.length<=cap) (hcs:l.length<=cur.size) (h63:l.length<=9223372036854775807) (hl:∀ (j:Nat) (x:UInt8),l[j]?=some x->cur[j]?=some (Value.int .u8 (x.toNat:Int))) :
  Calls Tryz.prog 72 #[.pointer (some ⟨b,0,none⟩)] w fun e w'=>e=.returned (.string ⟨l.toArray⟩)/\w'=w.drew.freeze ⟨g,0,none⟩ l.length:=by
 have hl0:l.length≠0:=by simpa using h0
 have c1:w.drew.cell? ⟨b,1,none⟩=some (.slice (some ⟨g,0,none⟩) l.length cap):=by
  have:w.drew.heap[b]?=some (.cells #[p,.slice (some ⟨g,0,none⟩) l.length cap] 111 (0,0)):=hbk;rw[Lib.cell_of_heap this];rfl
 have hSD:(Builtin.unsafeSliceData_ #[109] 157 #[.slice (some ⟨g,0,none⟩) l.length cap]).run Tryz.prog w.drew=.ok (.pointer (some ⟨g,0,none⟩)) w.drew :=
  Lib.run_unsafeSliceData_row _ _ _ _ _ _ (by omega)
 have hUS:(Builtin.unsafeString_ #[157,3] 9 #[.pointer (some ⟨g,0,none⟩),.int .i64 l.length]).run Tryz.prog w.drew=.ok (.string ⟨l.toArray⟩) (w.drew.freeze ⟨g,0,none⟩ l.length):=by
  refine Lib.run_unsafeString_row w.drew 157 3 9 5 Tryz.underlying157 cells5 g cur.size (by have hg':w.drew.heap[g]?=some (.cells cur 5 (0,0)):=hg;simp[World.shape?,hg']) l h0 hcs h63 ?_;intro j x hx;have hg':w.drew.heap[g]?=some (.cells cur 5 (0,0)):=hg;have e:((⟨g,0,none⟩:Addr).add j)=⟨g,j,none⟩:=by cases j<;>simp[Addr.add]
  rw[e,Lib.cell_of_heap hg'];exact hl j x hx
 have mixed:Tryz.prog.follows .mixedOrders=true:=by kernel_rfl
 go_enter Tryz.func72,Tryz.ntmps72
 go_wp2
 go_region_o
 all_goals (go_wp2;go_ret;exact⟨rfl,rfl⟩)
set_option maxHeartbeats 1000000 in
set_option maxRecDepth 100000 in
theorem string_nil (b:Nat) (p:Value) (w:World) (hbk:w.heap[b]?=some (.cells #[p,.slice none 0 0] 111 (0,0))) :
  Calls Tryz.prog 72 #[.pointer (some ⟨b,0,none⟩)] w fun e w'=>e=.returned (.string ⟨#[]⟩)/\w'=w.drew:=by
 have hUS:∀ W q,(Builtin.unsafeString_ #[157,3] 9 #[.pointer q,.int .i64 0]).run Tryz.prog W=.ok (.string .empty) W:=fun W q=>Lib.run_unsafeString_none W _ _ _ q
 have c1:w.drew.cell? ⟨b,1,none⟩=some (.slice none 0 0):=by
  have:w.drew.heap[b]?=some (.cells #[p,.slice none 0 0] 111 (0,0)):=hbk;rw[Lib.cell_of_heap this];rfl
 have hSD:(Builtin.unsafeSliceData_ #[109] 157 #[.slice none 0 0]).run Tryz.prog w.drew=.ok (.pointer none) w.drew:=rfl;have mixed:Tryz.prog.follows .mixedOrders=true:=by kernel_rfl
 go_enter Tryz.func72,Tryz.ntmps72
 go_wp2
 go_region_o
 all_goals (go_wp2;go_ret;exact⟨rfl,rfl⟩)
end Go.Proofs.AbDS


namespace Go.Proofs
open Go.Shelf Go.RowKit Go.Sort Go.Lib
def Tryz.lays154_ren:Go.Shelf.Ren:=⟨fun | 154=>133 | 138=>163 | 165=>164 | 143=>165 | 166=>69 | 197=>166 | 169=>72 | 195=>176 | 218=>177 | 240=>132 | 241=>178 | 219=>179 | 260=>180 | 276=>162 | 277=>189 | 217=>190 | 225=>191 | 224=>192 | 267=>193 | 266=>203 | 314=>204 | n=>n,fun | 9=>9 | 3=>3 | 4=>4 | 72=>111 | 0=>0 | 76=>73 | 105=>195 | 21=>21 | 5=>5 | 70=>108 | 20=>20 | 37=>109 | 75=>48 | 127=>157 | 164=>159 | 46=>184 | 119=>233 | 139=>236 | 138=>235 | 146=>245 | 51=>89 | 80=>115 | n=>n,fun | 1=>3 | 3=>4 | 4=>5 | n=>n⟩
theorem Tryz.lays154:Go.Proofs.Lays.n154 Tryz.prog Tryz.lays154_ren:={
 mixed:=by kernel_rfl
 f138:=Tryz.func163.trans (congrArg some (by kernel_rfl))
 f143:=Tryz.func165.trans (congrArg some (by kernel_rfl))
 f154:=Tryz.func133.trans (congrArg some (by kernel_rfl))
 f165:=Tryz.func164.trans (congrArg some (by kernel_rfl))
 f166:=Tryz.func69.trans (congrArg some (by kernel_rfl))
 f169:=Tryz.func72.trans (congrArg some (by kernel_rfl))
 f195:=Tryz.func176.trans (congrArg some (by kernel_rfl))
 f197:=Tryz.func166.trans (congrArg some (by kernel_rfl))
 f217:=Tryz.func190.trans (congrArg some (by kernel_rfl))
 f218:=Tryz.func177.trans (congrArg some (by kernel_rfl))
 f219:=Tryz.func179.trans (congrArg some (by kernel_rfl))
 f224:=Tryz.func192.trans (congrArg some (by kernel_rfl))
 f225:=Tryz.func191.trans (congrArg some (by kernel_rfl))
 f240:=Tryz.func132.trans (congrArg some (by kernel_rfl))
 f241:=Tryz.func178.trans (congrArg some (by kernel_rfl))
 f260:=Tryz.func180.trans (congrArg some (by kernel_rfl))
 f266:=Tryz.func203.trans (congrArg some (by kernel_rfl))
 f267:=Tryz.func193.trans (congrArg some (by kernel_rfl))
 f276:=Tryz.func162.trans (congrArg some (by kernel_rfl))
 f277:=Tryz.func189.trans (congrArg some (by kernel_rfl))
 f314:=Tryz.func204.trans (congrArg some (by kernel_rfl))
 t0:=Tryz.underlying0
 a0:=Tryz.isAgg0
 z0:=Tryz.sizeOf0
 v0:=Tryz.zeroValue0
 t3:=Tryz.underlying3
 a3:=Tryz.isAgg3
 z3:=Tryz.sizeOf3
 v3:=Tryz.zeroValue3
 t4:=Tryz.underlying4
 a4:=Tryz.isAgg4
 z4:=Tryz.sizeOf4
 v4:=Tryz.zeroValue4
 t5:=Tryz.underlying5
 a5:=Tryz.isAgg5
 z5:=Tryz.sizeOf5
 v5:=Tryz.zeroValue5
 t9:=Tryz.underlying9
 a9:=Tryz.isAgg9
 z9:=Tryz.sizeOf9
 v9:=Tryz.zeroValue9
 t20:=Tryz.underlying20
 a20:=Tryz.isAgg20
 z20:=Tryz.sizeOf20
 v20:=Tryz.zeroValue20
 t21:=Tryz.underlying21
 a21:=Tryz.isAgg21
 z21:=Tryz.sizeOf21
 v21:=Tryz.zeroValue21
 t37:=Tryz.underlying109
 a37:=Tryz.isAgg109
 z37:=Tryz.sizeOf109
 v37:=Tryz.zeroValue109
 t46:=Tryz.underlying184
 a46:=Tryz.isAgg184
 z46:=Tryz.sizeOf184
 v46:=Tryz.zeroValue184
 t51:=Tryz.underlying89
 a51:=Tryz.isAgg89
 z51:=Tryz.sizeOf89
 v51:=Tryz.zeroValue89
 t70:=Tryz.underlying108
 a70:=Tryz.isAgg108
 z70:=Tryz.sizeOf108
 v70:=Tryz.zeroValue108
 t72:=Tryz.underlying111
 a72:=Tryz.isAgg111
 z72:=Tryz.sizeOf111
 v72:=Tryz.zeroValue111
 t75:=Tryz.underlying48
 a75:=Tryz.isAgg48
 z75:=Tryz.sizeOf48
 v75:=Tryz.zeroValue48
 t76:=Tryz.underlying73
 a76:=Tryz.isAgg73
 z76:=Tryz.sizeOf73
 v76:=Tryz.zeroValue73
 t105:=Tryz.underlying195
 a105:=Tryz.isAgg195
 z105:=Tryz.sizeOf195
 v105:=Tryz.zeroValue195
 t119:=Tryz.underlying233
 a119:=Tryz.isAgg233
 z119:=Tryz.sizeOf233
 t127:=Tryz.underlying157
 a127:=Tryz.isAgg157
 z127:=Tryz.sizeOf157
 v127:=Tryz.zeroValue157
 t138:=Tryz.underlying235
 a138:=Tryz.isAgg235
 z138:=Tryz.sizeOf235
 v138:=Tryz.zeroValue235
 t139:=Tryz.underlying236
 a139:=Tryz.isAgg236
 z139:=Tryz.sizeOf236
 v139:=Tryz.zeroValue236
 t146:=Tryz.underlying245
 a146:=Tryz.isAgg245
 z146:=Tryz.sizeOf245
 v146:=Tryz.zeroValue245
 t164:=Tryz.underlying159
 a164:=Tryz.isAgg159
 z164:=Tryz.sizeOf159
 v164:=Tryz.zeroValue159
 g1:=by kernel_rfl
 g3:=by kernel_rfl
 g4:=by kernel_rfl}
theorem Tryz.extra:Builder.Extra Tryz.prog Tryz.lays154_ren where
 sizeBuilder:=by kernel_rfl
 liesBuilder:=by kernel_rfl
 t5:=Tryz.lays154.t5
 a5:=Tryz.lays154.a5
 z5:=Tryz.lays154.z5
 v5:=Tryz.lays154.v5
 infoByte:=by kernel_rfl
 cellsByte:=by kernel_rfl
 sizeByte:=by kernel_rfl
 neB5:=by decide
def Tryz.lays173_ren:Go.Shelf.Ren:=⟨fun | 173=>134 | 246=>167 | 283=>181 | 284=>182 | 285=>183 | 286=>184 | 129=>195 | 317=>194 | 318=>196 | 319=>197 | 320=>198 | 337=>205 | 338=>206 | n=>n,fun | 2=>2 | 3=>3 | 9=>9 | 4=>4 | 171=>219 | 0=>0 | 53=>180 | 37=>109 | 5=>5 | 173=>222 | 212=>238 | 51=>89 | 20=>20 | 213=>239 | 46=>184 | 232=>254 | 233=>255 | n=>n,fun | 17=>6 | 18=>7 | 19=>8 | n=>n⟩
theorem Tryz.lays173:Go.Proofs.LaysM.n173 Tryz.prog Tryz.lays173_ren:={
 mixed:=by kernel_rfl
 f129:=Tryz.func195.trans (congrArg some (by kernel_rfl))
 f173:=Tryz.func134.trans (congrArg some (by kernel_rfl))
 f246:=Tryz.func167.trans (congrArg some (by kernel_rfl))
 f283:=Tryz.func181.trans (congrArg some (by kernel_rfl))
 f284:=Tryz.func182.trans (congrArg some (by kernel_rfl))
 f285:=Tryz.func183.trans (congrArg some (by kernel_rfl))
 f286:=Tryz.func184.trans (congrArg some (by kernel_rfl))
 f317:=Tryz.func194.trans (congrArg some (by kernel_rfl))
 f318:=Tryz.func196.trans (congrArg some (by kernel_rfl))
 f319:=Tryz.func197.trans (congrArg some (by kernel_rfl))
 f320:=Tryz.func198.trans (congrArg some (by kernel_rfl))
 f337:=Tryz.func205.trans (congrArg some (by kernel_rfl))
 f338:=Tryz.func206.trans (congrArg some (by kernel_rfl))
 t0:=Tryz.underlying0
 a0:=Tryz.isAgg0
 z0:=Tryz.sizeOf0
 v0:=Tryz.zeroValue0
 t2:=Tryz.underlying2
 a2:=Tryz.isAgg2
 z2:=Tryz.sizeOf2
 v2:=Tryz.zeroValue2
 t3:=Tryz.underlying3
 a3:=Tryz.isAgg3
 z3:=Tryz.sizeOf3
 v3:=Tryz.zeroValue3
 t4:=Tryz.underlying4
 a4:=Tryz.isAgg4
 z4:=Tryz.sizeOf4
 v4:=Tryz.zeroValue4
 t5:=Tryz.underlying5
 a5:=Tryz.isAgg5
 z5:=Tryz.sizeOf5
 v5:=Tryz.zeroValue5
 t9:=Tryz.underlying9
 a9:=Tryz.isAgg9
 z9:=Tryz.sizeOf9
 v9:=Tryz.zeroValue9
 t20:=Tryz.underlying20
 a20:=Tryz.isAgg20
 z20:=Tryz.sizeOf20
 v20:=Tryz.zeroValue20
 t37:=Tryz.underlying109
 a37:=Tryz.isAgg109
 z37:=Tryz.sizeOf109
 v37:=Tryz.zeroValue109
 t46:=Tryz.underlying184
 a46:=Tryz.isAgg184
 z46:=Tryz.sizeOf184
 v46:=Tryz.zeroValue184
 t51:=Tryz.underlying89
 a51:=Tryz.isAgg89
 z51:=Tryz.sizeOf89
 v51:=Tryz.zeroValue89
 t53:=Tryz.underlying180
 a53:=Tryz.isAgg180
 z53:=Tryz.sizeOf180
 v53:=Tryz.zeroValue180
 t171:=Tryz.underlying219
 a171:=Tryz.isAgg219
 z171:=Tryz.sizeOf219
 v171:=Tryz.zeroValue219
 t173:=Tryz.underlying222
 a173:=Tryz.isAgg222
 z173:=Tryz.sizeOf222
 v173:=Tryz.zeroValue222
 t212:=Tryz.underlying238
 a212:=Tryz.isAgg238
 z212:=Tryz.sizeOf238
 v212:=Tryz.zeroValue238
 t213:=Tryz.underlying239
 a213:=Tryz.isAgg239
 z213:=Tryz.sizeOf239
 t232:=Tryz.underlying254
 a232:=Tryz.isAgg254
 z232:=Tryz.sizeOf254
 v232:=Tryz.zeroValue254
 t233:=Tryz.underlying255
 a233:=Tryz.isAgg255
 z233:=Tryz.sizeOf255
 v233:=Tryz.zeroValue255
 g17:=by kernel_rfl
 g18:=by kernel_rfl
 g19:=by kernel_rfl
 i0:=by kernel_rfl
 i2:=by kernel_rfl
 i3:=by kernel_rfl
 i4:=by kernel_rfl
 i5:=by kernel_rfl
 i9:=by kernel_rfl
 i20:=by kernel_rfl
 i37:=by kernel_rfl
 i46:=by kernel_rfl
 i51:=by kernel_rfl
 i53:=by kernel_rfl
 i171:=by kernel_rfl
 i173:=by kernel_rfl
 i212:=by kernel_rfl
 i232:=by kernel_rfl
 i233:=by kernel_rfl
 m17:=by kernel_rfl
 m18:=by kernel_rfl
 m19:=by kernel_rfl}
namespace AbShD
theorem repl_run (s old new:ByteArray) (n m:Int) (w:World) (hs:s.size < 4294967281) (hm:w.cell? ⟨3,0,none⟩=some (.int .i64 m)) (h1:1<=old.size) (hlen:s.size+Lib.countB s old*new.size<=140737488355328) :
  Calls Tryz.prog 133 #[.string s,.string old,.string new,.int .i64 n] w fun e w'=>e=.returned (.string ⟨(Lib.replace s.data.toList old.data.toList new.data.toList n).toArray⟩)/\Below w.heap.size w w' :=
 Any.strings_Replace Tryz.lays154 Tryz.extra s old new n m w hs hm h1 hlen
theorem fmt_run (n:Int) (h0 : -9223372036854775808<=n) (h1:n<=9223372036854775807) (w:World) (ht:Lib.TabIs Tryz.prog w "internal/strconv.uint64pow10" .u64 Lib.pow10Tab) :
  Calls Tryz.prog 134 #[.int .i64 n,.int .i64 10] w fun e w'=>e=.returned (.string ⟨(Lib.itoa n).toArray⟩)/\∃ k os,w'=grow (w.drewN k) os :=
 Any.strconv_FormatInt_10 Tryz.lays173 n h0 h1 w ht
end AbShD
end Go.Proofs


namespace Go.Proofs.AbLkD
open Go
abbrev link:Go.Conc.Locks.MuLink:={lock:=186,unlock:=187,ilock:=199,iunlock:=200,lockSlow:=211,unlockSlow:=214,disable:=207,enable:=209,acquire:=210,relMerge:=212,cas32:=208,add32:=213,tIMutex:=93,tMutex:=95,tPMutex:=242,tPIMutex:=248,tPI32:=250,tUP:=159,tNoCopy:=87,tU32:=89}
theorem lib:Go.Conc.Locks.MuLib Tryz.prog link :=
 ⟨Tryz.func186,Tryz.func187,Tryz.func199,Tryz.func200,Tryz.func207,Tryz.func209,Tryz.func210,Tryz.func212,Tryz.func208,Tryz.func213,Tryz.underlying93,Tryz.runUnderlying93,Tryz.sizeOf93,Tryz.isAgg93,Tryz.zeroValue93,Tryz.underlying95,Tryz.runUnderlying95,Tryz.sizeOf95,Tryz.isAgg95,Tryz.zeroValue95,Tryz.underlying242,Tryz.runUnderlying242,Tryz.sizeOf242,Tryz.isAgg242,Tryz.zeroValue242,Tryz.underlying248,Tryz.runUnderlying248,Tryz.sizeOf248,Tryz.isAgg248,Tryz.zeroValue248,Tryz.underlying250,Tryz.runUnderlying250,Tryz.sizeOf250,Tryz.isAgg250,Tryz.zeroValue250,Tryz.underlying159,Tryz.runUnderlying159,Tryz.sizeOf159,Tryz.isAgg159,Tryz.zeroValue159,Tryz.underlying87,Tryz.runUnderlying87,Tryz.sizeOf87,Tryz.isAgg87,Tryz.zeroValue87,Tryz.underlying21,Tryz.runUnderlying21,Tryz.sizeOf21,Tryz.isAgg21,Tryz.zeroValue21,(by kernel_rfl)⟩
theorem load (a:Addr) (y:Int) (w:World) (h:w.cell? a=some (.int .u32 y)):(callFunc 185 #[.pointer (some a)]).run Tryz.prog w=.ok (.value (.int .u32 y)) w :=
 run_call_load (P:=Tryz.prog) Tryz.func185 (by kernel_rfl) (by kernel_rfl) (by kernel_rfl) .u32 (by kernel_rfl) h
theorem store (a:Addr) (y0 y:Int) (w:World) (h:w.cell? a=some (.int .u32 y0)) (hz:w.frozen? a=false):(callFunc 201 #[.pointer (some a),.int .u32 y]).run Tryz.prog w=.ok (.value (.tuple #[])) (w.setCell a (.int .u32 y)) :=
 run_call_store (P:=Tryz.prog) Tryz.func201 (by kernel_rfl) (by kernel_rfl) (by kernel_rfl) (by kernel_rfl) h hz
theorem lock (a:Addr) (w:World) (h:w.cell? a=some (.int .i32 0)) (hz:w.frozen? a=false):Calls Tryz.prog 199 #[.pointer (some a)] w fun e w'=>e=.returned (.tuple #[])/\w'=w.setCell a (.int .i32 1):=Go.MuLone.ilock_free lib a w h hz
theorem unlock (a:Addr) (w:World) (h:w.cell? a=some (.int .i32 1)) (hz:w.frozen? a=false):Calls Tryz.prog 200 #[.pointer (some a)] w fun e w'=>e=.returned (.tuple #[])/\w'=w.setCell a (.int .i32 0):=Go.MuLone.iunlock_held lib a w h hz
end Go.Proofs.AbLkD


namespace Go.Proofs.AbDS
open Go.RowKit Go.Proofs
theorem info2':(Tryz.prog.info? 2).map (fun i=>(i.zero,i.size,i.bytes))=some (some (.int .i64 0),1,8):=by kernel_rfl
theorem info2:∃ i z,Tryz.prog.info? 2=some i/\i.zero=some z/\i.size=1/\i.bytes=8/\z=.int .i64 0:=by
 obtain⟨i,h1,h2⟩:=Z3.1 info2';simp only[aC] at h2;exact⟨i,_,h1,h2.1,h2.2.1,h2.2.2,rfl⟩
set_option maxHeartbeats 1000000 in
set_option maxRecDepth 100000 in
theorem grow_zero (w:World):Calls Tryz.prog 172 #[.slice none 0 0,.int .i64 0] w fun e w'=>e=.returned (.slice none 0 0)/\w'=w:=by
 go_enter Tryz.func172,Tryz.ntmps172
 go_wp2
 go_ret
 exact⟨rfl,rfl⟩
set_option maxHeartbeats 4000000 in
set_option maxRecDepth 100000 in
theorem grow_some (n:Nat) (w:World) (h0:0 < n) (hn:n<=1000000):Calls Tryz.prog 172 #[.slice none 0 0,.int .i64 n] w fun e w' =>
  ∃ G row,e=.returned (.slice (some ⟨w.heap.size,0,none⟩) 0 G)/\G<=row.size/\w'=w.drew.alloc (.cells row 2):=by
 obtain⟨i0,z,hi0,hz0,hs0,hb0,rfl⟩:=info2;have h1:¬ ((n:Int) < 0):=by omega
 have h3:wrap64 ((n:Int) - 0)=(n:Int):=by unfold wrap64;omega
 have h4:(n:Int)>0:=by omega
 have hrz:∀ ty,(Builtin.append_ #[22,3] ty #[.slice none 0 0,.int .i64 (n:Int)]).run Tryz.prog w =
   .ok (.slice (some ⟨w.heap.size,0,none⟩) n (grownCap w n 0 2)) (w.drew.alloc (.cells ((#[]:Array Value)++Builtin.zeroCells (Value.int .i64 0).cells n++Builtin.zeroCells (Value.int .i64 0).cells (grownCap w n 0 2 - n)) 2)):=fun ty=>by
  have h:=Lib.run_append_grow_zeros (P:=Tryz.prog) w 22 3 ty 2 i0 (.int .i64 0) .i64 .i64 Tryz.underlying22 Tryz.underlying3 hi0 hz0 none 0 0 [] (by rw[hs0];exact run_firstCells_none w.drew 1 0 0 0) n h0 (by omega) (by omega) (by omega) (by rw[hb0];omega)
   (growslice_fits (by omega) (by rw[hb0];omega))
  rw[az] at h;exact h
 have hGn:n<=grownCap w n 0 2:=grownCap_ge w _ _ _
 have hG63:grownCap w n 0 2<=9223372036854775807:=by
  have:=grownCap_le_maxLen w n 0 2 (by unfold maxLen;omega);unfold maxLen at this;omega
 obtain⟨row,hrow⟩:∃ row,row=((#[]:Array Value)++Builtin.zeroCells (Value.int .i64 0).cells n++Builtin.zeroCells (Value.int .i64 0).cells (grownCap w n 0 2 - n)):=⟨_,rfl⟩
 have hsz:grownCap w n 0 2<=row.size:=by
  rw[hrow];simp[size_zeroCells,Value.cells];omega
 rw[<-hrow] at hrz;obtain⟨G,hG⟩:∃ G,G=grownCap w n 0 2:=⟨_,rfl⟩;rw[<-hG] at hrz hGn hG63 hsz;clear hrow hG
 go_enter Tryz.func172,Tryz.ntmps172
 go_wp2_with (at_builtin;refine Lib.wpList_append_run _ rfl _ _ _ _ rfl _ _ rfl rfl _ _ (hrz _) ?_)
 all_goals (go_ret;exact⟨G,rfl,row,hsz,rfl⟩)
end Go.Proofs.AbDS


namespace Go.Ab.Derive2
open Go Go.Ab Go.Proofs
def et0:Value:=.iface 198 (.agg #[.pointer (some ⟨9,48,none⟩)])
def tabs0:List (Nat×Array Value):=[(6,(Lib.pow10Tab.map fun z=>Value.int .u64 z).toArray)]
noncomputable def cx0:Cx:=cxOf Tryz.prog (by kernel_rfl) [0,1] 258 [(2,et0)] tabs0 [3]
theorem enters83:CT Tryz.prog 83:=⟨_,Tryz.func83,by rfl,by rfl⟩
theorem enters139:CT Tryz.prog 139:=⟨_,Tryz.func139,by rfl,by rfl⟩
theorem enters172:CT Tryz.prog 172:=⟨_,Tryz.func172,by rfl,by rfl⟩
theorem enters133:CT Tryz.prog 133:=⟨_,Tryz.func133,by rfl,by rfl⟩
theorem enters134:CT Tryz.prog 134:=⟨_,Tryz.func134,by rfl,by rfl⟩
theorem enters132:CT Tryz.prog 132:=⟨_,Tryz.func132,by rfl,by rfl⟩
theorem enters72:CT Tryz.prog 72:=⟨_,Tryz.func72,by rfl,by rfl⟩
theorem enters199:CT Tryz.prog 199:=⟨_,Tryz.func199,by rfl,by rfl⟩
theorem enters200:CT Tryz.prog 200:=⟨_,Tryz.func200,by rfl,by rfl⟩
theorem as_ok:AsOK Tryz.prog 83 2 et0 ps0 where
 enters:=enters83
 none v w:=Go.Proofs.AbAsD.as_nil v w
 hit p t h v n hv h1 a old w hg h0 hf:=by
  simp only[ps0,List.lookup] at h;split at h
  ·rename_i hp;obtain rfl:p=146:=by simpa using hp
   cases h;refine (Go.Proofs.AbAsD.as_hit (.inl ⟨rfl,rfl⟩) v n hv h1 a old w hg h0 hf).mono ?_;rintro ev w' ⟨rfl,rfl⟩;exact⟨rfl,_,_,_,_,rfl⟩
  split at h
  ·rename_i hp;obtain rfl:p=129:=by simpa using hp
   cases h;refine (Go.Proofs.AbAsD.as_hit (.inr (.inl ⟨rfl,rfl⟩)) v n hv h1 a old w hg h0 hf).mono ?_;rintro ev w' ⟨rfl,rfl⟩;exact⟨rfl,_,_,_,_,rfl⟩
  split at h
  ·rename_i hp;obtain rfl:p=137:=by simpa using hp
   cases h;refine (Go.Proofs.AbAsD.as_hit (.inr (.inr (.inl ⟨rfl,rfl⟩))) v n hv h1 a old w hg h0 hf).mono ?_;rintro ev w' ⟨rfl,rfl⟩;exact⟨rfl,_,_,_,_,rfl⟩
  split at h
  ·rename_i hp;obtain rfl:p=172:=by simpa using hp
   cases h;refine (Go.Proofs.AbAsD.as_hit (.inr (.inr (.inr ⟨rfl,rfl⟩))) v n hv h1 a old w hg h0 hf).mono ?_;rintro ev w' ⟨rfl,rfl⟩;exact⟨rfl,_,_,_,_,rfl⟩
  cases h
theorem is_ok:IsOK Tryz.prog 139 258 [124] where
 enters:=enters139
 none a w:=Go.Proofs.AbIsD.is_nil a w
 same a w:=Go.Proofs.AbIsD.is_same a w
 other a b ca cb ta tb w h h1 h2:=Go.Proofs.AbIsD.is_other a b ca cb ta tb w h h1 h2
 type s hs v b w:=by
  simp only[Z7,List.not_mem_nil,or_false] at hs;subst hs;exact Go.Proofs.AbIsD.is_type143 v b w
theorem bld_ok:BldOK Tryz.prog 132 72 111 5 where
 entersC:=enters132
 entersS:=enters72
 nzT:=by decide
 nzU:=by decide
 used:=Go.Proofs.AbDS.check_used
 fresh b w h0 h1 h2:=Go.Proofs.AbDS.check_fresh b w h0 h1 h2
 strNil b p w h:=Go.Proofs.AbDS.string_nil b p w h
 strSome b g cap p cur l w h1 h2 h3 h4 h5 h6 h7:=Go.Proofs.AbDS.string_some b g cap p cur l w h1 h2 h3 h4 h5 h6 h7
theorem sp_ok:SpOK cx0 BY:=by
 intro g st vs out h;unfold BY at h;split at h
 ·rename_i hg;subst hg;exact .inr (as_at (aJ.2 rfl) as_ok h)
 split at h
 ·rename_i hg;subst hg;exact .inr (is_at is_ok h)
 split at h
 ·rename_i hg;subst hg;exact .inr (grow_at enters172 Go.Proofs.AbDS.grow_zero (fun m w h0 hm=>Go.Proofs.AbDS.grow_some m w h0 hm) h)
 split at h
 ·rename_i hg;subst hg;exact .inr (repl_at enters133 (gm:=3) (by decide) (fun s old new n m w hs hm h1 hl=>Go.Proofs.AbShD.repl_run s old new n m w hs hm h1 hl) h)
 split at h
 ·rename_i hg;subst hg;exact .inr (fmt_at enters134 (gt:=6) (aJ.2 rfl) (by kernel_rfl) (fun n h0 h1 w ht=>Go.Proofs.AbShD.fmt_run n h0 h1 w ht) h)
 split at h
 ·rename_i hg;subst hg;exact .inr (check_at bld_ok h)
 split at h
 ·rename_i hg;subst hg;exact .inr (str_at bld_ok h)
 split at h
 ·rename_i hg;subst hg;exact .inl (load_ret Go.Proofs.AbLkD.load h)
 split at h
 ·rename_i hg;subst hg;exact .inl (store_ret Go.Proofs.AbLkD.store h)
 split at h
 ·rename_i hg;subst hg;exact .inr (WK enters199 Go.Proofs.AbLkD.lock h)
 split at h
 ·rename_i hg;subst hg;exact .inr (WK enters200 Go.Proofs.AbLkD.unlock h)
 cases h
end Go.Ab.Derive2


namespace Go.Ab
open Go Go.ChangeShapes Go.WideShapes Go.RowKit
inductive Cj where
 | bool
 | int (k:IntKind)
 | str
 | slice (e:Cj)
 | struct (fs:List Cj)
mutual
def Cj.cells:Cj->Nat
 | .struct fs=>Cj.cellsL fs
 | .bool | .int _ | .str | .slice _=>1
def Cj.cellsL:List Cj->Nat
 | []=>0
 | d :: ds=>d.cells+Cj.cellsL ds
end
mutual
def Dl (P:Program):Nat->Cj->TypeId->Bool
 | 0,_,_=>false
 | n+1,D,t=>match D,P.underlying t with
  | .bool,some .bool=>true
  | .int k,some (.int k')=>k'==k
  | .str,some .string=>true
  | .slice e,some (.slice et)=>Dl P n e et&&P.cellsOf et==e.cells&&decide (0 < e.cells)
  | .struct fs,some (.struct fields)=>P.cellsOf t==Cj.cellsL fs&&isFs P n 0 fs fields.toList
  | _,_=>false
def isFs (P:Program):Nat->Nat->List Cj->List Field->Bool
 | 0,_,_,_=>false
 | _+1,_,[],[]=>true
 | n+1,off,D :: ds,f :: fs=>f.offset==off&&P.cellsOf f.type==D.cells&&Dl P n D f.type&&isFs P n (off+D.cells) ds fs
 | _+1,_,_,_=>false
end
mutual
def Ja:Cj->PV->Prop
 | .bool,v=>∃ b,v=.bool b
 | .int k,v=>∃ n,v=.int k n/\(Lit.int k n).wf=true
 | .str,v=>∃ s,v=.str s/\s.length<=maxLen
 | .slice e,v=>v=.nilS\/∃ xs,v=.sl e.cells xs false/\xs.length<=maxLen/\∀ x∈xs,Ja e x
 | .struct fs,v=>∃ vs,v=.agg (cellsL vs)/\OD fs vs
def OD:List Cj->List PV->Prop
 | [],vs=>vs=[]
 | D :: fs,vs=>∃ v r,vs=v :: r/\Ja D v/\OD fs r
end
theorem repL1' {w:World} {I:Nat->Prop} {lp:Nat->Option Nat} {L:Option AF} {a:PV} {us:List Value} (h:Aq w I lp L [a] us):∃ u,us=[u]/\Aw w I lp L a u:=by
 obtain⟨u,r,h1,rfl,h2⟩:∃ u r,Aw w I lp L a u/\us=u :: r/\Aq w I lp L [] r:=by
  cases h;exact⟨_,_,by assumption,rfl,by assumption⟩
 cases h2;exact⟨u,rfl,h1⟩
section
variable {H:Type} {enc:TypeId×Value->H} {P:Program} {w:World} {I:Nat->Prop} {lp:Nat->Option Nat} {held:Bool} {sp:Nat->Bool}
def RepD (w:World) (I:Nat->Prop) (lp:Nat->Option Nat) (D:Cj) (cs:List Value):Prop:=∃ v:PV,Ja D v/\Aq w I lp none v.cells cs/\Bo cs/\v.cells.length=D.cells
theorem cells?_get {base:Nat} {a:Addr} {n:Nat} {l:List Value} (h:w.cells? base a n=some l):l.length=n/\∀ i,i < n->w.cell? (a.add i)=l[i]?:=by
 obtain⟨_,h1,h2⟩:=World.cells?_some h;exact⟨h1,fun i hi=>by rw[h2 i hi]⟩
theorem cell?_row {a:Addr} {v:Value} (h:w.cell? a=some v):∃ c E fr,w.heap[a.block]?=some (.cells c E fr)/\a.spot=none/\c[a.off]?=some v:=by
 unfold World.cell? at h;split at h
 ·rename_i c E fr hb;split at h;·cases h
  ·rename_i hs;exact⟨c,E,fr,hb,by simpa using hs,h⟩
 ·cases h
theorem WG (a:Addr) (h:a.spot=none) (i:Nat):a.add i=⟨a.block,a.off+i,none⟩:=by
 unfold Addr.add;split;·rename_i hi;subst hi;cases a;simp_all
 ·rfl
theorem list_rep {e:Cj} (hI:∀ b,b < w.heap.size->I b) {a:Addr} {len cap:Nat} (hlc:len<=cap) (hcm:cap<=maxLen) (hpos:0 < e.cells)
  (hel:∀ i,i < len->∃ cs,w.cells? 0 (a.add (i*e.cells)) e.cells=some cs/\RepD w I lp e cs):RepD w I lp (.slice e) [.slice (some a) len cap]:=by
 by_cases h0:len=0
 ·subst h0;exact⟨.sl e.cells [] false,.inr ⟨[],rfl,bR _,fun x hx=>by cases hx⟩,.cons _ _ _ _ (.slE _ _ _ _ (fun h=>by cases h)) .nil,by simp[Bo,Value.oneCell'],rfl⟩
 ·obtain⟨cs0,hcs0,_⟩:=hel 0 (by omega);obtain⟨hl0,hg0⟩:=cells?_get hcs0;have hf:=hg0 0 hpos;rw[Nat.zero_mul] at hf;have e0:(a.add 0).add 0=a:=by simp[Addr.add]
  rw[e0,ab (by omega)] at hf;obtain⟨c,E,fr,hb,hs,_⟩:=cell?_row hf;have hblt:a.block < w.heap.size:=(cz.1 hb).1
  have each:∀ i,i < len->∃ v:PV,Ja e v/\v.cells.length=e.cells/\(a.off+i*e.cells)+e.cells<=c.size/\Bo ((c.toList.drop (a.off+i*e.cells)).take e.cells)/\Aq w I lp none v.cells ((c.toList.drop (a.off+i*e.cells)).take e.cells):=by
   intro i hi;obtain⟨cs,hcs,v,h1,h2,h3,h4⟩:=hel i hi;obtain⟨hl,hg⟩:=cells?_get hcs
   have key:∀ j,j < e.cells->c[a.off+i*e.cells+j]?=cs[j]?:=by
    intro j hj;have:=hg j hj;rw[WG a hs,WG _ rfl,NI hb] at this;exact this
   have hsz:a.off+i*e.cells+e.cells<=c.size:=by
    have:=key (e.cells - 1) (by omega);rw[ab (by omega)] at this;have:=(cz.1 this).1;omega
   have e1:(c.toList.drop (a.off+i*e.cells)).take e.cells=cs:=by
    apply aO;intro j;by_cases hj:j < e.cells
    ·rw[b7 hj,ck,<-key j hj];simp
    ·rw[aA (by simp;omega),aA (by omega)]
   exact⟨v,h1,h4,hsz,by rw[e1];exact h3,by rw[e1];exact h2⟩
  have all:∀ n,n<=len->∃ xs:List PV,xs.length=n/\(∀ x∈xs,Ja e x)/\(∀ x∈xs,x.cells.length=e.cells)/\a.off+n*e.cells<=c.size/\Bo ((c.toList.drop a.off).take (n*e.cells))/\Aq w I lp none (cellsL xs) ((c.toList.drop a.off).take (n*e.cells)):=by
   intro n;induction n with
   | zero =>
    intro _;refine⟨[],rfl,by simp,by simp,?_,by simp[Bo],by simp;exact .nil⟩;obtain⟨_,_,_,h,_⟩:=each 0 (by omega);omega
   | succ n ih =>
    intro hn;obtain⟨xs,h1,h2,h3,h4,h5,h6⟩:=ih (by omega);obtain⟨v,g1,g2,g3,g4,g5⟩:=each n (by omega)
    have e2:(c.toList.drop a.off).take ((n+1)*e.cells)=(c.toList.drop a.off).take (n*e.cells)++(c.toList.drop (a.off+n*e.cells)).take e.cells:=by
     rw[au,bG,List.take_add,bQ]
    refine⟨xs++[v],by simp[h1],?_,?_,by rw[au];omega,?_,?_⟩
    ·intro x hx;rcases ar.1 hx with hx | hx;·exact h2 x hx
     ·simp at hx;subst hx;exact g1
    ·intro x hx;rcases ar.1 hx with hx | hx;·exact h3 x hx
     ·simp at hx;subst hx;exact g2
    ·rw[e2];exact h5.append' g4
    ·rw[e2,Kq];refine h6.append ?_;simpa[cellsL] using g5
  obtain⟨xs,h1,h2,h3,h4,h5,h6⟩:=all len (Z5 _);have ea:a=⟨a.block,a.off,none⟩:=by cases a;simp_all
  refine⟨.sl e.cells xs false,.inr ⟨xs,rfl,by omega,h2⟩,?_,by simp[Bo,Value.oneCell'],rfl⟩;rw[ea,<-h1];exact .cons _ _ _ _ (.sl e.cells xs false a.block a.off cap c E fr (hI _ hblt) hb (by rw[h1];exact h4) h3 (by omega) (fun h=>by cases h) (by rw[h1];exact h5) (by rw[h1];exact h6)) .nil
theorem YO {n:Nat} (ih:∀ (m:Nat) (D:Cj) (t:TypeId) (cs:List Value) (x:DataW H×List MemPlace),Dl P m D t=true->DataW.trod enc P w 0 (fun _=>true) held n t cs=some x->RepD w I lp D cs) :
  ∀ (m:Nat) (ds:List Cj) (fs:List Field) (off:Nat) (cs:List Value) (xs:List (DataW H×List MemPlace)),isFs P m off ds fs=true->xs.length=fs.length->cs.length=off+Cj.cellsL ds ->
  (∀ (i:Nat) (f:Field),fs[i]?=some f->DataW.trod enc P w 0 (fun _=>true) held n f.type ((cs.drop f.offset).take (P.cellsOf f.type))=xs[i]?) ->
  ∃ vs:List PV,OD ds vs/\Aq w I lp none (cellsL vs) (cs.drop off)/\Bo (cs.drop off)/\(cellsL vs).length=Cj.cellsL ds:=by
 intro m;induction m with
 | zero=>intro ds fs off cs xs h;cases h
 | succ m ihm =>
  intro ds fs off cs xs h hl hc hf
  match ds,fs,h with
  | [],[],_ =>
   refine⟨[],rfl,?_,?_,rfl⟩;·rw[cD (by simp[Cj.cellsL] at hc;omega)];exact .nil
   ·rw[cD (by simp[Cj.cellsL] at hc;omega)];simp[Bo]
  | D :: ds,f :: fs,h =>
   simp only[isFs,Z2,beq_iff_eq] at h;obtain⟨⟨⟨h1,h2⟩,h3⟩,h4⟩:=h
   match xs,hl with
   | x :: xs,hl =>
    have hx:=hf 0 f rfl;rw[h1,h2] at hx;obtain⟨v,g1,g2,g3,g4⟩:=ih m D f.type _ x h3 hx;simp only[Cj.cellsL] at hc;obtain⟨vs,k1,k2,k3,k4⟩:=ihm ds fs (off+D.cells) cs xs h4 (by simpa using hl) (by omega) (fun i f hi=>by simpa using hf (i+1) f (by simpa using hi));have e1:cs.drop off=(cs.drop off).take D.cells++cs.drop (off+D.cells):=by rw[<-bQ,List.take_append_drop]
    refine⟨v :: vs,⟨v,vs,rfl,g1,k1⟩,?_,?_,by simp[cellsL,Cj.cellsL,g4,k4]⟩;·rw[e1];exact g2.append k2
    ·rw[e1];exact g3.append' k3
theorem Yf (hI:∀ b,b < w.heap.size->I b):∀ (fuel m:Nat) (D:Cj) (t:TypeId) (cs:List Value) (x:DataW H×List MemPlace),Dl P m D t=true->DataW.trod enc P w 0 (fun _=>true) held fuel t cs=some x->RepD w I lp D cs:=by
 intro fuel;induction fuel with
 | zero=>intro m D t cs x _ h;simp[DataW.trod] at h
 | succ fuel ih =>
  intro m D t cs x hD h;cases m with
  | zero=>cases hD
  | succ m =>
   cases hu:P.underlying t with
   | none=>cases D<;>simp[Dl,hu] at hD
   | some d =>
    cases D with
    | bool =>
     cases d<;>simp[Dl,hu] at hD;obtain⟨b,rfl,_⟩:=DataW.trod_bool hu h;exact⟨.bool b,⟨b,rfl⟩,.cons _ _ _ _ (.bool b) .nil,by simp[Bo,Value.oneCell'],rfl⟩
    | int k =>
     cases d<;>simp[Dl,hu] at hD;subst hD;obtain⟨n,rfl,_,hw⟩:=DataW.trod_int hu h;exact⟨.int _ n,⟨n,rfl,hw⟩,.cons _ _ _ _ (.int _ n) .nil,by simp[Bo,Value.oneCell'],rfl⟩
    | str =>
     cases d<;>simp[Dl,hu] at hD;obtain⟨s,rfl,_,hw⟩:=DataW.trod_string hu h;obtain⟨l,rfl⟩:∃ l:List UInt8,s=⟨l.toArray⟩:=⟨s.data.toList,by cases s;simp⟩;exact⟨.str l,⟨l,rfl,by simpa[ByteArray.size] using hw⟩,.cons _ _ _ _ (.str l) .nil,by simp[Bo,Value.oneCell'],rfl⟩
    | slice e =>
     cases d<;>simp[Dl,hu] at hD;rename_i et;obtain⟨⟨h1,h2⟩,h3⟩:=hD;rcases DataW.trod_slice hu h with ⟨rfl,_⟩ | ⟨a,len,cap,elems,rest,n,hn,rfl,_,_,hl,hm,hlen,hel,_⟩;·exact⟨.nilS,.inl rfl,.cons _ _ _ _ .nilS .nil,by simp[Bo,Value.oneCell'],rfl⟩
     ·cases hn;refine list_rep hI hl hm h3 fun i hi=>?_;have:=hel i hi;rw[ab (by omega),aX,h2] at this;obtain⟨cs,hcs,hx⟩:=this;exact⟨cs,hcs,ih m e et cs _ h1 hx⟩
    | struct ds =>
     cases d<;>simp[Dl,hu] at hD;rename_i fields;obtain⟨h1,h2⟩:=hD;obtain⟨xs,n,hn,_,hl,hlen,hf⟩:=DataW.trod_struct hu h;cases hn;obtain⟨vs,k1,k2,k3,k4⟩:=YO ih m ds fields.toList 0 cs xs h2 (by simpa using hlen) (by rw[hl,h1];omega) (fun i f hi=>hf i f (by simpa using hi));rw[bB] at k2 k3;exact⟨.agg (cellsL vs),⟨vs,rfl,k1⟩,k2,k3,by simpa[PV.cells,Cj.cells] using k4⟩
variable {w':World} {sp':Nat->Bool}
theorem cell?_keep (hk:∀ b,b < w.heap.size->w'.heap[b]?=w.heap[b]?) {a:Addr} {v:Value} (h:w.cell? a=some v):a.block < w.heap.size/\w'.cell? a=some v:=by
 obtain⟨c,E,fr,hb,hs,hv⟩:=cell?_row h;have hlt:a.block < w.heap.size:=(cz.1 hb).1;refine⟨hlt,?_⟩;unfold World.cell?;rw[hk _ hlt,hb];simp[hs,hv]
theorem MZ {α β:Type} {f g:α->Option β}:∀ (l:List α) {ys:List β},l.mapM f=some ys->(∀ x∈l,∀ y,f x=some y->g x=some y)->l.mapM g=some ys
 | [],ys,h,_=>by simpa using h
 | x :: l,ys,h,hg=>by
  rw[bi] at h |-;simp only[cj,aX,cu,Z6] at h |-;obtain⟨y,h1,ys',h2,rfl⟩:=h;exact⟨y,hg x (by simp) y h1,ys',MZ l h2 (fun z hz=>hg z (by simp[hz])),rfl⟩
theorem cells?_keep (hk:∀ b,b < w.heap.size->w'.heap[b]?=w.heap[b]?) {a:Addr} {n:Nat} {l:List Value} (h:w.cells? 0 a n=some l):w'.cells? 0 a n=some l/\(0 < n->a.block < w.heap.size):=by
 refine⟨?_,fun hn=>?_⟩
 ·unfold World.cells? at h |-;rw[if_pos (bR _)] at h |-;exact MZ _ h fun i _ v hv=>(cell?_keep hk hv).2
 ·obtain⟨h1,h2⟩:=cells?_get h;have:=h2 0 hn;rw[ab (by omega)] at this;have:=(cell?_keep hk this).1
  rwa [block_add] at this
theorem YB {n:Nat} (ih:∀ (m:Nat) (D:Cj) (t:TypeId) (cs:List Value) (x:DataW H×List MemPlace),Dl P m D t=true->DataW.trod enc P w 0 (fun _=>true) held n t cs=some x->DataW.trod enc P w' 0 sp' held n t cs=some x) :
  ∀ (m:Nat) (ds:List Cj) (fs:List Field) (off:Nat),isFs P m off ds fs=true->∀ f∈fs,∀ cs x,DataW.trod enc P w 0 (fun _=>true) held n f.type cs=some x->DataW.trod enc P w' 0 sp' held n f.type cs=some x:=by
 intro m;induction m with
 | zero=>intro ds fs off h;cases h
 | succ m ihm =>
  intro ds fs off h f hf cs x hx
  match ds,fs,h with
  | [],[],_=>cases hf
  | D :: ds,g :: fs,h =>
   simp only[isFs,Z2,beq_iff_eq] at h;rcases Z7.1 hf with rfl | hf;·exact ih m D _ cs x h.1.2 hx
   ·exact ihm ds fs _ h.2 f hf cs x hx
theorem trod_keep (hk:∀ b,b < w.heap.size->w'.heap[b]?=w.heap[b]?) (hsp:∀ b,b < w.heap.size->sp' b=true):∀ (fuel m:Nat) (D:Cj) (t:TypeId) (cs:List Value) (x:DataW H×List MemPlace),Dl P m D t=true ->
  DataW.trod enc P w 0 (fun _=>true) held fuel t cs=some x->DataW.trod enc P w' 0 sp' held fuel t cs=some x:=by
 intro fuel;induction fuel with
 | zero=>intro m D t cs x _ h;simp[DataW.trod] at h
 | succ fuel ih =>
  intro m D t cs x hD h;cases m with
  | zero=>cases hD
  | succ m =>
   cases hu:P.underlying t with
   | none=>cases D<;>simp[Dl,hu] at hD
   | some d =>
    cases D with
    | bool =>
     cases d<;>simp[Dl,hu] at hD;obtain⟨b,rfl,rfl⟩:=DataW.trod_bool hu h;simp[DataW.trod,hu]
    | int k =>
     cases d<;>simp[Dl,hu] at hD;subst hD;obtain⟨n,rfl,rfl,hw⟩:=DataW.trod_int hu h;simp[DataW.trod,hu,hw]
    | str =>
     cases d<;>simp[Dl,hu] at hD;obtain⟨s,rfl,rfl,hw⟩:=DataW.trod_string hu h;simp[DataW.trod,hu,hw]
    | slice e =>
     cases d<;>simp[Dl,hu] at hD;rename_i et;obtain⟨⟨h1,h2⟩,h3⟩:=hD;rcases DataW.trod_slice hu h with ⟨rfl,rfl⟩ | ⟨a,len,cap,elems,rest,n,hn,rfl,_,_,hl,hm,hlen,_,_⟩;·simp[DataW.trod,hu]
     ·unfold DataW.trod at h |-;simp only[hu] at h |-;rw[if_pos ⟨bR _,hl,hm⟩] at h |-
      have el:∀ i y,(w.cells? 0 (a.add (i*P.cellsOf et)) (P.cellsOf et)).bind (DataW.trod enc P w 0 (fun _=>true) held fuel et)=some y->(w'.cells? 0 (a.add (i*P.cellsOf et)) (P.cellsOf et)).bind (DataW.trod enc P w' 0 sp' held fuel et)=some y/\a.block < w.heap.size:=by
       intro i y hy;obtain⟨cs,hcs,hx⟩:=aX.1 hy;obtain⟨k1,k2⟩:=cells?_keep hk hcs;refine⟨aX.2 ⟨cs,k1,ih m e et cs y h1 hx⟩,?_⟩;have:=k2 (by omega)
       rwa [block_add] at this
      obtain⟨es,he,h⟩:=aX.1 h;refine aX.2 ⟨es,MZ _ he fun i _ y hy=>(el i y hy).1,?_⟩;obtain⟨rs,hr,rfl⟩:=Z3.1 h;refine Z3.2 ⟨rs,?_,rfl⟩;simp only[if_true] at hr;cases hc:cap - len with
      | zero =>
       rw[hc] at hr;simp at hr;subst hr;split<;>simp
      | succ q =>
       have hlt:a.block < w.heap.size:=by
        rw[hc,List.range_succ_eq_map,bi] at hr;simp only[cj,aX] at hr;obtain⟨y,hy,_⟩:=hr;exact (el _ y (aX.2 hy)).2
       rw[if_pos (hsp _ hlt),<-hc];exact MZ _ hr fun i _ y hy=>(el _ y hy).1
    | struct ds =>
     cases d<;>simp[Dl,hu] at hD;rename_i fields;obtain⟨h1,h2⟩:=hD;have key:=YB ih m ds fields.toList 0 h2;unfold DataW.trod at h |-;simp only[hu] at h |-;split at h
     ·rename_i hlc;rw[if_pos hlc];obtain⟨xs,hx,rfl⟩:=Z3.1 h;exact Z3.2 ⟨xs,MZ _ hx fun f hf y hy=>key f hf _ y hy,rfl⟩
     ·cases h
def isDs (P:Program) (m:Nat):List Cj->List TypeId->Bool
 | [],[]=>true
 | D :: Ds,t :: ts=>Dl P m D t&&isDs P m Ds ts
 | _,_=>false
theorem val_rep (hI:∀ b,b < w.heap.size->I b) {m:Nat} {D:Cj} {t:TypeId} {v:Value} {d:DataW H} {ps:List MemPlace} {base:Nat} (hD:Dl P m D t=true) (hv:Value.okWide P w .any base t v) (h:DataW.Trod enc P w 0 (fun _=>true) held t v d ps) :
  ∃ u:PV,Ja D u/\Aw w I lp none u v:=by
 obtain⟨fuel,h⟩:=h;obtain⟨u,h1,h2,h3,h4⟩:=Yf (lp:=lp) hI fuel m D t _ _ hD h;cases m with
 | zero=>cases hD
 | succ m =>
  cases hu:P.underlying t with
  | none=>cases D<;>simp[Dl,hu] at hD
  | some dd =>
   have one:(∀ x,v.cells.toList=[x]->v=x)->(∀ x:PV,u.cells=[x]->u=x)->(∃ x,u.cells=[x])->∃ u:PV,Ja D u/\Aw w I lp none u v:=by
    intro ho hp ⟨x,hx⟩;have hux:=hp x hx;rw[hx] at h2;obtain⟨y,hy,hr⟩:=repL1' h2;rw[ho y hy];exact⟨u,h1,by rw[hux];exact hr⟩
   have sc:(∀ vs,v≠.agg vs)->∀ x,v.cells.toList=[x]->v=x:=by
    intro hn x hx;cases v<;>first | (simp[Value.cells] at hx;exact hx) | exact absurd rfl (hn _)
   cases D with
   | struct ds =>
    cases dd<;>simp[Dl,hu] at hD;obtain⟨cs,rfl,_⟩:=okWide_struct hu hv;obtain⟨vs,rfl,hvs⟩:=h1;exact⟨_,⟨vs,rfl,hvs⟩,.agg _ _ h3 h2⟩
   | bool =>
    cases dd<;>simp[Dl,hu] at hD;obtain⟨b,rfl⟩:=h1;exact one (sc fun vs e=>by subst e;simp[Value.okWide,hu,Cell.okWide,Cell.ok] at hv) (fun x hx=>by simpa[PV.cells] using hx) ⟨_,rfl⟩
   | int k =>
    cases dd<;>simp[Dl,hu] at hD;obtain⟨b,rfl,_⟩:=h1;exact one (sc fun vs e=>by subst e;simp[Value.okWide,hu,Cell.okWide,Cell.ok] at hv) (fun x hx=>by simpa[PV.cells] using hx) ⟨_,rfl⟩
   | str =>
    cases dd<;>simp[Dl,hu] at hD;obtain⟨b,rfl,_⟩:=h1;exact one (sc fun vs e=>by subst e;simp[Value.okWide,hu,Cell.okWide,Cell.ok] at hv) (fun x hx=>by simpa[PV.cells] using hx) ⟨_,rfl⟩
   | slice e =>
    cases dd<;>simp[Dl,hu] at hD;have hs:=sc fun vs e=>by subst e;simp[Value.okWide,hu,Cell.okWide,Cell.ok] at hv
    rcases h1 with rfl | ⟨xs,rfl,_,_⟩;·exact one hs (fun x hx=>by simpa[PV.cells] using hx) ⟨_,rfl⟩
    ·exact one hs (fun x hx=>by simpa[PV.cells] using hx) ⟨_,rfl⟩
theorem WE (hI:∀ b,b < w.heap.size->I b) {m base:Nat}:∀ (Ds:List Cj) (ts:List TypeId) (vs:List Value) (ds:List (DataW H)) (p:List MemPlace),isDs P m Ds ts=true ->
  (∀ (j:Nat) t v,ts[j]?=some t->vs[j]?=some v->Value.okWide P w .any base t v)->DataW.TrodAll enc P w 0 (fun _=>true) held ts vs ds p->∃ us:List PV,OD Ds us/\Aq w I lp none us vs
 | [],[],vs,ds,p,_,_,h=>by
  obtain⟨rfl,rfl,rfl⟩:=trodAll_nil h;exact⟨[],rfl,.nil⟩
 | D :: Ds,t :: ts,vs,ds,p,hD,hv,h=>by
  obtain⟨v,vs,d,ds,p,q,rfl,rfl,rfl,h1,h2⟩:=trodAll_cons h;simp only[isDs,Z2] at hD;obtain⟨u,a,b⟩:=val_rep (lp:=lp) hI hD.1 (hv 0 t v rfl rfl) h1;obtain⟨us,a',b'⟩:=WE hI Ds ts vs ds q hD.2 (fun j t v ht hj=>hv (j+1) t v (by simpa using ht) (by simpa using hj)) h2;exact⟨u :: us,⟨u,us,rfl,a,a'⟩,.cons _ _ _ _ b b'⟩
 | [],_ :: _,_,_,_,hD,_,_=>by cases hD
 | _ :: _,[],_,_,_,hD,_,_=>by cases hD
theorem VO (hk:∀ b,b < w.heap.size->w'.heap[b]?=w.heap[b]?) (hsp:∀ b,b < w.heap.size->sp' b=true) {m:Nat}:∀ (Ds:List Cj) (ts:List TypeId) (vs:List Value) (ds:List (DataW H)) (p:List MemPlace),isDs P m Ds ts=true ->
  DataW.TrodAll enc P w 0 (fun _=>true) held ts vs ds p->DataW.TrodAll enc P w' 0 sp' held ts vs ds p
 | [],[],vs,ds,p,_,h=>by
  obtain⟨rfl,rfl,rfl⟩:=trodAll_nil h;exact rfl
 | D :: Ds,t :: ts,vs,ds,p,hD,h=>by
  obtain⟨v,vs,d,ds,p,q,rfl,rfl,rfl,⟨fuel,h1⟩,h2⟩:=trodAll_cons h;simp only[isDs,Z2] at hD;exact⟨p,q,⟨fuel,trod_keep hk hsp fuel m D t _ _ hD.1 h1⟩,VO hk hsp Ds ts vs ds q hD.2 h2,rfl⟩
 | [],_ :: _,_,_,_,hD,_=>by cases hD
 | _ :: _,[],_,_,_,hD,_=>by cases hD
end
end Go.Ab


set_option maxRecDepth 20000
namespace Go.Ab.Derive2
open Go Go.Ab Go.Proofs
theorem sp_loc:PW BY:=fun g=>WL g
theorem tab_ok:Lq cx0 By (OC Of Tryz.prog):=by
 intro f fn h;unfold By at h;split at h;·cases h;exact AH (by kernel_rfl)
 ·cases h;exact AH (by kernel_rfl)
 ·cases h;exact AH (by kernel_rfl)
 ·cases h;exact AH (by kernel_rfl)
 ·cases h;exact AH (by kernel_rfl)
 ·cases h;exact AH (by kernel_rfl)
 ·cases h;exact AH (by kernel_rfl)
 ·cases h;exact AH (by kernel_rfl)
 ·cases h;exact AH (by kernel_rfl)
 ·cases h;exact AH (by kernel_rfl)
 ·cases h;exact AH (by kernel_rfl)
 ·cases h;exact AH (by kernel_rfl)
 ·cases h;exact AH (by kernel_rfl)
 ·cases h;exact AH (by kernel_rfl)
 ·cases h;exact AH (by kernel_rfl)
 ·cases h;exact AH (by kernel_rfl)
 ·cases h;exact AH (by kernel_rfl)
 ·cases h;exact AH (by kernel_rfl)
 ·cases h;exact AH (by kernel_rfl)
 ·cases h;exact AH (by kernel_rfl)
 ·cases h;exact AH (by kernel_rfl)
 ·cases h;exact AH (by kernel_rfl)
 ·cases h;exact AH (by kernel_rfl)
 ·cases h;exact AH (by kernel_rfl)
 ·cases h;exact AH (by kernel_rfl)
 ·cases h;exact AH (by kernel_rfl)
 ·cases h;exact AH (by kernel_rfl)
 ·cases h;exact AH (by kernel_rfl)
 ·cases h;exact AH (by kernel_rfl)
 ·cases h;exact AH (by kernel_rfl)
 ·cases h;exact AH (by kernel_rfl)
 ·cases h;exact AH (by kernel_rfl)
 ·cases h;exact AH (by kernel_rfl)
 ·cases h;exact AH (by kernel_rfl)
 ·cases h;exact AH (by kernel_rfl)
 ·cases h;exact AH (by kernel_rfl)
 ·cases h;exact AH (by kernel_rfl)
 ·cases h;exact AH (by kernel_rfl)
 ·cases h;exact AH (by kernel_rfl)
 ·cases h;exact AH (by kernel_rfl)
 ·cases h;exact AH (by kernel_rfl)
 ·cases h;exact AH (by kernel_rfl)
 ·cases h;exact AH (by kernel_rfl)
 ·cases h;exact AH (by kernel_rfl)
 ·cases h;exact AH (by kernel_rfl)
 ·cases h;exact AH (by kernel_rfl)
 ·cases h;exact AH (by kernel_rfl)
 ·cases h;exact AH (by kernel_rfl)
 ·cases h;exact AH (by kernel_rfl)
 ·cases h;exact AH (by kernel_rfl)
 ·cases h;exact AH (by kernel_rfl)
 ·cases h;exact AH (by kernel_rfl)
 ·cases h;exact AH (by kernel_rfl)
 ·cases h;exact AH (by kernel_rfl)
 ·cases h;exact AH (by kernel_rfl)
 ·cases h;exact AH (by kernel_rfl)
 ·cases h;exact AH (by kernel_rfl)
 ·cases h;exact AH (by kernel_rfl)
 ·cases h;exact AH (by kernel_rfl)
 ·cases h;exact AH (by kernel_rfl)
 ·cases h;exact AH (by kernel_rfl)
 ·cases h;exact AH (by kernel_rfl)
 ·cases h;exact AH (by kernel_rfl)
 ·cases h;exact AH (by kernel_rfl)
 ·cases h;exact AH (by kernel_rfl)
 ·cases h;exact AH (by kernel_rfl)
 ·cases h;exact AH (by kernel_rfl)
 ·cases h;exact AH (by kernel_rfl)
 ·cases h;exact AH (by kernel_rfl)
 ·cases h;exact AH (by kernel_rfl)
 ·cases h;exact AH (by kernel_rfl)
 ·cases h;exact AH (by kernel_rfl)
 ·cases h;exact AH (by kernel_rfl)
 ·cases h;exact AH (by kernel_rfl)
 ·cases h;exact AH (by kernel_rfl)
 ·cases h;exact AH (by kernel_rfl)
 ·cases h;exact AH (by kernel_rfl)
 ·cases h;exact AH (by kernel_rfl)
 ·cases h;exact AH (by kernel_rfl)
 ·cases h;exact AH (by kernel_rfl)
 ·cases h;exact AH (by kernel_rfl)
 ·cases h;exact AH (by kernel_rfl)
 ·cases h;exact AH (by kernel_rfl)
 ·cases h;exact AH (by kernel_rfl)
 ·cases h;exact AH (by kernel_rfl)
 ·cases h;exact AH (by kernel_rfl)
 ·cases h;exact AH (by kernel_rfl)
 ·cases h;exact AH (by kernel_rfl)
 ·cases h;exact AH (by kernel_rfl)
 ·cases h;exact AH (by kernel_rfl)
 ·cases h;exact AH (by kernel_rfl)
 ·cases h;exact AH (by kernel_rfl)
 ·cases h;exact AH (by kernel_rfl)
 ·cases h;exact AH (by kernel_rfl)
 ·cases h;exact AH (by kernel_rfl)
 ·cases h;exact AH (by kernel_rfl)
 ·cases h;exact AH (by kernel_rfl)
 ·cases h;exact AH (by kernel_rfl)
 ·cases h;exact AH (by kernel_rfl)
 ·cases h;exact AH (by kernel_rfl)
 ·cases h;exact AH (by kernel_rfl)
 ·cases h;exact AH (by kernel_rfl)
 ·cases h;exact AH (by kernel_rfl)
 ·cases h;exact AH (by kernel_rfl)
 ·cases h;exact AH (by kernel_rfl)
 ·cases h;exact AH (by kernel_rfl)
 ·cases h;exact AH (by kernel_rfl)
 ·cases h;exact AH (by kernel_rfl)
 ·cases h;exact AH (by kernel_rfl)
 ·cases h;exact AH (by kernel_rfl)
 ·cases h;exact AH (by kernel_rfl)
 ·cases h;exact AH (by kernel_rfl)
 ·cases h;exact AH (by kernel_rfl)
 ·cases h;exact AH (by kernel_rfl)
 ·cases h;exact AH (by kernel_rfl)
 ·cases h;exact AH (by kernel_rfl)
 ·cases h;exact AH (by kernel_rfl)
 ·cases h;exact AH (by kernel_rfl)
 ·cases h;exact AH (by kernel_rfl)
 ·cases h;exact AH (by kernel_rfl)
 ·cases h;exact AH (by kernel_rfl)
 ·cases h;exact AH (by kernel_rfl)
 ·cases h;exact AH (by kernel_rfl)
 ·cases h;exact AH (by kernel_rfl)
 ·cases h;exact AH (by kernel_rfl)
 ·cases h;exact AH (by kernel_rfl)
 ·cases h;exact AH (by kernel_rfl)
 ·cases h;exact AH (by kernel_rfl)
 ·cases h;exact AH (by kernel_rfl)
 ·cases h;exact AH (by kernel_rfl)
 ·cases h;exact AH (by kernel_rfl)
 ·cases h;exact AH (by kernel_rfl)
 ·cases h;exact AH (by kernel_rfl)
 ·cases h;exact AH (by kernel_rfl)
 ·cases h;exact AH (by kernel_rfl)
 ·cases h;exact AH (by kernel_rfl)
 ·cases h;exact AH (by kernel_rfl)
 ·cases h;exact AH (by kernel_rfl)
 ·cases h;exact AH (by kernel_rfl)
 ·cases h;exact AH (by kernel_rfl)
 ·cases h;exact AH (by kernel_rfl)
 ·cases h;exact AH (by kernel_rfl)
 ·cases h;exact AH (by kernel_rfl)
 ·cases h;exact AH (by kernel_rfl)
 ·cases h;exact AH (by kernel_rfl)
 ·cases h;exact AH (by kernel_rfl)
 ·cases h;exact AH (by kernel_rfl)
 ·cases h;exact AH (by kernel_rfl)
 ·cases h;exact AH (by kernel_rfl)
 ·cases h;exact AH (by kernel_rfl)
 ·cases h;exact AH (by kernel_rfl)
 ·cases h;exact AH (by kernel_rfl)
 ·cases h;exact AH (by kernel_rfl)
 ·cases h;exact AH (by kernel_rfl)
 ·cases h;exact AH (by kernel_rfl)
 ·cases h;exact AH (by kernel_rfl)
 ·cases h;exact AH (by kernel_rfl)
 ·cases h;exact AH (by kernel_rfl)
 ·cases h;exact AH (by kernel_rfl)
 ·cases h
theorem law_done {g:FuncId} {fn:Au} (ht:By g=some fn) {args:List PV} (ha:At args=true) (hl:args.length<=fn.nt)
  (hr:AM (AL B0 fun _=>.cl) fn .cl AP 0 (args.map KV.cv) ()=some (.bool true,())) {I:Nat->Prop} {w:World} {vs:List Value}
  (hI:∀ b,I b->b < w.heap.size) (hw:cx0.Wd I w) (hrep:Aq w I (fun _=>none) none args vs) :
  Calls cx0.P g vs.toArray w fun e w'=>e=.returned (.bool true)/\Lb w w':=by
 obtain⟨n,hn⟩:=Zr (HO fun _=>.cl) ht ha hl hr;exact law_calls (fn_ok sp_ok sp_loc tab_ok n) hn hI hw hrep
def Told (fn:Au) (Ds:List Cj):Prop:=∀ us,OD Ds us->At us=true/\us.length<=fn.nt/\AM (AL B0 fun _=>.cl) fn .cl AP 0 (us.map KV.cv) ()=some (.bool true,())
end Go.Ab.Derive2


namespace Go.Ab.Derive2
open Go Go.Ab
def Lx:Cj:=.struct [.bool,.bool,.slice (.int .i64)]
theorem wf_in {n:Int} (h:(Lit.int .i64 n).wf=true):Ar.inR n:=by
 unfold Lit.wf at h;rw[Z2,decide_eq_true_eq,decide_eq_true_eq] at h;exact h
theorem W2:∀ (xs:List PV),(∀ x∈xs,Ja (.int .i64) x)->∃ l,xs=Am l/\∀ n∈l,Ar.inR n
 | [],_=>⟨[],rfl,by simp⟩
 | x :: xs,h=>by
  obtain⟨n,rfl,hn⟩:=h x aq;obtain⟨l,rfl,hl⟩:=W2 xs fun y hy=>h y (ap _ hy)
  exact⟨n :: l,rfl,fun m hm=>by
   rcases Z7.1 hm with rfl | hm;·exact wf_in hn
   ·exact hl m hm⟩
theorem arr_in {v:PV} (h:Ja Lx v):∃ a,AK v a/\a.inr:=by
 obtain⟨vs,rfl,b,r,rfl,⟨b,rfl⟩,c,r,rfl,⟨c,rfl⟩,x,r,rfl,hx,rfl⟩:=h
 have key:∃ l,Bd x l/\x.cells=[x]/\∀ n∈l,Ar.inR n:=by
  rcases hx with rfl | ⟨xs,rfl,_,hx⟩;·exact⟨[],.nil,rfl,by simp⟩
  ·obtain⟨l,rfl,hl⟩:=W2 xs hx;exact⟨l,.sl l false,rfl,hl⟩
 obtain⟨l,h1,h2,h3⟩:=key;refine⟨⟨b,c,l⟩,?_,h3⟩;rw[show cellsL [PV.bool b,PV.bool c,x]=[.bool b,.bool c,x] by simp only[cellsL,h2];rfl];exact .mk _ _ _ _ h1
theorem Xu:Told fn3 [.str,Lx,Lx]:=by
 rintro us ⟨_,_,rfl,⟨s,rfl,_⟩,_,_,rfl,ha,_,_,rfl,hb,rfl⟩;obtain⟨a,ha,ia⟩:=arr_in ha;obtain⟨b,hb,ib⟩:=arr_in hb;exact⟨by simp[At,okV,ha.ok,hb.ok],ae rfl,XE s ha hb ia ib⟩
end Go.Ab.Derive2


namespace Go.Ab.Derive2
open Go Go.Ab Go.Proofs Go.Proofs.YtmcmnpjjnebfcaaGreatDoor Go.ChangeShapes Go.WideShapes Go.RowKit
theorem p_own:ownKnob Tryz.prog.godebug=none:=by kernel_rfl
theorem p_et:Tryz.prog.globalNamed "errors.errorType"=some 2:=by kernel_rfl
theorem p_p:Tryz.prog.globalNamed "internal/strconv.uint64pow10"=some 6:=by kernel_rfl
theorem p_pt:(Tryz.prog.globals[6]?).map (·.type)=some 238:=by kernel_rfl
theorem p_rt:(Tryz.prog.cutTypes.find? (·.1 == "internal/reflectlite.rtype")).map (·.2)=some 198:=by kernel_rfl
theorem p_oneRow:((List.range 289).filter fun t=>Tryz.prog.rowNamed t [101,114,114,111,114])=[48]:=by kernel_rfl
theorem p_size:Tryz.prog.types.size=289:=by kernel_rfl
theorem p_cS:Tryz.prog.cellsOf 277=1:=by kernel_rfl
theorem p_cs:Tryz.prog.cellsOf 9=1:=by kernel_rfl
theorem p_star : "*" ++ "errors.errorString" = "*errors.errorString":=by decide
theorem p_row (u:TypeId) (h:Tryz.prog.typeName? 3 u=some "*errors.errorString"):u=258 :=
 typeName_ptr_named (nm := "errors.errorString") (by rw[p_star];kernel_rfl) (by kernel_rfl) (by decide) u (by rw[p_star];exact h)
theorem RB {W:World} {n:String} {g:Nat} {cs:Array Value} (hg:Tryz.prog.globalNamed n=some g) (h:W.var? Tryz.prog n=some cs):∃ E fr,W.heap[g]?=some (.cells cs E fr):=by
 unfold World.var? at h;rw[hg] at h;simp only[cB] at h;split at h
 ·rename_i cs' E fr hh;cases h;exact⟨E,fr,hh⟩
 ·cases h
theorem NU {W:World} {b:Nat} {o:Obj} (h:W.heap[b]?=some o):b < W.heap.size:=(cz.1 h).1
theorem p_e0:Tryz.prog.globalNamed "diaeresis/number.errOver"=some 0:=by kernel_rfl
theorem p_t0:(Tryz.prog.globals[0]?).map (·.type)=some 48:=by kernel_rfl
theorem p_e1:Tryz.prog.globalNamed "diaeresis/number.errDivide"=some 1:=by kernel_rfl
theorem p_t1:(Tryz.prog.globals[1]?).map (·.type)=some 48:=by kernel_rfl
set_option maxRecDepth 100000 in
theorem YI {W:World} (hsh:W.ShapedOpen Tryz.prog) (h:laidMetH Tryz.prog Rows.deriveFunctionsRow.laid W):cx0.Wd (fun b=>b < W.heap.size) W:=by
 have h':handlesMet Tryz.prog [("errors.errorType",Rows.laid_errors_errorType)] W:=h.2;have hd:laidMet Tryz.prog [("math/bits.deBruijn32tab",Rows.laid_math_bits_deBruijn32tab),("math/bits.deBruijn64tab",Rows.laid_math_bits_deBruijn64tab),("internal/strconv.uint64pow10",Rows.laid_internal_strconv_uint64pow10),("unicode/utf8.acceptRanges",Rows.laid_unicode_utf8_acceptRanges),("diaeresis/number.errOver",Rows.laid_diaeresis_number_errOver),("diaeresis/number.errDivide",Rows.laid_diaeresis_number_errDivide),("unicode/utf8.first",Rows.laid_unicode_utf8_first)] W:=h.1;have hs:=hd.filter fun x=>x.1 == "diaeresis/number.errOver"||x.1 == "diaeresis/number.errDivide"
 have hp:=hd.filter fun x=>x.1 == "internal/strconv.uint64pow10";have hs:laidMet Tryz.prog [("diaeresis/number.errOver",Rows.laid_diaeresis_number_errOver),("diaeresis/number.errDivide",Rows.laid_diaeresis_number_errDivide)] W:=hs;have hp:laidMet Tryz.prog [("internal/strconv.uint64pow10",Lib.tabData .u64 Lib.pow10Tab)] W:=hp;obtain⟨name,u,ty,e1,e2,e3,e4,e5⟩:=h' _ (aJ.2 rfl);have en:name=[101,114,114,111,114]:=(cf e1).symm;subst en;obtain rfl:=cf (p_rt.symm.trans e2);have hm:ty∈(List.range 289).filter fun t=>Tryz.prog.rowNamed t [101,114,114,111,114]:=bP.2 ⟨bN.2 (by rw[<-p_size];exact e3),e4⟩;rw[p_oneRow] at hm;obtain rfl:=aJ.1 hm;have hh:typeHandle Tryz.prog 48=.pointer (some ⟨9,48,none⟩):=by kernel_rfl
 rw[hh] at e5;have h0:W.cell? ⟨2,0,none⟩=some et0:=by simpa[et0] using World.var?_cell p_et e5 0
 have i0:2 < W.heap.size:=by
  rcases cA 2 W.heap.size with h | h;·exact h
  ·simp[World.cell?,cI h] at h0
 have hpw:Lib.TabIs Tryz.prog W "internal/strconv.uint64pow10" .u64 Lib.pow10Tab:=Lib.tabIs_of_head p_p p_pt Tryz.underlying238 Tryz.underlying180 (by kernel_rfl) (by kernel_rfl) hp;obtain⟨E3,f3,r3⟩:=RB p_p hpw;obtain⟨a0,a1,s0,s1,c0,c1,t0,t1,hv0,hv1,hc0,hs0,hz0,hc1,hs1,hz1,hne,hb0,hb1⟩:=laid_sentinels2 hs p_e0 p_t0 p_e1 p_t1 Tryz.underlying48 p_row Tryz.underlying258 Tryz.underlying277 rfl rfl Tryz.underlying9 p_cS p_cs;obtain⟨E1,f1,r1⟩:=RB p_e0 hv0;obtain⟨E2,f2,r2⟩:=RB p_e1 hv1;have hml:∃ m,W.cell? ⟨3,0,none⟩=some (.int .i64 m):=cell_of_shapedOpen_int hsh (g:=3) (t:=3) (zero:=#[.int .i64 0]) (of_decide_eq_true (by kernel_rfl)) (by kernel_rfl) rfl (by kernel_rfl) (by kernel_rfl) Tryz.underlying3
 exact⟨⟨fun g=>if g=0 then a0 else a1,fun g hg=>by
   rcases Z7.1 hg with rfl | hg;·exact⟨NU r1,NU hb0,⟨E1,f1,r1⟩,c0,t0,hb0⟩
   ·obtain rfl:=aJ.1 hg;exact⟨NU r2,NU hb1,⟨E2,f2,r2⟩,c1,t1,hb1⟩,fun g hg g' hg' hn=>by
   simp only[Z7,List.not_mem_nil,or_false] at hg hg';rcases hg with rfl | rfl<;>rcases hg' with rfl | rfl;·exact absurd rfl hn
   ·exact hne
   ·exact hne.symm
   ·exact absurd rfl hn⟩,fun p hp=>(by
  obtain rfl:=aJ.1 hp;exact⟨i0,h0⟩),fun p hp=>by
  obtain rfl:=aJ.1 hp;exact⟨NU r3,E3,f3,r3⟩,fun g hg=>by
  obtain rfl:=aJ.1 hg;refine⟨?_,hml⟩;obtain⟨m,hm⟩:=hml;rcases cA 3 W.heap.size with h | h;·exact h
  ·simp[World.cell?,cI h] at hm⟩
theorem Xp {H:Type} {enc:TypeId×Value->H} {C:Checked} {os:Os} {f:FuncId} {fn:Func} {s:ChangeSpec} {conds:List PathCond} {apart fresh handsOn again:Bool} {X:World->Array Value->Prop}
  (hX:∀ (w w':World) (args:Array Value),w.heap=w'.heap->X w args->X w' args)
  (own:ownKnob C.prog.godebug=none) (started:os.Started) (noInit:C.prog.inits.idxOf? f=none) (hfn:C.prog.funcs[f]?=some fn)
  (witness:∃ (w:World) (tape:Tape) (i:Input),w.os=os/\(w.forCall tape i).Shaped C.prog/\i.vars=[]/\Input.okWide C.prog (w.forCall tape i) .any w.heap.size f i /\
   ((s.pre enc C.prog fn conds apart (w.forCall tape i).memory i.args/\X (w.forCall tape i).memory i.args)/\sizedMet enc C.prog fn (OpenSpec.ofChange s) apart (w.forCall tape i).memory i.args)/\({}:Assume).holds C.prog (lone (Frame.enter C.prog f i.args .normal) [] (w.forCall tape i)))
  (contract:∀ (W:World) (base:Nat) (args:Array Value) (ds gs:List (DataW H)) (before:List MemPlace),
   (∀ (j:Nat) t v,fn.params[j]?=some t->args[j]?=some v->Value.okWide C.prog W .any base t v) ->
   DataW.Whole enc C.prog fn.params.toList s.vars apart W args.toList ds gs before->X W args->W.ShapedOpen C.prog ->
   Calls C.prog f args W fun e W'=>∃ v,e=.returned v/\s.post enc C.prog fn apart fresh handsOn again W args v W') :
  ReturnsInHanded {} C os f .any (fun w args=>(s.pre enc C.prog fn conds apart w args/\X w args)/\sizedMet enc C.prog fn (OpenSpec.ofChange s) apart w args) (s.post enc C.prog fn apart fresh handsOn again):=by
 refine returnsInHanded_of_calls own started noInit witness ?_;intro w tape i _ hsh _ hok hpre _;obtain⟨_,_,_,fn',hfn',_,_,_,_,hval⟩:=hok;have e:fn'=fn:=cf (hfn'.symm.trans hfn);subst e;obtain⟨⟨⟨ds,gs,before,hw,hc⟩,hx⟩,hz⟩:=hpre;have hw':=DataW.Whole.of_heap (w':=w.forCall tape i) (by rfl) hw;refine (contract (w.forCall tape i) w.heap.size i.args ds gs before hval hw' (hX _ _ _ (by rfl) hx) hsh).mono fun e W' ⟨v,he,hp⟩=>?_;subst he;exact ChangeSpec.post_blind hp
mutual
def VV:DataW Unit->List Value
 | .lit (.int k n)=>[.int k n]
 | .agg ds=>UY ds
 | _=>[]
def UY:List (DataW Unit)->List Value
 | []=>[]
 | d :: ds=>VV d++UY ds
end
def textOf:DataW Unit->ByteArray
 | .iface _ (.ptr (.agg [.lit (.string s)]))=>⟨s.toArray⟩
 | _=>⟨#[]⟩
def N7 (h:Array Obj) (i:Nat) (d:DataW Unit):Array Obj:=h.modify i fun
 | .cells _ t frozen=>.cells (VV d).toArray t frozen
 | o=>o
def SP (h:Array Obj) (i:Nat) (v:Value):Array Obj:=h.modify i fun
 | .cells _ t frozen=>.cells #[v] t frozen
 | o=>o
noncomputable def low:Nat:=(World.holding Tryz.prog default ⟨#[],#[],[]⟩).heap.size
noncomputable def Vm (os:Os):World :=
 let w0:=World.holding Tryz.prog os ⟨#[.cells #[.string (textOf Rows.laid_diaeresis_number_errOver)] 277,.cells #[.string (textOf Rows.laid_diaeresis_number_errDivide)] 277],#[],[]⟩
 let h0:=SP w0.heap 2 (.iface 198 (.agg #[.pointer (some ⟨9,48,none⟩)]))
 let h1:=SP (SP (h0) 0 (.iface 258 (.pointer (some ⟨low+0,0,none⟩)))) 1 (.iface 258 (.pointer (some ⟨low+1,0,none⟩)))
 {w0 with heap:=N7 (N7 (N7 (N7 (N7 (h1) 7 Rows.laid_math_bits_deBruijn32tab) 8 Rows.laid_math_bits_deBruijn64tab) 6 Rows.laid_internal_strconv_uint64pow10) 5 Rows.laid_unicode_utf8_acceptRanges) 4 Rows.laid_unicode_utf8_first}
theorem XF (os:Os) (args:Array Value):laidMetH Tryz.prog Rows.deriveFunctionsRow.laid ((Vm os).forCall (fun _ _=>0) ⟨#[],args,[]⟩).memory :=
 laidMetH_of_parts (laidMet_of_run' 8 (by kernel_rfl) (by kernel_rfl)) (by kernel_rfl)
set_option maxRecDepth 100000
theorem Cv {a b:Bool} (ha:a=true) (hb:b=true):(a&&b)=true:=by rw[ha,hb];rfl
theorem jp_1:(laidOutB Tryz.prog)=true:=by kernel_rfl
theorem jp_2:(mapsRowed Tryz.prog)=true:=by kernel_rfl
theorem jp_6:((Tryz.prog.stops==[]))=true:=by kernel_rfl
theorem jp_8:((Tryz.prog.stopKnobs==[]))=true:=by kernel_rfl
theorem jp_24:(Tryz.prog.stopsHeard)=true:=by kernel_rfl
theorem jp_25:(Tryz.prog.mayEnter)=true:=by kernel_rfl
end Go.Ab.Derive2

