/-
  Part 1 of a proof: a machine of our own for the given program, its laws, and what it says of the program. Nothing here is a claim by itself.
-/
import GoSem.Step
import Derived.Laws.Sem
import Derived.RangeFuncLeaves
import Derived.RangeFuncSeq
import Derived.RangeFuncCalls
import Derived.Laws.Append
import Derived.OwnWalkIn
import Derived.Laws.MakeOwn
import Derived.Carry
import Derived.Laws.Strings
import Derived.Laws.Strings2
import Derived.Laws.Concat
import Derived.Laws.AppendOwn
set_option linter.all false

namespace Go.Ab
abbrev Nm:=Nat×Nat
inductive PV where
 | undef
 | bool (b:Bool)
 | int (k:IntKind) (n:Int)
 | str (s:List UInt8)
 | nilS | nilP | nilF | nilI | nilM
 | sl (k:Nat) (xs:List PV) (full:Bool)
 | ptr (cs:List PV) (o:Nat)
 | agg (cs:List PV)
 | iface (t:TypeId) (x:PV)
 | fn (f:FuncId) (cap:List PV)
 | yld (d:Nat)
 | tup (xs:List PV)
 | imap (es:List PV)
 | glob (g:Nat) (t:TypeId)
 | ref (nm:Nm) (o:Nat)
 | aref (nm:Nm) (k i o:Nat)
 | arr (nm:Nm) (k o n:Nat)
 | mp (nm:Nm)
 | it (nm:Nm)
 deriving Inhabited
def PV.cells:PV→List PV
 | .agg cs=>cs
 | v=>[v]
def PV.isVal:PV→Bool
 | .undef=>false
 | .tup _=>false
 | _=>true
def PV.isCell:PV→Bool
 | .undef=>false
 | .tup _=>false
 | .agg _=>false
 | _=>true
def cellsL:List PV→List PV
 | []=>[]
 | x :: xs=>x.cells++cellsL xs
inductive Ob where
 | cells (ty:Nat) (cs:List PV)
 | arr (k ty:Nat) (xs:List PV)
 | map (es:List PV)
 | siter (s:List UInt8) (pos:Nat)
 deriving Inhabited
mutual
def PV.names:PV→List Nm
 | .agg cs=>qbd cs
 | .iface _ x=>x.names
 | .fn _ cap=>qbd cap
 | .tup xs=>qbd xs
 | .ref nm _=>[nm]
 | .aref nm _ _ _=>[nm]
 | .arr nm _ _ _=>[nm]
 | .mp nm=>[nm]
 | .it nm=>[nm]
 | .undef | .bool _ | .int _ _ | .str _ | .nilS | .nilP | .nilF | .nilI | .nilM | .sl _ _ _ | .ptr _ _ | .yld _ | .imap _ | .glob _ _=>[]
def qbd:List PV→List Nm
 | []=>[]
 | x :: xs=>x.names++qbd xs
end
mutual
def PV.hasY:PV→Bool
 | .agg cs=>qcu cs
 | .iface _ x=>x.hasY
 | .fn _ cap=>qcu cap
 | .tup xs=>qcu xs
 | .sl _ xs _=>qcu xs
 | .ptr cs _=>qcu cs
 | .imap es=>qcu es
 | .yld _=>true
 | .undef | .bool _ | .int _ _ | .str _ | .nilS | .nilP | .nilF | .nilI | .nilM | .ref _ _ | .aref _ _ _ _ | .arr _ _ _ _ | .mp _ | .it _ | .glob _ _=>false
def qcu:List PV→Bool
 | []=>false
 | x :: xs=>x.hasY||qcu xs
end
mutual
def PV.free:PV→Bool
 | .agg cs=>qqe cs
 | .iface _ x=>x.free
 | .fn _ cap=>qqe cap
 | .tup xs=>qqe xs
 | .sl _ _ _=>false
 | .ptr _ _=>false
 | .imap _=>false
 | .glob _ _=>false
 | .undef | .bool _ | .int _ _ | .str _ | .nilS | .nilP | .nilF | .nilI | .nilM | .yld _ | .ref _ _ | .aref _ _ _ _ | .arr _ _ _ _ | .mp _ | .it _=>true
def qqe:List PV→Bool
 | []=>true
 | x :: xs=>x.free&&qqe xs
end
def Ob.free:Ob→Bool
 | .cells _ cs=>qqe cs
 | .arr _ _ xs=>qqe xs
 | .map es=>qqe es
 | .siter _ _=>true
mutual
def PV.sub (f:Nm→Option (Option Ob)):PV→PV
 | .agg cs=>.agg (qdy f cs)
 | .iface t x=>.iface t (x.sub f)
 | .fn g cap=>.fn g (qdy f cap)
 | .tup xs=>.tup (qdy f xs)
 | .ref nm o=>match f nm with
  | none=>.ref nm o
  | some (some (.cells _ cs))=>if o < cs.length then .ptr cs o else .undef
  | some _=>.undef
 | .aref nm k i o=>match f nm with
  | none=>.aref nm k i o
  | some (some (.arr k' kt xs))=>if k=k' then (match xs[i]? with | some x=>if o < x.cells.length then .ptr x.cells o else .undef | none=>.undef) else .undef
  | some _=>.undef
 | .arr nm k o n=>match f nm with
  | none=>.arr nm k o n
  | some (some (.arr k' kt xs))=>if k=k'∧o+n≤xs.length then .sl k ((xs.drop o).take n) false else .undef
  | some _=>.undef
 | .mp nm=>match f nm with
  | none=>.mp nm
  | some (some (.map es))=>.imap es
  | some _=>.undef
 | .it nm=>match f nm with
  | none=>.it nm
  | some _=>.undef
 | .undef=>.undef | .bool b=>.bool b | .int k n=>.int k n | .str s=>.str s
 | .nilS=>.nilS | .nilP=>.nilP | .nilF=>.nilF | .nilI=>.nilI | .nilM=>.nilM
 | .sl k xs b=>.sl k xs b | .ptr cs o=>.ptr cs o | .yld d=>.yld d | .imap es=>.imap es | .glob g t=>.glob g t
def qdy (f:Nm→Option (Option Ob)):List PV→List PV
 | []=>[]
 | x :: xs=>x.sub f :: qdy f xs
end
def Ob.sub (f:Nm→Option (Option Ob)):Ob→Ob
 | .cells ty cs=>.cells ty (qdy f cs)
 | o=>o
mutual
def PV.ren (f:Nm→Nm):PV→PV
 | .agg cs=>.agg (qf1 f cs)
 | .iface t x=>.iface t (x.ren f)
 | .fn g cap=>.fn g (qf1 f cap)
 | .tup xs=>.tup (qf1 f xs)
 | .ref nm o=>.ref (f nm) o
 | .aref nm k i o=>.aref (f nm) k i o
 | .arr nm k o n=>.arr (f nm) k o n
 | .mp nm=>.mp (f nm)
 | .it nm=>.it (f nm)
 | .undef=>.undef | .bool b=>.bool b | .int k n=>.int k n | .str s=>.str s
 | .nilS=>.nilS | .nilP=>.nilP | .nilF=>.nilF | .nilI=>.nilI | .nilM=>.nilM
 | .sl k xs b=>.sl k xs b | .ptr cs o=>.ptr cs o | .yld d=>.yld d | .imap es=>.imap es | .glob g t=>.glob g t
def qf1 (f:Nm→Nm):List PV→List PV
 | []=>[]
 | x :: xs=>x.ren f :: qf1 f xs
end
def Ob.ren (f:Nm→Nm):Ob→Ob
 | .cells ty cs=>.cells ty (qf1 f cs)
 | o=>o
def Ob.names:Ob→List Nm
 | .cells _ cs=>qbd cs
 | _=>[]
def qk9 (σ:Nm→Option Ob):Nat→Ob→Ob
 | 0,o=>o.sub fun _=>some none
 | d+1,o=>o.sub fun nm=>some ((σ nm).map (qk9 σ d))
def qbs (σ:Nm→Option Ob):Nat→List Nm→List Nm
 | 0,l=>l
 | d+1,l=>l++qbs σ d (l.flatMap fun nm=>((σ nm).map Ob.names).getD [])
def qbe:Nat:=3
def qf7 (σ:Nm→Option Ob) (R:List Nm):Bool:=R.all fun nm=>(((σ nm).map Ob.names).getD []).all fun m=>R.contains m
def qb5 (σ:Nm→Option Ob) (nm:Nm):Option (Option Ob):=some ((σ nm).map (qk9 σ qbe))
inductive RX where
 | t (i:Nat)
 | c (v:PV)
 deriving Inhabited
inductive TC where
 | num | str | bool | iface | slice | map | func | ptr | other
 | plain (l:List Nat)
 deriving DecidableEq,Inhabited
inductive ROp where
 | mov (x:RX)
 | pick (c a b:RX)
 | box (x:RX)
 | alloc (ty:Nat) (z:List PV)
 | build (z:List PV) (ps:List (Nat×Nat×RX))
 | mkSl (k:Nat) (ps:List RX)
 | load (n:Nat) (ag:Bool) (x:RX)
 | store (n:Nat) (x v:RX)
 | nilck (x:RX)
 | bin (op:BinOp) (c:TC) (cst:Bool) (x y:RX)
 | un (op:UnOp) (x:RX)
 | conv (k:IntKind) (x:RX)
 | toBytes (x:RX)
 | ofBytes (x:RX)
 | ofRune (x:RX)
 | strId (x:RX)
 | mkI (t:TypeId) (x:RX)
 | mkF (f:FuncId) (cap:List RX)
 | mkMap
 | insert (c:TC) (x k v:RX)
 | lookup (c:TC) (z:PV) (ok:Bool) (x k:RX)
 | mkS (k:Nat) (z:PV) (len cap:RX)
 | slice (k:Nat) (x:RX) (lo hi mx:Option RX)
 | strSlice (x:RX) (lo hi:Option RX)
 | fieldAddr (off:Nat) (x:RX)
 | field (off n:Nat) (ag:Bool) (x:RX)
 | idxAddr (k:Nat) (x i:RX)
 | idxAddrA (k len:Nat) (x i:RX)
 | strIdx (x i:RX)
 | extract (j:Nat) (x:RX)
 | len (c:TC) (x:RX)
 | append (k ty:Nat) (s x:RX)
 | copy (k:Nat) (d s:RX)
 | minmax (mx:Bool) (xs:List RX)
 | call (f:RX) (args:List RX)
 | iter (x:RX)
 | next (x:RX)
 | tassert (t:TypeId) (z:PV) (ok:Bool) (x:RX)
 | bad
 deriving Inhabited
structure qbo where
 dst:Option Nat
 op:ROp
 guard:Option (Nat×Bool)
 deriving Inhabited
inductive qcm where
 | skip
 | region (ops:List qbo) (draw:Option (List (Nat×Nat))) (live:Option (List Nat))
 | seq (a b:qcm)
 | cond (c:RX) (thn els:qcm)
 | block (id:Nat) (body:qcm)
 | loop (asg:List Nat) (grow:List (Nat×Nat)) (body:qcm)
 | rangeFunc (f:RX) (ps:List Nat) (assign body:qcm)
 | exit (id:Nat)
 | scope (body:qcm)
 | ret
 | norm (grow:List (Nat×Nat))
 | dreg (ops:List qbo) (f:RX) (args:List RX) (live:Option (List Nat))
 | bad
 deriving Inhabited
def noD:qcm→Bool
 | .dreg _ _ _ _=>false
 | .seq a b=>noD a&&noD b
 | .cond _ a b=>noD a&&noD b
 | .block _ b=>noD b
 | .scope b=>noD b
 | _=>true
inductive Qkp where
 | tmp (t:Nat)
 | cell (t n:Nat) (ag:Bool)
 deriving Inhabited
structure RFn where
 nt:Nat
 code:qcm
 res:List Qkp
 io:Bool:=false
 shut:Bool:=false
 leans:Bool:=false
 gone:List Nat:=[]
 frz:Bool:=false
 deriving Inhabited
structure St where
 tmps:List PV
 objs:List (List Ob)
 keep:List PV
 deriving Inhabited
def qbf (σ:List (List Ob)) (nm:Nm):Option Ob :=
 match σ[nm.1]? with
 | some l=>l[nm.2]?
 | none=>none
def RX.ev (tm:List PV):RX→PV
 | .t i=>tm.getD i .undef
 | .c v=>v
def evO (tm:List PV):Option RX→Option PV
 | none=>none
 | some x=>some (x.ev tm)
def qb9 (σ:List (List Ob)) (nm:Nm) (o:Ob):List (List Ob) :=
 match σ[nm.1]? with
 | some l=>σ.set nm.1 (l.set nm.2 o)
 | none=>σ
def qd5:Ob:=.arr 0 0 []
structure Out where
 v:PV
 new:List Ob:=[]
 upd:Option (Nm×Ob):=none
 kill:Option Nm:=none
 frz:List Nm:=[]
 gone:List Nm:=[]
 ups:List (Nm×Ob):=[]
 io:Bool:=false
 slot:Option Nat:=none
def chk {α:Type} (b:Bool) (x:Option α):Option α:=if b then x else none
theorem qs8 {α:Type} {b:Bool} {x:Option α} {y:α} (h:chk b x=some y):b=true∧x=some y:=by
 cases b with
 | true=>exact⟨rfl,h⟩
 | false=>cases h
theorem qry {α:Type} (x:Option α):chk true x=x:=rfl
def sel (cs:List PV) (o n:Nat) (ag:Bool):Option PV :=
 if ag then chk (decide (o+n≤cs.length)) (some (.agg ((cs.drop o).take n))) else cs[o]?
def splice (cs:List PV) (o:Nat) (vs:List PV):List PV:=cs.take o++vs++cs.drop (o+vs.length)
def qjk (tm:List PV):List PV→List (Nat×Nat×RX)→Option (List PV)
 | z,[]=>some z
 | z,(off,n,x) :: ps =>
  chk ((x.ev tm).isVal&&decide ((x.ev tm).cells.length=n)&&decide (off+n≤z.length)) (qjk tm (splice z off (x.ev tm).cells) ps)
def qgx:Nat:=2147483648
def qcs (s:List UInt8):List PV:=s.map fun b=>.int .u8 b.toNat
def Qg9:PV→Option UInt8
 | .int .u8 n=>if 0≤n∧n < 256 then some (UInt8.ofNat n.toNat) else none
 | _=>none
def qhp:List PV→Option (List UInt8)
 | []=>some []
 | x :: xs=>match Qg9 x,qhp xs with
  | some b,some bs=>some (b :: bs)
  | _,_=>none
def qk8 (σ:Nm→Option Ob) (k:Nat):PV→Option (List PV)
 | .sl k' xs _=>chk (k==k') (some xs)
 | .arr nm k' o n=>match σ nm with
  | some (.arr k'' kt xs)=>chk (k==k'&&k'==k''&&decide (o+n≤xs.length)) (some ((xs.drop o).take n))
  | _=>none
 | .nilS=>some []
 | .str s=>chk (k==1) (some (qcs s))
 | _=>none
def isStr:PV→Bool
 | .str _=>true
 | _=>false
def keyEq:PV→PV→Option Bool
 | .int k a,.int k' b=>chk (k==k') (some (a==b))
 | .str a,.str b=>some (a==b)
 | .bool a,.bool b=>some (a==b)
 | _,_=>none
def qt7 (k:PV):List PV→Option (Option PV)
 | a :: v :: es=>match keyEq k a with
  | some true=>some (some v)
  | some false=>qt7 k es
  | none=>none
 | []=>some none
 | _=>none
def setE (k v:PV):List PV→Option (List PV)
 | a :: u :: es=>match keyEq k a with
  | some true=>some (k :: v :: es)
  | some false=>(setE k v es).map fun l=>a :: u :: l
  | none=>none
 | []=>some [k,v]
 | _=>none
def qsp:TC→PV→Bool
 | .num,.int _ _ | .str,.str _ | .bool,.bool _=>true
 | _,_=>false
def qt3:BinOp→Int→Int→Option Bool
 | .eql,x,y=>some (x==y)
 | .neq,x,y=>some (x != y)
 | .lss,x,y=>some (decide (x < y))
 | .leq,x,y=>some (decide (x≤y))
 | .gtr,x,y=>some (decide (x>y))
 | .geq,x,y=>some (decide (x≥y))
 | _,_,_=>none
def qpx:List UInt8→List UInt8→Bool
 | _,[]=>false
 | [],_ :: _=>true
 | a :: x,b :: y=>a < b||(a==b&&qpx x y)
def maxInt:Nat:=9223372036854775807
def qk0 (op:BinOp) (k:IntKind) (x y:Int):Option PV :=
 match op with
 | .add=>some (.int k (k.wrap (x+y)))
 | .sub=>some (.int k (k.wrap (x - y)))
 | .mul=>some (.int k (k.wrap (x*y)))
 | .quo=>chk (y != 0) (some (.int k (k.wrap (x.tdiv y))))
 | .rem=>chk (y != 0) (some (.int k (x.tmod y)))
 | .and=>some (.int k (k.wrap (BitVec.ofInt k.bits x &&& BitVec.ofInt k.bits y).toNat))
 | .or=>some (.int k (k.wrap (BitVec.ofInt k.bits x ||| BitVec.ofInt k.bits y).toNat))
 | .xor=>some (.int k (k.wrap (BitVec.ofInt k.bits x ^^^ BitVec.ofInt k.bits y).toNat))
 | .andNot=>some (.int k (k.wrap (BitVec.ofInt k.bits x &&& ~~~ BitVec.ofInt k.bits y).toNat))
 | op=>(qt3 op x y).map .bool
def qx2 (op:BinOp) (x y:List UInt8):Option PV :=
 match op with
 | .add=>chk (decide (x.length+y.length≤maxInt)) (some (.str (x++y)))
 | .eql=>some (.bool (x==y))
 | .neq=>some (.bool (!(x==y)))
 | .lss=>some (.bool (qpx x y))
 | .leq=>some (.bool (qpx x y||x==y))
 | .gtr=>some (.bool (!(qpx x y||x==y)))
 | .geq=>some (.bool (!(qpx x y)))
 | _=>none
def qmn:List Nat→List PV→List PV→Option Bool
 | [],[],[]=>some true
 | 0 :: l,.int k a :: xs,.int k' b :: ys=>chk (k==k') (match a==b with | true=>qmn l xs ys | false=>some false)
 | 1 :: l,.str a :: xs,.str b :: ys=>match a==b with | true=>qmn l xs ys | false=>some false
 | 2 :: l,.bool a :: xs,.bool b :: ys=>match a==b with | true=>qmn l xs ys | false=>some false
 | _,_,_=>none
def Qgw:TC→Bool→PV→PV→Option Bool
 | .iface,cst,.nilI,.nilI=>chk cst (some true)
 | .iface,_,.nilI,.iface _ _ | .iface,_,.iface _ _,.nilI | .iface,_,.nilI,.glob _ _ | .iface,_,.glob _ _,.nilI=>some false
 | .func,_,.nilF,.nilF=>some true
 | .func,_,.nilF,.fn _ _ | .func,_,.fn _ _,.nilF=>some false
 | .slice,_,.nilS,.nilS=>some true
 | .slice,_,.nilS,.sl _ (_ :: _) _ | .slice,_,.sl _ (_ :: _) _,.nilS=>some false
 | .ptr,_,.nilP,.nilP=>some true
 | .ptr,_,.nilP,.ref _ _ | .ptr,_,.nilP,.ptr _ _ | .ptr,_,.ref _ _,.nilP | .ptr,_,.ptr _ _,.nilP=>some false
 | .bool,_,.bool a,.bool b=>some (a==b)
 | .plain l,_,.agg xs,.agg ys=>qmn l xs ys
 | _,_,_,_=>none
def qmu (op:BinOp) (c:TC) (cst:Bool) (x y:PV):Option PV :=
 match x,y with
 | .int k a,.int k' b =>
  match op with
  | .shl=>chk (decide (0≤b)) (some (.int k (k.wrap (a*2 ^ (min b.toNat k.bits)))))
  | .shr=>chk (decide (0≤b)) (some (.int k (a.fdiv (2 ^ (min b.toNat k.bits)))))
  | op=>chk (k==k') (qk0 op k a b)
 | .str a,.str b=>qx2 op a b
 | x,y =>
  match op with
  | .eql=>(Qgw c cst x y).map .bool
  | .neq=>(Qgw c cst x y).map fun b=>.bool (!b)
  | _=>none
def qqx:PV→Option Nat
 | .int _ n=>if 0≤n then some n.toNat else none
 | _=>none
def ql2 (x:Option PV) (d top:Nat):Option Nat :=
 match x with
 | none=>some d
 | some v=>match qqx v with
  | some n=>chk (decide (n≤top)) (some n)
  | none=>none
def ql8 (k:Nat) (x:PV) (lo hi mx:Option PV):Option PV :=
 match x with
 | .sl k' xs full =>
  match ql2 mx xs.length xs.length with
  | none=>none
  | some m=>match ql2 hi xs.length m with
   | none=>none
   | some h=>match ql2 lo 0 h with
    | none=>none
    | some l=>chk (k==k'&&(mx.isNone||hi.isSome)) (some (.sl k ((xs.take h).drop l) (if mx.isSome then m==h else full&&h==xs.length)))
 | .arr nm k' o n =>
  match ql2 mx n n with
  | none=>none
  | some m=>match ql2 hi n m with
   | none=>none
   | some h=>match ql2 lo 0 h with
    | none=>none
    | some l=>chk (k==k'&&(mx.isNone||hi.isSome)) (some (if h=l∧0 < l then .sl k [] false else .arr nm k (o+l) (h - l)))
 | .nilS =>
  match ql2 mx 0 0 with
  | none=>none
  | some m=>match ql2 hi 0 m with
   | none=>none
   | some h=>match ql2 lo 0 h with
    | none=>none
    | some _=>chk (mx.isNone||hi.isSome) (some .nilS)
 | _=>none
def Qci (σ:Nm→Option Ob):TC→PV→Option Nat
 | .str,.str s=>some s.length
 | .slice,.sl _ xs _=>some xs.length
 | .slice,.arr _ _ _ n=>some n
 | .slice,.nilS=>some 0
 | .map,.nilM=>some 0
 | .map,.imap es=>some (es.length / 2)
 | .map,.mp nm=>match σ nm with
  | some (.map es)=>some (es.length / 2)
  | _=>none
 | _,_=>none
def qz0 (mx:Bool) (k:IntKind):Int→List PV→Option Int
 | a,[]=>some a
 | a,.int k' b :: rest=>chk (k==k') (qz0 mx k (if mx then (if b>a then b else a) else (if b < a then b else a)) rest)
 | _,_=>none
def exec (dst:Nat) (σ:Nm→Option Ob) (tm:List PV) (op:ROp):Option Out :=
 match op with
 | .mov x=>some {v:=x.ev tm}
 | .pick c a b=>match c.ev tm with
  | .bool true=>some {v:=a.ev tm}
  | .bool false=>some {v:=b.ev tm}
  | _=>none
 | .box x=>chk (x.ev tm).isVal (some {v:=.ref (dst,0) 0,new:=[.cells 0 (x.ev tm).cells]})
 | .alloc ty z=>some {v:=.ref (dst,0) 0,new:=[.cells ty z]}
 | .build z ps=>match qjk tm z ps with
  | some cs=>some {v:=.agg cs}
  | none=>none
 | .mkSl k ps =>
  let xs:=ps.map (RX.ev tm)
  let S:=qbd xs
  if S.isEmpty then chk (xs.all fun x=>x.isVal&&x.cells.length==k) (some {v:=.arr (dst,0) k 0 xs.length,new:=[.arr k 0 xs]})
  else
   let ys:=qdy (qb5 σ) xs
   chk ((ys.all fun x=>x.isVal&&x.cells.length==k)&&qf7 σ (qbs σ qbe S)) (some {v:=.arr (dst,0) k 0 ys.length,new:=[.arr k 0 ys],frz:=qbs σ qbe S})
 | .load n ag x=>match x.ev tm with
  | .ref nm o=>match σ nm with
   | some (.cells _ cs)=>(sel cs o n ag).map fun v=>{v}
   | _=>none
  | .ptr cs o=>(sel cs o n ag).map fun v=>{v}
  | .aref nm k i o=>match σ nm with
   | some (.arr k' kt xs)=>match xs[i]? with
    | some e=>chk (k==k') ((sel e.cells o n ag).map fun v=>{v})
    | none=>none
   | _=>none
  | _=>none
 | .store n x v =>
  let vs:=(v.ev tm).cells
  match x.ev tm with
  | .ref nm o=>match σ nm with
   | some (.cells ty cs)=>chk ((v.ev tm).isVal&&decide (vs.length=n)&&decide (o+n≤cs.length)) (some {v:=.undef,upd:=some (nm,.cells ty (splice cs o vs))})
   | _=>none
  | .aref nm k i o=>match σ nm with
   | some (.arr k' kt xs)=>match xs[i]? with
    | some (.agg es)=>chk (k==k'&&(v.ev tm).isVal&&decide (vs.length=n)&&decide (o+n≤es.length)&&(qbd vs).isEmpty)
      (some {v:=.undef,upd:=some (nm,.arr k kt (xs.set i (.agg (splice es o vs))))})
    | some _=>chk (k==k'&&k==1&&o==0&&n==1&&(v.ev tm).isCell&&(v.ev tm).names.isEmpty)
      (some {v:=.undef,upd:=some (nm,.arr k kt (xs.set i (v.ev tm)))})
    | none=>none
   | _=>none
  | _=>none
 | .nilck x=>match x.ev tm with
  | .ref nm o=>some {v:=.ref nm o}
  | .ptr cs o=>some {v:=.ptr cs o}
  | .aref nm k i o=>some {v:=.aref nm k i o}
  | .fn f cap=>some {v:=.fn f cap}
  | .yld d=>some {v:=.yld d}
  | _=>none
 | .bin op c cst x y=>(qmu op c cst (x.ev tm) (y.ev tm)).map fun v=>{v}
 | .un op x=>match op,x.ev tm with
  | .not,.bool b=>some {v:=.bool (!b)}
  | .neg,.int k n=>some {v:=.int k (k.wrap (0 - n))}
  | _,_=>none
 | .conv k x=>match x.ev tm with
  | .int _ n=>some {v:=.int k (k.wrap n)}
  | _=>none
 | .toBytes x=>match x.ev tm with
  | .str s=>chk (decide (s.length≤maxInt)) (some {v:=.sl 1 (qcs s) false})
  | _=>none
 | .ofBytes x=>match chk (!isStr (x.ev tm)) (qk8 σ 1 (x.ev tm)) with
  | some xs=>match qhp xs with
   | some s=>some {v:=.str s}
   | none=>none
  | none=>none
 | .ofRune x=>match x.ev tm with
  | .int _ n=>some {v:=.str (Utf8.encode n).data.toList}
  | _=>none
 | .strId x=>match x.ev tm with
  | .str s=>some {v:=.str s}
  | _=>none
 | .mkI t x=>some {v:=.iface t (x.ev tm)}
 | .mkF f cap=>some {v:=.fn f (cap.map (RX.ev tm))}
 | .mkMap=>some {v:=.mp (dst,0),new:=[.map []]}
 | .insert c x k v=>match x.ev tm with
  | .mp nm=>match σ nm with
   | some (.map es) =>
    let S:=(v.ev tm).names
    let R:=if S.isEmpty then [] else qbs σ qbe S
    let u:=if S.isEmpty then v.ev tm else (v.ev tm).sub (qb5 σ)
    match setE (k.ev tm) u es with
    | some es'=>chk (qsp c (k.ev tm)&&u.isVal&&(S.isEmpty||(qf7 σ R&&!R.contains nm))) (some {v:=.undef,upd:=some (nm,.map es'),frz:=R})
    | none=>none
   | _=>none
  | _=>none
 | .lookup c z ok x k =>
  let es:Option (List PV):=match x.ev tm with
   | .mp nm=>match σ nm with
    | some (.map es)=>some es
    | _=>none
   | .imap es=>some es
   | .nilM=>some []
   | _=>none
  match es with
  | none=>none
  | some es=>match qt7 (k.ev tm) es with
   | none=>none
   | some r=>chk (qsp c (k.ev tm)) (some {v:=if ok then .tup [r.getD z,.bool r.isSome] else r.getD z})
 | .mkS k z len cap=>match qqx (len.ev tm),qqx (cap.ev tm) with
  | some l,some c=>chk (decide (l≤c)&&decide (c≤qgx)&&(z.cells.length==k)) (some {v:=.arr (dst,0) k 0 l,new:=[.arr k 0 (List.replicate l z)]})
  | _,_=>none
 | .slice k x lo hi mx=>(ql8 k (x.ev tm) (evO tm lo) (evO tm hi) (evO tm mx)).map fun v=>{v}
 | .strSlice x lo hi=>match x.ev tm with
  | .str s=>match ql2 (evO tm hi) s.length s.length with
   | none=>none
   | some h=>match ql2 (evO tm lo) 0 h with
    | none=>none
    | some l=>some {v:=.str ((s.take h).drop l)}
  | _=>none
 | .fieldAddr off x=>match x.ev tm with
  | .ref nm o=>some {v:=.ref nm (o+off)}
  | .ptr cs o=>chk (decide (o+off < cs.length)) (some {v:=.ptr cs (o+off)})
  | .aref nm k i o=>some {v:=.aref nm k i (o+off)}
  | _=>none
 | .field off n ag x=>match x.ev tm with
  | .agg cs=>(sel cs off n ag).map fun v=>{v}
  | _=>none
 | .idxAddr k x i=>match qqx (i.ev tm),x.ev tm with
  | some j,.sl k' xs _=>match xs[j]? with
   | some e=>chk (k==k'&&decide (0 < k)) (some {v:=.ptr e.cells 0})
   | none=>none
  | some j,.arr nm k' o n=>chk (k==k'&&decide (j < n)) (some {v:=.aref nm k (o+j) 0})
  | _,_=>none
 | .idxAddrA k len x i=>match qqx (i.ev tm),x.ev tm with
  | some j,.ptr cs o=>chk (decide (j < len)&&decide (o+j*k < cs.length)) (some {v:=.ptr cs (o+j*k)})
  | some j,.ref nm o=>chk (decide (j < len)) (some {v:=.ref nm (o+j*k)})
  | _,_=>none
 | .strIdx x i=>match qqx (i.ev tm),x.ev tm with
  | some j,.str s=>match s[j]? with
   | some b=>some {v:=.int .u8 b.toNat}
   | none=>none
  | _,_=>none
 | .extract j x=>match x.ev tm with
  | .tup xs=>match xs[j]? with
   | some v=>some {v}
   | none=>none
  | _=>none
 | .len c x=>(Qci σ c (x.ev tm)).map fun (n:Nat)=>{v:=.int .i64 (n:Int)}
 | .append k ty s x=>match qk8 σ k (x.ev tm) with
  | none=>none
  | some ys=>match s.ev tm with
   | .nilS=>chk (decide (ys.length≤qgx)) (some {v:=.arr (dst,0) k 0 ys.length,new:=[.arr k ty ys]})
   | .arr nm k' o n=>match σ nm with
    | some (.arr k'' kt xs)=>chk (k==k'&&k'==k''&&o==0&&decide (n≤xs.length)&&decide (n+ys.length≤qgx))
      (some {v:=.arr nm k 0 (n+ys.length),upd:=some (nm,.arr k (if kt=ty then ty else 0) (xs.take n++ys)),kill:=some nm})
    | _=>none
   | .sl k' xs true=>match ys with
    | []=>chk (k==k') (some {v:=.sl k' xs true})
    | y :: ys=>chk (k==k'&&decide (xs.length+(ys.length+1)≤qgx)) (some {v:=.arr (dst,0) k 0 (xs.length+(ys.length+1)),new:=[.arr k ty (xs++y :: ys)]})
   | _=>none
 | .copy k d s=>match qk8 σ k (s.ev tm) with
  | none=>none
  | some ys=>match d.ev tm with
   | .nilS=>some {v:=.int .i64 0}
   | .arr nm k' o n=>match σ nm with
    | some (.arr k'' kt xs)=>chk (k==k'&&k'==k''&&decide (o+n≤xs.length))
      (some {v:=.int .i64 (min ys.length n),upd:=some (nm,.arr k kt (xs.take o++ys.take n++xs.drop (o+(ys.take n).length)))})
    | _=>none
   | _=>none
 | .minmax mx xs=>match (xs.map (RX.ev tm):List PV) with
  | .int k a :: rest=>(qz0 mx k a rest).map fun n=>{v:=.int k n}
  | _=>none
 | .iter x=>match x.ev tm with
  | .str s=>some {v:=.it (dst,0),new:=[.siter s 0]}
  | _=>none
 | .next x=>match x.ev tm with
  | .it nm=>match σ nm with
   | some (.siter s pos) =>
    if pos < s.length then
     some {v:=.tup [.bool true,.int .i64 pos,.int .i32 (Utf8.decode ⟨s.toArray⟩ pos).1],upd:=some (nm,.siter s (pos+(Utf8.decode ⟨s.toArray⟩ pos).2))}
    else some {v:=.tup [.bool false]}
   | _=>none
  | _=>none
 | .tassert t z ok x=>match x.ev tm with
  | .iface u y=>if u=t then some {v:=if ok then .tup [y,.bool true] else y}
   else chk ok (some {v:=.tup [z,.bool false]})
  | .nilI=>chk ok (some {v:=.tup [z,.bool false]})
  | _=>none
 | .call _ _=>none
 | .bad=>none
def qhf (f:Nm→Option (Option Ob)) (st:St):St:={tmps:=qdy f st.tmps,objs:=st.objs.map (·.map (Ob.sub f)),keep:=qdy f st.keep}
def qbt (σ:Nm→Option Ob) (R:List Nm) (st:St):St :=
 let st:=qhf (fun m=>if R.contains m then qb5 σ m else none) st
 {st with objs:=R.foldl (fun objs nm=>qb9 objs nm qd5) st.objs}
def qdr:List (Nm×Ob)→List (List Ob)→List (List Ob)
 | [],objs=>objs
 |(nm,o) :: l,objs=>qdr l (qb9 objs nm o)
def apply (st:St) (dst:Option Nat) (o:Out):St :=
 let σ:=qbf st.objs
 let st:=match o.upd with
  | some (nm,ob)=>{st with objs:=qb9 st.objs nm ob}
  | none=>st
 let st:=match o.kill with
  | some nm=>qhf (fun m=>if m=nm then some none else none) st
  | none=>st
 let st:=if o.frz.isEmpty then st else qbt σ o.frz st
 let st:=if o.gone.isEmpty then st else qhf (fun m=>if o.gone.contains m then some none else none) st
 let st:=if o.ups.isEmpty then st else {st with objs:=qdr o.ups st.objs}
 let st:=match o.slot with
  | some r=>{st with objs:=st.objs.set r (st.objs.getD r []++o.new)}
  | none=>st
 match dst with
 | some d=>{st with tmps:=st.tmps.set d o.v,objs:=if o.slot.isSome||o.new.isEmpty then st.objs else st.objs.set d o.new}
 | none=>st
abbrev qbg (E:Type):=Nat→List PV→E→Option (Bool×E)
abbrev qva:=(E:Type)→qbg E→Nat→FuncId→List PV→E→Option (PV×List Ob×E)
def qgo:Nat:=1000000
def qd2 (f:FuncId):FuncId:=match Nat.blt f qgo with
 | true=>f
 | false=>f%qgo
def fnK (f:FuncId):Nat:=match Nat.blt f qgo with
 | true=>0
 | false=>f / qgo
def fnNum (f:FuncId):Nat→FuncId
 | 0=>f
 | n+1=>f+qgo*(n+1)
def qb3 (f:FuncId) (vs cap:List PV):List PV:=match Nat.blt f qgo with
 | true=>vs++cap
 | false=>cap.take (fnK f)++(vs++cap.drop (fnK f))
def qba:qbg Unit:=fun _ _ _=>none
structure qdb where
 sp:FuncId→(Nm→Option Ob)→List PV→Option Out
 call:qva
 isIo:FuncId→Bool
 leans:FuncId→Bool
 io:FuncId→Nat→(Nm→Option Ob)→List PV→Option Out
 flat:FuncId→Bool
 rio:(E:Type)→qbg E→Nat→FuncId→List Ob→List PV→E→Option (St×E)
def qhw (d:Nat) (nm:Nm):Nm:=(d,nm.2)
def qb1 (M:qdb) {E:Type} (h:qbg E) (dep dst:Nat) (σ:Nm→Option Ob) (tm:List PV) (f:RX) (args:List RX) (e:E):Option (Out×E) :=
 let vs:=args.map (RX.ev tm)
 match f.ev tm with
 | .yld d =>
  let S:=qbd vs
  if S.isEmpty then
   chk (!qcu vs) (match h d vs e with
    | some (b,e)=>some ({v:=.bool b},e)
    | none=>none)
  else
   let vs':=qdy (qb5 σ) vs
   chk (!qcu vs'&&qf7 σ (qbs σ qbe S)) (match h d vs' e with
    | some (b,e)=>some ({v:=.bool b,frz:=qbs σ qbe S},e)
    | none=>none)
 | .fn f cap =>
  let g:=qd2 f
  let vs:=qb3 f vs cap
  match M.sp g σ vs with
  | some out=>some ({out with v:=out.v.ren (qhw dst)},e)
  | none =>
  if M.isIo g then
   match M.io g dst σ vs with
   | some out=>some (out,e)
   | none=>none
  else
  let S:=qbd vs
  if S.isEmpty then
   if qcu vs then
    match M.call E h dep g vs e with
    | some (r,obs,e)=>some ({v:=r.ren (qhw dst),new:=obs},e)
    | none=>none
   else match M.call Unit qba 0 g vs () with
    | some (r,obs,_)=>some ({v:=r.ren (qhw dst),new:=obs},e)
    | none=>none
  else
   let vs':=qdy (qb5 σ) vs
   chk (!qcu vs'&&qf7 σ (qbs σ qbe S)) (match M.call Unit qba 0 g vs' () with
    | some (r,obs,_)=>some ({v:=r.ren (qhw dst),new:=obs,frz:=if r.free&&obs.all Ob.free&&!M.leans g then [] else qbs σ qbe S},e)
    | none=>none)
 | _=>none
def qlj:ROp→Bool
 | .box _ | .alloc _ _ | .mkSl _ _ | .mkMap | .mkS _ _ _ _ | .append _ _ _ _ | .call _ _ | .iter _=>true
 | _=>false
def qcz (o:qbo) (st:St):Bool :=
 if qlj o.op then
  match o.dst with
  | some d=>match st.objs[d]? with
   | some []=>true
   | _=>false
  | none=>match o.op with
   | .call _ _=>true
   | _=>false
 else true
def qmj (dst:Option Nat) (out:Out):Bool:=!out.io||dst.isSome||out.new.isEmpty||out.slot.isSome
theorem qny {E:Type} {x:Option (Out×E)} {dst:Option Nat} {out:Out} {e1:E} (h:(match x with
   | some (out,e)=>chk (qmj dst out) (some (out,e))
   | none=>none)=some (out,e1)):x=some (out,e1)∧qmj dst out=true:=by
 cases x with
 | none=>cases h
 | some p =>
  simp only[chk] at h
  split at h
  ·rename_i h1
   cases h
   exact⟨rfl,h1⟩
  ·cases h
def qfj (M:qdb) {E:Type} (h:qbg E) (dep:Nat) (o:qbo) (st:St) (e:E):Option (Out×E) :=
 chk (qcz o st) (match o.op with
  | .call f args=>match qb1 M h dep (o.dst.getD 0) (qbf st.objs) st.tmps f args e with
   | some (out,e)=>chk (qmj o.dst out) (some (out,e))
   | none=>none
  | op=>match exec (o.dst.getD 0) (qbf st.objs) st.tmps op with
   | some out=>some (out,e)
   | none=>none)
def qpq (M:qdb) {E:Type} (h:qbg E) (dep:Nat) (o:qbo) (st:St) (e:E):Option (St×E) :=
 match qfj M h dep o st e with
 | some (out,e)=>some (apply st o.dst out,e)
 | none=>none
def qfo (ops:List qbo) (o:qbo) (tm:List PV):Option Bool :=
 match o.guard with
 | none=>some true
 | some (j,want) =>
  match ops[j]? with
  | some p=>match p.dst with
   | some d=>match tm.getD d .undef with
    | .bool b=>some (b==want)
    | .tup []=>some false
    | _=>none
   | none=>none
  | none=>none
def stepG (M:qdb) {E:Type} (h:qbg E) (dep:Nat) (ops:List qbo) (o:qbo) (st:St) (e:E):Option (St×E) :=
 match qfo ops o st.tmps with
 | some true=>qpq M h dep o st e
 | some false=>some (apply st o.dst {v:=.tup []},e)
 | none=>none
def qf4 (M:qdb) {E:Type} (h:qbg E) (dep:Nat) (ops:List qbo):List qbo→St→E→Option (St×E)
 | [],st,e=>some (st,e)
 | o :: rest,st,e=>match stepG M h dep ops o st e with
  | some (st,e)=>qf4 M h dep ops rest st e
  | none=>none
def qmp (ops:List qbo):List Nat:=ops.filterMap fun o=>if qlj o.op then o.dst else none
def qgf (ds:List Nat) (st:St):St :=
 if ds.all fun d=>(st.objs.getD d []).isEmpty then st
 else
  let st:=qhf (fun m=>if ds.contains m.1 then some none else none) st
  {st with objs:=st.objs.zipIdx.map fun (l,i)=>if ds.contains i then [] else l}
def qcw:PV→Bool
 | .undef=>true
 | _=>false
def undefs (st:St):List Nat:=(st.tmps.zipIdx.filter fun (v,_)=>qcw v).map (·.2)
def qqi (st:St) (t:Nat):Bool :=
 match st.objs[t]? with
 | some []=>true
 | _=>false
def qjc (t:Nat) (st:St):St :=
 match st.tmps.getD t .undef with
 | .arr nm _ _ _ =>
  if nm≠(t,0)∧qqi st t=true then
   match qbf st.objs nm with
   | some ob =>
    let f:Nm→Nm:=fun m=>if m=nm then (t,0) else m
    let objs:=st.objs.map (·.map (Ob.ren f))
    {tmps:=qf1 f st.tmps,objs:=(qb9 objs nm qd5).set t [ob.ren f],keep:=qf1 f st.keep}
   | none=>st
  else st
 | _=>st
def qjj:Nat:=1000000
def qph (nm:Nm) (ty:Nat) (cs:List PV) (i k:Nat) (st:St):St :=
 let l:=st.objs.getD nm.1 []
 match cs[i]? with
 | some .nilS=>{st with objs:=st.objs.set nm.1 (l.set nm.2 (.cells ty (cs.set i (.arr (nm.1,l.length) k 0 0)))++[.arr k 0 []])}
 | some (.arr m _ _ _) =>
  if m.1≠nm.1 then
   match qbf st.objs m with
   | some ob =>
    let f:Nm→Nm:=fun x=>if x=m then (nm.1,l.length) else x
    let objs:=qb9 (st.objs.map (·.map (Ob.ren f))) m qd5
    {tmps:=qf1 f st.tmps,objs:=objs.set nm.1 (objs.getD nm.1 []++[ob.ren f]),keep:=qf1 f st.keep}
   | none=>st
  else st
 | _=>st
def growC (x off k:Nat) (st:St):St :=
 match st.tmps.getD x .undef with
 | .ref nm o=>match qbf st.objs nm with
  | some (.cells ty cs)=>qph nm ty cs (o+off) k st
  | _=>st
 | _=>st
def qst (t k:Nat) (st:St):St :=
 if qjj≤t then growC (t%qjj) (t / qjj - 1) k st
 else match st.tmps.getD t .undef with
 | .nilS=>if qqi st t then {st with tmps:=st.tmps.set t (.arr (t,0) k 0 0),objs:=st.objs.set t [.arr k 0 []]} else st
 | _=>st
def Qcc (asg:List Nat) (grow:List (Nat×Nat)) (st:St):St :=
 grow.foldl (fun st (t,k)=>qst t k st) (asg.foldl (fun st t=>qjc t st) st)
def qhe (ds:List Nat) (st:St):St:={st with tmps:=st.tmps.zipIdx.map fun (v,i)=>if ds.contains i then .undef else v}
def qh9 (st:St):List Nat :=
 let R:=qbd st.tmps++qbd st.keep++st.objs.flatMap fun l=>l.flatMap Ob.names
 (List.range st.objs.length).filter fun d=>!(st.objs.getD d []).isEmpty&&R.all fun nm=>nm.1 != d
def drop (ds:List Nat) (st:St):St:=qgf (qh9 (qhe ds st)) (qhe ds st)
def norm (asg:List Nat) (grow:List (Nat×Nat)) (st:St):St:=drop (undefs (Qcc asg grow st)) (Qcc asg grow st)
def qf2 (ks:List Nat) (st:St):St:={st with tmps:=st.tmps.zipIdx.map fun (v,i)=>if ks.contains i then v else .undef}
def Qhp (live:Option (List Nat)) (st:St):St :=
 match live with
 | none=>st
 | some ks=>qgf (qh9 (qf2 ks st)) (qf2 ks st)
def qxw (R:List Nm) (d:Nat):Nat→Nat
 | 0=>0
 | m+1=>if R.contains (d,m) then m+1 else qxw R d m
def trim (st:St):St :=
 let R:=qbd st.tmps++qbd st.keep++st.objs.flatMap fun l=>l.flatMap Ob.names
 {st with objs:=st.objs.zipIdx.map fun (l,d)=>l.take (qxw R d l.length)}
inductive Cls where
 | quiet | turns | calls | other | ios
 deriving DecidableEq
structure qlb where
 i:Nat
 cls:Cls
 dst:Option Nat
 reads:List Nat
 rn:List Nm
 on:List Nm:=[]
 tch:List Nm:=[]
 frz:Bool:=false
 vn:List Nm:=[]
 rv:List Nm:=[]
 nw:Bool:=false
 ld:Option (Nm×Nat×Nat×Bool×PV):=none
 bef:List (Nm×Option Ob):=[]
 aft:List (Nm×Ob):=[]
def ROp.xs:ROp→List RX
 | .mov x | .box x | .load _ _ x | .nilck x | .un _ x | .conv _ x | .toBytes x | .ofBytes x | .ofRune x | .strId x | .mkI _ x | .fieldAddr _ x | .field _ _ _ x | .extract _ x | .len _ x | .iter x | .next x | .tassert _ _ _ x=>[x]
 | .pick c a b=>[c,a,b]
 | .alloc _ _ | .mkMap | .bad=>[]
 | .build _ ps=>ps.map (·.2.2)
 | .mkSl _ ps=>ps
 | .store _ x v=>[x,v]
 | .bin _ _ _ x y=>[x,y]
 | .mkF _ cap=>cap
 | .insert _ x k v=>[x,k,v]
 | .lookup _ _ _ x k=>[x,k]
 | .mkS _ _ l c=>[l,c]
 | .slice _ x lo hi mx=>x :: (lo.toList++hi.toList++mx.toList)
 | .strSlice x lo hi=>x :: (lo.toList++hi.toList)
 | .idxAddr _ x i | .strIdx x i=>[x,i]
 | .idxAddrA _ _ x i=>[x,i]
 | .append _ _ s x=>[s,x]
 | .copy _ d s=>[d,s]
 | .minmax _ xs=>xs
 | .call f args=>f :: args
def qk1 (xs:List RX):List Nat:=xs.filterMap fun | .t i=>some i | .c _=>none
def qby (ops:List qbo) (o:qbo):List Nat :=
 match o.guard with
 | none=>[]
 | some (j,_)=>match ops[j]? with
  | some p=>p.dst.toList
  | none=>[]
def qg1:ROp→Bool
 | .call _ _=>true
 | _=>false
def qr0:ROp→Bool
 | .mov _ | .extract _ _ | .pick _ _ _ | .fieldAddr _ _ | .nilck _ | .mkI _ _ | .mkF _ _ | .slice _ _ _ _ _=>true
 | _=>false
def qgn:ROp→Bool
 | .load _ _ _=>true
 | _=>false
def qgy (op:ROp) (stays:Bool):Nat:=if qgn op&&stays then 0 else qbe
def qbp (o:Out):Bool:=o.upd.isNone&&o.kill.isNone&&o.frz.isEmpty&&o.gone.isEmpty&&o.ups.isEmpty&&o.slot.isNone
def qcp (o:Out):Bool:=o.gone.isEmpty&&o.ups.isEmpty&&o.slot.isNone&&!o.io
def qyh (o:Out):Bool:=o.upd.isNone&&o.kill.isNone&&o.frz.isEmpty&&o.gone.isEmpty
def ldOf (op:ROp) (tm:List PV) (v:PV):Option (Nm×Nat×Nat×Bool×PV) :=
 match op with
 | .load n ag x=>match x.ev tm with
  | .ref nm k=>some (nm,k,n,ag,v)
  | _=>none
 | _=>none
def same1:PV→PV→Bool
 | .arr nm k o n,.arr nm' k' o' n'=>decide (nm=nm'∧k=k'∧o=o'∧n=n')
 | .ref nm o,.ref nm' o'=>decide (nm=nm'∧o=o')
 | .int k n,.int k' n'=>decide (k=k'∧n=n')
 | .nilS,.nilS=>true
 | .nilP,.nilP=>true
 | _,_=>false
def good1 (l:Nm×Nat×Nat×Bool×PV):Ob→Bool
 | .cells _ cs=>match sel cs l.2.1 l.2.2.1 l.2.2.2.1 with
  | some u=>same1 u l.2.2.2.2
  | none=>false
 | _=>false
def qdl (o:Out):List Nm :=
 match o.upd with
 | some (nm,_)=>[nm]
 | none=>[]
def qyl (σ:Nm→Option Ob) (l:List Nm):List Nm:=l.flatMap fun nm=>((σ nm).map Ob.names).getD []
def qv7 (o:qbo) (st:St) (out:Out):List Nm :=
 if qr0 o.op&&qbp out then [] else qbs (qbf st.objs) (qgy o.op (qbp out)) (qbd (o.op.xs.map (RX.ev st.tmps))++out.frz)
def qq8 (op:ROp) (tm:List PV):Bool :=
 match op with
 | .call f args=>match f.ev tm with
  | .yld _=>(qbd (args.map (RX.ev tm))).isEmpty
  | _=>false
 | _=>false
def qfx (ops:List qbo) (i:Nat) (o:qbo) (st:St) (out:Out):qlb :=
 let vs:=o.op.xs.map (RX.ev st.tmps)
 {i,dst:=o.dst,reads:=qk1 o.op.xs++qby ops o,rn:=qv7 o st out,rv:=if qgn o.op then [] else qyl (qbf st.objs) (qv7 o st out),
  cls:=if qg1 o.op&&qcu vs then (if qq8 o.op st.tmps then .calls else .other) else if qbp out then .quiet else if qcp out then .turns else if qyh out then .ios else .other,
  on:=out.v.names++out.new.flatMap Ob.names,tch:=qdl out++(out.frz++out.kill.toList),frz:=!(out.frz++out.kill.toList).isEmpty,
  vn:=(qk1 o.op.xs++qby ops o).flatMap fun s=>(st.tmps.getD s .undef).names
  nw:=out.new.isEmpty&&!qlj o.op,ld:=ldOf o.op st.tmps out.v,bef:=out.ups.map fun p=>(p.1,qbf st.objs p.1),aft:=out.ups}
def qdw (a b:List Nat):Bool:=a.all fun x=>!b.contains x
def Ql0 (f:Bool) (q t:qlb):Bool :=
 (q.rn.all fun nm=>!t.tch.contains nm)&&qdw q.dst.toList (t.tch.map (·.1))&&(!t.frz||((if f then q.rv.all fun nm=>!t.tch.contains nm else q.rn.isEmpty)&&(if f then q.vn.all fun nm=>!t.tch.contains nm else q.reads.isEmpty)&&q.on.all fun nm=>!t.tch.contains nm))
def indepY (a b:qlb):Bool :=
 match a.cls,b.cls with
 | .quiet,.calls=>true
 | .calls,.quiet=>true
 | _,_=>false
def indepC (a b:qlb):Bool :=
 match a.cls,b.cls with
 | .quiet,.quiet=>true
 | .quiet,.turns=>Ql0 true a b
 | .turns,.quiet=>Ql0 false b a
 | _,_=>false
def Ql1 (a b:qlb):Bool :=
 match a.ld with
 | some l=>b.aft.any (fun p=>decide (p.1=l.1))&&(b.aft.all (fun p=>!decide (p.1=l.1)||good1 l p.2)&&b.bef.all fun p=>!decide (p.1=l.1)||match p.2 with
  | some ob=>good1 l ob
  | none=>false)
 | none=>false
def indepI (a b:qlb):Bool :=
 match a.cls,b.cls with
 | .quiet,.ios=>a.nw&&(a.rn.isEmpty||Ql1 a b)
 | .ios,.quiet=>b.nw&&(b.rn.isEmpty||Ql1 b a)
 | _,_=>false
def qw5 (a b:qlb):Bool :=
 qdw a.dst.toList (b.reads++b.dst.toList)&&qdw b.dst.toList a.reads &&
 qdw a.dst.toList (b.rn.map (·.1))&&qdw b.dst.toList (a.rn.map (·.1)) &&
 (indepC a b||(indepY a b||indepI a b))
def qhc (M:qdb) {E:Type} (h:qbg E) (dep:Nat) (ops:List qbo) (i:Nat) (o:qbo) (st:St) (e:E):Option (Out×E×qlb) :=
 match qfo ops o st.tmps with
 | some true=>match qfj M h dep o st e with
  | some (out,e)=>some (out,e,qfx ops i o st out)
  | none=>none
 | some false=>some ({v:=.tup []},e,{i,cls:=.quiet,dst:=o.dst,reads:=qby ops o,rn:=[],vn:=(qby ops o).flatMap fun s=>(st.tmps.getD s .undef).names,nw:=!qlj o.op})
 | none=>none
def qyd (M:qdb) {E:Type} (h:qbg E) (dep:Nat) (ops:List qbo) (i:Nat) (o:qbo) (st:St) (e:E):Option (St×E×qlb) :=
 match qhc M h dep ops i o st e with
 | some (out,e,info)=>some (apply st o.dst out,e,info)
 | none=>none
def Qhq (M:qdb) {E:Type} (h:qbg E) (dep:Nat) (ops:List qbo):List (Nat×Nat)→List qlb→St→E→Option (St×E)
 | [],_,st,e=>some (st,e)
 |(i,bef) :: rest,infos,st,e=>match ops[i]? with
  | some o=>match qyd M h dep ops i o st e with
   | some (st,e,info)=>chk (infos.all fun j=>bef.testBit j.i||qw5 j info) (Qhq M h dep ops rest (info :: infos) st e)
   | none=>none
  | none=>none
inductive Ex where
 | normal
 | exit (id:Nat)
 | ret
 deriving DecidableEq
def qf6:Nat:=1000000000
abbrev Rec (E:Type):=St×Option Ex×E
def qsc:List Nat→List PV→List PV→List PV
 | p :: ps,v :: vs,tm=>qsc ps vs (tm.set p v)
 | _,_,tm=>tm
def qnn (st:St) (v:PV):Option (PV×St) :=
 if v.names.isEmpty then some (v,st)
 else chk (qf7 (qbf st.objs) (qbs (qbf st.objs) qbe v.names))
  (some (v.sub (qb5 (qbf st.objs)),qbt (qbf st.objs) (qbs (qbf st.objs) qbe v.names) st))
def qff:List Nm→Bool
 | []=>true
 | x :: xs=>!xs.contains x&&qff xs
def Ob.hasY:Ob→Bool
 | .cells _ cs=>qcu cs
 | .arr _ _ xs=>qcu xs
 | .map es=>qcu es
 | .siter _ _=>false
def qcc:List Nm→List Nm
 | []=>[]
 | x :: xs=>if xs.contains x then qcc xs else x :: qcc xs
def Qhs (g:List Nat) (nt k:Nat):List PV:=(List.range nt).map fun j=>if j < k∧g.contains j=false then .arr (0,j) 1 0 0 else .undef
def qhu:PV→Option Nm
 | .arr nm 1 0 0=>some nm
 | _=>none
def qgd (R:List Nm) (keep:List PV):List (Nm×Nm):=R.zipIdx.map fun p=>((qhu (keep.getD p.2 .undef)).getD (0,p.2),p.1)
def qps (R:List Nm) (keep:List PV):List Nm:=(R.zipIdx.filter fun p=>(qhu (keep.getD p.2 .undef)).isNone).map (·.1)
def qw3 (σ:Nm→Option Ob) (A:List (Nm×Nm)) (v:PV):List Nm :=
 qcc ((qbs σ qbe (v.names++A.flatMap fun p=>((σ p.1).map Ob.names).getD [])).filter fun m=>!(A.map (·.1)).contains m)
def ioOb (σ:Nm→Option Ob) (B:List (Nm×Nm)) (nm:Nm):Ob :=
 (((σ nm).getD qd5).sub fun m=>if (B.map (·.1)).contains m then none else some none).ren fun m=>(B.lookup m).getD m
def qra (sl:Option Nat) (d0 i0:Nat) (R:List Nm) (st:St) (v:PV):Option Out :=
 let A:=qgd R st.keep
 let N:=qw3 (qbf st.objs) A v
 let B:=A++N.zipIdx.map fun p=>(p.1,(d0,i0+p.2))
 chk (qff (B.map (·.1)))
  (some {v:=(v.sub fun m=>if (B.map (·.1)).contains m then none else some none).ren fun m=>(B.lookup m).getD m,new:=N.map (ioOb (qbf st.objs) B),ups:=A.map fun p=>(p.2,ioOb (qbf st.objs) B p.1),gone:=qps R st.keep,io:=true,slot:=sl})
def Qdp (g:List Nat) (nt:Nat) (ins:List Ob) (vs:List PV):St :=
 {tmps:=vs++List.replicate (nt - vs.length) .undef,objs:=(List.replicate nt []).set 0 ins,keep:=Qhs g nt ins.length}
def qm4 {α:Type} (σ:Nm→Option α) (d:Nat):Option Nat:=(List.range 64).find? fun j=>(σ (d,j)).isNone
def qjd (σ:Nm→Option Ob) (dst:Nat) (R:List Nm) (st:St) (v:PV):Option Out :=
 match R with
 | []=>qra none dst 0 R st v
 | r :: _=>match qm4 σ r.1 with
  | some i0=>qra (some r.1) r.1 i0 R st v
  | none=>none
mutual
def Qdj (dep:Nat) (R:List Nm):PV→PV
 | .ref nm o=>if R.contains nm then (if o=0 then .yld (dep+R.idxOf nm) else .undef) else .ref nm o
 | .aref nm k i o=>if R.contains nm then .undef else .aref nm k i o
 | .arr nm k o n=>if R.contains nm then .undef else .arr nm k o n
 | .mp nm=>if R.contains nm then .undef else .mp nm
 | .it nm=>if R.contains nm then .undef else .it nm
 | .agg cs=>.agg (Qhf dep R cs)
 | .iface t x=>.iface t (Qdj dep R x)
 | .fn f cs=>.fn f (Qhf dep R cs)
 | .tup xs=>.tup (Qhf dep R xs)
 | .undef=>.undef | .bool b=>.bool b | .int k n=>.int k n | .str s=>.str s | .nilS=>.nilS | .nilP=>.nilP | .nilF=>.nilF | .nilI=>.nilI | .nilM=>.nilM
 | .sl k xs b=>.sl k xs b | .ptr cs o=>.ptr cs o | .yld d=>.yld d | .imap es=>.imap es | .glob g t=>.glob g t
def Qhf (dep:Nat) (R:List Nm):List PV→List PV
 | []=>[]
 | x :: xs=>Qdj dep R x :: Qhf dep R xs
end
mutual
def qr1 (dep:Nat) (R:List Nm):PV→PV
 | .yld d=>if dep≤d∧d < dep+R.length then .ref (R.getD (d - dep) (0,0)) 0 else .yld d
 | .arr nm k o n=>if R.contains nm then .undef else .arr nm k o n
 | .ref nm o=>if R.contains nm then .undef else .ref nm o
 | .aref nm k i o=>if R.contains nm then .undef else .aref nm k i o
 | .mp nm=>if R.contains nm then .undef else .mp nm
 | .it nm=>if R.contains nm then .undef else .it nm
 | .sl k xs b=>if qcu xs then .undef else .sl k xs b
 | .ptr cs o=>if qcu cs then .undef else .ptr cs o
 | .imap es=>if qcu es then .undef else .imap es
 | .agg cs=>.agg (Qhd dep R cs)
 | .iface t x=>.iface t (qr1 dep R x)
 | .fn f cs=>.fn f (Qhd dep R cs)
 | .tup xs=>.tup (Qhd dep R xs)
 | .undef=>.undef | .bool b=>.bool b | .int k n=>.int k n | .str s=>.str s | .nilS=>.nilS | .nilP=>.nilP | .nilF=>.nilF | .nilI=>.nilI | .nilM=>.nilM
 | .glob g t=>.glob g t
def Qhd (dep:Nat) (R:List Nm):List PV→List PV
 | []=>[]
 | x :: xs=>qr1 dep R x :: Qhd dep R xs
end
def awayOb (dep:Nat) (R:List Nm):Ob→Ob
 | .cells ty cs=>.cells ty (Qhf dep R cs)
 | ob=>ob
def Qn5 (dep:Nat) (R:List Nm):Ob→Ob
 | .cells ty cs=>.cells ty (Qhd dep R cs)
 | ob=>ob
def Qhe (dep:Nat) (R:List Nm) (st:St):St :=
 {tmps:=Qhf dep R st.tmps,keep:=Qhf dep R st.keep,objs:=(qdr (R.map fun nm=>(nm,qd5)) st.objs).map (·.map (awayOb dep R))}
def Qhc (dep:Nat) (R:List Nm) (st:St):St :=
 {tmps:=Qhd dep R st.tmps,keep:=Qhd dep R st.keep,objs:=st.objs.map (·.map (Qn5 dep R))}
def isDead:Option Ob→Bool
 | some (.arr _ _ [])=>true
 | _=>false
def Qcg (R:List Nm) (st:St):Bool:=R.all (fun nm=>isDead (qbf st.objs nm))&&st.objs.all fun l=>l.all fun ob=>match ob with
 | .cells _ _=>true
 | ob=>!ob.hasY
def Qjc (nm:Nm) (σ:List (List Ob)):List (List Ob) :=
 match σ[nm.1]? with
 | some l=>σ.set nm.1 (l++List.replicate (nm.2+1 - l.length) qd5)
 | none=>σ
def padObs:List Nm→List (List Ob)→List (List Ob)
 | [],σ=>σ
 | nm :: R,σ=>padObs R (Qjc nm σ)
def Qd8 (R:List Nm) (st:St):St:={st with objs:=padObs R st.objs}
def keep1 (R:List Nm) (o n:PV):PV:=match o with
 | .arr nm 1 0 0=>if R.contains nm then .arr nm 1 0 0 else n
 | _=>n
def Qcr (R:List Nm):List PV→List PV→List PV
 | o :: os,n :: ns=>keep1 R o n :: Qcr R os ns
 | _,ns=>ns
def Qn6 (R:List Nm) (old:List PV) (st:St):St:={st with keep:=Qcr R old st.keep}
def awayH {E:Type} (dep k:Nat) (h:qbg E):qbg E:=fun l args e=>if dep≤l∧l < dep+k then none else h l args e
def Qct (M:qdb):PV→Bool
 | .fn g cap=>M.isIo (qd2 g)&&!(qbd cap).isEmpty
 | _=>false
def qmc (M:qdb) {E:Type} (rnd:qbg E→Nat→qbg (Rec E)) (h:qbg E) (dep:Nat) (f:PV) (st:St) (e:E):Option (Ex×St×E) :=
 match f with
 | .fn g cap =>
  let R:=qcc (qbs (qbf st.objs) qbe (qbd cap))
  match R.mapM (qbf st.objs) with
  | none=>none
  | some ins =>
   chk (!R.isEmpty&&(!qcu cap&&(qf7 (qbf st.objs) R&&ins.all (fun o=>!o.hasY)))) (
    match M.rio (Rec E) (rnd (awayH dep R.length h) (dep+R.length)) (dep+R.length+1) (qd2 g) (ins.map (Ob.ren fun m=>(0,R.idxOf m))) (qb3 g [.yld (dep+R.length)] (qf1 (fun m=>(0,R.idxOf m)) cap)) (Qhe dep R st,none,e) with
    | some (stE,s,p,e)=>chk (Qcg R (Qd8 R s)) (match qjd (qbf (Qd8 R s).objs) 0 R stE (.tup []) with
     | some out=>chk (out.gone.isEmpty&&(out.new.all (fun o=>!o.hasY)&&out.ups.all fun o=>!o.2.hasY)) (some (p.getD .normal,Qn6 R st.keep (apply (Qhc dep R (Qd8 R s)) none out),e))
     | none=>none)
    | none=>none)
 | _=>none
def qdo {σ:Type} (step:σ→Option (Sum σ (Ex×σ))):Nat→σ→Option (Ex×σ)
 | 0,_=>none
 | m+1,s=>match step s with
  | some (.inl s)=>qdo step m s
  | some (.inr r)=>some r
  | none=>none
def qbk (M:qdb) (fuel:Nat):qcm→{E:Type}→qbg E→Nat→St→E→Option (Ex×St×E)
 | .skip,_,_,_,st,e=>some (.normal,st,e)
 | .region ops none qd5,_,h,dep,st,e=>match qf4 M h dep ops ops (qgf (qmp ops) st) e with
  | some (st,e)=>some (.normal,Qhp qd5 st,e)
  | none=>none
 | .region ops (some bef) qd5,_,h,dep,st,e=>match Qhq M h dep ops bef [] (qgf (qmp ops) st) e with
  | some (st,e)=>some (.normal,Qhp qd5 st,e)
  | none=>none
 | .seq a b,_,h,dep,st,e=>match qbk M fuel a h dep st e with
  | some (.normal,st,e)=>qbk M fuel b h dep st e
  | r=>r
 | .cond c a b,_,h,dep,st,e=>match c.ev st.tmps with
  | .bool true=>qbk M fuel a h dep st e
  | .bool false=>qbk M fuel b h dep st e
  | _=>none
 | .block id body,_,h,dep,st,e=>match qbk M fuel body h dep st e with
  | some (.exit id',st,e)=>if id'=id then some (.normal,st,e) else some (.exit id',st,e)
  | r=>r
 | .loop asg grow body,E,h,dep,st,e =>
  let st:=norm asg grow st
  let ds:=undefs st
  match qdo (fun (s:St×E)=>match qbk M fuel body h dep s.1 s.2 with
   | some (.normal,st,e)=>some (.inl (norm asg grow (drop ds st),e))
   | some (x,st,e)=>some (.inr (x,st,e))
   | none=>none) fuel (st,e) with
  | some (x,st,e)=>some (x,st,e)
  | none=>none
 | .rangeFunc f ps assign body,E,h,dep,st,e =>
  let rnd:qbg E→Nat→qbg (Rec E):=fun h dep l args r =>
   if l=dep then
    match r with
    |(s,none,e) =>
     if args.length=ps.length then
      match qbk M fuel assign h (dep+1) {s with tmps:=qsc ps args s.tmps,keep:=s.tmps++s.keep} e with
      | some (.normal,s',e)=>match qbk M fuel body h (dep+1) s' e with
       | some (x,s',e)=>some (x==.normal,({s' with tmps:=s'.keep.take s.tmps.length,keep:=s'.keep.drop s.tmps.length},(if x=.normal then none else some x),e))
       | none=>none
      | _=>none
     else none
    | _=>none
   else
    match r with
    |(s,p,e)=>match h l args e with
     | some (b,e)=>some (b,(s,p,e))
     | none=>none
  if Qct M (f.ev st.tmps) then qmc M rnd h dep (f.ev st.tmps) st e
  else match qnn st (f.ev st.tmps) with
  | some (.fn g cap,st) =>
   match M.call (Rec E) (rnd h dep) (dep+1) (qd2 g) (qb3 g [.yld dep] cap) (st,none,e) with
   | some (_,_,s,p,e)=>some (p.getD .normal,s,e)
   | none=>none
  | _=>none
 | .exit id,_,_,_,st,e=>some (.exit id,st,e)
 | .scope body,_,h,dep,st,e=>match qbk M fuel body h dep st e with
  | some (.exit id,st,e)=>if id < qf6 then some (.exit id,st,e) else none
  | r=>r
 | .ret,_,_,_,st,e=>some (.ret,st,e)
 | .norm grow,_,_,_,st,e=>some (.normal,norm [] grow (trim st),e)
 | .dreg _ _ _ _,_,_,_,_,_=>none
 | .bad,_,_,_,_,_=>none
def pushD (nt:Nat) (vs:List PV) (st:St):St:={st with keep:=vs++List.replicate (nt - vs.length) .undef++st.keep}
def qvf:qcm→Bool
 | .seq (.block id _) _=>decide (qf6≤id)
 | _=>false
def isFn:PV→Bool
 | .fn _ _=>true
 | _=>false
def qqa:Option (Ex×St×Unit)→Option (Ex×St×List Nat)
 | some (x,st,_)=>some (x,st,[])
 | none=>none
def qca (M:qdb) (fuel nt:Nat):qcm→St→Option (Ex×St×List Nat)
 | .dreg ops f args live,st=>match qf4 M qba 0 ops ops (qgf (qmp ops) st) () with
  | some (st,_)=>chk (decide (args.length+1≤nt)&&isFn (f.ev st.tmps))
    (some (.normal,Qhp live (pushD nt (f.ev st.tmps :: args.map (RX.ev st.tmps)) st),[args.length]))
  | none=>none
 | .seq a b,st=>match qca M fuel nt a st with
  | some (.normal,st,l)=>match qca M fuel nt b st with
   | some (x,st,l')=>some (x,st,l'++l)
   | none=>none
  | r=>r
 | .cond c a b,st=>match c.ev st.tmps with
  | .bool true=>qca M fuel nt a st
  | .bool false=>qca M fuel nt b st
  | _=>none
 | .block id body,st=>match qca M fuel nt body st with
  | some (.exit id',st,l)=>if id'=id then some (.normal,st,l) else some (.exit id',st,l)
  | r=>r
 | .scope body,st=>if qvf body then none else match qca M fuel nt body st with
  | some (.exit id,st,l)=>if id < qf6 then some (.exit id,st,l) else none
  | r=>r
 | c,st=>qqa (qbk M fuel c qba 0 st ())
def Qmi (M:qdb) (nt:Nat):List Nat→St→Option St
 | [],st=>some st
 | n :: l,st=>match st.keep.getD 0 .undef with
  | .fn f cap =>
   match M.sp (qd2 f) (qbf st.objs) (qb3 f ((st.keep.drop 1).take n) cap) with
   | some _=>none
   | none=>if M.isIo (qd2 f)&&M.flat (qd2 f) then match M.io (qd2 f) 0 (qbf st.objs) (qb3 f ((st.keep.drop 1).take n) cap) with
    | some out=>chk (out.new.isEmpty||out.slot.isSome) (Qmi M nt l (apply {st with keep:=st.keep.drop nt} none out))
    | none=>none
   else none
  | _=>none
def resV (st:St):Qkp→Option PV
 | .tmp t=>some (st.tmps.getD t .undef)
 | .cell t n ag=>match st.tmps.getD t .undef with
  | .ref nm o=>match qbf st.objs nm with
   | some (.cells _ cs)=>sel cs o n ag
   | _=>none
  | _=>none
def qkm (st:St):List Qkp→Option (List PV)
 | []=>some []
 | r :: rs=>match resV st r,qkm st rs with
  | some v,some vs=>some (v :: vs)
  | _,_=>none
def qna:List PV→PV
 | [v]=>v
 | vs=>.tup vs
def tops:PV→List Nm
 | .arr nm _ 0 _=>[nm]
 | .agg cs=>cs.flatMap fun | .arr nm _ 0 _=>[nm] | _=>[]
 | .tup xs=>xs.flatMap fun | .arr nm _ 0 _=>[nm] | .agg cs=>cs.flatMap (fun | .arr nm _ 0 _=>[nm] | _=>[]) | _=>[]
 | _=>[]
def Qbq (S:List Nm) (nm:Nm):Nm:=(0,S.idxOf nm)
def Qcu:Ob→Bool
 | .arr _ _ _=>true
 | _=>false
def Ob.bare:Ob→Ob
 | .arr k _ xs=>.arr k 0 xs
 | o=>o
def qm0 (shut:Bool) (v:PV):List Nm:=if shut then [] else tops v
def qjo (shut:Bool) (st:St) (v:PV):Option (PV×List Ob) :=
 let σ:=qbf st.objs
 let S:=qm0 shut v
 let R:=qbs σ qbe (v.names.filter fun nm=>!S.contains nm)
 let S:=if qff S&&S.all (fun nm=>!R.contains nm) then S else []
 let R:=qbs σ qbe (v.names.filter fun nm=>!S.contains nm)
 let v:=(v.sub fun nm=>if S.contains nm then none else qb5 σ nm).ren (Qbq S)
 match S.mapM σ with
 | some obs=>chk (qf7 σ R&&obs.all Qcu) (some (v,obs.map Ob.bare))
 | none=>none
def qnz (M:qdb) (n:Nat) (tab:FuncId→Option RFn):qva:=fun _ h dep f args e =>
 match tab f with
 | none=>none
 | some fn =>
  match qbk M n fn.code h dep {tmps:=args++List.replicate (fn.nt - args.length) .undef,objs:=List.replicate fn.nt [],keep:=[]} e with
  | some (x,st,e) =>
   match x with
   | .exit _=>none
   | _=>match qkm st fn.res with
    | some vs=>match qjo fn.shut st (qna vs) with
     | some (v,obs)=>some (v,obs,e)
     | none=>none
    | none=>none
  | none=>none
def qls (M:qdb) (n:Nat) (fn:RFn) (ins:List Ob) (vs:List PV):Option (St×PV) :=
 if noD fn.code then match qbk M n fn.code qba 0 (Qdp fn.gone fn.nt ins vs) () with
  | some (x,st,_) =>
   match x with
   | .exit _=>none
   | _=>match qkm st fn.res with
    | some rs=>some (st,qna rs)
    | none=>none
  | none=>none
 else match qca M n fn.nt fn.code (Qdp fn.gone fn.nt ins vs) with
  | some (x,st,l) =>
   match x with
   | .exit _=>none
   | _=>match Qmi M fn.nt l st with
    | some st=>match qkm st fn.res with
     | some rs=>some (st,qna rs)
     | none=>none
    | none=>none
  | none=>none
def Qjy (M:qdb) (n:Nat) (tab:FuncId→Option RFn) (f:FuncId) (dst:Nat) (σ:Nm→Option Ob) (vs:List PV):Option Out :=
 match tab f with
 | none=>none
 | some fn =>
  let R:=qcc (qbs σ qbe (qbd vs))
  match R.mapM σ with
  | none=>none
  | some ins =>
   chk (!qcu vs&&qf7 σ R&&ins.all (fun o=>!o.hasY)&&(decide (vs.length≤fn.nt)&&decide (R.length≤fn.nt)&&decide (0 < fn.nt))) (
    match qls M n fn (ins.map (Ob.ren fun m=>(0,R.idxOf m))) (qf1 (fun m=>(0,R.idxOf m)) vs) with
    | some (st,v)=>qjd σ dst R st v
    | none=>none)
def frzTops (vs:List PV):List Nm:=vs.flatMap fun v=>match v with
 | .arr nm _ _ _=>[nm]
 | _=>[]
def frzF (σ:Nm→Option Ob) (R:List Nm) (m:Nm):Option (Option Ob):=if R.contains m then qb5 σ m else none
def frzS (σ:Nm→Option Ob) (R:List Nm) (nm:Nm):Option Ob:=if nm∈R then ((σ nm).map (Ob.sub (frzF σ R))).map fun _=>qd5 else (σ nm).map (Ob.sub (frzF σ R))
def qtu (tab:FuncId→Option RFn) (g:FuncId) (σ:Nm→Option Ob) (vs:List PV):List Nm :=
 match tab g with
 | some fn=>if fn.frz then qbs σ qbe (frzTops vs) else []
 | none=>[]
def Qlu (tab:FuncId→Option RFn) (io:FuncId→Nat→(Nm→Option Ob)→List PV→Option Out) (g:FuncId) (dst:Nat) (σ:Nm→Option Ob) (vs:List PV):Option Out :=
 match qtu tab g σ vs with
 | []=>io g dst σ vs
 | r :: rs=>chk (qf7 σ (r :: rs)) (match io g dst (frzS σ (r :: rs)) (qdy (frzF σ (r :: rs)) vs) with
  | some out=>chk (out.io&&out.upd.isNone&&out.kill.isNone&&out.frz.isEmpty) (some {out with frz:=r :: rs})
  | none=>none)
def qji (tab:FuncId→Option RFn) (f:FuncId):Bool :=
 match tab f with
 | some fn=>fn.io
 | none=>false
def qpa (tab:FuncId→Option RFn) (f:FuncId):Bool :=
 match tab f with
 | some fn=>fn.leans
 | none=>false
def qkx (tab:FuncId→Option RFn) (f:FuncId):Bool :=
 match tab f with
 | some fn=>noD fn.code
 | none=>false
def Qb0 (M:qdb) (n:Nat) (tab:FuncId→Option RFn):(E:Type)→qbg E→Nat→FuncId→List Ob→List PV→E→Option (St×E):=fun _ h dep g ins vs e =>
 match tab g with
 | none=>none
 | some fn=>chk (fn.res.isEmpty&&(decide (vs.length≤fn.nt)&&decide (ins.length≤fn.nt)&&decide (0 < fn.nt))) (
  match qbk M n fn.code h dep (Qdp fn.gone fn.nt ins vs) e with
  | some (.exit _,_,_)=>none
  | some (.normal,st,e)=>some (st,e)
  | some (.ret,st,e)=>some (st,e)
  | none=>none)
def qgt (sp:FuncId→(Nm→Option Ob)→List PV→Option Out) (tab:FuncId→Option RFn):Nat→qdb
 | 0=>{sp,call:=fun _ _ _ _ _ _=>none,isIo:=qji tab,leans:=qpa tab,io:=fun _ _ _ _=>none,flat:=qkx tab,rio:=fun _ _ _ _ _ _ _=>none}
 | n+1=>{sp,call:=qnz (qgt sp tab n) n tab,isIo:=qji tab,leans:=qpa tab,io:=Qlu tab (Qjy (qgt sp tab n) n tab),flat:=qkx tab,rio:=Qb0 (qgt sp tab n) n tab}
def qbi (sp:FuncId→(Nm→Option Ob)→List PV→Option Out) (tab:FuncId→Option RFn) (n:Nat):qva:=(qgt sp tab n).call
end Go.Ab


namespace Go.Ab
def aggB (d:TypeDesc):Bool :=
 match d with
 | .struct _=>true
 | .array _ _=>true
 | _=>false
def qjw:Nat→Value→Option PV
 | _,.bool b=>some (.bool b)
 | _,.int k n=>some (.int k n)
 | _,.string s=>some (.str s.data.toList)
 | _,.slice none 0 0=>some .nilS
 | _,.pointer none=>some .nilP
 | _,.nilFunc=>some .nilF
 | _,.nilIface=>some .nilI
 | _,.map none=>some .nilM
 | n+1,.agg cs=>if cs.toList.all (·.oneCell') then (cs.toList.mapM (qjw n)).map .agg else none
 | _,_=>none
def qkp (P:Program) (t:TypeId):Option PV:=((P.info? t).bind (·.zero)).bind (qjw 3)
def qjb (P:Program) (t:TypeId):Option (Nat×Bool) :=
 match P.underlying t,P.info? t with
 | some d,some i=>some (i.size,aggB d)
 | _,_=>none
def qky (P:Program) (t:TypeId):Option (Nat×Nat×PV) :=
 match P.underlying t with
 | some (.slice e)=>match P.info? e,qkp P e with
  | some i,some z=>if i.bytes≤65536∧z.cells.length=i.size then some (i.size,i.bytes,z) else none
  | _,_=>none
 | _=>none
def qp4 (P:Program) (i:Nat):List Field→Option (List Nat)
 | []=>some []
 | f :: fs=>if f.offset=i∧f.name ≠ "_" then
   match P.underlying f.type,qp4 P (i+1) fs with
   | some (.int _),some l=>some (0 :: l)
   | some .string,some l=>some (1 :: l)
   | some .bool,some l=>some (2 :: l)
   | _,_=>none
  else none
def qd1 (P:Program) (t:TypeId):TC :=
 match P.underlying t with
 | some (.struct fs)=>match qp4 P 0 fs.toList with
  | some l=>if P.stoodInHeld t=false∧P.eqGuardType P.depth t=false then .plain l else .other
  | none=>.other
 | some (.int _)=>.num
 | some .string=>.str
 | some .bool=>.bool
 | some (.interface _)=>.iface
 | some (.slice _)=>.slice
 | some (.map _ _)=>.map
 | some (.func _ _ _)=>.func
 | some (.pointer _)=>.ptr
 | _=>.other
abbrev qmx:=Nat→Option (List PV)
def rx (G:qmx):Operand→Option RX
 | .tmp t=>some (.t t)
 | .const v=>(qjw 3 v).map .c
 | .global g=>(G g).map fun cs=>.c (.ptr cs 0)
 | .func f=>if Nat.blt f qgo=true then some (.c (.fn f [])) else none
def rxO (G:qmx):Option Operand→Option (Option RX)
 | none=>some none
 | some x=>(rx G x).map some
def rxs (G:qmx):List Operand→Option (List RX)
 | []=>some []
 | x :: xs=>match rx G x,rxs G xs with
  | some y,some ys=>some (y :: ys)
  | _,_=>none
def isC:Operand→Bool
 | .const _=>true
 | _=>false
def ql0 (G:qmx) (place:Nat→Option (Nat×Nat)):List (Nat×Operand)→Option (List (Nat×Nat×RX))
 | []=>some []
 |(i,x) :: ps=>match place i,rx G x,ql0 G place ps with
  | some (off,n),some y,some ys=>some ((off,n,y) :: ys)
  | _,_,_=>none
def qss (G:qmx):Nat→List (Nat×Operand)→Option (List RX)
 | _,[]=>some []
 | j,(i,x) :: ps=>if i=j then match rx G x,qss G (j+1) ps with
  | some y,some ys=>some (y :: ys)
  | _,_=>none
  else none
def qml (P:Program) (fs:Array Field) (i:Nat):Option (Nat×Nat) :=
 match fs[i]? with
 | some f=>match P.info? f.type with
  | some inf=>some (f.offset,inf.size)
  | none=>none
 | none=>none
def orBad:Option ROp→ROp
 | some o=>o
 | none=>.bad
def Qb4 (P:Program) (t:TypeId):Bool :=
 match P.underlying t with
 | some (.int _)=>true
 | some .string=>true
 | some .bool=>true
 | _=>false
def qct (P:Program) (G:qmx) (o:Oper):Option ROp :=
 match o.op with
 | .move x=>(rx G x).map .mov
 | .assign x=>(rx G x).map .mov
 | .pick c a b=>match rx G c,rx G a,rx G b with
  | some c,some a,some b=>some (.pick c a b)
  | _,_,_=>none
 | .alloc t=>match qkp P t with
  | some z=>some (.alloc t z.cells)
  | none=>none
 | .box _ x=>(rx G x).map .box
 | .build t ps=>match P.underlying t,qkp P t with
  | some (.struct fs),some (.agg z)=>match ql0 G (qml P fs) ps.toList with
   | some ps=>if fs.all (fun f=>(P.info? f.type).isSome) then some (.build z ps) else none
   | none=>none
  | _,_=>none
 | .buildSlice t len ps=>match qky P t,qss G 0 ps.toList with
  | some (k,_,_),some xs=>if xs.length=len∧len*k≤16777216 then some (.mkSl k xs) else none
  | _,_=>none
 | .load t a=>match qjb P t,rx G a with
  | some (n,ag),some x=>some (.load n ag x)
  | _,_=>none
 | .store t a v=>match qjb P t,rx G a,rx G v with
  | some (n,_),some x,some y=>some (.store n x y)
  | _,_,_=>none
 | .nilCheck x=>(rx G x).map .nilck
 | .binOp op t x y _=>match rx G x,rx G y with
  | some a,some b=>some (.bin op (qd1 P t) (isC x||isC y) a b)
  | _,_=>none
 | .unOp op _ x=>(rx G x).map (.un op)
 | .convert src dst x=>match P.underlying src,P.underlying dst,rx G x with
  | some (.int _),some (.int k),some x=>some (.conv k x)
  | some (.int _),some .string,some x=>some (.ofRune x)
  | some .string,some .string,some x=>some (.strId x)
  | some .string,some (.slice e),some x=>match P.underlying e with
   | some (.int .u8)=>some (.toBytes x)
   | _=>none
  | some (.slice e),some .string,some x=>match P.underlying e with
   | some (.int .u8)=>some (.ofBytes x)
   | _=>none
  | _,_,_=>none
 | .makeInterface t x=>match P.underlying t with
  | some (.interface _)=>none
  | some _=>(rx G x).map (.mkI t)
  | none=>none
 | .makeFunc (.func f) first cap=>if Nat.blt f qgo=true then (rxs G (first.toList++cap.toList)).map (.mkF (fnNum f first.size)) else none
 | .makeMap _ none=>some .mkMap
 | .insert t m k v=>match P.underlying t,rx G m,rx G k,rx G v with
  | some (.map kt _),some m,some k,some v=>if Qb4 P kt then some (.insert (qd1 P kt) m k v) else none
  | _,_,_,_=>none
 | .mapUpdate t m k v=>match P.underlying t,rx G m,rx G k,rx G v with
  | some (.map kt _),some m,some k,some v=>if Qb4 P kt then some (.insert (qd1 P kt) m k v) else none
  | _,_,_,_=>none
 | .lookup t m k ok=>match P.underlying t with
  | some (.map kt et)=>match qkp P et,rx G m,rx G k with
   | some z,some m,some k=>if Qb4 P kt then some (.lookup (qd1 P kt) z ok m k) else none
   | _,_,_=>none
  | _=>none
 | .makeSlice t l c=>match qky P t,rx G l,rx G c with
  | some (k,_,z),some l,some c=>some (.mkS k z l c)
  | _,_,_=>none
 | .slice t x lo hi mx=>match rx G x,rxO G lo,rxO G hi,rxO G mx with
  | some x,some lo,some hi,some mx=>match P.underlying t with
   | some .string=>if mx.isNone then some (.strSlice x lo hi) else none
   | some (.slice _)=>match qky P t with
    | some (k,_,_)=>some (.slice k x lo hi mx)
    | none=>none
   | _=>none
  | _,_,_,_=>none
 | .fieldAddr t x f=>match P.underlying t,rx G x with
  | some (.struct fs),some x=>match fs[f]? with
   | some fd=>match P.info? fd.type with
    | some i=>if i.size=0 then none else some (.fieldAddr fd.offset x)
    | none=>none
   | none=>none
  | _,_=>none
 | .field t x f=>match P.underlying t,rx G x with
  | some (.struct fs),some x=>match fs[f]? with
   | some fd=>match qjb P fd.type with
    | some (n,ag)=>some (.field fd.offset n ag x)
    | none=>none
   | none=>none
  | _,_=>none
 | .indexAddr t x i=>match P.underlying t,rx G x,rx G i with
  | some (.slice _),some x,some i=>match qky P t with
   | some (k,_,_)=>some (.idxAddr k x i)
   | none=>none
  | some (.array n e),some x,some i=>match P.info? e with
   | some inf=>some (.idxAddrA inf.size n x i)
   | none=>none
  | _,_,_=>none
 | .index t x i=>match P.underlying t,rx G x,rx G i with
  | some .string,some x,some i=>some (.strIdx x i)
  | _,_,_=>none
 | .extract x j=>(rx G x).map (.extract j)
 | .call c=>match rxs G c.args.toList with
  | none=>none
  | some as=>match c.callee with
   | .value f=>(rx G f).map fun f=>.call f as
   | .builtin .len=>match c.argTypes[0]?,as with
    | some t,[x]=>match P.underlying t with
     | some .string=>some (.len .str x)
     | some (.slice _)=>some (.len .slice x)
     | some (.map _ _)=>some (.len .map x)
     | _=>none
    | _,_=>none
   | .builtin .append=>match c.argTypes[0]?,c.argTypes[1]?,as with
    | some t,some u,[s,x]=>match qky P t,P.underlying u,P.underlying t with
     | some (k,_,_),some (.slice _),some (.slice el)=>some (.append k el s x)
     | some (k,_,_),some .string,some (.slice el)=>some (.append k el s x)
     | _,_,_=>none
    | _,_,_=>none
   | .builtin .copy=>match c.argTypes[0]?,as with
    | some t,[d,s]=>match qky P t with
     | some (k,_,_)=>some (.copy k d s)
     | none=>none
    | _,_=>none
   | .builtin .min=>some (.minmax false as)
   | .builtin .max=>some (.minmax true as)
   | _=>none
 | .range t x=>match P.underlying t,rx G x with
  | some .string,some x=>some (.iter x)
  | _,_=>none
 | .next x true=>(rx G x).map .next
 | .typeAssert x _ t ok=>match P.underlying t with
  | some (.interface _)=>none
  | some _=>match qkp P t,rx G x with
   | some z,some x=>some (.tassert t z ok x)
   | _,_=>none
  | none=>none
 | _=>none
def qhb (P:Program) (G:qmx) (o:Oper):qbo:={dst:=o.dst,op:=orBad (qct P G o),guard:=o.guard}
def Qhg:qcm→List Nat
 | .region ops _ _=>ops.filterMap fun o=>match o.op with | .mov _=>o.dst | _=>none
 | .seq a b=>Qhg a++Qhg b
 | .cond _ a b=>Qhg a++Qhg b
 | .block _ b=>Qhg b
 | .loop _ _ b=>Qhg b
 | .scope b=>Qhg b
 | _=>[]
def growOps (ops:List qbo):List (Nat×Nat) :=
 ops.filterMap fun o=>match o.dst,o.op with
  | some t,.mov (.t s)=>(ops.findSome? fun p=>match p.op with | .append k _ _ _=>if p.dst=some s then some k else none | _=>none).map fun k=>(t,k)
  | _,_=>none
def chase (ops:List qbo):Nat→Nat→Nat→Option (Nat×Nat)
 | 0,_,_=>none
 | n+1,x,off=>match ops.find? fun p=>p.dst==some x with
  | none=>some (x,off)
  | some p=>match p.op with
   | .mov (.t y)=>chase ops n y off
   | .nilck (.t y)=>chase ops n y off
   | .fieldAddr o (.t y)=>chase ops n y (off+o)
   | _=>none
def growCells (ops:List qbo):List (Nat×Nat) :=
 ops.filterMap fun o=>match o.op with
  | .store 1 (.t a) (.t u) =>
   match ops.findSome? (fun p=>match p.op with | .append k _ _ _=>if p.dst=some u then some k else none | _=>none),chase ops 8 a 0 with
   | some k,some (x,off)=>some (qjj*(off+1)+x,k)
   | _,_=>none
  | _=>none
def qnm:qcm→List (Nat×Nat)
 | .region ops _ _=>growOps ops++growCells ops
 | .seq a b=>qnm a++qnm b
 | .cond _ a b=>qnm a++qnm b
 | .block _ b=>qnm b
 | .loop _ _ b=>qnm b
 | .scope b=>qnm b
 | .rangeFunc _ _ _ b=>(qnm b).filter fun p=>decide (qjj≤p.1)
 | _=>[]
def Qkh {α:Type} [BEq α]:List α→List α
 | []=>[]
 | x :: xs=>if (Qkh xs).contains x then Qkh xs else x :: Qkh xs
def qtb (acc:List (Nat×Nat)):List Edge→Nat
 | []=>0
 | e :: es=>if Region.binds .any e then 2 ^ e.on ||| ((acc.lookup e.on).getD 0) ||| qtb acc es else qtb acc es
def befGo (ops:Array Oper):List Nat→List (Nat×Nat)→Option (List (Nat×Nat))
 | [],acc=>if acc.length=ops.size then some acc.reverse else none
 | i :: rest,acc=>match ops[i]? with
  | some o=>if (acc.lookup i).isNone∧o.after.toList.all (fun e=>!Region.binds .any e||(acc.lookup e.on).isSome) then befGo ops rest ((i,qtb acc o.after.toList) :: acc) else none
  | none=>none
def qrg:Code→Option Nat
 | .goto l=>some l
 | .seq a b=>(qrg a).orElse fun _=>qrg b
 | .cond _ a b=>(qrg a).orElse fun _=>qrg b
 | .block _ b=>qrg b
 | .loop b=>qrg b
 | .rangeFunc _ _ _ b=>qrg b
 | _=>none
def qgl (l:Nat):Code→qcm→Option (qcm×qcm)
 | .seq a b,.seq ra rb=>match qgl l a ra with
  | some (x,y)=>some (x,.seq y rb)
  | none=>match qgl l b rb with
   | some (x,y)=>some (.seq ra x,y)
   | none=>none
 | .label l',_=>if l'=l then some (.skip,.skip) else none
 | _,_=>none
def Qd3 (c:Code) (r:qcm):qcm :=
 match qrg c with
 | none=>.scope r
 | some l=>match qgl l c r with
  | some (x,y)=>.scope (.seq (.block (qf6+l) x) y)
  | none=>.scope r
structure Told where
 lv:Option (List Nat):=none
 grow:Option (List (Nat×Nat)):=none
 peel:Bool:=false
 deriving Inhabited
abbrev qya:=Nat→Told
def normR (g:Option (List (Nat×Nat))) (r:qcm):qcm :=
 match g with
 | none=>r
 | some g=>.seq r (.norm g)
def qnq:Code→Option Nat
 | .region id _ _=>some id
 | .seq a b=>(qnq a).orElse fun _=>qnq b
 | .cond _ a b=>(qnq a).orElse fun _=>qnq b
 | .block _ b=>qnq b
 | .loop b=>qnq b
 | .scope b=>qnq b
 | _=>none
def peelOf (D:qya) (c:Code):Bool :=
 match qnq c with
 | some id=>(D id).peel
 | none=>false
def loopR (p:Bool) (asg:List Nat) (grow:List (Nat×Nat)) (b:qcm):qcm:=if p then .seq b (.loop asg grow b) else .loop asg grow b
def rangeR (f:RX) (ps:List Nat) (asg b:qcm) (g:List (Nat×Nat)):qcm :=
 if g.isEmpty then .rangeFunc f ps asg b else .seq (.norm g) (.rangeFunc f ps asg (.seq (.seq b (.region [] none (some []))) (.norm g)))
def Qdb (G:qmx) (o:Oper):Option (RX×List RX) :=
 match o.op,o.guard,o.dst with
 | .defer c,none,none=>match c.callee with
  | .value f=>match rx G f,rxs G c.args.toList with
   | some f,some args=>some (f,args)
   | _,_=>none
  | _=>none
 | _,_,_=>none
def Qla (P:Program) (G:qmx) (ops:Array Oper) (lv:Option (List Nat)):qcm :=
 match ops.toList.getLast?.bind (Qdb G) with
 | some (f,args)=>.dreg (ops.toList.dropLast.map (qhb P G)) f args lv
 | none=>.region (ops.toList.map (qhb P G)) none lv
def qdg (P:Program) (G:qmx) (D:qya):Code→qcm
 | .skip=>.skip
 | .region id ops draw=>normR (D id).grow (if draw then (match befGo ops (Region.linearise .any ops 0) [] with
   | some l=>.region (ops.toList.map (qhb P G)) (some l) (D id).lv
   | none=>.bad)
  else Qla P G ops (D id).lv)
 | .seq a b=>.seq (qdg P G D a) (qdg P G D b)
 | .cond c a b=>match rx G c with
  | some c=>.cond c (qdg P G D a) (qdg P G D b)
  | none=>.bad
 | .block id b=>if id < qf6 then .block id (qdg P G D b) else .bad
 | .loop b=>loopR (peelOf D b&&noD (qdg P G D b)) (Qkh (Qhg (qdg P G D b))) (Qkh (qnm (qdg P G D b))) (qdg P G D b)
 | .rangeFunc f ps asg b=>match rx G f with
  | some f=>rangeR f ps.toList (qdg P G D asg) (qdg P G D b) (Qkh (qnm (qdg P G D b)))
  | none=>.bad
 | .exit id=>if id < qf6 then .exit id else .bad
 | .scope b=>Qd3 b (qdg P G D b)
 | .label _=>.skip
 | .goto l=>.exit (qf6+l)
 | .ret=>.ret
 | .refuse _=>.bad
def qs6 (P:Program):List ResultVar→Option (List Qkp)
 | []=>some []
 | r :: rs=>match (match r with
   | .tmp t=>some (Qkp.tmp t)
   | .cell a t=>(qjb P t).map fun (n,ag)=>Qkp.cell a n ag),qs6 P rs with
  | some x,some xs=>some (x :: xs)
  | _,_=>none
def Qki (P:Program) (G:qmx) (D:qya) (f:FuncId):Option RFn :=
 match P.funcs[f]? with
 | some fn=>match fn.body,qs6 P fn.results.toList with
  | some c,some rs=>if fn.name == "runtime.NumGoroutine" then none else some {nt:=fn.ntmps,code:=qdg P G D c,res:=rs}
  | _,_=>none
 | none=>none
end Go.Ab


namespace Go.Ab
def opT:Operand→List Nat
 | .tmp t=>[t]
 | _=>[]
def opsT (l:List Operand):List Nat:=l.flatMap opT
def addL (a b:List Nat):List Nat:=a.foldl (fun acc x=>if acc.contains x then acc else x :: acc) b
abbrev LiveL:=List (Nat×List Nat)
def lvC:Code→List Nat→LiveL→List Nat→List Nat×LiveL
 | .skip,out,_,_=>(out,[])
 | .region id ops _,out,_,_=>(ops.toList.foldr (fun o l=>addL (opsT o.op.operands.toList) (match o.dst with | some d=>l.filter (· != d) | none=>l)) out,[(id,out)])
 | .seq a b,out,ends,rets =>
  let r2:=lvC b out ends rets
  let r1:=lvC a r2.1 ends rets
  (r1.1,r1.2++r2.2)
 | .cond c a b,out,ends,rets =>
  let r1:=lvC a out ends rets
  let r2:=lvC b out ends rets
  (addL (opT c) (addL r1.1 r2.1),r1.2++r2.2)
 | .block id b,out,ends,rets=>lvC b out ((id,out) :: ends) rets
 | .loop b,_,ends,rets =>
  let x1:=(lvC b [] ends rets).1
  let x2:=(lvC b x1 ends rets).1
  let x3:=(lvC b x2 ends rets).1
  (x3,(lvC b x3 ends rets).2)
 | .rangeFunc f ps asg b,out,ends,rets =>
  let e0:=ends.map fun p=>(p.1,([]:List Nat))
  let r2:=lvC b [] e0 []
  let r1:=lvC asg r2.1 e0 []
  (addL (opT f) (addL (r1.1.filter fun x=>!ps.contains x) (addL out (addL (ends.flatMap (·.2)) rets))),r1.2++r2.2)
 | .exit id,_,ends,_=>((ends.lookup id).getD [],[])
 | .scope b,out,ends,rets =>
  let l:=(qrg b).getD 0
  let x1:=((lvC b out ends rets).2.lookup (qf6+l)).getD []
  let x2:=((lvC b out ((qf6+l,x1) :: ends) rets).2.lookup (qf6+l)).getD []
  lvC b out ((qf6+l,x2) :: ends) rets
 | .label l,out,_,_=>(out,[(qf6+l,out)])
 | .goto l,_,ends,_=>((ends.lookup (qf6+l)).getD [],[])
 | .ret,_,_,rets=>(rets,[])
 | .refuse _,out,_,_=>(out,[])
def resT:ResultVar→Nat
 | .tmp t=>t
 | .cell a _=>a
def liveOf (P:Program) (f:FuncId):LiveL :=
 match P.funcs[f]? with
 | some fn=>match fn.body with
  | some c=>(lvC c (fn.results.toList.map resT) [] (fn.results.toList.map resT)).2
  | none=>[]
 | none=>[]
def lookD (l:LiveL):qya:=fun id=>{lv:=l.lookup id}
def deadOf (P:Program) (f:FuncId):qya:=lookD (liveOf P f)
abbrev Hint:=List (Nat×Nat×Option (List (Nat×Nat))×Bool)
def hinted (H:Hint) (f:FuncId) (D:qya):qya:=fun id =>
 match H.find? fun h=>h.1==f&&h.2.1==id with
 | some h=>{D id with grow:=h.2.2.1,peel:=h.2.2.2}
 | none=>D id
def deadH (H:Hint) (P:Program) (f:FuncId):qya:=hinted H f (deadOf P f)
end Go.Ab


namespace Go.Ab
abbrev Loc:=Nm→Option (Option (Nat×Nat))
def qqf:List MapEntry→List Value
 | []=>[]
 | e :: es=>e.key :: e.val :: qqf es
def One (vs:List Value):Prop:=∀ v∈vs,v.oneCell'=true
theorem One.take' {vs:List Value} (h:One vs) (n:Nat):One (vs.take n):=fun v hv=>h v (List.mem_of_mem_take hv)
theorem One.drop' {vs:List Value} (h:One vs) (n:Nat):One (vs.drop n):=fun v hv=>h v (List.mem_of_mem_drop hv)
theorem One.append' {vs us:List Value} (h:One vs) (h':One us):One (vs++us):=fun v hv=>(List.mem_append.1 hv).elim (h v) (h' v)
def yv (l:Nat):Value:=if l%2=0 then .func (.yield (l / 2)) #[] #[] else .pointer (some ⟨l / 2,0,none⟩)
theorem Qbl (l:Nat):yv (2*l)=.func (.yield l) #[] #[]:=by
 unfold yv
 rw[if_pos (by omega),show 2*l / 2=l by omega]
theorem yv_odd (b:Nat):yv (2*b+1)=.pointer (some ⟨b,0,none⟩):=by
 unfold yv
 rw[if_neg (by omega),show (2*b+1) / 2=b by omega]
theorem yv_or (l:Nat):yv l=.func (.yield (l / 2)) #[] #[]∧l=2*(l / 2)∨yv l=.pointer (some ⟨l / 2,0,none⟩):=by
 unfold yv
 by_cases h:l%2=0
 ·exact .inl ⟨if_pos h,by omega⟩
 ·exact .inr (if_neg h)
theorem yv_cells (l:Nat):(yv l).cells=#[yv l]:=by
 unfold yv
 split<;>rfl
theorem yv_one (l:Nat):(yv l).oneCell'=true:=by
 unfold yv
 split<;>rfl
mutual
inductive qbr (w:World) (I:Nat→Prop) (lp:Nat→Option Nat):Option Loc→PV→Value→Prop
 | undef {L} (v:Value):qbr w I lp L .undef v
 | bool {L} (b:Bool):qbr w I lp L (.bool b) (.bool b)
 | int {L} (k:IntKind) (n:Int):qbr w I lp L (.int k n) (.int k n)
 | str {L} (s:List UInt8):qbr w I lp L (.str s) (.string ⟨s.toArray⟩)
 | nilS {L}:qbr w I lp L .nilS (.slice none 0 0)
 | nilP {L}:qbr w I lp L .nilP (.pointer none)
 | nilF {L}:qbr w I lp L .nilF .nilFunc
 | nilI {L}:qbr w I lp L .nilI .nilIface
 | nilM {L}:qbr w I lp L .nilM (.map none)
 | slE {L} (k:Nat) (full:Bool) (a:Option Addr) (cap:Nat) (hf:full=true→cap=0):qbr w I lp L (.sl k [] full) (.slice a 0 cap)
 | sl {L} (k:Nat) (xs:List PV) (full:Bool) (b off cap:Nat) (c:Array Value) (E:TypeId) (fr:Nat×Nat)
   (hI:I b) (hb:w.heap[b]?=some (.cells c E fr)) (hs:off+xs.length*k≤c.size) (hk:∀ x∈xs,x.cells.length=k)
   (hc:xs.length≤cap) (hf:full=true→cap=xs.length) (h1:One ((c.toList.drop off).take (xs.length*k)))
   (hr:qbn w I lp none (cellsL xs) ((c.toList.drop off).take (xs.length*k))):qbr w I lp L (.sl k xs full) (.slice (some ⟨b,off,none⟩) xs.length cap)
 | ptr {L} (cs:List PV) (o:Nat) (b off:Nat) (c:Array Value) (E:TypeId) (fr:Nat×Nat)
   (hI:I b) (hb:w.heap[b]?=some (.cells c E fr)) (hs:off+cs.length≤c.size) (ho:o < cs.length) (h1:One ((c.toList.drop off).take cs.length))
   (hr:qbn w I lp none cs ((c.toList.drop off).take cs.length)):qbr w I lp L (.ptr cs o) (.pointer (some ⟨b,off+o,none⟩))
 | agg {L} (cs:List PV) (vs:Array Value) (h1:One vs.toList) (h:qbn w I lp L cs vs.toList):qbr w I lp L (.agg cs) (.agg vs)
 | iface {L} (t:TypeId) (x:PV) (v:Value) (h:qbr w I lp L x v):qbr w I lp L (.iface t x) (.iface t v)
 | fn {L} (f:FuncId) (cs:List PV) (us vs:Array Value) (hk:us.size=fnK f) (h:qbn w I lp L cs (us.toList++vs.toList)):qbr w I lp L (.fn f cs) (.func (.func (qd2 f)) us vs)
 | yld {L} (d l:Nat) (h:lp d=some l):qbr w I lp L (.yld d) (yv l)
 | tup {L} (xs:List PV) (vs:Array Value) (h:qbn w I lp L xs vs.toList):qbr w I lp L (.tup xs) (.tuple vs)
 | imap {L} (es:List PV) (r:Nat) (ents:Array MapEntry) (clock:Nat) (hI:I r) (hb:w.heap[r]?=some (.map ents clock))
   (hr:qbn w I lp none es (qqf ents.toList)):qbr w I lp L (.imap es) (.map (some r))
 | glob {L} (g:Nat) (t:TypeId) (x:Value) (c:Array Value) (E:TypeId) (fr:Nat×Nat) (hI:I g) (hb:w.heap[g]?=some (.cells c E fr)) (hv:c[0]?=some (.iface t x)):qbr w I lp L (.glob g t) (.iface t x)
 | ref {L:Loc} (nm:Nm) (o b C:Nat) (h:L nm=some (some (b,C))):qbr w I lp (some L) (.ref nm o) (.pointer (some ⟨b,o,none⟩))
 | aref {L:Loc} (nm:Nm) (k i o b C:Nat) (h:L nm=some (some (b,C))):qbr w I lp (some L) (.aref nm k i o) (.pointer (some ⟨b,i*k+o,none⟩))
 | arr {L:Loc} (nm:Nm) (k o n cap b C:Nat) (h:L nm=some (some (b,C))) (hC:(o+cap)*k≤C) (hn:n≤cap) :
   qbr w I lp (some L) (.arr nm k o n) (.slice (some ⟨b,o*k,none⟩) n cap)
 | arrN {L:Loc} (nm:Nm) (k:Nat) (h:L nm=some none):qbr w I lp (some L) (.arr nm k 0 0) (.slice none 0 0)
 | mp {L:Loc} (nm:Nm) (b C:Nat) (h:L nm=some (some (b,C))):qbr w I lp (some L) (.mp nm) (.map (some b))
 | it {L:Loc} (nm:Nm) (b C:Nat) (h:L nm=some (some (b,C))):qbr w I lp (some L) (.it nm) (.pointer (some ⟨b,0,none⟩))
inductive qbn (w:World) (I:Nat→Prop) (lp:Nat→Option Nat):Option Loc→List PV→List Value→Prop
 | nil {L}:qbn w I lp L [] []
 | cons {L} (x:PV) (v:Value) (xs:List PV) (vs:List Value) (h:qbr w I lp L x v) (hs:qbn w I lp L xs vs):qbn w I lp L (x :: xs) (v :: vs)
end
def Qkq (L L':Loc):Prop:=∀ nm p,L nm=some p→L' nm=some p
def lpLe (lp lp':Nat→Option Nat):Prop:=∀ d l,lp d=some l→lp' d=some l
section mono
variable {w w':World} {I I':Nat→Prop} {lp lp':Nat→Option Nat}
mutual
theorem qbr.mono (hI:∀ b,I b→I' b) (hb:∀ b,I b→w'.heap[b]?=w.heap[b]?) (hl:lpLe lp lp') {L:Option Loc} {x:PV} {v:Value}:qbr w I lp L x v→qbr w' I' lp' L x v
 | .undef v=>.undef v
 | .bool b=>.bool b
 | .int k n=>.int k n
 | .str s=>.str s
 | .nilS=>.nilS
 | .nilP=>.nilP
 | .nilF=>.nilF
 | .nilI=>.nilI
 | .nilM=>.nilM
 | .slE k full a cap hf=>.slE k full a cap hf
 | .sl k xs full b off cap c E fr h1 h2 h3 h4 h5 h6 h8 h7=>.sl k xs full b off cap c E fr (hI b h1) ((hb b h1).trans h2) h3 h4 h5 h6 h8 (qbn.mono hI hb hl h7)
 | .ptr cs o b off c E fr h1 h2 h3 h4 h8 h5=>.ptr cs o b off c E fr (hI b h1) ((hb b h1).trans h2) h3 h4 h8 (qbn.mono hI hb hl h5)
 | .agg cs vs h1 h=>.agg cs vs h1 (qbn.mono hI hb hl h)
 | .iface t x v h=>.iface t x v (qbr.mono hI hb hl h)
 | .fn f cs us vs hk h=>.fn f cs us vs hk (qbn.mono hI hb hl h)
 | .yld d l h=>.yld d l (hl d l h)
 | .tup xs vs h=>.tup xs vs (qbn.mono hI hb hl h)
 | .imap es r ents clock h1 h2 h3=>.imap es r ents clock (hI r h1) ((hb r h1).trans h2) (qbn.mono hI hb hl h3)
 | .glob g t x c E fr h1 h2 h3=>.glob g t x c E fr (hI g h1) ((hb g h1).trans h2) h3
 | .ref nm o b C h=>.ref nm o b C h
 | .aref nm k i o b C h=>.aref nm k i o b C h
 | .arr nm k o n cap b C h hC hn=>.arr nm k o n cap b C h hC hn
 | .arrN nm k h=>.arrN nm k h
 | .mp nm b C h=>.mp nm b C h
 | .it nm b C h=>.it nm b C h
theorem qbn.mono (hI:∀ b,I b→I' b) (hb:∀ b,I b→w'.heap[b]?=w.heap[b]?) (hl:lpLe lp lp') {L:Option Loc} {xs:List PV} {vs:List Value}:qbn w I lp L xs vs→qbn w' I' lp' L xs vs
 | .nil=>.nil
 | .cons x v xs vs h hs=>.cons x v xs vs (qbr.mono hI hb hl h) (qbn.mono hI hb hl hs)
end
end mono
section lift
variable {w:World} {I:Nat→Prop} {lp:Nat→Option Nat}
mutual
theorem qbr.lift {x:PV} {v:Value} (L:Option Loc):qbr w I lp none x v→qbr w I lp L x v
 | .undef v=>.undef v
 | .bool b=>.bool b
 | .int k n=>.int k n
 | .str s=>.str s
 | .nilS=>.nilS
 | .nilP=>.nilP
 | .nilF=>.nilF
 | .nilI=>.nilI
 | .nilM=>.nilM
 | .slE k full a cap hf=>.slE k full a cap hf
 | .sl k xs full b off cap c E fr h1 h2 h3 h4 h5 h6 h8 h7=>.sl k xs full b off cap c E fr h1 h2 h3 h4 h5 h6 h8 h7
 | .ptr cs o b off c E fr h1 h2 h3 h4 h8 h5=>.ptr cs o b off c E fr h1 h2 h3 h4 h8 h5
 | .agg cs vs h1 h=>.agg cs vs h1 (h.lift L)
 | .iface t x v h=>.iface t x v (h.lift L)
 | .fn f cs us vs hk h=>.fn f cs us vs hk (h.lift L)
 | .yld d l h=>.yld d l h
 | .tup xs vs h=>.tup xs vs (h.lift L)
 | .imap es r ents clock h1 h2 h3=>.imap es r ents clock h1 h2 h3
 | .glob g t x c E fr h1 h2 h3=>.glob g t x c E fr h1 h2 h3
theorem qbn.lift {xs:List PV} {vs:List Value} (L:Option Loc):qbn w I lp none xs vs→qbn w I lp L xs vs
 | .nil=>.nil
 | .cons x v xs vs h hs=>.cons x v xs vs (h.lift L) (hs.lift L)
end
mutual
theorem qbr.shut {L:Option Loc} {x:PV} {v:Value}:qbr w I lp L x v→x.names=[]→qbr w I lp none x v
 | .undef v,_=>.undef v
 | .bool b,_=>.bool b
 | .int k n,_=>.int k n
 | .str s,_=>.str s
 | .nilS,_=>.nilS
 | .nilP,_=>.nilP
 | .nilF,_=>.nilF
 | .nilI,_=>.nilI
 | .nilM,_=>.nilM
 | .slE k full a cap hf,_=>.slE k full a cap hf
 | .sl k xs full b off cap c E fr h1 h2 h3 h4 h5 h6 h8 h7,_=>.sl k xs full b off cap c E fr h1 h2 h3 h4 h5 h6 h8 h7
 | .ptr cs o b off c E fr h1 h2 h3 h4 h8 h5,_=>.ptr cs o b off c E fr h1 h2 h3 h4 h8 h5
 | .agg cs vs h1 h,e=>.agg cs vs h1 (h.shut (by simpa[PV.names] using e))
 | .iface t x v h,e=>.iface t x v (h.shut (by simpa[PV.names] using e))
 | .fn f cs us vs hk h,e=>.fn f cs us vs hk (h.shut (by simpa[PV.names] using e))
 | .yld d l h,_=>.yld d l h
 | .tup xs vs h,e=>.tup xs vs (h.shut (by simpa[PV.names] using e))
 | .imap es r ents clock h1 h2 h3,_=>.imap es r ents clock h1 h2 h3
 | .glob g t x c E fr h1 h2 h3,_=>.glob g t x c E fr h1 h2 h3
 | .ref nm o b C h,e=>by simp[PV.names] at e
 | .aref nm k i o b C h,e=>by simp[PV.names] at e
 | .arr nm k o n cap b C h hC hn,e=>by simp[PV.names] at e
 | .arrN nm k h,e=>by simp[PV.names] at e
 | .mp nm b C h,e=>by simp[PV.names] at e
 | .it nm b C h,e=>by simp[PV.names] at e
theorem qbn.shut {L:Option Loc} {xs:List PV} {vs:List Value}:qbn w I lp L xs vs→qbd xs=[]→qbn w I lp none xs vs
 | .nil,_=>.nil
 | .cons x v xs vs h hs,e=>.cons x v xs vs (h.shut (List.append_eq_nil_iff.1 e).1) (hs.shut (List.append_eq_nil_iff.1 e).2)
end
mutual
theorem qbr.reloc {L L':Loc} {x:PV} {v:Value}:qbr w I lp (some L) x v→Qkq L L'→qbr w I lp (some L') x v
 | .undef v,_=>.undef v
 | .bool b,_=>.bool b
 | .int k n,_=>.int k n
 | .str s,_=>.str s
 | .nilS,_=>.nilS
 | .nilP,_=>.nilP
 | .nilF,_=>.nilF
 | .nilI,_=>.nilI
 | .nilM,_=>.nilM
 | .slE k full a cap hf,_=>.slE k full a cap hf
 | .sl k xs full b off cap c E fr h1 h2 h3 h4 h5 h6 h8 h7,_=>.sl k xs full b off cap c E fr h1 h2 h3 h4 h5 h6 h8 h7
 | .ptr cs o b off c E fr h1 h2 h3 h4 h8 h5,_=>.ptr cs o b off c E fr h1 h2 h3 h4 h8 h5
 | .agg cs vs h1 h,e=>.agg cs vs h1 (h.reloc e)
 | .iface t x v h,e=>.iface t x v (h.reloc e)
 | .fn f cs us vs hk h,e=>.fn f cs us vs hk (h.reloc e)
 | .yld d l h,_=>.yld d l h
 | .tup xs vs h,e=>.tup xs vs (h.reloc e)
 | .imap es r ents clock h1 h2 h3,_=>.imap es r ents clock h1 h2 h3
 | .glob g t x c E fr h1 h2 h3,_=>.glob g t x c E fr h1 h2 h3
 | .ref nm o b C h,e=>.ref nm o b C (e _ _ h)
 | .aref nm k i o b C h,e=>.aref nm k i o b C (e _ _ h)
 | .arr nm k o n cap b C h hC hn,e=>.arr nm k o n cap b C (e _ _ h) hC hn
 | .arrN nm k h,e=>.arrN nm k (e _ _ h)
 | .mp nm b C h,e=>.mp nm b C (e _ _ h)
 | .it nm b C h,e=>.it nm b C (e _ _ h)
theorem qbn.reloc {L L':Loc} {xs:List PV} {vs:List Value}:qbn w I lp (some L) xs vs→Qkq L L'→qbn w I lp (some L') xs vs
 | .nil,_=>.nil
 | .cons x v xs vs h hs,e=>.cons x v xs vs (h.reloc e) (hs.reloc e)
end
end lift
section lists
variable {w:World} {I:Nat→Prop} {lp:Nat→Option Nat} {L:Option Loc}
theorem qbn.length {xs:List PV} {vs:List Value} (h:qbn w I lp L xs vs):xs.length=vs.length:=by
 induction xs generalizing vs with
 | nil=>cases h;rfl
 | cons x xs ih=>cases h with | cons _ v _ vs h hs=>simp[ih hs]
theorem qbn.get {xs:List PV} {vs:List Value} (h:qbn w I lp L xs vs) {i:Nat} {x:PV} (hx:xs[i]?=some x):∃ v,vs[i]?=some v∧qbr w I lp L x v:=by
 induction xs generalizing vs i with
 | nil=>simp at hx
 | cons y xs ih =>
  cases h with
  | cons _ v _ vs h hs =>
   cases i with
   | zero=>simp at hx;subst hx;exact⟨v,rfl,h⟩
   | succ i=>simp at hx ⊢;exact ih hs hx
theorem qbn.append {xs ys:List PV} {vs us:List Value} (h:qbn w I lp L xs vs) (h':qbn w I lp L ys us):qbn w I lp L (xs++ys) (vs++us):=by
 induction xs generalizing vs with
 | nil=>cases h;exact h'
 | cons x xs ih=>cases h with | cons _ v _ vs h hs=>exact .cons _ _ _ _ h (ih hs)
theorem qbn.take {xs:List PV} {vs:List Value} (h:qbn w I lp L xs vs) (n:Nat):qbn w I lp L (xs.take n) (vs.take n):=by
 induction xs generalizing vs n with
 | nil=>cases h;simp;exact .nil
 | cons x xs ih =>
  cases h with
  | cons _ v _ vs h hs =>
   cases n with
   | zero=>exact .nil
   | succ n=>exact .cons _ _ _ _ h (ih hs n)
theorem qbn.drop {xs:List PV} {vs:List Value} (h:qbn w I lp L xs vs) (n:Nat):qbn w I lp L (xs.drop n) (vs.drop n):=by
 induction xs generalizing vs n with
 | nil=>cases h;simp;exact .nil
 | cons x xs ih =>
  cases h with
  | cons _ v _ vs h hs =>
   cases n with
   | zero=>exact .cons _ _ _ _ h hs
   | succ n=>exact ih hs n
theorem qbn.set {xs:List PV} {vs:List Value} (h:qbn w I lp L xs vs) (i:Nat) {x:PV} {v:Value} (hx:qbr w I lp L x v):qbn w I lp L (xs.set i x) (vs.set i v):=by
 induction xs generalizing vs i with
 | nil=>cases h;exact .nil
 | cons y xs ih =>
  cases h with
  | cons _ u _ vs h hs =>
   cases i with
   | zero=>exact .cons _ _ _ _ hx hs
   | succ i=>exact .cons _ _ _ _ h (ih hs i)
theorem qbn.split {xs ys:List PV} {vs:List Value} (h:qbn w I lp L (xs++ys) vs):∃ us ts,vs=us++ts∧qbn w I lp L xs us∧qbn w I lp L ys ts:=by
 induction xs generalizing vs with
 | nil=>exact⟨[],vs,rfl,.nil,h⟩
 | cons x xs ih =>
  cases h with
  | cons _ v _ vs h hs =>
   obtain⟨us,ts,rfl,h1,h2⟩:=ih hs
   exact⟨v :: us,ts,rfl,.cons _ _ _ _ h h1,h2⟩
theorem qbn.undefs (n:Nat) (vs:List Value) (h:vs.length=n):qbn w I lp L (List.replicate n .undef) vs:=by
 induction n generalizing vs with
 | zero=>cases vs with | nil=>exact .nil | cons v vs=>simp at h
 | succ n ih=>cases vs with | nil=>simp at h | cons v vs=>exact .cons _ _ _ _ (.undef v) (ih vs (by simpa using h))
theorem qbn.getD {xs:List PV} {vs:List Value} (h:qbn w I lp L xs vs) (i:Nat) (d:Value):qbr w I lp L (xs.getD i .undef) (vs.getD i d):=by
 cases hx:xs[i]? with
 | none=>rw[List.getD_eq_getElem?_getD,hx];exact .undef _
 | some x =>
  obtain⟨v,hv,hr⟩:=h.get hx
  rw[List.getD_eq_getElem?_getD,List.getD_eq_getElem?_getD,hx,hv];exact hr
theorem qbr.cells {x:PV} {v:Value} (h:qbr w I lp L x v) (hu:x.isVal=true):One v.cells.toList∧qbn w I lp L x.cells v.cells.toList:=by
 cases h<;>first
  |(simp[PV.isVal] at hu;done)
  |(simp only[PV.cells,Value.cells];exact⟨by simp[One,Value.oneCell'],.cons _ _ _ _ (by constructor<;>assumption) .nil⟩)
  |(simp only[PV.cells,Value.cells];exact⟨by assumption,by assumption⟩)
  |(rename_i d l hl;rw[yv_cells];exact⟨by simp[One,yv_one],.cons _ _ _ _ (.yld d l hl) .nil⟩)
theorem qfe (xs ys:List PV):cellsL (xs++ys)=cellsL xs++cellsL ys:=by
 induction xs with
 | nil=>rfl
 | cons x xs ih=>simp[cellsL,ih]
theorem qfd {k:Nat} {xs:List PV} (h:∀ x∈xs,x.cells.length=k):(cellsL xs).length=xs.length*k:=by
 induction xs with
 | nil=>simp[cellsL]
 | cons x xs ih =>
  simp only[cellsL,List.length_append,List.length_cons,h x (by simp),ih fun y hy=>h y (by simp[hy])]
  rw[Nat.add_mul,Nat.one_mul,Nat.add_comm]
theorem qho {k:Nat} {xs:List PV} (h:∀ x∈xs,x.cells.length=k) (i:Nat):cellsL (xs.drop i)=(cellsL xs).drop (i*k):=by
 induction xs generalizing i with
 | nil=>simp[cellsL]
 | cons x xs ih =>
  cases i with
  | zero=>simp
  | succ i =>
   simp only[List.drop_succ_cons,cellsL]
   have hx:=h x (by simp)
   rw[ih (fun y hy=>h y (by simp[hy])) i,show (i+1)*k=x.cells.length+i*k from by rw[Nat.add_mul,Nat.one_mul,Nat.add_comm,hx],←List.drop_drop,List.drop_left]
theorem qfz {k:Nat} {xs:List PV} (h:∀ x∈xs,x.cells.length=k) (i:Nat):cellsL (xs.take i)=(cellsL xs).take (i*k):=by
 induction xs generalizing i with
 | nil=>simp[cellsL]
 | cons x xs ih =>
  cases i with
  | zero=>simp[cellsL]
  | succ i =>
   simp only[List.take_succ_cons,cellsL]
   rw[ih (fun y hy=>h y (by simp[hy])) i,List.take_append]
   have hx:=h x (by simp)
   rw[show (i+1)*k=k+i*k from by rw[Nat.add_mul,Nat.one_mul,Nat.add_comm],List.take_of_length_le (l:=x.cells) (by omega),hx,Nat.add_sub_cancel_left]
theorem qta {k:Nat} {xs:List PV} (h:∀ x∈xs,x.cells.length=k) {i:Nat} {x:PV} (hx:xs[i]?=some x):((cellsL xs).drop (i*k)).take k=x.cells:=by
 rw[←qho h]
 have hd:xs.drop i=x :: xs.drop (i+1):=by
  obtain⟨hi,rfl⟩:=List.getElem?_eq_some_iff.1 hx
  exact List.drop_eq_getElem_cons hi
 rw[hd,cellsL,List.take_append,List.take_of_length_le (by have:=h x (List.mem_of_getElem? hx);omega)]
 have:=h x (List.mem_of_getElem? hx)
 simp[this]
end lists
def ObRep (w:World) (I:Nat→Prop) (lp:Nat→Option Nat) (L:Loc) (b C:Nat):Ob→Prop
 | .cells ty cs=>∃ c E,w.heap[b]?=some (.cells c E (0,0))∧c.size=C∧(One c.toList∧(ty=0∨E=ty))∧qbn w I lp (some L) cs c.toList
 | .arr k kt xs=>∃ c E,w.heap[b]?=some (.cells c E (0,0))∧c.size=C∧(xs.length*k≤C∧(kt=0∨E=kt))∧(∀ x∈xs,x.cells.length=k)∧One (c.toList.take (xs.length*k))∧qbn w I lp none (cellsL xs) (c.toList.take (xs.length*k))
 | .map es=>∃ ents clock,w.heap[b]?=some (.map ents clock)∧qbn w I lp none es (qqf ents.toList)
 | .siter s pos=>w.heap[b]?=some (.stringIter ⟨s.toArray⟩ pos)
def qha (w:World) (I:Nat→Prop) (lp:Nat→Option Nat) (L:Loc) (ob:Ob):Option (Nat×Nat)→Prop
 | some (b,C)=>ObRep w I lp L b C ob
 | none=>∃ k kt,ob=.arr k kt []
theorem qha.mono {w w':World} {I I':Nat→Prop} {lp lp':Nat→Option Nat} {L:Loc} {p:Option (Nat×Nat)} {ob:Ob} (h:qha w I lp L ob p)
  (hI:∀ b,I b→I' b) (hb:∀ b,I b→w'.heap[b]?=w.heap[b]?) (hl:lpLe lp lp') (hw:∀ b C,p=some (b,C)→w'.heap[b]?=w.heap[b]?):qha w' I' lp' L ob p:=by
 cases p with
 | none=>exact h
 | some p =>
  obtain⟨b,C⟩:=p
  have hw:=hw b C rfl
  cases ob with
  | cells ty cs=>obtain⟨c,E,h1,h2,h4,h3⟩:=h;exact⟨c,E,hw.trans h1,h2,h4,qbn.mono hI hb hl h3⟩
  | arr k kt xs=>obtain⟨c,E,h1,h2,h3,h4,h6,h5⟩:=h;exact⟨c,E,hw.trans h1,h2,h3,h4,h6,qbn.mono hI hb hl h5⟩
  | map es=>obtain⟨c,E,h1,h2⟩:=h;exact⟨c,E,hw.trans h1,qbn.mono hI hb hl h2⟩
  | siter s pos=>exact hw.trans h
theorem qha.reloc {w:World} {I:Nat→Prop} {lp:Nat→Option Nat} {L L':Loc} {p:Option (Nat×Nat)} {ob:Ob} (h:qha w I lp L ob p) (hL:Qkq L L'):qha w I lp L' ob p:=by
 cases p with
 | none=>exact h
 | some p =>
  cases ob with
  | cells ty cs=>obtain⟨c,E,h1,h2,h4,h3⟩:=h;exact⟨c,E,h1,h2,h4,h3.reloc hL⟩
  | arr k kt xs=>exact h
  | map es=>exact h
  | siter s pos=>exact h
def ObShut (w:World) (I:Nat→Prop) (lp:Nat→Option Nat) (b:Nat):Ob→Prop
 | .cells _ cs=>I b∧∃ c E fr,w.heap[b]?=some (.cells c E fr)∧cs.length≤c.size∧One (c.toList.take cs.length)∧qbn w I lp none cs (c.toList.take cs.length)
 | .arr k kt xs=>I b∧∃ c E fr,w.heap[b]?=some (.cells c E fr)∧xs.length*k≤c.size∧(∀ x∈xs,x.cells.length=k)∧One (c.toList.take (xs.length*k))∧qbn w I lp none (cellsL xs) (c.toList.take (xs.length*k))
 | .map es=>I b∧∃ ents clock,w.heap[b]?=some (.map ents clock)∧qbn w I lp none es (qqf ents.toList)
 | .siter _ _=>True
def qko (w:World) (I':Nat→Prop) (lp:Nat→Option Nat) (L:Loc) (L':Option Loc) (S:Nm→Prop) (f:Nm→Option (Option Ob)):Prop :=
 ∀ nm p,S nm→L nm=some p→match f nm with
  | none=>∃ M,L'=some M∧M nm=some p
  | some none=>True
  | some (some ob)=>match p with
   | some (b,_)=>ObShut w I' lp b ob
   | none=>∃ k kt,ob=.arr k kt []
section sub
variable {w:World} {I I':Nat→Prop} {lp:Nat→Option Nat} {L:Loc} {L':Option Loc} {S:Nm→Prop} {f:Nm→Option (Option Ob)}
theorem sub_ref (hs:qko w I' lp L L' S f) (nm:Nm) (hS:S nm) (o b C:Nat) (h:L nm=some (some (b,C))) :
  qbr w I' lp L' ((PV.ref nm o).sub f) (.pointer (some ⟨b,o,none⟩)):=by
 have:=hs nm _ hS h
 simp only[PV.sub]
 split at this
 ·rename_i hf;obtain⟨M,rfl,hM⟩:=this;rw[hf];exact .ref nm o b C hM
 ·rename_i hf;rw[hf];exact .undef _
 ·rename_i ob hf
  rw[hf]
  cases ob with
  | cells ty cs =>
   obtain⟨hi,c,E,fr,h1,h2,h5,h3⟩:=this
   simp only
   split
   ·rename_i ho
    have:=qbr.ptr (w:=w) (I:=I') (lp:=lp) (L:=L') cs o b 0 c E fr hi h1 (by omega) ho (by simpa using h5) (by simpa using h3)
    simpa using this
   ·exact .undef _
  | arr k kt xs=>exact .undef _
  | map es=>exact .undef _
  | siter s p=>exact .undef _
theorem sub_aref (hs:qko w I' lp L L' S f) (nm:Nm) (hS:S nm) (k i o b C:Nat) (h:L nm=some (some (b,C))) :
  qbr w I' lp L' ((PV.aref nm k i o).sub f) (.pointer (some ⟨b,i*k+o,none⟩)):=by
 have:=hs nm _ hS h
 simp only[PV.sub]
 split at this
 ·rename_i hf;obtain⟨M,rfl,hM⟩:=this;rw[hf];exact .aref nm k i o b C hM
 ·rename_i hf;rw[hf];exact .undef _
 ·rename_i ob hf
  rw[hf]
  cases ob with
  | arr k' kt xs =>
   obtain⟨hi,c,E,fr,h1,h2,h3,h5,h4⟩:=this
   simp only
   split
   ·rename_i hk
    subst hk
    split
    ·rename_i x hx
     split
     ·rename_i ho
      have hkx:=h3 x (List.mem_of_getElem? hx)
      have hlt:=(List.getElem?_eq_some_iff.1 hx).1
      have hle:(i+1)*k≤xs.length*k:=Nat.mul_le_mul_right _ hlt
      rw[Nat.add_mul,Nat.one_mul] at hle
      have e:((c.toList.take (xs.length*k)).drop (i*k)).take k=(c.toList.drop (i*k)).take k:=by
       rw[List.drop_take,List.take_take,Nat.min_eq_left (by omega)]
      refine qbr.ptr x.cells o b (i*k) c E fr hi h1 (by omega) ho ?_ ?_
      ·rw[hkx,←e];exact (h5.drop' _).take' _
      ·have:=(h4.drop (i*k)).take k
       rw[qta h3 hx] at this
       rw[hkx]
       rwa [e] at this
     ·exact .undef _
    ·exact .undef _
   ·exact .undef _
  | cells ty cs=>exact .undef _
  | map es=>exact .undef _
  | siter s p=>exact .undef _
theorem sub_arr (hs:qko w I' lp L L' S f) (nm:Nm) (hS:S nm) (k o n cap b C:Nat) (h:L nm=some (some (b,C))) (hC:(o+cap)*k≤C) (hn:n≤cap) :
  qbr w I' lp L' ((PV.arr nm k o n).sub f) (.slice (some ⟨b,o*k,none⟩) n cap):=by
 have:=hs nm _ hS h
 simp only[PV.sub]
 split at this
 ·rename_i hf;obtain⟨M,rfl,hM⟩:=this;rw[hf];exact .arr nm k o n cap b C hM hC hn
 ·rename_i hf;rw[hf];exact .undef _
 ·rename_i ob hf
  rw[hf]
  cases ob with
  | arr k' kt xs =>
   obtain⟨hi,c,E,fr,h1,h2,h3,h5,h4⟩:=this
   simp only
   split
   ·rename_i hk
    obtain⟨rfl,hon⟩:=hk
    have hlen:((xs.drop o).take n).length=n:=by simp;omega
    have hm:∀ x∈(xs.drop o).take n,x.cells.length=k:=fun x hx=>h3 x (List.mem_of_mem_drop (List.mem_of_mem_take hx))
    have hle:(o+n)*k≤xs.length*k:=Nat.mul_le_mul_right _ hon
    rw[Nat.add_mul] at hle
    have e:((c.toList.take (xs.length*k)).drop (o*k)).take (n*k)=(c.toList.drop (o*k)).take (n*k):=by
     rw[List.drop_take,List.take_take,Nat.min_eq_left (by omega)]
    have key:=qbr.sl (w:=w) (I:=I') (lp:=lp) (L:=L') k ((xs.drop o).take n) false b (o*k) cap c E fr hi h1 (by rw[hlen];omega) hm (by rw[hlen];exact hn) (by simp) ?_ ?_
    ·rwa [hlen] at key
    ·rw[hlen,←e];exact (h5.drop' _).take' _
    ·rw[hlen]
     have:=(h4.drop (o*k)).take (n*k)
     rw[←qho h3,←qfz (fun x hx=>h3 x (List.mem_of_mem_drop hx))] at this
     rwa [e] at this
   ·exact .undef _
  | cells ty cs=>exact .undef _
  | map es=>exact .undef _
  | siter s p=>exact .undef _
theorem sub_arrN (hs:qko w I' lp L L' S f) (nm:Nm) (hS:S nm) (k:Nat) (h:L nm=some none) :
  qbr w I' lp L' ((PV.arr nm k 0 0).sub f) (.slice none 0 0):=by
 have:=hs nm _ hS h
 simp only[PV.sub]
 split at this
 ·rename_i hf;obtain⟨M,rfl,hM⟩:=this;rw[hf];exact .arrN nm k hM
 ·rename_i hf;rw[hf];exact .undef _
 ·rename_i ob hf
  obtain⟨k',kt,rfl⟩:=this
  rw[hf]
  simp only
  split
  ·rename_i hk
   obtain⟨rfl,_⟩:=hk
   simpa using qbr.slE k false none 0 (by simp)
  ·exact .undef _
theorem sub_mp (hs:qko w I' lp L L' S f) (nm:Nm) (hS:S nm) (b C:Nat) (h:L nm=some (some (b,C))):qbr w I' lp L' ((PV.mp nm).sub f) (.map (some b)):=by
 have:=hs nm _ hS h
 simp only[PV.sub]
 split at this
 ·rename_i hf;obtain⟨M,rfl,hM⟩:=this;rw[hf];exact .mp nm b C hM
 ·rename_i hf;rw[hf];exact .undef _
 ·rename_i ob hf
  rw[hf]
  cases ob with
  | map es=>obtain⟨hi,ents,clock,h1,h2⟩:=this;exact .imap es b ents clock hi h1 h2
  | cells ty cs=>exact .undef _
  | arr k kt xs=>exact .undef _
  | siter s p=>exact .undef _
theorem sub_it (hs:qko w I' lp L L' S f) (nm:Nm) (hS:S nm) (b C:Nat) (h:L nm=some (some (b,C))):qbr w I' lp L' ((PV.it nm).sub f) (.pointer (some ⟨b,0,none⟩)):=by
 have:=hs nm _ hS h
 simp only[PV.sub]
 split at this
 ·rename_i hf;obtain⟨M,rfl,hM⟩:=this;rw[hf];exact .it nm b C hM
 ·rename_i hf;rw[hf];exact .undef _
 ·rename_i ob hf;rw[hf];exact .undef _
mutual
theorem qbr.subst (hI:∀ b,I b→I' b) (hs:qko w I' lp L L' S f) {x:PV} {v:Value}:qbr w I lp (some L) x v→(∀ nm∈x.names,S nm)→qbr w I' lp L' (x.sub f) v
 | .undef v,_=>.undef v
 | .bool b,_=>.bool b
 | .int k n,_=>.int k n
 | .str s,_=>.str s
 | .nilS,_=>.nilS
 | .nilP,_=>.nilP
 | .nilF,_=>.nilF
 | .nilI,_=>.nilI
 | .nilM,_=>.nilM
 | .slE k full a cap hf,_=>.slE k full a cap hf
 | .sl k xs full b off cap c E fr h1 h2 h3 h4 h5 h6 h8 h7,_=>.sl k xs full b off cap c E fr (hI b h1) h2 h3 h4 h5 h6 h8 (qbn.mono hI (fun _ _=>rfl) (fun _ _ h=>h) h7)
 | .ptr cs o b off c E fr h1 h2 h3 h4 h8 h5,_=>.ptr cs o b off c E fr (hI b h1) h2 h3 h4 h8 (qbn.mono hI (fun _ _=>rfl) (fun _ _ h=>h) h5)
 | .agg cs vs h1 h,e=>.agg _ vs h1 (qbn.subst hI hs h fun nm hn=>e nm (by simpa[PV.names] using hn))
 | .iface t x v h,e=>.iface t _ v (qbr.subst hI hs h fun nm hn=>e nm (by simpa[PV.names] using hn))
 | .fn g cs us vs hk h,e=>.fn g _ us vs hk (qbn.subst hI hs h fun nm hn=>e nm (by simpa[PV.names] using hn))
 | .yld d l h,_=>.yld d l h
 | .tup xs vs h,e=>.tup _ vs (qbn.subst hI hs h fun nm hn=>e nm (by simpa[PV.names] using hn))
 | .imap es r ents clock h1 h2 h3,_=>.imap es r ents clock (hI r h1) h2 (qbn.mono hI (fun _ _=>rfl) (fun _ _ h=>h) h3)
 | .glob g t x c E fr h1 h2 h3,_=>.glob g t x c E fr (hI g h1) h2 h3
 | .ref nm o b C h,e=>sub_ref hs nm (e nm (by simp[PV.names])) o b C h
 | .aref nm k i o b C h,e=>sub_aref hs nm (e nm (by simp[PV.names])) k i o b C h
 | .arr nm k o n cap b C h hC hn,e=>sub_arr hs nm (e nm (by simp[PV.names])) k o n cap b C h hC hn
 | .arrN nm k h,e=>sub_arrN hs nm (e nm (by simp[PV.names])) k h
 | .mp nm b C h,e=>sub_mp hs nm (e nm (by simp[PV.names])) b C h
 | .it nm b C h,e=>sub_it hs nm (e nm (by simp[PV.names])) b C h
theorem qbn.subst (hI:∀ b,I b→I' b) (hs:qko w I' lp L L' S f) {xs:List PV} {vs:List Value}:qbn w I lp (some L) xs vs→(∀ nm∈qbd xs,S nm)→qbn w I' lp L' (qdy f xs) vs
 | .nil,_=>.nil
 | .cons x v xs vs h h',e=>.cons _ v _ vs (qbr.subst hI hs h fun nm hn=>e nm (List.mem_append_left _ hn)) (qbn.subst hI hs h' fun nm hn=>e nm (List.mem_append_right _ hn))
end
end sub
section ren
variable {w:World} {I:Nat→Prop} {lp:Nat→Option Nat} {L L':Loc} {f:Nm→Nm}
mutual
theorem qbr.rename (hf:∀ nm p,L nm=some p→L' (f nm)=some p) {x:PV} {v:Value}:qbr w I lp (some L) x v→qbr w I lp (some L') (x.ren f) v
 | .undef v=>.undef v
 | .bool b=>.bool b
 | .int k n=>.int k n
 | .str s=>.str s
 | .nilS=>.nilS
 | .nilP=>.nilP
 | .nilF=>.nilF
 | .nilI=>.nilI
 | .nilM=>.nilM
 | .slE k full a cap hf=>.slE k full a cap hf
 | .sl k xs full b off cap c E fr h1 h2 h3 h4 h5 h6 h8 h7=>.sl k xs full b off cap c E fr h1 h2 h3 h4 h5 h6 h8 h7
 | .ptr cs o b off c E fr h1 h2 h3 h4 h8 h5=>.ptr cs o b off c E fr h1 h2 h3 h4 h8 h5
 | .agg cs vs h1 h=>.agg _ vs h1 (qbn.rename hf h)
 | .iface t x v h=>.iface t _ v (qbr.rename hf h)
 | .fn g cs us vs hk h=>.fn g _ us vs hk (qbn.rename hf h)
 | .yld d l h=>.yld d l h
 | .tup xs vs h=>.tup _ vs (qbn.rename hf h)
 | .imap es r ents clock h1 h2 h3=>.imap es r ents clock h1 h2 h3
 | .glob g t x c E fr h1 h2 h3=>.glob g t x c E fr h1 h2 h3
 | .ref nm o b C h=>.ref _ o b C (hf _ _ h)
 | .aref nm k i o b C h=>.aref _ k i o b C (hf _ _ h)
 | .arr nm k o n cap b C h hC hn=>.arr _ k o n cap b C (hf _ _ h) hC hn
 | .arrN nm k h=>.arrN _ k (hf _ _ h)
 | .mp nm b C h=>.mp _ b C (hf _ _ h)
 | .it nm b C h=>.it _ b C (hf _ _ h)
theorem qbn.rename (hf:∀ nm p,L nm=some p→L' (f nm)=some p) {xs:List PV} {vs:List Value}:qbn w I lp (some L) xs vs→qbn w I lp (some L') (qf1 f xs) vs
 | .nil=>.nil
 | .cons x v xs vs h h'=>.cons _ v _ vs (qbr.rename hf h) (qbn.rename hf h')
end
end ren
end Go.Ab


namespace Go.Ab
theorem qde (g:Ob→Ob) (σ:List (List Ob)) (nm:Nm):qbf (σ.map (·.map g)) nm=(qbf σ nm).map g:=by
 unfold qbf
 rw[List.getElem?_map]
 cases σ[nm.1]? with
 | none=>rfl
 | some l=>simp
theorem qds {σ:List (List Ob)} {nm:Nm} {ob:Ob} (o:Ob) (h:qbf σ nm=some ob):qbf (qb9 σ nm o) nm=some o:=by
 unfold qbf at h
 unfold qbf qb9
 cases hl:σ[nm.1]? with
 | none=>rw[hl] at h;cases h
 | some l =>
  rw[hl] at h
  have h1:=(List.getElem?_eq_some_iff.1 hl).1
  have h2:=(List.getElem?_eq_some_iff.1 h).1
  simp[h1,h2]
theorem qce {σ:List (List Ob)} {nm m:Nm} (o:Ob) (h:m≠nm):qbf (qb9 σ nm o) m=qbf σ m:=by
 unfold qbf qb9
 cases hl:σ[nm.1]? with
 | none=>rfl
 | some l =>
  by_cases h1:m.1=nm.1
  ·have h2:m.2≠nm.2:=fun e=>h (Prod.ext h1 e)
   have hlt:=(List.getElem?_eq_some_iff.1 hl).1
   rw[h1,hl,List.getElem?_set_self hlt]
   simp[List.getElem?_set_ne (Ne.symm h2)]
  ·rw[List.getElem?_set_ne (Ne.symm h1)]
theorem qdt {σ:List (List Ob)} {nm m:Nm} (o:Ob):qbf (qb9 σ nm o) m=none↔qbf σ m=none:=by
 by_cases h:m=nm
 ·subst h
  cases hl:qbf σ m with
  | some ob=>rw[qds o hl];simp
  | none =>
   unfold qbf at hl
   unfold qbf qb9
   cases hs:σ[m.1]? with
   | none=>simp[hs]
   | some l =>
    rw[hs] at hl
    have h1:=(List.getElem?_eq_some_iff.1 hs).1
    simp[h1]
    exact List.getElem?_eq_none_iff.1 hl
 ·rw[qce o h]
theorem qb0 {σ:List (List Ob)} {d:Nat} (obs:List Ob) (hd:d < σ.length) (j:Nat):qbf (σ.set d obs) (d,j)=obs[j]?:=by
 unfold qbf;simp[hd]
theorem qbw {σ:List (List Ob)} {d:Nat} (obs:List Ob) {m:Nm} (h:m.1≠d):qbf (σ.set d obs) m=qbf σ m:=by
 unfold qbf;rw[List.getElem?_set_ne (Ne.symm h)]
structure SR (lp:Nat→Option Nat) (I:Nat→Prop) (L:Loc) (st:St) (tmv suf:List Value) (w:World):Prop where
 tm:qbn w I lp (some L) st.tmps tmv
 kp:qbn w I lp (some L) st.keep suf
 ob:∀ nm ob,qbf st.objs nm=some ob→∃ p,L nm=some p∧qha w I lp L ob p
 dom:∀ nm,qbf st.objs nm=none→L nm=none
section sr
variable {lp:Nat→Option Nat} {I I':Nat→Prop} {L L':Loc} {st:St} {tmv suf:List Value} {w w':World}
theorem SR.keeps (h:SR lp I L st tmv suf w) (hI:∀ b,I b→I' b) (hb:∀ b,I b→w'.heap[b]?=w.heap[b]?)
  (ho:∀ nm b C,L nm=some (some (b,C))→w'.heap[b]?=w.heap[b]?):SR lp I' L st tmv suf w' where
 tm:=qbn.mono hI hb (fun _ _ h=>h) h.tm
 kp:=qbn.mono hI hb (fun _ _ h=>h) h.kp
 ob nm ob hl:=by
  obtain⟨p,hp,ha⟩:=h.ob nm ob hl
  exact⟨p,hp,ha.mono hI hb (fun _ _ h=>h) fun b C e=>ho nm b C (by rw[hp,e])⟩
 dom:=h.dom
theorem SR.put (h:SR lp I L st tmv suf w) (d:Nat) {v:PV} {v':Value} (hv:qbr w I lp (some L) v v'):SR lp I L {st with tmps:=st.tmps.set d v} (tmv.set d v') suf w :=
 {h with tm:=h.tm.set d hv}
def qdn (L:Loc) (d:Nat) (ps:List (Option (Nat×Nat))):Loc:=fun nm=>if nm.1=d then ps[nm.2]? else L nm
theorem SR.fresh (h:SR lp I L st tmv suf w) {d:Nat} (hd:st.objs[d]?=some []) (ps:List (Option (Nat×Nat))):Qkq L (qdn L d ps):=by
 intro nm p hp
 unfold qdn
 split
 ·rename_i hn
  exfalso
  have:=h.dom nm (by unfold qbf;rw[hn,hd];rfl)
  rw[hp] at this;cases this
 ·exact hp
theorem SR.news (h:SR lp I L st tmv suf w) {d:Nat} (hd:st.objs[d]?=some []) (obs:List Ob) (ps:List (Option (Nat×Nat))) (hl:ps.length=obs.length)
  (hob:∀ (j:Nat) (ob:Ob) (p:Option (Nat×Nat)),obs[j]?=some ob→ps[j]?=some p→qha w I lp (qdn L d ps) ob p) :
  SR lp I (qdn L d ps) {st with objs:=st.objs.set d obs} tmv suf w where
 tm:=h.tm.reloc (h.fresh hd ps)
 kp:=h.kp.reloc (h.fresh hd ps)
 ob nm ob hlk:=by
  by_cases hn:nm.1=d
  ·obtain⟨a,j⟩:=nm
   simp only at hn;subst hn
   simp only at hlk
   rw[qb0 obs (List.getElem?_eq_some_iff.1 hd).1] at hlk
   have hj:=(List.getElem?_eq_some_iff.1 hlk).1
   refine⟨ps[j]'(by omega),by simp[qdn,hl,hj],hob j ob _ hlk (by simp[hl,hj])⟩
  ·simp only at hlk
   rw[qbw obs hn] at hlk
   obtain⟨p,hp,ha⟩:=h.ob nm ob hlk
   exact⟨p,by simp[qdn,hn,hp],ha.reloc (h.fresh hd ps)⟩
 dom nm hlk:=by
  by_cases hn:nm.1=d
  ·obtain⟨a,j⟩:=nm
   simp only at hn;subst hn
   simp only at hlk
   rw[qb0 obs (List.getElem?_eq_some_iff.1 hd).1] at hlk
   have:=List.getElem?_eq_none_iff.1 hlk
   simp only[qdn,if_true]
   exact List.getElem?_eq_none_iff.2 (by omega)
  ·simp only at hlk
   rw[qbw obs hn] at hlk
   simp only[qdn,hn,if_false]
   exact h.dom nm hlk
theorem SR.upd (h:SR lp I L st tmv suf w) {nm:Nm} {ob':Ob} {p:Option (Nat×Nat)} (hp:L nm=some p) (hb:∀ b,I b→w'.heap[b]?=w.heap[b]?)
  (ho:∀ m b C,m≠nm→L m=some (some (b,C))→w'.heap[b]?=w.heap[b]?) (hob:qha w' I lp L ob' p) :
  SR lp I L {st with objs:=qb9 st.objs nm ob'} tmv suf w' where
 tm:=qbn.mono (fun _ h=>h) hb (fun _ _ h=>h) h.tm
 kp:=qbn.mono (fun _ h=>h) hb (fun _ _ h=>h) h.kp
 ob m ob hl:=by
  simp only at hl
  by_cases hm:m=nm
  ·subst hm
   have hsome:∃ o,qbf st.objs m=some o:=by
    cases hk:qbf st.objs m with
    | some o=>exact⟨o,rfl⟩
    | none=>have:=h.dom m hk;rw[hp] at this;cases this
   obtain⟨o,hk⟩:=hsome
   rw[qds ob' hk] at hl
   cases hl
   exact⟨p,hp,hob⟩
  ·rw[qce ob' hm] at hl
   obtain⟨q,hq,ha⟩:=h.ob m ob hl
   exact⟨q,hq,ha.mono (fun _ h=>h) hb (fun _ _ h=>h) fun b C e=>ho m b C hm (by rw[hq,e])⟩
 dom m hl:=by
  simp only at hl
  exact h.dom m ((qdt ob').1 hl)
theorem qha.subst {S:Nm→Prop} {f:Nm→Option (Option Ob)} {ob:Ob} {p:Option (Nat×Nat)} (h:qha w I lp L ob p) (hI:∀ b,I b→I' b) (hb:∀ b,I b→w'.heap[b]?=w.heap[b]?)
  (hs:qko w' I' lp L (some L') S f) (hn:∀ nm∈ob.names,S nm) (hw:∀ b C,p=some (b,C)→w'.heap[b]?=w.heap[b]?):qha w' I' lp L' (ob.sub f) p:=by
 cases p with
 | none=>obtain⟨k,kt,rfl⟩:=h;exact⟨k,kt,rfl⟩
 | some p =>
  obtain⟨b,C⟩:=p
  have hw:=hw b C rfl
  cases ob with
  | cells ty cs =>
   obtain⟨c,E,h1,h2,h4,h3⟩:=h
   exact⟨c,E,hw.trans h1,h2,h4,qbn.subst hI hs (qbn.mono (fun _ h=>h) hb (fun _ _ h=>h) h3) hn⟩
  | arr k kt xs=>obtain⟨c,E,h1,h2,h3,h4,h6,h5⟩:=h;exact⟨c,E,hw.trans h1,h2,h3,h4,h6,qbn.mono hI hb (fun _ _ h=>h) h5⟩
  | map es=>obtain⟨c,E,h1,h2⟩:=h;exact⟨c,E,hw.trans h1,qbn.mono hI hb (fun _ _ h=>h) h2⟩
  | siter s pos=>exact hw.trans h
theorem SR.subst (h:SR lp I L st tmv suf w) {f:Nm→Option (Option Ob)} {objs':List (List Ob)} (hI:∀ b,I b→I' b) (hb:∀ b,I b→w'.heap[b]?=w.heap[b]?)
  (hs:qko w' I' lp L (some L') (fun _=>True) f)
  (hob:∀ nm ob,qbf objs' nm=some ob→∃ p,L' nm=some p∧qha w' I' lp L' ob p) (hdom:∀ nm,qbf objs' nm=none→L' nm=none) :
  SR lp I' L' {tmps:=qdy f st.tmps,objs:=objs',keep:=qdy f st.keep} tmv suf w' where
 tm:=qbn.subst hI hs (qbn.mono (fun _ h=>h) hb (fun _ _ h=>h) h.tm) fun _ _=>trivial
 kp:=qbn.subst hI hs (qbn.mono (fun _ h=>h) hb (fun _ _ h=>h) h.kp) fun _ _=>trivial
 ob:=hob
 dom:=hdom
theorem SR.regrow (h:SR lp I L st tmv suf w) {nm:Nm} {k kt:Nat} {xs:List PV} {p p':Option (Nat×Nat)} (hp:L nm=some p) (hb:∀ b,I b→w'.heap[b]?=w.heap[b]?)
  (ho:∀ m b C,m≠nm→L m=some (some (b,C))→w'.heap[b]?=w.heap[b]?)
  (hob:qha w' I lp (fun m=>if m=nm then some p' else L m) (.arr k kt xs) p') :
  SR lp I (fun m=>if m=nm then some p' else L m) (qhf (fun m=>if m=nm then some none else none) {st with objs:=qb9 st.objs nm (.arr k kt xs)}) tmv suf w':=by
 have hs:qko w' I lp L (some fun m=>if m=nm then some p' else L m) (fun _=>True) (fun m=>if m=nm then some none else none):=by
  intro m q _ hq
  by_cases hm:m=nm
  ·simp[hm]
  ·simp[hm,hq]
 obtain⟨o,hk⟩:∃ o,qbf st.objs nm=some o:=by
  cases hk:qbf st.objs nm with
  | some o=>exact⟨o,rfl⟩
  | none=>have:=h.dom nm hk;rw[hp] at this;cases this
 refine h.subst (fun _ h=>h) hb hs ?_ ?_
 ·intro m ob hl
  simp only[qde,Option.map_eq_some_iff] at hl
  obtain⟨ob0,hl,rfl⟩:=hl
  by_cases hm:m=nm
  ·subst hm
   rw[qds _ hk] at hl
   cases hl
   exact⟨p',by simp,hob⟩
  ·rw[qce _ hm] at hl
   obtain⟨q,hq,ha⟩:=h.ob m ob0 hl
   exact⟨q,by simp[hm,hq],ha.subst (fun _ h=>h) hb hs (fun _ _=>trivial) fun b C e=>ho m b C hm (by rw[hq,e])⟩
 ·intro m hl
  simp only[qde,Option.map_eq_none_iff] at hl
  have hl':=(qdt _).1 hl
  by_cases hm:m=nm
  ·subst hm;rw[hk] at hl';cases hl'
  ·simp[hm,h.dom m hl']
end sr
structure Ext (I F:Nat→Prop) (w:World) (I' F':Nat→Prop) (w':World):Prop where
 os:w'.os=w.os
 tape:w'.tape=w.tape
 output:w'.output=w.output
 size:w.heap.size≤w'.heap.size
 keep:∀ b,b < w.heap.size→¬ F b→w'.heap[b]?=w.heap[b]?
 subI:∀ b,I b→I' b
 newI:∀ b,I' b→I b∨F b∨w.heap.size≤b
 newF:∀ b,F' b→F b∨w.heap.size≤b
theorem Ext.refl (I F:Nat→Prop) (w:World):Ext I F w I F w:=⟨rfl,rfl,rfl,Nat.le_refl _,fun _ _ _=>rfl,fun _ h=>h,fun _ h=>.inl h,fun _ h=>.inl h⟩
theorem Ext.trans {I F I' F' I'' F'':Nat→Prop} {w w' w'':World} (h:Ext I F w I' F' w') (h':Ext I' F' w' I'' F'' w''):Ext I F w I'' F'' w'' where
 os:=h'.os.trans h.os
 tape:=h'.tape.trans h.tape
 output:=h'.output.trans h.output
 size:=Nat.le_trans h.size h'.size
 keep b hb hF:=(h'.keep b (Nat.lt_of_lt_of_le hb h.size) fun hf=>(h.newF b hf).elim hF fun h1=>by omega).trans (h.keep b hb hF)
 subI b hb:=h'.subI b (h.subI b hb)
 newI b hb:=by
  rcases h'.newI b hb with h1 | h1 | h1
  ·exact h.newI b h1
  ·exact .inr (h.newF b h1)
  ·exact .inr (.inr (Nat.le_trans h.size h1))
 newF b hb:=(h'.newF b hb).elim (h.newF b) fun h1=>.inr (Nat.le_trans h.size h1)
structure IF (I F:Nat→Prop) (w:World):Prop where
 iB:∀ b,I b→b < w.heap.size
 fB:∀ b,F b→b < w.heap.size∧¬ I b
theorem Ext.sameI {I F I' F':Nat→Prop} {w w':World} (h:Ext I F w I' F' w') (hi:IF I F w) (b:Nat) (hb:I b):w'.heap[b]?=w.heap[b]? :=
 h.keep b (hi.iB b hb) fun hf=>(hi.fB b hf).2 hb
structure Cx where
 P:Program
 mixed:P.follows .mixedOrders=true
 G:qmx
 Wd:(Nat→Prop)→World→Prop
 stab:∀ (I I':Nat→Prop) (w w':World),Wd I w→(∀ b,I b→I' b)→(∀ b,I b→w'.heap[b]?=w.heap[b]?)→w.heap.size≤w'.heap.size→Wd I' w'
 gl:∀ (I:Nat→Prop) (w:World) (g:Nat) (cs:List PV),Wd I w→G g=some cs→∀ lp L,qbr w I lp L (.ptr cs 0) (.pointer (some ⟨g,0,none⟩))
structure qkj (E:Type) where
 rel:E→(Nat→Prop)→(Nat→Prop)→World→Prop
 stab:∀ (e:E) (I I' F:Nat→Prop) (w w':World),rel e I F w→(∀ b,I b→I' b)→(∀ b,I b∨F b→w'.heap[b]?=w.heap[b]?)→w.heap.size≤w'.heap.size→rel e I' F w'
structure Own where
 own:Nat→Prop
 dfs:List Deferred:=[]
instance:CoeFun Own fun _=>Nat→Prop:=⟨Own.own⟩
inductive qgg (lo:Nat) (I F:Nat→Prop) (L:Loc) (w:World):List Deferred→List Deferred→Prop
 | nil:qgg lo I F L w [] []
 | cons (D:Nat) (ds rs:List Deferred) (h1:lo≤D) (h2:D < w.heap.size) (h3:¬ I D) (h4:¬ F D) (h5:∀ nm C,L nm≠some (some (D,C)))
   (h6:w.heap[D]?=some (.deferred (some []))) (h7:∀ d∈ds,d.target≠.collected D) (h:qgg lo I F L w ds rs):qgg lo I F L w ({target:=.collected D,args:=#[]} :: ds) rs
 | call (d:Deferred) (ds rs:List Deferred) (hd:∀ D,d.target≠.collected D) (h:qgg lo I F L w ds rs):qgg lo I F L w (d :: ds) (d :: rs)
structure Fr {E:Type} (cx:Cx) (w0:World) (I0 F0:Nat→Prop) (O0:Own) (Hd:Nat→Option Obj) (R:qkj E) (e:E) (ds:List Deferred) (I F:Nat→Prop) (L:Loc) (w:World):Prop where
 ext:Ext I0 F0 w0 I F w
 sep:IF I F w
 oF:∀ b,O0 b→F0 b
 lB:∀ nm b C,L nm=some (some (b,C))→(w0.heap.size≤b∨O0 b)∧b < w.heap.size∧¬ I b∧¬ F b
 inj:∀ nm nm' b C C',L nm=some (some (b,C))→L nm'=some (some (b,C'))→nm=nm'
 wd:cx.Wd I w
 re:R.rel e I F w
 mks:qgg w0.heap.size I F L w ds O0.dfs
 hld:∀ b ob,Hd b=some ob→b < w.heap.size∧¬ I b∧¬ F b∧(∀ nm C,L nm≠some (some (b,C)))∧w.heap[b]?=some ob
theorem qgg.move {lo:Nat} {I F I' F':Nat→Prop} {L L':Loc} {w w':World} {ds rs:List Deferred} (h:qgg lo I F L w ds rs) (hs:w.heap.size≤w'.heap.size)
  (hk:∀ D,D < w.heap.size→lo≤D→¬ I D→¬ F D→(∀ nm C,L nm≠some (some (D,C)))→w'.heap[D]?=w.heap[D]?∧¬ I' D∧¬ F' D∧(∀ nm C,L' nm≠some (some (D,C)))):qgg lo I' F' L' w' ds rs:=by
 induction h with
 | nil=>exact .nil
 | cons D ds rs h1 h2 h3 h4 h5 h6 h7 _ ih =>
  obtain⟨a,b,c,d⟩:=hk D h2 h1 h3 h4 h5
  exact .cons D ds rs h1 (Nat.lt_of_lt_of_le h2 hs) b c d (a.trans h6) h7 ih
 | call d ds rs hd _ ih=>exact .call d ds rs hd ih
section fr
variable {E:Type} {cx:Cx} {w0:World} {I0 F0:Nat→Prop} {O0:Own} {Hd:Nat→Option Obj} {R:qkj E} {e:E} {ds:List Deferred} {I F I':Nat→Prop} {L L':Loc} {w w':World}
theorem Fr.sameI (h:Fr cx w0 I0 F0 O0 Hd R e ds I F L w) (hk:∀ b,b < w.heap.size→(∀ nm C,L nm≠some (some (b,C)))→w'.heap[b]?=w.heap[b]?) (b:Nat) (hb:I b):w'.heap[b]?=w.heap[b]? :=
 hk b (h.sep.iB b hb) fun nm C hL=>(h.lB nm b C hL).2.2.1 hb
theorem Fr.own (h:Fr cx w0 I0 F0 O0 Hd R e ds I F L w) (h1:w'.os=w.os) (h2:w'.tape=w.tape) (h3:w'.output=w.output) (h4:w.heap.size≤w'.heap.size)
  (hk:∀ b,b < w.heap.size→(∀ nm C,L nm≠some (some (b,C)))→w'.heap[b]?=w.heap[b]?) (hI:∀ b,I b→I' b)
  (hI':∀ b,I' b→I b∨(b < w'.heap.size∧(w.heap.size≤b∨∃ nm C,L nm=some (some (b,C)))))
  (hL:∀ nm b C,L' nm=some (some (b,C))→b < w'.heap.size∧¬ I' b∧(w.heap.size≤b∨∃ nm' C',L nm'=some (some (b,C'))))
  (hinj:∀ nm nm' b C C',L' nm=some (some (b,C))→L' nm'=some (some (b,C'))→nm=nm'):Fr cx w0 I0 F0 O0 Hd R e ds I' F L' w' where
 ext:=by
  have hsz:=h.ext.size
  refine⟨h1.trans h.ext.os,h2.trans h.ext.tape,h3.trans h.ext.output,Nat.le_trans hsz h4,fun b hb hf=>?_,fun b hb=>hI b (h.ext.subI b hb),fun b hb=>?_,h.ext.newF⟩
  ·exact (hk b (by omega) fun nm C hn=>(h.lB nm b C hn).1.elim (fun h1=>by omega) (fun ho=>hf (h.oF b ho))).trans (h.ext.keep b hb hf)
  ·rcases hI' b hb with h5 | ⟨_,h5 | ⟨nm,C,h5⟩⟩
   ·exact h.ext.newI b h5
   ·exact .inr (.inr (by omega))
   ·exact .inr ((h.lB nm b C h5).1.elim .inr fun ho=>.inl (h.oF b ho))
 sep:=⟨fun b hb=>(hI' b hb).elim (fun h5=>Nat.lt_of_lt_of_le (h.sep.iB b h5) h4) fun h5=>h5.1,
  fun b hb=>⟨Nat.lt_of_lt_of_le (h.sep.fB b hb).1 h4,fun hi=>by
   rcases hI' b hi with h5 | ⟨_,h5 | ⟨nm,C,h5⟩⟩
   ·exact (h.sep.fB b hb).2 h5
   ·have:=(h.sep.fB b hb).1;omega
   ·exact (h.lB nm b C h5).2.2.2 hb⟩⟩
 oF:=h.oF
 lB nm b C hn:=by
  obtain⟨a1,a2,a3⟩:=hL nm b C hn
  have hsz:=h.ext.size
  refine⟨?_,a1,a2,?_⟩
  ·rcases a3 with a3 | ⟨nm',C',a3⟩
   ·exact .inl (by omega)
   ·exact (h.lB nm' b C' a3).1
  ·intro hf
   rcases a3 with a3 | ⟨nm',C',a3⟩
   ·have:=(h.sep.fB b hf).1;omega
   ·exact (h.lB nm' b C' a3).2.2.2 hf
 inj:=hinj
 wd:=cx.stab I I' w w' h.wd hI (h.sameI hk) h4
 re:=R.stab e I I' F w w' h.re hI (fun b hb=>by
  rcases hb with hb | hb
  ·exact h.sameI hk b hb
  ·exact hk b (h.sep.fB b hb).1 fun nm C hn=>(h.lB nm b C hn).2.2.2 hb) h4
 mks:=h.mks.move h4 fun D d1 d2 d3 d4 d5=>⟨hk D d1 d5,fun hi=>by
   rcases hI' D hi with h5 | ⟨_,h5 | ⟨nm,C,h5⟩⟩
   ·exact d3 h5
   ·omega
   ·exact d5 nm C h5,d4,fun nm C hn=>by
   rcases (hL nm D C hn).2.2 with h5 | ⟨nm',C',h5⟩
   ·omega
   ·exact d5 nm' C' h5⟩
 hld b ob hb:=by
  obtain⟨d1,d2,d3,d4,d5⟩:=h.hld b ob hb
  refine⟨by omega,fun hi=>?_,d3,fun nm C hn=>?_,(hk b d1 d4).trans d5⟩
  ·rcases hI' b hi with h5 | ⟨_,h5 | ⟨nm,C,h5⟩⟩
   ·exact d2 h5
   ·omega
   ·exact d4 nm C h5
  ·rcases (hL nm b C hn).2.2 with h5 | ⟨nm',C',h5⟩
   ·omega
   ·exact d4 nm' C' h5
end fr
end Go.Ab


namespace Go.Ab
theorem num_ge {b f:Nat} (n:Nat):Nat.blt (f+b*(n+1)) b=false:=by
 cases hq:Nat.blt (f+b*(n+1)) b with
 | false=>rfl
 | true =>
  have h1:=Nat.blt_eq.mp hq
  have h2:=Nat.le_mul_of_pos_right b (Nat.succ_pos n)
  exact absurd (Nat.lt_of_lt_of_le h1 (Nat.le_trans h2 (Nat.le_add_left _ f))) (Nat.lt_irrefl _)
theorem num_div {b f:Nat} (hb:f < b) (n:Nat):(f+b*(n+1)) / b=n+1:=by
 rw[Nat.add_mul_div_left _ _ (Nat.lt_of_le_of_lt (Nat.zero_le f) hb),Nat.div_eq_of_lt hb,Nat.zero_add]
theorem num_mod {b f:Nat} (hb:f < b) (n:Nat):(f+b*(n+1))%b=f:=by
 rw[Nat.add_mul_mod_self_left,Nat.mod_eq_of_lt hb]
theorem fnK_ge {g:Nat} (h:Nat.blt g qgo=false):fnK g=g / qgo:=by unfold fnK;rw[h]
theorem fnId_ge {g:Nat} (h:Nat.blt g qgo=false):qd2 g=g%qgo:=by unfold qd2;rw[h]
theorem fnNum_k {f:FuncId} (hb:Nat.blt f qgo=true):∀ n,fnK (fnNum f n)=n
 | 0=>by simp[fnNum,fnK,hb]
 | n+1=>(fnK_ge (num_ge n)).trans (num_div (Nat.blt_eq.mp hb) n)
theorem fnNum_id {f:FuncId} (hb:Nat.blt f qgo=true):∀ n,qd2 (fnNum f n)=f
 | 0=>by simp[fnNum,qd2,hb]
 | n+1=>(fnId_ge (num_ge n)).trans (num_mod (Nat.blt_eq.mp hb) n)
theorem qp3 {w:World} {I:Nat→Prop} {lp:Nat→Option Nat} {L:Option Loc}:∀ (n:Nat) (v:Value) (x:PV),qjw n v=some x→qbr w I lp L x v:=by
 intro n
 induction n with
 | zero =>
  intro v x h
  unfold qjw at h
  split at h<;>first | contradiction | (cases h;done) | (cases h;constructor)
 | succ n ih =>
  intro v x h
  unfold qjw at h
  split at h<;>first | (cases h;constructor) | skip
  ·rename_i m cs e
   cases e
   split at h
   case isFalse=>cases h
   rename_i hone
   simp only[Option.map_eq_some_iff] at h
   obtain⟨xs,hx,rfl⟩:=h
   refine .agg xs cs (fun v hv=>List.all_eq_true.1 hone v hv) ?_
   clear hone
   generalize cs.toList=l at hx
   induction l generalizing xs with
   | nil=>simp at hx;subst hx;exact .nil
   | cons v l ihl =>
    rw[List.mapM_cons] at hx
    simp only[Option.bind_eq_bind,Option.bind_eq_some_iff,Option.pure_def,Option.some.injEq] at hx
    obtain⟨y,hy,ys,hys,rfl⟩:=hx
    exact .cons _ _ _ _ (ih v y hy) (ihl ys hys)
  ·cases h
theorem Qdm {tmps:Array Value} (i:Nat):tmps.getD i undef=tmps.toList.getD i undef:=by
 simp[List.getD_eq_getElem?_getD]
section
variable {cx:Cx} {I:Nat→Prop} {L:Loc} {st:St} {a:Act} {suf:List Value} {lp:Nat→Option Nat} {w:World}
theorem qb4 (h:SR lp I L st a.tmps.toList suf w) (hw:cx.Wd I w) {x:Operand} {r:RX} (hx:rx cx.G x=some r):qbr w I lp (some L) (r.ev st.tmps) (a.eval x):=by
 cases x with
 | tmp t=>simp only[rx,Option.some.injEq] at hx;subst hx;simp only[RX.ev,Act.eval,Qdm];exact h.tm.getD t undef
 | const v =>
  simp only[rx,Option.map_eq_some_iff] at hx
  obtain⟨y,hy,rfl⟩:=hx
  exact qp3 3 v y hy
 | global g =>
  simp only[rx,Option.map_eq_some_iff] at hx
  obtain⟨cs,hc,rfl⟩:=hx
  exact cx.gl I w g cs hw hc lp _
 | func f =>
  simp only[rx] at hx
  split at hx
  case isFalse=>cases hx
  rename_i hb
  simp only[Option.some.injEq] at hx;subst hx
  have hr:qbr w I lp (some L) (.fn f []) (.func (.func f) #[] #[]):=by
   have:=qbr.fn (w:=w) (I:=I) (lp:=lp) (L:=some L) f [] #[] #[] (by simp[fnK,hb]) .nil
   rwa [show qd2 f=f by simp[qd2,hb]] at this
  exact hr
theorem Qc6 (h:SR lp I L st a.tmps.toList suf w) (hw:cx.Wd I w):∀ {xs:List Operand} {rs:List RX},rxs cx.G xs=some rs →
  qbn w I lp (some L) (rs.map (RX.ev st.tmps)) (xs.map a.eval):=by
 intro xs
 induction xs with
 | nil=>intro rs h;simp only[rxs,Option.some.injEq] at h;subst h;exact .nil
 | cons x xs ih =>
  intro rs hr
  simp only[rxs] at hr
  split at hr
  ·rename_i y ys h1 h2
   cases hr
   exact .cons _ _ _ _ (qb4 h hw h1) (ih h2)
  ·cases hr
end
structure Same (w w':World):Prop where
 heap:w'.heap=w.heap
 os:w'.os=w.os
 tape:w'.tape=w.tape
 output:w'.output=w.output
theorem Same.refl (w:World):Same w w:=⟨rfl,rfl,rfl,rfl⟩
theorem qfg (a:Act) (dst:Option Nat) (v:Value):(a.put dst v).tmps.toList=(match dst with | some d=>a.tmps.toList.set d v | none=>a.tmps.toList):=by
 cases dst<;>simp[Act.put]
section done
variable {E:Type} (cx:Cx) (w0:World) (I0 F0:Nat→Prop) (O0:Own) (Hd:Nat→Option Obj) (R:qkj E) (e:E) (ds:List Deferred) (F:Nat→Prop) (lp:Nat→Option Nat) (suf:List Value)
def qh8 (o:Oper) (a:Act) (w:World) (st':St):Prop :=
 ∃ v' w' I' L',((execOp a.eval o).run cx.P w=.ok (.value v') w'∨((execOp a.eval o).run cx.P w=.ok .skip w'∧v'=undef)) ∧
  SR lp I' L' st' (a.put o.dst v').tmps.toList suf w'∧Fr cx w0 I0 F0 O0 Hd R e ds I' F L' w'
end done
section lemmas
variable {E:Type} {cx:Cx} {w0:World} {I0 F0:Nat→Prop} {O0:Own} {Hd:Nat→Option Obj} {R:qkj E} {e:E} {ds:List Deferred} {F:Nat→Prop} {lp:Nat→Option Nat} {suf:List Value}
variable {I:Nat→Prop} {L:Loc} {st:St} {a:Act} {w:World} {o:Oper}
theorem qbr.same {L:Option Loc} {x:PV} {v:Value} {w':World} (h:qbr w I lp L x v) (hs:Same w w'):qbr w' I lp L x v :=
 qbr.mono (fun _ h=>h) (fun _ _=>by rw[hs.heap]) (fun _ _ h=>h) h
theorem Fr.same (h:Fr cx w0 I0 F0 O0 Hd R e ds I F L w) {w':World} (hs:Same w w'):Fr cx w0 I0 F0 O0 Hd R e ds I F L w' :=
 h.own hs.os hs.tape hs.output (by rw[hs.heap];exact Nat.le_refl _) (fun b _ _=>by rw[hs.heap]) (fun _ h=>h) (fun _ h=>.inl h)
  (fun nm b C hn=>⟨by rw[hs.heap];exact (h.lB nm b C hn).2.1,(h.lB nm b C hn).2.2.1,.inr ⟨nm,C,hn⟩⟩) h.inj
theorem SR.same (h:SR lp I L st a.tmps.toList suf w) {w':World} (hs:Same w w'):SR lp I L st a.tmps.toList suf w' :=
 h.keeps (fun _ h=>h) (fun _ _=>by rw[hs.heap]) fun _ _ _ _=>by rw[hs.heap]
theorem SR.putO (h:SR lp I L st a.tmps.toList suf w) (dst:Option Nat) {v:PV} {v':Value} (hv:qbr w I lp (some L) v v') :
  SR lp I L (apply st dst {v}) (a.put dst v').tmps.toList suf w:=by
 rw[qfg]
 cases dst with
 | none=>exact h
 | some d=>exact h.put d hv
theorem qbl (hs:SR lp I L st a.tmps.toList suf w) (hf:Fr cx w0 I0 F0 O0 Hd R e ds I F L w) {v:PV} {v':Value} {w':World}
  (hr:(execOp a.eval o).run cx.P w=.ok (.value v') w') (hw:Same w w') (hv:qbr w I lp (some L) v v') :
  qh8 cx w0 I0 F0 O0 Hd R e ds F lp suf o a w (apply st o.dst {v}) :=
 ⟨v',w',I,L,.inl hr,(hs.same hw).putO o.dst (hv.same hw),hf.same hw⟩
theorem heap_alloc_lt (w:World) (ob:Obj) {b:Nat} (h:b < w.heap.size):(w.alloc ob).heap[b]?=w.heap[b]?:=heap_alloc_old w ob b h
theorem Fr.news (h:Fr cx w0 I0 F0 O0 Hd R e ds I F L w) {w':World} {d:Nat} (_hd:st.objs[d]?=some []) {ps:List (Option (Nat×Nat))}
  (h1:w'.os=w.os) (h2:w'.tape=w.tape) (h3:w'.output=w.output) (h4:w.heap.size≤w'.heap.size) (hk:∀ b,b < w.heap.size→w'.heap[b]?=w.heap[b]?)
  (hp:∀ (j b C:Nat),ps[j]?=some (some (b,C))→w.heap.size≤b∧b < w'.heap.size)
  (hi:∀ (j j' b C C':Nat),ps[j]?=some (some (b,C))→ps[j']?=some (some (b,C'))→j=j'):Fr cx w0 I0 F0 O0 Hd R e ds I F (qdn L d ps) w':=by
 refine h.own h1 h2 h3 h4 (fun b hb _=>hk b hb) (fun _ h=>h) (fun _ h=>.inl h) ?_ ?_
 ·intro nm b C hn
  unfold qdn at hn
  split at hn
  ·obtain⟨p1,p2⟩:=hp _ _ _ hn
   exact⟨p2,fun hb=>by have:=h.sep.iB b hb;omega,.inl p1⟩
  ·have:=h.lB nm b C hn
   exact⟨by omega,this.2.2.1,.inr ⟨nm,C,hn⟩⟩
 ·intro nm nm' b C C' hn hn'
  unfold qdn at hn hn'
  split at hn<;>split at hn'
  ·rename_i e1 e2
   exact Prod.ext (e1.trans e2.symm) (hi _ _ _ _ _ hn hn')
  ·have:=hp _ _ _ hn;have:=h.lB nm' b C' hn';omega
  ·have:=hp _ _ _ hn';have:=h.lB nm b C hn;omega
  ·exact h.inj nm nm' b C C' hn hn'
theorem qvm (hs:SR lp I L st a.tmps.toList suf w) (hf:Fr cx w0 I0 F0 O0 Hd R e ds I F L w) {d:Nat} (hd:o.dst=some d) (hc:st.objs[d]?=some [])
  {v:PV} {v':Value} {ob:Ob} {obj:Obj} {C:Nat} {w1:World} (hw:Same w w1) (hr:(execOp a.eval o).run cx.P w=.ok (.value v') (w1.alloc obj))
  (hob:∀ L',Qkq L L'→ObRep (w1.alloc obj) I lp L' w.heap.size C ob)
  (hv:∀ L':Loc,L' (d,0)=some (some (w.heap.size,C))→qbr (w1.alloc obj) I lp (some L') v v') :
  qh8 cx w0 I0 F0 O0 Hd R e ds F lp suf o a w (apply st o.dst {v,new:=[ob]}):=by
 have hsz:w1.heap.size=w.heap.size:=by rw[hw.heap]
 have hk:∀ b,b < w.heap.size→(w1.alloc obj).heap[b]?=w.heap[b]?:=fun b hb=>by rw[heap_alloc_lt w1 obj (by omega),hw.heap]
 have hk2:SR lp I L st a.tmps.toList suf (w1.alloc obj):=hs.keeps (fun _ h=>h) (fun b hb=>hk b (hf.sep.iB b hb)) fun nm b C hn=>hk b (hf.lB nm b C hn).2.1
 have hn:=hk2.news hc [ob] [some (w.heap.size,C)] rfl (by
  intro j ob' p h1 h2
  cases j with
  | zero=>simp at h1 h2;subst h1;subst h2;exact hob _ (hk2.fresh hc _)
  | succ j=>simp at h1)
 refine⟨v',w1.alloc obj,I,qdn L d [some (w.heap.size,C)],.inl hr,?_,?_⟩
 ·rw[qfg,hd]
  exact hn.put d (hv _ (by simp[qdn]))
 ·refine Fr.news hf hc (by simp[World.alloc,hw.os]) (by simp[hw.tape]) (by simp[World.alloc,hw.output]) (by simp;omega) hk ?_ ?_
  ·intro j b C' hj
   cases j with
   | zero=>simp at hj;simp;omega
   | succ j=>simp at hj
  ·intro j j' b C1 C2 h1 h2
   cases j with
   | zero=>cases j' with
    | zero=>rfl
    | succ j'=>simp at h2
   | succ j=>simp at h1
theorem qrp (hs:SR lp I L st a.tmps.toList suf w) (hf:Fr cx w0 I0 F0 O0 Hd R e ds I F L w) {nm:Nm} {b C:Nat} (hL:L nm=some (some (b,C)))
  {v:PV} {v':Value} {ob:Ob} {w':World} (hr:(execOp a.eval o).run cx.P w=.ok (.value v') w'∨((execOp a.eval o).run cx.P w=.ok .skip w'∧v'=undef))
  (h1:w'.os=w.os) (h2:w'.tape=w.tape) (h3:w'.output=w.output) (h4:w'.heap.size=w.heap.size) (hk:∀ b',b'≠b→w'.heap[b']?=w.heap[b']?)
  (hob:ObRep w' I lp L b C ob) (hv:qbr w' I lp (some L) v v') :
  qh8 cx w0 I0 F0 O0 Hd R e ds F lp suf o a w (apply st o.dst {v,upd:=some (nm,ob)}):=by
 have hI:∀ b',I b'→w'.heap[b']?=w.heap[b']?:=fun b' hb'=>hk b' fun e=>(hf.lB nm b C hL).2.2.1 (e ▸ hb')
 have hu:=hs.upd (w':=w') (ob':=ob) hL hI (fun m b' C' hm hn=>hk b' fun e=>hm (hf.inj m nm b' C' C hn (e ▸ hL))) hob
 refine⟨v',w',I,L,hr,?_,?_⟩
 ·rw[qfg]
  cases o.dst with
  | none=>exact hu
  | some d=>exact hu.put d hv
 ·exact hf.own h1 h2 h3 (by omega) (fun b' _ hn=>hk b' fun e=>hn nm C (e ▸ hL)) (fun _ h=>h) (fun _ h=>.inl h)
   (fun m b' C' hn=>⟨by have:=(hf.lB m b' C' hn).2.1;omega,(hf.lB m b' C' hn).2.2.1,.inr ⟨m,C',hn⟩⟩) hf.inj
theorem qrq (hs:SR lp I L st a.tmps.toList suf w) (hf:Fr cx w0 I0 F0 O0 Hd R e ds I F L w) {nm:Nm} {p p':Option (Nat×Nat)} (hL:L nm=some p)
  {v:PV} {v':Value} {k kt:Nat} {xs:List PV} {w':World} (hr:(execOp a.eval o).run cx.P w=.ok (.value v') w')
  (h1:w'.os=w.os) (h2:w'.tape=w.tape) (h3:w'.output=w.output) (h4:w.heap.size≤w'.heap.size)
  (hk:∀ b',b' < w.heap.size→(∀ C,p≠some (b',C))→w'.heap[b']?=w.heap[b']?)
  (hp':∀ b C,p'=some (b,C)→b < w'.heap.size∧(w.heap.size≤b∨∃ C',p=some (b,C')))
  (hob:∀ L',qha w' I lp L' (.arr k kt xs) p') (hv:∀ L':Loc,L' nm=some p'→qbr w' I lp (some L') v v') :
  qh8 cx w0 I0 F0 O0 Hd R e ds F lp suf o a w (apply st o.dst {v,upd:=some (nm,.arr k kt xs),kill:=some nm}):=by
 have hI:∀ b',I b'→w'.heap[b']?=w.heap[b']?:=fun b' hb'=>hk b' (hf.sep.iB b' hb') fun C e=>(hf.lB nm b' C (by rw[hL,e])).2.2.1 hb'
 have hu:=hs.regrow (w':=w') (k:=k) (kt:=kt) (xs:=xs) (p':=p') hL hI
  (fun m b' C' hm hn=>hk b' (hf.lB m b' C' hn).2.1 fun C e=>hm (hf.inj m nm b' C' C hn (by rw[hL,e]))) (hob _)
 refine⟨v',w',I,(fun m=>if m=nm then some p' else L m),.inl hr,?_,?_⟩
 ·rw[qfg]
  cases o.dst with
  | none=>exact hu
  | some d=>exact hu.put d (hv _ (by simp))
 ·refine hf.own h1 h2 h3 h4 (fun b' hb' hn=>hk b' hb' fun C e=>hn nm C (by rw[hL,e])) (fun _ h=>h) (fun _ h=>.inl h) ?_ ?_
  ·intro m b' C' hn
   by_cases hm:m=nm
   ·simp only[hm,if_true,Option.some.injEq] at hn
    obtain⟨q1,q2⟩:=hp' b' C' hn
    refine⟨q1,fun hb=>?_,?_⟩
    ·rcases q2 with q2 | ⟨C2,q2⟩
     ·have:=hf.sep.iB b' hb;omega
     ·exact (hf.lB nm b' C2 (by rw[hL,q2])).2.2.1 hb
    ·rcases q2 with q2 | ⟨C2,q2⟩
     ·exact .inl q2
     ·exact .inr ⟨nm,C2,by rw[hL,q2]⟩
   ·simp only[hm,if_false] at hn
    exact⟨by have:=(hf.lB m b' C' hn).2.1;omega,(hf.lB m b' C' hn).2.2.1,.inr ⟨m,C',hn⟩⟩
  ·intro m m' b' C1 C2 hn hn'
   have other:∀ m C1 C2,m≠nm→L m=some (some (b',C1))→p'=some (b',C2)→False:=fun m C1 C2 hm h1 h2=>by
    obtain⟨q1,q2⟩:=hp' b' C2 h2
    rcases q2 with q2 | ⟨C3,q2⟩
    ·have:=(hf.lB m b' C1 h1).2.1;omega
    ·exact hm (hf.inj m nm b' C1 C3 h1 (by rw[hL,q2]))
   by_cases hm:m=nm<;>by_cases hm':m'=nm
   ·rw[hm,hm']
   ·simp only[hm,hm',if_true,if_false,Option.some.injEq] at hn hn'
    exact (other m' C2 C1 hm' hn' hn).elim
   ·simp only[hm,hm',if_true,if_false,Option.some.injEq] at hn hn'
    exact (other m C1 C2 hm hn hn').elim
   ·simp only[hm,hm',if_false] at hn hn'
    exact hf.inj m m' b' C1 C2 hn hn'
end lemmas
end Go.Ab


namespace Go.Ab
section inv
variable {w:World} {I:Nat→Prop} {lp:Nat→Option Nat} {L:Loc} {v:Value}
theorem qd4 {L:Option Loc} {b:Bool} (h:qbr w I lp L (.bool b) v):v=.bool b:=by cases h;rfl
theorem qd8 {L:Option Loc} {k:IntKind} {n:Int} (h:qbr w I lp L (.int k n) v):v=.int k n:=by cases h;rfl
theorem qfc {L:Option Loc} {s:List UInt8} (h:qbr w I lp L (.str s) v):v=.string ⟨s.toArray⟩:=by cases h;rfl
theorem qf3 {L:Option Loc} (h:qbr w I lp L .nilS v):v=.slice none 0 0:=by cases h;rfl
theorem qmi {L:Option Loc} (h:qbr w I lp L .nilP v):v=.pointer none:=by cases h;rfl
theorem qvi {L:Option Loc} (h:qbr w I lp L .nilF v):v=.nilFunc:=by cases h;rfl
theorem qjn {L:Option Loc} (h:qbr w I lp L .nilI v):v=.nilIface:=by cases h;rfl
theorem Qlw {L:Option Loc} (h:qbr w I lp L .nilM v):v=.map none:=by cases h;rfl
theorem Qcv {L:Option Loc} {cs:List PV} (h:qbr w I lp L (.agg cs) v):∃ vs,v=.agg vs∧One vs.toList∧qbn w I lp L cs vs.toList:=by cases h;exact⟨_,rfl,by assumption,by assumption⟩
theorem inv_tup {L:Option Loc} {cs:List PV} (h:qbr w I lp L (.tup cs) v):∃ vs,v=.tuple vs∧qbn w I lp L cs vs.toList:=by cases h;exact⟨_,rfl,by assumption⟩
theorem Qlz {L:Option Loc} {g:Nat} {t:TypeId} (h:qbr w I lp L (.glob g t) v):∃ u,v=.iface t u∧I g∧∃ c E fr,w.heap[g]?=some (.cells c E fr)∧c[0]?=some (.iface t u):=by cases h;exact⟨_,rfl,by assumption,_,_,_,by assumption,by assumption⟩
theorem qlt {L:Option Loc} {t:TypeId} {x:PV} (h:qbr w I lp L (.iface t x) v):∃ u,v=.iface t u∧qbr w I lp L x u:=by cases h;exact⟨_,rfl,by assumption⟩
theorem qtt {L:Option Loc} {f:FuncId} {cs:List PV} (h:qbr w I lp L (.fn f cs) v):∃ us vs,v=.func (.func (qd2 f)) us vs∧us.size=fnK f∧qbn w I lp L cs (us.toList++vs.toList):=by cases h;exact⟨_,_,rfl,by assumption,by assumption⟩
theorem qpi {L:Option Loc} {f:FuncId} {cs xs:List PV} {us vs:Array Value} {ys:List Value} (hk:us.size=fnK f) (h:qbn w I lp L cs (us.toList++vs.toList)) (hv:qbn w I lp L xs ys) :
  qbn w I lp L (qb3 f xs cs) (us.toList++(ys++vs.toList)):=by
 unfold qb3
 have hl:us.toList.length=us.size:=by simp
 split
 ·rename_i hb
  have h0:us.size=0:=by rw[hk];simp[fnK,hb]
  have hu:us.toList=[]:=List.length_eq_zero_iff.1 (by rw[hl,h0])
  rw[hu] at h ⊢
  exact hv.append h
 ·have h1:=h.take (fnK f)
  have h2:=h.drop (fnK f)
  rw[List.take_left' (by rw[hl,hk])] at h1
  rw[List.drop_left' (by rw[hl,hk])] at h2
  exact h1.append (hv.append h2)
theorem inv_yld {L:Option Loc} {d:Nat} (h:qbr w I lp L (.yld d) v):∃ l,v=yv l∧lp d=some l:=by cases h;exact⟨_,rfl,by assumption⟩
theorem qge {nm:Nm} {o:Nat} (h:qbr w I lp (some L) (.ref nm o) v):∃ b C,L nm=some (some (b,C))∧v=.pointer (some ⟨b,o,none⟩):=by cases h;exact⟨_,_,by assumption,rfl⟩
theorem qvj {nm:Nm} {k i o:Nat} (h:qbr w I lp (some L) (.aref nm k i o) v):∃ b C,L nm=some (some (b,C))∧v=.pointer (some ⟨b,i*k+o,none⟩):=by cases h;exact⟨_,_,by assumption,rfl⟩
theorem qsr {L:Option Loc} {cs:List PV} {o:Nat} (h:qbr w I lp L (.ptr cs o) v):∃ b off c E fr,v=.pointer (some ⟨b,off+o,none⟩)∧I b∧w.heap[b]?=some (.cells c E fr) ∧
  off+cs.length≤c.size∧o < cs.length∧One ((c.toList.drop off).take cs.length)∧qbn w I lp none cs ((c.toList.drop off).take cs.length):=by
 cases h;exact⟨_,_,_,_,_,rfl,by assumption,by assumption,by assumption,by assumption,by assumption,by assumption⟩
theorem qje {nm:Nm} {k o n:Nat} (h:qbr w I lp (some L) (.arr nm k o n) v) :
  (∃ b C cap,L nm=some (some (b,C))∧v=.slice (some ⟨b,o*k,none⟩) n cap∧(o+cap)*k≤C∧n≤cap)∨(L nm=some none∧v=.slice none 0 0∧o=0∧n=0):=by
 cases h
 ·exact .inl ⟨_,_,_,by assumption,rfl,by assumption,by assumption⟩
 ·exact .inr ⟨by assumption,rfl,rfl,rfl⟩
theorem qrb {L:Option Loc} {k:Nat} {xs:List PV} {full:Bool} (h:qbr w I lp L (.sl k xs full) v) :
  (∃ b off cap c E fr,v=.slice (some ⟨b,off,none⟩) xs.length cap∧I b∧w.heap[b]?=some (.cells c E fr)∧off+xs.length*k≤c.size∧(∀ x∈xs,x.cells.length=k)∧xs.length≤cap∧(full=true→cap=xs.length) ∧
   One ((c.toList.drop off).take (xs.length*k))∧qbn w I lp none (cellsL xs) ((c.toList.drop off).take (xs.length*k)))∨(xs=[]∧∃ a cap,v=.slice a 0 cap∧(full=true→cap=0)):=by
 cases h
 ·exact .inr ⟨rfl,_,_,rfl,by assumption⟩
 ·exact .inl ⟨_,_,_,_,_,_,rfl,by assumption,by assumption,by assumption,by assumption,by assumption,by assumption,by assumption,by assumption⟩
theorem Qlx {nm:Nm} (h:qbr w I lp (some L) (.mp nm) v):∃ b C,L nm=some (some (b,C))∧v=.map (some b):=by cases h;exact⟨_,_,by assumption,rfl⟩
theorem inv_it {nm:Nm} (h:qbr w I lp (some L) (.it nm) v):∃ b C,L nm=some (some (b,C))∧v=.pointer (some ⟨b,0,none⟩):=by cases h;exact⟨_,_,by assumption,rfl⟩
theorem Qly {L:Option Loc} {es:List PV} (h:qbr w I lp L (.imap es) v):∃ r ents clock,v=.map (some r)∧I r∧w.heap[r]?=some (.map ents clock)∧qbn w I lp none es (qqf ents.toList):=by
 cases h;exact⟨_,_,_,rfl,by assumption,by assumption,by assumption⟩
end inv
theorem qbh {α:Type} {b:Bool} {x:Option α} {y:α} (h:chk b x=some y):b=true∧x=some y:=by
 cases b
 ·simp[chk] at h
 ·exact⟨rfl,by simpa[chk] using h⟩
theorem qma {P:Program} {t:TypeId} {n:Nat} {ag:Bool} (h:qjb P t=some (n,ag)):∃ d i,P.underlying t=some d∧P.info? t=some i∧i.size=n∧aggB d=ag:=by
 unfold qjb at h
 split at h
 ·rename_i d i h1 h2
  simp only[Option.some.injEq,Prod.mk.injEq] at h
  exact⟨d,i,h1,h2,h.1,h.2⟩
 ·cases h
theorem Qd5 {P:Program} {t:TypeId} {d:TypeDesc} (h:P.underlying t=some d) (w:World):(isAgg t).run P w=.ok (aggB d) w:=by
 unfold isAgg aggB
 simp only[Sem.run_bind,run_underlying h,Result.andThen_ok]
 split<;>split<;>simp_all
theorem qdz {P:Program} {t:TypeId} {i:TypeInfo} (h:P.info? t=some i) (w:World):(sizeOf t).run P w=.ok i.size w:=by
 simp[sizeOf,typeInfo,h]
theorem qjp (b off i:Nat):(⟨b,off,none⟩:Addr).add i=⟨b,off+i,none⟩:=by
 unfold Addr.add;split<;>simp_all
theorem qrz {w:World} {b:Nat} {c:Array Value} {E:TypeId} {fr:Nat×Nat} (h:w.heap[b]?=some (.cells c E fr)) (j:Nat):w.cell? ⟨b,j,none⟩=c[j]?:=by
 simp[World.cell?,h]
theorem qhq {P:Program} {w:World} {t:TypeId} {n:Nat} {ag:Bool} (hsh:qjb P t=some (n,ag)) {b off:Nat} {c:Array Value} {E:TypeId} {fr:Nat×Nat}
  (hb:w.heap[b]?=some (.cells c E fr)) {v:Value} (hv:if ag then off+n≤c.size∧v=.agg (c.extract off (off+n)) else c[off]?=some v) :
  (Instr.loadAt t (.pointer (some ⟨b,off,none⟩))).run P w=.ok v w:=by
 obtain⟨d,i,h1,h2,h3,h4⟩:=qma hsh
 simp only[Instr.loadAt,Instr.sureAddr,loadVar,Sem.run_bind,Sem.run_pure,Result.andThen_ok,Qd5 h1,h4]
 cases ag
 ·simp only[Bool.false_eq_true,if_false] at hv ⊢
  simp[run_load,qrz hb,hv]
 ·simp only[if_true] at hv ⊢
  obtain⟨hle,rfl⟩:=hv
  have:=run_loadCells_list (P:=P) (w:=w) ⟨b,off,none⟩ ((c.extract off (off+n)).toList) (fun j v hj=>by
   rw[qjp,qrz hb]
   simp only[Array.getElem?_toList,Array.getElem?_extract] at hj
   split at hj
   ·rename_i hlt;exact hj
   ·cases hj)
  simp only[Array.length_toList,Array.size_extract,Array.toArray_toList] at this
  rw[Nat.min_eq_left hle,Nat.add_sub_cancel_left] at this
  simp only[qdz h2,h3,Result.andThen_ok,Sem.run_bind,this,Sem.run_pure]
theorem qv3 {w:World} {I:Nat→Prop} {lp:Nat→Option Nat} {L:Option Loc} {cs:List PV} {vs:List Value} (hr:qbn w I lp L cs vs) (h1:One vs) {o n:Nat} {ag:Bool} {x:PV}
  (h:sel cs o n ag=some x):∃ v,(if ag then o+n≤vs.length∧v=.agg ((vs.drop o).take n).toArray else vs[o]?=some v)∧qbr w I lp L x v:=by
 unfold sel at h
 cases ag
 ·simp only[Bool.false_eq_true,if_false] at h ⊢
  exact hr.get h
 ·simp only[if_true] at h ⊢
  obtain⟨h2,h3⟩:=qbh h
  cases h3
  exact⟨_,⟨by rw[←hr.length];exact of_decide_eq_true h2,rfl⟩,.agg _ _ (by simpa using (h1.drop' o).take' n) (by simpa using (hr.drop o).take n)⟩
theorem qh3 (c:Array Value) (i j:Nat):c.extract i j=((c.toList.drop i).take (j - i)).toArray:=by
 apply Array.ext'
 simp[Array.toList_extract,List.take_drop,List.extract]
section ops
variable {E:Type} {cx:Cx} {w0:World} {I0 F0:Nat→Prop} {O0:Own} {Hd:Nat→Option Obj} {R:qkj E} {e:E} {ds:List Deferred} {F:Nat→Prop} {lp:Nat→Option Nat} {suf:List Value}
variable {I:Nat→Prop} {L:Loc} {st:St} {a:Act} {w:World} {o:Oper} {out:Out} {rop:ROp}
variable (hs:SR lp I L st a.tmps.toList suf w) (hf:Fr cx w0 I0 F0 O0 Hd R e ds I F L w)
include hs hf
theorem op_mov {x:Operand} (ho:o.op=.move x∨o.op=.assign x) {r:RX} (hr:rx cx.G x=some r) :
  qh8 cx w0 I0 F0 O0 Hd R e ds F lp suf o a w (apply st o.dst {v:=r.ev st.tmps}) :=
 qbl hs hf (by rcases ho with ho | ho<;>simp[execOp,ho]) (.refl w) (qb4 hs hf.wd hr)
theorem op_pick {c x y:Operand} (ho:o.op=.pick c x y) {rc r1 r2:RX} (h0:rx cx.G c=some rc) (h1:rx cx.G x=some r1) (h2:rx cx.G y=some r2)
  (h:exec (o.dst.getD 0) (qbf st.objs) st.tmps (.pick rc r1 r2)=some out):qh8 cx w0 I0 F0 O0 Hd R e ds F lp suf o a w (apply st o.dst out):=by
 have hc:=qb4 hs hf.wd h0
 have hx:=qb4 hs hf.wd h1
 have hy:=qb4 hs hf.wd h2
 simp only[exec] at h
 split at h
 ·rename_i hb;rw[hb] at hc;cases h
  exact qbl hs hf (by simp[execOp,ho,qd4 hc,asBool]) (.refl w) hx
 ·rename_i hb;rw[hb] at hc;cases h
  exact qbl hs hf (by simp[execOp,ho,qd4 hc,asBool]) (.refl w) hy
 ·cases h
theorem op_load {t:TypeId} {x:Operand} (ho:o.op=.load t x) {n:Nat} {ag:Bool} {r:RX} (hsh:qjb cx.P t=some (n,ag)) (h1:rx cx.G x=some r)
  (h:exec (o.dst.getD 0) (qbf st.objs) st.tmps (.load n ag r)=some out):qh8 cx w0 I0 F0 O0 Hd R e ds F lp suf o a w (apply st o.dst out):=by
 have hx:=qb4 hs hf.wd h1
 simp only[exec] at h
 split at h
 ·rename_i nm off hr
  rw[hr] at hx
  obtain⟨b,C,hL,hv⟩:=qge hx
  split at h
  case h_2=>cases h
  rename_i cs hlk
  obtain⟨u,hu,rfl⟩:=Option.map_eq_some_iff.1 h
  obtain⟨p,hp,ha⟩:=hs.ob nm _ hlk
  rw[hL] at hp;cases hp
  obtain⟨c,E',hb,hC,hone,hrep⟩:=ha
  obtain⟨u',hu',hrv⟩:=qv3 hrep hone.1 hu
  refine qbl hs hf (v':=u') (w':=w) ?_ (.refl w) hrv
  have:=qhq (P:=cx.P) hsh (off:=off) hb (v:=u') (by
   cases ag
   ·simpa using hu'
   ·simp only[if_true] at hu' ⊢
    refine⟨by simpa using hu'.1,?_⟩
    rw[hu'.2,qh3,Nat.add_sub_cancel_left])
  simp[execOp,ho,hv,this]
 ·rename_i cs off hr
  rw[hr] at hx
  obtain⟨b,off0,c,E',fr,hv,hI,hb,hle,hlt,hone,hrep⟩:=qsr hx
  obtain⟨u,hu,rfl⟩:=Option.map_eq_some_iff.1 h
  obtain⟨u',hu',hrv⟩:=qv3 hrep hone hu
  refine qbl hs hf (v':=u') (w':=w) ?_ (.refl w) (hrv.lift _)
  have hlen:=hrep.length
  have:=qhq (P:=cx.P) hsh (off:=off0+off) hb (v:=u') (by
   cases ag
   ·simp only[Bool.false_eq_true,if_false] at hu' ⊢
    rw[List.getElem?_take_of_lt hlt,List.getElem?_drop] at hu'
    simpa using hu'
   ·simp only[if_true] at hu' ⊢
    obtain⟨g1,g2⟩:=hu'
    rw[←hlen] at g1
    refine⟨by omega,?_⟩
    rw[g2,qh3,Nat.add_sub_cancel_left,List.drop_take,List.drop_drop,List.take_take,Nat.min_eq_left (by omega)])
  simp[execOp,ho,hv,this]
 ·rename_i nm k i off hr
  rw[hr] at hx
  obtain⟨b,C,hL,hv⟩:=qvj hx
  split at h
  case h_2=>cases h
  rename_i k' kt xs hlk
  split at h
  case h_2=>cases h
  rename_i el hel
  obtain⟨hk,h'⟩:=qbh h
  clear h
  have hk:k=k':=by simpa using hk
  subst hk
  obtain⟨u,hu,rfl⟩:=Option.map_eq_some_iff.1 h'
  obtain⟨p,hp,ha⟩:=hs.ob nm _ hlk
  rw[hL] at hp;cases hp
  obtain⟨c,E',hb,hC,hle,hkx,hone,hrep⟩:=ha
  have hlt:=(List.getElem?_eq_some_iff.1 hel).1
  have hke:=hkx el (List.mem_of_getElem? hel)
  have hik:(i+1)*k≤xs.length*k:=Nat.mul_le_mul_right _ hlt
  rw[Nat.add_mul,Nat.one_mul] at hik
  have hrep':qbn w I lp none el.cells ((c.toList.drop (i*k)).take k):=by
   have:=(hrep.drop (i*k)).take k
   rwa [qta hkx hel,List.drop_take,List.take_take,Nat.min_eq_left (by omega)] at this
  have hone':One ((c.toList.drop (i*k)).take k):=by
   have:=(hone.drop' (i*k)).take' k
   rwa [List.drop_take,List.take_take,Nat.min_eq_left (by omega)] at this
  obtain⟨u',hu',hrv⟩:=qv3 hrep' hone' hu
  refine qbl hs hf (v':=u') (w':=w) ?_ (.refl w) (hrv.lift _)
  have hlen:=hrep'.length
  have:=qhq (P:=cx.P) hsh (off:=i*k+off) hb (v:=u') (by
   cases ag
   ·simp only[Bool.false_eq_true,if_false] at hu' ⊢
    have hlt2:=(List.getElem?_eq_some_iff.1 hu').1
    rw[←hlen,hke] at hlt2
    rw[List.getElem?_take_of_lt hlt2,List.getElem?_drop] at hu'
    simpa using hu'
   ·simp only[if_true] at hu' ⊢
    obtain⟨g1,g2⟩:=hu'
    rw[←hlen,hke] at g1
    refine⟨by omega,?_⟩
    rw[g2,qh3,Nat.add_sub_cancel_left,List.drop_take,List.drop_drop,List.take_take,Nat.min_eq_left (by omega)])
  simp[execOp,ho,hv,this]
 ·cases h
omit hs hf in
theorem qm5 {P:Program} {w:World} {t:TypeId} {n:Nat} {ag:Bool} (hsh:qjb P t=some (n,ag)) {b off:Nat} {c:Array Value} {E:TypeId}
  (hb:w.heap[b]?=some (.cells c E (0,0))) {v:Value} (hv:v.cells.size=n) (h1:One v.cells.toList) (hle:off+n≤c.size) :
  (Instr.storeAt t (.pointer (some ⟨b,off,none⟩)) v).run P w=.ok () (w.setRow b (c.toList.take off++v.cells.toList++c.toList.drop (off+n)).toArray):=by
 obtain⟨d,i,g1,g2,g3,g4⟩:=qma hsh
 have hst:=run_storeCells_at P b off E v.cells.toList 0 c w hb (by simp[hv];omega) h1
 simp only[Nat.add_zero,Array.length_toList,hv] at hst
 simp[Instr.storeAt,Instr.sureAddr,storeVar,qdz g2,g3,hv,hst]
omit hs hf in
theorem qdq (w:World) (b:Nat) (cs:Array Value) {b':Nat} (h:b'≠b):(w.setRow b cs).heap[b']?=w.heap[b']?:=setRow_other w b b' cs h
omit hs hf in
theorem One.splice {vs us:List Value} (h:One vs) (h':One us) (o n:Nat):One (vs.take o++us++vs.drop n) :=
 ((h.take' o).append' h').append' (h.drop' n)
omit hs hf in
theorem qbn.splice {w:World} {L:Option Loc} {cs ys:List PV} {vs us:List Value} (h:qbn w I lp L cs vs) (h':qbn w I lp L ys us) (o:Nat) :
  qbn w I lp L (splice cs o ys) (vs.take o++us++vs.drop (o+us.length)):=by
 unfold Go.Ab.splice
 rw[h'.length]
 exact ((h.take o).append h').append (h.drop _)
omit hs hf in
theorem qpw (l u:List Value) (p N:Nat) (h:p+u.length≤N) (hN:N≤l.length) :
  (l.take p++u++l.drop (p+u.length)).take N=(l.take N).take p++u++(l.take N).drop (p+u.length):=by
 rw[List.take_append,List.take_append,List.take_take,List.take_take,List.drop_take]
 simp only[List.length_take,List.length_append]
 rw[List.take_of_length_le (l:=u) (by omega),Nat.min_comm N p,show N - (min p l.length+u.length)=N - (p+u.length) from by omega]
theorem op_store {t:TypeId} {x y:Operand} (ho:o.op=.store t x y) {n:Nat} {ag:Bool} {r s:RX} (hsh:qjb cx.P t=some (n,ag)) (h1:rx cx.G x=some r) (h2:rx cx.G y=some s)
  (h:exec (o.dst.getD 0) (qbf st.objs) st.tmps (.store n r s)=some out):qh8 cx w0 I0 F0 O0 Hd R e ds F lp suf o a w (apply st o.dst out):=by
 have hx:=qb4 hs hf.wd h1
 have hy:=qb4 hs hf.wd h2
 simp only[exec] at h
 split at h
 ·rename_i nm off hr
  rw[hr] at hx
  obtain⟨b,C,hL,hv⟩:=qge hx
  split at h
  case h_2=>cases h
  rename_i cs hlk
  obtain⟨hk,h⟩:=qbh h
  cases h
  simp only[Bool.and_eq_true,decide_eq_true_eq] at hk
  obtain⟨⟨k1,k2⟩,k3⟩:=hk
  obtain⟨hone2,hrep2⟩:=hy.cells k1
  have hsz:(a.eval y).cells.size=n:=by have:=hrep2.length;simp at this;omega
  obtain⟨p,hp,ha⟩:=hs.ob nm _ hlk
  rw[hL] at hp;cases hp
  obtain⟨c,E',hb,hC,hone,hrep⟩:=ha
  have hlen:=hrep.length
  simp only[Array.length_toList] at hlen
  have hst:=qm5 (P:=cx.P) hsh hb hsz hone2 (off:=off) (by omega)
  refine qrp hs hf hL (w':=w.setRow b (c.toList.take off++(a.eval y).cells.toList++c.toList.drop (off+n)).toArray) (v':=undef) (.inr ⟨?_,rfl⟩) rfl rfl rfl (by simp) (fun b' hb'=>qdq w b _ hb') ?_ (.undef _)
  ·simp[execOp,ho,hv,hst]
  ·refine⟨_,E',setRow_heap w b c _ E' _ hb,?_,?_,?_⟩
   ·simp[hsz];omega
   ·exact⟨by simpa using hone.1.splice hone2 off (off+n),hone.2⟩
   ·have hb2:∀ b',I b'→(w.setRow b (c.toList.take off++(a.eval y).cells.toList++c.toList.drop (off+n)).toArray).heap[b']?=w.heap[b']?:=fun b' hb'=>qdq w b _ fun e=>(hf.lB nm b C hL).2.2.1 (e ▸ hb')
    have:=qbn.mono (w':=w.setRow b (c.toList.take off++(a.eval y).cells.toList++c.toList.drop (off+n)).toArray) (fun _ h=>h) hb2 (fun _ _ h=>h) (hrep.splice hrep2 off)
    simpa[hsz] using this
 ·rename_i nm k i off hr
  rw[hr] at hx
  obtain⟨b,C,hL,hv⟩:=qvj hx
  split at h
  case h_2=>cases h
  rename_i k' kt xs hlk
  obtain⟨p,hp,ha⟩:=hs.ob nm _ hlk
  rw[hL] at hp;cases hp
  obtain⟨c,E',hb,hC,hle,hkx,hone,hrep⟩:=ha
  have key:∀ (el el':PV) (ys:List PV),k=k'→xs[i]?=some el→(s.ev st.tmps).isVal=true→(s.ev st.tmps).cells.length=n→(s.ev st.tmps).names=[]→off+n≤k →
    el'.cells=splice el.cells off (s.ev st.tmps).cells→ys=xs.set i el' →
    qh8 cx w0 I0 F0 O0 Hd R e ds F lp suf o a w (apply st o.dst {v:=.undef,upd:=some (nm,.arr k kt ys)}):=by
   intro el el' ys hkk hel k1 k2 k4 k3 hcel hys
   subst hkk;subst hys
   obtain⟨hone2,hrep2⟩:=hy.cells k1
   have hn4:qbd (s.ev st.tmps).cells=[]:=by
    generalize s.ev st.tmps=z at k4
    cases z<;>simp_all [PV.cells,qbd,PV.names]
   have hsz:(a.eval y).cells.size=n:=by have:=hrep2.length;simp at this;omega
   have hlt:=(List.getElem?_eq_some_iff.1 hel).1
   have hke:=hkx el (List.mem_of_getElem? hel)
   have hik:(i+1)*k≤xs.length*k:=Nat.mul_le_mul_right _ hlt
   rw[Nat.add_mul,Nat.one_mul] at hik
   have hst:=qm5 (P:=cx.P) hsh hb hsz hone2 (off:=i*k+off) (by omega)
   have hvl:(a.eval y).cells.toList.length=n:=by simpa using hsz
   refine qrp hs hf hL (w':=w.setRow b (c.toList.take (i*k+off)++(a.eval y).cells.toList++c.toList.drop (i*k+off+n)).toArray) (v':=undef) (.inr ⟨?_,rfl⟩) rfl rfl rfl (by simp) (fun b' hb'=>qdq w b _ hb') ?_ (.undef _)
   ·simp[execOp,ho,hv,hst]
   ·have hb2:∀ b',I b'→(w.setRow b (c.toList.take (i*k+off)++(a.eval y).cells.toList++c.toList.drop (i*k+off+n)).toArray).heap[b']?=w.heap[b']?:=fun b' hb'=>qdq w b _ fun e=>(hf.lB nm b C hL).2.2.1 (e ▸ hb')
    have hspl:=(hrep.splice (hrep2.shut hn4) (i*k+off))
    have hlc:(cellsL xs).length=xs.length*k:=qfd hkx
    have hel':el'.cells.length=k:=by rw[hcel];unfold Go.Ab.splice;simp;omega
    have hcells:splice (cellsL xs) (i*k+off) (s.ev st.tmps).cells=cellsL (xs.set i el'):=by
     have hd:xs.drop i=el :: xs.drop (i+1):=by
      have:=List.drop_eq_getElem_cons hlt
      rwa [(List.getElem?_eq_some_iff.1 hel).2] at this
     have h1:xs=xs.take i++el :: xs.drop (i+1):=by rw[←hd,List.take_append_drop]
     have h2:xs.set i el'=xs.take i++el' :: xs.drop (i+1):=by rw[List.set_eq_take_append_cons_drop,if_pos hlt]
     have h3:(cellsL (xs.take i)).length=i*k:=by rw[qfd (fun x hx=>hkx x (List.mem_of_mem_take hx))];simp;rw[Nat.min_eq_left (by omega)]
     rw[h2,qfe,cellsL,hcel]
     conv=>lhs;rw[h1]
     rw[qfe,cellsL]
     unfold Go.Ab.splice
     rw[show i*k+off=(cellsL (xs.take i)).length+off from by rw[h3],List.take_length_add_append,List.take_append_of_le_length (by omega)]
     rw[show (cellsL (xs.take i)).length+off+(s.ev st.tmps).cells.length=(cellsL (xs.take i)).length+(off+(s.ev st.tmps).cells.length) from by omega,List.drop_length_add_append,List.drop_append_of_le_length (by omega)]
     simp[List.append_assoc]
    refine⟨_,E',setRow_heap w b c _ E' _ hb,?_,by simpa using hle,?_,?_,?_⟩
    ·simp[hsz];omega
    ·intro x hx
     rcases List.mem_or_eq_of_mem_set hx with hx | rfl
     ·exact hkx x hx
     ·exact hel'
    ·simp only[List.length_set]
     have e1:=qpw c.toList (a.eval y).cells.toList (i*k+off) (xs.length*k) (by omega) (by simp;omega)
     rw[hvl] at e1
     rw[e1]
     exact hone.splice hone2 _ _
    ·simp only[List.length_set]
     have e1:=qpw c.toList (a.eval y).cells.toList (i*k+off) (xs.length*k) (by omega) (by simp;omega)
     rw[hvl] at e1
     rw[e1,←hcells]
     rw[hvl] at hspl
     exact qbn.mono (fun _ h=>h) hb2 (fun _ _ h=>h) hspl
  split at h
  ·rename_i es hel
   obtain⟨hk,h'⟩:=qbh h
   cases h'
   simp only[Bool.and_eq_true,decide_eq_true_eq,beq_iff_eq,List.isEmpty_iff] at hk
   obtain⟨⟨⟨⟨g1,g2⟩,g3⟩,g4⟩,g5⟩:=hk
   have hke:=hkx _ (List.mem_of_getElem? hel)
   refine key (.agg es) (.agg (splice es off (s.ev st.tmps).cells)) _ g1 hel g2 g3 ?_ ?_ rfl rfl
   ·generalize s.ev st.tmps=z at g5
    cases z<;>simp_all [PV.cells,qbd,PV.names]
   ·simp only[PV.cells] at hke;omega
  ·rename_i el hel hna
   obtain⟨hk,h'⟩:=qbh h
   cases h'
   simp only[Bool.and_eq_true,decide_eq_true_eq,beq_iff_eq,List.isEmpty_iff] at hk
   obtain⟨⟨⟨⟨⟨g1,g2⟩,g3⟩,g4⟩,g5⟩,g6⟩:=hk
   subst g2;subst g3;subst g4
   have hcz:(s.ev st.tmps).cells=[s.ev st.tmps]:=by
    generalize s.ev st.tmps=z at g5
    cases z<;>first | rfl | (simp[PV.isCell] at g5)
   have hiv:(s.ev st.tmps).isVal=true:=by
    generalize s.ev st.tmps=z at g5
    cases z<;>first | rfl | (simp[PV.isCell] at g5)
   have hke:=hkx el (List.mem_of_getElem? hna)
   refine key el (s.ev st.tmps) _ g1 hna hiv (by rw[hcz];rfl) g6 (by omega) ?_ rfl
   rw[hcz]
   unfold Go.Ab.splice
   rw[←g1] at hke
   simp[List.drop_of_length_le (l:=el.cells) (i:=1) (by omega)]
  ·cases h
 ·cases h
end ops
end Go.Ab


namespace Go.Ab
section ops
variable {E:Type} {cx:Cx} {w0:World} {I0 F0:Nat→Prop} {O0:Own} {Hd:Nat→Option Obj} {R:qkj E} {e:E} {ds:List Deferred} {F:Nat→Prop} {lp:Nat→Option Nat} {suf:List Value}
variable {I:Nat→Prop} {L:Loc} {st:St} {a:Act} {w:World} {o:Oper} {out:Out} {rop:ROp}
theorem qn0 {P:Program} {t:TypeId} {z:PV} (h:qkp P t=some z) {w:World} {I:Nat→Prop} {lp:Nat→Option Nat} {L:Option Loc} :
  ∃ i zv,P.info? t=some i∧i.zero=some zv∧qbr w I lp L z zv:=by
 unfold qkp at h
 simp only[Option.bind_eq_some_iff] at h
 obtain⟨zv,⟨i,hi,hz⟩,hp⟩:=h
 exact⟨i,zv,hi,hz,qp3 3 zv z hp⟩
theorem Qja:∀ (n:Nat) (v:Value) (x:PV),qjw n v=some x→x.isVal=true:=by
 intro n v x h
 unfold qjw at h
 split at h<;>first
  |(cases h;done)
  |(cases h;rfl)
  |(split at h<;>first | (cases h;done) | (obtain⟨xs,_,rfl⟩:=Option.map_eq_some_iff.1 h;rfl))
theorem qyn {P:Program} {t:TypeId} {z:PV} (h:qkp P t=some z):z.isVal=true:=by
 unfold qkp at h
 simp only[Option.bind_eq_some_iff] at h
 obtain⟨zv,_,hp⟩:=h
 exact Qja 3 zv z hp
theorem mapM_names {f:Value→Option PV} (ih:∀ v x,f v=some x→x.names=[]):∀ (l:List Value) (xs:List PV),l.mapM f=some xs→qbd xs=[]:=by
 intro l
 induction l with
 | nil=>intro xs hx;simp at hx;subst hx;rfl
 | cons v l ihl =>
  intro xs hx
  rw[List.mapM_cons] at hx
  simp only[Option.bind_eq_bind,Option.bind_eq_some_iff,Option.pure_def,Option.some.injEq] at hx
  obtain⟨y,hy,ys,hys,rfl⟩:=hx
  simp[qbd,ih v y hy,ihl ys hys]
theorem qyf:∀ (n:Nat) (v:Value) (x:PV),qjw n v=some x→x.names=[]:=by
 intro n
 induction n with
 | zero=>intro v x h;unfold qjw at h;split at h<;>first | contradiction | (cases h;done) | (cases h;rfl)
 | succ n ih =>
  intro v x h
  unfold qjw at h
  split at h<;>first | (cases h;done) | (cases h;rfl) | skip
  rename_i m cs e
  cases e
  split at h
  case isFalse=>cases h
  obtain⟨xs,hx,rfl⟩:=Option.map_eq_some_iff.1 h
  simp only[PV.names]
  exact mapM_names ih _ _ hx
theorem qdk (w:World) (ob:Obj):(w.alloc ob).heap[w.heap.size]?=some ob:=heap_alloc_new w ob
theorem Qbb (hs:SR lp I L st a.tmps.toList suf w) (hf:Fr cx w0 I0 F0 O0 Hd R e ds I F L w) {d:Nat} (hd:o.dst=some d) (hc:st.objs[d]?=some [])
  {x:PV} {v:Value} (hv:qbr w I lp (some L) x v) (hval:x.isVal=true) {t:TypeId} {ty:Nat} (hty:ty=0∨t=ty)
  (hr:(execOp a.eval o).run cx.P w=.ok (.value (.pointer (some ⟨w.heap.size,0,none⟩))) (w.alloc (.cells v.cells t))) :
  qh8 cx w0 I0 F0 O0 Hd R e ds F lp suf o a w (apply st o.dst {v:=.ref (d,0) 0,new:=[.cells ty x.cells]}):=by
 obtain⟨h1,h2⟩:=hv.cells hval
 refine qvm hs hf hd hc (.refl w) (C:=v.cells.size) hr ?_ ?_
 ·intro L' hL
  refine⟨v.cells,t,qdk w _,rfl,⟨h1,hty⟩,?_⟩
  exact (qbn.mono (fun _ h=>h) (fun b hb=>heap_alloc_lt w _ (hf.sep.iB b hb)) (fun _ _ h=>h) h2).reloc hL
 ·intro L' hL;exact .ref (d,0) 0 _ _ hL
theorem op_box (hs:SR lp I L st a.tmps.toList suf w) (hf:Fr cx w0 I0 F0 O0 Hd R e ds I F L w) {t:TypeId} {x:Operand} (ho:o.op=.box t x) {r:RX} (h1:rx cx.G x=some r)
  {d:Nat} (hd:o.dst=some d) (hc:st.objs[d]?=some [])
  (h:exec (o.dst.getD 0) (qbf st.objs) st.tmps (.box r)=some out):qh8 cx w0 I0 F0 O0 Hd R e ds F lp suf o a w (apply st o.dst out):=by
 simp only[exec] at h
 obtain⟨hk,h⟩:=qbh h
 cases h
 have:=Qbb hs hf hd hc (qb4 hs hf.wd h1) hk (t:=t) (ty:=0) (.inl rfl) (by simp[execOp,ho,Instr.box,newVar,newRow])
 simpa[hd] using this
theorem op_alloc (hs:SR lp I L st a.tmps.toList suf w) (hf:Fr cx w0 I0 F0 O0 Hd R e ds I F L w) {t:TypeId} (ho:o.op=.alloc t) {z:PV} (hz:qkp cx.P t=some z)
  {d:Nat} (hd:o.dst=some d) (hc:st.objs[d]?=some []) :
  qh8 cx w0 I0 F0 O0 Hd R e ds F lp suf o a w (apply st o.dst {v:=.ref (d,0) 0,new:=[.cells t z.cells]}):=by
 obtain⟨i,zv,hi,hz1,hrep⟩:=qn0 hz (w:=w) (I:=I) (lp:=lp) (L:=some L)
 exact Qbb hs hf hd hc hrep (qyn hz) (t:=t) (ty:=t) (.inr rfl) (by simp[execOp,ho,Instr.alloc,zeroValue,typeInfo,hi,hz1,newVar,newRow])
theorem op_nilck (hs:SR lp I L st a.tmps.toList suf w) (hf:Fr cx w0 I0 F0 O0 Hd R e ds I F L w) {x:Operand} (ho:o.op=.nilCheck x) {r:RX} (h1:rx cx.G x=some r)
  (h:exec (o.dst.getD 0) (qbf st.objs) st.tmps (.nilck r)=some out):qh8 cx w0 I0 F0 O0 Hd R e ds F lp suf o a w (apply st o.dst out):=by
 have hx:=qb4 hs hf.wd h1
 simp only[exec] at h
 split at h
 ·rename_i nm off hr;rw[hr] at hx;cases h
  obtain⟨b,C,hL,hv⟩:=qge hx
  exact qbl hs hf (v':=a.eval x) (by simp[execOp,ho,hv]) (.refl w) hx
 ·rename_i cs off hr;rw[hr] at hx;cases h
  obtain⟨b,off0,c,E',fr,hv,_⟩:=qsr hx
  exact qbl hs hf (v':=a.eval x) (by simp[execOp,ho,hv]) (.refl w) hx
 ·rename_i nm k i off hr;rw[hr] at hx;cases h
  obtain⟨b,C,hL,hv⟩:=qvj hx
  exact qbl hs hf (v':=a.eval x) (by simp[execOp,ho,hv]) (.refl w) hx
 ·rename_i f cap hr;rw[hr] at hx;cases h
  obtain⟨us,vs,hv,_,_⟩:=qtt hx
  exact qbl hs hf (v':=a.eval x) (by simp[execOp,ho,hv]) (.refl w) hx
 ·rename_i d hr;rw[hr] at hx;cases h
  obtain⟨l,hv,_⟩:=inv_yld hx
  exact qbl hs hf (v':=a.eval x) (by rcases yv_or l with ⟨h1,_⟩ | h1<;>rw[h1] at hv<;>simp[execOp,ho,hv]) (.refl w) hx
 ·cases h
theorem op_mkI (hs:SR lp I L st a.tmps.toList suf w) (hf:Fr cx w0 I0 F0 O0 Hd R e ds I F L w) {t:TypeId} {x:Operand} (ho:o.op=.makeInterface t x) {r:RX} (h1:rx cx.G x=some r)
  {d:TypeDesc} (hu:cx.P.underlying t=some d) (hn:∀ ms,d≠.interface ms):qh8 cx w0 I0 F0 O0 Hd R e ds F lp suf o a w (apply st o.dst {v:=.iface t (r.ev st.tmps)}):=by
 refine qbl hs hf (v':=.iface t (a.eval x)) ?_ (.refl w) (.iface t _ _ (qb4 hs hf.wd h1))
 have:(Instr.makeInterface t (a.eval x)).run cx.P w=.ok (.iface t (a.eval x)) w:=by
  simp only[Instr.makeInterface,Sem.run_bind,run_underlying hu,Result.andThen_ok]
  cases d<;>first | rfl | exact absurd rfl (hn _)
 simp[execOp,ho,this]
theorem op_mkF (hs:SR lp I L st a.tmps.toList suf w) (hf:Fr cx w0 I0 F0 O0 Hd R e ds I F L w) {f k:FuncId} {first cap:Array Operand} (ho:o.op=.makeFunc (.func f) first cap)
  (hk:fnK k=first.size) (hi:qd2 k=f) {rs:List RX} (h1:rxs cx.G (first.toList++cap.toList)=some rs):qh8 cx w0 I0 F0 O0 Hd R e ds F lp suf o a w (apply st o.dst {v:=.fn k (rs.map (RX.ev st.tmps))}):=by
 have hr:qbr w I lp (some L) (.fn k (rs.map (RX.ev st.tmps))) (.func (.func f) (first.map a.eval) (cap.map a.eval)):=by
  have:=qbr.fn (w:=w) (I:=I) (lp:=lp) (L:=some L) k (rs.map (RX.ev st.tmps)) (first.map a.eval) (cap.map a.eval) (by simpa using hk.symm) (by simpa using Qc6 hs hf.wd h1)
  rwa [hi] at this
 refine qbl hs hf (v':=.func (.func f) (first.map a.eval) (cap.map a.eval)) ?_ (.refl w) hr
 simp[execOp,ho,Instr.makeFunc]
theorem op_extract (hs:SR lp I L st a.tmps.toList suf w) (hf:Fr cx w0 I0 F0 O0 Hd R e ds I F L w) {x:Operand} {j:Nat} (ho:o.op=.extract x j) {r:RX} (h1:rx cx.G x=some r)
  (h:exec (o.dst.getD 0) (qbf st.objs) st.tmps (.extract j r)=some out):qh8 cx w0 I0 F0 O0 Hd R e ds F lp suf o a w (apply st o.dst out):=by
 have hx:=qb4 hs hf.wd h1
 simp only[exec] at h
 split at h
 case h_2=>cases h
 rename_i xs hr
 rw[hr] at hx
 obtain⟨vs,hv,hrep⟩:=inv_tup hx
 split at h
 case h_2=>cases h
 rename_i y hy
 cases h
 obtain⟨u,hu,hru⟩:=hrep.get hy
 simp only[Array.getElem?_toList] at hu
 exact qbl hs hf (v':=u) (by simp[execOp,ho,hv,Instr.extract,hu]) (.refl w) hru
theorem op_un (hs:SR lp I L st a.tmps.toList suf w) (hf:Fr cx w0 I0 F0 O0 Hd R e ds I F L w) {op:UnOp} {t:TypeId} {x:Operand} (ho:o.op=.unOp op t x) {r:RX} (h1:rx cx.G x=some r)
  (h:exec (o.dst.getD 0) (qbf st.objs) st.tmps (.un op r)=some out):qh8 cx w0 I0 F0 O0 Hd R e ds F lp suf o a w (apply st o.dst out):=by
 have hx:=qb4 hs hf.wd h1
 simp only[exec] at h
 split at h
 ·rename_i b hb;rw[hb] at hx;cases h
  exact qbl hs hf (by simp[execOp,ho,qd4 hx,Op.unary]) (.refl w) (.bool _)
 ·rename_i k n hn;rw[hn] at hx;cases h
  exact qbl hs hf (by simp[execOp,ho,qd8 hx,Op.unary,Op.intArith]) (.refl w) (.int _ _)
 ·cases h
theorem qp1 {P:Program} {src dst:TypeId} {d1 d2:TypeDesc} (h1:P.underlying src=some d1) (h2:P.underlying dst=some d2) (x:Value) (w:World) :
  (convert src dst x).run P w=(match d1,d2,x with
   | _,.int k,.int _ n=>Conv.intToInt k n
   | _,.string,.int _ n=>Conv.intToString n
   | _,.string,.string _=>pure x
   | _,_,_=>convert src dst x).run P w:=by
 split<;>simp[convert,run_underlying h1,run_underlying h2]
theorem op_conv (hs:SR lp I L st a.tmps.toList suf w) (hf:Fr cx w0 I0 F0 O0 Hd R e ds I F L w) {src dst:TypeId} {x:Operand} (ho:o.op=.convert src dst x) {r:RX} (h1:rx cx.G x=some r)
  {d1:TypeDesc} {k:IntKind} (hu1:cx.P.underlying src=some d1) (hu2:cx.P.underlying dst=some (.int k))
  (h:exec (o.dst.getD 0) (qbf st.objs) st.tmps (.conv k r)=some out):qh8 cx w0 I0 F0 O0 Hd R e ds F lp suf o a w (apply st o.dst out):=by
 have hx:=qb4 hs hf.wd h1
 simp only[exec] at h
 split at h
 ·rename_i k' n hn;rw[hn] at hx;cases h
  refine qbl hs hf ?_ (.refl w) (.int _ _)
  simp[execOp,ho,qd8 hx,qp1 hu1 hu2,Conv.intToInt]
 ·cases h
theorem op_ofRune (hs:SR lp I L st a.tmps.toList suf w) (hf:Fr cx w0 I0 F0 O0 Hd R e ds I F L w) {src dst:TypeId} {x:Operand} (ho:o.op=.convert src dst x) {r:RX} (h1:rx cx.G x=some r)
  {d1:TypeDesc} (hu1:cx.P.underlying src=some d1) (hu2:cx.P.underlying dst=some .string)
  (h:exec (o.dst.getD 0) (qbf st.objs) st.tmps (.ofRune r)=some out):qh8 cx w0 I0 F0 O0 Hd R e ds F lp suf o a w (apply st o.dst out):=by
 have hx:=qb4 hs hf.wd h1
 simp only[exec] at h
 split at h
 ·rename_i k' n hn;rw[hn] at hx;cases h
  refine qbl hs hf (v':=.string (Utf8.encode n)) ?_ (.refl w) ?_
  ·simp[execOp,ho,qd8 hx,qp1 hu1 hu2,Conv.intToString]
  ·have:=qbr.str (w:=w) (I:=I) (lp:=lp) (L:=some L) (Utf8.encode n).data.toList
   simpa using this
 ·cases h
theorem op_strId (hs:SR lp I L st a.tmps.toList suf w) (hf:Fr cx w0 I0 F0 O0 Hd R e ds I F L w) {src dst:TypeId} {x:Operand} (ho:o.op=.convert src dst x) {r:RX} (h1:rx cx.G x=some r)
  {d1:TypeDesc} (hu1:cx.P.underlying src=some d1) (hu2:cx.P.underlying dst=some .string)
  (h:exec (o.dst.getD 0) (qbf st.objs) st.tmps (.strId r)=some out):qh8 cx w0 I0 F0 O0 Hd R e ds F lp suf o a w (apply st o.dst out):=by
 have hx:=qb4 hs hf.wd h1
 simp only[exec] at h
 split at h
 ·rename_i s hst;rw[hst] at hx;cases h
  refine qbl hs hf (v':=a.eval x) ?_ (.refl w) hx
  simp[execOp,ho,qfc hx,qp1 hu1 hu2]
 ·cases h
end ops
end Go.Ab


namespace Go.Ab
theorem ql4 (f:Nm→Option (Option Ob)) (xs:List PV):(qdy f xs).length=xs.length:=by
 induction xs with
 | nil=>rfl
 | cons x xs ih=>simp[qdy,ih]
theorem subL_getElem? (f:Nm→Option (Option Ob)) (xs:List PV) (i:Nat):(qdy f xs)[i]?=(xs[i]?).map (PV.sub f):=by
 induction xs generalizing i with
 | nil=>simp[qdy]
 | cons x xs ih=>cases i with
  | zero=>simp[qdy]
  | succ i=>simp[qdy,ih]
theorem qng (R:List Nm):∀ (σ:List (List Ob)) (nm:Nm),qbf (R.foldl (fun objs nm=>qb9 objs nm qd5) σ) nm=if nm∈R then (qbf σ nm).map fun _=>qd5 else qbf σ nm:=by
 induction R with
 | nil=>intro σ nm;simp
 | cons r R ih =>
  intro σ nm
  simp only[List.foldl_cons,ih,List.mem_cons]
  by_cases h:nm=r
  ·subst h
   cases hl:qbf σ nm with
   | none=>simp[(qdt qd5).2 hl]
   | some ob=>rw[qds qd5 hl];simp
  ·simp[h,qce qd5 h]
def inR (I:Nat→Prop) (L:Loc) (R:List Nm):Nat→Prop:=fun b=>I b∨∃ nm∈R,∃ C,L nm=some (some (b,C))
def qhd (L:Loc) (R:List Nm):Loc:=fun nm=>if nm∈R then (L nm).map fun _=>none else L nm
section
variable {lp:Nat→Option Nat} {I:Nat→Prop} {L:Loc} {st:St} {tmv suf:List Value} {w:World} {R:List Nm}
theorem SR.some_of_loc (h:SR lp I L st tmv suf w) {nm:Nm} {p:Option (Nat×Nat)} (hp:L nm=some p):∃ ob,qbf st.objs nm=some ob∧qha w I lp L ob p:=by
 cases hl:qbf st.objs nm with
 | none=>have:=h.dom nm hl;rw[hp] at this;cases this
 | some ob =>
  obtain⟨q,hq,ha⟩:=h.ob nm ob hl
  rw[hp] at hq;cases hq
  exact⟨ob,rfl,ha⟩
theorem qpz (hR:qf7 (qbf st.objs) R=true) {nm:Nm} (hn:nm∈R) {ob:Ob} (hl:qbf st.objs nm=some ob):∀ m∈ob.names,m∈R:=by
 intro m hm
 have:=List.all_eq_true.1 hR nm hn
 rw[hl] at this
 simpa using List.all_eq_true.1 this m hm
theorem close_ok (h:SR lp I L st tmv suf w) (hR:qf7 (qbf st.objs) R=true):∀ (d:Nat) (nm:Nm) (ob:Ob) (b C:Nat),nm∈R→qbf st.objs nm=some ob→L nm=some (some (b,C)) →
  ObShut w (inR I L R) lp b (qk9 (qbf st.objs) d ob):=by
 have hI:∀ b,I b→inR I L R b:=fun b hb=>.inl hb
 have easy:∀ (f:Nm→Option (Option Ob)),qko w (inR I L R) lp L none (·∈R) f→∀ (nm:Nm) (ob:Ob) (b C:Nat),nm∈R→qbf st.objs nm=some ob→L nm=some (some (b,C)) →
   ObShut w (inR I L R) lp b (ob.sub f):=by
  intro f hf nm ob b C hn hl hL
  obtain⟨p,hp,ha⟩:=h.ob nm ob hl
  rw[hL] at hp;cases hp
  have hb:inR I L R b:=.inr ⟨nm,hn,C,hL⟩
  cases ob with
  | cells ty cs =>
   obtain⟨c,E,h1,h2,h3,h4⟩:=ha
   have hlen:=h4.length
   simp only[Array.length_toList] at hlen
   refine⟨hb,c,E,(0,0),h1,by rw[ql4];omega,h3.1.take' _,?_⟩
   have:=qbn.subst hI hf h4 (qpz hR hn hl)
   rwa [ql4,hlen,List.take_of_length_le (by simp)]
  | arr k kt xs =>
   obtain⟨c,E,h1,h2,h3,h4,h5,h6⟩:=ha
   exact⟨hb,c,E,(0,0),h1,by omega,h4,h5,qbn.mono hI (fun _ _=>rfl) (fun _ _ h=>h) h6⟩
  | map es=>obtain⟨ents,clock,h1,h2⟩:=ha;exact⟨hb,ents,clock,h1,qbn.mono hI (fun _ _=>rfl) (fun _ _ h=>h) h2⟩
  | siter s p=>trivial
 intro d
 induction d with
 | zero=>exact easy _ fun nm p _ _=>trivial
 | succ d ih =>
  refine easy _ fun m p hm hp=>?_
  obtain⟨ob,hl,ha⟩:=h.some_of_loc hp
  simp only[hl,Option.map_some]
  cases p with
  | none=>obtain⟨k,kt,rfl⟩:=ha;exact⟨k,kt,by cases d<;>rfl⟩
  | some p=>exact ih m ob p.1 p.2 hm hl hp
theorem qnw (h:SR lp I L st tmv suf w) (hR:qf7 (qbf st.objs) R=true) (L':Option Loc):qko w (inR I L R) lp L L' (·∈R) (qb5 (qbf st.objs)):=by
 intro m p hm hp
 obtain⟨ob,hl,ha⟩:=h.some_of_loc hp
 simp only[qb5,hl,Option.map_some]
 cases p with
 | none=>obtain⟨k,kt,rfl⟩:=ha;exact⟨k,kt,rfl⟩
 | some p=>exact close_ok h hR _ m ob p.1 p.2 hm hl hp
theorem shut_value (h:SR lp I L st tmv suf w) (hR:qf7 (qbf st.objs) R=true) {x:PV} {v:Value} (hx:qbr w I lp (some L) x v) (hn:∀ nm∈x.names,nm∈R) :
  qbr w (inR I L R) lp none (x.sub (qb5 (qbf st.objs))) v :=
 qbr.subst (fun _ hb=>.inl hb) (qnw h hR none) hx hn
theorem ql9 (h:SR lp I L st tmv suf w) (hR:qf7 (qbf st.objs) R=true) {xs:List PV} {vs:List Value} (hx:qbn w I lp (some L) xs vs) (hn:∀ nm∈qbd xs,nm∈R) :
  qbn w (inR I L R) lp none (qdy (qb5 (qbf st.objs)) xs) vs :=
 qbn.subst (fun _ hb=>.inl hb) (qnw h hR none) hx hn
theorem SR.freeze (h:SR lp I L st tmv suf w) (hR:qf7 (qbf st.objs) R=true):SR lp (inR I L R) (qhd L R) (qbt (qbf st.objs) R st) tmv suf w:=by
 have hs:qko w (inR I L R) lp L (some (qhd L R)) (fun _=>True) (fun m=>if R.contains m then qb5 (qbf st.objs) m else none):=by
  intro m p _ hp
  by_cases hm:m∈R
  ·have:=qnw h hR (some (qhd L R)) m p hm hp
   simpa[hm] using this
  ·simp[hm,qhd,hp]
 unfold qbt
 refine h.subst (fun _ hb=>.inl hb) (fun _ _=>rfl) hs ?_ ?_
 ·intro nm ob hl
  simp only[qhf,qng,qde] at hl
  split at hl
  ·rename_i hm
   simp only[Option.map_map,Option.map_eq_some_iff] at hl
   obtain⟨ob0,hl,rfl⟩:=hl
   obtain⟨p,hp,ha⟩:=h.ob nm ob0 hl
   exact⟨none,by simp[qhd,hm,hp],0,0,rfl⟩
  ·rename_i hm
   simp only[Option.map_eq_some_iff] at hl
   obtain⟨ob0,hl,rfl⟩:=hl
   obtain⟨p,hp,ha⟩:=h.ob nm ob0 hl
   exact⟨p,by simp[qhd,hm,hp],ha.subst (fun _ hb=>.inl hb) (fun _ _=>rfl) hs (fun _ _=>trivial) fun _ _ _=>rfl⟩
 ·intro nm hl
  simp only[qhf,qng,qde] at hl
  have:qbf st.objs nm=none:=by
   split at hl<;>simpa using hl
  simp[qhd,h.dom nm this]
theorem Fr.freeze {E:Type} {cx:Cx} {w0:World} {I0 F0:Nat→Prop} {O0:Own} {Hd:Nat→Option Obj} {RE:qkj E} {e:E} {ds:List Deferred} {F:Nat→Prop} (h:Fr cx w0 I0 F0 O0 Hd RE e ds I F L w) (R:List Nm) :
  Fr cx w0 I0 F0 O0 Hd RE e ds (inR I L R) F (qhd L R) w:=by
 have cut:∀ nm b C,qhd L R nm=some (some (b,C))→nm ∉ R∧L nm=some (some (b,C)):=by
  intro nm b C hn
  unfold qhd at hn
  split at hn
  ·simp at hn
  ·rename_i hm;exact⟨hm,hn⟩
 refine h.own rfl rfl rfl (Nat.le_refl _) (fun _ _ _=>rfl) (fun _ hb=>.inl hb) ?_ ?_ ?_
 ·rintro b (hb | ⟨nm,_,C,hL⟩)
  ·exact .inl hb
  ·exact .inr ⟨(h.lB nm b C hL).2.1,.inr ⟨nm,C,hL⟩⟩
 ·intro nm b C hn
  obtain⟨h1,h2⟩:=cut nm b C hn
  refine⟨(h.lB nm b C h2).2.1,?_,.inr ⟨nm,C,h2⟩⟩
  rintro (hb | ⟨nm',hm',C',hL'⟩)
  ·exact (h.lB nm b C h2).2.2.1 hb
  ·exact h1 (h.inj nm nm' b C C' h2 hL' ▸ hm')
 ·intro nm nm' b C C' hn hn'
  exact h.inj nm nm' b C C' (cut nm b C hn).2 (cut nm' b C' hn').2
theorem qcn {σ:Nm→Option Ob}:∀ (d:Nat) (l:List Nm) (nm:Nm),nm∈l→nm∈qbs σ d l:=by
 intro d
 cases d with
 | zero=>intro l nm h;exact h
 | succ d=>intro l nm h;exact List.mem_append_left _ h
end
end Go.Ab


namespace Go.Ab
theorem fold_set (off:Nat):∀ (vs:List Value) (k:Nat) (cs:Array Value),off+k+vs.length≤cs.size →
  ((vs.zipIdx k).foldl (fun (cs:Array Value) (x:Value×Nat)=>cs.setIfInBounds (off+x.2) x.1) cs).toList=cs.toList.take (off+k)++vs++cs.toList.drop (off+k+vs.length):=by
 intro vs
 induction vs with
 | nil=>intro k cs _;simp
 | cons v vs ih =>
  intro k cs h
  simp only[List.length_cons] at h
  simp only[List.zipIdx_cons,List.foldl_cons]
  rw[ih (k+1) _ (by simp;omega)]
  have:=list_seg_step cs.toList (off+k) v vs (by simp;omega)
  simpa[Nat.add_assoc] using this
theorem fold_set' (off:Nat) (vs:Array Value) (cs:Array Value) (h:off+vs.size≤cs.size) :
  (vs.zipIdx.foldl (fun (cs:Array Value) (x:Value×Nat)=>cs.setIfInBounds (off+x.2) x.1) cs).toList=cs.toList.take off++vs.toList++cs.toList.drop (off+vs.size):=by
 have:=fold_set off vs.toList 0 cs (by simpa using h)
 rw[←Array.foldl_toList]
 simpa using this
section fill
variable {w:World} {I:Nat→Prop} {lp:Nat→Option Nat} {L:Option Loc}
theorem Qgq {place:Nat→Option (Nat×Nat)} {cells:Array Value} {i off n:Nat} {v:Value} {rest:List (Nat×Value)} (hp:place i=some (off,n)) (h1:v.cells.size=n) (h2:off+n≤cells.size) :
  ∃ cells',cells'.toList=cells.toList.take off++v.cells.toList++cells.toList.drop (off+n)∧Instr.fill place cells ((i,v) :: rest)=Instr.fill place cells' rest:=by
 refine⟨_,?_,by simp only[Instr.fill,hp];rw[if_neg (by simp;omega)]⟩
 have:=fold_set' off v.cells cells (by omega)
 rw[h1] at this
 exact this
end fill
section ops
variable {E:Type} {cx:Cx} {w0:World} {I0 F0:Nat→Prop} {O0:Own} {Hd:Nat→Option Obj} {R:qkj E} {e:E} {ds:List Deferred} {F:Nat→Prop} {lp:Nat→Option Nat} {suf:List Value}
variable {I:Nat→Prop} {L:Loc} {st:St} {a:Act} {w:World} {o:Oper} {out:Out} {rop:ROp}
theorem fill_parts (hs:SR lp I L st a.tmps.toList suf w) (hw:cx.Wd I w) (place:Nat→Option (Nat×Nat)):∀ (ps:List (Nat×Operand)) (rs:List (Nat×Nat×RX)) (z cs:List PV) (zv:Array Value),
  ql0 cx.G place ps=some rs→qbn w I lp (some L) z zv.toList→One zv.toList→qjk st.tmps z rs=some cs →
  ∃ cells,Instr.fill place zv (ps.map fun x=>(x.1,a.eval x.2))=some cells∧qbn w I lp (some L) cs cells.toList∧One cells.toList:=by
 intro ps
 induction ps with
 | nil =>
  intro rs z cs zv hc hz ho hf
  simp only[ql0,Option.some.injEq] at hc
  subst hc
  simp only[qjk,Option.some.injEq] at hf
  subst hf
  exact⟨zv,rfl,hz,ho⟩
 | cons p ps ih =>
  obtain⟨i,x⟩:=p
  intro rs z cs zv hc hz ho hf
  simp only[ql0] at hc
  split at hc
  case h_2=>cases hc
  rename_i off n y ys hp hy hys
  cases hc
  simp only[qjk] at hf
  obtain⟨hk,hf⟩:=qbh hf
  simp only[Bool.and_eq_true,decide_eq_true_eq] at hk
  obtain⟨⟨k1,k2⟩,k3⟩:=hk
  obtain⟨g1,g2⟩:=(qb4 hs hw hy).cells k1
  have hsz:(a.eval x).cells.size=n:=by have:=g2.length;simp at this;omega
  have hzl:=hz.length
  simp only[Array.length_toList] at hzl
  obtain⟨cells',hc',hfill⟩:=Qgq (place:=place) (rest:=ps.map fun x=>(x.1,a.eval x.2)) hp hsz (cells:=zv) (by omega)
  have hrep:qbn w I lp (some L) (splice z off (y.ev st.tmps).cells) cells'.toList:=by
   rw[hc']
   have:=hz.splice g2 off
   simpa[hsz] using this
  have hone:One cells'.toList:=by rw[hc'];exact ho.splice g1 off (off+n)
  obtain⟨cells,h1,h2,h3⟩:=ih ys _ cs cells' hys hrep hone hf
  exact⟨cells,by simpa[hfill] using h1,h2,h3⟩
theorem run_places {P:Program} (fs:Array Field) (hfs:fs.all (fun f=>(P.info? f.type).isSome)=true) (w:World) :
  (fs.mapM fun (f:Field)=>(do pure (f.offset,←sizeOf f.type):Sem (Nat×Nat))).run P w=.ok (fs.map fun f=>(f.offset,P.cellsOf f.type)) w:=by
 have key:∀ l:List Field,(∀ f∈l,(P.info? f.type).isSome=true)→(l.mapM fun (f:Field)=>(do pure (f.offset,←sizeOf f.type):Sem (Nat×Nat))).run P w=.ok (l.map fun f=>(f.offset,P.cellsOf f.type)) w:=by
  intro l
  induction l with
  | nil=>intro _;rfl
  | cons f l ih =>
   intro h
   obtain⟨i,hi⟩:=Option.isSome_iff_exists.1 (h f (by simp))
   simp only[List.mapM_cons,Sem.run_bind,qdz hi,Result.andThen_ok,Sem.run_pure,ih fun g hg=>h g (by simp[hg]),List.map_cons]
   simp[Program.cellsOf,hi]
 rw[Array.mapM_eq_mapM_toList]
 simp only[Sem.run_map,key fs.toList (fun f hf=>by simpa using (Array.all_eq_true_iff_forall_mem.1 hfs) f (by simpa using hf)),Result.andThen_ok]
 congr 1
 exact Array.ext' (by simp)
theorem op_build (hs:SR lp I L st a.tmps.toList suf w) (hf:Fr cx w0 I0 F0 O0 Hd R e ds I F L w) {t:TypeId} {ps:Array (Nat×Operand)} (ho:o.op=.build t ps) {fs:Array Field} {z:List PV} {rs:List (Nat×Nat×RX)}
  (hu:cx.P.underlying t=some (.struct fs)) (hz:qkp cx.P t=some (.agg z)) (hfs:fs.all (fun f=>(cx.P.info? f.type).isSome)=true) (hc:ql0 cx.G (qml cx.P fs) ps.toList=some rs)
  (h:exec (o.dst.getD 0) (qbf st.objs) st.tmps (.build z rs)=some out):qh8 cx w0 I0 F0 O0 Hd R e ds F lp suf o a w (apply st o.dst out):=by
 obtain⟨i,zv,hi,hz1,hrep⟩:=qn0 hz (w:=w) (I:=I) (lp:=lp) (L:=some L)
 obtain⟨zs,rfl,hone,hzr⟩:=Qcv hrep
 simp only[exec] at h
 split at h
 case h_2=>cases h
 rename_i cs hfl
 cases h
 obtain⟨cells,h1,h2,h3⟩:=fill_parts hs hf.wd _ _ _ _ _ _ hc hzr hone hfl
 refine qbl hs hf (v':=.agg cells) ?_ (.refl w) (.agg _ _ h3 h2)
 have hpl:qml cx.P fs=fun j=>(fs.map fun f=>(f.offset,cx.P.cellsOf f.type))[j]?:=by
  funext j
  unfold qml
  rw[Array.getElem?_map]
  cases hj:fs[j]? with
  | none=>rfl
  | some f =>
   obtain⟨inf,hinf⟩:=Option.isSome_iff_exists.1 ((Array.all_eq_true_iff_forall_mem.1 hfs) f (Array.mem_of_getElem? hj))
   simp[hinf,Program.cellsOf]
 rw[hpl] at h1
 have hrun:(Instr.build t (ps.map fun x=>(x.1,a.eval x.2))).run cx.P w=.ok (.agg cells) w:=by
  simp only[Instr.build,Sem.run_bind,zeroValue,typeInfo,run_program,Result.andThen_ok,hi,Sem.run_pure,hz1,run_underlying hu,run_places fs hfs w,Value.cells,Array.toList_map,h1]
 simp[execOp,ho,hrun]
theorem fill_order (k:Nat):∀ (vs:List Value) (j:Nat) (cells:Array Value),(∀ v∈vs,v.cells.size=k)→(j+vs.length)*k≤cells.size →
  ∃ cells',Instr.fill (fun i=>some (i*k,k)) cells ((vs.zipIdx j).map fun x=>(x.2,x.1))=some cells' ∧
   cells'.toList=cells.toList.take (j*k)++vs.flatMap (fun v=>v.cells.toList)++cells.toList.drop ((j+vs.length)*k):=by
 intro vs
 induction vs with
 | nil=>intro j cells _ _;exact⟨cells,rfl,by simp⟩
 | cons v vs ih =>
  intro j cells hv hle
  simp only[List.length_cons] at hle
  have e1:(j+(vs.length+1))*k=j*k+k+vs.length*k:=by rw[Nat.add_mul,Nat.add_mul];omega
  have hvk:=hv v (by simp)
  obtain⟨c1,hc1,hf1⟩:=Qgq (place:=fun i=>some (i*k,k)) (cells:=cells) (i:=j) (v:=v) (rest:=(vs.zipIdx (j+1)).map fun x=>(x.2,x.1)) rfl hvk (by omega)
  have hl:c1.toList.length=cells.size:=by rw[hc1];simp[hvk];omega
  obtain⟨c2,hc2,hl2⟩:=ih (j+1) c1 (fun u hu=>hv u (by simp[hu])) (by
   have:c1.size=cells.size:=by simpa using hl
   rw[this,show j+1+vs.length=j+(vs.length+1) from by omega];exact hle)
  refine⟨c2,?_,?_⟩
  ·simp only[List.zipIdx_cons,List.map_cons,hf1];exact hc2
  ·rw[hl2,hc1]
   have e2:(j+1)*k=j*k+k:=by rw[Nat.add_mul,Nat.one_mul]
   have e3:(j+1+vs.length)*k=j*k+k+vs.length*k:=by rw[Nat.add_mul,Nat.add_mul];omega
   have t1:(cells.toList.take (j*k)).length=j*k:=by simp;omega
   rw[e2,e3,List.length_cons,e1]
   have a1:(cells.toList.take (j*k)++v.cells.toList).length=j*k+k:=by simp[hvk];omega
   rw[List.take_append_of_le_length (by omega),List.take_of_length_le (l:=cells.toList.take (j*k)++v.cells.toList) (by omega)]
   rw[List.drop_append,a1,List.drop_of_length_le (l:=cells.toList.take (j*k)++v.cells.toList) (by omega),List.nil_append,Nat.add_sub_cancel_left,List.drop_drop]
   simp[List.append_assoc,Nat.add_assoc]
theorem Qgc (hs:SR lp I L st a.tmps.toList suf w) (hw:cx.Wd I w):∀ (ps:List (Nat×Operand)) (j:Nat) (rs:List RX),qss cx.G j ps=some rs →
  ∃ vs,ps.map (fun x=>(x.1,a.eval x.2))=(vs.zipIdx j).map (fun x=>(x.2,x.1))∧qbn w I lp (some L) (rs.map (RX.ev st.tmps)) vs:=by
 intro ps
 induction ps with
 | nil=>intro j rs h;simp only[qss,Option.some.injEq] at h;subst h;exact⟨[],rfl,.nil⟩
 | cons p ps ih =>
  obtain⟨i,x⟩:=p
  intro j rs h
  simp only[qss] at h
  split at h
  case isFalse=>cases h
  rename_i hij
  subst hij
  split at h
  case h_2=>cases h
  rename_i y ys hy hys
  cases h
  obtain⟨vs,h1,h2⟩:=ih (i+1) ys hys
  exact⟨a.eval x :: vs,by simp[h1],.cons _ _ _ _ (qb4 hs hw hy) h2⟩
theorem qr7 {w:World} {I:Nat→Prop} {lp:Nat→Option Nat} {L:Option Loc} {k:Nat}:∀ {xs:List PV} {vs:List Value},qbn w I lp L xs vs→(xs.all fun x=>x.isVal&&x.cells.length==k)=true →
  (∀ v∈vs,v.cells.size=k)∧(∀ x∈xs,x.cells.length=k)∧One (vs.flatMap fun v=>v.cells.toList)∧qbn w I lp L (cellsL xs) (vs.flatMap fun v=>v.cells.toList):=by
 intro xs
 induction xs with
 | nil=>intro vs h _;cases h;exact⟨by simp,by simp,by simp[One],.nil⟩
 | cons x xs ih =>
  intro vs h hall
  cases h with
  | cons _ v _ vs h hs =>
   simp only[List.all_cons,Bool.and_eq_true,beq_iff_eq] at hall
   obtain⟨⟨h1,h2⟩,h3⟩:=hall
   obtain⟨i1,i2,i3,i4⟩:=ih hs (by simpa using h3)
   obtain⟨c1,c2⟩:=h.cells h1
   have hl:=c2.length
   simp only[Array.length_toList] at hl
   refine⟨?_,?_,?_,?_⟩
   ·intro u hu
    rcases List.mem_cons.1 hu with rfl | hu
    ·omega
    ·exact i1 u hu
   ·intro u hu
    rcases List.mem_cons.1 hu with rfl | hu
    ·exact h2
    ·exact i2 u hu
   ·rw[List.flatMap_cons];exact c1.append' i3
   ·rw[List.flatMap_cons];exact c2.append i4
theorem qgq {P:Program} {t:TypeId} {k by_:Nat} {z:PV} (h:qky P t=some (k,by_,z)) :
  ∃ e i zv,P.underlying t=some (.slice e)∧P.info? e=some i∧i.size=k∧i.bytes=by_∧by_≤65536∧i.zero=some zv∧z.cells.length=k∧z.isVal=true∧z.names=[] ∧
   (∀ (w:World) (I:Nat→Prop) (lp:Nat→Option Nat) (L:Option Loc),qbr w I lp L z zv):=by
 unfold qky at h
 split at h
 case h_2=>cases h
 rename_i e hu
 split at h
 case h_2=>cases h
 rename_i i z' hi hz
 split at h
 case isFalse=>cases h
 rename_i hb
 cases h
 have hval:=qyn hz
 have hz0:=hz
 unfold qkp at hz
 simp only[Option.bind_eq_some_iff] at hz
 obtain⟨zv,⟨j,hj,hjz⟩,hp⟩:=hz
 rw[hi] at hj;cases hj
 exact⟨e,i,zv,hu,hi,rfl,rfl,hb.1,hjz,hb.2,hval,qyf 3 zv _ hp,fun w I lp L=>qp3 3 zv _ hp⟩
theorem qnu (hs:SR lp I L st a.tmps.toList suf w) (hf:Fr cx w0 I0 F0 O0 Hd R e ds I F L w) {d:Nat} (hd:o.dst=some d) (hc:st.objs[d]?=some [])
  {k kt:Nat} {xs:List PV} {c:Array Value} {t:TypeId} (hkt:kt=0∨t=kt) {cap:Nat} {w1:World} (hw:Same w w1) (hcap:xs.length≤cap) (hsz:cap*k≤c.size) (hk:∀ x∈xs,x.cells.length=k)
  (hone:One (c.toList.take (xs.length*k))) (hrep:qbn w I lp none (cellsL xs) (c.toList.take (xs.length*k)))
  (hr:(execOp a.eval o).run cx.P w=.ok (.value (.slice (some ⟨w.heap.size,0,none⟩) xs.length cap)) (w1.alloc (.cells c t))) :
  qh8 cx w0 I0 F0 O0 Hd R e ds F lp suf o a w (apply st o.dst {v:=.arr (d,0) k 0 xs.length,new:=[.arr k kt xs]}):=by
 have hs1:w1.heap.size=w.heap.size:=by rw[hw.heap]
 have hle:xs.length*k≤cap*k:=Nat.mul_le_mul_right _ hcap
 refine qvm hs hf hd hc hw (C:=c.size) hr ?_ ?_
 ·intro L' hL
  refine⟨c,t,by rw[←hs1];exact qdk w1 _,rfl,⟨by omega,hkt⟩,hk,hone,?_⟩
  exact qbn.mono (fun _ h=>h) (fun b hb=>by rw[heap_alloc_lt w1 _ (by have:=hf.sep.iB b hb;omega),hw.heap]) (fun _ _ h=>h) hrep
 ·intro L' hL
  have:=qbr.arr (w:=w1.alloc (.cells c t)) (I:=I) (lp:=lp) (L:=L') (d,0) k 0 xs.length cap w.heap.size c.size hL (by simpa using hsz) hcap
  simpa using this
end ops
end Go.Ab


namespace Go.Ab
section ops
variable {E:Type} {cx:Cx} {w0:World} {I0 F0:Nat→Prop} {O0:Own} {Hd:Nat→Option Obj} {R:qkj E} {e:E} {ds:List Deferred} {F:Nat→Prop} {lp:Nat→Option Nat} {suf:List Value}
variable {I:Nat→Prop} {L:Loc} {st:St} {a:Act} {w:World} {o:Oper} {out:Out} {rop:ROp}
theorem Qkc (hs:SR lp I L st a.tmps.toList suf w) (hf:Fr cx w0 I0 F0 O0 Hd R e ds I F L w) {Rn:List Nm} (hR:qf7 (qbf st.objs) Rn=true) {o:Oper} {out:Out} (hfrz:out.frz=[]) (hupd:out.upd=none) (hkill:out.kill=none)
  (h:∀ (L':Loc),SR lp (inR I L Rn) L' (qbt (qbf st.objs) Rn st) a.tmps.toList suf w→Fr cx w0 I0 F0 O0 Hd R e ds (inR I L Rn) F L' w →
   qh8 cx w0 I0 F0 O0 Hd R e ds F lp suf o a w (apply (qbt (qbf st.objs) Rn st) o.dst out)) (hne:Rn≠[]) :
  qh8 cx w0 I0 F0 O0 Hd R e ds F lp suf o a w (apply st o.dst {out with frz:=Rn}):=by
 have hd:=h _ (hs.freeze hR) (hf.freeze Rn)
 have e1:apply st o.dst {out with frz:=Rn}=apply (qbt (qbf st.objs) Rn st) o.dst out:=by
  cases Rn with
  | nil=>exact absurd rfl hne
  | cons r rs=>simp[apply,hfrz,hupd,hkill]
 rw[e1];exact hd
theorem qye (t el:TypeId) (i:TypeInfo) (zv:Value) {P:Program} (hu:P.underlying t=some (.slice el)) (hi:P.info? el=some i) (hz:i.zero=some zv) (w:World) (len:Nat) (parts:Array (Nat×Value)) (h:len*i.size≤16777216)
  (vs:List Value) (hp:parts.toList=(vs.zipIdx 0).map fun x=>(x.2,x.1)) (hl:vs.length=len) (hv:∀ v∈vs,v.cells.size=i.size) :
  ∃ c:Array Value,c.toList=vs.flatMap (fun v=>v.cells.toList)∧(Instr.buildSlice t len parts).run P w=.ok (.slice (some ⟨w.heap.size,0,none⟩) len len) (w.alloc (.cells c el)):=by
 have go:∀ z0:Array Value,∃ c:Array Value,Instr.fill (fun j=>some (j*i.size,i.size)) ((Array.range (len*i.size)).map (z0[·%z0.size]!)) parts.toList=some c∧c.toList=vs.flatMap (fun v=>v.cells.toList):=by
  intro z0
  obtain⟨c,h1,h2⟩:=fill_order i.size vs 0 ((Array.range (len*i.size)).map (z0[·%z0.size]!)) hv (by simp[hl])
  refine⟨c,by rw[hp];exact h1,?_⟩
  rw[h2,Nat.zero_mul,List.take_zero,List.nil_append,List.drop_of_length_le (by simp[hl]),List.append_nil]
 by_cases h0:len*i.size=0
 ·obtain⟨c,h1,h2⟩:=go #[]
  refine⟨c,h2,?_⟩
  simp only[Instr.buildSlice,Sem.run_bind,run_underlying hu,Result.andThen_ok,qdz hi]
  rw[if_neg (by omega),if_pos h0]
  rw[Sem.run_bind,Sem.run_pure,Result.andThen_ok,h1]
  simp[newRow]
 ·obtain⟨c,h1,h2⟩:=go zv.cells
  refine⟨c,h2,?_⟩
  simp only[Instr.buildSlice,Sem.run_bind,run_underlying hu,Result.andThen_ok,qdz hi]
  rw[if_neg (by omega)]
  rw[if_neg h0]
  simp only[Sem.run_pure,Result.andThen_ok,Sem.run_bind,zeroValue,typeInfo,run_program,hi,hz]
  rw[h1]
  simp[newRow]
theorem op_mkSl (hs:SR lp I L st a.tmps.toList suf w) (hf:Fr cx w0 I0 F0 O0 Hd R e ds I F L w) {t:TypeId} {len:Nat} {ps:Array (Nat×Operand)} (ho:o.op=.buildSlice t len ps) {k by_:Nat} {z:PV} {rs:List RX}
  (he:qky cx.P t=some (k,by_,z)) (hc:qss cx.G 0 ps.toList=some rs) (hl:rs.length=len) (hle:len*k≤16777216) {d:Nat} (hd:o.dst=some d) (hcl:st.objs[d]?=some [])
  (h:exec (o.dst.getD 0) (qbf st.objs) st.tmps (.mkSl k rs)=some out):qh8 cx w0 I0 F0 O0 Hd R e ds F lp suf o a w (apply st o.dst out):=by
 obtain⟨el,i,zv,hu,hi,hik,_,_,hz,_⟩:=qgq he
 obtain⟨vs,h1,h2⟩:=Qgc hs hf.wd _ _ _ hc
 have hlen:=h2.length
 rw[List.length_map] at hlen
 have hrun:(∀ v∈vs,v.cells.size=k)→∃ c:Array Value,c.toList=vs.flatMap (fun v=>v.cells.toList)∧(execOp a.eval o).run cx.P w=.ok (.value (.slice (some ⟨w.heap.size,0,none⟩) len len)) (w.alloc (.cells c el)):=by
  intro hv
  obtain⟨c,g1,g2⟩:=qye t el i zv hu hi hz w len (ps.map fun x=>(x.1,a.eval x.2)) (by rw[hik];exact hle) vs (by simpa using h1) (by omega) (by rw[hik];exact hv)
  exact⟨c,g1,by simp[execOp,ho,g2]⟩
 simp only[exec,hd,Option.getD_some] at h
 split at h
 ·rename_i hS
  obtain⟨hk,h⟩:=qbh h
  cases h
  obtain⟨v1,v2,v3,v4⟩:=qr7 h2 hk
  obtain⟨c,hc1,hr⟩:=hrun v1
  have hS:qbd (rs.map (RX.ev st.tmps))=[]:=by simpa using hS
  have hclo:=(qr7 (h2.shut hS) hk).2.2.2
  have hlc:=hclo.length
  rw[qfd v2,←hc1] at hlc
  have hlx:(rs.map (RX.ev st.tmps)).length=len:=by simp[hl]
  rw[hlx] at hlc
  have:=qnu hs hf hd hcl (k:=k) (kt:=0) (xs:=rs.map (RX.ev st.tmps)) (c:=c) (t:=el) (.inl rfl) (cap:=len) (.refl w) (by omega) (by simp at hlc;omega) v2
   (by rw[hlx,hlc,List.take_length,hc1];exact v3) (by rw[hlx,hlc,List.take_length,hc1];exact hclo) (by rw[hlx];exact hr)
  simpa[hd] using this
 ·rename_i hS
  obtain⟨hk,h⟩:=qbh h
  cases h
  simp only[Bool.and_eq_true] at hk
  obtain⟨hk,hR⟩:=hk
  have hne:qbs (qbf st.objs) qbe (qbd (rs.map (RX.ev st.tmps)))≠[]:=by
   intro e0
   cases hn:qbd (rs.map (RX.ev st.tmps)) with
   | nil=>rw[hn] at hS;simp at hS
   | cons m ms =>
    have:m∈qbs (qbf st.objs) qbe (qbd (rs.map (RX.ev st.tmps))):=qcn qbe _ m (by rw[hn];exact List.mem_cons_self)
    rw[e0] at this;cases this
  have hclo0:=ql9 hs hR h2 fun nm hn=>qcn _ _ nm hn
  obtain⟨v1,v2,v3,hclo⟩:=qr7 hclo0 hk
  obtain⟨c,hc1,hr⟩:=hrun v1
  have hlc:=hclo.length
  rw[qfd v2,←hc1] at hlc
  have hlx:(qdy (qb5 (qbf st.objs)) (rs.map (RX.ev st.tmps))).length=len:=by simp[ql4,hl]
  rw[hlx] at hlc
  have:=Qkc hs hf hR (o:=o) (out:={v:=.arr (d,0) k 0 (qdy (qb5 (qbf st.objs)) (rs.map (RX.ev st.tmps))).length,new:=[.arr k 0 (qdy (qb5 (qbf st.objs)) (rs.map (RX.ev st.tmps)))]}) rfl rfl rfl (fun L' hs' hf'=>?_) hne
  ·simpa[hd] using this
  ·have hcl':(qbt (qbf st.objs) (qbs (qbf st.objs) qbe (qbd (rs.map (RX.ev st.tmps)))) st).objs[d]?=some []:=by
    have key:∀ (R:List Nm) (σ:List (List Ob)),σ[d]?=some []→(R.foldl (fun objs nm=>qb9 objs nm qd5) σ)[d]?=some []:=by
     intro R
     induction R with
     | nil=>intro σ h;exact h
     | cons r R ih =>
      intro σ h
      refine ih _ ?_
      show (qb9 σ r qd5)[d]?=some []
      unfold qb9
      split
      ·rename_i l hl
       by_cases hrd:r.1=d
       ·rw[hrd] at hl;rw[h] at hl;cases hl
        rw[hrd,List.getElem?_set_self (List.getElem?_eq_some_iff.1 h).1];rfl
       ·rw[List.getElem?_set_ne hrd];exact h
      ·exact h
    refine key _ _ ?_
    simp[qhf,hcl]
   exact qnu hs' hf' hd hcl' (k:=k) (kt:=0) (c:=c) (t:=el) (.inl rfl) (cap:=len) (.refl w) (by omega) (by simp at hlc;omega) v2
    (by rw[hlx,hlc,List.take_length,hc1];exact v3) (by rw[hlx,hlc,List.take_length,hc1];exact hclo) (by rw[hlx];exact hr)
theorem natOf_some {x:PV} {n:Nat} (h:qqx x=some n):∃ k,x=.int k (n:Int):=by
 unfold qqx at h
 split at h
 ·rename_i k m
  split at h
  ·rename_i hm;cases h;exact⟨k,by rw[Int.toNat_of_nonneg hm]⟩
  ·cases h
 ·cases h
theorem qm6 {x:PV} {v:Value} (hx:qbr w I lp (some L) x v) {n:Nat} (h:qqx x=some n):∃ k,v=.int k (n:Int):=by
 obtain⟨k,hk⟩:=natOf_some h
 rw[hk] at hx
 exact⟨k,qd8 hx⟩
theorem Qb2 {w:World} {I:Nat→Prop} {lp:Nat→Option Nat} {L:Option Loc} {z:PV} {zs:List Value} (h:qbn w I lp L z.cells zs) (l:Nat) :
  qbn w I lp L (cellsL (List.replicate l z)) (List.replicate l zs).flatten:=by
 induction l with
 | zero=>exact .nil
 | succ l ih=>rw[List.replicate_succ,List.replicate_succ,cellsL,List.flatten_cons];exact h.append ih
theorem op_mkS (hs:SR lp I L st a.tmps.toList suf w) (hf:Fr cx w0 I0 F0 O0 Hd R e ds I F L w) {t:TypeId} {x y:Operand} (ho:o.op=.makeSlice t x y) {k by_:Nat} {z:PV} {r1 r2:RX}
  (he:qky cx.P t=some (k,by_,z)) (h1:rx cx.G x=some r1) (h2:rx cx.G y=some r2) {d:Nat} (hd:o.dst=some d) (hcl:st.objs[d]?=some [])
  (h:exec (o.dst.getD 0) (qbf st.objs) st.tmps (.mkS k z r1 r2)=some out):qh8 cx w0 I0 F0 O0 Hd R e ds F lp suf o a w (apply st o.dst out):=by
 obtain⟨el,i,zv,hu,hi,hik,hby,hb6,hz,hzk,hzv,hzn,hzr⟩:=qgq he
 have hx:=qb4 hs hf.wd h1
 have hy:=qb4 hs hf.wd h2
 simp only[exec,hd,Option.getD_some] at h
 split at h
 case h_2=>cases h
 rename_i l c hl hc
 obtain⟨hk,h⟩:=qbh h
 cases h
 simp only[Bool.and_eq_true,decide_eq_true_eq,beq_iff_eq] at hk
 obtain⟨⟨hlc,hcm⟩,_⟩:=hk
 unfold qgx at hcm
 obtain⟨k1,hk1⟩:=qm6 hx hl
 obtain⟨k2,hk2⟩:=qm6 hy hc
 have hmul:i.bytes*c≤140737488355328:=calc i.bytes*c≤65536*2147483648:=Nat.mul_le_mul (by omega) hcm
  _=140737488355328:=by decide
 have hmulI:(i.bytes:Int)*(c:Int)≤140737488355328:=by
  have:((i.bytes*c:Nat):Int)≤((140737488355328:Nat):Int):=Int.ofNat_le.2 hmul
  rwa [Int.natCast_mul] at this
 have hrun:=run_make (P:=cx.P) w t el i zv hu hi hz k1 k2 (l:Int) (c:Int) (by omega) (by omega) (by omega) (by omega)
 simp only[Int.toNat_natCast] at hrun
 obtain⟨hz1,hz2⟩:=(hzr w I lp none).cells hzv
 have hzsz:zv.cells.size=k:=by have:=hz2.length;simp at this;omega
 have hmk:∀ n,n≤c→(madeCells zv.cells (c*k)).toList.take (n*k)=(List.replicate n zv.cells.toList).flatten:=by
  intro n hn
  apply List.ext_getElem?
  intro j
  by_cases hj:j < n*k
  ·have hk0:0 < k:=Nat.pos_of_ne_zero fun h0=>by simp[h0] at hj
   have hjc:j < c*k:=Nat.lt_of_lt_of_le hj (Nat.mul_le_mul_right _ hn)
   rw[List.getElem?_take_of_lt hj]
   have hmod:j%k < k:=Nat.mod_lt _ hk0
   have key:∀ (n j:Nat),j < n*k→(List.replicate n zv.cells.toList).flatten[j]?=zv.cells.toList[j%k]?:=by
    intro n
    induction n with
    | zero=>intro j hj;simp at hj
    | succ n ih =>
     intro j hj
     rw[List.replicate_succ,List.flatten_cons]
     by_cases hjk:j < k
     ·rw[List.getElem?_append_left (by simp[hzsz,hjk]),Nat.mod_eq_of_lt hjk]
     ·rw[List.getElem?_append_right (by simp[hzsz];omega)]
      simp only[Array.length_toList,hzsz]
      rw[Nat.add_mul,Nat.one_mul] at hj
      rw[ih (j - k) (by omega),←Nat.mod_eq_sub_mod (by omega)]
   rw[key n j hj]
   simp[madeCells,hjc,hzsz,hmod]
  ·rw[List.getElem?_eq_none (by simp;omega),List.getElem?_eq_none (by simp[hzsz];omega)]
 have hclen:∀ x∈List.replicate l z,x.cells.length=k:=fun x hx=>by rw[List.eq_of_mem_replicate hx];exact hzk
 have hone:One (List.replicate l zv.cells.toList).flatten:=by
  intro v hv
  obtain⟨u,hu1,hu2⟩:=List.mem_flatten.1 hv
  rw[List.eq_of_mem_replicate hu1] at hu2
  exact hz1 v hu2
 have hrep:=Qb2 hz2 l
 have:=qnu hs hf hd hcl (k:=k) (kt:=0) (xs:=List.replicate l z) (c:=madeCells zv.cells (c*k)) (t:=el) (.inl rfl) (cap:=c) (.refl w) (by simpa using hlc) (by simp[madeCells]) hclen
  (by rw[List.length_replicate,hmk l hlc];exact hone) (by rw[List.length_replicate,hmk l hlc];exact hrep)
  (by simp[execOp,ho,hk1,hk2,hrun,hik])
 simpa[hd] using this
theorem op_mkMap (hs:SR lp I L st a.tmps.toList suf w) (hf:Fr cx w0 I0 F0 O0 Hd R e ds I F L w) {t:TypeId} (ho:o.op=.makeMap t none) {d:Nat} (hd:o.dst=some d) (hcl:st.objs[d]?=some []) :
  qh8 cx w0 I0 F0 O0 Hd R e ds F lp suf o a w (apply st o.dst {v:=.mp (d,0),new:=[.map []]}):=by
 refine qvm hs hf hd hcl (.refl w) (C:=0) (v':=.map (some w.heap.size)) (obj:=.map #[] 0) ?_ ?_ ?_
 ·have:(Instr.makeMap t none).run cx.P w=.ok (.map (some w.heap.size)) (w.alloc (.map #[] 0)):=rfl
  simp[execOp,ho,this]
 ·intro L' hL;exact⟨#[],0,qdk w _,.nil⟩
 ·intro L' hL;exact .mp _ _ _ hL
theorem Qfe (hs:SR lp I L st a.tmps.toList suf w) (hf:Fr cx w0 I0 F0 O0 Hd R e ds I F L w) {t:TypeId} {x:Operand} {f:Nat} (ho:o.op=.fieldAddr t x f) {fs:Array Field} {fd:Field} {i:TypeInfo} {r:RX}
  (hu:cx.P.underlying t=some (.struct fs)) (hfd:fs[f]?=some fd) (hi:cx.P.info? fd.type=some i) (hz:i.size≠0) (h1:rx cx.G x=some r)
  (h:exec (o.dst.getD 0) (qbf st.objs) st.tmps (.fieldAddr fd.offset r)=some out):qh8 cx w0 I0 F0 O0 Hd R e ds F lp suf o a w (apply st o.dst out):=by
 have hx:=qb4 hs hf.wd h1
 have hrun:∀ b off,a.eval x=.pointer (some ⟨b,off,none⟩)→(execOp a.eval o).run cx.P w=.ok (.value (.pointer (some ⟨b,off+fd.offset,none⟩))) w:=by
  intro b off hv
  simp[execOp,ho,hv,Instr.fieldAt,run_underlying hu,hfd,Instr.sureAddr,fieldPlace,qdz hi,hz,qjp]
 simp only[exec] at h
 split at h
 ·rename_i nm off hr;rw[hr] at hx;cases h
  obtain⟨b,C,hL,hv⟩:=qge hx
  exact qbl hs hf (hrun b off hv) (.refl w) (.ref nm _ b C hL)
 ·rename_i cs off hr;rw[hr] at hx
  obtain⟨hk,h⟩:=qbh h
  cases h
  obtain⟨b,off0,c,E',fr,hv,g1,g2,g3,g4,g5,g6⟩:=qsr hx
  have:=qbr.ptr (w:=w) (I:=I) (lp:=lp) (L:=some L) cs (off+fd.offset) b off0 c E' fr g1 g2 g3 (of_decide_eq_true hk) g5 g6
  refine qbl hs hf (hrun b _ hv) (.refl w) ?_
  rwa [Nat.add_assoc]
 ·rename_i nm k j off hr;rw[hr] at hx;cases h
  obtain⟨b,C,hL,hv⟩:=qvj hx
  refine qbl hs hf (hrun b _ hv) (.refl w) ?_
  rw[Nat.add_assoc];exact .aref nm k j _ b C hL
 ·cases h
theorem run_part {P:Program} {w:World} {t:TypeId} {n:Nat} {ag:Bool} (hsh:qjb P t=some (n,ag)) {vs:Array Value} {off:Nat} {v:Value}
  (hv:if ag then off+n≤vs.toList.length∧v=.agg ((vs.toList.drop off).take n).toArray else vs.toList[off]?=some v):(part t vs off).run P w=.ok v w:=by
 obtain⟨d,i,h1,h2,h3,h4⟩:=qma hsh
 simp only[part,Sem.run_bind,Qd5 h1,Result.andThen_ok,h4]
 cases ag
 ·simp only[Bool.false_eq_true,if_false,Array.getElem?_toList] at hv ⊢
  simp[hv]
 ·simp only[if_true] at hv ⊢
  obtain⟨_,rfl⟩:=hv
  simp[qdz h2,h3,qh3]
theorem op_field (hs:SR lp I L st a.tmps.toList suf w) (hf:Fr cx w0 I0 F0 O0 Hd R e ds I F L w) {t:TypeId} {x:Operand} {f:Nat} (ho:o.op=.field t x f) {fs:Array Field} {fd:Field} {n:Nat} {ag:Bool} {r:RX}
  (hu:cx.P.underlying t=some (.struct fs)) (hfd:fs[f]?=some fd) (hsh:qjb cx.P fd.type=some (n,ag)) (h1:rx cx.G x=some r)
  (h:exec (o.dst.getD 0) (qbf st.objs) st.tmps (.field fd.offset n ag r)=some out):qh8 cx w0 I0 F0 O0 Hd R e ds F lp suf o a w (apply st o.dst out):=by
 have hx:=qb4 hs hf.wd h1
 simp only[exec] at h
 split at h
 case h_2=>cases h
 rename_i cs hr;rw[hr] at hx
 obtain⟨vs,hv,hone,hrep⟩:=Qcv hx
 obtain⟨u,hu',rfl⟩:=Option.map_eq_some_iff.1 h
 obtain⟨v',hv',hrv⟩:=qv3 hrep hone hu'
 refine qbl hs hf (v':=v') ?_ (.refl w) hrv
 simp[execOp,ho,hv,Instr.field,run_underlying hu,hfd,asAgg,run_part hsh hv']
theorem qv5 {P:Program} {t el:TypeId} {i:TypeInfo} (hu:P.underlying t=some (.slice el)) (hi:P.info? el=some i) (w:World) (b off len cap:Nat) (k:IntKind) (j:Nat) (hj:j < len) :
  (Instr.indexAt t (.slice (some ⟨b,off,none⟩) len cap) (.int k (j:Int))).run P w=.ok (.pointer (some ⟨b,off+j*i.size,none⟩)) w:=by
 have h2:(0:Int)≤(j:Int)∧(j:Int) < (len:Int):=⟨by omega,by omega⟩
 simp[Instr.indexAt,asIntOf,run_underlying hu,h2,qdz hi,qjp]
 intro h;omega
theorem op_idxAddr (hs:SR lp I L st a.tmps.toList suf w) (hf:Fr cx w0 I0 F0 O0 Hd R e ds I F L w) {t:TypeId} {x y:Operand} (ho:o.op=.indexAddr t x y) {k by_:Nat} {z:PV} {r1 r2:RX}
  (he:qky cx.P t=some (k,by_,z)) (h1:rx cx.G x=some r1) (h2:rx cx.G y=some r2)
  (h:exec (o.dst.getD 0) (qbf st.objs) st.tmps (.idxAddr k r1 r2)=some out):qh8 cx w0 I0 F0 O0 Hd R e ds F lp suf o a w (apply st o.dst out):=by
 obtain⟨el,i,zv,hu,hi,hik,_⟩:=qgq he
 have hx:=qb4 hs hf.wd h1
 have hy:=qb4 hs hf.wd h2
 simp only[exec] at h
 split at h
 ·rename_i j k' xs full hj hr
  rw[hr] at hx
  obtain⟨kk,hky⟩:=qm6 hy hj
  split at h
  case h_2=>cases h
  rename_i ev hev
  obtain⟨hk,h⟩:=qbh h
  cases h
  simp only[Bool.and_eq_true,beq_iff_eq,decide_eq_true_eq] at hk
  obtain⟨rfl,hk0⟩:=hk
  have hlt:=(List.getElem?_eq_some_iff.1 hev).1
  rcases qrb hx with ⟨b,off,cap,c,E',fr,hv,g1,g2,g3,g4,g5,g6,g7,g8⟩ | ⟨rfl,_⟩
  ·have hrun:=qv5 (P:=cx.P) hu hi w b off xs.length cap kk j hlt
   rw[hik] at hrun
   have hkx:=g4 ev (List.mem_of_getElem? hev)
   have hmul:(j+1)*k≤xs.length*k:=Nat.mul_le_mul_right _ hlt
   rw[Nat.add_mul,Nat.one_mul] at hmul
   have e1:(((c.toList.drop off).take (xs.length*k)).drop (j*k)).take k=(c.toList.drop (off+j*k)).take k:=by
    rw[List.drop_take,List.take_take,List.drop_drop,Nat.min_eq_left (by omega)]
   have:=qbr.ptr (w:=w) (I:=I) (lp:=lp) (L:=some L) ev.cells 0 b (off+j*k) c E' fr g1 g2 (by omega) (by omega) (by rw[hkx,←e1];exact (g7.drop' _).take' _)
    (by rw[hkx,←e1,←qta g4 hev];exact (g8.drop _).take _)
   exact qbl hs hf (v':=.pointer (some ⟨b,off+j*k,none⟩)) (by simp[execOp,ho,hv,hky,hrun]) (.refl w) (by simpa using this)
  ·simp at hev
 ·rename_i j nm k' off n hj hr
  rw[hr] at hx
  obtain⟨kk,hky⟩:=qm6 hy hj
  obtain⟨hk,h⟩:=qbh h
  cases h
  simp only[Bool.and_eq_true,beq_iff_eq,decide_eq_true_eq] at hk
  obtain⟨rfl,hjn⟩:=hk
  rcases qje hx with ⟨b,C,cap,hL,hv,_,_⟩ | ⟨_,_,_,hn0⟩
  ·have hrun:=qv5 (P:=cx.P) hu hi w b (off*k) n cap kk j hjn
   rw[hik] at hrun
   have:=qbr.aref (w:=w) (I:=I) (lp:=lp) nm k (off+j) 0 b C hL
   refine qbl hs hf (v':=.pointer (some ⟨b,off*k+j*k,none⟩)) (by simp[execOp,ho,hv,hky,hrun]) (.refl w) ?_
   rw[Nat.add_mul] at this;exact this
  ·omega
 ·cases h
theorem op_strIdx (hs:SR lp I L st a.tmps.toList suf w) (hf:Fr cx w0 I0 F0 O0 Hd R e ds I F L w) {t:TypeId} {x y:Operand} (ho:o.op=.index t x y) {r1 r2:RX}
  (hu:cx.P.underlying t=some .string) (h1:rx cx.G x=some r1) (h2:rx cx.G y=some r2)
  (h:exec (o.dst.getD 0) (qbf st.objs) st.tmps (.strIdx r1 r2)=some out):qh8 cx w0 I0 F0 O0 Hd R e ds F lp suf o a w (apply st o.dst out):=by
 have hx:=qb4 hs hf.wd h1
 have hy:=qb4 hs hf.wd h2
 simp only[exec] at h
 split at h
 case h_2=>cases h
 rename_i j s hj hr
 rw[hr] at hx
 obtain⟨kk,hky⟩:=qm6 hy hj
 split at h
 case h_2=>cases h
 rename_i b hb
 cases h
 have hb':(⟨s.toArray⟩:ByteArray)[j]?=some b:=by
  obtain⟨h1,h2⟩:=List.getElem?_eq_some_iff.1 hb
  have hsz:j < (⟨s.toArray⟩:ByteArray).size:=h1
  rw[getElem?_pos (⟨s.toArray⟩:ByteArray) j hsz]
  exact congrArg some h2
 refine qbl hs hf (v':=.int .u8 b.toNat) ?_ (.refl w) (.int _ _)
 simp[execOp,ho,qfc hx,hky,Instr.index,asIntOf,run_underlying hu,hb']
end ops
end Go.Ab


namespace Go.Ab
section ops
variable {E:Type} {cx:Cx} {w0:World} {I0 F0:Nat→Prop} {O0:Own} {Hd:Nat→Option Obj} {R:qkj E} {e:E} {ds:List Deferred} {F:Nat→Prop} {lp:Nat→Option Nat} {suf:List Value}
variable {I:Nat→Prop} {L:Loc} {st:St} {a:Act} {w:World} {o:Oper} {out:Out} {rop:ROp}
theorem Qjg (hs:SR lp I L st a.tmps.toList suf w) (hf:Fr cx w0 I0 F0 O0 Hd R e ds I F L w) {t el:TypeId} {n:Nat} {i:TypeInfo} {x y:Operand} (ho:o.op=.indexAddr t x y) {r1 r2:RX}
  (hu:cx.P.underlying t=some (.array n el)) (hi:cx.P.info? el=some i) (h1:rx cx.G x=some r1) (h2:rx cx.G y=some r2)
  (h:exec (o.dst.getD 0) (qbf st.objs) st.tmps (.idxAddrA i.size n r1 r2)=some out):qh8 cx w0 I0 F0 O0 Hd R e ds F lp suf o a w (apply st o.dst out):=by
 have hx:=qb4 hs hf.wd h1
 have hy:=qb4 hs hf.wd h2
 have hrun:∀ (b off j:Nat) (kk:IntKind),a.eval x=.pointer (some ⟨b,off,none⟩)→a.eval y=.int kk (j:Int)→j < n →
   (execOp a.eval o).run cx.P w=.ok (.value (.pointer (some ⟨b,off+j*i.size,none⟩))) w:=by
  intro b off j kk hv hk hj
  have h2:(0:Int)≤(j:Int)∧(j:Int) < (n:Int):=⟨by omega,by omega⟩
  simp[execOp,ho,hv,hk,Instr.indexAt,asIntOf,run_underlying hu,Instr.sureAddr,h2,qdz hi,qjp]
  intro h;omega
 simp only[exec] at h
 split at h
 ·rename_i j cs off hj hr
  rw[hr] at hx
  obtain⟨kk,hky⟩:=qm6 hy hj
  obtain⟨hk,h⟩:=qbh h
  cases h
  simp only[Bool.and_eq_true,decide_eq_true_eq] at hk
  obtain⟨b,off0,c,E',fr,hv,g1,g2,g3,g4,g5,g6⟩:=qsr hx
  have:=qbr.ptr (w:=w) (I:=I) (lp:=lp) (L:=some L) cs (off+j*i.size) b off0 c E' fr g1 g2 g3 hk.2 g5 g6
  refine qbl hs hf (hrun b _ j kk hv hky hk.1) (.refl w) ?_
  rwa [Nat.add_assoc]
 ·rename_i j nm off hj hr
  rw[hr] at hx
  obtain⟨kk,hky⟩:=qm6 hy hj
  obtain⟨hk,h⟩:=qbh h
  cases h
  obtain⟨b,C,hL,hv⟩:=qge hx
  exact qbl hs hf (hrun b _ j kk hv hky (of_decide_eq_true hk)) (.refl w) (.ref nm _ b C hL)
 ·cases h
theorem qc2 {P:Program} (w:World) (k:IntKind) (n y:Nat) (code:BoundsCode) (h:n≤y):(Instr.sliceBound (.int k (n:Int)) y code).run P w=.ok n w:=by
 have:(0:Int)≤(n:Int)∧(n:Int)≤(y:Int):=⟨by omega,by omega⟩
 simp[Instr.sliceBound,asIntOf,this]
theorem qgr (hs:SR lp I L st a.tmps.toList suf w) (hw:cx.Wd I w) {xo:Option Operand} {r:Option RX} (hr:rxO cx.G xo=some r) {d top n:Nat} (h:ql2 (evO st.tmps r) d top=some n) :
  (xo=none∧r=none∧n=d)∨(∃ x k rx',xo=some x∧r=some rx'∧a.eval x=.int k (n:Int)∧n≤top):=by
 cases xo with
 | none =>
  simp only[rxO,Option.some.injEq] at hr
  subst hr
  simp only[ql2,evO,Option.some.injEq] at h
  exact .inl ⟨rfl,rfl,h.symm⟩
 | some x =>
  simp only[rxO,Option.map_eq_some_iff] at hr
  obtain⟨y,hy,rfl⟩:=hr
  simp only[ql2,evO] at h
  split at h
  ·rename_i m hm
   obtain⟨hk,h⟩:=qbh h
   cases h
   obtain⟨k,hk'⟩:=qm6 (qb4 hs hw hy) hm
   exact .inr ⟨x,k,y,rfl,rfl,hk',of_decide_eq_true hk⟩
  ·cases h
theorem qdh {P:Program} (w:World) (isS:Bool) (len cap:Nat) (ev:Operand→Value) (lo hi mx:Option Operand) (l h m:Nat)
  (hm:(mx=none∧m=cap)∨(∃ x k,mx=some x∧ev x=.int k (m:Int)∧m≤cap))
  (hh:(hi=none∧mx=none∧h=len)∨(∃ x k,hi=some x∧ev x=.int k (h:Int)∧h≤m))
  (hl:(lo=none∧l=0)∨(∃ x k,lo=some x∧ev x=.int k (l:Int)∧l≤h)) :
  (Instr.sliceBounds isS len cap (lo.map ev) (hi.map ev) (mx.map ev)).run P w=.ok (l,h,m) w:=by
 unfold Instr.sliceBounds
 rcases hm with ⟨rfl,rfl⟩ | ⟨xm,km,rfl,hxm,hmc⟩
 ·rcases hh with ⟨rfl,_,rfl⟩ | ⟨xh,kh,rfl,hxh,hhm⟩
  ·rcases hl with ⟨rfl,rfl⟩ | ⟨xl,kl,rfl,hxl,hlh⟩
   ·simp
   ·simp[hxl,qc2 w kl l _ _ hlh]
  ·rcases hl with ⟨rfl,rfl⟩ | ⟨xl,kl,rfl,hxl,hlh⟩
   ·simp[hxh,qc2 w kh h _ _ hhm]
   ·simp[hxh,qc2 w kh h _ _ hhm,hxl,qc2 w kl l _ _ hlh]
 ·rcases hh with ⟨rfl,hn,rfl⟩ | ⟨xh,kh,rfl,hxh,hhm⟩
  ·cases hn
  ·rcases hl with ⟨rfl,rfl⟩ | ⟨xl,kl,rfl,hxl,hlh⟩
   ·simp[hxm,qc2 w km m _ _ hmc,hxh,qc2 w kh h _ _ hhm]
   ·simp[hxm,qc2 w km m _ _ hmc,hxh,qc2 w kh h _ _ hhm,hxl,qc2 w kl l _ _ hlh]
theorem qld {P:Program} {t el:TypeId} {i:TypeInfo} (hu:P.underlying t=some (.slice el)) (hi:P.info? el=some i) (w:World) (ad:Option Addr) (len cap:Nat) (ev:Operand→Value) (lo hi' mx:Option Operand) (l h m:Nat)
  (hb:(Instr.sliceBounds true len cap (lo.map ev) (hi'.map ev) (mx.map ev)).run P w=.ok (l,h,m) w) :
  (Instr.sliceAt t (.slice ad len cap) (lo.map ev) (hi'.map ev) (mx.map ev)).run P w=.ok (.slice (if m=l then ad else ad.map (·.add (l*i.size))) (h - l) (m - l)) w:=by
 simp[Instr.sliceAt,Instr.slice,run_underlying hu,hb,qdz hi]
theorem op_slice (hs:SR lp I L st a.tmps.toList suf w) (hf:Fr cx w0 I0 F0 O0 Hd R e ds I F L w) {t:TypeId} {x:Operand} {lo hi mx:Option Operand} (ho:o.op=.slice t x lo hi mx) {k by_:Nat} {z:PV} {r:RX} {rl rh rm:Option RX}
  (he:qky cx.P t=some (k,by_,z)) (h1:rx cx.G x=some r) (hl:rxO cx.G lo=some rl) (hh:rxO cx.G hi=some rh) (hm:rxO cx.G mx=some rm)
  (h:exec (o.dst.getD 0) (qbf st.objs) st.tmps (.slice k r rl rh rm)=some out):qh8 cx w0 I0 F0 O0 Hd R e ds F lp suf o a w (apply st o.dst out):=by
 obtain⟨el,i,zv,hu,hi',hik,_⟩:=qgq he
 have hx:=qb4 hs hf.wd h1
 simp only[exec] at h
 obtain⟨u,hu',rfl⟩:=Option.map_eq_some_iff.1 h
 clear h
 have bnds:∀ {len cap mA hA lA:Nat},len≤cap→ql2 (evO st.tmps rm) len len=some mA→ql2 (evO st.tmps rh) len mA=some hA→ql2 (evO st.tmps rl) 0 hA=some lA →
   ((evO st.tmps rm).isNone||(evO st.tmps rh).isSome)=true →
   ∃ m,(Instr.sliceBounds true len cap (lo.map a.eval) (hi.map a.eval) (mx.map a.eval)).run cx.P w=.ok (lA,hA,m) w∧m≤cap∧hA≤m∧lA≤hA∧hA≤len∧(rm=none→m=cap)∧(rm≠none→m=mA):=by
  intro len cap mA hA lA hlc b1 b2 b3 b4
  rcases qgr hs hf.wd hm b1 with ⟨e1,e2,e3⟩ | ⟨xm,km,rm',e1,e2,e3,e4⟩
  ·subst e1;subst e2;subst e3
   rcases qgr hs hf.wd hh b2 with ⟨f1,f2,f3⟩ | ⟨xh,kh,rh',f1,f2,f3,f4⟩
   ·subst f1;subst f3
    rcases qgr hs hf.wd hl b3 with ⟨g1,g2,g3⟩ | ⟨xl,kl,rl',g1,g2,g3,g4⟩
    ·subst g1;subst g3
     exact⟨cap,qdh w true hA cap a.eval none none none 0 hA cap (.inl ⟨rfl,rfl⟩) (.inl ⟨rfl,rfl,rfl⟩) (.inl ⟨rfl,rfl⟩),Nat.le_refl _,hlc,by omega,Nat.le_refl _,fun _=>rfl,fun h=>absurd rfl h⟩
    ·subst g1
     exact⟨cap,qdh w true hA cap a.eval (some xl) none none lA hA cap (.inl ⟨rfl,rfl⟩) (.inl ⟨rfl,rfl,rfl⟩) (.inr ⟨xl,kl,rfl,g3,g4⟩),Nat.le_refl _,hlc,g4,Nat.le_refl _,fun _=>rfl,fun h=>absurd rfl h⟩
   ·subst f1
    rcases qgr hs hf.wd hl b3 with ⟨g1,g2,g3⟩ | ⟨xl,kl,rl',g1,g2,g3,g4⟩
    ·subst g1;subst g3
     exact⟨cap,qdh w true mA cap a.eval none (some xh) none 0 hA cap (.inl ⟨rfl,rfl⟩) (.inr ⟨xh,kh,rfl,f3,by omega⟩) (.inl ⟨rfl,rfl⟩),Nat.le_refl _,by omega,by omega,f4,fun _=>rfl,fun h=>absurd rfl h⟩
    ·subst g1
     exact⟨cap,qdh w true mA cap a.eval (some xl) (some xh) none lA hA cap (.inl ⟨rfl,rfl⟩) (.inr ⟨xh,kh,rfl,f3,by omega⟩) (.inr ⟨xl,kl,rfl,g3,g4⟩),Nat.le_refl _,by omega,g4,f4,fun _=>rfl,fun h=>absurd rfl h⟩
  ·subst e1;subst e2
   rcases qgr hs hf.wd hh b2 with ⟨f1,f2,f3⟩ | ⟨xh,kh,rh',f1,f2,f3,f4⟩
   ·subst f2;simp[evO] at b4
   ·subst f1
    rcases qgr hs hf.wd hl b3 with ⟨g1,g2,g3⟩ | ⟨xl,kl,rl',g1,g2,g3,g4⟩
    ·subst g1;subst g3
     exact⟨mA,qdh w true len cap a.eval none (some xh) (some xm) 0 hA mA (.inr ⟨xm,km,rfl,e3,by omega⟩) (.inr ⟨xh,kh,rfl,f3,f4⟩) (.inl ⟨rfl,rfl⟩),by omega,f4,by omega,by omega,fun h=>(by cases h),fun _=>rfl⟩
    ·subst g1
     exact⟨mA,qdh w true len cap a.eval (some xl) (some xh) (some xm) lA hA mA (.inr ⟨xm,km,rfl,e3,by omega⟩) (.inr ⟨xh,kh,rfl,f3,f4⟩) (.inr ⟨xl,kl,rfl,g3,g4⟩),by omega,f4,g4,by omega,fun h=>(by cases h),fun _=>rfl⟩
 have isn:(evO st.tmps rm).isNone=rm.isNone:=by cases rm<;>rfl
 have iss:(evO st.tmps rm).isSome=rm.isSome:=by cases rm<;>rfl
 unfold ql8 at hu'
 split at hu'
 ·rename_i k' xs full hr
  rw[hr] at hx
  split at hu'
  ·cases hu'
  rename_i mA b1
  split at hu'
  ·cases hu'
  rename_i hA b2
  split at hu'
  ·cases hu'
  rename_i lA b3
  obtain⟨hk,hu2⟩:=qbh hu'
  clear hu'
  simp only[Bool.and_eq_true,beq_iff_eq] at hk
  obtain⟨rfl,b4⟩:=hk
  cases hu2
  rcases qrb hx with ⟨b,off,cap,c,E',fr,hv,g1,g2,g3,g4,g5,g6,g7,g8⟩ | ⟨rfl,ad,cap,hv,g6⟩
  ·obtain⟨m,hrun,m1,m2,m3,m4,m5,m6⟩:=bnds g5 b1 b2 b3 b4
   have hrun':=qld (P:=cx.P) hu hi' w (some ⟨b,off,none⟩) xs.length cap a.eval lo hi mx lA hA m hrun
   rw[hik] at hrun'
   have hfull:(if (evO st.tmps rm).isSome=true then mA==hA else full&&hA==xs.length)=true→m=hA:=by
    intro hq
    rw[iss] at hq
    cases hrm:rm with
    | none =>
     rw[hrm] at hq
     simp only[Option.isSome_none,Bool.false_eq_true,if_false,Bool.and_eq_true,beq_iff_eq] at hq
     have:=m5 hrm;have:=g6 hq.1;omega
    | some y =>
     rw[hrm] at hq
     simp only[Option.isSome_some,if_true,beq_iff_eq] at hq
     have:=m6 (by rw[hrm];simp);omega
   by_cases hlh:hA=lA
   ·have hnil:(xs.take hA).drop lA=[]:=by rw[hlh];exact List.drop_eq_nil_of_le (by simp;omega)
    refine qbl hs hf (v':=.slice (if m=lA then some ⟨b,off,none⟩ else (some (⟨b,off,none⟩:Addr)).map (·.add (lA*k))) (hA - lA) (m - lA)) (by simp[execOp,ho,hv,hrun']) (.refl w) ?_
    rw[hnil,show hA - lA=0 from by omega]
    exact .slE k _ _ _ fun hq=>by have:=hfull hq;omega
   ·have hml:¬ m=lA:=by omega
    refine qbl hs hf (v':=.slice (some ⟨b,off+lA*k,none⟩) (hA - lA) (m - lA)) (by simp[execOp,ho,hv,hrun',hml,qjp]) (.refl w) ?_
    have hlen:((xs.take hA).drop lA).length=hA - lA:=by simp;omega
    have hmul:hA*k≤xs.length*k:=Nat.mul_le_mul_right _ m4
    have hspl:hA*k=lA*k+(hA - lA)*k:=by rw[←Nat.add_mul];congr 1;omega
    have hmem:∀ y∈(xs.take hA).drop lA,y.cells.length=k:=fun y hy=>g4 y (List.mem_of_mem_take (List.mem_of_mem_drop hy))
    have e1:((((c.toList.drop off).take (xs.length*k)).take (hA*k)).drop (lA*k))=(c.toList.drop (off+lA*k)).take ((hA - lA)*k):=by
     rw[List.take_take,Nat.min_eq_left hmul,List.drop_take,List.drop_drop,show hA*k - lA*k=(hA - lA)*k from by omega]
    have:=qbr.sl (w:=w) (I:=I) (lp:=lp) (L:=some L) k ((xs.take hA).drop lA) (if (evO st.tmps rm).isSome=true then mA==hA else full&&hA==xs.length) b (off+lA*k) (m - lA) c E' fr g1 g2
     (by rw[hlen];omega) hmem (by rw[hlen];omega) (fun hq=>by rw[hlen];have:=hfull hq;omega) (by rw[hlen,←e1];exact (g7.take' _).drop' _)
     (by rw[hlen,←e1,qho (fun y hy=>g4 y (List.mem_of_mem_take hy)),qfz g4];exact (g8.take _).drop _)
    rwa [hlen] at this
  ·obtain⟨m,hrun,m1,m2,m3,m4,m5,m6⟩:=bnds (len:=0) (cap:=cap) (by omega) b1 b2 b3 b4
   have hrun':=qld (P:=cx.P) hu hi' w ad 0 cap a.eval lo hi mx lA hA m hrun
   have hA0:hA=0:=by simpa using m4
   have hl0:lA=0:=by omega
   refine qbl hs hf (v':=.slice (if m=lA then ad else ad.map (·.add (lA*i.size))) (hA - lA) (m - lA)) (by simp[execOp,ho,hv,hrun']) (.refl w) ?_
   subst hA0;subst hl0
   have hnil:((([]:List PV).take 0).drop 0)=[]:=rfl
   rw[hnil]
   refine .slE k _ _ _ fun hq=>?_
   rw[iss] at hq
   cases hrm:rm with
   | none =>
    rw[hrm] at hq
    simp only[Option.isSome_none,Bool.false_eq_true,if_false,Bool.and_eq_true] at hq
    have:=m5 hrm;have:=g6 hq.1;omega
   | some y =>
    rw[hrm] at hq
    simp only[Option.isSome_some,if_true,beq_iff_eq] at hq
    have:=m6 (by rw[hrm];simp);omega
 ·rename_i nm k' off n hr
  rw[hr] at hx
  split at hu'
  ·cases hu'
  rename_i mA b1
  split at hu'
  ·cases hu'
  rename_i hA b2
  split at hu'
  ·cases hu'
  rename_i lA b3
  obtain⟨hk,hu2⟩:=qbh hu'
  clear hu'
  simp only[Bool.and_eq_true,beq_iff_eq] at hk
  obtain⟨rfl,b4⟩:=hk
  cases hu2
  rcases qje hx with ⟨b,C,cap,hL,hv,hC,hn⟩ | ⟨hL,hv,rfl,rfl⟩
  ·obtain⟨m,hrun,m1,m2,m3,m4,m5,m6⟩:=bnds hn b1 b2 b3 b4
   have hrun':=qld (P:=cx.P) hu hi' w (some ⟨b,off*k,none⟩) n cap a.eval lo hi mx lA hA m hrun
   rw[hik] at hrun'
   refine qbl hs hf (v':=.slice (if m=lA then some ⟨b,off*k,none⟩ else (some (⟨b,off*k,none⟩:Addr)).map (·.add (lA*k))) (hA - lA) (m - lA)) (by simp[execOp,ho,hv,hrun']) (.refl w) ?_
   split
   ·rename_i hz
    rw[show hA - lA=0 from by omega]
    exact .slE k false _ _ (by simp)
   ·rename_i hz
    have hCm:(off+lA+(m - lA))*k≤C:=Nat.le_trans (Nat.mul_le_mul_right _ (by omega)) hC
    have key:=qbr.arr (w:=w) (I:=I) (lp:=lp) nm k (off+lA) (hA - lA) (m - lA) b C hL hCm (by omega)
    by_cases hml:m=lA
    ·have hl0:lA=0:=by omega
     subst hl0
     simpa[hml] using key
    ·simpa[hml,qjp,Nat.add_mul] using key
  ·obtain⟨m,hrun,m1,m2,m3,m4,m5,m6⟩:=bnds (len:=0) (cap:=0) (by omega) b1 b2 b3 b4
   have hrun':=qld (P:=cx.P) hu hi' w none 0 0 a.eval lo hi mx lA hA m hrun
   have hA0:hA=0:=by omega
   have hl0:lA=0:=by omega
   have hm0:m=0:=by omega
   subst hA0;subst hl0;subst hm0
   refine qbl hs hf (v':=.slice none 0 0) (by simp[execOp,ho,hv,hrun']) (.refl w) ?_
   simpa using qbr.arrN nm k hL
 ·rename_i hr
  rw[hr] at hx
  split at hu'
  ·cases hu'
  rename_i mA b1
  split at hu'
  ·cases hu'
  rename_i hA b2
  split at hu'
  ·cases hu'
  rename_i lA b3
  obtain⟨b4,hu'⟩:=qbh hu'
  cases hu'
  obtain⟨m,hrun,m1,m2,m3,m4,m5,m6⟩:=bnds (len:=0) (cap:=0) (by omega) b1 b2 b3 b4
  have hrun':=qld (P:=cx.P) hu hi' w none 0 0 a.eval lo hi mx lA hA m hrun
  have hA0:hA=0:=by omega
  have hl0:lA=0:=by omega
  have hm0:m=0:=by omega
  subst hA0;subst hl0;subst hm0
  exact qbl hs hf (v':=.slice none 0 0) (by simp[execOp,ho,qf3 hx,hrun']) (.refl w) .nilS
 ·cases hu'
theorem Qjf (hs:SR lp I L st a.tmps.toList suf w) (hf:Fr cx w0 I0 F0 O0 Hd R e ds I F L w) {t:TypeId} {x:Operand} {lo hi:Option Operand} (ho:o.op=.slice t x lo hi none) {r:RX} {rl rh:Option RX}
  (hu:cx.P.underlying t=some .string) (h1:rx cx.G x=some r) (hl:rxO cx.G lo=some rl) (hh:rxO cx.G hi=some rh)
  (h:exec (o.dst.getD 0) (qbf st.objs) st.tmps (.strSlice r rl rh)=some out):qh8 cx w0 I0 F0 O0 Hd R e ds F lp suf o a w (apply st o.dst out):=by
 have hx:=qb4 hs hf.wd h1
 simp only[exec] at h
 split at h
 case h_2=>cases h
 rename_i s hr
 rw[hr] at hx
 split at h
 ·cases h
 rename_i hA b2
 split at h
 ·cases h
 rename_i lA b3
 cases h
 have hb:(Instr.sliceBounds false s.length s.length (lo.map a.eval) (hi.map a.eval) none).run cx.P w=.ok (lA,hA,s.length) w:=by
  refine qdh w false s.length s.length a.eval lo hi none lA hA s.length (.inl ⟨rfl,rfl⟩) ?_ ?_
  ·rcases qgr hs hf.wd hh b2 with ⟨f1,f2,f3⟩ | ⟨xh,kh,rh',f1,f2,f3,f4⟩
   ·exact .inl ⟨f1,rfl,f3⟩
   ·exact .inr ⟨xh,kh,f1,f3,f4⟩
  ·rcases qgr hs hf.wd hl b3 with ⟨f1,f2,f3⟩ | ⟨xh,kh,rh',f1,f2,f3,f4⟩
   ·exact .inl ⟨f1,f3⟩
   ·exact .inr ⟨xh,kh,f1,f3,f4⟩
 have hsz:(⟨s.toArray⟩:ByteArray).size=s.length:=by simp[ByteArray.size]
 refine qbl hs hf (v':=.string ⟨((s.take hA).drop lA).toArray⟩) ?_ (.refl w) (.str _)
 simp[execOp,ho,qfc hx,Instr.sliceAt,Instr.slice,run_underlying hu,hsz,hb,ByteArray.extract_mk,List.drop_take]
end ops
end Go.Ab


namespace Go.Ab
structure Src (P:Program) (w:World) (I:Nat→Prop) (lp:Nat→Option Nat) (size:Nat) (x:Value) (ys:List PV) (news:List Value):Prop where
 len:Builtin.lenOf x=pure ys.length
 first:∀ n,n≤ys.length→∀ w':World,w'.heap=w.heap→(Builtin.firstCells size n x).run P w'=.ok (news.take (n*size)).toArray w'
 lenN:news.length=ys.length*size
 one:One news
 rep:qbn w I lp none (cellsL ys) news
 each:∀ y∈ys,y.cells.length=size
theorem qrj {P:Program} {w:World} {b off N size:Nat} {c:Array Value} {E:TypeId} {fr:Nat×Nat} (hb:w.heap[b]?=some (.cells c E fr)) (hle:off+N≤c.size) {n len cap:Nat} (hn:n*size≤N) {w':World} (hw:w'.heap=w.heap) :
  (Builtin.firstCells size n (.slice (some ⟨b,off,none⟩) len cap)).run P w'=.ok (((c.toList.drop off).take N).take (n*size)).toArray w':=by
 have hl:(((c.toList.drop off).take N).take (n*size)).length=n*size:=by simp;omega
 refine run_firstCells_some w' size n ⟨b,off,none⟩ len cap _ hl ?_
 intro j v hj
 have hjn:j < n*size:=by have:=(List.getElem?_eq_some_iff.1 hj).1;omega
 rw[qjp,qrz (by rw[hw];exact hb)]
 rw[List.take_take,List.getElem?_take_of_lt (by omega),List.getElem?_drop] at hj
 simpa using hj
theorem qsx {P:Program} {size:Nat} {w':World} {len cap:Nat}:(Builtin.firstCells size 0 (.slice none len cap)).run P w'=.ok #[] w':=by simp[Builtin.firstCells]
theorem qpk {P:Program} {size:Nat} {w':World} {a:Option Addr} {len cap:Nat}:(Builtin.firstCells size 0 (.slice a len cap)).run P w'=.ok #[] w':=by
 cases a with
 | none=>exact qsx
 | some a =>
  have:=run_firstCells_some (P:=P) w' size 0 a len cap [] (by simp) (by simp)
  simpa using this
theorem qt5 {w:World} {I:Nat→Prop} {lp:Nat→Option Nat} (s:List UInt8):qbn w I lp none (cellsL (qcs s)) (s.map fun b=>Value.int .u8 (b.toNat:Int)):=by
 induction s with
 | nil=>exact .nil
 | cons b s ih=>exact .cons _ _ _ _ (.int .u8 _) ih
theorem kt_old {kt E:Nat} (h:kt=0∨E=kt) (el:Nat):(if kt=el then el else 0)=0∨E=(if kt=el then el else 0):=by
 by_cases h2:kt=el
 ·rw[if_pos h2,←h2];exact h
 ·rw[if_neg h2];exact .inl rfl
theorem kt_new (kt el:Nat):(if kt=el then el else 0)=0∨el=(if kt=el then el else 0):=by
 by_cases h2:kt=el
 ·rw[if_pos h2];exact .inr rfl
 ·rw[if_neg h2];exact .inl rfl
section ops
variable {E:Type} {cx:Cx} {w0:World} {I0 F0:Nat→Prop} {O0:Own} {Hd:Nat→Option Obj} {R:qkj E} {e:E} {ds:List Deferred} {F:Nat→Prop} {lp:Nat→Option Nat} {suf:List Value}
variable {I:Nat→Prop} {L:Loc} {st:St} {a:Act} {w:World} {o:Oper} {out:Out} {rop:ROp}
theorem Qgy (P:Program) (hs:SR lp I L st a.tmps.toList suf w) {k:Nat} {x:PV} {v:Value} (hx:qbr w I lp (some L) x v) {ys:List PV} (h:qk8 (qbf st.objs) k x=some ys) :
  ∃ news,Src P w I lp k v ys news:=by
 unfold qk8 at h
 split at h
 ·obtain⟨hk,h2⟩:=qbh h
  cases h2
  have hk:=beq_iff_eq.1 hk
  subst hk
  rcases qrb hx with ⟨b,off,cap,c,E',fr,rfl,g1,g2,g3,g4,g5,g6,g7,g8⟩ | ⟨rfl,ad,cap,rfl,_⟩
  ·exact⟨_,rfl,fun n hn w' hw=>qrj g2 g3 (Nat.mul_le_mul_right _ hn) hw,by simp;omega,g7,g8,g4⟩
  ·refine⟨[],rfl,fun n hn w' _=>?_,by simp,by simp[One],.nil,by simp⟩
   have:n=0:=by simpa using hn
   subst this
   simpa using qpk (P:=P) (w':=w')
 ·rename_i nm k' off n
  split at h
  case h_2=>cases h
  rename_i k'' kt xs hlk
  obtain⟨hk,h2⟩:=qbh h
  cases h2
  simp only[Bool.and_eq_true,beq_iff_eq,decide_eq_true_eq] at hk
  obtain⟨⟨rfl,rfl⟩,hle⟩:=hk
  obtain⟨p,hp,ha⟩:=hs.ob nm _ hlk
  rcases qje hx with ⟨b,C,cap,hL,rfl,hC,hn⟩ | ⟨hL,rfl,rfl,rfl⟩
  ·rw[hL] at hp;cases hp
   obtain⟨c,E',hb,hC',hxs,hkx,hone,hrep⟩:=ha
   have hlen:((xs.drop off).take n).length=n:=by simp;omega
   have hmul:(off+n)*k≤xs.length*k:=Nat.mul_le_mul_right _ hle
   rw[Nat.add_mul] at hmul
   have e1:((c.toList.take (xs.length*k)).drop (off*k)).take (n*k)=(c.toList.drop (off*k)).take (n*k):=by
    rw[List.drop_take,List.take_take,Nat.min_eq_left (by omega)]
   refine⟨(c.toList.drop (off*k)).take (n*k),by rw[hlen];rfl,fun m hm w' hw=>?_,by rw[hlen];simp;omega,?_,?_,?_⟩
   ·rw[hlen] at hm
    exact qrj hb (by omega) (Nat.mul_le_mul_right _ hm) hw
   ·rw[←e1];exact (hone.drop' _).take' _
   ·have:=(hrep.drop (off*k)).take (n*k)
    rwa [←qho hkx,←qfz (fun x hx=>hkx x (List.mem_of_mem_drop hx)),e1] at this
   ·exact fun y hy=>hkx y (List.mem_of_mem_drop (List.mem_of_mem_take hy))
  ·refine⟨[],rfl,fun n hn w' _=>?_,by simp,by simp[One],by rw[List.take_zero];exact .nil,by simp⟩
   have:n=0:=by simpa using hn
   subst this
   simpa using qpk (P:=P) (w':=w')
 ·cases h
  rw[qf3 hx]
  refine⟨[],rfl,fun n hn w' _=>?_,by simp,by simp[One],.nil,by simp⟩
  have:n=0:=by simpa using hn
  subst this
  simpa using qpk (P:=P) (w':=w')
 ·rename_i s
  obtain⟨hk,h2⟩:=qbh h
  cases h2
  have hk:=beq_iff_eq.1 hk
  subst hk
  rw[qfc hx]
  refine⟨s.map fun b=>Value.int .u8 (b.toNat:Int),by simp[Builtin.lenOf,qcs,ByteArray.size],fun n hn w' _=>?_,by simp[qcs],?_,qt5 s,?_⟩
  ·simp[Builtin.firstCells,ByteArray.extract_mk]
  ·intro v hv;obtain⟨b,_,rfl⟩:=List.mem_map.1 hv;rfl
  ·intro y hy;obtain⟨b,_,rfl⟩:=List.mem_map.1 hy;rfl
 ·cases h
theorem qhr {P:Program} {w:World} {t u el ty:TypeId} {ats:Array TypeId} (a0:ats[0]?=some t) (a1:ats[1]?=some u) {i:TypeInfo} {zv:Value} {d:TypeDesc} (hu:P.underlying t=some (.slice el)) (hi:P.info? el=some i) (hz:i.zero=some zv)
  (hu2:P.underlying u=some d) (hd:d=.string∨∃ e',d=.slice e') {base:Option Addr} {sLen sCap:Nat} {olds:List Value} (hold:∀ w':World,w'.heap=w.heap→(Builtin.firstCells i.size sLen (.slice base sLen sCap)).run P w'=.ok olds.toArray w')
  {x:Value} {m:Nat} {news:List Value} (hl:Builtin.lenOf x=pure m) (hnew:∀ w':World,w'.heap=w.heap→(Builtin.firstCells i.size m x).run P w'=.ok news.toArray w')
  (hg:sCap < sLen+m) (hle:sLen+m≤qgx) (hb:i.bytes≤65536) :
  (Builtin.append_ ats ty #[.slice base sLen sCap,x]).run P w=.ok (.slice (some ⟨w.heap.size,0,none⟩) (sLen+m) (grownCap w (sLen+m) sCap el))
   (w.drew.alloc (.cells (olds.toArray++news.toArray++Builtin.zeroCells zv.cells (grownCap w (sLen+m) sCap el - (sLen+m))) el)):=by
 have hn:¬ (sLen+m≤sCap):=by omega
 unfold qgx at hle
 have h63':¬ (9223372036854775807 < ((sLen:Int)+(m:Int))):=by omega
 have hmul:(sLen+m)*i.bytes≤140737488355328:=calc (sLen+m)*i.bytes≤2147483648*65536:=Nat.mul_le_mul hle hb
  _=140737488355328:=by decide
 have hfit:=growslice_fits hg hmul
 have h48':¬ (281474976710656 < Builtin.nextslicecap (sLen+m) sCap*i.bytes):=by omega
 have hf:=hnew w.drew rfl
 have hfo:=hold w.drew rfl
 rcases hd with rfl | ⟨e',rfl⟩
 ·simp[Builtin.append_,a0,a1,run_underlying hu,run_underlying hu2,sizeOf,typeInfo,zeroValue,hi,hz,hl,hn,h63',h48',Question.forced,hf,hfo,newRow,grownCap]
  congr 2
  exact Array.ext' (by simp[List.append_assoc])
 ·simp[Builtin.append_,a0,a1,run_underlying hu,run_underlying hu2,sizeOf,typeInfo,zeroValue,hi,hz,hl,hn,h63',h48',Question.forced,hf,hfo,newRow,grownCap]
  congr 2
  exact Array.ext' (by simp[List.append_assoc])
theorem qgv {P:Program} {w:World} {t u el ty:TypeId} {ats:Array TypeId} (a0:ats[0]?=some t) (a1:ats[1]?=some u) {i:TypeInfo} {d:TypeDesc} (hu:P.underlying t=some (.slice el)) (hi:P.info? el=some i)
  (hu2:P.underlying u=some d) (hd:d=.string∨∃ e',d=.slice e') {base:Option Addr} {sLen sCap:Nat}
  {x:Value} {m:Nat} {news:List Value} (hl:Builtin.lenOf x=pure m) (hnew:(Builtin.firstCells i.size m x).run P w=.ok news.toArray w)
  (hn:sLen+m≤sCap) {w':World} (hst:(match base with | some a=>storeCells (a.add (sLen*i.size)) news | none=>pure ()).run P w=.ok () w') :
  (Builtin.append_ ats ty #[.slice base sLen sCap,x]).run P w=.ok (.slice base (sLen+m) sCap) w':=by
 cases base with
 | none =>
  have hst:w=w':=by simpa using hst
  subst hst
  rcases hd with rfl | ⟨e',rfl⟩<;>simp[Builtin.append_,a0,a1,run_underlying hu,run_underlying hu2,sizeOf,typeInfo,hi,hl,hn,hnew]
 | some a =>
  simp only at hst
  rcases hd with rfl | ⟨e',rfl⟩<;>simp[Builtin.append_,a0,a1,run_underlying hu,run_underlying hu2,sizeOf,typeInfo,hi,hl,hn,hnew,hst]
theorem done_list0 (hs:SR lp I L st a.tmps.toList suf w) (hf:Fr cx w0 I0 F0 O0 Hd R e ds I F L w) {d:Nat} (hd:o.dst=some d) (hc:st.objs[d]?=some []) {k kt:Nat}
  (hr:(execOp a.eval o).run cx.P w=.ok (.value (.slice none 0 0)) w) :
  qh8 cx w0 I0 F0 O0 Hd R e ds F lp suf o a w (apply st o.dst {v:=.arr (d,0) k 0 0,new:=[.arr k kt []]}):=by
 have hn:=hs.news hc [.arr k kt []] [none] rfl (by
  intro j ob p h1 h2
  cases j with
  | zero=>simp at h1 h2;subst h1;subst h2;exact⟨k,_,rfl⟩
  | succ j=>simp at h1)
 refine⟨.slice none 0 0,w,I,qdn L d [none],.inl hr,?_,?_⟩
 ·rw[qfg,hd]
  exact hn.put d (.arrN _ k (by simp[qdn]))
 ·refine Fr.news hf hc rfl rfl rfl (Nat.le_refl _) (fun _ _=>rfl) ?_ ?_
  ·intro j b C hj
   cases j with
   | zero=>simp at hj
   | succ j=>simp at hj
  ·intro j j' b C C' h1 _
   cases j with
   | zero=>simp at h1
   | succ j=>simp at h1
theorem qrf {w:World} {I:Nat→Prop} {lp:Nat→Option Nat} {k:Nat} {xs ys:List PV} {olds news:List Value} {zs:Array Value} (h1:qbn w I lp none (cellsL xs) olds) (h2:qbn w I lp none (cellsL ys) news)
  (o1:One olds) (o2:One news) (k1:∀ x∈xs,x.cells.length=k) (k2:∀ x∈ys,x.cells.length=k) :
  (∀ x∈xs++ys,x.cells.length=k)∧One (((olds.toArray++news.toArray++zs).toList).take ((xs++ys).length*k))∧qbn w I lp none (cellsL (xs++ys)) (((olds.toArray++news.toArray++zs).toList).take ((xs++ys).length*k)):=by
 have l1:=h1.length
 have l2:=h2.length
 rw[qfd k1] at l1
 rw[qfd k2] at l2
 have e:((olds.toArray++news.toArray++zs).toList).take ((xs++ys).length*k)=olds++news:=by
  simp only[Array.toList_append]
  rw[List.take_append_of_le_length (by simp[Nat.add_mul];omega),List.take_of_length_le (by simp[Nat.add_mul];omega)]
 rw[e,qfe]
 refine⟨fun x hx=>(List.mem_append.1 hx).elim (k1 x) (k2 x),o1.append' o2,h1.append h2⟩
theorem Qff (hs:SR lp I L st a.tmps.toList suf w) (hf:Fr cx w0 I0 F0 O0 Hd R e ds I F L w) {c:Call} (ho:o.op=.call c) {x y:Operand} (hcal:c.callee=.builtin .append) {ty u:TypeId} (a0:c.argTypes[0]?=some ty) (a1:c.argTypes[1]?=some u) (harg:c.args=#[x,y])
  {k by_:Nat} {z:PV} {r1 r2:RX} (he:qky cx.P ty=some (k,by_,z)) {el:TypeId} (hel:cx.P.underlying ty=some (.slice el)) {du:TypeDesc} (hu2:cx.P.underlying u=some du) (hdu:du=.string∨∃ e',du=.slice e')
  (h1:rx cx.G x=some r1) (h2:rx cx.G y=some r2) {d:Nat} (hd:o.dst=some d) (hcl:st.objs[d]?=some [])
  (h:exec (o.dst.getD 0) (qbf st.objs) st.tmps (.append k el r1 r2)=some out):qh8 cx w0 I0 F0 O0 Hd R e ds F lp suf o a w (apply st o.dst out):=by
 obtain⟨el',i,zv,hu,hi,hik,hby,hb6,hz,hzk,hzv,hzn,hzr⟩:=qgq he
 rw[hu] at hel;cases hel
 have hx:=qb4 hs hf.wd h1
 have hy:=qb4 hs hf.wd h2
 have hrun:∀ {v' w'},(Builtin.append_ c.argTypes o.type #[a.eval x,a.eval y]).run cx.P w=.ok v' w'→(execOp a.eval o).run cx.P w=.ok (.value v') w':=by
  intro v' w' hr
  simp[execOp,ho,resolve,hcal,harg,invoke,builtin,hr]
 simp only[exec,hd,Option.getD_some] at h
 split at h
 ·cases h
 rename_i ys hys
 obtain⟨news,hsrc⟩:=Qgy cx.P hs hy hys
 have hnew:∀ w':World,w'.heap=w.heap→(Builtin.firstCells i.size ys.length (a.eval y)).run cx.P w'=.ok news.toArray w':=fun w' hw=>by
  have:=hsrc.first ys.length (Nat.le_refl _) w' hw
  rw[List.take_of_length_le (by rw[hsrc.lenN];exact Nat.le_refl _)] at this
  rw[hik];exact this
 have hkm:∀ w':World,(∀ b,I b→w'.heap[b]?=w.heap[b]?)→qbn w' I lp none (cellsL ys) news:=fun w' hw=>qbn.mono (fun _ h=>h) hw (fun _ _ h=>h) hsrc.rep
 split at h
 ·rename_i hr
  rw[hr] at hx
  have hxv:=qf3 hx
  obtain⟨hk,h⟩:=qbh h
  cases h
  have hk:=of_decide_eq_true hk
  by_cases hy0:ys=[]
  ·subst hy0
   have hn0:news=[]:=by have:=hsrc.lenN;simpa using this
   have hr0:=qgv (P:=cx.P) (w:=w) (ty:=o.type) a0 a1 hu hi hu2 hdu (base:=none) (sLen:=0) (sCap:=0) hsrc.len (hnew w rfl) (by simp) (w':=w) rfl
   have:=done_list0 hs hf hd hcl (k:=k) (kt:=el) (hrun (by rw[hxv];exact hr0))
   simpa[hd] using this
  ·have hpos:0 < ys.length:=List.length_pos_iff.2 hy0
   have hr0:=qhr (P:=cx.P) (w:=w) (ty:=o.type) a0 a1 hu hi hz hu2 hdu (base:=none) (sLen:=0) (sCap:=0) (olds:=[]) (fun w' _=>qsx) hsrc.len hnew (by omega) (by omega) (by omega)
   simp only[Nat.zero_add] at hr0
   have hge:=grownCap_ge w ys.length 0 el
   obtain⟨k3,o3,r3⟩:=qrf (w:=w) (I:=I) (lp:=lp) (xs:=[]) (olds:=[]) (zs:=Builtin.zeroCells zv.cells (grownCap w ys.length 0 el - ys.length)) .nil hsrc.rep (by simp[One]) hsrc.one (by simp) hsrc.each
   simp only[List.nil_append] at k3 o3 r3
   have:=qnu hs hf hd hcl (k:=k) (kt:=el) (xs:=ys) (t:=el) (.inr rfl) (cap:=grownCap w ys.length 0 el) (w1:=w.drew) ⟨rfl,rfl,rfl,rfl⟩ hge (by
     simp only[List.size_toArray,Array.size_append,size_zeroCells,hsrc.lenN,List.length_nil]
     have hzs:zv.cells.size=k:=by
      have:=((hzr w I lp none).cells hzv).2.length
      simp at this;omega
     rw[hzs,Nat.zero_add,←Nat.add_mul,Nat.add_sub_cancel' hge];exact Nat.le_refl _) k3 o3 r3 (hrun (by rw[hxv];exact hr0))
   simpa[hd] using this
 ·rename_i nm k' off n hr
  rw[hr] at hx
  split at h
  case h_2=>cases h
  rename_i k'' kt xs hlk
  obtain⟨hk,h⟩:=qbh h
  cases h
  simp only[Bool.and_eq_true,beq_iff_eq,decide_eq_true_eq] at hk
  obtain⟨⟨⟨⟨rfl,rfl⟩,rfl⟩,hnx⟩,hmost⟩:=hk
  obtain⟨p,hp,ha⟩:=hs.ob nm _ hlk
  have hzs:zv.cells.size=k:=by
   have:=((hzr w I lp none).cells hzv).2.length
   simp at this;omega
  have hold:∀ (b C cap:Nat),L nm=some (some (b,C))→(0+cap)*k≤C→n≤cap→∃ c E',w.heap[b]?=some (.cells c E' (0,0))∧c.size=C∧(n*k≤c.size∧(kt=0∨E'=kt))∧One (c.toList.take (n*k))∧qbn w I lp none (cellsL (xs.take n)) (c.toList.take (n*k))∧(∀ x∈xs.take n,x.cells.length=k):=by
   intro b C cap hL hC hn
   rw[hL] at hp;cases hp
   obtain⟨c,E',hb,hC',hxs,hkx,hone,hrep⟩:=ha
   have hmul:n*k≤xs.length*k:=Nat.mul_le_mul_right _ hnx
   have e1:(c.toList.take (xs.length*k)).take (n*k)=c.toList.take (n*k):=by rw[List.take_take,Nat.min_eq_left hmul]
   refine⟨c,E',hb,hC',⟨by omega,hxs.2⟩,?_,?_,fun x hx=>hkx x (List.mem_of_mem_take hx)⟩
   ·rw[←e1];exact hone.take' _
   ·rw[qfz hkx,←e1];exact hrep.take _
  have htl:(xs.take n).length=n:=by simp;omega
  rcases qje hx with ⟨b,C,cap,hL,hv,hC,hn⟩ | ⟨hL,hv,_,rfl⟩
  ·obtain⟨c,E',hb,hcC,⟨hnk,hkt⟩,hone,hrep,heach⟩:=hold b C cap hL hC hn
   rw[Nat.zero_mul] at hv
   by_cases hfit:n+ys.length≤cap
   ·
    have hfk:(n+ys.length)*k≤cap*k:=Nat.mul_le_mul_right _ hfit
    rw[Nat.add_mul] at hfk
    rw[Nat.zero_add] at hC
    have hst:=run_storeCells_at cx.P b (n*k) E' news 0 c w hb (by rw[hsrc.lenN];omega) hsrc.one
    simp only[Nat.add_zero] at hst
    have hr0:=qgv (P:=cx.P) (w:=w) (ty:=o.type) a0 a1 hu hi hu2 hdu (base:=some ⟨b,0,none⟩) (sLen:=n) (sCap:=cap) hsrc.len (hnew w rfl) hfit
     (w':=w.setRow b (c.toList.take (n*k)++news++c.toList.drop (n*k+news.length)).toArray) (by simp only[qjp,hik,Nat.zero_add];exact hst)
    have hkI:∀ b',I b'→(w.setRow b (c.toList.take (n*k)++news++c.toList.drop (n*k+news.length)).toArray).heap[b']?=w.heap[b']?:=fun b' hb'=>qdq w b _ fun e=>(hf.lB nm b C hL).2.2.1 (e ▸ hb')
    have hln:=hsrc.lenN
    have e2:(c.toList.take (n*k)++news++c.toList.drop (n*k+news.length)).take ((xs.take n++ys).length*k)=c.toList.take (n*k)++news:=by
     have hlt:(c.toList.take (n*k)++news).length=(xs.take n++ys).length*k:=by rw[List.length_append,List.length_append,htl,Nat.add_mul,List.length_take,Array.length_toList];omega
     rw[List.take_append_of_le_length (by rw[hlt];exact Nat.le_refl _),List.take_of_length_le (by rw[hlt];exact Nat.le_refl _)]
    refine qrq hs hf hL (w':=w.setRow b (c.toList.take (n*k)++news++c.toList.drop (n*k+news.length)).toArray) (p':=some (b,C)) (v':=.slice (some ⟨b,0,none⟩) (n+ys.length) cap) (k:=k) (kt:=if kt=el then el else 0) (xs:=xs.take n++ys) (hrun (by rw[hv];exact hr0)) rfl rfl rfl (by simp) (fun b' _ hne=>qdq w b _ fun e=>hne C (by rw[e]))
     (fun b' C' e=>by cases e;exact⟨by simpa using (hf.lB nm b C hL).2.1,.inr ⟨C,rfl⟩⟩) (fun L'=>?_) (fun L' hL'=>?_)
    ·refine⟨_,E',setRow_heap w b c _ E' _ hb,by simp;omega,⟨by simp[htl,Nat.add_mul];omega,kt_old hkt el⟩,fun x hx=>(List.mem_append.1 hx).elim (heach x) (hsrc.each x),?_,?_⟩
     ·simp only[e2];exact hone.append' hsrc.one
     ·simp only[e2,qfe];exact (qbn.mono (fun _ h=>h) hkI (fun _ _ h=>h) hrep).append (hkm _ hkI)
    ·have:=qbr.arr (w:=w.setRow b (c.toList.take (n*k)++news++c.toList.drop (n*k+news.length)).toArray) (I:=I) (lp:=lp) nm k 0 (n+ys.length) cap b C hL' (by rw[Nat.zero_add];exact hC) hfit
     simpa using this
   ·
    have hr0:=qhr (P:=cx.P) (w:=w) (ty:=o.type) a0 a1 hu hi hz hu2 hdu (base:=some ⟨b,0,none⟩) (sLen:=n) (sCap:=cap) (olds:=c.toList.take (n*k)) (fun w' hw=>by
      have:=qrj (P:=cx.P) (size:=i.size) (n:=n) (len:=n) (cap:=cap) (off:=0) (N:=n*k) hb (by omega) (by rw[hik];exact Nat.le_refl _) hw
      simpa[hik,List.take_take] using this) hsrc.len hnew (by omega) hmost (by omega)
    have hge:=grownCap_ge w (n+ys.length) cap el
    obtain⟨k3,o3,r3⟩:=qrf (w:=w) (I:=I) (lp:=lp) (zs:=Builtin.zeroCells zv.cells (grownCap w (n+ys.length) cap el - (n+ys.length))) hrep hsrc.rep hone hsrc.one heach hsrc.each
    have hnk':(c.toList.take (n*k)).length=n*k:=by simp;omega
    have hsize:((c.toList.take (n*k)).toArray++news.toArray++Builtin.zeroCells zv.cells (grownCap w (n+ys.length) cap el - (n+ys.length))).size=grownCap w (n+ys.length) cap el*k:=by
     simp only[List.size_toArray,Array.size_append,size_zeroCells,hsrc.lenN,hnk',hzs]
     rw[←Nat.add_mul,←Nat.add_mul,Nat.add_sub_cancel' hge]
    generalize ((c.toList.take (n*k)).toArray++news.toArray++Builtin.zeroCells zv.cells (grownCap w (n+ys.length) cap el - (n+ys.length)))=row at *
    have hkb:∀ b',b' < w.heap.size→(w.drew.alloc (.cells row el)).heap[b']?=w.heap[b']?:=fun b' hb'=>by rw[heap_alloc_lt w.drew _ hb'];rfl
    refine qrq hs hf hL (w':=w.drew.alloc (.cells row el)) (p':=some (w.heap.size,row.size)) (v':=.slice (some ⟨w.heap.size,0,none⟩) (n+ys.length) (grownCap w (n+ys.length) cap el)) (k:=k) (kt:=if kt=el then el else 0) (xs:=xs.take n++ys) (hrun (by rw[hv];exact hr0))
     rfl rfl rfl (by simp) (fun b' hb' _=>hkb b' hb') (fun b' C' e=>by cases e;exact⟨by simp,.inl (Nat.le_refl _)⟩) (fun L'=>?_) (fun L' hL'=>?_)
    ·refine⟨row,el,qdk w.drew _,rfl,⟨?_,kt_new kt el⟩,k3,o3,qbn.mono (fun _ h=>h) (fun b' hb'=>hkb b' (hf.sep.iB b' hb')) (fun _ _ h=>h) r3⟩
     rw[hsize,List.length_append,htl];exact Nat.mul_le_mul_right _ hge
    ·have:=qbr.arr (w:=w.drew.alloc (.cells row el)) (I:=I) (lp:=lp) nm k 0 (n+ys.length) (grownCap w (n+ys.length) cap el) w.heap.size row.size hL' (by rw[hsize];simp) hge
     simpa using this
  ·
   by_cases hy0:ys=[]
   ·subst hy0
    have hn0:news=[]:=by have:=hsrc.lenN;simpa using this
    have hr0:=qgv (P:=cx.P) (w:=w) (ty:=o.type) a0 a1 hu hi hu2 hdu (base:=none) (sLen:=0) (sCap:=0) hsrc.len (hnew w rfl) (by simp) (w':=w) rfl
    exact qrq hs hf hL (p':=none) (v':=.slice none 0 0) (k:=k) (kt:=if kt=el then el else 0) (xs:=xs.take 0++[]) (hrun (by rw[hv];exact hr0)) rfl rfl rfl (Nat.le_refl _) (fun _ _ _=>rfl) (fun b C e=>by cases e) (fun L'=>⟨k,if kt=el then el else 0,by simp⟩) (fun L' hL'=>.arrN nm k hL')
   ·have hpos:0 < ys.length:=List.length_pos_iff.2 hy0
    have hr0:=qhr (P:=cx.P) (w:=w) (ty:=o.type) a0 a1 hu hi hz hu2 hdu (base:=none) (sLen:=0) (sCap:=0) (olds:=[]) (fun w' _=>qsx) hsrc.len hnew (by omega) (by omega) (by omega)
    simp only[Nat.zero_add] at hr0
    have hge:=grownCap_ge w ys.length 0 el
    obtain⟨k3,o3,r3⟩:=qrf (w:=w) (I:=I) (lp:=lp) (xs:=[]) (olds:=[]) (zs:=Builtin.zeroCells zv.cells (grownCap w ys.length 0 el - ys.length)) .nil hsrc.rep (by simp[One]) hsrc.one (by simp) hsrc.each
    simp only[List.nil_append] at k3 o3 r3
    have hsize:((#[]:Array Value)++news.toArray++Builtin.zeroCells zv.cells (grownCap w ys.length 0 el - ys.length)).size=grownCap w ys.length 0 el*k:=by
     simp only[List.size_toArray,Array.size_append,size_zeroCells,hsrc.lenN,hzs]
     rw[List.length_nil,Nat.zero_add,←Nat.add_mul,Nat.add_sub_cancel' hge]
    generalize ((#[]:Array Value)++news.toArray++Builtin.zeroCells zv.cells (grownCap w ys.length 0 el - ys.length))=row at *
    have hkb:∀ b',b' < w.heap.size→(w.drew.alloc (.cells row el)).heap[b']?=w.heap[b']?:=fun b' hb'=>by rw[heap_alloc_lt w.drew _ hb'];rfl
    have e0:xs.take 0++ys=ys:=by simp
    rw[e0,Nat.zero_add]
    refine qrq hs hf hL (w':=w.drew.alloc (.cells row el)) (p':=some (w.heap.size,row.size)) (v':=.slice (some ⟨w.heap.size,0,none⟩) ys.length (grownCap w ys.length 0 el)) (k:=k) (kt:=if kt=el then el else 0) (xs:=ys) (hrun (by rw[hv];exact hr0))
     rfl rfl rfl (by simp) (fun b' hb' _=>hkb b' hb') (fun b' C' e=>by cases e;exact⟨by simp,.inl (Nat.le_refl _)⟩) (fun L'=>?_) (fun L' hL'=>?_)
    ·refine⟨row,el,qdk w.drew _,rfl,⟨?_,kt_new kt el⟩,k3,o3,qbn.mono (fun _ h=>h) (fun b' hb'=>hkb b' (hf.sep.iB b' hb')) (fun _ _ h=>h) r3⟩
     rw[hsize];exact Nat.mul_le_mul_right _ hge
    ·have:=qbr.arr (w:=w.drew.alloc (.cells row el)) (I:=I) (lp:=lp) nm k 0 ys.length (grownCap w ys.length 0 el) w.heap.size row.size hL' (by rw[hsize];simp) hge
     simpa using this
 ·rename_i k' xs hr
  rw[hr] at hx
  split at h
  ·obtain⟨hk,h⟩:=qbh h
   cases h
   have hk:=beq_iff_eq.1 hk
   subst hk
   have hn0:news=[]:=by have:=hsrc.lenN;simpa using this
   subst hn0
   obtain⟨base,hv⟩:∃ base,a.eval x=.slice base xs.length xs.length:=by
    rcases qrb hx with ⟨b,off,cap,c,E',fr,hv,g1,g2,g3,g4,g5,g6,g7,g8⟩ | ⟨rfl,ad,cap,hv,g6⟩
    ·have:=g6 rfl
     subst this
     exact⟨_,hv⟩
    ·have:=g6 rfl
     subst this
     exact⟨_,hv⟩
   have hst:(match base with | some a=>storeCells (a.add (xs.length*i.size)) [] | none=>pure ()).run cx.P w=.ok () w:=by
    cases base<;>simp[storeCells]
   have hr0:=qgv (P:=cx.P) (w:=w) (ty:=o.type) a0 a1 hu hi hu2 hdu (base:=base) (sLen:=xs.length) (sCap:=xs.length) hsrc.len (hnew w rfl) (by simp) (w':=w) hst
   exact qbl hs hf (hrun (by rw[hv];exact hr0)) ⟨rfl,rfl,rfl,rfl⟩ (by rw[hv] at hx;simpa using hx)
  rename_i y0 ys0
  obtain⟨hk,h⟩:=qbh h
  cases h
  simp only[Bool.and_eq_true,beq_iff_eq,decide_eq_true_eq] at hk
  obtain⟨rfl,hmost⟩:=hk
  have hzs:zv.cells.size=k:=by
   have:=((hzr w I lp none).cells hzv).2.length
   simp at this;omega
  obtain⟨base,olds,hv,hold,hlo,o1,hrep,heach⟩:∃ base olds,a.eval x=.slice base xs.length xs.length∧(∀ w':World,w'.heap=w.heap→(Builtin.firstCells i.size xs.length (.slice base xs.length xs.length)).run cx.P w'=.ok olds.toArray w') ∧
    olds.length=xs.length*k∧One olds∧qbn w I lp none (cellsL xs) olds∧(∀ x∈xs,x.cells.length=k):=by
   rcases qrb hx with ⟨b,off,cap,c,E',fr,hv,g1,g2,g3,g4,g5,g6,g7,g8⟩ | ⟨rfl,ad,cap,hv,g6⟩
   ·have:=g6 rfl
    subst this
    refine⟨_,_,hv,fun w' hw=>?_,by simp;omega,g7,g8,g4⟩
    have:=qrj (P:=cx.P) (size:=i.size) (n:=xs.length) (len:=xs.length) (cap:=xs.length) (off:=off) (N:=xs.length*k) g2 g3 (by rw[hik];exact Nat.le_refl _) hw
    simpa[hik,List.take_take] using this
   ·have:=g6 rfl
    subst this
    exact⟨ad,[],hv,fun w' _=>qpk,by simp,by simp[One],.nil,by simp⟩
  have hr0:=qhr (P:=cx.P) (w:=w) (ty:=o.type) a0 a1 hu hi hz hu2 hdu hold hsrc.len hnew (by simp only[List.length_cons];omega) (by simp only[List.length_cons];exact hmost) (by omega)
  have hge:=grownCap_ge w (xs.length+(y0 :: ys0).length) xs.length el
  obtain⟨k3,o3,r3⟩:=qrf (w:=w) (I:=I) (lp:=lp) (zs:=Builtin.zeroCells zv.cells (grownCap w (xs.length+(y0 :: ys0).length) xs.length el - (xs.length+(y0 :: ys0).length))) hrep hsrc.rep o1 hsrc.one heach hsrc.each
  have hsize:(olds.toArray++news.toArray++Builtin.zeroCells zv.cells (grownCap w (xs.length+(y0 :: ys0).length) xs.length el - (xs.length+(y0 :: ys0).length))).size=grownCap w (xs.length+(y0 :: ys0).length) xs.length el*k:=by
   simp only[List.size_toArray,Array.size_append,size_zeroCells,hsrc.lenN,hlo,hzs]
   rw[←Nat.add_mul,←Nat.add_mul,Nat.add_sub_cancel' hge]
  have:=qnu hs hf hd hcl (k:=k) (kt:=el) (xs:=xs++y0 :: ys0) (t:=el) (.inr rfl) (cap:=grownCap w (xs.length+(y0 :: ys0).length) xs.length el) (w1:=w.drew) ⟨rfl,rfl,rfl,rfl⟩ (by rw[List.length_append];exact hge) (by rw[hsize];exact Nat.le_refl _) k3 o3 r3
   (hrun (by rw[hv,List.length_append];exact hr0))
  simpa[hd] using this
 ·cases h
end ops
end Go.Ab

