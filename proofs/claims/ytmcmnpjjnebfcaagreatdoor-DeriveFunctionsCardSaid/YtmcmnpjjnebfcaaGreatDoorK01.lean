/-
  Part 1 of a proof: a machine of our own for the given program, its laws, and what it says of the program. Nothing here is a claim by itself.
-/
import GoSem.Step
import Derived.Laws.Sem
import Derived.RangeFuncLeaves
import Derived.RangeFuncSeq
import Derived.RangeFuncCalls
import Derived.Laws.Append
import Derived.OwnWalkIn
import Derived.Laws.MakeOwn
import Derived.Carry
import Derived.Laws.Strings
import Derived.Laws.Strings2
import Derived.Laws.Concat
import Derived.Laws.AppendOwn
set_option linter.all false

def ZZ:=@List.map_cons
def Z0:=@Bool.false_eq_true
def Z1:=@List.map_nil
def Z2:=@Bool.and_eq_true
def Z3:=@Option.map_eq_some_iff
def Z4:=@List.mem_map
def Z5:=@Nat.le_refl
def Z6:=@Option.some.injEq
def Z7:=@List.mem_cons
def Z8:=@Bool.not_true
def Z9:=@List.getD_eq_getElem?_getD
def aa:=@List.getElem?_map
def ab:=@List.getElem?_eq_getElem
def ac:=@List.getElem?_eq_some_iff
def ae:=@Nat.le_of_ble_eq_true
def af:=@List.getElem?_cons_zero
def ah:=@Int.toNat_natCast
def ai:=@List.getElem?_cons_succ
def aj:=@List.mem_of_getElem?
def ak:=@List.mem_append_left
def an:=@List.all_eq_true
def ao:=@Option.map_some
def ap:=@List.mem_cons_of_mem
def aq:=@List.mem_cons_self
def ar:=@List.mem_append
def au:=@Nat.add_mul
def av:=@List.take_of_length_le
def aw:=@List.mem_append_right
def ax:=@Bool.not_false
def ay:=@List.map_map
def az:=@Nat.zero_add
def aA:=@List.getElem?_eq_none
def aB:=@List.getElem?_set_ne
def aC:=@Prod.mk.injEq
def aD:=@List.map_congr_left
def aE:=@Bool.true_and
def aF:=@List.length_append
def aG:=@Bool.and_self
def aH:=@Ne.symm
def aI:=@List.getElem?_eq_none_iff
def aJ:=@List.mem_singleton
def aK:=@List.nil_append
def aL:=@List.length_map
def aM:=@Option.getD_some
def aO:=@List.ext_getElem?
def aP:=@Eq.trans
def aQ:=@List.mem_of_mem_take
def aR:=@List.append_assoc
def aS:=@Nat.mul_le_mul_right
def aT:=@Nat.min_eq_left
def aU:=@List.drop_eq_nil_of_le
def aV:=@Bool.false_or
def aW:=@List.take_take
def aX:=@Option.bind_eq_some_iff
def aY:=@List.isEmpty_iff
def aZ:=@List.pairwise_cons
def ba:=@Bool.eq_iff_iff
def bc:=@Nat.blt_eq
def be:=@List.length_cons
def bf:=@List.mem_of_mem_drop
def bg:=@Classical.byContradiction
def bh:=@Nat.lt_of_lt_of_le
def bi:=@List.mapM_cons
def bj:=@List.all_cons
def bk:=@List.contains_iff_mem
def bm:=@List.map_append
def bn:=@List.mem_zipIdx_iff_getElem?
def bo:=@List.getElem?_range
def bp:=@List.all_append
def bq:=@Bool.false_and
def br:=@List.drop_take
def bt:=@Array.toArray_toList
def bu:=@List.flatMap_cons
def bv:=@List.getElem?_append_left
def bw:=@List.getElem?_zipIdx
def bx:=@Array.length_toList
def bz:=@List.append_nil
def bA:=@List.take_length
def bB:=@List.drop_zero
def bC:=@Bool.not_eq_true'
def bD:=@Bool.or_eq_false_iff
def bE:=@List.mem_flatMap
def bF:=@Nat.eq_of_beq_eq_true
def bG:=@Nat.one_mul
def bH:=@List.getElem?_set_self
def bI:=@List.length_eq_zero_iff
def bJ:=@List.foldl_cons
def bK:=@List.map_set
def bL:=@Option.map_none
def bM:=@List.cons_append
def bN:=@List.mem_range
def bO:=@Bool.true_or
def bP:=@List.mem_filter
def bQ:=@List.drop_drop
def bR:=@Nat.zero_le
def bS:=@List.length_take
def bT:=@Option.isSome_iff_exists
def bU:=@List.isEmpty_nil
def bW:=@Bool.and_true
def bX:=@Bool.true_eq_false
def bY:=@Nat.add_sub_cancel_left
def bZ:=@Array.getElem?_toList
def b7:=@List.getElem?_take_of_lt
def b8:=@List.getElem?_append_right
def b9:=@List.length_nil
def cc:=@Bool.and_eq_true_iff
def cd:=@Bool.or_eq_true
def ce:=@List.getElem_mem
def cf:=@Option.some.inj
def cg:=@List.getElem?_set
def ch:=@List.drop_eq_getElem_cons
def ci:=@Nat.le_trans
def cj:=@Option.bind_eq_bind
def ck:=@List.getElem?_drop
def cm:=@List.take_append_of_le_length
def cn:=@List.mem_or_eq_of_mem_set
def co:=@List.length_set
def cq:=@Nat.add_assoc
def cr:=@Nat.mod_lt
def ct:=@List.nodup_cons
def cu:=@Option.pure_def
def cw:=@Option.map_map
def cy:=@List.size_toArray
def cz:=@Array.getElem?_eq_some_iff
def cA:=@Nat.lt_or_ge
def cB:=@Option.bind_some
def cC:=@Nat.mod_eq_of_lt
def cD:=@List.drop_of_length_le
def cE:=@List.set_comm
def cF:=@List.mem_filterMap
def cG:=@List.lookup_cons
def cH:=@Bool.not_eq_true
def cI:=@Array.getElem?_eq_none
def cJ:=@List.set_eq_of_length_le
def cK:=@Nat.eq_zero_or_pos
def cL:=@List.take_append
def cM:=@List.zipIdx_cons
def cN:=@Array.toList_map
def cO:=@List.eq_of_mem_replicate
def cP:=@Option.isSome_none
def cQ:=@Array.size_append
def cR:=@Nat.add_sub_cancel'
def cS:=@Nat.min_eq_right
def cU:=@List.flatMap_def
def cV:=@Option.isNone_iff_eq_none
def cW:=@List.mem_reverse
def cX:=@List.getElem_of_mem
def cY:=@List.contains_cons
def cZ:=@List.flatMap_map
def dc:=@Int.tmod_lt_of_pos
def de:=@List.drop_append_of_le_length
def df:=@Array.mapM_eq_mapM_toList
def dg:=@Array.toList_setIfInBounds
def dh:=@List.getElem?_replicate
namespace Go.Ab
abbrev Nm:=Nat×Nat
inductive PV where
 | undef
 | bool (b:Bool)
 | int (k:IntKind) (n:Int)
 | str (s:List UInt8)
 | nilS | nilP | nilF | nilI | nilM
 | sl (k:Nat) (xs:List PV) (full:Bool)
 | ptr (cs:List PV) (o:Nat)
 | agg (cs:List PV)
 | iface (t:TypeId) (x:PV)
 | fn (f:FuncId) (cap:List PV)
 | yld (d:Nat)
 | tup (xs:List PV)
 | imap (es:List PV)
 | glob (g:Nat) (t:TypeId)
 | ref (nm:Nm) (o:Nat)
 | aref (nm:Nm) (k i o:Nat)
 | arr (nm:Nm) (k o n:Nat)
 | mp (nm:Nm)
 | it (nm:Nm)
 deriving Inhabited
def PV.cells:PV->List PV
 | .agg cs=>cs
 | v=>[v]
def PV.isVal:PV->Bool
 | .undef=>false
 | .tup _=>false
 | _=>true
def PV.isCell:PV->Bool
 | .undef=>false
 | .tup _=>false
 | .agg _=>false
 | _=>true
def cellsL:List PV->List PV
 | []=>[]
 | x :: xs=>x.cells++cellsL xs
inductive Ob where
 | cells (ty:Nat) (cs:List PV)
 | arr (k ty:Nat) (xs:List PV)
 | map (es:List PV)
 | siter (s:List UInt8) (pos:Nat)
 deriving Inhabited
mutual
def PV.names:PV->List Nm
 | .agg cs=>AR cs
 | .iface _ x=>x.names
 | .fn _ cap=>AR cap
 | .tup xs=>AR xs
 | .ref nm _=>[nm]
 | .aref nm _ _ _=>[nm]
 | .arr nm _ _ _=>[nm]
 | .mp nm=>[nm]
 | .it nm=>[nm]
 | .undef | .bool _ | .int _ _ | .str _ | .nilS | .nilP | .nilF | .nilI | .nilM | .sl _ _ _ | .ptr _ _ | .yld _ | .imap _ | .glob _ _=>[]
def AR:List PV->List Nm
 | []=>[]
 | x :: xs=>x.names++AR xs
end
mutual
def PV.hasY:PV->Bool
 | .agg cs=>BI cs
 | .iface _ x=>x.hasY
 | .fn _ cap=>BI cap
 | .tup xs=>BI xs
 | .sl _ xs _=>BI xs
 | .ptr cs _=>BI cs
 | .imap es=>BI es
 | .yld _=>true
 | .undef | .bool _ | .int _ _ | .str _ | .nilS | .nilP | .nilF | .nilI | .nilM | .ref _ _ | .aref _ _ _ _ | .arr _ _ _ _ | .mp _ | .it _ | .glob _ _=>false
def BI:List PV->Bool
 | []=>false
 | x :: xs=>x.hasY||BI xs
end
mutual
def PV.free:PV->Bool
 | .agg cs=>Fm cs
 | .iface _ x=>x.free
 | .fn _ cap=>Fm cap
 | .tup xs=>Fm xs
 | .sl _ _ _=>false
 | .ptr _ _=>false
 | .imap _=>false
 | .glob _ _=>false
 | .undef | .bool _ | .int _ _ | .str _ | .nilS | .nilP | .nilF | .nilI | .nilM | .yld _ | .ref _ _ | .aref _ _ _ _ | .arr _ _ _ _ | .mp _ | .it _=>true
def Fm:List PV->Bool
 | []=>true
 | x :: xs=>x.free&&Fm xs
end
def Ob.free:Ob->Bool
 | .cells _ cs=>Fm cs
 | .arr _ _ xs=>Fm xs
 | .map es=>Fm es
 | .siter _ _=>true
mutual
def PV.sub (f:Nm->Option (Option Ob)):PV->PV
 | .agg cs=>.agg (A2 f cs)
 | .iface t x=>.iface t (x.sub f)
 | .fn g cap=>.fn g (A2 f cap)
 | .tup xs=>.tup (A2 f xs)
 | .ref nm o=>match f nm with
  | none=>.ref nm o
  | some (some (.cells _ cs))=>if o < cs.length then .ptr cs o else .undef
  | some _=>.undef
 | .aref nm k i o=>match f nm with
  | none=>.aref nm k i o
  | some (some (.arr k' kt xs))=>if k=k' then (match xs[i]? with | some x=>if o < x.cells.length then .ptr x.cells o else .undef | none=>.undef) else .undef
  | some _=>.undef
 | .arr nm k o n=>match f nm with
  | none=>.arr nm k o n
  | some (some (.arr k' kt xs))=>if k=k'/\o+n<=xs.length then .sl k ((xs.drop o).take n) false else .undef
  | some _=>.undef
 | .mp nm=>match f nm with
  | none=>.mp nm
  | some (some (.map es))=>.imap es
  | some _=>.undef
 | .it nm=>match f nm with
  | none=>.it nm
  | some _=>.undef
 | .undef=>.undef | .bool b=>.bool b | .int k n=>.int k n | .str s=>.str s
 | .nilS=>.nilS | .nilP=>.nilP | .nilF=>.nilF | .nilI=>.nilI | .nilM=>.nilM
 | .sl k xs b=>.sl k xs b | .ptr cs o=>.ptr cs o | .yld d=>.yld d | .imap es=>.imap es | .glob g t=>.glob g t
def A2 (f:Nm->Option (Option Ob)):List PV->List PV
 | []=>[]
 | x :: xs=>x.sub f :: A2 f xs
end
def Ob.sub (f:Nm->Option (Option Ob)):Ob->Ob
 | .cells ty cs=>.cells ty (A2 f cs)
 | o=>o
mutual
def PV.ren (f:Nm->Nm):PV->PV
 | .agg cs=>.agg (Bs f cs)
 | .iface t x=>.iface t (x.ren f)
 | .fn g cap=>.fn g (Bs f cap)
 | .tup xs=>.tup (Bs f xs)
 | .ref nm o=>.ref (f nm) o
 | .aref nm k i o=>.aref (f nm) k i o
 | .arr nm k o n=>.arr (f nm) k o n
 | .mp nm=>.mp (f nm)
 | .it nm=>.it (f nm)
 | .undef=>.undef | .bool b=>.bool b | .int k n=>.int k n | .str s=>.str s
 | .nilS=>.nilS | .nilP=>.nilP | .nilF=>.nilF | .nilI=>.nilI | .nilM=>.nilM
 | .sl k xs b=>.sl k xs b | .ptr cs o=>.ptr cs o | .yld d=>.yld d | .imap es=>.imap es | .glob g t=>.glob g t
def Bs (f:Nm->Nm):List PV->List PV
 | []=>[]
 | x :: xs=>x.ren f :: Bs f xs
end
def Ob.ren (f:Nm->Nm):Ob->Ob
 | .cells ty cs=>.cells ty (Bs f cs)
 | o=>o
def Ob.names:Ob->List Nm
 | .cells _ cs=>AR cs
 | _=>[]
def Ie (σ:Nm->Option Ob):Nat->Ob->Ob
 | 0,o=>o.sub fun _=>some none
 | d+1,o=>o.sub fun nm=>some ((σ nm).map (Ie σ d))
def Bb (σ:Nm->Option Ob):Nat->List Nm->List Nm
 | 0,l=>l
 | d+1,l=>l++Bb σ d (l.flatMap fun nm=>((σ nm).map Ob.names).getD [])
def AW:Nat:=3
def Dw (σ:Nm->Option Ob) (R:List Nm):Bool:=R.all fun nm=>(((σ nm).map Ob.names).getD []).all fun m=>R.contains m
def BJ (σ:Nm->Option Ob) (nm:Nm):Option (Option Ob):=some ((σ nm).map (Ie σ AW))
inductive RX where
 | t (i:Nat)
 | c (v:PV)
 deriving Inhabited
inductive TC where
 | num | str | bool | iface | slice | map | func | ptr | other
 | plain (l:List Nat)
 deriving DecidableEq,Inhabited
inductive AC where
 | mov (x:RX)
 | pick (c a b:RX)
 | box (x:RX)
 | alloc (ty:Nat) (z:List PV)
 | build (z:List PV) (ps:List (Nat×Nat×RX))
 | mkSl (k:Nat) (ps:List RX)
 | load (n:Nat) (ag:Bool) (x:RX)
 | store (n:Nat) (x v:RX)
 | nilck (x:RX)
 | bin (op:BinOp) (c:TC) (cst:Bool) (x y:RX)
 | un (op:UnOp) (x:RX)
 | conv (k:IntKind) (x:RX)
 | toBytes (x:RX)
 | ofBytes (x:RX)
 | ofRune (x:RX)
 | strId (x:RX)
 | mkI (t:TypeId) (x:RX)
 | mkF (f:FuncId) (cap:List RX)
 | mkMap
 | insert (c:TC) (x k v:RX)
 | lookup (c:TC) (z:PV) (ok:Bool) (x k:RX)
 | mkS (k:Nat) (z:PV) (len cap:RX)
 | slice (k:Nat) (x:RX) (lo hi mx:Option RX)
 | strSlice (x:RX) (lo hi:Option RX)
 | fieldAddr (off:Nat) (x:RX)
 | field (off n:Nat) (ag:Bool) (x:RX)
 | idxAddr (k:Nat) (x i:RX)
 | idxAddrA (k len:Nat) (x i:RX)
 | strIdx (x i:RX)
 | extract (j:Nat) (x:RX)
 | len (c:TC) (x:RX)
 | append (k ty:Nat) (s x:RX)
 | copy (k:Nat) (d s:RX)
 | minmax (mx:Bool) (xs:List RX)
 | call (f:RX) (args:List RX)
 | iter (x:RX)
 | next (x:RX)
 | tassert (t:TypeId) (z:PV) (ok:Bool) (x:RX)
 | bad
 deriving Inhabited
structure AX where
 dst:Option Nat
 op:AC
 guard:Option (Nat×Bool)
 deriving Inhabited
inductive Bu where
 | skip
 | region (ops:List AX) (draw:Option (List (Nat×Nat))) (live:Option (List Nat))
 | seq (a b:Bu)
 | cond (c:RX) (thn els:Bu)
 | block (id:Nat) (body:Bu)
 | loop (asg:List Nat) (grow:List (Nat×Nat)) (body:Bu)
 | rangeFunc (f:RX) (ps:List Nat) (assign body:Bu)
 | exit (id:Nat)
 | scope (body:Bu)
 | ret
 | norm (grow:List (Nat×Nat))
 | dreg (ops:List AX) (f:RX) (args:List RX) (live:Option (List Nat))
 | bad
 deriving Inhabited
def DP:Bu->Bool
 | .dreg _ _ _ _=>false
 | .seq a b=>DP a&&DP b
 | .cond _ a b=>DP a&&DP b
 | .block _ b=>DP b
 | .scope b=>DP b
 | _=>true
inductive H1 where
 | tmp (t:Nat)
 | cell (t n:Nat) (ag:Bool)
 deriving Inhabited
structure Au where
 nt:Nat
 code:Bu
 res:List H1
 io:Bool:=false
 shut:Bool:=false
 leans:Bool:=false
 gone:List Nat:=[]
 deriving Inhabited
structure St where
 tmps:List PV
 objs:List (List Ob)
 keep:List PV
 deriving Inhabited
def Ak (σ:List (List Ob)) (nm:Nm):Option Ob :=
 match σ[nm.1]? with
 | some l=>l[nm.2]?
 | none=>none
def RX.ev (tm:List PV):RX->PV
 | .t i=>tm.getD i .undef
 | .c v=>v
def Cp (tm:List PV):Option RX->Option PV
 | none=>none
 | some x=>some (x.ev tm)
def Bl (σ:List (List Ob)) (nm:Nm) (o:Ob):List (List Ob) :=
 match σ[nm.1]? with
 | some l=>σ.set nm.1 (l.set nm.2 o)
 | none=>σ
def Bz:Ob:=.arr 0 0 []
structure AO where
 v:PV
 new:List Ob:=[]
 upd:Option (Nm×Ob):=none
 kill:Option Nm:=none
 frz:List Nm:=[]
 gone:List Nm:=[]
 ups:List (Nm×Ob):=[]
 io:Bool:=false
 slot:Option Nat:=none
def AI {α:Type} (b:Bool) (x:Option α):Option α:=if b then x else none
def BG (cs:List PV) (o n:Nat) (ag:Bool):Option PV :=
 if ag then AI (decide (o+n<=cs.length)) (some (.agg ((cs.drop o).take n))) else cs[o]?
def splice (cs:List PV) (o:Nat) (vs:List PV):List PV:=cs.take o++vs++cs.drop (o+vs.length)
def EA (tm:List PV):List PV->List (Nat×Nat×RX)->Option (List PV)
 | z,[]=>some z
 | z,(off,n,x) :: ps =>
  AI ((x.ev tm).isVal&&decide ((x.ev tm).cells.length=n)&&decide (off+n<=z.length)) (EA tm (splice z off (x.ev tm).cells) ps)
def FA:Nat:=2147483648
def DF (s:List UInt8):List PV:=s.map fun b=>.int .u8 b.toNat
def Ol:PV->Option UInt8
 | .int .u8 n=>if 0<=n/\n < 256 then some (UInt8.ofNat n.toNat) else none
 | _=>none
def GN:List PV->Option (List UInt8)
 | []=>some []
 | x :: xs=>match Ol x,GN xs with
  | some b,some bs=>some (b :: bs)
  | _,_=>none
def elems (σ:Nm->Option Ob) (k:Nat):PV->Option (List PV)
 | .sl k' xs _=>AI (k==k') (some xs)
 | .arr nm k' o n=>match σ nm with
  | some (.arr k'' kt xs)=>AI (k==k'&&k'==k''&&decide (o+n<=xs.length)) (some ((xs.drop o).take n))
  | _=>none
 | .nilS=>some []
 | .str s=>AI (k==1) (some (DF s))
 | _=>none
def Qx:PV->Bool
 | .str _=>true
 | _=>false
def IY:PV->PV->Option Bool
 | .int k a,.int k' b=>AI (k==k') (some (a==b))
 | .str a,.str b=>some (a==b)
 | .bool a,.bool b=>some (a==b)
 | _,_=>none
def DJ (k:PV):List PV->Option (Option PV)
 | a :: v :: es=>match IY k a with
  | some true=>some (some v)
  | some false=>DJ k es
  | none=>none
 | []=>some none
 | _=>none
def G0 (k v:PV):List PV->Option (List PV)
 | a :: u :: es=>match IY k a with
  | some true=>some (k :: v :: es)
  | some false=>(G0 k v es).map fun l=>a :: u :: l
  | none=>none
 | []=>some [k,v]
 | _=>none
def GX:TC->PV->Bool
 | .num,.int _ _ | .str,.str _ | .bool,.bool _=>true
 | _,_=>false
def JW:BinOp->Int->Int->Option Bool
 | .eql,x,y=>some (x==y)
 | .neq,x,y=>some (x != y)
 | .lss,x,y=>some (decide (x < y))
 | .leq,x,y=>some (decide (x<=y))
 | .gtr,x,y=>some (decide (x>y))
 | .geq,x,y=>some (decide (x≥y))
 | _,_,_=>none
def KK:List UInt8->List UInt8->Bool
 | _,[]=>false
 | [],_ :: _=>true
 | a :: x,b :: y=>a < b||(a==b&&KK x y)
def Th:Nat:=9223372036854775807
def FK (op:BinOp) (k:IntKind) (x y:Int):Option PV :=
 match op with
 | .add=>some (.int k (k.wrap (x+y)))
 | .sub=>some (.int k (k.wrap (x - y)))
 | .mul=>some (.int k (k.wrap (x*y)))
 | .quo=>AI (y != 0) (some (.int k (k.wrap (x.tdiv y))))
 | .rem=>AI (y != 0) (some (.int k (x.tmod y)))
 | .and=>some (.int k (k.wrap (BitVec.ofInt k.bits x &&& BitVec.ofInt k.bits y).toNat))
 | .or=>some (.int k (k.wrap (BitVec.ofInt k.bits x ||| BitVec.ofInt k.bits y).toNat))
 | .xor=>some (.int k (k.wrap (BitVec.ofInt k.bits x ^^^ BitVec.ofInt k.bits y).toNat))
 | .andNot=>some (.int k (k.wrap (BitVec.ofInt k.bits x &&& ~~~ BitVec.ofInt k.bits y).toNat))
 | op=>(JW op x y).map .bool
def La (op:BinOp) (x y:List UInt8):Option PV :=
 match op with
 | .add=>AI (decide (x.length+y.length<=Th)) (some (.str (x++y)))
 | .eql=>some (.bool (x==y))
 | .neq=>some (.bool (!(x==y)))
 | .lss=>some (.bool (KK x y))
 | .leq=>some (.bool (KK x y||x==y))
 | .gtr=>some (.bool (!(KK x y||x==y)))
 | .geq=>some (.bool (!(KK x y)))
 | _=>none
def IJ:List Nat->List PV->List PV->Option Bool
 | [],[],[]=>some true
 | 0 :: l,.int k a :: xs,.int k' b :: ys=>AI (k==k') (match a==b with | true=>IJ l xs ys | false=>some false)
 | 1 :: l,.str a :: xs,.str b :: ys=>match a==b with | true=>IJ l xs ys | false=>some false
 | 2 :: l,.bool a :: xs,.bool b :: ys=>match a==b with | true=>IJ l xs ys | false=>some false
 | _,_,_=>none
def Ka:TC->Bool->PV->PV->Option Bool
 | .iface,cst,.nilI,.nilI=>AI cst (some true)
 | .iface,_,.nilI,.iface _ _ | .iface,_,.iface _ _,.nilI | .iface,_,.nilI,.glob _ _ | .iface,_,.glob _ _,.nilI=>some false
 | .func,_,.nilF,.nilF=>some true
 | .func,_,.nilF,.fn _ _ | .func,_,.fn _ _,.nilF=>some false
 | .slice,_,.nilS,.nilS=>some true
 | .slice,_,.nilS,.sl _ (_ :: _) _ | .slice,_,.sl _ (_ :: _) _,.nilS=>some false
 | .ptr,_,.nilP,.nilP=>some true
 | .ptr,_,.nilP,.ref _ _ | .ptr,_,.nilP,.ptr _ _ | .ptr,_,.ref _ _,.nilP | .ptr,_,.ptr _ _,.nilP=>some false
 | .bool,_,.bool a,.bool b=>some (a==b)
 | .plain l,_,.agg xs,.agg ys=>IJ l xs ys
 | _,_,_,_=>none
def Em (op:BinOp) (c:TC) (cst:Bool) (x y:PV):Option PV :=
 match x,y with
 | .int k a,.int k' b =>
  match op with
  | .shl=>AI (decide (0<=b)) (some (.int k (k.wrap (a*2 ^ (min b.toNat k.bits)))))
  | .shr=>AI (decide (0<=b)) (some (.int k (a.fdiv (2 ^ (min b.toNat k.bits)))))
  | op=>AI (k==k') (FK op k a b)
 | .str a,.str b=>La op a b
 | x,y =>
  match op with
  | .eql=>(Ka c cst x y).map .bool
  | .neq=>(Ka c cst x y).map fun b=>.bool (!b)
  | _=>none
def Dx:PV->Option Nat
 | .int _ n=>if 0<=n then some n.toNat else none
 | _=>none
def CM (x:Option PV) (d top:Nat):Option Nat :=
 match x with
 | none=>some d
 | some v=>match Dx v with
  | some n=>AI (decide (n<=top)) (some n)
  | none=>none
def FW (k:Nat) (x:PV) (lo hi mx:Option PV):Option PV :=
 match x with
 | .sl k' xs full =>
  match CM mx xs.length xs.length with
  | none=>none
  | some m=>match CM hi xs.length m with
   | none=>none
   | some h=>match CM lo 0 h with
    | none=>none
    | some l=>AI (k==k'&&(mx.isNone||hi.isSome)) (some (.sl k ((xs.take h).drop l) (if mx.isSome then m==h else full&&h==xs.length)))
 | .arr nm k' o n =>
  match CM mx n n with
  | none=>none
  | some m=>match CM hi n m with
   | none=>none
   | some h=>match CM lo 0 h with
    | none=>none
    | some l=>AI (k==k'&&(mx.isNone||hi.isSome)) (some (if h=l/\0 < l then .sl k [] false else .arr nm k (o+l) (h - l)))
 | .nilS =>
  match CM mx 0 0 with
  | none=>none
  | some m=>match CM hi 0 m with
   | none=>none
   | some h=>match CM lo 0 h with
    | none=>none
    | some _=>AI (mx.isNone||hi.isSome) (some .nilS)
 | _=>none
def IX (σ:Nm->Option Ob):TC->PV->Option Nat
 | .str,.str s=>some s.length
 | .slice,.sl _ xs _=>some xs.length
 | .slice,.arr _ _ _ n=>some n
 | .slice,.nilS=>some 0
 | .map,.nilM=>some 0
 | .map,.imap es=>some (es.length / 2)
 | .map,.mp nm=>match σ nm with
  | some (.map es)=>some (es.length / 2)
  | _=>none
 | _,_=>none
def Hl (mx:Bool) (k:IntKind):Int->List PV->Option Int
 | a,[]=>some a
 | a,.int k' b :: rest=>AI (k==k') (Hl mx k (if mx then (if b>a then b else a) else (if b < a then b else a)) rest)
 | _,_=>none
def exec (dst:Nat) (σ:Nm->Option Ob) (tm:List PV) (op:AC):Option AO :=
 match op with
 | .mov x=>some {v:=x.ev tm}
 | .pick c a b=>match c.ev tm with
  | .bool true=>some {v:=a.ev tm}
  | .bool false=>some {v:=b.ev tm}
  | _=>none
 | .box x=>AI (x.ev tm).isVal (some {v:=.ref (dst,0) 0,new:=[.cells 0 (x.ev tm).cells]})
 | .alloc ty z=>some {v:=.ref (dst,0) 0,new:=[.cells ty z]}
 | .build z ps=>match EA tm z ps with
  | some cs=>some {v:=.agg cs}
  | none=>none
 | .mkSl k ps =>
  let xs:=ps.map (RX.ev tm)
  let S:=AR xs
  if S.isEmpty then AI (xs.all fun x=>x.isVal&&x.cells.length==k) (some {v:=.arr (dst,0) k 0 xs.length,new:=[.arr k 0 xs]})
  else
   let ys:=A2 (BJ σ) xs
   AI ((ys.all fun x=>x.isVal&&x.cells.length==k)&&Dw σ (Bb σ AW S)) (some {v:=.arr (dst,0) k 0 ys.length,new:=[.arr k 0 ys],frz:=Bb σ AW S})
 | .load n ag x=>match x.ev tm with
  | .ref nm o=>match σ nm with
   | some (.cells _ cs)=>(BG cs o n ag).map fun v=>{v}
   | _=>none
  | .ptr cs o=>(BG cs o n ag).map fun v=>{v}
  | .aref nm k i o=>match σ nm with
   | some (.arr k' kt xs)=>match xs[i]? with
    | some e=>AI (k==k') ((BG e.cells o n ag).map fun v=>{v})
    | none=>none
   | _=>none
  | _=>none
 | .store n x v =>
  let vs:=(v.ev tm).cells
  match x.ev tm with
  | .ref nm o=>match σ nm with
   | some (.cells ty cs)=>AI ((v.ev tm).isVal&&decide (vs.length=n)&&decide (o+n<=cs.length)) (some {v:=.undef,upd:=some (nm,.cells ty (splice cs o vs))})
   | _=>none
  | .aref nm k i o=>match σ nm with
   | some (.arr k' kt xs)=>match xs[i]? with
    | some (.agg es)=>AI (k==k'&&(v.ev tm).isVal&&decide (vs.length=n)&&decide (o+n<=es.length)&&(AR vs).isEmpty)
      (some {v:=.undef,upd:=some (nm,.arr k kt (xs.set i (.agg (splice es o vs))))})
    | some _=>AI (k==k'&&k==1&&o==0&&n==1&&(v.ev tm).isCell&&(v.ev tm).names.isEmpty)
      (some {v:=.undef,upd:=some (nm,.arr k kt (xs.set i (v.ev tm)))})
    | none=>none
   | _=>none
  | _=>none
 | .nilck x=>match x.ev tm with
  | .ref nm o=>some {v:=.ref nm o}
  | .ptr cs o=>some {v:=.ptr cs o}
  | .aref nm k i o=>some {v:=.aref nm k i o}
  | .fn f cap=>some {v:=.fn f cap}
  | .yld d=>some {v:=.yld d}
  | _=>none
 | .bin op c cst x y=>(Em op c cst (x.ev tm) (y.ev tm)).map fun v=>{v}
 | .un op x=>match op,x.ev tm with
  | .not,.bool b=>some {v:=.bool (!b)}
  | .neg,.int k n=>some {v:=.int k (k.wrap (0 - n))}
  | _,_=>none
 | .conv k x=>match x.ev tm with
  | .int _ n=>some {v:=.int k (k.wrap n)}
  | _=>none
 | .toBytes x=>match x.ev tm with
  | .str s=>AI (decide (s.length<=Th)) (some {v:=.sl 1 (DF s) false})
  | _=>none
 | .ofBytes x=>match AI (!Qx (x.ev tm)) (elems σ 1 (x.ev tm)) with
  | some xs=>match GN xs with
   | some s=>some {v:=.str s}
   | none=>none
  | none=>none
 | .ofRune x=>match x.ev tm with
  | .int _ n=>some {v:=.str (Utf8.encode n).data.toList}
  | _=>none
 | .strId x=>match x.ev tm with
  | .str s=>some {v:=.str s}
  | _=>none
 | .mkI t x=>some {v:=.iface t (x.ev tm)}
 | .mkF f cap=>some {v:=.fn f (cap.map (RX.ev tm))}
 | .mkMap=>some {v:=.mp (dst,0),new:=[.map []]}
 | .insert c x k v=>match x.ev tm with
  | .mp nm=>match σ nm with
   | some (.map es) =>
    let S:=(v.ev tm).names
    let R:=if S.isEmpty then [] else Bb σ AW S
    let u:=if S.isEmpty then v.ev tm else (v.ev tm).sub (BJ σ)
    match G0 (k.ev tm) u es with
    | some es'=>AI (GX c (k.ev tm)&&u.isVal&&(S.isEmpty||(Dw σ R&&!R.contains nm))) (some {v:=.undef,upd:=some (nm,.map es'),frz:=R})
    | none=>none
   | _=>none
  | _=>none
 | .lookup c z ok x k =>
  let es:Option (List PV):=match x.ev tm with
   | .mp nm=>match σ nm with
    | some (.map es)=>some es
    | _=>none
   | .imap es=>some es
   | .nilM=>some []
   | _=>none
  match es with
  | none=>none
  | some es=>match DJ (k.ev tm) es with
   | none=>none
   | some r=>AI (GX c (k.ev tm)) (some {v:=if ok then .tup [r.getD z,.bool r.isSome] else r.getD z})
 | .mkS k z len cap=>match Dx (len.ev tm),Dx (cap.ev tm) with
  | some l,some c=>AI (decide (l<=c)&&decide (c<=FA)&&(z.cells.length==k)) (some {v:=.arr (dst,0) k 0 l,new:=[.arr k 0 (List.replicate l z)]})
  | _,_=>none
 | .slice k x lo hi mx=>(FW k (x.ev tm) (Cp tm lo) (Cp tm hi) (Cp tm mx)).map fun v=>{v}
 | .strSlice x lo hi=>match x.ev tm with
  | .str s=>match CM (Cp tm hi) s.length s.length with
   | none=>none
   | some h=>match CM (Cp tm lo) 0 h with
    | none=>none
    | some l=>some {v:=.str ((s.take h).drop l)}
  | _=>none
 | .fieldAddr off x=>match x.ev tm with
  | .ref nm o=>some {v:=.ref nm (o+off)}
  | .ptr cs o=>AI (decide (o+off < cs.length)) (some {v:=.ptr cs (o+off)})
  | .aref nm k i o=>some {v:=.aref nm k i (o+off)}
  | _=>none
 | .field off n ag x=>match x.ev tm with
  | .agg cs=>(BG cs off n ag).map fun v=>{v}
  | _=>none
 | .idxAddr k x i=>match Dx (i.ev tm),x.ev tm with
  | some j,.sl k' xs _=>match xs[j]? with
   | some e=>AI (k==k'&&decide (0 < k)) (some {v:=.ptr e.cells 0})
   | none=>none
  | some j,.arr nm k' o n=>AI (k==k'&&decide (j < n)) (some {v:=.aref nm k (o+j) 0})
  | _,_=>none
 | .idxAddrA k len x i=>match Dx (i.ev tm),x.ev tm with
  | some j,.ptr cs o=>AI (decide (j < len)&&decide (o+j*k < cs.length)) (some {v:=.ptr cs (o+j*k)})
  | some j,.ref nm o=>AI (decide (j < len)) (some {v:=.ref nm (o+j*k)})
  | _,_=>none
 | .strIdx x i=>match Dx (i.ev tm),x.ev tm with
  | some j,.str s=>match s[j]? with
   | some b=>some {v:=.int .u8 b.toNat}
   | none=>none
  | _,_=>none
 | .extract j x=>match x.ev tm with
  | .tup xs=>match xs[j]? with
   | some v=>some {v}
   | none=>none
  | _=>none
 | .len c x=>(IX σ c (x.ev tm)).map fun (n:Nat)=>{v:=.int .i64 (n:Int)}
 | .append k ty s x=>match elems σ k (x.ev tm) with
  | none=>none
  | some ys=>match s.ev tm with
   | .nilS=>AI (decide (ys.length<=FA)) (some {v:=.arr (dst,0) k 0 ys.length,new:=[.arr k ty ys]})
   | .arr nm k' o n=>match σ nm with
    | some (.arr k'' kt xs)=>AI (k==k'&&k'==k''&&o==0&&decide (n<=xs.length)&&decide (n+ys.length<=FA))
      (some {v:=.arr nm k 0 (n+ys.length),upd:=some (nm,.arr k (if kt=ty then ty else 0) (xs.take n++ys)),kill:=some nm})
    | _=>none
   | .sl k' xs true=>match ys with
    | []=>none
    | y :: ys=>AI (k==k'&&decide (xs.length+(ys.length+1)<=FA)) (some {v:=.arr (dst,0) k 0 (xs.length+(ys.length+1)),new:=[.arr k ty (xs++y :: ys)]})
   | _=>none
 | .copy k d s=>match elems σ k (s.ev tm) with
  | none=>none
  | some ys=>match d.ev tm with
   | .nilS=>some {v:=.int .i64 0}
   | .arr nm k' o n=>match σ nm with
    | some (.arr k'' kt xs)=>AI (k==k'&&k'==k''&&decide (o+n<=xs.length))
      (some {v:=.int .i64 (min ys.length n),upd:=some (nm,.arr k kt (xs.take o++ys.take n++xs.drop (o+(ys.take n).length)))})
    | _=>none
   | _=>none
 | .minmax mx xs=>match (xs.map (RX.ev tm):List PV) with
  | .int k a :: rest=>(Hl mx k a rest).map fun n=>{v:=.int k n}
  | _=>none
 | .iter x=>match x.ev tm with
  | .str s=>some {v:=.it (dst,0),new:=[.siter s 0]}
  | _=>none
 | .next x=>match x.ev tm with
  | .it nm=>match σ nm with
   | some (.siter s pos) =>
    if pos < s.length then
     some {v:=.tup [.bool true,.int .i64 pos,.int .i32 (Utf8.decode ⟨s.toArray⟩ pos).1],upd:=some (nm,.siter s (pos+(Utf8.decode ⟨s.toArray⟩ pos).2))}
    else some {v:=.tup [.bool false]}
   | _=>none
  | _=>none
 | .tassert t z ok x=>match x.ev tm with
  | .iface u y=>if u=t then some {v:=if ok then .tup [y,.bool true] else y}
   else AI ok (some {v:=.tup [z,.bool false]})
  | .nilI=>AI ok (some {v:=.tup [z,.bool false]})
  | _=>none
 | .call _ _=>none
 | .bad=>none
def D7 (f:Nm->Option (Option Ob)) (st:St):St:={tmps:=A2 f st.tmps,objs:=st.objs.map (·.map (Ob.sub f)),keep:=A2 f st.keep}
def CZ (σ:Nm->Option Ob) (R:List Nm) (st:St):St :=
 let st:=D7 (fun m=>if R.contains m then BJ σ m else none) st
 {st with objs:=R.foldl (fun objs nm=>Bl objs nm Bz) st.objs}
def FE:List (Nm×Ob)->List (List Ob)->List (List Ob)
 | [],objs=>objs
 |(nm,o) :: l,objs=>FE l (Bl objs nm o)
def apply (st:St) (dst:Option Nat) (o:AO):St :=
 let σ:=Ak st.objs
 let st:=match o.upd with
  | some (nm,ob)=>{st with objs:=Bl st.objs nm ob}
  | none=>st
 let st:=match o.kill with
  | some nm=>D7 (fun m=>if m=nm then some none else none) st
  | none=>st
 let st:=if o.frz.isEmpty then st else CZ σ o.frz st
 let st:=if o.gone.isEmpty then st else D7 (fun m=>if o.gone.contains m then some none else none) st
 let st:=if o.ups.isEmpty then st else {st with objs:=FE o.ups st.objs}
 let st:=match o.slot with
  | some r=>{st with objs:=st.objs.set r (st.objs.getD r []++o.new)}
  | none=>st
 match dst with
 | some d=>{st with tmps:=st.tmps.set d o.v,objs:=if o.slot.isSome||o.new.isEmpty then st.objs else st.objs.set d o.new}
 | none=>st
abbrev Ay (E:Type):=Nat->List PV->E->Option (Bool×E)
abbrev Ht:=(E:Type)->Ay E->Nat->FuncId->List PV->E->Option (PV×List Ob×E)
def Df:Nat:=1000000
def AY (f:FuncId):FuncId:=match Nat.blt f Df with
 | true=>f
 | false=>f%Df
def Fu (f:FuncId):Nat:=match Nat.blt f Df with
 | true=>0
 | false=>f / Df
def OB (f:FuncId):Nat->FuncId
 | 0=>f
 | n+1=>f+Df*(n+1)
def Bt (f:FuncId) (vs cap:List PV):List PV:=match Nat.blt f Df with
 | true=>vs++cap
 | false=>cap.take (Fu f)++(vs++cap.drop (Fu f))
def AP:Ay Unit:=fun _ _ _=>none
structure Bf where
 sp:FuncId->(Nm->Option Ob)->List PV->Option AO
 call:Ht
 isIo:FuncId->Bool
 leans:FuncId->Bool
 io:FuncId->Nat->(Nm->Option Ob)->List PV->Option AO
 flat:FuncId->Bool
def E6 (d:Nat) (nm:Nm):Nm:=(d,nm.2)
def Dr (M:Bf) {E:Type} (h:Ay E) (dep dst:Nat) (σ:Nm->Option Ob) (tm:List PV) (f:RX) (args:List RX) (e:E):Option (AO×E) :=
 let vs:=args.map (RX.ev tm)
 match f.ev tm with
 | .yld d =>
  let S:=AR vs
  if S.isEmpty then
   AI (!BI vs) (match h d vs e with
    | some (b,e)=>some ({v:=.bool b},e)
    | none=>none)
  else
   let vs':=A2 (BJ σ) vs
   AI (!BI vs'&&Dw σ (Bb σ AW S)) (match h d vs' e with
    | some (b,e)=>some ({v:=.bool b,frz:=Bb σ AW S},e)
    | none=>none)
 | .fn f cap =>
  let g:=AY f
  let vs:=Bt f vs cap
  match M.sp g σ vs with
  | some out=>some ({out with v:=out.v.ren (E6 dst)},e)
  | none =>
  if M.isIo g then
   match M.io g dst σ vs with
   | some out=>some (out,e)
   | none=>none
  else
  let S:=AR vs
  if S.isEmpty then
   if BI vs then
    match M.call E h dep g vs e with
    | some (r,obs,e)=>some ({v:=r.ren (E6 dst),new:=obs},e)
    | none=>none
   else match M.call Unit AP 0 g vs () with
    | some (r,obs,_)=>some ({v:=r.ren (E6 dst),new:=obs},e)
    | none=>none
  else
   let vs':=A2 (BJ σ) vs
   AI (!BI vs'&&Dw σ (Bb σ AW S)) (match M.call Unit AP 0 g vs' () with
    | some (r,obs,_)=>some ({v:=r.ren (E6 dst),new:=obs,frz:=if r.free&&obs.all Ob.free&&!M.leans g then [] else Bb σ AW S},e)
    | none=>none)
 | _=>none
def Lg:AC->Bool
 | .box _ | .alloc _ _ | .mkSl _ _ | .mkMap | .mkS _ _ _ _ | .append _ _ _ _ | .call _ _ | .iter _=>true
 | _=>false
def FB (o:AX) (st:St):Bool :=
 if Lg o.op then
  match o.dst with
  | some d=>match st.objs[d]? with
   | some []=>true
   | _=>false
  | none=>match o.op with
   | .call _ _=>true
   | _=>false
 else true
def KQ (dst:Option Nat) (out:AO):Bool:=!out.io||dst.isSome||out.new.isEmpty||out.slot.isSome
theorem Re {E:Type} {x:Option (AO×E)} {dst:Option Nat} {out:AO} {e1:E} (h:(match x with
   | some (out,e)=>AI (KQ dst out) (some (out,e))
   | none=>none)=some (out,e1)):x=some (out,e1)/\KQ dst out=true:=by
 cases x with
 | none=>cases h
 | some p =>
  simp only[AI] at h;split at h
  ·rename_i h1;cases h;exact⟨rfl,h1⟩
  ·cases h
def DG (M:Bf) {E:Type} (h:Ay E) (dep:Nat) (o:AX) (st:St) (e:E):Option (AO×E) :=
 AI (FB o st) (match o.op with
  | .call f args=>match Dr M h dep (o.dst.getD 0) (Ak st.objs) st.tmps f args e with
   | some (out,e)=>AI (KQ o.dst out) (some (out,e))
   | none=>none
  | op=>match exec (o.dst.getD 0) (Ak st.objs) st.tmps op with
   | some out=>some (out,e)
   | none=>none)
def JG (M:Bf) {E:Type} (h:Ay E) (dep:Nat) (o:AX) (st:St) (e:E):Option (St×E) :=
 match DG M h dep o st e with
 | some (out,e)=>some (apply st o.dst out,e)
 | none=>none
def DX (ops:List AX) (o:AX) (tm:List PV):Option Bool :=
 match o.guard with
 | none=>some true
 | some (j,want) =>
  match ops[j]? with
  | some p=>match p.dst with
   | some d=>match tm.getD d .undef with
    | .bool b=>some (b==want)
    | .tup []=>some false
    | _=>none
   | none=>none
  | none=>none
def stepG (M:Bf) {E:Type} (h:Ay E) (dep:Nat) (ops:List AX) (o:AX) (st:St) (e:E):Option (St×E) :=
 match DX ops o st.tmps with
 | some true=>JG M h dep o st e
 | some false=>some (apply st o.dst {v:=.tup []},e)
 | none=>none
def E5 (M:Bf) {E:Type} (h:Ay E) (dep:Nat) (ops:List AX):List AX->St->E->Option (St×E)
 | [],st,e=>some (st,e)
 | o :: rest,st,e=>match stepG M h dep ops o st e with
  | some (st,e)=>E5 M h dep ops rest st e
  | none=>none
def CX (ops:List AX):List Nat:=ops.filterMap fun o=>if Lg o.op then o.dst else none
def Fa (ds:List Nat) (st:St):St :=
 if ds.all fun d=>(st.objs.getD d []).isEmpty then st
 else
  let st:=D7 (fun m=>if ds.contains m.1 then some none else none) st
  {st with objs:=st.objs.zipIdx.map fun (l,i)=>if ds.contains i then [] else l}
def Hc:PV->Bool
 | .undef=>true
 | _=>false
def undefs (st:St):List Nat:=(st.tmps.zipIdx.filter fun (v,_)=>Hc v).map (·.2)
def KS (st:St) (t:Nat):Bool :=
 match st.objs[t]? with
 | some []=>true
 | _=>false
def KN (t:Nat) (st:St):St :=
 match st.tmps.getD t .undef with
 | .arr nm _ _ _ =>
  if nm≠(t,0)/\KS st t=true then
   match Ak st.objs nm with
   | some ob =>
    let f:Nm->Nm:=fun m=>if m=nm then (t,0) else m
    let objs:=st.objs.map (·.map (Ob.ren f))
    {tmps:=Bs f st.tmps,objs:=(Bl objs nm Bz).set t [ob.ren f],keep:=Bs f st.keep}
   | none=>st
  else st
 | _=>st
def IQ:Nat:=1000000
def ND (nm:Nm) (ty:Nat) (cs:List PV) (i k:Nat) (st:St):St :=
 let l:=st.objs.getD nm.1 []
 match cs[i]? with
 | some .nilS=>{st with objs:=st.objs.set nm.1 (l.set nm.2 (.cells ty (cs.set i (.arr (nm.1,l.length) k 0 0)))++[.arr k 0 []])}
 | some (.arr m _ _ _) =>
  if m.1≠nm.1 then
   match Ak st.objs m with
   | some ob =>
    let f:Nm->Nm:=fun x=>if x=m then (nm.1,l.length) else x
    let objs:=Bl (st.objs.map (·.map (Ob.ren f))) m Bz
    {tmps:=Bs f st.tmps,objs:=objs.set nm.1 (objs.getD nm.1 []++[ob.ren f]),keep:=Bs f st.keep}
   | none=>st
  else st
 | _=>st
def OA (x off k:Nat) (st:St):St :=
 match st.tmps.getD x .undef with
 | .ref nm o=>match Ak st.objs nm with
  | some (.cells ty cs)=>ND nm ty cs (o+off) k st
  | _=>st
 | _=>st
def Lk (t k:Nat) (st:St):St :=
 if IQ<=t then OA (t%IQ) (t / IQ - 1) k st
 else match st.tmps.getD t .undef with
 | .nilS=>if KS st t then {st with tmps:=st.tmps.set t (.arr (t,0) k 0 0),objs:=st.objs.set t [.arr k 0 []]} else st
 | _=>st
def Qn (asg:List Nat) (grow:List (Nat×Nat)) (st:St):St :=
 grow.foldl (fun st (t,k)=>Lk t k st) (asg.foldl (fun st t=>KN t st) st)
def KI (ds:List Nat) (st:St):St:={st with tmps:=st.tmps.zipIdx.map fun (v,i)=>if ds.contains i then .undef else v}
def PD (st:St):List Nat :=
 let R:=AR st.tmps++AR st.keep++st.objs.flatMap fun l=>l.flatMap Ob.names
 (List.range st.objs.length).filter fun d=>!(st.objs.getD d []).isEmpty&&R.all fun nm=>nm.1 != d
def drop (ds:List Nat) (st:St):St:=Fa (PD (KI ds st)) (KI ds st)
def norm (asg:List Nat) (grow:List (Nat×Nat)) (st:St):St:=drop (undefs (Qn asg grow st)) (Qn asg grow st)
def KG (ks:List Nat) (st:St):St:={st with tmps:=st.tmps.zipIdx.map fun (v,i)=>if ks.contains i then v else .undef}
def Hu (live:Option (List Nat)) (st:St):St :=
 match live with
 | none=>st
 | some ks=>Fa (PD (KG ks st)) (KG ks st)
def HU (R:List Nm) (d:Nat):Nat->Nat
 | 0=>0
 | m+1=>if R.contains (d,m) then m+1 else HU R d m
def trim (st:St):St :=
 let R:=AR st.tmps++AR st.keep++st.objs.flatMap fun l=>l.flatMap Ob.names
 {st with objs:=st.objs.zipIdx.map fun (l,d)=>l.take (HU R d l.length)}
inductive Cls where
 | quiet | turns | calls | other
 deriving DecidableEq
structure C9 where
 i:Nat
 cls:Cls
 dst:Option Nat
 reads:List Nat
 rn:List Nm
 on:List Nm:=[]
 tch:List Nm:=[]
 frz:Bool:=false
 vn:List Nm:=[]
 rv:List Nm:=[]
def AC.xs:AC->List RX
 | .mov x | .box x | .load _ _ x | .nilck x | .un _ x | .conv _ x | .toBytes x | .ofBytes x | .ofRune x | .strId x | .mkI _ x | .fieldAddr _ x | .field _ _ _ x | .extract _ x | .len _ x | .iter x | .next x | .tassert _ _ _ x=>[x]
 | .pick c a b=>[c,a,b]
 | .alloc _ _ | .mkMap | .bad=>[]
 | .build _ ps=>ps.map (·.2.2)
 | .mkSl _ ps=>ps
 | .store _ x v=>[x,v]
 | .bin _ _ _ x y=>[x,y]
 | .mkF _ cap=>cap
 | .insert _ x k v=>[x,k,v]
 | .lookup _ _ _ x k=>[x,k]
 | .mkS _ _ l c=>[l,c]
 | .slice _ x lo hi mx=>x :: (lo.toList++hi.toList++mx.toList)
 | .strSlice x lo hi=>x :: (lo.toList++hi.toList)
 | .idxAddr _ x i | .strIdx x i=>[x,i]
 | .idxAddrA _ _ x i=>[x,i]
 | .append _ _ s x=>[s,x]
 | .copy _ d s=>[d,s]
 | .minmax _ xs=>xs
 | .call f args=>f :: args
def PG (xs:List RX):List Nat:=xs.filterMap fun | .t i=>some i | .c _=>none
def Gj (ops:List AX) (o:AX):List Nat :=
 match o.guard with
 | none=>[]
 | some (j,_)=>match ops[j]? with
  | some p=>p.dst.toList
  | none=>[]
def Fh:AC->Bool
 | .call _ _=>true
 | _=>false
def HV:AC->Bool
 | .mov _ | .extract _ _ | .pick _ _ _ | .fieldAddr _ _ | .nilck _ | .mkI _ _ | .mkF _ _=>true
 | _=>false
def FH:AC->Bool
 | .load _ _ _=>true
 | _=>false
def Jt (op:AC) (stays:Bool):Nat:=if FH op&&stays then 0 else AW
def CC (o:AO):Bool:=o.upd.isNone&&o.kill.isNone&&o.frz.isEmpty&&o.gone.isEmpty&&o.ups.isEmpty&&o.slot.isNone
def EL (o:AO):Bool:=o.gone.isEmpty&&o.ups.isEmpty&&o.slot.isNone&&!o.io
def Fv (o:AO):List Nm :=
 match o.upd with
 | some (nm,_)=>[nm]
 | none=>[]
def J7 (σ:Nm->Option Ob) (l:List Nm):List Nm:=l.flatMap fun nm=>((σ nm).map Ob.names).getD []
def FP (o:AX) (st:St) (out:AO):List Nm :=
 if HV o.op&&CC out then [] else Bb (Ak st.objs) (Jt o.op (CC out)) (AR (o.op.xs.map (RX.ev st.tmps))++out.frz)
def Hr (op:AC) (tm:List PV):Bool :=
 match op with
 | .call f args=>match f.ev tm with
  | .yld _=>(AR (args.map (RX.ev tm))).isEmpty
  | _=>false
 | _=>false
def GR (ops:List AX) (i:Nat) (o:AX) (st:St) (out:AO):C9 :=
 let vs:=o.op.xs.map (RX.ev st.tmps)
 {i,dst:=o.dst,reads:=PG o.op.xs++Gj ops o,rn:=FP o st out,rv:=if FH o.op then [] else J7 (Ak st.objs) (FP o st out),
  cls:=if Fh o.op&&BI vs then (if Hr o.op st.tmps then .calls else .other) else if CC out then .quiet else if EL out then .turns else .other,
  on:=out.v.names++out.new.flatMap Ob.names,tch:=Fv out++(out.frz++out.kill.toList),frz:=!(out.frz++out.kill.toList).isEmpty,
  vn:=(PG o.op.xs++Gj ops o).flatMap fun s=>(st.tmps.getD s .undef).names}
def H9 (a b:List Nat):Bool:=a.all fun x=>!b.contains x
def Qd (f:Bool) (q t:C9):Bool :=
 (q.rn.all fun nm=>!t.tch.contains nm)&&H9 q.dst.toList (t.tch.map (·.1))&&(!t.frz||((if f then q.rv.all fun nm=>!t.tch.contains nm else q.rn.isEmpty)&&(if f then q.vn.all fun nm=>!t.tch.contains nm else q.reads.isEmpty)&&q.on.all fun nm=>!t.tch.contains nm))
def indepY (a b:C9):Bool :=
 match a.cls,b.cls with
 | .quiet,.calls=>true
 | .calls,.quiet=>true
 | _,_=>false
def Tr (a b:C9):Bool :=
 match a.cls,b.cls with
 | .quiet,.quiet=>true
 | .quiet,.turns=>Qd true a b
 | .turns,.quiet=>Qd false b a
 | _,_=>false
def IZ (a b:C9):Bool :=
 H9 a.dst.toList (b.reads++b.dst.toList)&&H9 b.dst.toList a.reads &&
 H9 a.dst.toList (b.rn.map (·.1))&&H9 b.dst.toList (a.rn.map (·.1)) &&
 (Tr a b||indepY a b)
def B8 (M:Bf) {E:Type} (h:Ay E) (dep:Nat) (ops:List AX) (i:Nat) (o:AX) (st:St) (e:E):Option (AO×E×C9) :=
 match DX ops o st.tmps with
 | some true=>match DG M h dep o st e with
  | some (out,e)=>some (out,e,GR ops i o st out)
  | none=>none
 | some false=>some ({v:=.tup []},e,{i,cls:=.quiet,dst:=o.dst,reads:=Gj ops o,rn:=[],vn:=(Gj ops o).flatMap fun s=>(st.tmps.getD s .undef).names})
 | none=>none
def Mx (M:Bf) {E:Type} (h:Ay E) (dep:Nat) (ops:List AX) (i:Nat) (o:AX) (st:St) (e:E):Option (St×E×C9) :=
 match B8 M h dep ops i o st e with
 | some (out,e,info)=>some (apply st o.dst out,e,info)
 | none=>none
def Hx (M:Bf) {E:Type} (h:Ay E) (dep:Nat) (ops:List AX):List (Nat×Nat)->List C9->St->E->Option (St×E)
 | [],_,st,e=>some (st,e)
 |(i,bef) :: rest,infos,st,e=>match ops[i]? with
  | some o=>match Mx M h dep ops i o st e with
   | some (st,e,info)=>AI (infos.all fun j=>bef.testBit j.i||IZ j info) (Hx M h dep ops rest (info :: infos) st e)
   | none=>none
  | none=>none
inductive Ex where
 | normal
 | exit (id:Nat)
 | ret
 deriving DecidableEq
def CJ:Nat:=1000000000
abbrev GE (E:Type):=St×Option Ex×E
def Ho:List Nat->List PV->List PV->List PV
 | p :: ps,v :: vs,tm=>Ho ps vs (tm.set p v)
 | _,_,tm=>tm
def KR (st:St) (v:PV):Option (PV×St) :=
 if v.names.isEmpty then some (v,st)
 else AI (Dw (Ak st.objs) (Bb (Ak st.objs) AW v.names))
  (some (v.sub (BJ (Ak st.objs)),CZ (Ak st.objs) (Bb (Ak st.objs) AW v.names) st))
def Gn {σ:Type} (step:σ->Option (Sum σ (Ex×σ))):Nat->σ->Option (Ex×σ)
 | 0,_=>none
 | m+1,s=>match step s with
  | some (.inl s)=>Gn step m s
  | some (.inr r)=>some r
  | none=>none
def AQ (M:Bf) (fuel:Nat):Bu->{E:Type}->Ay E->Nat->St->E->Option (Ex×St×E)
 | .skip,_,_,_,st,e=>some (.normal,st,e)
 | .region ops none Bz,_,h,dep,st,e=>match E5 M h dep ops ops (Fa (CX ops) st) e with
  | some (st,e)=>some (.normal,Hu Bz st,e)
  | none=>none
 | .region ops (some bef) Bz,_,h,dep,st,e=>match Hx M h dep ops bef [] (Fa (CX ops) st) e with
  | some (st,e)=>some (.normal,Hu Bz st,e)
  | none=>none
 | .seq a b,_,h,dep,st,e=>match AQ M fuel a h dep st e with
  | some (.normal,st,e)=>AQ M fuel b h dep st e
  | r=>r
 | .cond c a b,_,h,dep,st,e=>match c.ev st.tmps with
  | .bool true=>AQ M fuel a h dep st e
  | .bool false=>AQ M fuel b h dep st e
  | _=>none
 | .block id body,_,h,dep,st,e=>match AQ M fuel body h dep st e with
  | some (.exit id',st,e)=>if id'=id then some (.normal,st,e) else some (.exit id',st,e)
  | r=>r
 | .loop asg grow body,E,h,dep,st,e =>
  let st:=norm asg grow st
  let ds:=undefs st
  match Gn (fun (s:St×E)=>match AQ M fuel body h dep s.1 s.2 with
   | some (.normal,st,e)=>some (.inl (norm asg grow (drop ds st),e))
   | some (x,st,e)=>some (.inr (x,st,e))
   | none=>none) fuel (st,e) with
  | some (x,st,e)=>some (x,st,e)
  | none=>none
 | .rangeFunc f ps assign body,E,h,dep,st,e =>
  match KR st (f.ev st.tmps) with
  | some (.fn g cap,st) =>
   let h':Ay (GE E):=fun l args r =>
    if l=dep then
     match r with
     |(s,none,e) =>
      if args.length=ps.length then
       match AQ M fuel assign h (dep+1) {s with tmps:=Ho ps args s.tmps,keep:=s.tmps++s.keep} e with
       | some (.normal,s',e)=>match AQ M fuel body h (dep+1) s' e with
        | some (x,s',e)=>some (x==.normal,({s' with tmps:=s'.keep.take s.tmps.length,keep:=s'.keep.drop s.tmps.length},(if x=.normal then none else some x),e))
        | none=>none
       | _=>none
      else none
     | _=>none
    else
     match r with
     |(s,p,e)=>match h l args e with
      | some (b,e)=>some (b,(s,p,e))
      | none=>none
   match M.call (GE E) h' (dep+1) (AY g) (Bt g [.yld dep] cap) (st,none,e) with
   | some (_,_,s,p,e)=>some (p.getD .normal,s,e)
   | none=>none
  | _=>none
 | .exit id,_,_,_,st,e=>some (.exit id,st,e)
 | .scope body,_,h,dep,st,e=>match AQ M fuel body h dep st e with
  | some (.exit id,st,e)=>if id < CJ then some (.exit id,st,e) else none
  | r=>r
 | .ret,_,_,_,st,e=>some (.ret,st,e)
 | .norm grow,_,_,_,st,e=>some (.normal,norm [] grow (trim st),e)
 | .dreg _ _ _ _,_,_,_,_,_=>none
 | .bad,_,_,_,_,_=>none
def Qm (nt:Nat) (vs:List PV) (st:St):St:={st with keep:=vs++List.replicate (nt - vs.length) .undef++st.keep}
def Sw:Bu->Bool
 | .seq (.block id _) _=>decide (CJ<=id)
 | _=>false
def isFn:PV->Bool
 | .fn _ _=>true
 | _=>false
def Gx:Option (Ex×St×Unit)->Option (Ex×St×List Nat)
 | some (x,st,_)=>some (x,st,[])
 | none=>none
def Bk (M:Bf) (fuel nt:Nat):Bu->St->Option (Ex×St×List Nat)
 | .dreg ops f args live,st=>match E5 M AP 0 ops ops (Fa (CX ops) st) () with
  | some (st,_)=>AI (decide (args.length+1<=nt)&&isFn (f.ev st.tmps))
    (some (.normal,Hu live (Qm nt (f.ev st.tmps :: args.map (RX.ev st.tmps)) st),[args.length]))
  | none=>none
 | .seq a b,st=>match Bk M fuel nt a st with
  | some (.normal,st,l)=>match Bk M fuel nt b st with
   | some (x,st,l')=>some (x,st,l'++l)
   | none=>none
  | r=>r
 | .cond c a b,st=>match c.ev st.tmps with
  | .bool true=>Bk M fuel nt a st
  | .bool false=>Bk M fuel nt b st
  | _=>none
 | .block id body,st=>match Bk M fuel nt body st with
  | some (.exit id',st,l)=>if id'=id then some (.normal,st,l) else some (.exit id',st,l)
  | r=>r
 | .scope body,st=>if Sw body then none else match Bk M fuel nt body st with
  | some (.exit id,st,l)=>if id < CJ then some (.exit id,st,l) else none
  | r=>r
 | c,st=>Gx (AQ M fuel c AP 0 st ())
def G3 (M:Bf) (nt:Nat):List Nat->St->Option St
 | [],st=>some st
 | n :: l,st=>match st.keep.getD 0 .undef with
  | .fn f cap =>
   match M.sp (AY f) (Ak st.objs) (Bt f ((st.keep.drop 1).take n) cap) with
   | some _=>none
   | none=>if M.isIo (AY f)&&M.flat (AY f) then match M.io (AY f) 0 (Ak st.objs) (Bt f ((st.keep.drop 1).take n) cap) with
    | some out=>AI (out.new.isEmpty||out.slot.isSome) (G3 M nt l (apply {st with keep:=st.keep.drop nt} none out))
    | none=>none
   else none
  | _=>none
def B7 (st:St):H1->Option PV
 | .tmp t=>some (st.tmps.getD t .undef)
 | .cell t n ag=>match st.tmps.getD t .undef with
  | .ref nm o=>match Ak st.objs nm with
   | some (.cells _ cs)=>BG cs o n ag
   | _=>none
  | _=>none
def FM (st:St):List H1->Option (List PV)
 | []=>some []
 | r :: rs=>match B7 st r,FM st rs with
  | some v,some vs=>some (v :: vs)
  | _,_=>none
def Hq:List PV->PV
 | [v]=>v
 | vs=>.tup vs
def tops:PV->List Nm
 | .arr nm _ 0 _=>[nm]
 | .agg cs=>cs.flatMap fun | .arr nm _ 0 _=>[nm] | _=>[]
 | .tup xs=>xs.flatMap fun | .arr nm _ 0 _=>[nm] | .agg cs=>cs.flatMap (fun | .arr nm _ 0 _=>[nm] | _=>[]) | _=>[]
 | _=>[]
def D6:List Nm->Bool
 | []=>true
 | x :: xs=>!xs.contains x&&D6 xs
def J1 (S:List Nm) (nm:Nm):Nm:=(0,S.idxOf nm)
def J6:Ob->Bool
 | .arr _ _ _=>true
 | _=>false
def Ob.bare:Ob->Ob
 | .arr k _ xs=>.arr k 0 xs
 | o=>o
def Ig (shut:Bool) (v:PV):List Nm:=if shut then [] else tops v
def Jw (shut:Bool) (st:St) (v:PV):Option (PV×List Ob) :=
 let σ:=Ak st.objs
 let S:=Ig shut v
 let R:=Bb σ AW (v.names.filter fun nm=>!S.contains nm)
 let S:=if D6 S&&S.all (fun nm=>!R.contains nm) then S else []
 let R:=Bb σ AW (v.names.filter fun nm=>!S.contains nm)
 let v:=(v.sub fun nm=>if S.contains nm then none else BJ σ nm).ren (J1 S)
 match S.mapM σ with
 | some obs=>AI (Dw σ R&&obs.all J6) (some (v,obs.map Ob.bare))
 | none=>none
def IT (M:Bf) (n:Nat) (tab:FuncId->Option Au):Ht:=fun _ h dep f args e =>
 match tab f with
 | none=>none
 | some fn =>
  match AQ M n fn.code h dep {tmps:=args++List.replicate (fn.nt - args.length) .undef,objs:=List.replicate fn.nt [],keep:=[]} e with
  | some (x,st,e) =>
   match x with
   | .exit _=>none
   | _=>match FM st fn.res with
    | some vs=>match Jw fn.shut st (Hq vs) with
     | some (v,obs)=>some (v,obs,e)
     | none=>none
    | none=>none
  | none=>none
def Ob.hasY:Ob->Bool
 | .cells _ cs=>BI cs
 | .arr _ _ xs=>BI xs
 | .map es=>BI es
 | .siter _ _=>false
def DU:List Nm->List Nm
 | []=>[]
 | x :: xs=>if xs.contains x then DU xs else x :: DU xs
def Lu (g:List Nat) (nt k:Nat):List PV:=(List.range nt).map fun j=>if j < k/\g.contains j=false then .arr (0,j) 1 0 0 else .undef
def F7:PV->Option Nm
 | .arr nm 1 0 0=>some nm
 | _=>none
def FX (R:List Nm) (keep:List PV):List (Nm×Nm):=R.zipIdx.map fun p=>((F7 (keep.getD p.2 .undef)).getD (0,p.2),p.1)
def JR (R:List Nm) (keep:List PV):List Nm:=(R.zipIdx.filter fun p=>(F7 (keep.getD p.2 .undef)).isNone).map (·.1)
def K3 (σ:Nm->Option Ob) (A:List (Nm×Nm)) (v:PV):List Nm :=
 DU ((Bb σ AW (v.names++A.flatMap fun p=>((σ p.1).map Ob.names).getD [])).filter fun m=>!(A.map (·.1)).contains m)
def G2 (σ:Nm->Option Ob) (B:List (Nm×Nm)) (nm:Nm):Ob :=
 (((σ nm).getD Bz).sub fun m=>if (B.map (·.1)).contains m then none else some none).ren fun m=>(B.lookup m).getD m
def GY (sl:Option Nat) (d0 i0:Nat) (R:List Nm) (st:St) (v:PV):Option AO :=
 let A:=FX R st.keep
 let N:=K3 (Ak st.objs) A v
 let B:=A++N.zipIdx.map fun p=>(p.1,(d0,i0+p.2))
 AI (D6 (B.map (·.1)))
  (some {v:=(v.sub fun m=>if (B.map (·.1)).contains m then none else some none).ren fun m=>(B.lookup m).getD m,new:=N.map (G2 (Ak st.objs) B),ups:=A.map fun p=>(p.2,G2 (Ak st.objs) B p.1),gone:=JR R st.keep,io:=true,slot:=sl})
def I8 (g:List Nat) (nt:Nat) (ins:List Ob) (vs:List PV):St :=
 {tmps:=vs++List.replicate (nt - vs.length) .undef,objs:=(List.replicate nt []).set 0 ins,keep:=Lu g nt ins.length}
def HR (M:Bf) (n:Nat) (fn:Au) (ins:List Ob) (vs:List PV):Option (St×PV) :=
 if DP fn.code then match AQ M n fn.code AP 0 (I8 fn.gone fn.nt ins vs) () with
  | some (x,st,_) =>
   match x with
   | .exit _=>none
   | _=>match FM st fn.res with
    | some rs=>some (st,Hq rs)
    | none=>none
  | none=>none
 else match Bk M n fn.nt fn.code (I8 fn.gone fn.nt ins vs) with
  | some (x,st,l) =>
   match x with
   | .exit _=>none
   | _=>match G3 M fn.nt l st with
    | some st=>match FM st fn.res with
     | some rs=>some (st,Hq rs)
     | none=>none
    | none=>none
  | none=>none
def KM {α:Type} (σ:Nm->Option α) (d:Nat):Option Nat:=(List.range 64).find? fun j=>(σ (d,j)).isNone
def Ma (σ:Nm->Option Ob) (dst:Nat) (R:List Nm) (st:St) (v:PV):Option AO :=
 match R with
 | []=>GY none dst 0 R st v
 | r :: _=>match KM σ r.1 with
  | some i0=>GY (some r.1) r.1 i0 R st v
  | none=>none
def GC (M:Bf) (n:Nat) (tab:FuncId->Option Au) (f:FuncId) (dst:Nat) (σ:Nm->Option Ob) (vs:List PV):Option AO :=
 match tab f with
 | none=>none
 | some fn =>
  let R:=DU (Bb σ AW (AR vs))
  match R.mapM σ with
  | none=>none
  | some ins =>
   AI (!BI vs&&Dw σ R&&ins.all (fun o=>!o.hasY)&&(decide (vs.length<=fn.nt)&&decide (R.length<=fn.nt)&&decide (0 < fn.nt))) (
    match HR M n fn (ins.map (Ob.ren fun m=>(0,R.idxOf m))) (Bs (fun m=>(0,R.idxOf m)) vs) with
    | some (st,v)=>Ma σ dst R st v
    | none=>none)
def Fi (tab:FuncId->Option Au) (f:FuncId):Bool :=
 match tab f with
 | some fn=>fn.io
 | none=>false
def GL (tab:FuncId->Option Au) (f:FuncId):Bool :=
 match tab f with
 | some fn=>fn.leans
 | none=>false
def Jx (tab:FuncId->Option Au) (f:FuncId):Bool :=
 match tab f with
 | some fn=>DP fn.code
 | none=>false
def EC (sp:FuncId->(Nm->Option Ob)->List PV->Option AO) (tab:FuncId->Option Au):Nat->Bf
 | 0=>{sp,call:=fun _ _ _ _ _ _=>none,isIo:=Fi tab,leans:=GL tab,io:=fun _ _ _ _=>none,flat:=Jx tab}
 | n+1=>{sp,call:=IT (EC sp tab n) n tab,isIo:=Fi tab,leans:=GL tab,io:=GC (EC sp tab n) n tab,flat:=Jx tab}
def B1 (sp:FuncId->(Nm->Option Ob)->List PV->Option AO) (tab:FuncId->Option Au) (n:Nat):Ht:=(EC sp tab n).call
end Go.Ab


namespace Go.Ab
def Ly (d:TypeDesc):Bool :=
 match d with
 | .struct _=>true
 | .array _ _=>true
 | _=>false
def HF:Nat->Value->Option PV
 | _,.bool b=>some (.bool b)
 | _,.int k n=>some (.int k n)
 | _,.string s=>some (.str s.data.toList)
 | _,.slice none 0 0=>some .nilS
 | _,.pointer none=>some .nilP
 | _,.nilFunc=>some .nilF
 | _,.nilIface=>some .nilI
 | _,.map none=>some .nilM
 | n+1,.agg cs=>if cs.toList.all (·.oneCell') then (cs.toList.mapM (HF n)).map .agg else none
 | _,_=>none
def Gr (P:Program) (t:TypeId):Option PV:=((P.info? t).bind (·.zero)).bind (HF 3)
def Hb (P:Program) (t:TypeId):Option (Nat×Bool) :=
 match P.underlying t,P.info? t with
 | some d,some i=>some (i.size,Ly d)
 | _,_=>none
def Gt (P:Program) (t:TypeId):Option (Nat×Nat×PV) :=
 match P.underlying t with
 | some (.slice e)=>match P.info? e,Gr P e with
  | some i,some z=>if i.bytes<=65536/\z.cells.length=i.size then some (i.size,i.bytes,z) else none
  | _,_=>none
 | _=>none
def KO (P:Program) (i:Nat):List Field->Option (List Nat)
 | []=>some []
 | f :: fs=>if f.offset=i/\f.name ≠ "_" then
   match P.underlying f.type,KO P (i+1) fs with
   | some (.int _),some l=>some (0 :: l)
   | some .string,some l=>some (1 :: l)
   | some .bool,some l=>some (2 :: l)
   | _,_=>none
  else none
def Eg (P:Program) (t:TypeId):TC :=
 match P.underlying t with
 | some (.struct fs)=>match KO P 0 fs.toList with
  | some l=>if P.stoodInHeld t=false/\P.eqGuardType P.depth t=false then .plain l else .other
  | none=>.other
 | some (.int _)=>.num
 | some .string=>.str
 | some .bool=>.bool
 | some (.interface _)=>.iface
 | some (.slice _)=>.slice
 | some (.map _ _)=>.map
 | some (.func _ _ _)=>.func
 | some (.pointer _)=>.ptr
 | _=>.other
abbrev Fb:=Nat->Option (List PV)
def rx (G:Fb):Operand->Option RX
 | .tmp t=>some (.t t)
 | .const v=>(HF 3 v).map .c
 | .global g=>(G g).map fun cs=>.c (.ptr cs 0)
 | .func f=>if Nat.blt f Df=true then some (.c (.fn f [])) else none
def rxO (G:Fb):Option Operand->Option (Option RX)
 | none=>some none
 | some x=>(rx G x).map some
def Es (G:Fb):List Operand->Option (List RX)
 | []=>some []
 | x :: xs=>match rx G x,Es G xs with
  | some y,some ys=>some (y :: ys)
  | _,_=>none
def isC:Operand->Bool
 | .const _=>true
 | _=>false
def LO (G:Fb) (place:Nat->Option (Nat×Nat)):List (Nat×Operand)->Option (List (Nat×Nat×RX))
 | []=>some []
 |(i,x) :: ps=>match place i,rx G x,LO G place ps with
  | some (off,n),some y,some ys=>some ((off,n,y) :: ys)
  | _,_,_=>none
def Mc (G:Fb):Nat->List (Nat×Operand)->Option (List RX)
 | _,[]=>some []
 | j,(i,x) :: ps=>if i=j then match rx G x,Mc G (j+1) ps with
  | some y,some ys=>some (y :: ys)
  | _,_=>none
  else none
def OJ (P:Program) (fs:Array Field) (i:Nat):Option (Nat×Nat) :=
 match fs[i]? with
 | some f=>match P.info? f.type with
  | some inf=>some (f.offset,inf.size)
  | none=>none
 | none=>none
def orBad:Option AC->AC
 | some o=>o
 | none=>.bad
def Sn (P:Program) (t:TypeId):Bool :=
 match P.underlying t with
 | some (.int _)=>true
 | some .string=>true
 | some .bool=>true
 | _=>false
def B5 (P:Program) (G:Fb) (o:Oper):Option AC :=
 match o.op with
 | .move x=>(rx G x).map .mov
 | .assign x=>(rx G x).map .mov
 | .pick c a b=>match rx G c,rx G a,rx G b with
  | some c,some a,some b=>some (.pick c a b)
  | _,_,_=>none
 | .alloc t=>match Gr P t with
  | some z=>some (.alloc t z.cells)
  | none=>none
 | .box _ x=>(rx G x).map .box
 | .build t ps=>match P.underlying t,Gr P t with
  | some (.struct fs),some (.agg z)=>match LO G (OJ P fs) ps.toList with
   | some ps=>if fs.all (fun f=>(P.info? f.type).isSome) then some (.build z ps) else none
   | none=>none
  | _,_=>none
 | .buildSlice t len ps=>match Gt P t,Mc G 0 ps.toList with
  | some (k,_,_),some xs=>if xs.length=len/\len*k<=16777216 then some (.mkSl k xs) else none
  | _,_=>none
 | .load t a=>match Hb P t,rx G a with
  | some (n,ag),some x=>some (.load n ag x)
  | _,_=>none
 | .store t a v=>match Hb P t,rx G a,rx G v with
  | some (n,_),some x,some y=>some (.store n x y)
  | _,_,_=>none
 | .nilCheck x=>(rx G x).map .nilck
 | .binOp op t x y _=>match rx G x,rx G y with
  | some a,some b=>some (.bin op (Eg P t) (isC x||isC y) a b)
  | _,_=>none
 | .unOp op _ x=>(rx G x).map (.un op)
 | .convert src dst x=>match P.underlying src,P.underlying dst,rx G x with
  | some (.int _),some (.int k),some x=>some (.conv k x)
  | some (.int _),some .string,some x=>some (.ofRune x)
  | some .string,some .string,some x=>some (.strId x)
  | some .string,some (.slice e),some x=>match P.underlying e with
   | some (.int .u8)=>some (.toBytes x)
   | _=>none
  | some (.slice e),some .string,some x=>match P.underlying e with
   | some (.int .u8)=>some (.ofBytes x)
   | _=>none
  | _,_,_=>none
 | .makeInterface t x=>match P.underlying t with
  | some (.interface _)=>none
  | some _=>(rx G x).map (.mkI t)
  | none=>none
 | .makeFunc (.func f) first cap=>if Nat.blt f Df=true then (Es G (first.toList++cap.toList)).map (.mkF (OB f first.size)) else none
 | .makeMap _ none=>some .mkMap
 | .insert t m k v=>match P.underlying t,rx G m,rx G k,rx G v with
  | some (.map kt _),some m,some k,some v=>if Sn P kt then some (.insert (Eg P kt) m k v) else none
  | _,_,_,_=>none
 | .mapUpdate t m k v=>match P.underlying t,rx G m,rx G k,rx G v with
  | some (.map kt _),some m,some k,some v=>if Sn P kt then some (.insert (Eg P kt) m k v) else none
  | _,_,_,_=>none
 | .lookup t m k ok=>match P.underlying t with
  | some (.map kt et)=>match Gr P et,rx G m,rx G k with
   | some z,some m,some k=>if Sn P kt then some (.lookup (Eg P kt) z ok m k) else none
   | _,_,_=>none
  | _=>none
 | .makeSlice t l c=>match Gt P t,rx G l,rx G c with
  | some (k,_,z),some l,some c=>some (.mkS k z l c)
  | _,_,_=>none
 | .slice t x lo hi mx=>match rx G x,rxO G lo,rxO G hi,rxO G mx with
  | some x,some lo,some hi,some mx=>match P.underlying t with
   | some .string=>if mx.isNone then some (.strSlice x lo hi) else none
   | some (.slice _)=>match Gt P t with
    | some (k,_,_)=>some (.slice k x lo hi mx)
    | none=>none
   | _=>none
  | _,_,_,_=>none
 | .fieldAddr t x f=>match P.underlying t,rx G x with
  | some (.struct fs),some x=>match fs[f]? with
   | some fd=>match P.info? fd.type with
    | some i=>if i.size=0 then none else some (.fieldAddr fd.offset x)
    | none=>none
   | none=>none
  | _,_=>none
 | .field t x f=>match P.underlying t,rx G x with
  | some (.struct fs),some x=>match fs[f]? with
   | some fd=>match Hb P fd.type with
    | some (n,ag)=>some (.field fd.offset n ag x)
    | none=>none
   | none=>none
  | _,_=>none
 | .indexAddr t x i=>match P.underlying t,rx G x,rx G i with
  | some (.slice _),some x,some i=>match Gt P t with
   | some (k,_,_)=>some (.idxAddr k x i)
   | none=>none
  | some (.array n e),some x,some i=>match P.info? e with
   | some inf=>some (.idxAddrA inf.size n x i)
   | none=>none
  | _,_,_=>none
 | .index t x i=>match P.underlying t,rx G x,rx G i with
  | some .string,some x,some i=>some (.strIdx x i)
  | _,_,_=>none
 | .extract x j=>(rx G x).map (.extract j)
 | .call c=>match Es G c.args.toList with
  | none=>none
  | some as=>match c.callee with
   | .value f=>(rx G f).map fun f=>.call f as
   | .builtin .len=>match c.argTypes[0]?,as with
    | some t,[x]=>match P.underlying t with
     | some .string=>some (.len .str x)
     | some (.slice _)=>some (.len .slice x)
     | some (.map _ _)=>some (.len .map x)
     | _=>none
    | _,_=>none
   | .builtin .append=>match c.argTypes[0]?,c.argTypes[1]?,as with
    | some t,some u,[s,x]=>match Gt P t,P.underlying u,P.underlying t with
     | some (k,_,_),some (.slice _),some (.slice el)=>some (.append k el s x)
     | some (k,_,_),some .string,some (.slice el)=>some (.append k el s x)
     | _,_,_=>none
    | _,_,_=>none
   | .builtin .copy=>match c.argTypes[0]?,as with
    | some t,[d,s]=>match Gt P t with
     | some (k,_,_)=>some (.copy k d s)
     | none=>none
    | _,_=>none
   | .builtin .min=>some (.minmax false as)
   | .builtin .max=>some (.minmax true as)
   | _=>none
 | .range t x=>match P.underlying t,rx G x with
  | some .string,some x=>some (.iter x)
  | _,_=>none
 | .next x true=>(rx G x).map .next
 | .typeAssert x _ t ok=>match P.underlying t with
  | some (.interface _)=>none
  | some _=>match Gr P t,rx G x with
   | some z,some x=>some (.tassert t z ok x)
   | _,_=>none
  | none=>none
 | _=>none
def CU (P:Program) (G:Fb) (o:Oper):AX:={dst:=o.dst,op:=orBad (B5 P G o),guard:=o.guard}
def Kb:Bu->List Nat
 | .region ops _ _=>ops.filterMap fun o=>match o.op with | .mov _=>o.dst | _=>none
 | .seq a b=>Kb a++Kb b
 | .cond _ a b=>Kb a++Kb b
 | .block _ b=>Kb b
 | .loop _ _ b=>Kb b
 | .scope b=>Kb b
 | _=>[]
def growOps (ops:List AX):List (Nat×Nat) :=
 ops.filterMap fun o=>match o.dst,o.op with
  | some t,.mov (.t s)=>(ops.findSome? fun p=>match p.op with | .append k _ _ _=>if p.dst=some s then some k else none | _=>none).map fun k=>(t,k)
  | _,_=>none
def QB (ops:List AX):Nat->Nat->Nat->Option (Nat×Nat)
 | 0,_,_=>none
 | n+1,x,off=>match ops.find? fun p=>p.dst==some x with
  | none=>some (x,off)
  | some p=>match p.op with
   | .mov (.t y)=>QB ops n y off
   | .nilck (.t y)=>QB ops n y off
   | .fieldAddr o (.t y)=>QB ops n y (off+o)
   | _=>none
def growCells (ops:List AX):List (Nat×Nat) :=
 ops.filterMap fun o=>match o.op with
  | .store 1 (.t a) (.t u) =>
   match ops.findSome? (fun p=>match p.op with | .append k _ _ _=>if p.dst=some u then some k else none | _=>none),QB ops 8 a 0 with
   | some k,some (x,off)=>some (IQ*(off+1)+x,k)
   | _,_=>none
  | _=>none
def HM:Bu->List (Nat×Nat)
 | .region ops _ _=>growOps ops++growCells ops
 | .seq a b=>HM a++HM b
 | .cond _ a b=>HM a++HM b
 | .block _ b=>HM b
 | .loop _ _ b=>HM b
 | .scope b=>HM b
 | .rangeFunc _ _ _ b=>(HM b).filter fun p=>decide (IQ<=p.1)
 | _=>[]
def Lm {α:Type} [BEq α]:List α->List α
 | []=>[]
 | x :: xs=>if (Lm xs).contains x then Lm xs else x :: Lm xs
def Mf (acc:List (Nat×Nat)):List Edge->Nat
 | []=>0
 | e :: es=>if Region.binds .any e then 2 ^ e.on ||| ((acc.lookup e.on).getD 0) ||| Mf acc es else Mf acc es
def MS (ops:Array Oper):List Nat->List (Nat×Nat)->Option (List (Nat×Nat))
 | [],acc=>if acc.length=ops.size then some acc.reverse else none
 | i :: rest,acc=>match ops[i]? with
  | some o=>if (acc.lookup i).isNone/\o.after.toList.all (fun e=>!Region.binds .any e||(acc.lookup e.on).isSome) then MS ops rest ((i,Mf acc o.after.toList) :: acc) else none
  | none=>none
def IP:Code->Option Nat
 | .goto l=>some l
 | .seq a b=>(IP a).orElse fun _=>IP b
 | .cond _ a b=>(IP a).orElse fun _=>IP b
 | .block _ b=>IP b
 | .loop b=>IP b
 | .rangeFunc _ _ _ b=>IP b
 | _=>none
def Ey (l:Nat):Code->Bu->Option (Bu×Bu)
 | .seq a b,.seq ra rb=>match Ey l a ra with
  | some (x,y)=>some (x,.seq y rb)
  | none=>match Ey l b rb with
   | some (x,y)=>some (.seq ra x,y)
   | none=>none
 | .label l',_=>if l'=l then some (.skip,.skip) else none
 | _,_=>none
def N5 (c:Code) (r:Bu):Bu :=
 match IP c with
 | none=>.scope r
 | some l=>match Ey l c r with
  | some (x,y)=>.scope (.seq (.block (CJ+l) x) y)
  | none=>.scope r
structure Told where
 lv:Option (List Nat):=none
 grow:Option (List (Nat×Nat)):=none
 peel:Bool:=false
 deriving Inhabited
abbrev Er:=Nat->Told
def ME (g:Option (List (Nat×Nat))) (r:Bu):Bu :=
 match g with
 | none=>r
 | some g=>.seq r (.norm g)
def JF:Code->Option Nat
 | .region id _ _=>some id
 | .seq a b=>(JF a).orElse fun _=>JF b
 | .cond _ a b=>(JF a).orElse fun _=>JF b
 | .block _ b=>JF b
 | .loop b=>JF b
 | .scope b=>JF b
 | _=>none
def peelOf (D:Er) (c:Code):Bool :=
 match JF c with
 | some id=>(D id).peel
 | none=>false
def Qp (p:Bool) (asg:List Nat) (grow:List (Nat×Nat)) (b:Bu):Bu:=if p then .seq b (.loop asg grow b) else .loop asg grow b
def S9 (f:RX) (ps:List Nat) (asg b:Bu) (g:List (Nat×Nat)):Bu :=
 if g.isEmpty then .rangeFunc f ps asg b else .seq (.norm g) (.rangeFunc f ps asg (.seq (.seq b (.region [] none (some []))) (.norm g)))
def PS (G:Fb) (o:Oper):Option (RX×List RX) :=
 match o.op,o.guard,o.dst with
 | .defer c,none,none=>match c.callee with
  | .value f=>match rx G f,Es G c.args.toList with
   | some f,some args=>some (f,args)
   | _,_=>none
  | _=>none
 | _,_,_=>none
def P1 (P:Program) (G:Fb) (ops:Array Oper) (lv:Option (List Nat)):Bu :=
 match ops.toList.getLast?.bind (PS G) with
 | some (f,args)=>.dreg (ops.toList.dropLast.map (CU P G)) f args lv
 | none=>.region (ops.toList.map (CU P G)) none lv
def BO (P:Program) (G:Fb) (D:Er):Code->Bu
 | .skip=>.skip
 | .region id ops draw=>ME (D id).grow (if draw then (match MS ops (Region.linearise .any ops 0) [] with
   | some l=>.region (ops.toList.map (CU P G)) (some l) (D id).lv
   | none=>.bad)
  else P1 P G ops (D id).lv)
 | .seq a b=>.seq (BO P G D a) (BO P G D b)
 | .cond c a b=>match rx G c with
  | some c=>.cond c (BO P G D a) (BO P G D b)
  | none=>.bad
 | .block id b=>if id < CJ then .block id (BO P G D b) else .bad
 | .loop b=>Qp (peelOf D b&&DP (BO P G D b)) (Lm (Kb (BO P G D b))) (Lm (HM (BO P G D b))) (BO P G D b)
 | .rangeFunc f ps asg b=>match rx G f with
  | some f=>S9 f ps.toList (BO P G D asg) (BO P G D b) (Lm (HM (BO P G D b)))
  | none=>.bad
 | .exit id=>if id < CJ then .exit id else .bad
 | .scope b=>N5 b (BO P G D b)
 | .label _=>.skip
 | .goto l=>.exit (CJ+l)
 | .ret=>.ret
 | .refuse _=>.bad
def Me (P:Program):List ResultVar->Option (List H1)
 | []=>some []
 | r :: rs=>match (match r with
   | .tmp t=>some (H1.tmp t)
   | .cell a t=>(Hb P t).map fun (n,ag)=>H1.cell a n ag),Me P rs with
  | some x,some xs=>some (x :: xs)
  | _,_=>none
def Ln (P:Program) (G:Fb) (D:Er) (f:FuncId):Option Au :=
 match P.funcs[f]? with
 | some fn=>match fn.body,Me P fn.results.toList with
  | some c,some rs=>if fn.name == "runtime.NumGoroutine" then none else some {nt:=fn.ntmps,code:=BO P G D c,res:=rs}
  | _,_=>none
 | none=>none
end Go.Ab


namespace Go.Ab
def opT:Operand->List Nat
 | .tmp t=>[t]
 | _=>[]
def opsT (l:List Operand):List Nat:=l.flatMap opT
def Lz (a b:List Nat):List Nat:=a.foldl (fun acc x=>if acc.contains x then acc else x :: acc) b
abbrev Q3:=List (Nat×List Nat)
def Gd:Code->List Nat->Q3->List Nat->List Nat×Q3
 | .skip,out,_,_=>(out,[])
 | .region id ops _,out,_,_=>(ops.toList.foldr (fun o l=>Lz (opsT o.op.operands.toList) (match o.dst with | some d=>l.filter (· != d) | none=>l)) out,[(id,out)])
 | .seq a b,out,ends,rets =>
  let r2:=Gd b out ends rets
  let r1:=Gd a r2.1 ends rets
  (r1.1,r1.2++r2.2)
 | .cond c a b,out,ends,rets =>
  let r1:=Gd a out ends rets
  let r2:=Gd b out ends rets
  (Lz (opT c) (Lz r1.1 r2.1),r1.2++r2.2)
 | .block id b,out,ends,rets=>Gd b out ((id,out) :: ends) rets
 | .loop b,_,ends,rets =>
  let x1:=(Gd b [] ends rets).1
  let x2:=(Gd b x1 ends rets).1
  let x3:=(Gd b x2 ends rets).1
  (x3,(Gd b x3 ends rets).2)
 | .rangeFunc f ps asg b,out,ends,rets =>
  let e0:=ends.map fun p=>(p.1,([]:List Nat))
  let r2:=Gd b [] e0 []
  let r1:=Gd asg r2.1 e0 []
  (Lz (opT f) (Lz (r1.1.filter fun x=>!ps.contains x) (Lz out (Lz (ends.flatMap (·.2)) rets))),r1.2++r2.2)
 | .exit id,_,ends,_=>((ends.lookup id).getD [],[])
 | .scope b,out,ends,rets =>
  let l:=(IP b).getD 0
  let x1:=((Gd b out ends rets).2.lookup (CJ+l)).getD []
  let x2:=((Gd b out ((CJ+l,x1) :: ends) rets).2.lookup (CJ+l)).getD []
  Gd b out ((CJ+l,x2) :: ends) rets
 | .label l,out,_,_=>(out,[(CJ+l,out)])
 | .goto l,_,ends,_=>((ends.lookup (CJ+l)).getD [],[])
 | .ret,_,_,rets=>(rets,[])
 | .refuse _,out,_,_=>(out,[])
def resT:ResultVar->Nat
 | .tmp t=>t
 | .cell a _=>a
def liveOf (P:Program) (f:FuncId):Q3 :=
 match P.funcs[f]? with
 | some fn=>match fn.body with
  | some c=>(Gd c (fn.results.toList.map resT) [] (fn.results.toList.map resT)).2
  | none=>[]
 | none=>[]
def lookD (l:Q3):Er:=fun id=>{lv:=l.lookup id}
def deadOf (P:Program) (f:FuncId):Er:=lookD (liveOf P f)
abbrev Hint:=List (Nat×Nat×Option (List (Nat×Nat))×Bool)
def hinted (H:Hint) (f:FuncId) (D:Er):Er:=fun id =>
 match H.find? fun h=>h.1==f&&h.2.1==id with
 | some h=>{D id with grow:=h.2.2.1,peel:=h.2.2.2}
 | none=>D id
def OC (H:Hint) (P:Program) (f:FuncId):Er:=hinted H f (deadOf P f)
end Go.Ab


namespace Go.Ab
abbrev AF:=Nm->Option (Option (Nat×Nat))
def F9:List MapEntry->List Value
 | []=>[]
 | e :: es=>e.key :: e.val :: F9 es
def Bo (vs:List Value):Prop:=∀ v∈vs,v.oneCell'=true
theorem Bo.take' {vs:List Value} (h:Bo vs) (n:Nat):Bo (vs.take n):=fun v hv=>h v (aQ hv)
theorem Bo.drop' {vs:List Value} (h:Bo vs) (n:Nat):Bo (vs.drop n):=fun v hv=>h v (bf hv)
theorem Bo.append' {vs us:List Value} (h:Bo vs) (h':Bo us):Bo (vs++us):=fun v hv=>(ar.1 hv).elim (h v) (h' v)
mutual
inductive Aw (w:World) (I:Nat->Prop) (lp:Nat->Option Nat):Option AF->PV->Value->Prop
 | undef {L} (v:Value):Aw w I lp L .undef v
 | bool {L} (b:Bool):Aw w I lp L (.bool b) (.bool b)
 | int {L} (k:IntKind) (n:Int):Aw w I lp L (.int k n) (.int k n)
 | str {L} (s:List UInt8):Aw w I lp L (.str s) (.string ⟨s.toArray⟩)
 | nilS {L}:Aw w I lp L .nilS (.slice none 0 0)
 | nilP {L}:Aw w I lp L .nilP (.pointer none)
 | nilF {L}:Aw w I lp L .nilF .nilFunc
 | nilI {L}:Aw w I lp L .nilI .nilIface
 | nilM {L}:Aw w I lp L .nilM (.map none)
 | slE {L} (k:Nat) (full:Bool) (a:Option Addr) (cap:Nat) (hf:full=true->cap=0):Aw w I lp L (.sl k [] full) (.slice a 0 cap)
 | sl {L} (k:Nat) (xs:List PV) (full:Bool) (b off cap:Nat) (c:Array Value) (E:TypeId) (fr:Nat×Nat)
   (hI:I b) (hb:w.heap[b]?=some (.cells c E fr)) (hs:off+xs.length*k<=c.size) (hk:∀ x∈xs,x.cells.length=k)
   (hc:xs.length<=cap) (hf:full=true->cap=xs.length) (h1:Bo ((c.toList.drop off).take (xs.length*k)))
   (hr:Aq w I lp none (cellsL xs) ((c.toList.drop off).take (xs.length*k))):Aw w I lp L (.sl k xs full) (.slice (some ⟨b,off,none⟩) xs.length cap)
 | ptr {L} (cs:List PV) (o:Nat) (b off:Nat) (c:Array Value) (E:TypeId) (fr:Nat×Nat)
   (hI:I b) (hb:w.heap[b]?=some (.cells c E fr)) (hs:off+cs.length<=c.size) (ho:o < cs.length) (h1:Bo ((c.toList.drop off).take cs.length))
   (hr:Aq w I lp none cs ((c.toList.drop off).take cs.length)):Aw w I lp L (.ptr cs o) (.pointer (some ⟨b,off+o,none⟩))
 | agg {L} (cs:List PV) (vs:Array Value) (h1:Bo vs.toList) (h:Aq w I lp L cs vs.toList):Aw w I lp L (.agg cs) (.agg vs)
 | iface {L} (t:TypeId) (x:PV) (v:Value) (h:Aw w I lp L x v):Aw w I lp L (.iface t x) (.iface t v)
 | fn {L} (f:FuncId) (cs:List PV) (us vs:Array Value) (hk:us.size=Fu f) (h:Aq w I lp L cs (us.toList++vs.toList)):Aw w I lp L (.fn f cs) (.func (.func (AY f)) us vs)
 | yld {L} (d l:Nat) (h:lp d=some l):Aw w I lp L (.yld d) (.func (.yield l) #[] #[])
 | tup {L} (xs:List PV) (vs:Array Value) (h:Aq w I lp L xs vs.toList):Aw w I lp L (.tup xs) (.tuple vs)
 | imap {L} (es:List PV) (r:Nat) (ents:Array MapEntry) (clock:Nat) (hI:I r) (hb:w.heap[r]?=some (.map ents clock))
   (hr:Aq w I lp none es (F9 ents.toList)):Aw w I lp L (.imap es) (.map (some r))
 | glob {L} (g:Nat) (t:TypeId) (x:Value) (c:Array Value) (E:TypeId) (fr:Nat×Nat) (hI:I g) (hb:w.heap[g]?=some (.cells c E fr)) (hv:c[0]?=some (.iface t x)):Aw w I lp L (.glob g t) (.iface t x)
 | ref {L:AF} (nm:Nm) (o b C:Nat) (h:L nm=some (some (b,C))):Aw w I lp (some L) (.ref nm o) (.pointer (some ⟨b,o,none⟩))
 | aref {L:AF} (nm:Nm) (k i o b C:Nat) (h:L nm=some (some (b,C))):Aw w I lp (some L) (.aref nm k i o) (.pointer (some ⟨b,i*k+o,none⟩))
 | arr {L:AF} (nm:Nm) (k o n cap b C:Nat) (h:L nm=some (some (b,C))) (hC:(o+cap)*k<=C) (hn:n<=cap) :
   Aw w I lp (some L) (.arr nm k o n) (.slice (some ⟨b,o*k,none⟩) n cap)
 | arrN {L:AF} (nm:Nm) (k:Nat) (h:L nm=some none):Aw w I lp (some L) (.arr nm k 0 0) (.slice none 0 0)
 | mp {L:AF} (nm:Nm) (b C:Nat) (h:L nm=some (some (b,C))):Aw w I lp (some L) (.mp nm) (.map (some b))
 | it {L:AF} (nm:Nm) (b C:Nat) (h:L nm=some (some (b,C))):Aw w I lp (some L) (.it nm) (.pointer (some ⟨b,0,none⟩))
inductive Aq (w:World) (I:Nat->Prop) (lp:Nat->Option Nat):Option AF->List PV->List Value->Prop
 | nil {L}:Aq w I lp L [] []
 | cons {L} (x:PV) (v:Value) (xs:List PV) (vs:List Value) (h:Aw w I lp L x v) (hs:Aq w I lp L xs vs):Aq w I lp L (x :: xs) (v :: vs)
end
def MT (L L':AF):Prop:=∀ nm p,L nm=some p->L' nm=some p
def lpLe (lp lp':Nat->Option Nat):Prop:=∀ d l,lp d=some l->lp' d=some l
section mono
variable {w w':World} {I I':Nat->Prop} {lp lp':Nat->Option Nat}
mutual
theorem Aw.mono (hI:∀ b,I b->I' b) (hb:∀ b,I b->w'.heap[b]?=w.heap[b]?) (hl:lpLe lp lp') {L:Option AF} {x:PV} {v:Value}:Aw w I lp L x v->Aw w' I' lp' L x v
 | .undef v=>.undef v
 | .bool b=>.bool b
 | .int k n=>.int k n
 | .str s=>.str s
 | .nilS=>.nilS
 | .nilP=>.nilP
 | .nilF=>.nilF
 | .nilI=>.nilI
 | .nilM=>.nilM
 | .slE k full a cap hf=>.slE k full a cap hf
 | .sl k xs full b off cap c E fr h1 h2 h3 h4 h5 h6 h8 h7=>.sl k xs full b off cap c E fr (hI b h1) ((hb b h1).trans h2) h3 h4 h5 h6 h8 (Aq.mono hI hb hl h7)
 | .ptr cs o b off c E fr h1 h2 h3 h4 h8 h5=>.ptr cs o b off c E fr (hI b h1) ((hb b h1).trans h2) h3 h4 h8 (Aq.mono hI hb hl h5)
 | .agg cs vs h1 h=>.agg cs vs h1 (Aq.mono hI hb hl h)
 | .iface t x v h=>.iface t x v (Aw.mono hI hb hl h)
 | .fn f cs us vs hk h=>.fn f cs us vs hk (Aq.mono hI hb hl h)
 | .yld d l h=>.yld d l (hl d l h)
 | .tup xs vs h=>.tup xs vs (Aq.mono hI hb hl h)
 | .imap es r ents clock h1 h2 h3=>.imap es r ents clock (hI r h1) ((hb r h1).trans h2) (Aq.mono hI hb hl h3)
 | .glob g t x c E fr h1 h2 h3=>.glob g t x c E fr (hI g h1) ((hb g h1).trans h2) h3
 | .ref nm o b C h=>.ref nm o b C h
 | .aref nm k i o b C h=>.aref nm k i o b C h
 | .arr nm k o n cap b C h hC hn=>.arr nm k o n cap b C h hC hn
 | .arrN nm k h=>.arrN nm k h
 | .mp nm b C h=>.mp nm b C h
 | .it nm b C h=>.it nm b C h
theorem Aq.mono (hI:∀ b,I b->I' b) (hb:∀ b,I b->w'.heap[b]?=w.heap[b]?) (hl:lpLe lp lp') {L:Option AF} {xs:List PV} {vs:List Value}:Aq w I lp L xs vs->Aq w' I' lp' L xs vs
 | .nil=>.nil
 | .cons x v xs vs h hs=>.cons x v xs vs (Aw.mono hI hb hl h) (Aq.mono hI hb hl hs)
end
end mono
section lift
variable {w:World} {I:Nat->Prop} {lp:Nat->Option Nat}
mutual
theorem Aw.lift {x:PV} {v:Value} (L:Option AF):Aw w I lp none x v->Aw w I lp L x v
 | .undef v=>.undef v
 | .bool b=>.bool b
 | .int k n=>.int k n
 | .str s=>.str s
 | .nilS=>.nilS
 | .nilP=>.nilP
 | .nilF=>.nilF
 | .nilI=>.nilI
 | .nilM=>.nilM
 | .slE k full a cap hf=>.slE k full a cap hf
 | .sl k xs full b off cap c E fr h1 h2 h3 h4 h5 h6 h8 h7=>.sl k xs full b off cap c E fr h1 h2 h3 h4 h5 h6 h8 h7
 | .ptr cs o b off c E fr h1 h2 h3 h4 h8 h5=>.ptr cs o b off c E fr h1 h2 h3 h4 h8 h5
 | .agg cs vs h1 h=>.agg cs vs h1 (h.lift L)
 | .iface t x v h=>.iface t x v (h.lift L)
 | .fn f cs us vs hk h=>.fn f cs us vs hk (h.lift L)
 | .yld d l h=>.yld d l h
 | .tup xs vs h=>.tup xs vs (h.lift L)
 | .imap es r ents clock h1 h2 h3=>.imap es r ents clock h1 h2 h3
 | .glob g t x c E fr h1 h2 h3=>.glob g t x c E fr h1 h2 h3
theorem Aq.lift {xs:List PV} {vs:List Value} (L:Option AF):Aq w I lp none xs vs->Aq w I lp L xs vs
 | .nil=>.nil
 | .cons x v xs vs h hs=>.cons x v xs vs (h.lift L) (hs.lift L)
end
mutual
theorem Aw.shut {L:Option AF} {x:PV} {v:Value}:Aw w I lp L x v->x.names=[]->Aw w I lp none x v
 | .undef v,_=>.undef v
 | .bool b,_=>.bool b
 | .int k n,_=>.int k n
 | .str s,_=>.str s
 | .nilS,_=>.nilS
 | .nilP,_=>.nilP
 | .nilF,_=>.nilF
 | .nilI,_=>.nilI
 | .nilM,_=>.nilM
 | .slE k full a cap hf,_=>.slE k full a cap hf
 | .sl k xs full b off cap c E fr h1 h2 h3 h4 h5 h6 h8 h7,_=>.sl k xs full b off cap c E fr h1 h2 h3 h4 h5 h6 h8 h7
 | .ptr cs o b off c E fr h1 h2 h3 h4 h8 h5,_=>.ptr cs o b off c E fr h1 h2 h3 h4 h8 h5
 | .agg cs vs h1 h,e=>.agg cs vs h1 (h.shut (by simpa[PV.names] using e))
 | .iface t x v h,e=>.iface t x v (h.shut (by simpa[PV.names] using e))
 | .fn f cs us vs hk h,e=>.fn f cs us vs hk (h.shut (by simpa[PV.names] using e))
 | .yld d l h,_=>.yld d l h
 | .tup xs vs h,e=>.tup xs vs (h.shut (by simpa[PV.names] using e))
 | .imap es r ents clock h1 h2 h3,_=>.imap es r ents clock h1 h2 h3
 | .glob g t x c E fr h1 h2 h3,_=>.glob g t x c E fr h1 h2 h3
 | .ref nm o b C h,e=>by simp[PV.names] at e
 | .aref nm k i o b C h,e=>by simp[PV.names] at e
 | .arr nm k o n cap b C h hC hn,e=>by simp[PV.names] at e
 | .arrN nm k h,e=>by simp[PV.names] at e
 | .mp nm b C h,e=>by simp[PV.names] at e
 | .it nm b C h,e=>by simp[PV.names] at e
theorem Aq.shut {L:Option AF} {xs:List PV} {vs:List Value}:Aq w I lp L xs vs->AR xs=[]->Aq w I lp none xs vs
 | .nil,_=>.nil
 | .cons x v xs vs h hs,e=>.cons x v xs vs (h.shut (List.append_eq_nil_iff.1 e).1) (hs.shut (List.append_eq_nil_iff.1 e).2)
end
mutual
theorem Aw.reloc {L L':AF} {x:PV} {v:Value}:Aw w I lp (some L) x v->MT L L'->Aw w I lp (some L') x v
 | .undef v,_=>.undef v
 | .bool b,_=>.bool b
 | .int k n,_=>.int k n
 | .str s,_=>.str s
 | .nilS,_=>.nilS
 | .nilP,_=>.nilP
 | .nilF,_=>.nilF
 | .nilI,_=>.nilI
 | .nilM,_=>.nilM
 | .slE k full a cap hf,_=>.slE k full a cap hf
 | .sl k xs full b off cap c E fr h1 h2 h3 h4 h5 h6 h8 h7,_=>.sl k xs full b off cap c E fr h1 h2 h3 h4 h5 h6 h8 h7
 | .ptr cs o b off c E fr h1 h2 h3 h4 h8 h5,_=>.ptr cs o b off c E fr h1 h2 h3 h4 h8 h5
 | .agg cs vs h1 h,e=>.agg cs vs h1 (h.reloc e)
 | .iface t x v h,e=>.iface t x v (h.reloc e)
 | .fn f cs us vs hk h,e=>.fn f cs us vs hk (h.reloc e)
 | .yld d l h,_=>.yld d l h
 | .tup xs vs h,e=>.tup xs vs (h.reloc e)
 | .imap es r ents clock h1 h2 h3,_=>.imap es r ents clock h1 h2 h3
 | .glob g t x c E fr h1 h2 h3,_=>.glob g t x c E fr h1 h2 h3
 | .ref nm o b C h,e=>.ref nm o b C (e _ _ h)
 | .aref nm k i o b C h,e=>.aref nm k i o b C (e _ _ h)
 | .arr nm k o n cap b C h hC hn,e=>.arr nm k o n cap b C (e _ _ h) hC hn
 | .arrN nm k h,e=>.arrN nm k (e _ _ h)
 | .mp nm b C h,e=>.mp nm b C (e _ _ h)
 | .it nm b C h,e=>.it nm b C (e _ _ h)
theorem Aq.reloc {L L':AF} {xs:List PV} {vs:List Value}:Aq w I lp (some L) xs vs->MT L L'->Aq w I lp (some L') xs vs
 | .nil,_=>.nil
 | .cons x v xs vs h hs,e=>.cons x v xs vs (h.reloc e) (hs.reloc e)
end
end lift
section lists
variable {w:World} {I:Nat->Prop} {lp:Nat->Option Nat} {L:Option AF}
theorem Aq.length {xs:List PV} {vs:List Value} (h:Aq w I lp L xs vs):xs.length=vs.length:=by
 induction xs generalizing vs with
 | nil=>cases h;rfl
 | cons x xs ih=>cases h with | cons _ v _ vs h hs=>simp[ih hs]
theorem Aq.get {xs:List PV} {vs:List Value} (h:Aq w I lp L xs vs) {i:Nat} {x:PV} (hx:xs[i]?=some x):∃ v,vs[i]?=some v/\Aw w I lp L x v:=by
 induction xs generalizing vs i with
 | nil=>simp at hx
 | cons y xs ih =>
  cases h with
  | cons _ v _ vs h hs =>
   cases i with
   | zero=>simp at hx;subst hx;exact⟨v,rfl,h⟩
   | succ i=>simp at hx |-;exact ih hs hx
theorem Aq.append {xs ys:List PV} {vs us:List Value} (h:Aq w I lp L xs vs) (h':Aq w I lp L ys us):Aq w I lp L (xs++ys) (vs++us):=by
 induction xs generalizing vs with
 | nil=>cases h;exact h'
 | cons x xs ih=>cases h with | cons _ v _ vs h hs=>exact .cons _ _ _ _ h (ih hs)
theorem Aq.take {xs:List PV} {vs:List Value} (h:Aq w I lp L xs vs) (n:Nat):Aq w I lp L (xs.take n) (vs.take n):=by
 induction xs generalizing vs n with
 | nil=>cases h;simp;exact .nil
 | cons x xs ih =>
  cases h with
  | cons _ v _ vs h hs =>
   cases n with
   | zero=>exact .nil
   | succ n=>exact .cons _ _ _ _ h (ih hs n)
theorem Aq.drop {xs:List PV} {vs:List Value} (h:Aq w I lp L xs vs) (n:Nat):Aq w I lp L (xs.drop n) (vs.drop n):=by
 induction xs generalizing vs n with
 | nil=>cases h;simp;exact .nil
 | cons x xs ih =>
  cases h with
  | cons _ v _ vs h hs =>
   cases n with
   | zero=>exact .cons _ _ _ _ h hs
   | succ n=>exact ih hs n
theorem Aq.set {xs:List PV} {vs:List Value} (h:Aq w I lp L xs vs) (i:Nat) {x:PV} {v:Value} (hx:Aw w I lp L x v):Aq w I lp L (xs.set i x) (vs.set i v):=by
 induction xs generalizing vs i with
 | nil=>cases h;exact .nil
 | cons y xs ih =>
  cases h with
  | cons _ u _ vs h hs =>
   cases i with
   | zero=>exact .cons _ _ _ _ hx hs
   | succ i=>exact .cons _ _ _ _ h (ih hs i)
theorem Aq.split {xs ys:List PV} {vs:List Value} (h:Aq w I lp L (xs++ys) vs):∃ us ts,vs=us++ts/\Aq w I lp L xs us/\Aq w I lp L ys ts:=by
 induction xs generalizing vs with
 | nil=>exact⟨[],vs,rfl,.nil,h⟩
 | cons x xs ih =>
  cases h with
  | cons _ v _ vs h hs =>
   obtain⟨us,ts,rfl,h1,h2⟩:=ih hs;exact⟨v :: us,ts,rfl,.cons _ _ _ _ h h1,h2⟩
theorem Aq.undefs (n:Nat) (vs:List Value) (h:vs.length=n):Aq w I lp L (List.replicate n .undef) vs:=by
 induction n generalizing vs with
 | zero=>cases vs with | nil=>exact .nil | cons v vs=>simp at h
 | succ n ih=>cases vs with | nil=>simp at h | cons v vs=>exact .cons _ _ _ _ (.undef v) (ih vs (by simpa using h))
theorem Aq.getD {xs:List PV} {vs:List Value} (h:Aq w I lp L xs vs) (i:Nat) (d:Value):Aw w I lp L (xs.getD i .undef) (vs.getD i d):=by
 cases hx:xs[i]? with
 | none=>rw[Z9,hx];exact .undef _
 | some x =>
  obtain⟨v,hv,hr⟩:=h.get hx;rw[Z9,Z9,hx,hv];exact hr
theorem Aw.cells {x:PV} {v:Value} (h:Aw w I lp L x v) (hu:x.isVal=true):Bo v.cells.toList/\Aq w I lp L x.cells v.cells.toList:=by
 cases h<;>first
  |(simp[PV.isVal] at hu;done)
  |(simp only[PV.cells,Value.cells];exact⟨by simp[Bo,Value.oneCell'],.cons _ _ _ _ (by constructor<;>assumption) .nil⟩)
  |(simp only[PV.cells,Value.cells];exact⟨by assumption,by assumption⟩)
theorem Kq (xs ys:List PV):cellsL (xs++ys)=cellsL xs++cellsL ys:=by
 induction xs with
 | nil=>rfl
 | cons x xs ih=>simp[cellsL,ih]
theorem Kp {k:Nat} {xs:List PV} (h:∀ x∈xs,x.cells.length=k):(cellsL xs).length=xs.length*k:=by
 induction xs with
 | nil=>simp[cellsL]
 | cons x xs ih =>
  simp only[cellsL,aF,be,h x (by simp),ih fun y hy=>h y (by simp[hy])];rw[au,bG,Nat.add_comm]
theorem LD {k:Nat} {xs:List PV} (h:∀ x∈xs,x.cells.length=k) (i:Nat):cellsL (xs.drop i)=(cellsL xs).drop (i*k):=by
 induction xs generalizing i with
 | nil=>simp[cellsL]
 | cons x xs ih =>
  cases i with
  | zero=>simp
  | succ i =>
   simp only[List.drop_succ_cons,cellsL];have hx:=h x (by simp);rw[ih (fun y hy=>h y (by simp[hy])) i,show (i+1)*k=x.cells.length+i*k from by rw[au,bG,Nat.add_comm,hx],<-bQ,List.drop_left]
theorem Jh {k:Nat} {xs:List PV} (h:∀ x∈xs,x.cells.length=k) (i:Nat):cellsL (xs.take i)=(cellsL xs).take (i*k):=by
 induction xs generalizing i with
 | nil=>simp[cellsL]
 | cons x xs ih =>
  cases i with
  | zero=>simp[cellsL]
  | succ i =>
   simp only[List.take_succ_cons,cellsL];rw[ih (fun y hy=>h y (by simp[hy])) i,cL];have hx:=h x (by simp);rw[show (i+1)*k=k+i*k from by rw[au,bG,Nat.add_comm],av (l:=x.cells) (by omega),hx,bY]
theorem RR {k:Nat} {xs:List PV} (h:∀ x∈xs,x.cells.length=k) {i:Nat} {x:PV} (hx:xs[i]?=some x):((cellsL xs).drop (i*k)).take k=x.cells:=by
 rw[<-LD h]
 have hd:xs.drop i=x :: xs.drop (i+1):=by
  obtain⟨hi,rfl⟩:=ac.1 hx;exact ch hi
 rw[hd,cellsL,cL,av (by have:=h x (aj hx);omega)];have:=h x (aj hx);simp[this]
end lists
def Q2 (w:World) (I:Nat->Prop) (lp:Nat->Option Nat) (L:AF) (b C:Nat):Ob->Prop
 | .cells ty cs=>∃ c E,w.heap[b]?=some (.cells c E (0,0))/\c.size=C/\(Bo c.toList/\(ty=0\/E=ty))/\Aq w I lp (some L) cs c.toList
 | .arr k kt xs=>∃ c E,w.heap[b]?=some (.cells c E (0,0))/\c.size=C/\(xs.length*k<=C/\(kt=0\/E=kt))/\(∀ x∈xs,x.cells.length=k)/\Bo (c.toList.take (xs.length*k))/\Aq w I lp none (cellsL xs) (c.toList.take (xs.length*k))
 | .map es=>∃ ents clock,w.heap[b]?=some (.map ents clock)/\Aq w I lp none es (F9 ents.toList)
 | .siter s pos=>w.heap[b]?=some (.stringIter ⟨s.toArray⟩ pos)
def BF (w:World) (I:Nat->Prop) (lp:Nat->Option Nat) (L:AF) (ob:Ob):Option (Nat×Nat)->Prop
 | some (b,C)=>Q2 w I lp L b C ob
 | none=>∃ k kt,ob=.arr k kt []
theorem BF.mono {w w':World} {I I':Nat->Prop} {lp lp':Nat->Option Nat} {L:AF} {p:Option (Nat×Nat)} {ob:Ob} (h:BF w I lp L ob p)
  (hI:∀ b,I b->I' b) (hb:∀ b,I b->w'.heap[b]?=w.heap[b]?) (hl:lpLe lp lp') (hw:∀ b C,p=some (b,C)->w'.heap[b]?=w.heap[b]?):BF w' I' lp' L ob p:=by
 cases p with
 | none=>exact h
 | some p =>
  obtain⟨b,C⟩:=p;have hw:=hw b C rfl;cases ob with
  | cells ty cs=>obtain⟨c,E,h1,h2,h4,h3⟩:=h;exact⟨c,E,hw.trans h1,h2,h4,Aq.mono hI hb hl h3⟩
  | arr k kt xs=>obtain⟨c,E,h1,h2,h3,h4,h6,h5⟩:=h;exact⟨c,E,hw.trans h1,h2,h3,h4,h6,Aq.mono hI hb hl h5⟩
  | map es=>obtain⟨c,E,h1,h2⟩:=h;exact⟨c,E,hw.trans h1,Aq.mono hI hb hl h2⟩
  | siter s pos=>exact hw.trans h
theorem BF.reloc {w:World} {I:Nat->Prop} {lp:Nat->Option Nat} {L L':AF} {p:Option (Nat×Nat)} {ob:Ob} (h:BF w I lp L ob p) (hL:MT L L'):BF w I lp L' ob p:=by
 cases p with
 | none=>exact h
 | some p =>
  cases ob with
  | cells ty cs=>obtain⟨c,E,h1,h2,h4,h3⟩:=h;exact⟨c,E,h1,h2,h4,h3.reloc hL⟩
  | arr k kt xs=>exact h
  | map es=>exact h
  | siter s pos=>exact h
def Tv (w:World) (I:Nat->Prop) (lp:Nat->Option Nat) (b:Nat):Ob->Prop
 | .cells _ cs=>I b/\∃ c E fr,w.heap[b]?=some (.cells c E fr)/\cs.length<=c.size/\Bo (c.toList.take cs.length)/\Aq w I lp none cs (c.toList.take cs.length)
 | .arr k kt xs=>I b/\∃ c E fr,w.heap[b]?=some (.cells c E fr)/\xs.length*k<=c.size/\(∀ x∈xs,x.cells.length=k)/\Bo (c.toList.take (xs.length*k))/\Aq w I lp none (cellsL xs) (c.toList.take (xs.length*k))
 | .map es=>I b/\∃ ents clock,w.heap[b]?=some (.map ents clock)/\Aq w I lp none es (F9 ents.toList)
 | .siter _ _=>True
def EE (w:World) (I':Nat->Prop) (lp:Nat->Option Nat) (L:AF) (L':Option AF) (S:Nm->Prop) (f:Nm->Option (Option Ob)):Prop :=
 ∀ nm p,S nm->L nm=some p->match f nm with
  | none=>∃ M,L'=some M/\M nm=some p
  | some none=>True
  | some (some ob)=>match p with
   | some (b,_)=>Tv w I' lp b ob
   | none=>∃ k kt,ob=.arr k kt []
section sub
variable {w:World} {I I':Nat->Prop} {lp:Nat->Option Nat} {L:AF} {L':Option AF} {S:Nm->Prop} {f:Nm->Option (Option Ob)}
theorem sub_ref (hs:EE w I' lp L L' S f) (nm:Nm) (hS:S nm) (o b C:Nat) (h:L nm=some (some (b,C))) :
  Aw w I' lp L' ((PV.ref nm o).sub f) (.pointer (some ⟨b,o,none⟩)):=by
 have:=hs nm _ hS h;simp only[PV.sub];split at this;·rename_i hf;obtain⟨M,rfl,hM⟩:=this;rw[hf];exact .ref nm o b C hM
 ·rename_i hf;rw[hf];exact .undef _
 ·rename_i ob hf;rw[hf];cases ob with
  | cells ty cs =>
   obtain⟨hi,c,E,fr,h1,h2,h5,h3⟩:=this;simp only
   split
   ·rename_i ho;have:=Aw.ptr (w:=w) (I:=I') (lp:=lp) (L:=L') cs o b 0 c E fr hi h1 (by omega) ho (by simpa using h5) (by simpa using h3);simpa using this
   ·exact .undef _
  | arr k kt xs=>exact .undef _
  | map es=>exact .undef _
  | siter s p=>exact .undef _
theorem sub_aref (hs:EE w I' lp L L' S f) (nm:Nm) (hS:S nm) (k i o b C:Nat) (h:L nm=some (some (b,C))) :
  Aw w I' lp L' ((PV.aref nm k i o).sub f) (.pointer (some ⟨b,i*k+o,none⟩)):=by
 have:=hs nm _ hS h;simp only[PV.sub];split at this;·rename_i hf;obtain⟨M,rfl,hM⟩:=this;rw[hf];exact .aref nm k i o b C hM
 ·rename_i hf;rw[hf];exact .undef _
 ·rename_i ob hf;rw[hf];cases ob with
  | arr k' kt xs =>
   obtain⟨hi,c,E,fr,h1,h2,h3,h5,h4⟩:=this;simp only
   split
   ·rename_i hk;subst hk;split
    ·rename_i x hx;split
     ·rename_i ho;have hkx:=h3 x (aj hx);have hlt:=(ac.1 hx).1;have hle:(i+1)*k<=xs.length*k:=aS _ hlt;rw[au,bG] at hle
      have e:((c.toList.take (xs.length*k)).drop (i*k)).take k=(c.toList.drop (i*k)).take k:=by
       rw[br,aW,aT (by omega)]
      refine Aw.ptr x.cells o b (i*k) c E fr hi h1 (by omega) ho ?_ ?_;·rw[hkx,<-e];exact (h5.drop' _).take' _
      ·have:=(h4.drop (i*k)).take k;rw[RR h3 hx] at this;rw[hkx]
       rwa [e] at this
     ·exact .undef _
    ·exact .undef _
   ·exact .undef _
  | cells ty cs=>exact .undef _
  | map es=>exact .undef _
  | siter s p=>exact .undef _
theorem sub_arr (hs:EE w I' lp L L' S f) (nm:Nm) (hS:S nm) (k o n cap b C:Nat) (h:L nm=some (some (b,C))) (hC:(o+cap)*k<=C) (hn:n<=cap) :
  Aw w I' lp L' ((PV.arr nm k o n).sub f) (.slice (some ⟨b,o*k,none⟩) n cap):=by
 have:=hs nm _ hS h;simp only[PV.sub];split at this;·rename_i hf;obtain⟨M,rfl,hM⟩:=this;rw[hf];exact .arr nm k o n cap b C hM hC hn
 ·rename_i hf;rw[hf];exact .undef _
 ·rename_i ob hf;rw[hf];cases ob with
  | arr k' kt xs =>
   obtain⟨hi,c,E,fr,h1,h2,h3,h5,h4⟩:=this;simp only
   split
   ·rename_i hk;obtain⟨rfl,hon⟩:=hk;have hlen:((xs.drop o).take n).length=n:=by simp;omega
    have hm:∀ x∈(xs.drop o).take n,x.cells.length=k:=fun x hx=>h3 x (bf (aQ hx));have hle:(o+n)*k<=xs.length*k:=aS _ hon;rw[au] at hle
    have e:((c.toList.take (xs.length*k)).drop (o*k)).take (n*k)=(c.toList.drop (o*k)).take (n*k):=by
     rw[br,aW,aT (by omega)]
    have key:=Aw.sl (w:=w) (I:=I') (lp:=lp) (L:=L') k ((xs.drop o).take n) false b (o*k) cap c E fr hi h1 (by rw[hlen];omega) hm (by rw[hlen];exact hn) (by simp) ?_ ?_
    ·rwa [hlen] at key
    ·rw[hlen,<-e];exact (h5.drop' _).take' _
    ·rw[hlen];have:=(h4.drop (o*k)).take (n*k);rw[<-LD h3,<-Jh (fun x hx=>h3 x (bf hx))] at this
     rwa [e] at this
   ·exact .undef _
  | cells ty cs=>exact .undef _
  | map es=>exact .undef _
  | siter s p=>exact .undef _
theorem sub_arrN (hs:EE w I' lp L L' S f) (nm:Nm) (hS:S nm) (k:Nat) (h:L nm=some none) :
  Aw w I' lp L' ((PV.arr nm k 0 0).sub f) (.slice none 0 0):=by
 have:=hs nm _ hS h;simp only[PV.sub];split at this;·rename_i hf;obtain⟨M,rfl,hM⟩:=this;rw[hf];exact .arrN nm k hM
 ·rename_i hf;rw[hf];exact .undef _
 ·rename_i ob hf;obtain⟨k',kt,rfl⟩:=this;rw[hf];simp only
  split
  ·rename_i hk;obtain⟨rfl,_⟩:=hk;simpa using Aw.slE k false none 0 (by simp)
  ·exact .undef _
theorem sub_mp (hs:EE w I' lp L L' S f) (nm:Nm) (hS:S nm) (b C:Nat) (h:L nm=some (some (b,C))):Aw w I' lp L' ((PV.mp nm).sub f) (.map (some b)):=by
 have:=hs nm _ hS h;simp only[PV.sub];split at this;·rename_i hf;obtain⟨M,rfl,hM⟩:=this;rw[hf];exact .mp nm b C hM
 ·rename_i hf;rw[hf];exact .undef _
 ·rename_i ob hf;rw[hf];cases ob with
  | map es=>obtain⟨hi,ents,clock,h1,h2⟩:=this;exact .imap es b ents clock hi h1 h2
  | cells ty cs=>exact .undef _
  | arr k kt xs=>exact .undef _
  | siter s p=>exact .undef _
theorem sub_it (hs:EE w I' lp L L' S f) (nm:Nm) (hS:S nm) (b C:Nat) (h:L nm=some (some (b,C))):Aw w I' lp L' ((PV.it nm).sub f) (.pointer (some ⟨b,0,none⟩)):=by
 have:=hs nm _ hS h;simp only[PV.sub];split at this;·rename_i hf;obtain⟨M,rfl,hM⟩:=this;rw[hf];exact .it nm b C hM
 ·rename_i hf;rw[hf];exact .undef _
 ·rename_i ob hf;rw[hf];exact .undef _
mutual
theorem Aw.subst (hI:∀ b,I b->I' b) (hs:EE w I' lp L L' S f) {x:PV} {v:Value}:Aw w I lp (some L) x v->(∀ nm∈x.names,S nm)->Aw w I' lp L' (x.sub f) v
 | .undef v,_=>.undef v
 | .bool b,_=>.bool b
 | .int k n,_=>.int k n
 | .str s,_=>.str s
 | .nilS,_=>.nilS
 | .nilP,_=>.nilP
 | .nilF,_=>.nilF
 | .nilI,_=>.nilI
 | .nilM,_=>.nilM
 | .slE k full a cap hf,_=>.slE k full a cap hf
 | .sl k xs full b off cap c E fr h1 h2 h3 h4 h5 h6 h8 h7,_=>.sl k xs full b off cap c E fr (hI b h1) h2 h3 h4 h5 h6 h8 (Aq.mono hI (fun _ _=>rfl) (fun _ _ h=>h) h7)
 | .ptr cs o b off c E fr h1 h2 h3 h4 h8 h5,_=>.ptr cs o b off c E fr (hI b h1) h2 h3 h4 h8 (Aq.mono hI (fun _ _=>rfl) (fun _ _ h=>h) h5)
 | .agg cs vs h1 h,e=>.agg _ vs h1 (Aq.subst hI hs h fun nm hn=>e nm (by simpa[PV.names] using hn))
 | .iface t x v h,e=>.iface t _ v (Aw.subst hI hs h fun nm hn=>e nm (by simpa[PV.names] using hn))
 | .fn g cs us vs hk h,e=>.fn g _ us vs hk (Aq.subst hI hs h fun nm hn=>e nm (by simpa[PV.names] using hn))
 | .yld d l h,_=>.yld d l h
 | .tup xs vs h,e=>.tup _ vs (Aq.subst hI hs h fun nm hn=>e nm (by simpa[PV.names] using hn))
 | .imap es r ents clock h1 h2 h3,_=>.imap es r ents clock (hI r h1) h2 (Aq.mono hI (fun _ _=>rfl) (fun _ _ h=>h) h3)
 | .glob g t x c E fr h1 h2 h3,_=>.glob g t x c E fr (hI g h1) h2 h3
 | .ref nm o b C h,e=>sub_ref hs nm (e nm (by simp[PV.names])) o b C h
 | .aref nm k i o b C h,e=>sub_aref hs nm (e nm (by simp[PV.names])) k i o b C h
 | .arr nm k o n cap b C h hC hn,e=>sub_arr hs nm (e nm (by simp[PV.names])) k o n cap b C h hC hn
 | .arrN nm k h,e=>sub_arrN hs nm (e nm (by simp[PV.names])) k h
 | .mp nm b C h,e=>sub_mp hs nm (e nm (by simp[PV.names])) b C h
 | .it nm b C h,e=>sub_it hs nm (e nm (by simp[PV.names])) b C h
theorem Aq.subst (hI:∀ b,I b->I' b) (hs:EE w I' lp L L' S f) {xs:List PV} {vs:List Value}:Aq w I lp (some L) xs vs->(∀ nm∈AR xs,S nm)->Aq w I' lp L' (A2 f xs) vs
 | .nil,_=>.nil
 | .cons x v xs vs h h',e=>.cons _ v _ vs (Aw.subst hI hs h fun nm hn=>e nm (ak _ hn)) (Aq.subst hI hs h' fun nm hn=>e nm (aw _ hn))
end
end sub
section ren
variable {w:World} {I:Nat->Prop} {lp:Nat->Option Nat} {L L':AF} {f:Nm->Nm}
mutual
theorem Aw.rename (hf:∀ nm p,L nm=some p->L' (f nm)=some p) {x:PV} {v:Value}:Aw w I lp (some L) x v->Aw w I lp (some L') (x.ren f) v
 | .undef v=>.undef v
 | .bool b=>.bool b
 | .int k n=>.int k n
 | .str s=>.str s
 | .nilS=>.nilS
 | .nilP=>.nilP
 | .nilF=>.nilF
 | .nilI=>.nilI
 | .nilM=>.nilM
 | .slE k full a cap hf=>.slE k full a cap hf
 | .sl k xs full b off cap c E fr h1 h2 h3 h4 h5 h6 h8 h7=>.sl k xs full b off cap c E fr h1 h2 h3 h4 h5 h6 h8 h7
 | .ptr cs o b off c E fr h1 h2 h3 h4 h8 h5=>.ptr cs o b off c E fr h1 h2 h3 h4 h8 h5
 | .agg cs vs h1 h=>.agg _ vs h1 (Aq.rename hf h)
 | .iface t x v h=>.iface t _ v (Aw.rename hf h)
 | .fn g cs us vs hk h=>.fn g _ us vs hk (Aq.rename hf h)
 | .yld d l h=>.yld d l h
 | .tup xs vs h=>.tup _ vs (Aq.rename hf h)
 | .imap es r ents clock h1 h2 h3=>.imap es r ents clock h1 h2 h3
 | .glob g t x c E fr h1 h2 h3=>.glob g t x c E fr h1 h2 h3
 | .ref nm o b C h=>.ref _ o b C (hf _ _ h)
 | .aref nm k i o b C h=>.aref _ k i o b C (hf _ _ h)
 | .arr nm k o n cap b C h hC hn=>.arr _ k o n cap b C (hf _ _ h) hC hn
 | .arrN nm k h=>.arrN _ k (hf _ _ h)
 | .mp nm b C h=>.mp _ b C (hf _ _ h)
 | .it nm b C h=>.it _ b C (hf _ _ h)
theorem Aq.rename (hf:∀ nm p,L nm=some p->L' (f nm)=some p) {xs:List PV} {vs:List Value}:Aq w I lp (some L) xs vs->Aq w I lp (some L') (Bs f xs) vs
 | .nil=>.nil
 | .cons x v xs vs h h'=>.cons _ v _ vs (Aw.rename hf h) (Aq.rename hf h')
end
end ren
end Go.Ab


namespace Go.Ab
theorem Fw (g:Ob->Ob) (σ:List (List Ob)) (nm:Nm):Ak (σ.map (·.map g)) nm=(Ak σ nm).map g:=by
 unfold Ak;rw[aa];cases σ[nm.1]? with
 | none=>rfl
 | some l=>simp
theorem Ko {σ:List (List Ob)} {nm:Nm} {ob:Ob} (o:Ob) (h:Ak σ nm=some ob):Ak (Bl σ nm o) nm=some o:=by
 unfold Ak at h;unfold Ak Bl;cases hl:σ[nm.1]? with
 | none=>rw[hl] at h;cases h
 | some l =>
  rw[hl] at h;have h1:=(ac.1 hl).1;have h2:=(ac.1 h).1;simp[h1,h2]
theorem Hz {σ:List (List Ob)} {nm m:Nm} (o:Ob) (h:m≠nm):Ak (Bl σ nm o) m=Ak σ m:=by
 unfold Ak Bl;cases hl:σ[nm.1]? with
 | none=>rfl
 | some l =>
  by_cases h1:m.1=nm.1
  ·have h2:m.2≠nm.2:=fun e=>h (Prod.ext h1 e);have hlt:=(ac.1 hl).1;rw[h1,hl,bH hlt];simp[aB (aH h2)]
  ·rw[aB (aH h1)]
theorem Jd {σ:List (List Ob)} {nm m:Nm} (o:Ob):Ak (Bl σ nm o) m=none↔Ak σ m=none:=by
 by_cases h:m=nm
 ·subst h;cases hl:Ak σ m with
  | some ob=>rw[Ko o hl];simp
  | none =>
   unfold Ak at hl;unfold Ak Bl;cases hs:σ[m.1]? with
   | none=>simp[hs]
   | some l =>
    rw[hs] at hl;have h1:=(ac.1 hs).1;simp[h1];exact aI.1 hl
 ·rw[Hz o h]
theorem G5 {σ:List (List Ob)} {d:Nat} (obs:List Ob) (hd:d < σ.length) (j:Nat):Ak (σ.set d obs) (d,j)=obs[j]?:=by
 unfold Ak;simp[hd]
theorem Gh {σ:List (List Ob)} {d:Nat} (obs:List Ob) {m:Nm} (h:m.1≠d):Ak (σ.set d obs) m=Ak σ m:=by
 unfold Ak;rw[aB (aH h)]
structure SR (lp:Nat->Option Nat) (I:Nat->Prop) (L:AF) (st:St) (tmv suf:List Value) (w:World):Prop where
 tm:Aq w I lp (some L) st.tmps tmv
 kp:Aq w I lp (some L) st.keep suf
 ob:∀ nm ob,Ak st.objs nm=some ob->∃ p,L nm=some p/\BF w I lp L ob p
 dom:∀ nm,Ak st.objs nm=none->L nm=none
section sr
variable {lp:Nat->Option Nat} {I I':Nat->Prop} {L L':AF} {st:St} {tmv suf:List Value} {w w':World}
theorem SR.keeps (h:SR lp I L st tmv suf w) (hI:∀ b,I b->I' b) (hb:∀ b,I b->w'.heap[b]?=w.heap[b]?)
  (ho:∀ nm b C,L nm=some (some (b,C))->w'.heap[b]?=w.heap[b]?):SR lp I' L st tmv suf w' where
 tm:=Aq.mono hI hb (fun _ _ h=>h) h.tm
 kp:=Aq.mono hI hb (fun _ _ h=>h) h.kp
 ob nm ob hl:=by
  obtain⟨p,hp,ha⟩:=h.ob nm ob hl;exact⟨p,hp,ha.mono hI hb (fun _ _ h=>h) fun b C e=>ho nm b C (by rw[hp,e])⟩
 dom:=h.dom
theorem SR.put (h:SR lp I L st tmv suf w) (d:Nat) {v:PV} {v':Value} (hv:Aw w I lp (some L) v v'):SR lp I L {st with tmps:=st.tmps.set d v} (tmv.set d v') suf w :=
 {h with tm:=h.tm.set d hv}
def Cr (L:AF) (d:Nat) (ps:List (Option (Nat×Nat))):AF:=fun nm=>if nm.1=d then ps[nm.2]? else L nm
theorem SR.fresh (h:SR lp I L st tmv suf w) {d:Nat} (hd:st.objs[d]?=some []) (ps:List (Option (Nat×Nat))):MT L (Cr L d ps):=by
 intro nm p hp;unfold Cr;split
 ·rename_i hn;exfalso;have:=h.dom nm (by unfold Ak;rw[hn,hd];rfl);rw[hp] at this;cases this
 ·exact hp
theorem SR.news (h:SR lp I L st tmv suf w) {d:Nat} (hd:st.objs[d]?=some []) (obs:List Ob) (ps:List (Option (Nat×Nat))) (hl:ps.length=obs.length)
  (hob:∀ (j:Nat) (ob:Ob) (p:Option (Nat×Nat)),obs[j]?=some ob->ps[j]?=some p->BF w I lp (Cr L d ps) ob p) :
  SR lp I (Cr L d ps) {st with objs:=st.objs.set d obs} tmv suf w where
 tm:=h.tm.reloc (h.fresh hd ps)
 kp:=h.kp.reloc (h.fresh hd ps)
 ob nm ob hlk:=by
  by_cases hn:nm.1=d
  ·obtain⟨a,j⟩:=nm;simp only at hn;subst hn;simp only at hlk;rw[G5 obs (ac.1 hd).1] at hlk;have hj:=(ac.1 hlk).1;refine⟨ps[j]'(by omega),by simp[Cr,hl,hj],hob j ob _ hlk (by simp[hl,hj])⟩
  ·simp only at hlk;rw[Gh obs hn] at hlk;obtain⟨p,hp,ha⟩:=h.ob nm ob hlk;exact⟨p,by simp[Cr,hn,hp],ha.reloc (h.fresh hd ps)⟩
 dom nm hlk:=by
  by_cases hn:nm.1=d
  ·obtain⟨a,j⟩:=nm;simp only at hn;subst hn;simp only at hlk;rw[G5 obs (ac.1 hd).1] at hlk;have:=aI.1 hlk;simp only[Cr,if_true];exact aI.2 (by omega)
  ·simp only at hlk;rw[Gh obs hn] at hlk;simp only[Cr,hn,if_false];exact h.dom nm hlk
theorem SR.upd (h:SR lp I L st tmv suf w) {nm:Nm} {ob':Ob} {p:Option (Nat×Nat)} (hp:L nm=some p) (hb:∀ b,I b->w'.heap[b]?=w.heap[b]?)
  (ho:∀ m b C,m≠nm->L m=some (some (b,C))->w'.heap[b]?=w.heap[b]?) (hob:BF w' I lp L ob' p) :
  SR lp I L {st with objs:=Bl st.objs nm ob'} tmv suf w' where
 tm:=Aq.mono (fun _ h=>h) hb (fun _ _ h=>h) h.tm
 kp:=Aq.mono (fun _ h=>h) hb (fun _ _ h=>h) h.kp
 ob m ob hl:=by
  simp only at hl;by_cases hm:m=nm
  ·subst hm
   have hsome:∃ o,Ak st.objs m=some o:=by
    cases hk:Ak st.objs m with
    | some o=>exact⟨o,rfl⟩
    | none=>have:=h.dom m hk;rw[hp] at this;cases this
   obtain⟨o,hk⟩:=hsome;rw[Ko ob' hk] at hl;cases hl;exact⟨p,hp,hob⟩
  ·rw[Hz ob' hm] at hl;obtain⟨q,hq,ha⟩:=h.ob m ob hl;exact⟨q,hq,ha.mono (fun _ h=>h) hb (fun _ _ h=>h) fun b C e=>ho m b C hm (by rw[hq,e])⟩
 dom m hl:=by
  simp only at hl;exact h.dom m ((Jd ob').1 hl)
theorem BF.subst {S:Nm->Prop} {f:Nm->Option (Option Ob)} {ob:Ob} {p:Option (Nat×Nat)} (h:BF w I lp L ob p) (hI:∀ b,I b->I' b) (hb:∀ b,I b->w'.heap[b]?=w.heap[b]?)
  (hs:EE w' I' lp L (some L') S f) (hn:∀ nm∈ob.names,S nm) (hw:∀ b C,p=some (b,C)->w'.heap[b]?=w.heap[b]?):BF w' I' lp L' (ob.sub f) p:=by
 cases p with
 | none=>obtain⟨k,kt,rfl⟩:=h;exact⟨k,kt,rfl⟩
 | some p =>
  obtain⟨b,C⟩:=p;have hw:=hw b C rfl;cases ob with
  | cells ty cs =>
   obtain⟨c,E,h1,h2,h4,h3⟩:=h;exact⟨c,E,hw.trans h1,h2,h4,Aq.subst hI hs (Aq.mono (fun _ h=>h) hb (fun _ _ h=>h) h3) hn⟩
  | arr k kt xs=>obtain⟨c,E,h1,h2,h3,h4,h6,h5⟩:=h;exact⟨c,E,hw.trans h1,h2,h3,h4,h6,Aq.mono hI hb (fun _ _ h=>h) h5⟩
  | map es=>obtain⟨c,E,h1,h2⟩:=h;exact⟨c,E,hw.trans h1,Aq.mono hI hb (fun _ _ h=>h) h2⟩
  | siter s pos=>exact hw.trans h
theorem SR.subst (h:SR lp I L st tmv suf w) {f:Nm->Option (Option Ob)} {objs':List (List Ob)} (hI:∀ b,I b->I' b) (hb:∀ b,I b->w'.heap[b]?=w.heap[b]?)
  (hs:EE w' I' lp L (some L') (fun _=>True) f)
  (hob:∀ nm ob,Ak objs' nm=some ob->∃ p,L' nm=some p/\BF w' I' lp L' ob p) (hdom:∀ nm,Ak objs' nm=none->L' nm=none) :
  SR lp I' L' {tmps:=A2 f st.tmps,objs:=objs',keep:=A2 f st.keep} tmv suf w' where
 tm:=Aq.subst hI hs (Aq.mono (fun _ h=>h) hb (fun _ _ h=>h) h.tm) fun _ _=>trivial
 kp:=Aq.subst hI hs (Aq.mono (fun _ h=>h) hb (fun _ _ h=>h) h.kp) fun _ _=>trivial
 ob:=hob
 dom:=hdom
theorem SR.regrow (h:SR lp I L st tmv suf w) {nm:Nm} {k kt:Nat} {xs:List PV} {p p':Option (Nat×Nat)} (hp:L nm=some p) (hb:∀ b,I b->w'.heap[b]?=w.heap[b]?)
  (ho:∀ m b C,m≠nm->L m=some (some (b,C))->w'.heap[b]?=w.heap[b]?)
  (hob:BF w' I lp (fun m=>if m=nm then some p' else L m) (.arr k kt xs) p') :
  SR lp I (fun m=>if m=nm then some p' else L m) (D7 (fun m=>if m=nm then some none else none) {st with objs:=Bl st.objs nm (.arr k kt xs)}) tmv suf w':=by
 have hs:EE w' I lp L (some fun m=>if m=nm then some p' else L m) (fun _=>True) (fun m=>if m=nm then some none else none):=by
  intro m q _ hq;by_cases hm:m=nm
  ·simp[hm]
  ·simp[hm,hq]
 obtain⟨o,hk⟩:∃ o,Ak st.objs nm=some o:=by
  cases hk:Ak st.objs nm with
  | some o=>exact⟨o,rfl⟩
  | none=>have:=h.dom nm hk;rw[hp] at this;cases this
 refine h.subst (fun _ h=>h) hb hs ?_ ?_
 ·intro m ob hl;simp only[Fw,Z3] at hl;obtain⟨ob0,hl,rfl⟩:=hl;by_cases hm:m=nm
  ·subst hm;rw[Ko _ hk] at hl;cases hl;exact⟨p',by simp,hob⟩
  ·rw[Hz _ hm] at hl;obtain⟨q,hq,ha⟩:=h.ob m ob0 hl;exact⟨q,by simp[hm,hq],ha.subst (fun _ h=>h) hb hs (fun _ _=>trivial) fun b C e=>ho m b C hm (by rw[hq,e])⟩
 ·intro m hl;simp only[Fw,Option.map_eq_none_iff] at hl;have hl':=(Jd _).1 hl;by_cases hm:m=nm
  ·subst hm;rw[hk] at hl';cases hl'
  ·simp[hm,h.dom m hl']
end sr
structure Cf (I F:Nat->Prop) (w:World) (I' F':Nat->Prop) (w':World):Prop where
 os:w'.os=w.os
 tape:w'.tape=w.tape
 output:w'.output=w.output
 size:w.heap.size<=w'.heap.size
 keep:∀ b,b < w.heap.size->¬ F b->w'.heap[b]?=w.heap[b]?
 subI:∀ b,I b->I' b
 newI:∀ b,I' b->I b\/F b\/w.heap.size<=b
 newF:∀ b,F' b->F b\/w.heap.size<=b
theorem Cf.refl (I F:Nat->Prop) (w:World):Cf I F w I F w:=⟨rfl,rfl,rfl,Z5 _,fun _ _ _=>rfl,fun _ h=>h,fun _ h=>.inl h,fun _ h=>.inl h⟩
theorem Cf.trans {I F I' F' I'' F'':Nat->Prop} {w w' w'':World} (h:Cf I F w I' F' w') (h':Cf I' F' w' I'' F'' w''):Cf I F w I'' F'' w'' where
 os:=h'.os.trans h.os
 tape:=h'.tape.trans h.tape
 output:=h'.output.trans h.output
 size:=ci h.size h'.size
 keep b hb hF:=(h'.keep b (bh hb h.size) fun hf=>(h.newF b hf).elim hF fun h1=>by omega).trans (h.keep b hb hF)
 subI b hb:=h'.subI b (h.subI b hb)
 newI b hb:=by
  rcases h'.newI b hb with h1 | h1 | h1;·exact h.newI b h1
  ·exact .inr (h.newF b h1)
  ·exact .inr (.inr (ci h.size h1))
 newF b hb:=(h'.newF b hb).elim (h.newF b) fun h1=>.inr (ci h.size h1)
structure IF (I F:Nat->Prop) (w:World):Prop where
 iB:∀ b,I b->b < w.heap.size
 fB:∀ b,F b->b < w.heap.size/\¬ I b
theorem Cf.sameI {I F I' F':Nat->Prop} {w w':World} (h:Cf I F w I' F' w') (hi:IF I F w) (b:Nat) (hb:I b):w'.heap[b]?=w.heap[b]? :=
 h.keep b (hi.iB b hb) fun hf=>(hi.fB b hf).2 hb
structure Cx where
 P:Program
 mixed:P.follows .mixedOrders=true
 G:Fb
 Wd:(Nat->Prop)->World->Prop
 stab:∀ (I I':Nat->Prop) (w w':World),Wd I w->(∀ b,I b->I' b)->(∀ b,I b->w'.heap[b]?=w.heap[b]?)->w.heap.size<=w'.heap.size->Wd I' w'
 gl:∀ (I:Nat->Prop) (w:World) (g:Nat) (cs:List PV),Wd I w->G g=some cs->∀ lp L,Aw w I lp L (.ptr cs 0) (.pointer (some ⟨g,0,none⟩))
structure BV (E:Type) where
 rel:E->(Nat->Prop)->(Nat->Prop)->World->Prop
 stab:∀ (e:E) (I I' F:Nat->Prop) (w w':World),rel e I F w->(∀ b,I b->I' b)->(∀ b,I b\/F b->w'.heap[b]?=w.heap[b]?)->w.heap.size<=w'.heap.size->rel e I' F w'
structure B9 where
 own:Nat->Prop
 dfs:List Deferred:=[]
instance:CoeFun B9 fun _=>Nat->Prop:=⟨B9.own⟩
inductive DC (lo:Nat) (I F:Nat->Prop) (L:AF) (w:World):List Deferred->List Deferred->Prop
 | nil:DC lo I F L w [] []
 | cons (D:Nat) (ds rs:List Deferred) (h1:lo<=D) (h2:D < w.heap.size) (h3:¬ I D) (h4:¬ F D) (h5:∀ nm C,L nm≠some (some (D,C)))
   (h6:w.heap[D]?=some (.deferred (some []))) (h7:∀ d∈ds,d.target≠.collected D) (h:DC lo I F L w ds rs):DC lo I F L w ({target:=.collected D,args:=#[]} :: ds) rs
 | call (d:Deferred) (ds rs:List Deferred) (hd:∀ D,d.target≠.collected D) (h:DC lo I F L w ds rs):DC lo I F L w (d :: ds) (d :: rs)
structure Fr {E:Type} (cx:Cx) (w0:World) (I0 F0:Nat->Prop) (O0:B9) (Hd:Nat->Option Obj) (R:BV E) (e:E) (ds:List Deferred) (I F:Nat->Prop) (L:AF) (w:World):Prop where
 ext:Cf I0 F0 w0 I F w
 sep:IF I F w
 oF:∀ b,O0 b->F0 b
 lB:∀ nm b C,L nm=some (some (b,C))->(w0.heap.size<=b\/O0 b)/\b < w.heap.size/\¬ I b/\¬ F b
 inj:∀ nm nm' b C C',L nm=some (some (b,C))->L nm'=some (some (b,C'))->nm=nm'
 wd:cx.Wd I w
 re:R.rel e I F w
 mks:DC w0.heap.size I F L w ds O0.dfs
 hld:∀ b ob,Hd b=some ob->b < w.heap.size/\¬ I b/\¬ F b/\(∀ nm C,L nm≠some (some (b,C)))/\w.heap[b]?=some ob
theorem DC.move {lo:Nat} {I F I' F':Nat->Prop} {L L':AF} {w w':World} {ds rs:List Deferred} (h:DC lo I F L w ds rs) (hs:w.heap.size<=w'.heap.size)
  (hk:∀ D,D < w.heap.size->lo<=D->¬ I D->¬ F D->(∀ nm C,L nm≠some (some (D,C)))->w'.heap[D]?=w.heap[D]?/\¬ I' D/\¬ F' D/\(∀ nm C,L' nm≠some (some (D,C)))):DC lo I' F' L' w' ds rs:=by
 induction h with
 | nil=>exact .nil
 | cons D ds rs h1 h2 h3 h4 h5 h6 h7 _ ih =>
  obtain⟨a,b,c,d⟩:=hk D h2 h1 h3 h4 h5;exact .cons D ds rs h1 (bh h2 hs) b c d (a.trans h6) h7 ih
 | call d ds rs hd _ ih=>exact .call d ds rs hd ih
section fr
variable {E:Type} {cx:Cx} {w0:World} {I0 F0:Nat->Prop} {O0:B9} {Hd:Nat->Option Obj} {R:BV E} {e:E} {ds:List Deferred} {I F I':Nat->Prop} {L L':AF} {w w':World}
theorem Fr.sameI (h:Fr cx w0 I0 F0 O0 Hd R e ds I F L w) (hk:∀ b,b < w.heap.size->(∀ nm C,L nm≠some (some (b,C)))->w'.heap[b]?=w.heap[b]?) (b:Nat) (hb:I b):w'.heap[b]?=w.heap[b]? :=
 hk b (h.sep.iB b hb) fun nm C hL=>(h.lB nm b C hL).2.2.1 hb
theorem Fr.own (h:Fr cx w0 I0 F0 O0 Hd R e ds I F L w) (h1:w'.os=w.os) (h2:w'.tape=w.tape) (h3:w'.output=w.output) (h4:w.heap.size<=w'.heap.size)
  (hk:∀ b,b < w.heap.size->(∀ nm C,L nm≠some (some (b,C)))->w'.heap[b]?=w.heap[b]?) (hI:∀ b,I b->I' b)
  (hI':∀ b,I' b->I b\/(b < w'.heap.size/\(w.heap.size<=b\/∃ nm C,L nm=some (some (b,C)))))
  (hL:∀ nm b C,L' nm=some (some (b,C))->b < w'.heap.size/\¬ I' b/\(w.heap.size<=b\/∃ nm' C',L nm'=some (some (b,C'))))
  (hinj:∀ nm nm' b C C',L' nm=some (some (b,C))->L' nm'=some (some (b,C'))->nm=nm'):Fr cx w0 I0 F0 O0 Hd R e ds I' F L' w' where
 ext:=by
  have hsz:=h.ext.size;refine⟨h1.trans h.ext.os,h2.trans h.ext.tape,h3.trans h.ext.output,ci hsz h4,fun b hb hf=>?_,fun b hb=>hI b (h.ext.subI b hb),fun b hb=>?_,h.ext.newF⟩;·exact (hk b (by omega) fun nm C hn=>(h.lB nm b C hn).1.elim (fun h1=>by omega) (fun ho=>hf (h.oF b ho))).trans (h.ext.keep b hb hf)
  ·rcases hI' b hb with h5 | ⟨_,h5 | ⟨nm,C,h5⟩⟩;·exact h.ext.newI b h5
   ·exact .inr (.inr (by omega))
   ·exact .inr ((h.lB nm b C h5).1.elim .inr fun ho=>.inl (h.oF b ho))
 sep:=⟨fun b hb=>(hI' b hb).elim (fun h5=>bh (h.sep.iB b h5) h4) fun h5=>h5.1,
  fun b hb=>⟨bh (h.sep.fB b hb).1 h4,fun hi=>by
   rcases hI' b hi with h5 | ⟨_,h5 | ⟨nm,C,h5⟩⟩;·exact (h.sep.fB b hb).2 h5
   ·have:=(h.sep.fB b hb).1;omega
   ·exact (h.lB nm b C h5).2.2.2 hb⟩⟩
 oF:=h.oF
 lB nm b C hn:=by
  obtain⟨a1,a2,a3⟩:=hL nm b C hn;have hsz:=h.ext.size;refine⟨?_,a1,a2,?_⟩
  ·rcases a3 with a3 | ⟨nm',C',a3⟩;·exact .inl (by omega)
   ·exact (h.lB nm' b C' a3).1
  ·intro hf;rcases a3 with a3 | ⟨nm',C',a3⟩;·have:=(h.sep.fB b hf).1;omega
   ·exact (h.lB nm' b C' a3).2.2.2 hf
 inj:=hinj
 wd:=cx.stab I I' w w' h.wd hI (h.sameI hk) h4
 re:=R.stab e I I' F w w' h.re hI (fun b hb=>by
  rcases hb with hb | hb;·exact h.sameI hk b hb
  ·exact hk b (h.sep.fB b hb).1 fun nm C hn=>(h.lB nm b C hn).2.2.2 hb) h4
 mks:=h.mks.move h4 fun D d1 d2 d3 d4 d5=>⟨hk D d1 d5,fun hi=>by
   rcases hI' D hi with h5 | ⟨_,h5 | ⟨nm,C,h5⟩⟩;·exact d3 h5
   ·omega
   ·exact d5 nm C h5,d4,fun nm C hn=>by
   rcases (hL nm D C hn).2.2 with h5 | ⟨nm',C',h5⟩;·omega
   ·exact d5 nm' C' h5⟩
 hld b ob hb:=by
  obtain⟨d1,d2,d3,d4,d5⟩:=h.hld b ob hb;refine⟨by omega,fun hi=>?_,d3,fun nm C hn=>?_,(hk b d1 d4).trans d5⟩
  ·rcases hI' b hi with h5 | ⟨_,h5 | ⟨nm,C,h5⟩⟩;·exact d2 h5
   ·omega
   ·exact d4 nm C h5
  ·rcases (hL nm b C hn).2.2 with h5 | ⟨nm',C',h5⟩;·omega
   ·exact d4 nm' C' h5
end fr
end Go.Ab


namespace Go.Ab
theorem num_ge {b f:Nat} (n:Nat):Nat.blt (f+b*(n+1)) b=false:=by
 cases hq:Nat.blt (f+b*(n+1)) b with
 | false=>rfl
 | true =>
  have h1:=Nat.blt_eq.mp hq;have h2:=Nat.le_mul_of_pos_right b (Nat.succ_pos n);exact absurd (bh h1 (ci h2 (Nat.le_add_left _ f))) (Nat.lt_irrefl _)
theorem num_div {b f:Nat} (hb:f < b) (n:Nat):(f+b*(n+1)) / b=n+1:=by
 rw[Nat.add_mul_div_left _ _ (Nat.lt_of_le_of_lt (bR f) hb),Nat.div_eq_of_lt hb,az]
theorem num_mod {b f:Nat} (hb:f < b) (n:Nat):(f+b*(n+1))%b=f:=by
 rw[Nat.add_mul_mod_self_left,cC hb]
theorem fnK_ge {g:Nat} (h:Nat.blt g Df=false):Fu g=g / Df:=by unfold Fu;rw[h]
theorem fnId_ge {g:Nat} (h:Nat.blt g Df=false):AY g=g%Df:=by unfold AY;rw[h]
theorem fnNum_k {f:FuncId} (hb:Nat.blt f Df=true):∀ n,Fu (OB f n)=n
 | 0=>by simp[OB,Fu,hb]
 | n+1=>(fnK_ge (num_ge n)).trans (num_div (Nat.blt_eq.mp hb) n)
theorem fnNum_id {f:FuncId} (hb:Nat.blt f Df=true):∀ n,AY (OB f n)=f
 | 0=>by simp[OB,AY,hb]
 | n+1=>(fnId_ge (num_ge n)).trans (num_mod (Nat.blt_eq.mp hb) n)
theorem Rl {w:World} {I:Nat->Prop} {lp:Nat->Option Nat} {L:Option AF}:∀ (n:Nat) (v:Value) (x:PV),HF n v=some x->Aw w I lp L x v:=by
 intro n;induction n with
 | zero =>
  intro v x h;unfold HF at h;split at h<;>first | contradiction | (cases h;done) | (cases h;constructor)
 | succ n ih =>
  intro v x h;unfold HF at h;split at h<;>first | (cases h;constructor) | skip
  ·rename_i m cs e;cases e;split at h
   case isFalse=>cases h
   rename_i hone;simp only[Z3] at h;obtain⟨xs,hx,rfl⟩:=h;refine .agg xs cs (fun v hv=>an.1 hone v hv) ?_;clear hone;generalize cs.toList=l at hx;induction l generalizing xs with
   | nil=>simp at hx;subst hx;exact .nil
   | cons v l ihl =>
    rw[bi] at hx;simp only[cj,aX,cu,Z6] at hx;obtain⟨y,hy,ys,hys,rfl⟩:=hx;exact .cons _ _ _ _ (ih v y hy) (ihl ys hys)
  ·cases h
theorem SI {tmps:Array Value} (i:Nat):tmps.getD i undef=tmps.toList.getD i undef:=by
 simp[Z9]
section
variable {cx:Cx} {I:Nat->Prop} {L:AF} {st:St} {a:Act} {suf:List Value} {lp:Nat->Option Nat} {w:World}
theorem Bx (h:SR lp I L st a.tmps.toList suf w) (hw:cx.Wd I w) {x:Operand} {r:RX} (hx:rx cx.G x=some r):Aw w I lp (some L) (r.ev st.tmps) (a.eval x):=by
 cases x with
 | tmp t=>simp only[rx,Z6] at hx;subst hx;simp only[RX.ev,Act.eval,SI];exact h.tm.getD t undef
 | const v =>
  simp only[rx,Z3] at hx;obtain⟨y,hy,rfl⟩:=hx;exact Rl 3 v y hy
 | global g =>
  simp only[rx,Z3] at hx;obtain⟨cs,hc,rfl⟩:=hx;exact cx.gl I w g cs hw hc lp _
 | func f =>
  simp only[rx] at hx;split at hx
  case isFalse=>cases hx
  rename_i hb;simp only[Z6] at hx;subst hx
  have hr:Aw w I lp (some L) (.fn f []) (.func (.func f) #[] #[]):=by
   have:=Aw.fn (w:=w) (I:=I) (lp:=lp) (L:=some L) f [] #[] #[] (by simp[Fu,hb]) .nil
   rwa [show AY f=f by simp[AY,hb]] at this
  exact hr
theorem PQ (h:SR lp I L st a.tmps.toList suf w) (hw:cx.Wd I w):∀ {xs:List Operand} {rs:List RX},Es cx.G xs=some rs ->
  Aq w I lp (some L) (rs.map (RX.ev st.tmps)) (xs.map a.eval):=by
 intro xs;induction xs with
 | nil=>intro rs h;simp only[Es,Z6] at h;subst h;exact .nil
 | cons x xs ih =>
  intro rs hr;simp only[Es] at hr;split at hr
  ·rename_i y ys h1 h2;cases hr;exact .cons _ _ _ _ (Bx h hw h1) (ih h2)
  ·cases hr
end
structure Km (w w':World):Prop where
 heap:w'.heap=w.heap
 os:w'.os=w.os
 tape:w'.tape=w.tape
 output:w'.output=w.output
theorem Km.refl (w:World):Km w w:=⟨rfl,rfl,rfl,rfl⟩
theorem H8 (a:Act) (dst:Option Nat) (v:Value):(a.put dst v).tmps.toList=(match dst with | some d=>a.tmps.toList.set d v | none=>a.tmps.toList):=by
 cases dst<;>simp[Act.put]
section done
variable {E:Type} (cx:Cx) (w0:World) (I0 F0:Nat->Prop) (O0:B9) (Hd:Nat->Option Obj) (R:BV E) (e:E) (ds:List Deferred) (F:Nat->Prop) (lp:Nat->Option Nat) (suf:List Value)
def BA (o:Oper) (a:Act) (w:World) (st':St):Prop :=
 ∃ v' w' I' L',((execOp a.eval o).run cx.P w=.ok (.value v') w'\/((execOp a.eval o).run cx.P w=.ok .skip w'/\v'=undef)) /\
  SR lp I' L' st' (a.put o.dst v').tmps.toList suf w'/\Fr cx w0 I0 F0 O0 Hd R e ds I' F L' w'
end done
section lemmas
variable {E:Type} {cx:Cx} {w0:World} {I0 F0:Nat->Prop} {O0:B9} {Hd:Nat->Option Obj} {R:BV E} {e:E} {ds:List Deferred} {F:Nat->Prop} {lp:Nat->Option Nat} {suf:List Value}
variable {I:Nat->Prop} {L:AF} {st:St} {a:Act} {w:World} {o:Oper}
theorem Aw.same {L:Option AF} {x:PV} {v:Value} {w':World} (h:Aw w I lp L x v) (hs:Km w w'):Aw w' I lp L x v :=
 Aw.mono (fun _ h=>h) (fun _ _=>by rw[hs.heap]) (fun _ _ h=>h) h
theorem Fr.same (h:Fr cx w0 I0 F0 O0 Hd R e ds I F L w) {w':World} (hs:Km w w'):Fr cx w0 I0 F0 O0 Hd R e ds I F L w' :=
 h.own hs.os hs.tape hs.output (by rw[hs.heap];exact Z5 _) (fun b _ _=>by rw[hs.heap]) (fun _ h=>h) (fun _ h=>.inl h)
  (fun nm b C hn=>⟨by rw[hs.heap];exact (h.lB nm b C hn).2.1,(h.lB nm b C hn).2.2.1,.inr ⟨nm,C,hn⟩⟩) h.inj
theorem SR.same (h:SR lp I L st a.tmps.toList suf w) {w':World} (hs:Km w w'):SR lp I L st a.tmps.toList suf w' :=
 h.keeps (fun _ h=>h) (fun _ _=>by rw[hs.heap]) fun _ _ _ _=>by rw[hs.heap]
theorem SR.putO (h:SR lp I L st a.tmps.toList suf w) (dst:Option Nat) {v:PV} {v':Value} (hv:Aw w I lp (some L) v v') :
  SR lp I L (apply st dst {v}) (a.put dst v').tmps.toList suf w:=by
 rw[H8];cases dst with
 | none=>exact h
 | some d=>exact h.put d hv
theorem BP (hs:SR lp I L st a.tmps.toList suf w) (hf:Fr cx w0 I0 F0 O0 Hd R e ds I F L w) {v:PV} {v':Value} {w':World}
  (hr:(execOp a.eval o).run cx.P w=.ok (.value v') w') (hw:Km w w') (hv:Aw w I lp (some L) v v') :
  BA cx w0 I0 F0 O0 Hd R e ds F lp suf o a w (apply st o.dst {v}) :=
 ⟨v',w',I,L,.inl hr,(hs.same hw).putO o.dst (hv.same hw),hf.same hw⟩
theorem EJ (w:World) (ob:Obj) {b:Nat} (h:b < w.heap.size):(w.alloc ob).heap[b]?=w.heap[b]?:=heap_alloc_old w ob b h
theorem Fr.news (h:Fr cx w0 I0 F0 O0 Hd R e ds I F L w) {w':World} {d:Nat} (_hd:st.objs[d]?=some []) {ps:List (Option (Nat×Nat))}
  (h1:w'.os=w.os) (h2:w'.tape=w.tape) (h3:w'.output=w.output) (h4:w.heap.size<=w'.heap.size) (hk:∀ b,b < w.heap.size->w'.heap[b]?=w.heap[b]?)
  (hp:∀ (j b C:Nat),ps[j]?=some (some (b,C))->w.heap.size<=b/\b < w'.heap.size)
  (hi:∀ (j j' b C C':Nat),ps[j]?=some (some (b,C))->ps[j']?=some (some (b,C'))->j=j'):Fr cx w0 I0 F0 O0 Hd R e ds I F (Cr L d ps) w':=by
 refine h.own h1 h2 h3 h4 (fun b hb _=>hk b hb) (fun _ h=>h) (fun _ h=>.inl h) ?_ ?_
 ·intro nm b C hn;unfold Cr at hn;split at hn
  ·obtain⟨p1,p2⟩:=hp _ _ _ hn;exact⟨p2,fun hb=>by have:=h.sep.iB b hb;omega,.inl p1⟩
  ·have:=h.lB nm b C hn;exact⟨by omega,this.2.2.1,.inr ⟨nm,C,hn⟩⟩
 ·intro nm nm' b C C' hn hn';unfold Cr at hn hn';split at hn<;>split at hn'
  ·rename_i e1 e2;exact Prod.ext (e1.trans e2.symm) (hi _ _ _ _ _ hn hn')
  ·have:=hp _ _ _ hn;have:=h.lB nm' b C' hn';omega
  ·have:=hp _ _ _ hn';have:=h.lB nm b C hn;omega
  ·exact h.inj nm nm' b C C' hn hn'
theorem PC (hs:SR lp I L st a.tmps.toList suf w) (hf:Fr cx w0 I0 F0 O0 Hd R e ds I F L w) {d:Nat} (hd:o.dst=some d) (hc:st.objs[d]?=some [])
  {v:PV} {v':Value} {ob:Ob} {obj:Obj} {C:Nat} {w1:World} (hw:Km w w1) (hr:(execOp a.eval o).run cx.P w=.ok (.value v') (w1.alloc obj))
  (hob:∀ L',MT L L'->Q2 (w1.alloc obj) I lp L' w.heap.size C ob)
  (hv:∀ L':AF,L' (d,0)=some (some (w.heap.size,C))->Aw (w1.alloc obj) I lp (some L') v v') :
  BA cx w0 I0 F0 O0 Hd R e ds F lp suf o a w (apply st o.dst {v,new:=[ob]}):=by
 have hsz:w1.heap.size=w.heap.size:=by rw[hw.heap]
 have hk:∀ b,b < w.heap.size->(w1.alloc obj).heap[b]?=w.heap[b]?:=fun b hb=>by rw[EJ w1 obj (by omega),hw.heap]
 have hk2:SR lp I L st a.tmps.toList suf (w1.alloc obj):=hs.keeps (fun _ h=>h) (fun b hb=>hk b (hf.sep.iB b hb)) fun nm b C hn=>hk b (hf.lB nm b C hn).2.1
 have hn:=hk2.news hc [ob] [some (w.heap.size,C)] rfl (by
  intro j ob' p h1 h2;cases j with
  | zero=>simp at h1 h2;subst h1;subst h2;exact hob _ (hk2.fresh hc _)
  | succ j=>simp at h1)
 refine⟨v',w1.alloc obj,I,Cr L d [some (w.heap.size,C)],.inl hr,?_,?_⟩
 ·rw[H8,hd];exact hn.put d (hv _ (by simp[Cr]))
 ·refine Fr.news hf hc (by simp[World.alloc,hw.os]) (by simp[hw.tape]) (by simp[World.alloc,hw.output]) (by simp;omega) hk ?_ ?_
  ·intro j b C' hj;cases j with
   | zero=>simp at hj;simp;omega
   | succ j=>simp at hj
  ·intro j j' b C1 C2 h1 h2;cases j with
   | zero=>cases j' with
    | zero=>rfl
    | succ j'=>simp at h2
   | succ j=>simp at h1
theorem NG (hs:SR lp I L st a.tmps.toList suf w) (hf:Fr cx w0 I0 F0 O0 Hd R e ds I F L w) {nm:Nm} {b C:Nat} (hL:L nm=some (some (b,C)))
  {v:PV} {v':Value} {ob:Ob} {w':World} (hr:(execOp a.eval o).run cx.P w=.ok (.value v') w'\/((execOp a.eval o).run cx.P w=.ok .skip w'/\v'=undef))
  (h1:w'.os=w.os) (h2:w'.tape=w.tape) (h3:w'.output=w.output) (h4:w'.heap.size=w.heap.size) (hk:∀ b',b'≠b->w'.heap[b']?=w.heap[b']?)
  (hob:Q2 w' I lp L b C ob) (hv:Aw w' I lp (some L) v v') :
  BA cx w0 I0 F0 O0 Hd R e ds F lp suf o a w (apply st o.dst {v,upd:=some (nm,ob)}):=by
 have hI:∀ b',I b'->w'.heap[b']?=w.heap[b']?:=fun b' hb'=>hk b' fun e=>(hf.lB nm b C hL).2.2.1 (e ▸ hb');have hu:=hs.upd (w':=w') (ob':=ob) hL hI (fun m b' C' hm hn=>hk b' fun e=>hm (hf.inj m nm b' C' C hn (e ▸ hL))) hob;refine⟨v',w',I,L,hr,?_,?_⟩
 ·rw[H8];cases o.dst with
  | none=>exact hu
  | some d=>exact hu.put d hv
 ·exact hf.own h1 h2 h3 (by omega) (fun b' _ hn=>hk b' fun e=>hn nm C (e ▸ hL)) (fun _ h=>h) (fun _ h=>.inl h)
   (fun m b' C' hn=>⟨by have:=(hf.lB m b' C' hn).2.1;omega,(hf.lB m b' C' hn).2.2.1,.inr ⟨m,C',hn⟩⟩) hf.inj
theorem Pk (hs:SR lp I L st a.tmps.toList suf w) (hf:Fr cx w0 I0 F0 O0 Hd R e ds I F L w) {nm:Nm} {p p':Option (Nat×Nat)} (hL:L nm=some p)
  {v:PV} {v':Value} {k kt:Nat} {xs:List PV} {w':World} (hr:(execOp a.eval o).run cx.P w=.ok (.value v') w')
  (h1:w'.os=w.os) (h2:w'.tape=w.tape) (h3:w'.output=w.output) (h4:w.heap.size<=w'.heap.size)
  (hk:∀ b',b' < w.heap.size->(∀ C,p≠some (b',C))->w'.heap[b']?=w.heap[b']?)
  (hp':∀ b C,p'=some (b,C)->b < w'.heap.size/\(w.heap.size<=b\/∃ C',p=some (b,C')))
  (hob:∀ L',BF w' I lp L' (.arr k kt xs) p') (hv:∀ L':AF,L' nm=some p'->Aw w' I lp (some L') v v') :
  BA cx w0 I0 F0 O0 Hd R e ds F lp suf o a w (apply st o.dst {v,upd:=some (nm,.arr k kt xs),kill:=some nm}):=by
 have hI:∀ b',I b'->w'.heap[b']?=w.heap[b']?:=fun b' hb'=>hk b' (hf.sep.iB b' hb') fun C e=>(hf.lB nm b' C (by rw[hL,e])).2.2.1 hb'
 have hu:=hs.regrow (w':=w') (k:=k) (kt:=kt) (xs:=xs) (p':=p') hL hI
  (fun m b' C' hm hn=>hk b' (hf.lB m b' C' hn).2.1 fun C e=>hm (hf.inj m nm b' C' C hn (by rw[hL,e]))) (hob _)
 refine⟨v',w',I,(fun m=>if m=nm then some p' else L m),.inl hr,?_,?_⟩
 ·rw[H8];cases o.dst with
  | none=>exact hu
  | some d=>exact hu.put d (hv _ (by simp))
 ·refine hf.own h1 h2 h3 h4 (fun b' hb' hn=>hk b' hb' fun C e=>hn nm C (by rw[hL,e])) (fun _ h=>h) (fun _ h=>.inl h) ?_ ?_
  ·intro m b' C' hn;by_cases hm:m=nm
   ·simp only[hm,if_true,Z6] at hn;obtain⟨q1,q2⟩:=hp' b' C' hn;refine⟨q1,fun hb=>?_,?_⟩
    ·rcases q2 with q2 | ⟨C2,q2⟩;·have:=hf.sep.iB b' hb;omega
     ·exact (hf.lB nm b' C2 (by rw[hL,q2])).2.2.1 hb
    ·rcases q2 with q2 | ⟨C2,q2⟩;·exact .inl q2
     ·exact .inr ⟨nm,C2,by rw[hL,q2]⟩
   ·simp only[hm,if_false] at hn;exact⟨by have:=(hf.lB m b' C' hn).2.1;omega,(hf.lB m b' C' hn).2.2.1,.inr ⟨m,C',hn⟩⟩
  ·intro m m' b' C1 C2 hn hn'
   have other:∀ m C1 C2,m≠nm->L m=some (some (b',C1))->p'=some (b',C2)->False:=fun m C1 C2 hm h1 h2=>by
    obtain⟨q1,q2⟩:=hp' b' C2 h2;rcases q2 with q2 | ⟨C3,q2⟩;·have:=(hf.lB m b' C1 h1).2.1;omega
    ·exact hm (hf.inj m nm b' C1 C3 h1 (by rw[hL,q2]))
   by_cases hm:m=nm<;>by_cases hm':m'=nm
   ·rw[hm,hm']
   ·simp only[hm,hm',if_true,if_false,Z6] at hn hn';exact (other m' C2 C1 hm' hn' hn).elim
   ·simp only[hm,hm',if_true,if_false,Z6] at hn hn';exact (other m C1 C2 hm hn hn').elim
   ·simp only[hm,hm',if_false] at hn hn';exact hf.inj m m' b' C1 C2 hn hn'
end lemmas
end Go.Ab


namespace Go.Ab
section inv
variable {w:World} {I:Nat->Prop} {lp:Nat->Option Nat} {L:AF} {v:Value}
theorem Fx {L:Option AF} {b:Bool} (h:Aw w I lp L (.bool b) v):v=.bool b:=by cases h;rfl
theorem Ef {L:Option AF} {k:IntKind} {n:Int} (h:Aw w I lp L (.int k n) v):v=.int k n:=by cases h;rfl
theorem Ff {L:Option AF} {s:List UInt8} (h:Aw w I lp L (.str s) v):v=.string ⟨s.toArray⟩:=by cases h;rfl
theorem Gm {L:Option AF} (h:Aw w I lp L .nilS v):v=.slice none 0 0:=by cases h;rfl
theorem KH {L:Option AF} (h:Aw w I lp L .nilP v):v=.pointer none:=by cases h;rfl
theorem Py {L:Option AF} (h:Aw w I lp L .nilF v):v=.nilFunc:=by cases h;rfl
theorem IB {L:Option AF} (h:Aw w I lp L .nilI v):v=.nilIface:=by cases h;rfl
theorem Wk {L:Option AF} (h:Aw w I lp L .nilM v):v=.map none:=by cases h;rfl
theorem PN {L:Option AF} {cs:List PV} (h:Aw w I lp L (.agg cs) v):∃ vs,v=.agg vs/\Bo vs.toList/\Aq w I lp L cs vs.toList:=by cases h;exact⟨_,rfl,by assumption,by assumption⟩
theorem W1 {L:Option AF} {cs:List PV} (h:Aw w I lp L (.tup cs) v):∃ vs,v=.tuple vs/\Aq w I lp L cs vs.toList:=by cases h;exact⟨_,rfl,by assumption⟩
theorem Wm {L:Option AF} {g:Nat} {t:TypeId} (h:Aw w I lp L (.glob g t) v):∃ u,v=.iface t u/\I g/\∃ c E fr,w.heap[g]?=some (.cells c E fr)/\c[0]?=some (.iface t u):=by cases h;exact⟨_,rfl,by assumption,_,_,_,by assumption,by assumption⟩
theorem LM {L:Option AF} {t:TypeId} {x:PV} (h:Aw w I lp L (.iface t x) v):∃ u,v=.iface t u/\Aw w I lp L x u:=by cases h;exact⟨_,rfl,by assumption⟩
theorem K4 {L:Option AF} {f:FuncId} {cs:List PV} (h:Aw w I lp L (.fn f cs) v):∃ us vs,v=.func (.func (AY f)) us vs/\us.size=Fu f/\Aq w I lp L cs (us.toList++vs.toList):=by cases h;exact⟨_,_,rfl,by assumption,by assumption⟩
theorem RJ {L:Option AF} {f:FuncId} {cs xs:List PV} {us vs:Array Value} {ys:List Value} (hk:us.size=Fu f) (h:Aq w I lp L cs (us.toList++vs.toList)) (hv:Aq w I lp L xs ys) :
  Aq w I lp L (Bt f xs cs) (us.toList++(ys++vs.toList)):=by
 unfold Bt;have hl:us.toList.length=us.size:=by simp
 split
 ·rename_i hb;have h0:us.size=0:=by rw[hk];simp[Fu,hb]
  have hu:us.toList=[]:=bI.1 (by rw[hl,h0]);rw[hu] at h |-;exact hv.append h
 ·have h1:=h.take (Fu f);have h2:=h.drop (Fu f);rw[List.take_left' (by rw[hl,hk])] at h1;rw[List.drop_left' (by rw[hl,hk])] at h2;exact h1.append (hv.append h2)
theorem W0 {L:Option AF} {d:Nat} (h:Aw w I lp L (.yld d) v):∃ l,v=.func (.yield l) #[] #[]/\lp d=some l:=by cases h;exact⟨_,rfl,by assumption⟩
theorem FY {nm:Nm} {o:Nat} (h:Aw w I lp (some L) (.ref nm o) v):∃ b C,L nm=some (some (b,C))/\v=.pointer (some ⟨b,o,none⟩):=by cases h;exact⟨_,_,by assumption,rfl⟩
theorem Pz {nm:Nm} {k i o:Nat} (h:Aw w I lp (some L) (.aref nm k i o) v):∃ b C,L nm=some (some (b,C))/\v=.pointer (some ⟨b,i*k+o,none⟩):=by cases h;exact⟨_,_,by assumption,rfl⟩
theorem Mb {L:Option AF} {cs:List PV} {o:Nat} (h:Aw w I lp L (.ptr cs o) v):∃ b off c E fr,v=.pointer (some ⟨b,off+o,none⟩)/\I b/\w.heap[b]?=some (.cells c E fr) /\
  off+cs.length<=c.size/\o < cs.length/\Bo ((c.toList.drop off).take cs.length)/\Aq w I lp none cs ((c.toList.drop off).take cs.length):=by
 cases h;exact⟨_,_,_,_,_,rfl,by assumption,by assumption,by assumption,by assumption,by assumption,by assumption⟩
theorem JE {nm:Nm} {k o n:Nat} (h:Aw w I lp (some L) (.arr nm k o n) v) :
  (∃ b C cap,L nm=some (some (b,C))/\v=.slice (some ⟨b,o*k,none⟩) n cap/\(o+cap)*k<=C/\n<=cap)\/(L nm=some none/\v=.slice none 0 0/\o=0/\n=0):=by
 cases h;·exact .inl ⟨_,_,_,by assumption,rfl,by assumption,by assumption⟩
 ·exact .inr ⟨by assumption,rfl,rfl,rfl⟩
theorem JS {L:Option AF} {k:Nat} {xs:List PV} {full:Bool} (h:Aw w I lp L (.sl k xs full) v) :
  (∃ b off cap c E fr,v=.slice (some ⟨b,off,none⟩) xs.length cap/\I b/\w.heap[b]?=some (.cells c E fr)/\off+xs.length*k<=c.size/\(∀ x∈xs,x.cells.length=k)/\xs.length<=cap/\(full=true->cap=xs.length) /\
   Bo ((c.toList.drop off).take (xs.length*k))/\Aq w I lp none (cellsL xs) ((c.toList.drop off).take (xs.length*k)))\/(xs=[]/\∃ a cap,v=.slice a 0 cap/\(full=true->cap=0)):=by
 cases h;·exact .inr ⟨rfl,_,_,rfl,by assumption⟩
 ·exact .inl ⟨_,_,_,_,_,_,rfl,by assumption,by assumption,by assumption,by assumption,by assumption,by assumption,by assumption,by assumption⟩
theorem Qc {nm:Nm} (h:Aw w I lp (some L) (.mp nm) v):∃ b C,L nm=some (some (b,C))/\v=.map (some b):=by cases h;exact⟨_,_,by assumption,rfl⟩
theorem inv_it {nm:Nm} (h:Aw w I lp (some L) (.it nm) v):∃ b C,L nm=some (some (b,C))/\v=.pointer (some ⟨b,0,none⟩):=by cases h;exact⟨_,_,by assumption,rfl⟩
theorem Wl {L:Option AF} {es:List PV} (h:Aw w I lp L (.imap es) v):∃ r ents clock,v=.map (some r)/\I r/\w.heap[r]?=some (.map ents clock)/\Aq w I lp none es (F9 ents.toList):=by
 cases h;exact⟨_,_,_,rfl,by assumption,by assumption,by assumption⟩
end inv
theorem Bn {α:Type} {b:Bool} {x:Option α} {y:α} (h:AI b x=some y):b=true/\x=some y:=by
 cases b;·simp[AI] at h
 ·exact⟨rfl,by simpa[AI] using h⟩
theorem Q8 {P:Program} {t:TypeId} {n:Nat} {ag:Bool} (h:Hb P t=some (n,ag)):∃ d i,P.underlying t=some d/\P.info? t=some i/\i.size=n/\Ly d=ag:=by
 unfold Hb at h;split at h
 ·rename_i d i h1 h2;simp only[Z6,aC] at h;exact⟨d,i,h1,h2,h.1,h.2⟩
 ·cases h
theorem U4 {P:Program} {t:TypeId} {d:TypeDesc} (h:P.underlying t=some d) (w:World):(isAgg t).run P w=.ok (Ly d) w:=by
 unfold isAgg Ly;simp only[Sem.run_bind,run_underlying h,Result.andThen_ok];split<;>split<;>simp_all
theorem H6 {P:Program} {t:TypeId} {i:TypeInfo} (h:P.info? t=some i) (w:World):(sizeOf t).run P w=.ok i.size w:=by
 simp[sizeOf,typeInfo,h]
theorem ID (b off i:Nat):(⟨b,off,none⟩:Addr).add i=⟨b,off+i,none⟩:=by
 unfold Addr.add;split<;>simp_all
theorem NI {w:World} {b:Nat} {c:Array Value} {E:TypeId} {fr:Nat×Nat} (h:w.heap[b]?=some (.cells c E fr)) (j:Nat):w.cell? ⟨b,j,none⟩=c[j]?:=by
 simp[World.cell?,h]
theorem OE {P:Program} {w:World} {t:TypeId} {n:Nat} {ag:Bool} (hsh:Hb P t=some (n,ag)) {b off:Nat} {c:Array Value} {E:TypeId} {fr:Nat×Nat}
  (hb:w.heap[b]?=some (.cells c E fr)) {v:Value} (hv:if ag then off+n<=c.size/\v=.agg (c.extract off (off+n)) else c[off]?=some v) :
  (Instr.loadAt t (.pointer (some ⟨b,off,none⟩))).run P w=.ok v w:=by
 obtain⟨d,i,h1,h2,h3,h4⟩:=Q8 hsh;simp only[Instr.loadAt,Instr.sureAddr,loadVar,Sem.run_bind,Sem.run_pure,Result.andThen_ok,U4 h1,h4];cases ag
 ·simp only[Z0,if_false] at hv |-;simp[run_load,NI hb,hv]
 ·simp only[if_true] at hv |-;obtain⟨hle,rfl⟩:=hv
  have:=run_loadCells_list (P:=P) (w:=w) ⟨b,off,none⟩ ((c.extract off (off+n)).toList) (fun j v hj=>by
   rw[ID,NI hb];simp only[bZ,Array.getElem?_extract] at hj;split at hj;·rename_i hlt;exact hj
   ·cases hj)
  simp only[bx,Array.size_extract,bt] at this;rw[aT hle,bY] at this;simp only[H6 h2,h3,Result.andThen_ok,Sem.run_bind,this,Sem.run_pure]
theorem NL {w:World} {I:Nat->Prop} {lp:Nat->Option Nat} {L:Option AF} {cs:List PV} {vs:List Value} (hr:Aq w I lp L cs vs) (h1:Bo vs) {o n:Nat} {ag:Bool} {x:PV}
  (h:BG cs o n ag=some x):∃ v,(if ag then o+n<=vs.length/\v=.agg ((vs.drop o).take n).toArray else vs[o]?=some v)/\Aw w I lp L x v:=by
 unfold BG at h;cases ag
 ·simp only[Z0,if_false] at h |-;exact hr.get h
 ·simp only[if_true] at h |-;obtain⟨h2,h3⟩:=Bn h;cases h3;exact⟨_,⟨by rw[<-hr.length];exact of_decide_eq_true h2,rfl⟩,.agg _ _ (by simpa using (h1.drop' o).take' n) (by simpa using (hr.drop o).take n)⟩
theorem MW (c:Array Value) (i j:Nat):c.extract i j=((c.toList.drop i).take (j - i)).toArray:=by
 apply Array.ext';simp[Array.toList_extract,List.take_drop,List.extract]
section ops
variable {E:Type} {cx:Cx} {w0:World} {I0 F0:Nat->Prop} {O0:B9} {Hd:Nat->Option Obj} {R:BV E} {e:E} {ds:List Deferred} {F:Nat->Prop} {lp:Nat->Option Nat} {suf:List Value}
variable {I:Nat->Prop} {L:AF} {st:St} {a:Act} {w:World} {o:Oper} {out:AO} {rop:AC}
variable (hs:SR lp I L st a.tmps.toList suf w) (hf:Fr cx w0 I0 F0 O0 Hd R e ds I F L w)
include hs hf
theorem op_mov {x:Operand} (ho:o.op=.move x\/o.op=.assign x) {r:RX} (hr:rx cx.G x=some r) :
  BA cx w0 I0 F0 O0 Hd R e ds F lp suf o a w (apply st o.dst {v:=r.ev st.tmps}) :=
 BP hs hf (by rcases ho with ho | ho<;>simp[execOp,ho]) (.refl w) (Bx hs hf.wd hr)
theorem op_pick {c x y:Operand} (ho:o.op=.pick c x y) {rc r1 r2:RX} (h0:rx cx.G c=some rc) (h1:rx cx.G x=some r1) (h2:rx cx.G y=some r2)
  (h:exec (o.dst.getD 0) (Ak st.objs) st.tmps (.pick rc r1 r2)=some out):BA cx w0 I0 F0 O0 Hd R e ds F lp suf o a w (apply st o.dst out):=by
 have hc:=Bx hs hf.wd h0;have hx:=Bx hs hf.wd h1;have hy:=Bx hs hf.wd h2;simp only[exec] at h;split at h
 ·rename_i hb;rw[hb] at hc;cases h;exact BP hs hf (by simp[execOp,ho,Fx hc,asBool]) (.refl w) hx
 ·rename_i hb;rw[hb] at hc;cases h;exact BP hs hf (by simp[execOp,ho,Fx hc,asBool]) (.refl w) hy
 ·cases h
theorem op_load {t:TypeId} {x:Operand} (ho:o.op=.load t x) {n:Nat} {ag:Bool} {r:RX} (hsh:Hb cx.P t=some (n,ag)) (h1:rx cx.G x=some r)
  (h:exec (o.dst.getD 0) (Ak st.objs) st.tmps (.load n ag r)=some out):BA cx w0 I0 F0 O0 Hd R e ds F lp suf o a w (apply st o.dst out):=by
 have hx:=Bx hs hf.wd h1;simp only[exec] at h;split at h
 ·rename_i nm off hr;rw[hr] at hx;obtain⟨b,C,hL,hv⟩:=FY hx;split at h
  case h_2=>cases h
  rename_i cs hlk;obtain⟨u,hu,rfl⟩:=Z3.1 h;obtain⟨p,hp,ha⟩:=hs.ob nm _ hlk;rw[hL] at hp;cases hp;obtain⟨c,E',hb,hC,hone,hrep⟩:=ha;obtain⟨u',hu',hrv⟩:=NL hrep hone.1 hu;refine BP hs hf (v':=u') (w':=w) ?_ (.refl w) hrv
  have:=OE (P:=cx.P) hsh (off:=off) hb (v:=u') (by
   cases ag;·simpa using hu'
   ·simp only[if_true] at hu' |-;refine⟨by simpa using hu'.1,?_⟩;rw[hu'.2,MW,bY])
  simp[execOp,ho,hv,this]
 ·rename_i cs off hr;rw[hr] at hx;obtain⟨b,off0,c,E',fr,hv,hI,hb,hle,hlt,hone,hrep⟩:=Mb hx;obtain⟨u,hu,rfl⟩:=Z3.1 h;obtain⟨u',hu',hrv⟩:=NL hrep hone hu;refine BP hs hf (v':=u') (w':=w) ?_ (.refl w) (hrv.lift _);have hlen:=hrep.length
  have:=OE (P:=cx.P) hsh (off:=off0+off) hb (v:=u') (by
   cases ag
   ·simp only[Z0,if_false] at hu' |-;rw[b7 hlt,ck] at hu';simpa using hu'
   ·simp only[if_true] at hu' |-;obtain⟨g1,g2⟩:=hu';rw[<-hlen] at g1;refine⟨by omega,?_⟩;rw[g2,MW,bY,br,bQ,aW,aT (by omega)])
  simp[execOp,ho,hv,this]
 ·rename_i nm k i off hr;rw[hr] at hx;obtain⟨b,C,hL,hv⟩:=Pz hx;split at h
  case h_2=>cases h
  rename_i k' kt xs hlk;split at h
  case h_2=>cases h
  rename_i el hel;obtain⟨hk,h'⟩:=Bn h;clear h;have hk:k=k':=by simpa using hk
  subst hk;obtain⟨u,hu,rfl⟩:=Z3.1 h';obtain⟨p,hp,ha⟩:=hs.ob nm _ hlk;rw[hL] at hp;cases hp;obtain⟨c,E',hb,hC,hle,hkx,hone,hrep⟩:=ha;have hlt:=(ac.1 hel).1;have hke:=hkx el (aj hel);have hik:(i+1)*k<=xs.length*k:=aS _ hlt;rw[au,bG] at hik
  have hrep':Aq w I lp none el.cells ((c.toList.drop (i*k)).take k):=by
   have:=(hrep.drop (i*k)).take k
   rwa [RR hkx hel,br,aW,aT (by omega)] at this
  have hone':Bo ((c.toList.drop (i*k)).take k):=by
   have:=(hone.drop' (i*k)).take' k
   rwa [br,aW,aT (by omega)] at this
  obtain⟨u',hu',hrv⟩:=NL hrep' hone' hu;refine BP hs hf (v':=u') (w':=w) ?_ (.refl w) (hrv.lift _);have hlen:=hrep'.length
  have:=OE (P:=cx.P) hsh (off:=i*k+off) hb (v:=u') (by
   cases ag
   ·simp only[Z0,if_false] at hu' |-;have hlt2:=(ac.1 hu').1;rw[<-hlen,hke] at hlt2;rw[b7 hlt2,ck] at hu';simpa using hu'
   ·simp only[if_true] at hu' |-;obtain⟨g1,g2⟩:=hu';rw[<-hlen,hke] at g1;refine⟨by omega,?_⟩;rw[g2,MW,bY,br,bQ,aW,aT (by omega)])
  simp[execOp,ho,hv,this]
 ·cases h
omit hs hf in
theorem Ty {P:Program} {w:World} {t:TypeId} {n:Nat} {ag:Bool} (hsh:Hb P t=some (n,ag)) {b off:Nat} {c:Array Value} {E:TypeId}
  (hb:w.heap[b]?=some (.cells c E (0,0))) {v:Value} (hv:v.cells.size=n) (h1:Bo v.cells.toList) (hle:off+n<=c.size) :
  (Instr.storeAt t (.pointer (some ⟨b,off,none⟩)) v).run P w=.ok () (w.setRow b (c.toList.take off++v.cells.toList++c.toList.drop (off+n)).toArray):=by
 obtain⟨d,i,g1,g2,g3,g4⟩:=Q8 hsh;have hst:=run_storeCells_at P b off E v.cells.toList 0 c w hb (by simp[hv];omega) h1;simp only[Nat.add_zero,bx,hv] at hst;simp[Instr.storeAt,Instr.sureAddr,storeVar,H6 g2,g3,hv,hst]
omit hs hf in
theorem Jc (w:World) (b:Nat) (cs:Array Value) {b':Nat} (h:b'≠b):(w.setRow b cs).heap[b']?=w.heap[b']?:=setRow_other w b b' cs h
omit hs hf in
theorem Bo.splice {vs us:List Value} (h:Bo vs) (h':Bo us) (o n:Nat):Bo (vs.take o++us++vs.drop n) :=
 ((h.take' o).append' h').append' (h.drop' n)
omit hs hf in
theorem Aq.splice {w:World} {L:Option AF} {cs ys:List PV} {vs us:List Value} (h:Aq w I lp L cs vs) (h':Aq w I lp L ys us) (o:Nat) :
  Aq w I lp L (splice cs o ys) (vs.take o++us++vs.drop (o+us.length)):=by
 unfold Go.Ab.splice;rw[h'.length];exact ((h.take o).append h').append (h.drop _)
omit hs hf in
theorem Rg (l u:List Value) (p N:Nat) (h:p+u.length<=N) (hN:N<=l.length) :
  (l.take p++u++l.drop (p+u.length)).take N=(l.take N).take p++u++(l.take N).drop (p+u.length):=by
 rw[cL,cL,aW,aW,br];simp only[bS,aF];rw[av (l:=u) (by omega),Nat.min_comm N p,show N - (min p l.length+u.length)=N - (p+u.length) from by omega]
theorem op_store {t:TypeId} {x y:Operand} (ho:o.op=.store t x y) {n:Nat} {ag:Bool} {r s:RX} (hsh:Hb cx.P t=some (n,ag)) (h1:rx cx.G x=some r) (h2:rx cx.G y=some s)
  (h:exec (o.dst.getD 0) (Ak st.objs) st.tmps (.store n r s)=some out):BA cx w0 I0 F0 O0 Hd R e ds F lp suf o a w (apply st o.dst out):=by
 have hx:=Bx hs hf.wd h1;have hy:=Bx hs hf.wd h2;simp only[exec] at h;split at h
 ·rename_i nm off hr;rw[hr] at hx;obtain⟨b,C,hL,hv⟩:=FY hx;split at h
  case h_2=>cases h
  rename_i cs hlk;obtain⟨hk,h⟩:=Bn h;cases h;simp only[Z2,decide_eq_true_eq] at hk;obtain⟨⟨k1,k2⟩,k3⟩:=hk;obtain⟨hone2,hrep2⟩:=hy.cells k1;have hsz:(a.eval y).cells.size=n:=by have:=hrep2.length;simp at this;omega
  obtain⟨p,hp,ha⟩:=hs.ob nm _ hlk;rw[hL] at hp;cases hp;obtain⟨c,E',hb,hC,hone,hrep⟩:=ha;have hlen:=hrep.length;simp only[bx] at hlen;have hst:=Ty (P:=cx.P) hsh hb hsz hone2 (off:=off) (by omega);refine NG hs hf hL (w':=w.setRow b (c.toList.take off++(a.eval y).cells.toList++c.toList.drop (off+n)).toArray) (v':=undef) (.inr ⟨?_,rfl⟩) rfl rfl rfl (by simp) (fun b' hb'=>Jc w b _ hb') ?_ (.undef _);·simp[execOp,ho,hv,hst]
  ·refine⟨_,E',setRow_heap w b c _ E' _ hb,?_,?_,?_⟩;·simp[hsz];omega
   ·exact⟨by simpa using hone.1.splice hone2 off (off+n),hone.2⟩
   ·have hb2:∀ b',I b'->(w.setRow b (c.toList.take off++(a.eval y).cells.toList++c.toList.drop (off+n)).toArray).heap[b']?=w.heap[b']?:=fun b' hb'=>Jc w b _ fun e=>(hf.lB nm b C hL).2.2.1 (e ▸ hb');have:=Aq.mono (w':=w.setRow b (c.toList.take off++(a.eval y).cells.toList++c.toList.drop (off+n)).toArray) (fun _ h=>h) hb2 (fun _ _ h=>h) (hrep.splice hrep2 off);simpa[hsz] using this
 ·rename_i nm k i off hr;rw[hr] at hx;obtain⟨b,C,hL,hv⟩:=Pz hx;split at h
  case h_2=>cases h
  rename_i k' kt xs hlk;obtain⟨p,hp,ha⟩:=hs.ob nm _ hlk;rw[hL] at hp;cases hp;obtain⟨c,E',hb,hC,hle,hkx,hone,hrep⟩:=ha
  have key:∀ (el el':PV) (ys:List PV),k=k'->xs[i]?=some el->(s.ev st.tmps).isVal=true->(s.ev st.tmps).cells.length=n->(s.ev st.tmps).names=[]->off+n<=k ->
    el'.cells=splice el.cells off (s.ev st.tmps).cells->ys=xs.set i el' ->
    BA cx w0 I0 F0 O0 Hd R e ds F lp suf o a w (apply st o.dst {v:=.undef,upd:=some (nm,.arr k kt ys)}):=by
   intro el el' ys hkk hel k1 k2 k4 k3 hcel hys;subst hkk;subst hys;obtain⟨hone2,hrep2⟩:=hy.cells k1
   have hn4:AR (s.ev st.tmps).cells=[]:=by
    generalize s.ev st.tmps=z at k4;cases z<;>simp_all [PV.cells,AR,PV.names]
   have hsz:(a.eval y).cells.size=n:=by have:=hrep2.length;simp at this;omega
   have hlt:=(ac.1 hel).1;have hke:=hkx el (aj hel);have hik:(i+1)*k<=xs.length*k:=aS _ hlt;rw[au,bG] at hik;have hst:=Ty (P:=cx.P) hsh hb hsz hone2 (off:=i*k+off) (by omega);have hvl:(a.eval y).cells.toList.length=n:=by simpa using hsz
   refine NG hs hf hL (w':=w.setRow b (c.toList.take (i*k+off)++(a.eval y).cells.toList++c.toList.drop (i*k+off+n)).toArray) (v':=undef) (.inr ⟨?_,rfl⟩) rfl rfl rfl (by simp) (fun b' hb'=>Jc w b _ hb') ?_ (.undef _);·simp[execOp,ho,hv,hst]
   ·have hb2:∀ b',I b'->(w.setRow b (c.toList.take (i*k+off)++(a.eval y).cells.toList++c.toList.drop (i*k+off+n)).toArray).heap[b']?=w.heap[b']?:=fun b' hb'=>Jc w b _ fun e=>(hf.lB nm b C hL).2.2.1 (e ▸ hb');have hspl:=(hrep.splice (hrep2.shut hn4) (i*k+off));have hlc:(cellsL xs).length=xs.length*k:=Kp hkx;have hel':el'.cells.length=k:=by rw[hcel];unfold Go.Ab.splice;simp;omega
    have hcells:splice (cellsL xs) (i*k+off) (s.ev st.tmps).cells=cellsL (xs.set i el'):=by
     have hd:xs.drop i=el :: xs.drop (i+1):=by
      have:=ch hlt
      rwa [(ac.1 hel).2] at this
     have h1:xs=xs.take i++el :: xs.drop (i+1):=by rw[<-hd,List.take_append_drop]
     have h2:xs.set i el'=xs.take i++el' :: xs.drop (i+1):=by rw[List.set_eq_take_append_cons_drop,if_pos hlt]
     have h3:(cellsL (xs.take i)).length=i*k:=by rw[Kp (fun x hx=>hkx x (aQ hx))];simp;rw[aT (by omega)]
     rw[h2,Kq,cellsL,hcel]
     conv=>lhs;rw[h1]
     rw[Kq,cellsL];unfold Go.Ab.splice;rw[show i*k+off=(cellsL (xs.take i)).length+off from by rw[h3],List.take_length_add_append,cm (by omega)];rw[show (cellsL (xs.take i)).length+off+(s.ev st.tmps).cells.length=(cellsL (xs.take i)).length+(off+(s.ev st.tmps).cells.length) from by omega,List.drop_length_add_append,de (by omega)];simp[aR]
    refine⟨_,E',setRow_heap w b c _ E' _ hb,?_,by simpa using hle,?_,?_,?_⟩;·simp[hsz];omega
    ·intro x hx;rcases cn hx with hx | rfl;·exact hkx x hx
     ·exact hel'
    ·simp only[co];have e1:=Rg c.toList (a.eval y).cells.toList (i*k+off) (xs.length*k) (by omega) (by simp;omega);rw[hvl] at e1;rw[e1];exact hone.splice hone2 _ _
    ·simp only[co];have e1:=Rg c.toList (a.eval y).cells.toList (i*k+off) (xs.length*k) (by omega) (by simp;omega);rw[hvl] at e1;rw[e1,<-hcells];rw[hvl] at hspl;exact Aq.mono (fun _ h=>h) hb2 (fun _ _ h=>h) hspl
  split at h
  ·rename_i es hel;obtain⟨hk,h'⟩:=Bn h;cases h';simp only[Z2,decide_eq_true_eq,beq_iff_eq,aY] at hk;obtain⟨⟨⟨⟨g1,g2⟩,g3⟩,g4⟩,g5⟩:=hk;have hke:=hkx _ (aj hel);refine key (.agg es) (.agg (splice es off (s.ev st.tmps).cells)) _ g1 hel g2 g3 ?_ ?_ rfl rfl
   ·generalize s.ev st.tmps=z at g5;cases z<;>simp_all [PV.cells,AR,PV.names]
   ·simp only[PV.cells] at hke;omega
  ·rename_i el hel hna;obtain⟨hk,h'⟩:=Bn h;cases h';simp only[Z2,decide_eq_true_eq,beq_iff_eq,aY] at hk;obtain⟨⟨⟨⟨⟨g1,g2⟩,g3⟩,g4⟩,g5⟩,g6⟩:=hk;subst g2;subst g3;subst g4
   have hcz:(s.ev st.tmps).cells=[s.ev st.tmps]:=by
    generalize s.ev st.tmps=z at g5;cases z<;>first | rfl | (simp[PV.isCell] at g5)
   have hiv:(s.ev st.tmps).isVal=true:=by
    generalize s.ev st.tmps=z at g5;cases z<;>first | rfl | (simp[PV.isCell] at g5)
   have hke:=hkx el (aj hna);refine key el (s.ev st.tmps) _ g1 hna hiv (by rw[hcz];rfl) g6 (by omega) ?_ rfl;rw[hcz];unfold Go.Ab.splice;rw[<-g1] at hke;simp[cD (l:=el.cells) (i:=1) (by omega)]
  ·cases h
 ·cases h
end ops
end Go.Ab


namespace Go.Ab
section ops
variable {E:Type} {cx:Cx} {w0:World} {I0 F0:Nat->Prop} {O0:B9} {Hd:Nat->Option Obj} {R:BV E} {e:E} {ds:List Deferred} {F:Nat->Prop} {lp:Nat->Option Nat} {suf:List Value}
variable {I:Nat->Prop} {L:AF} {st:St} {a:Act} {w:World} {o:Oper} {out:AO} {rop:AC}
theorem OO {P:Program} {t:TypeId} {z:PV} (h:Gr P t=some z) {w:World} {I:Nat->Prop} {lp:Nat->Option Nat} {L:Option AF} :
  ∃ i zv,P.info? t=some i/\i.zero=some zv/\Aw w I lp L z zv:=by
 unfold Gr at h;simp only[aX] at h;obtain⟨zv,⟨i,hi,hz⟩,hp⟩:=h;exact⟨i,zv,hi,hz,Rl 3 zv z hp⟩
theorem Yi:∀ (n:Nat) (v:Value) (x:PV),HF n v=some x->x.isVal=true:=by
 intro n v x h;unfold HF at h
 split at h<;>first
  |(cases h;done)
  |(cases h;rfl)
  |(split at h<;>first | (cases h;done) | (obtain⟨xs,_,rfl⟩:=Z3.1 h;rfl))
theorem Ug {P:Program} {t:TypeId} {z:PV} (h:Gr P t=some z):z.isVal=true:=by
 unfold Gr at h;simp only[aX] at h;obtain⟨zv,_,hp⟩:=h;exact Yi 3 zv z hp
theorem Zn {f:Value->Option PV} (ih:∀ v x,f v=some x->x.names=[]):∀ (l:List Value) (xs:List PV),l.mapM f=some xs->AR xs=[]:=by
 intro l;induction l with
 | nil=>intro xs hx;simp at hx;subst hx;rfl
 | cons v l ihl =>
  intro xs hx;rw[bi] at hx;simp only[cj,aX,cu,Z6] at hx;obtain⟨y,hy,ys,hys,rfl⟩:=hx;simp[AR,ih v y hy,ihl ys hys]
theorem Xw:∀ (n:Nat) (v:Value) (x:PV),HF n v=some x->x.names=[]:=by
 intro n;induction n with
 | zero=>intro v x h;unfold HF at h;split at h<;>first | contradiction | (cases h;done) | (cases h;rfl)
 | succ n ih =>
  intro v x h;unfold HF at h;split at h<;>first | (cases h;done) | (cases h;rfl) | skip
  rename_i m cs e;cases e;split at h
  case isFalse=>cases h
  obtain⟨xs,hx,rfl⟩:=Z3.1 h;simp only[PV.names];exact Zn ih _ _ hx
theorem Jb (w:World) (ob:Obj):(w.alloc ob).heap[w.heap.size]?=some ob:=heap_alloc_new w ob
theorem UM (hs:SR lp I L st a.tmps.toList suf w) (hf:Fr cx w0 I0 F0 O0 Hd R e ds I F L w) {d:Nat} (hd:o.dst=some d) (hc:st.objs[d]?=some [])
  {x:PV} {v:Value} (hv:Aw w I lp (some L) x v) (hval:x.isVal=true) {t:TypeId} {ty:Nat} (hty:ty=0\/t=ty)
  (hr:(execOp a.eval o).run cx.P w=.ok (.value (.pointer (some ⟨w.heap.size,0,none⟩))) (w.alloc (.cells v.cells t))) :
  BA cx w0 I0 F0 O0 Hd R e ds F lp suf o a w (apply st o.dst {v:=.ref (d,0) 0,new:=[.cells ty x.cells]}):=by
 obtain⟨h1,h2⟩:=hv.cells hval;refine PC hs hf hd hc (.refl w) (C:=v.cells.size) hr ?_ ?_
 ·intro L' hL;refine⟨v.cells,t,Jb w _,rfl,⟨h1,hty⟩,?_⟩;exact (Aq.mono (fun _ h=>h) (fun b hb=>EJ w _ (hf.sep.iB b hb)) (fun _ _ h=>h) h2).reloc hL
 ·intro L' hL;exact .ref (d,0) 0 _ _ hL
theorem op_box (hs:SR lp I L st a.tmps.toList suf w) (hf:Fr cx w0 I0 F0 O0 Hd R e ds I F L w) {t:TypeId} {x:Operand} (ho:o.op=.box t x) {r:RX} (h1:rx cx.G x=some r)
  {d:Nat} (hd:o.dst=some d) (hc:st.objs[d]?=some [])
  (h:exec (o.dst.getD 0) (Ak st.objs) st.tmps (.box r)=some out):BA cx w0 I0 F0 O0 Hd R e ds F lp suf o a w (apply st o.dst out):=by
 simp only[exec] at h;obtain⟨hk,h⟩:=Bn h;cases h;have:=UM hs hf hd hc (Bx hs hf.wd h1) hk (t:=t) (ty:=0) (.inl rfl) (by simp[execOp,ho,Instr.box,newVar,newRow]);simpa[hd] using this
theorem op_alloc (hs:SR lp I L st a.tmps.toList suf w) (hf:Fr cx w0 I0 F0 O0 Hd R e ds I F L w) {t:TypeId} (ho:o.op=.alloc t) {z:PV} (hz:Gr cx.P t=some z)
  {d:Nat} (hd:o.dst=some d) (hc:st.objs[d]?=some []) :
  BA cx w0 I0 F0 O0 Hd R e ds F lp suf o a w (apply st o.dst {v:=.ref (d,0) 0,new:=[.cells t z.cells]}):=by
 obtain⟨i,zv,hi,hz1,hrep⟩:=OO hz (w:=w) (I:=I) (lp:=lp) (L:=some L);exact UM hs hf hd hc hrep (Ug hz) (t:=t) (ty:=t) (.inr rfl) (by simp[execOp,ho,Instr.alloc,zeroValue,typeInfo,hi,hz1,newVar,newRow])
theorem op_nilck (hs:SR lp I L st a.tmps.toList suf w) (hf:Fr cx w0 I0 F0 O0 Hd R e ds I F L w) {x:Operand} (ho:o.op=.nilCheck x) {r:RX} (h1:rx cx.G x=some r)
  (h:exec (o.dst.getD 0) (Ak st.objs) st.tmps (.nilck r)=some out):BA cx w0 I0 F0 O0 Hd R e ds F lp suf o a w (apply st o.dst out):=by
 have hx:=Bx hs hf.wd h1;simp only[exec] at h;split at h
 ·rename_i nm off hr;rw[hr] at hx;cases h;obtain⟨b,C,hL,hv⟩:=FY hx;exact BP hs hf (v':=a.eval x) (by simp[execOp,ho,hv]) (.refl w) hx
 ·rename_i cs off hr;rw[hr] at hx;cases h;obtain⟨b,off0,c,E',fr,hv,_⟩:=Mb hx;exact BP hs hf (v':=a.eval x) (by simp[execOp,ho,hv]) (.refl w) hx
 ·rename_i nm k i off hr;rw[hr] at hx;cases h;obtain⟨b,C,hL,hv⟩:=Pz hx;exact BP hs hf (v':=a.eval x) (by simp[execOp,ho,hv]) (.refl w) hx
 ·rename_i f cap hr;rw[hr] at hx;cases h;obtain⟨us,vs,hv,_,_⟩:=K4 hx;exact BP hs hf (v':=a.eval x) (by simp[execOp,ho,hv]) (.refl w) hx
 ·rename_i d hr;rw[hr] at hx;cases h;obtain⟨l,hv,_⟩:=W0 hx;exact BP hs hf (v':=a.eval x) (by simp[execOp,ho,hv]) (.refl w) hx
 ·cases h
theorem op_mkI (hs:SR lp I L st a.tmps.toList suf w) (hf:Fr cx w0 I0 F0 O0 Hd R e ds I F L w) {t:TypeId} {x:Operand} (ho:o.op=.makeInterface t x) {r:RX} (h1:rx cx.G x=some r)
  {d:TypeDesc} (hu:cx.P.underlying t=some d) (hn:∀ ms,d≠.interface ms):BA cx w0 I0 F0 O0 Hd R e ds F lp suf o a w (apply st o.dst {v:=.iface t (r.ev st.tmps)}):=by
 refine BP hs hf (v':=.iface t (a.eval x)) ?_ (.refl w) (.iface t _ _ (Bx hs hf.wd h1))
 have:(Instr.makeInterface t (a.eval x)).run cx.P w=.ok (.iface t (a.eval x)) w:=by
  simp only[Instr.makeInterface,Sem.run_bind,run_underlying hu,Result.andThen_ok];cases d<;>first | rfl | exact absurd rfl (hn _)
 simp[execOp,ho,this]
theorem op_mkF (hs:SR lp I L st a.tmps.toList suf w) (hf:Fr cx w0 I0 F0 O0 Hd R e ds I F L w) {f k:FuncId} {first cap:Array Operand} (ho:o.op=.makeFunc (.func f) first cap)
  (hk:Fu k=first.size) (hi:AY k=f) {rs:List RX} (h1:Es cx.G (first.toList++cap.toList)=some rs):BA cx w0 I0 F0 O0 Hd R e ds F lp suf o a w (apply st o.dst {v:=.fn k (rs.map (RX.ev st.tmps))}):=by
 have hr:Aw w I lp (some L) (.fn k (rs.map (RX.ev st.tmps))) (.func (.func f) (first.map a.eval) (cap.map a.eval)):=by
  have:=Aw.fn (w:=w) (I:=I) (lp:=lp) (L:=some L) k (rs.map (RX.ev st.tmps)) (first.map a.eval) (cap.map a.eval) (by simpa using hk.symm) (by simpa using PQ hs hf.wd h1)
  rwa [hi] at this
 refine BP hs hf (v':=.func (.func f) (first.map a.eval) (cap.map a.eval)) ?_ (.refl w) hr;simp[execOp,ho,Instr.makeFunc]
theorem Zi (hs:SR lp I L st a.tmps.toList suf w) (hf:Fr cx w0 I0 F0 O0 Hd R e ds I F L w) {x:Operand} {j:Nat} (ho:o.op=.extract x j) {r:RX} (h1:rx cx.G x=some r)
  (h:exec (o.dst.getD 0) (Ak st.objs) st.tmps (.extract j r)=some out):BA cx w0 I0 F0 O0 Hd R e ds F lp suf o a w (apply st o.dst out):=by
 have hx:=Bx hs hf.wd h1;simp only[exec] at h;split at h
 case h_2=>cases h
 rename_i xs hr;rw[hr] at hx;obtain⟨vs,hv,hrep⟩:=W1 hx;split at h
 case h_2=>cases h
 rename_i y hy;cases h;obtain⟨u,hu,hru⟩:=hrep.get hy;simp only[bZ] at hu;exact BP hs hf (v':=u) (by simp[execOp,ho,hv,Instr.extract,hu]) (.refl w) hru
theorem op_un (hs:SR lp I L st a.tmps.toList suf w) (hf:Fr cx w0 I0 F0 O0 Hd R e ds I F L w) {op:UnOp} {t:TypeId} {x:Operand} (ho:o.op=.unOp op t x) {r:RX} (h1:rx cx.G x=some r)
  (h:exec (o.dst.getD 0) (Ak st.objs) st.tmps (.un op r)=some out):BA cx w0 I0 F0 O0 Hd R e ds F lp suf o a w (apply st o.dst out):=by
 have hx:=Bx hs hf.wd h1;simp only[exec] at h;split at h
 ·rename_i b hb;rw[hb] at hx;cases h;exact BP hs hf (by simp[execOp,ho,Fx hx,Op.unary]) (.refl w) (.bool _)
 ·rename_i k n hn;rw[hn] at hx;cases h;exact BP hs hf (by simp[execOp,ho,Ef hx,Op.unary,Op.intArith]) (.refl w) (.int _ _)
 ·cases h
theorem Rj {P:Program} {src dst:TypeId} {d1 d2:TypeDesc} (h1:P.underlying src=some d1) (h2:P.underlying dst=some d2) (x:Value) (w:World) :
  (convert src dst x).run P w=(match d1,d2,x with
   | _,.int k,.int _ n=>Conv.intToInt k n
   | _,.string,.int _ n=>Conv.intToString n
   | _,.string,.string _=>pure x
   | _,_,_=>convert src dst x).run P w:=by
 split<;>simp[convert,run_underlying h1,run_underlying h2]
theorem op_conv (hs:SR lp I L st a.tmps.toList suf w) (hf:Fr cx w0 I0 F0 O0 Hd R e ds I F L w) {src dst:TypeId} {x:Operand} (ho:o.op=.convert src dst x) {r:RX} (h1:rx cx.G x=some r)
  {d1:TypeDesc} {k:IntKind} (hu1:cx.P.underlying src=some d1) (hu2:cx.P.underlying dst=some (.int k))
  (h:exec (o.dst.getD 0) (Ak st.objs) st.tmps (.conv k r)=some out):BA cx w0 I0 F0 O0 Hd R e ds F lp suf o a w (apply st o.dst out):=by
 have hx:=Bx hs hf.wd h1;simp only[exec] at h;split at h
 ·rename_i k' n hn;rw[hn] at hx;cases h;refine BP hs hf ?_ (.refl w) (.int _ _);simp[execOp,ho,Ef hx,Rj hu1 hu2,Conv.intToInt]
 ·cases h
theorem op_ofRune (hs:SR lp I L st a.tmps.toList suf w) (hf:Fr cx w0 I0 F0 O0 Hd R e ds I F L w) {src dst:TypeId} {x:Operand} (ho:o.op=.convert src dst x) {r:RX} (h1:rx cx.G x=some r)
  {d1:TypeDesc} (hu1:cx.P.underlying src=some d1) (hu2:cx.P.underlying dst=some .string)
  (h:exec (o.dst.getD 0) (Ak st.objs) st.tmps (.ofRune r)=some out):BA cx w0 I0 F0 O0 Hd R e ds F lp suf o a w (apply st o.dst out):=by
 have hx:=Bx hs hf.wd h1;simp only[exec] at h;split at h
 ·rename_i k' n hn;rw[hn] at hx;cases h;refine BP hs hf (v':=.string (Utf8.encode n)) ?_ (.refl w) ?_;·simp[execOp,ho,Ef hx,Rj hu1 hu2,Conv.intToString]
  ·have:=Aw.str (w:=w) (I:=I) (lp:=lp) (L:=some L) (Utf8.encode n).data.toList;simpa using this
 ·cases h
theorem op_strId (hs:SR lp I L st a.tmps.toList suf w) (hf:Fr cx w0 I0 F0 O0 Hd R e ds I F L w) {src dst:TypeId} {x:Operand} (ho:o.op=.convert src dst x) {r:RX} (h1:rx cx.G x=some r)
  {d1:TypeDesc} (hu1:cx.P.underlying src=some d1) (hu2:cx.P.underlying dst=some .string)
  (h:exec (o.dst.getD 0) (Ak st.objs) st.tmps (.strId r)=some out):BA cx w0 I0 F0 O0 Hd R e ds F lp suf o a w (apply st o.dst out):=by
 have hx:=Bx hs hf.wd h1;simp only[exec] at h;split at h
 ·rename_i s hst;rw[hst] at hx;cases h;refine BP hs hf (v':=a.eval x) ?_ (.refl w) hx;simp[execOp,ho,Ff hx,Rj hu1 hu2]
 ·cases h
end ops
end Go.Ab


namespace Go.Ab
theorem OG (f:Nm->Option (Option Ob)) (xs:List PV):(A2 f xs).length=xs.length:=by
 induction xs with
 | nil=>rfl
 | cons x xs ih=>simp[A2,ih]
theorem subL_getElem? (f:Nm->Option (Option Ob)) (xs:List PV) (i:Nat):(A2 f xs)[i]?=(xs[i]?).map (PV.sub f):=by
 induction xs generalizing i with
 | nil=>simp[A2]
 | cons x xs ih=>cases i with
  | zero=>simp[A2]
  | succ i=>simp[A2,ih]
theorem O8 (R:List Nm):∀ (σ:List (List Ob)) (nm:Nm),Ak (R.foldl (fun objs nm=>Bl objs nm Bz) σ) nm=if nm∈R then (Ak σ nm).map fun _=>Bz else Ak σ nm:=by
 induction R with
 | nil=>intro σ nm;simp
 | cons r R ih =>
  intro σ nm;simp only[bJ,ih,Z7];by_cases h:nm=r
  ·subst h;cases hl:Ak σ nm with
   | none=>simp[(Jd Bz).2 hl]
   | some ob=>rw[Ko Bz hl];simp
  ·simp[h,Hz Bz h]
def inR (I:Nat->Prop) (L:AF) (R:List Nm):Nat->Prop:=fun b=>I b\/∃ nm∈R,∃ C,L nm=some (some (b,C))
def Hk (L:AF) (R:List Nm):AF:=fun nm=>if nm∈R then (L nm).map fun _=>none else L nm
section
variable {lp:Nat->Option Nat} {I:Nat->Prop} {L:AF} {st:St} {tmv suf:List Value} {w:World} {R:List Nm}
theorem SR.some_of_loc (h:SR lp I L st tmv suf w) {nm:Nm} {p:Option (Nat×Nat)} (hp:L nm=some p):∃ ob,Ak st.objs nm=some ob/\BF w I lp L ob p:=by
 cases hl:Ak st.objs nm with
 | none=>have:=h.dom nm hl;rw[hp] at this;cases this
 | some ob =>
  obtain⟨q,hq,ha⟩:=h.ob nm ob hl;rw[hp] at hq;cases hq;exact⟨ob,rfl,ha⟩
theorem TU (hR:Dw (Ak st.objs) R=true) {nm:Nm} (hn:nm∈R) {ob:Ob} (hl:Ak st.objs nm=some ob):∀ m∈ob.names,m∈R:=by
 intro m hm;have:=an.1 hR nm hn;rw[hl] at this;simpa using an.1 this m hm
theorem close_ok (h:SR lp I L st tmv suf w) (hR:Dw (Ak st.objs) R=true):∀ (d:Nat) (nm:Nm) (ob:Ob) (b C:Nat),nm∈R->Ak st.objs nm=some ob->L nm=some (some (b,C)) ->
  Tv w (inR I L R) lp b (Ie (Ak st.objs) d ob):=by
 have hI:∀ b,I b->inR I L R b:=fun b hb=>.inl hb
 have easy:∀ (f:Nm->Option (Option Ob)),EE w (inR I L R) lp L none (·∈R) f->∀ (nm:Nm) (ob:Ob) (b C:Nat),nm∈R->Ak st.objs nm=some ob->L nm=some (some (b,C)) ->
   Tv w (inR I L R) lp b (ob.sub f):=by
  intro f hf nm ob b C hn hl hL;obtain⟨p,hp,ha⟩:=h.ob nm ob hl;rw[hL] at hp;cases hp;have hb:inR I L R b:=.inr ⟨nm,hn,C,hL⟩;cases ob with
  | cells ty cs =>
   obtain⟨c,E,h1,h2,h3,h4⟩:=ha;have hlen:=h4.length;simp only[bx] at hlen;refine⟨hb,c,E,(0,0),h1,by rw[OG];omega,h3.1.take' _,?_⟩;have:=Aq.subst hI hf h4 (TU hR hn hl)
   rwa [OG,hlen,av (by simp)]
  | arr k kt xs =>
   obtain⟨c,E,h1,h2,h3,h4,h5,h6⟩:=ha;exact⟨hb,c,E,(0,0),h1,by omega,h4,h5,Aq.mono hI (fun _ _=>rfl) (fun _ _ h=>h) h6⟩
  | map es=>obtain⟨ents,clock,h1,h2⟩:=ha;exact⟨hb,ents,clock,h1,Aq.mono hI (fun _ _=>rfl) (fun _ _ h=>h) h2⟩
  | siter s p=>trivial
 intro d;induction d with
 | zero=>exact easy _ fun nm p _ _=>trivial
 | succ d ih =>
  refine easy _ fun m p hm hp=>?_;obtain⟨ob,hl,ha⟩:=h.some_of_loc hp;simp only[hl,ao];cases p with
  | none=>obtain⟨k,kt,rfl⟩:=ha;exact⟨k,kt,by cases d<;>rfl⟩
  | some p=>exact ih m ob p.1 p.2 hm hl hp
theorem Po (h:SR lp I L st tmv suf w) (hR:Dw (Ak st.objs) R=true) (L':Option AF):EE w (inR I L R) lp L L' (·∈R) (BJ (Ak st.objs)):=by
 intro m p hm hp;obtain⟨ob,hl,ha⟩:=h.some_of_loc hp;simp only[BJ,hl,ao];cases p with
 | none=>obtain⟨k,kt,rfl⟩:=ha;exact⟨k,kt,rfl⟩
 | some p=>exact close_ok h hR _ m ob p.1 p.2 hm hl hp
theorem Y1 (h:SR lp I L st tmv suf w) (hR:Dw (Ak st.objs) R=true) {x:PV} {v:Value} (hx:Aw w I lp (some L) x v) (hn:∀ nm∈x.names,nm∈R) :
  Aw w (inR I L R) lp none (x.sub (BJ (Ak st.objs))) v :=
 Aw.subst (fun _ hb=>.inl hb) (Po h hR none) hx hn
theorem OH (h:SR lp I L st tmv suf w) (hR:Dw (Ak st.objs) R=true) {xs:List PV} {vs:List Value} (hx:Aq w I lp (some L) xs vs) (hn:∀ nm∈AR xs,nm∈R) :
  Aq w (inR I L R) lp none (A2 (BJ (Ak st.objs)) xs) vs :=
 Aq.subst (fun _ hb=>.inl hb) (Po h hR none) hx hn
theorem SR.freeze (h:SR lp I L st tmv suf w) (hR:Dw (Ak st.objs) R=true):SR lp (inR I L R) (Hk L R) (CZ (Ak st.objs) R st) tmv suf w:=by
 have hs:EE w (inR I L R) lp L (some (Hk L R)) (fun _=>True) (fun m=>if R.contains m then BJ (Ak st.objs) m else none):=by
  intro m p _ hp;by_cases hm:m∈R
  ·have:=Po h hR (some (Hk L R)) m p hm hp;simpa[hm] using this
  ·simp[hm,Hk,hp]
 unfold CZ;refine h.subst (fun _ hb=>.inl hb) (fun _ _=>rfl) hs ?_ ?_
 ·intro nm ob hl;simp only[D7,O8,Fw] at hl;split at hl
  ·rename_i hm;simp only[cw,Z3] at hl;obtain⟨ob0,hl,rfl⟩:=hl;obtain⟨p,hp,ha⟩:=h.ob nm ob0 hl;exact⟨none,by simp[Hk,hm,hp],0,0,rfl⟩
  ·rename_i hm;simp only[Z3] at hl;obtain⟨ob0,hl,rfl⟩:=hl;obtain⟨p,hp,ha⟩:=h.ob nm ob0 hl;exact⟨p,by simp[Hk,hm,hp],ha.subst (fun _ hb=>.inl hb) (fun _ _=>rfl) hs (fun _ _=>trivial) fun _ _ _=>rfl⟩
 ·intro nm hl;simp only[D7,O8,Fw] at hl
  have:Ak st.objs nm=none:=by
   split at hl<;>simpa using hl
  simp[Hk,h.dom nm this]
theorem Fr.freeze {E:Type} {cx:Cx} {w0:World} {I0 F0:Nat->Prop} {O0:B9} {Hd:Nat->Option Obj} {RE:BV E} {e:E} {ds:List Deferred} {F:Nat->Prop} (h:Fr cx w0 I0 F0 O0 Hd RE e ds I F L w) (R:List Nm) :
  Fr cx w0 I0 F0 O0 Hd RE e ds (inR I L R) F (Hk L R) w:=by
 have cut:∀ nm b C,Hk L R nm=some (some (b,C))->nm ∉ R/\L nm=some (some (b,C)):=by
  intro nm b C hn;unfold Hk at hn;split at hn;·simp at hn
  ·rename_i hm;exact⟨hm,hn⟩
 refine h.own rfl rfl rfl (Z5 _) (fun _ _ _=>rfl) (fun _ hb=>.inl hb) ?_ ?_ ?_
 ·rintro b (hb | ⟨nm,_,C,hL⟩);·exact .inl hb
  ·exact .inr ⟨(h.lB nm b C hL).2.1,.inr ⟨nm,C,hL⟩⟩
 ·intro nm b C hn;obtain⟨h1,h2⟩:=cut nm b C hn;refine⟨(h.lB nm b C h2).2.1,?_,.inr ⟨nm,C,h2⟩⟩;rintro (hb | ⟨nm',hm',C',hL'⟩);·exact (h.lB nm b C h2).2.2.1 hb
  ·exact h1 (h.inj nm nm' b C C' h2 hL' ▸ hm')
 ·intro nm nm' b C C' hn hn';exact h.inj nm nm' b C C' (cut nm b C hn).2 (cut nm' b C' hn').2
theorem Fd {σ:Nm->Option Ob}:∀ (d:Nat) (l:List Nm) (nm:Nm),nm∈l->nm∈Bb σ d l:=by
 intro d;cases d with
 | zero=>intro l nm h;exact h
 | succ d=>intro l nm h;exact ak _ h
end
end Go.Ab


namespace Go.Ab
theorem fold_set (off:Nat):∀ (vs:List Value) (k:Nat) (cs:Array Value),off+k+vs.length<=cs.size ->
  ((vs.zipIdx k).foldl (fun (cs:Array Value) (x:Value×Nat)=>cs.setIfInBounds (off+x.2) x.1) cs).toList=cs.toList.take (off+k)++vs++cs.toList.drop (off+k+vs.length):=by
 intro vs;induction vs with
 | nil=>intro k cs _;simp
 | cons v vs ih =>
  intro k cs h;simp only[be] at h;simp only[cM,bJ];rw[ih (k+1) _ (by simp;omega)];have:=list_seg_step cs.toList (off+k) v vs (by simp;omega);simpa[cq] using this
theorem fold_set' (off:Nat) (vs:Array Value) (cs:Array Value) (h:off+vs.size<=cs.size) :
  (vs.zipIdx.foldl (fun (cs:Array Value) (x:Value×Nat)=>cs.setIfInBounds (off+x.2) x.1) cs).toList=cs.toList.take off++vs.toList++cs.toList.drop (off+vs.size):=by
 have:=fold_set off vs.toList 0 cs (by simpa using h);rw[<-Array.foldl_toList];simpa using this
section fill
variable {w:World} {I:Nat->Prop} {lp:Nat->Option Nat} {L:Option AF}
theorem VD {place:Nat->Option (Nat×Nat)} {cells:Array Value} {i off n:Nat} {v:Value} {rest:List (Nat×Value)} (hp:place i=some (off,n)) (h1:v.cells.size=n) (h2:off+n<=cells.size) :
  ∃ cells',cells'.toList=cells.toList.take off++v.cells.toList++cells.toList.drop (off+n)/\Instr.fill place cells ((i,v) :: rest)=Instr.fill place cells' rest:=by
 refine⟨_,?_,by simp only[Instr.fill,hp];rw[if_neg (by simp;omega)]⟩;have:=fold_set' off v.cells cells (by omega);rw[h1] at this;exact this
end fill
section ops
variable {E:Type} {cx:Cx} {w0:World} {I0 F0:Nat->Prop} {O0:B9} {Hd:Nat->Option Obj} {R:BV E} {e:E} {ds:List Deferred} {F:Nat->Prop} {lp:Nat->Option Nat} {suf:List Value}
variable {I:Nat->Prop} {L:AF} {st:St} {a:Act} {w:World} {o:Oper} {out:AO} {rop:AC}
theorem ZH (hs:SR lp I L st a.tmps.toList suf w) (hw:cx.Wd I w) (place:Nat->Option (Nat×Nat)):∀ (ps:List (Nat×Operand)) (rs:List (Nat×Nat×RX)) (z cs:List PV) (zv:Array Value),
  LO cx.G place ps=some rs->Aq w I lp (some L) z zv.toList->Bo zv.toList->EA st.tmps z rs=some cs ->
  ∃ cells,Instr.fill place zv (ps.map fun x=>(x.1,a.eval x.2))=some cells/\Aq w I lp (some L) cs cells.toList/\Bo cells.toList:=by
 intro ps;induction ps with
 | nil =>
  intro rs z cs zv hc hz ho hf;simp only[LO,Z6] at hc;subst hc;simp only[EA,Z6] at hf;subst hf;exact⟨zv,rfl,hz,ho⟩
 | cons p ps ih =>
  obtain⟨i,x⟩:=p;intro rs z cs zv hc hz ho hf;simp only[LO] at hc;split at hc
  case h_2=>cases hc
  rename_i off n y ys hp hy hys;cases hc;simp only[EA] at hf;obtain⟨hk,hf⟩:=Bn hf;simp only[Z2,decide_eq_true_eq] at hk;obtain⟨⟨k1,k2⟩,k3⟩:=hk;obtain⟨g1,g2⟩:=(Bx hs hw hy).cells k1;have hsz:(a.eval x).cells.size=n:=by have:=g2.length;simp at this;omega
  have hzl:=hz.length;simp only[bx] at hzl;obtain⟨cells',hc',hfill⟩:=VD (place:=place) (rest:=ps.map fun x=>(x.1,a.eval x.2)) hp hsz (cells:=zv) (by omega)
  have hrep:Aq w I lp (some L) (splice z off (y.ev st.tmps).cells) cells'.toList:=by
   rw[hc'];have:=hz.splice g2 off;simpa[hsz] using this
  have hone:Bo cells'.toList:=by rw[hc'];exact ho.splice g1 off (off+n)
  obtain⟨cells,h1,h2,h3⟩:=ih ys _ cs cells' hys hrep hone hf;exact⟨cells,by simpa[hfill] using h1,h2,h3⟩
theorem Y4 {P:Program} (fs:Array Field) (hfs:fs.all (fun f=>(P.info? f.type).isSome)=true) (w:World) :
  (fs.mapM fun (f:Field)=>(do pure (f.offset,<-sizeOf f.type):Sem (Nat×Nat))).run P w=.ok (fs.map fun f=>(f.offset,P.cellsOf f.type)) w:=by
 have key:∀ l:List Field,(∀ f∈l,(P.info? f.type).isSome=true)->(l.mapM fun (f:Field)=>(do pure (f.offset,<-sizeOf f.type):Sem (Nat×Nat))).run P w=.ok (l.map fun f=>(f.offset,P.cellsOf f.type)) w:=by
  intro l;induction l with
  | nil=>intro _;rfl
  | cons f l ih =>
   intro h;obtain⟨i,hi⟩:=bT.1 (h f (by simp));simp only[bi,Sem.run_bind,H6 hi,Result.andThen_ok,Sem.run_pure,ih fun g hg=>h g (by simp[hg]),ZZ];simp[Program.cellsOf,hi]
 rw[df];simp only[Sem.run_map,key fs.toList (fun f hf=>by simpa using (Array.all_eq_true_iff_forall_mem.1 hfs) f (by simpa using hf)),Result.andThen_ok];congr 1;exact Array.ext' (by simp)
theorem op_build (hs:SR lp I L st a.tmps.toList suf w) (hf:Fr cx w0 I0 F0 O0 Hd R e ds I F L w) {t:TypeId} {ps:Array (Nat×Operand)} (ho:o.op=.build t ps) {fs:Array Field} {z:List PV} {rs:List (Nat×Nat×RX)}
  (hu:cx.P.underlying t=some (.struct fs)) (hz:Gr cx.P t=some (.agg z)) (hfs:fs.all (fun f=>(cx.P.info? f.type).isSome)=true) (hc:LO cx.G (OJ cx.P fs) ps.toList=some rs)
  (h:exec (o.dst.getD 0) (Ak st.objs) st.tmps (.build z rs)=some out):BA cx w0 I0 F0 O0 Hd R e ds F lp suf o a w (apply st o.dst out):=by
 obtain⟨i,zv,hi,hz1,hrep⟩:=OO hz (w:=w) (I:=I) (lp:=lp) (L:=some L);obtain⟨zs,rfl,hone,hzr⟩:=PN hrep;simp only[exec] at h;split at h
 case h_2=>cases h
 rename_i cs hfl;cases h;obtain⟨cells,h1,h2,h3⟩:=ZH hs hf.wd _ _ _ _ _ _ hc hzr hone hfl;refine BP hs hf (v':=.agg cells) ?_ (.refl w) (.agg _ _ h3 h2)
 have hpl:OJ cx.P fs=fun j=>(fs.map fun f=>(f.offset,cx.P.cellsOf f.type))[j]?:=by
  funext j;unfold OJ;rw[Array.getElem?_map];cases hj:fs[j]? with
  | none=>rfl
  | some f =>
   obtain⟨inf,hinf⟩:=bT.1 ((Array.all_eq_true_iff_forall_mem.1 hfs) f (Array.mem_of_getElem? hj));simp[hinf,Program.cellsOf]
 rw[hpl] at h1
 have hrun:(Instr.build t (ps.map fun x=>(x.1,a.eval x.2))).run cx.P w=.ok (.agg cells) w:=by
  simp only[Instr.build,Sem.run_bind,zeroValue,typeInfo,run_program,Result.andThen_ok,hi,Sem.run_pure,hz1,run_underlying hu,Y4 fs hfs w,Value.cells,cN,h1]
 simp[execOp,ho,hrun]
theorem ZI (k:Nat):∀ (vs:List Value) (j:Nat) (cells:Array Value),(∀ v∈vs,v.cells.size=k)->(j+vs.length)*k<=cells.size ->
  ∃ cells',Instr.fill (fun i=>some (i*k,k)) cells ((vs.zipIdx j).map fun x=>(x.2,x.1))=some cells' /\
   cells'.toList=cells.toList.take (j*k)++vs.flatMap (fun v=>v.cells.toList)++cells.toList.drop ((j+vs.length)*k):=by
 intro vs;induction vs with
 | nil=>intro j cells _ _;exact⟨cells,rfl,by simp⟩
 | cons v vs ih =>
  intro j cells hv hle;simp only[be] at hle;have e1:(j+(vs.length+1))*k=j*k+k+vs.length*k:=by rw[au,au];omega
  have hvk:=hv v (by simp);obtain⟨c1,hc1,hf1⟩:=VD (place:=fun i=>some (i*k,k)) (cells:=cells) (i:=j) (v:=v) (rest:=(vs.zipIdx (j+1)).map fun x=>(x.2,x.1)) rfl hvk (by omega);have hl:c1.toList.length=cells.size:=by rw[hc1];simp[hvk];omega
  obtain⟨c2,hc2,hl2⟩:=ih (j+1) c1 (fun u hu=>hv u (by simp[hu])) (by
   have:c1.size=cells.size:=by simpa using hl
   rw[this,show j+1+vs.length=j+(vs.length+1) from by omega];exact hle)
  refine⟨c2,?_,?_⟩;·simp only[cM,ZZ,hf1];exact hc2
  ·rw[hl2,hc1];have e2:(j+1)*k=j*k+k:=by rw[au,bG]
   have e3:(j+1+vs.length)*k=j*k+k+vs.length*k:=by rw[au,au];omega
   have t1:(cells.toList.take (j*k)).length=j*k:=by simp;omega
   rw[e2,e3,be,e1];have a1:(cells.toList.take (j*k)++v.cells.toList).length=j*k+k:=by simp[hvk];omega
   rw[cm (by omega),av (l:=cells.toList.take (j*k)++v.cells.toList) (by omega)];rw[List.drop_append,a1,cD (l:=cells.toList.take (j*k)++v.cells.toList) (by omega),aK,bY,bQ];simp[aR,cq]
theorem XU (hs:SR lp I L st a.tmps.toList suf w) (hw:cx.Wd I w):∀ (ps:List (Nat×Operand)) (j:Nat) (rs:List RX),Mc cx.G j ps=some rs ->
  ∃ vs,ps.map (fun x=>(x.1,a.eval x.2))=(vs.zipIdx j).map (fun x=>(x.2,x.1))/\Aq w I lp (some L) (rs.map (RX.ev st.tmps)) vs:=by
 intro ps;induction ps with
 | nil=>intro j rs h;simp only[Mc,Z6] at h;subst h;exact⟨[],rfl,.nil⟩
 | cons p ps ih =>
  obtain⟨i,x⟩:=p;intro j rs h;simp only[Mc] at h;split at h
  case isFalse=>cases h
  rename_i hij;subst hij;split at h
  case h_2=>cases h
  rename_i y ys hy hys;cases h;obtain⟨vs,h1,h2⟩:=ih (i+1) ys hys;exact⟨a.eval x :: vs,by simp[h1],.cons _ _ _ _ (Bx hs hw hy) h2⟩
theorem Ry {w:World} {I:Nat->Prop} {lp:Nat->Option Nat} {L:Option AF} {k:Nat}:∀ {xs:List PV} {vs:List Value},Aq w I lp L xs vs->(xs.all fun x=>x.isVal&&x.cells.length==k)=true ->
  (∀ v∈vs,v.cells.size=k)/\(∀ x∈xs,x.cells.length=k)/\Bo (vs.flatMap fun v=>v.cells.toList)/\Aq w I lp L (cellsL xs) (vs.flatMap fun v=>v.cells.toList):=by
 intro xs;induction xs with
 | nil=>intro vs h _;cases h;exact⟨by simp,by simp,by simp[Bo],.nil⟩
 | cons x xs ih =>
  intro vs h hall;cases h with
  | cons _ v _ vs h hs =>
   simp only[bj,Z2,beq_iff_eq] at hall;obtain⟨⟨h1,h2⟩,h3⟩:=hall;obtain⟨i1,i2,i3,i4⟩:=ih hs (by simpa using h3);obtain⟨c1,c2⟩:=h.cells h1;have hl:=c2.length;simp only[bx] at hl;refine⟨?_,?_,?_,?_⟩
   ·intro u hu;rcases Z7.1 hu with rfl | hu;·omega
    ·exact i1 u hu
   ·intro u hu;rcases Z7.1 hu with rfl | hu;·exact h2
    ·exact i2 u hu
   ·rw[bu];exact c1.append' i3
   ·rw[bu];exact c2.append i4
theorem LC {P:Program} {t:TypeId} {k by_:Nat} {z:PV} (h:Gt P t=some (k,by_,z)) :
  ∃ e i zv,P.underlying t=some (.slice e)/\P.info? e=some i/\i.size=k/\i.bytes=by_/\by_<=65536/\i.zero=some zv/\z.cells.length=k/\z.isVal=true/\z.names=[] /\
   (∀ (w:World) (I:Nat->Prop) (lp:Nat->Option Nat) (L:Option AF),Aw w I lp L z zv):=by
 unfold Gt at h;split at h
 case h_2=>cases h
 rename_i e hu;split at h
 case h_2=>cases h
 rename_i i z' hi hz;split at h
 case isFalse=>cases h
 rename_i hb;cases h;have hval:=Ug hz;have hz0:=hz;unfold Gr at hz;simp only[aX] at hz;obtain⟨zv,⟨j,hj,hjz⟩,hp⟩:=hz;rw[hi] at hj;cases hj;exact⟨e,i,zv,hu,hi,rfl,rfl,hb.1,hjz,hb.2,hval,Xw 3 zv _ hp,fun w I lp L=>Rl 3 zv _ hp⟩
theorem Ns (hs:SR lp I L st a.tmps.toList suf w) (hf:Fr cx w0 I0 F0 O0 Hd R e ds I F L w) {d:Nat} (hd:o.dst=some d) (hc:st.objs[d]?=some [])
  {k kt:Nat} {xs:List PV} {c:Array Value} {t:TypeId} (hkt:kt=0\/t=kt) {cap:Nat} {w1:World} (hw:Km w w1) (hcap:xs.length<=cap) (hsz:cap*k<=c.size) (hk:∀ x∈xs,x.cells.length=k)
  (hone:Bo (c.toList.take (xs.length*k))) (hrep:Aq w I lp none (cellsL xs) (c.toList.take (xs.length*k)))
  (hr:(execOp a.eval o).run cx.P w=.ok (.value (.slice (some ⟨w.heap.size,0,none⟩) xs.length cap)) (w1.alloc (.cells c t))) :
  BA cx w0 I0 F0 O0 Hd R e ds F lp suf o a w (apply st o.dst {v:=.arr (d,0) k 0 xs.length,new:=[.arr k kt xs]}):=by
 have hs1:w1.heap.size=w.heap.size:=by rw[hw.heap]
 have hle:xs.length*k<=cap*k:=aS _ hcap;refine PC hs hf hd hc hw (C:=c.size) hr ?_ ?_
 ·intro L' hL;refine⟨c,t,by rw[<-hs1];exact Jb w1 _,rfl,⟨by omega,hkt⟩,hk,hone,?_⟩;exact Aq.mono (fun _ h=>h) (fun b hb=>by rw[EJ w1 _ (by have:=hf.sep.iB b hb;omega),hw.heap]) (fun _ _ h=>h) hrep
 ·intro L' hL;have:=Aw.arr (w:=w1.alloc (.cells c t)) (I:=I) (lp:=lp) (L:=L') (d,0) k 0 xs.length cap w.heap.size c.size hL (by simpa using hsz) hcap;simpa using this
end ops
end Go.Ab


namespace Go.Ab
section ops
variable {E:Type} {cx:Cx} {w0:World} {I0 F0:Nat->Prop} {O0:B9} {Hd:Nat->Option Obj} {R:BV E} {e:E} {ds:List Deferred} {F:Nat->Prop} {lp:Nat->Option Nat} {suf:List Value}
variable {I:Nat->Prop} {L:AF} {st:St} {a:Act} {w:World} {o:Oper} {out:AO} {rop:AC}
theorem YE (hs:SR lp I L st a.tmps.toList suf w) (hf:Fr cx w0 I0 F0 O0 Hd R e ds I F L w) {Rn:List Nm} (hR:Dw (Ak st.objs) Rn=true) {o:Oper} {out:AO} (hfrz:out.frz=[]) (hupd:out.upd=none) (hkill:out.kill=none)
  (h:∀ (L':AF),SR lp (inR I L Rn) L' (CZ (Ak st.objs) Rn st) a.tmps.toList suf w->Fr cx w0 I0 F0 O0 Hd R e ds (inR I L Rn) F L' w ->
   BA cx w0 I0 F0 O0 Hd R e ds F lp suf o a w (apply (CZ (Ak st.objs) Rn st) o.dst out)) (hne:Rn≠[]) :
  BA cx w0 I0 F0 O0 Hd R e ds F lp suf o a w (apply st o.dst {out with frz:=Rn}):=by
 have hd:=h _ (hs.freeze hR) (hf.freeze Rn)
 have e1:apply st o.dst {out with frz:=Rn}=apply (CZ (Ak st.objs) Rn st) o.dst out:=by
  cases Rn with
  | nil=>exact absurd rfl hne
  | cons r rs=>simp[apply,hfrz,hupd,hkill]
 rw[e1];exact hd
theorem Xv (t el:TypeId) (i:TypeInfo) (zv:Value) {P:Program} (hu:P.underlying t=some (.slice el)) (hi:P.info? el=some i) (hz:i.zero=some zv) (w:World) (len:Nat) (parts:Array (Nat×Value)) (h:len*i.size<=16777216)
  (vs:List Value) (hp:parts.toList=(vs.zipIdx 0).map fun x=>(x.2,x.1)) (hl:vs.length=len) (hv:∀ v∈vs,v.cells.size=i.size) :
  ∃ c:Array Value,c.toList=vs.flatMap (fun v=>v.cells.toList)/\(Instr.buildSlice t len parts).run P w=.ok (.slice (some ⟨w.heap.size,0,none⟩) len len) (w.alloc (.cells c el)):=by
 have go:∀ z0:Array Value,∃ c:Array Value,Instr.fill (fun j=>some (j*i.size,i.size)) ((Array.range (len*i.size)).map (z0[·%z0.size]!)) parts.toList=some c/\c.toList=vs.flatMap (fun v=>v.cells.toList):=by
  intro z0;obtain⟨c,h1,h2⟩:=ZI i.size vs 0 ((Array.range (len*i.size)).map (z0[·%z0.size]!)) hv (by simp[hl]);refine⟨c,by rw[hp];exact h1,?_⟩;rw[h2,Nat.zero_mul,List.take_zero,aK,cD (by simp[hl]),bz]
 by_cases h0:len*i.size=0
 ·obtain⟨c,h1,h2⟩:=go #[];refine⟨c,h2,?_⟩;simp only[Instr.buildSlice,Sem.run_bind,run_underlying hu,Result.andThen_ok,H6 hi];rw[if_neg (by omega),if_pos h0];rw[Sem.run_bind,Sem.run_pure,Result.andThen_ok,h1];simp[newRow]
 ·obtain⟨c,h1,h2⟩:=go zv.cells;refine⟨c,h2,?_⟩;simp only[Instr.buildSlice,Sem.run_bind,run_underlying hu,Result.andThen_ok,H6 hi];rw[if_neg (by omega)];rw[if_neg h0];simp only[Sem.run_pure,Result.andThen_ok,Sem.run_bind,zeroValue,typeInfo,run_program,hi,hz];rw[h1];simp[newRow]
theorem op_mkSl (hs:SR lp I L st a.tmps.toList suf w) (hf:Fr cx w0 I0 F0 O0 Hd R e ds I F L w) {t:TypeId} {len:Nat} {ps:Array (Nat×Operand)} (ho:o.op=.buildSlice t len ps) {k by_:Nat} {z:PV} {rs:List RX}
  (he:Gt cx.P t=some (k,by_,z)) (hc:Mc cx.G 0 ps.toList=some rs) (hl:rs.length=len) (hle:len*k<=16777216) {d:Nat} (hd:o.dst=some d) (hcl:st.objs[d]?=some [])
  (h:exec (o.dst.getD 0) (Ak st.objs) st.tmps (.mkSl k rs)=some out):BA cx w0 I0 F0 O0 Hd R e ds F lp suf o a w (apply st o.dst out):=by
 obtain⟨el,i,zv,hu,hi,hik,_,_,hz,_⟩:=LC he;obtain⟨vs,h1,h2⟩:=XU hs hf.wd _ _ _ hc;have hlen:=h2.length;rw[aL] at hlen
 have hrun:(∀ v∈vs,v.cells.size=k)->∃ c:Array Value,c.toList=vs.flatMap (fun v=>v.cells.toList)/\(execOp a.eval o).run cx.P w=.ok (.value (.slice (some ⟨w.heap.size,0,none⟩) len len)) (w.alloc (.cells c el)):=by
  intro hv;obtain⟨c,g1,g2⟩:=Xv t el i zv hu hi hz w len (ps.map fun x=>(x.1,a.eval x.2)) (by rw[hik];exact hle) vs (by simpa using h1) (by omega) (by rw[hik];exact hv);exact⟨c,g1,by simp[execOp,ho,g2]⟩
 simp only[exec,hd,aM] at h;split at h
 ·rename_i hS;obtain⟨hk,h⟩:=Bn h;cases h;obtain⟨v1,v2,v3,v4⟩:=Ry h2 hk;obtain⟨c,hc1,hr⟩:=hrun v1;have hS:AR (rs.map (RX.ev st.tmps))=[]:=by simpa using hS
  have hclo:=(Ry (h2.shut hS) hk).2.2.2;have hlc:=hclo.length;rw[Kp v2,<-hc1] at hlc;have hlx:(rs.map (RX.ev st.tmps)).length=len:=by simp[hl]
  rw[hlx] at hlc
  have:=Ns hs hf hd hcl (k:=k) (kt:=0) (xs:=rs.map (RX.ev st.tmps)) (c:=c) (t:=el) (.inl rfl) (cap:=len) (.refl w) (by omega) (by simp at hlc;omega) v2
   (by rw[hlx,hlc,bA,hc1];exact v3) (by rw[hlx,hlc,bA,hc1];exact hclo) (by rw[hlx];exact hr)
  simpa[hd] using this
 ·rename_i hS;obtain⟨hk,h⟩:=Bn h;cases h;simp only[Z2] at hk;obtain⟨hk,hR⟩:=hk
  have hne:Bb (Ak st.objs) AW (AR (rs.map (RX.ev st.tmps)))≠[]:=by
   intro e0;cases hn:AR (rs.map (RX.ev st.tmps)) with
   | nil=>rw[hn] at hS;simp at hS
   | cons m ms =>
    have:m∈Bb (Ak st.objs) AW (AR (rs.map (RX.ev st.tmps))):=Fd AW _ m (by rw[hn];exact aq);rw[e0] at this;cases this
  have hclo0:=OH hs hR h2 fun nm hn=>Fd _ _ nm hn;obtain⟨v1,v2,v3,hclo⟩:=Ry hclo0 hk;obtain⟨c,hc1,hr⟩:=hrun v1;have hlc:=hclo.length;rw[Kp v2,<-hc1] at hlc;have hlx:(A2 (BJ (Ak st.objs)) (rs.map (RX.ev st.tmps))).length=len:=by simp[OG,hl]
  rw[hlx] at hlc;have:=YE hs hf hR (o:=o) (out:={v:=.arr (d,0) k 0 (A2 (BJ (Ak st.objs)) (rs.map (RX.ev st.tmps))).length,new:=[.arr k 0 (A2 (BJ (Ak st.objs)) (rs.map (RX.ev st.tmps)))]}) rfl rfl rfl (fun L' hs' hf'=>?_) hne;·simpa[hd] using this
  ·have hcl':(CZ (Ak st.objs) (Bb (Ak st.objs) AW (AR (rs.map (RX.ev st.tmps)))) st).objs[d]?=some []:=by
    have key:∀ (R:List Nm) (σ:List (List Ob)),σ[d]?=some []->(R.foldl (fun objs nm=>Bl objs nm Bz) σ)[d]?=some []:=by
     intro R;induction R with
     | nil=>intro σ h;exact h
     | cons r R ih =>
      intro σ h;refine ih _ ?_;show (Bl σ r Bz)[d]?=some [];unfold Bl;split
      ·rename_i l hl;by_cases hrd:r.1=d
       ·rw[hrd] at hl;rw[h] at hl;cases hl;rw[hrd,bH (ac.1 h).1];rfl
       ·rw[aB hrd];exact h
      ·exact h
    refine key _ _ ?_;simp[D7,hcl]
   exact Ns hs' hf' hd hcl' (k:=k) (kt:=0) (c:=c) (t:=el) (.inl rfl) (cap:=len) (.refl w) (by omega) (by simp at hlc;omega) v2
    (by rw[hlx,hlc,bA,hc1];exact v3) (by rw[hlx,hlc,bA,hc1];exact hclo) (by rw[hlx];exact hr)
theorem Zl {x:PV} {n:Nat} (h:Dx x=some n):∃ k,x=.int k (n:Int):=by
 unfold Dx at h;split at h
 ·rename_i k m;split at h;·rename_i hm;cases h;exact⟨k,by rw[Int.toNat_of_nonneg hm]⟩
  ·cases h
 ·cases h
theorem JC {x:PV} {v:Value} (hx:Aw w I lp (some L) x v) {n:Nat} (h:Dx x=some n):∃ k,v=.int k (n:Int):=by
 obtain⟨k,hk⟩:=Zl h;rw[hk] at hx;exact⟨k,Ef hx⟩
theorem XC {w:World} {I:Nat->Prop} {lp:Nat->Option Nat} {L:Option AF} {z:PV} {zs:List Value} (h:Aq w I lp L z.cells zs) (l:Nat) :
  Aq w I lp L (cellsL (List.replicate l z)) (List.replicate l zs).flatten:=by
 induction l with
 | zero=>exact .nil
 | succ l ih=>rw[List.replicate_succ,List.replicate_succ,cellsL,List.flatten_cons];exact h.append ih
theorem op_mkS (hs:SR lp I L st a.tmps.toList suf w) (hf:Fr cx w0 I0 F0 O0 Hd R e ds I F L w) {t:TypeId} {x y:Operand} (ho:o.op=.makeSlice t x y) {k by_:Nat} {z:PV} {r1 r2:RX}
  (he:Gt cx.P t=some (k,by_,z)) (h1:rx cx.G x=some r1) (h2:rx cx.G y=some r2) {d:Nat} (hd:o.dst=some d) (hcl:st.objs[d]?=some [])
  (h:exec (o.dst.getD 0) (Ak st.objs) st.tmps (.mkS k z r1 r2)=some out):BA cx w0 I0 F0 O0 Hd R e ds F lp suf o a w (apply st o.dst out):=by
 obtain⟨el,i,zv,hu,hi,hik,hby,hb6,hz,hzk,hzv,hzn,hzr⟩:=LC he;have hx:=Bx hs hf.wd h1;have hy:=Bx hs hf.wd h2;simp only[exec,hd,aM] at h;split at h
 case h_2=>cases h
 rename_i l c hl hc;obtain⟨hk,h⟩:=Bn h;cases h;simp only[Z2,decide_eq_true_eq,beq_iff_eq] at hk;obtain⟨⟨hlc,hcm⟩,_⟩:=hk;unfold FA at hcm;obtain⟨k1,hk1⟩:=JC hx hl;obtain⟨k2,hk2⟩:=JC hy hc
 have hmul:i.bytes*c<=140737488355328:=calc i.bytes*c<=65536*2147483648:=Nat.mul_le_mul (by omega) hcm
  _=140737488355328:=by decide
 have hmulI:(i.bytes:Int)*(c:Int)<=140737488355328:=by
  have:((i.bytes*c:Nat):Int)<=((140737488355328:Nat):Int):=Int.ofNat_le.2 hmul
  rwa [Int.natCast_mul] at this
 have hrun:=run_make (P:=cx.P) w t el i zv hu hi hz k1 k2 (l:Int) (c:Int) (by omega) (by omega) (by omega) (by omega);simp only[ah] at hrun;obtain⟨hz1,hz2⟩:=(hzr w I lp none).cells hzv;have hzsz:zv.cells.size=k:=by have:=hz2.length;simp at this;omega
 have hmk:∀ n,n<=c->(madeCells zv.cells (c*k)).toList.take (n*k)=(List.replicate n zv.cells.toList).flatten:=by
  intro n hn;apply aO;intro j;by_cases hj:j < n*k
  ·have hk0:0 < k:=Nat.pos_of_ne_zero fun h0=>by simp[h0] at hj
   have hjc:j < c*k:=bh hj (aS _ hn);rw[b7 hj];have hmod:j%k < k:=cr _ hk0
   have key:∀ (n j:Nat),j < n*k->(List.replicate n zv.cells.toList).flatten[j]?=zv.cells.toList[j%k]?:=by
    intro n;induction n with
    | zero=>intro j hj;simp at hj
    | succ n ih =>
     intro j hj;rw[List.replicate_succ,List.flatten_cons];by_cases hjk:j < k
     ·rw[bv (by simp[hzsz,hjk]),cC hjk]
     ·rw[b8 (by simp[hzsz];omega)];simp only[bx,hzsz];rw[au,bG] at hj;rw[ih (j - k) (by omega),<-Nat.mod_eq_sub_mod (by omega)]
   rw[key n j hj];simp[madeCells,hjc,hzsz,hmod]
  ·rw[aA (by simp;omega),aA (by simp[hzsz];omega)]
 have hclen:∀ x∈List.replicate l z,x.cells.length=k:=fun x hx=>by rw[cO hx];exact hzk
 have hone:Bo (List.replicate l zv.cells.toList).flatten:=by
  intro v hv;obtain⟨u,hu1,hu2⟩:=List.mem_flatten.1 hv;rw[cO hu1] at hu2;exact hz1 v hu2
 have hrep:=XC hz2 l
 have:=Ns hs hf hd hcl (k:=k) (kt:=0) (xs:=List.replicate l z) (c:=madeCells zv.cells (c*k)) (t:=el) (.inl rfl) (cap:=c) (.refl w) (by simpa using hlc) (by simp[madeCells]) hclen
  (by rw[List.length_replicate,hmk l hlc];exact hone) (by rw[List.length_replicate,hmk l hlc];exact hrep)
  (by simp[execOp,ho,hk1,hk2,hrun,hik])
 simpa[hd] using this
theorem op_mkMap (hs:SR lp I L st a.tmps.toList suf w) (hf:Fr cx w0 I0 F0 O0 Hd R e ds I F L w) {t:TypeId} (ho:o.op=.makeMap t none) {d:Nat} (hd:o.dst=some d) (hcl:st.objs[d]?=some []) :
  BA cx w0 I0 F0 O0 Hd R e ds F lp suf o a w (apply st o.dst {v:=.mp (d,0),new:=[.map []]}):=by
 refine PC hs hf hd hcl (.refl w) (C:=0) (v':=.map (some w.heap.size)) (obj:=.map #[] 0) ?_ ?_ ?_
 ·have:(Instr.makeMap t none).run cx.P w=.ok (.map (some w.heap.size)) (w.alloc (.map #[] 0)):=rfl;simp[execOp,ho,this]
 ·intro L' hL;exact⟨#[],0,Jb w _,.nil⟩
 ·intro L' hL;exact .mp _ _ _ hL
theorem XN (hs:SR lp I L st a.tmps.toList suf w) (hf:Fr cx w0 I0 F0 O0 Hd R e ds I F L w) {t:TypeId} {x:Operand} {f:Nat} (ho:o.op=.fieldAddr t x f) {fs:Array Field} {fd:Field} {i:TypeInfo} {r:RX}
  (hu:cx.P.underlying t=some (.struct fs)) (hfd:fs[f]?=some fd) (hi:cx.P.info? fd.type=some i) (hz:i.size≠0) (h1:rx cx.G x=some r)
  (h:exec (o.dst.getD 0) (Ak st.objs) st.tmps (.fieldAddr fd.offset r)=some out):BA cx w0 I0 F0 O0 Hd R e ds F lp suf o a w (apply st o.dst out):=by
 have hx:=Bx hs hf.wd h1
 have hrun:∀ b off,a.eval x=.pointer (some ⟨b,off,none⟩)->(execOp a.eval o).run cx.P w=.ok (.value (.pointer (some ⟨b,off+fd.offset,none⟩))) w:=by
  intro b off hv;simp[execOp,ho,hv,Instr.fieldAt,run_underlying hu,hfd,Instr.sureAddr,fieldPlace,H6 hi,hz,ID]
 simp only[exec] at h;split at h
 ·rename_i nm off hr;rw[hr] at hx;cases h;obtain⟨b,C,hL,hv⟩:=FY hx;exact BP hs hf (hrun b off hv) (.refl w) (.ref nm _ b C hL)
 ·rename_i cs off hr;rw[hr] at hx;obtain⟨hk,h⟩:=Bn h;cases h;obtain⟨b,off0,c,E',fr,hv,g1,g2,g3,g4,g5,g6⟩:=Mb hx;have:=Aw.ptr (w:=w) (I:=I) (lp:=lp) (L:=some L) cs (off+fd.offset) b off0 c E' fr g1 g2 g3 (of_decide_eq_true hk) g5 g6;refine BP hs hf (hrun b _ hv) (.refl w) ?_
  rwa [cq]
 ·rename_i nm k j off hr;rw[hr] at hx;cases h;obtain⟨b,C,hL,hv⟩:=Pz hx;refine BP hs hf (hrun b _ hv) (.refl w) ?_;rw[cq];exact .aref nm k j _ b C hL
 ·cases h
theorem run_part {P:Program} {w:World} {t:TypeId} {n:Nat} {ag:Bool} (hsh:Hb P t=some (n,ag)) {vs:Array Value} {off:Nat} {v:Value}
  (hv:if ag then off+n<=vs.toList.length/\v=.agg ((vs.toList.drop off).take n).toArray else vs.toList[off]?=some v):(part t vs off).run P w=.ok v w:=by
 obtain⟨d,i,h1,h2,h3,h4⟩:=Q8 hsh;simp only[part,Sem.run_bind,U4 h1,Result.andThen_ok,h4];cases ag
 ·simp only[Z0,if_false,bZ] at hv |-;simp[hv]
 ·simp only[if_true] at hv |-;obtain⟨_,rfl⟩:=hv;simp[H6 h2,h3,MW]
theorem op_field (hs:SR lp I L st a.tmps.toList suf w) (hf:Fr cx w0 I0 F0 O0 Hd R e ds I F L w) {t:TypeId} {x:Operand} {f:Nat} (ho:o.op=.field t x f) {fs:Array Field} {fd:Field} {n:Nat} {ag:Bool} {r:RX}
  (hu:cx.P.underlying t=some (.struct fs)) (hfd:fs[f]?=some fd) (hsh:Hb cx.P fd.type=some (n,ag)) (h1:rx cx.G x=some r)
  (h:exec (o.dst.getD 0) (Ak st.objs) st.tmps (.field fd.offset n ag r)=some out):BA cx w0 I0 F0 O0 Hd R e ds F lp suf o a w (apply st o.dst out):=by
 have hx:=Bx hs hf.wd h1;simp only[exec] at h;split at h
 case h_2=>cases h
 rename_i cs hr;rw[hr] at hx;obtain⟨vs,hv,hone,hrep⟩:=PN hx;obtain⟨u,hu',rfl⟩:=Z3.1 h;obtain⟨v',hv',hrv⟩:=NL hrep hone hu';refine BP hs hf (v':=v') ?_ (.refl w) hrv;simp[execOp,ho,hv,Instr.field,run_underlying hu,hfd,asAgg,run_part hsh hv']
theorem TW {P:Program} {t el:TypeId} {i:TypeInfo} (hu:P.underlying t=some (.slice el)) (hi:P.info? el=some i) (w:World) (b off len cap:Nat) (k:IntKind) (j:Nat) (hj:j < len) :
  (Instr.indexAt t (.slice (some ⟨b,off,none⟩) len cap) (.int k (j:Int))).run P w=.ok (.pointer (some ⟨b,off+j*i.size,none⟩)) w:=by
 have h2:(0:Int)<=(j:Int)/\(j:Int) < (len:Int):=⟨by omega,by omega⟩;simp[Instr.indexAt,asIntOf,run_underlying hu,h2,H6 hi,ID];intro h;omega
theorem Zh (hs:SR lp I L st a.tmps.toList suf w) (hf:Fr cx w0 I0 F0 O0 Hd R e ds I F L w) {t:TypeId} {x y:Operand} (ho:o.op=.indexAddr t x y) {k by_:Nat} {z:PV} {r1 r2:RX}
  (he:Gt cx.P t=some (k,by_,z)) (h1:rx cx.G x=some r1) (h2:rx cx.G y=some r2)
  (h:exec (o.dst.getD 0) (Ak st.objs) st.tmps (.idxAddr k r1 r2)=some out):BA cx w0 I0 F0 O0 Hd R e ds F lp suf o a w (apply st o.dst out):=by
 obtain⟨el,i,zv,hu,hi,hik,_⟩:=LC he;have hx:=Bx hs hf.wd h1;have hy:=Bx hs hf.wd h2;simp only[exec] at h;split at h
 ·rename_i j k' xs full hj hr;rw[hr] at hx;obtain⟨kk,hky⟩:=JC hy hj;split at h
  case h_2=>cases h
  rename_i ev hev;obtain⟨hk,h⟩:=Bn h;cases h;simp only[Z2,beq_iff_eq,decide_eq_true_eq] at hk;obtain⟨rfl,hk0⟩:=hk;have hlt:=(ac.1 hev).1;rcases JS hx with ⟨b,off,cap,c,E',fr,hv,g1,g2,g3,g4,g5,g6,g7,g8⟩ | ⟨rfl,_⟩
  ·have hrun:=TW (P:=cx.P) hu hi w b off xs.length cap kk j hlt;rw[hik] at hrun;have hkx:=g4 ev (aj hev);have hmul:(j+1)*k<=xs.length*k:=aS _ hlt;rw[au,bG] at hmul
   have e1:(((c.toList.drop off).take (xs.length*k)).drop (j*k)).take k=(c.toList.drop (off+j*k)).take k:=by
    rw[br,aW,bQ,aT (by omega)]
   have:=Aw.ptr (w:=w) (I:=I) (lp:=lp) (L:=some L) ev.cells 0 b (off+j*k) c E' fr g1 g2 (by omega) (by omega) (by rw[hkx,<-e1];exact (g7.drop' _).take' _)
    (by rw[hkx,<-e1,<-RR g4 hev];exact (g8.drop _).take _)
   exact BP hs hf (v':=.pointer (some ⟨b,off+j*k,none⟩)) (by simp[execOp,ho,hv,hky,hrun]) (.refl w) (by simpa using this)
  ·simp at hev
 ·rename_i j nm k' off n hj hr;rw[hr] at hx;obtain⟨kk,hky⟩:=JC hy hj;obtain⟨hk,h⟩:=Bn h;cases h;simp only[Z2,beq_iff_eq,decide_eq_true_eq] at hk;obtain⟨rfl,hjn⟩:=hk;rcases JE hx with ⟨b,C,cap,hL,hv,_,_⟩ | ⟨_,_,_,hn0⟩
  ·have hrun:=TW (P:=cx.P) hu hi w b (off*k) n cap kk j hjn;rw[hik] at hrun;have:=Aw.aref (w:=w) (I:=I) (lp:=lp) nm k (off+j) 0 b C hL;refine BP hs hf (v':=.pointer (some ⟨b,off*k+j*k,none⟩)) (by simp[execOp,ho,hv,hky,hrun]) (.refl w) ?_;rw[au] at this;exact this
  ·omega
 ·cases h
theorem op_strIdx (hs:SR lp I L st a.tmps.toList suf w) (hf:Fr cx w0 I0 F0 O0 Hd R e ds I F L w) {t:TypeId} {x y:Operand} (ho:o.op=.index t x y) {r1 r2:RX}
  (hu:cx.P.underlying t=some .string) (h1:rx cx.G x=some r1) (h2:rx cx.G y=some r2)
  (h:exec (o.dst.getD 0) (Ak st.objs) st.tmps (.strIdx r1 r2)=some out):BA cx w0 I0 F0 O0 Hd R e ds F lp suf o a w (apply st o.dst out):=by
 have hx:=Bx hs hf.wd h1;have hy:=Bx hs hf.wd h2;simp only[exec] at h;split at h
 case h_2=>cases h
 rename_i j s hj hr;rw[hr] at hx;obtain⟨kk,hky⟩:=JC hy hj;split at h
 case h_2=>cases h
 rename_i b hb;cases h
 have hb':(⟨s.toArray⟩:ByteArray)[j]?=some b:=by
  obtain⟨h1,h2⟩:=ac.1 hb;have hsz:j < (⟨s.toArray⟩:ByteArray).size:=h1;rw[getElem?_pos (⟨s.toArray⟩:ByteArray) j hsz];exact congrArg some h2
 refine BP hs hf (v':=.int .u8 b.toNat) ?_ (.refl w) (.int _ _);simp[execOp,ho,Ff hx,hky,Instr.index,asIntOf,run_underlying hu,hb']
end ops
end Go.Ab


namespace Go.Ab
section ops
variable {E:Type} {cx:Cx} {w0:World} {I0 F0:Nat->Prop} {O0:B9} {Hd:Nat->Option Obj} {R:BV E} {e:E} {ds:List Deferred} {F:Nat->Prop} {lp:Nat->Option Nat} {suf:List Value}
variable {I:Nat->Prop} {L:AF} {st:St} {a:Act} {w:World} {o:Oper} {out:AO} {rop:AC}
theorem Yk (hs:SR lp I L st a.tmps.toList suf w) (hf:Fr cx w0 I0 F0 O0 Hd R e ds I F L w) {t el:TypeId} {n:Nat} {i:TypeInfo} {x y:Operand} (ho:o.op=.indexAddr t x y) {r1 r2:RX}
  (hu:cx.P.underlying t=some (.array n el)) (hi:cx.P.info? el=some i) (h1:rx cx.G x=some r1) (h2:rx cx.G y=some r2)
  (h:exec (o.dst.getD 0) (Ak st.objs) st.tmps (.idxAddrA i.size n r1 r2)=some out):BA cx w0 I0 F0 O0 Hd R e ds F lp suf o a w (apply st o.dst out):=by
 have hx:=Bx hs hf.wd h1;have hy:=Bx hs hf.wd h2
 have hrun:∀ (b off j:Nat) (kk:IntKind),a.eval x=.pointer (some ⟨b,off,none⟩)->a.eval y=.int kk (j:Int)->j < n ->
   (execOp a.eval o).run cx.P w=.ok (.value (.pointer (some ⟨b,off+j*i.size,none⟩))) w:=by
  intro b off j kk hv hk hj;have h2:(0:Int)<=(j:Int)/\(j:Int) < (n:Int):=⟨by omega,by omega⟩;simp[execOp,ho,hv,hk,Instr.indexAt,asIntOf,run_underlying hu,Instr.sureAddr,h2,H6 hi,ID];intro h;omega
 simp only[exec] at h;split at h
 ·rename_i j cs off hj hr;rw[hr] at hx;obtain⟨kk,hky⟩:=JC hy hj;obtain⟨hk,h⟩:=Bn h;cases h;simp only[Z2,decide_eq_true_eq] at hk;obtain⟨b,off0,c,E',fr,hv,g1,g2,g3,g4,g5,g6⟩:=Mb hx;have:=Aw.ptr (w:=w) (I:=I) (lp:=lp) (L:=some L) cs (off+j*i.size) b off0 c E' fr g1 g2 g3 hk.2 g5 g6;refine BP hs hf (hrun b _ j kk hv hky hk.1) (.refl w) ?_
  rwa [cq]
 ·rename_i j nm off hj hr;rw[hr] at hx;obtain⟨kk,hky⟩:=JC hy hj;obtain⟨hk,h⟩:=Bn h;cases h;obtain⟨b,C,hL,hv⟩:=FY hx;exact BP hs hf (hrun b _ j kk hv hky (of_decide_eq_true hk)) (.refl w) (.ref nm _ b C hL)
 ·cases h
theorem Is {P:Program} (w:World) (k:IntKind) (n y:Nat) (code:BoundsCode) (h:n<=y):(Instr.sliceBound (.int k (n:Int)) y code).run P w=.ok n w:=by
 have:(0:Int)<=(n:Int)/\(n:Int)<=(y:Int):=⟨by omega,by omega⟩;simp[Instr.sliceBound,asIntOf,this]
theorem Jm (hs:SR lp I L st a.tmps.toList suf w) (hw:cx.Wd I w) {xo:Option Operand} {r:Option RX} (hr:rxO cx.G xo=some r) {d top n:Nat} (h:CM (Cp st.tmps r) d top=some n) :
  (xo=none/\r=none/\n=d)\/(∃ x k rx',xo=some x/\r=some rx'/\a.eval x=.int k (n:Int)/\n<=top):=by
 cases xo with
 | none =>
  simp only[rxO,Z6] at hr;subst hr;simp only[CM,Cp,Z6] at h;exact .inl ⟨rfl,rfl,h.symm⟩
 | some x =>
  simp only[rxO,Z3] at hr;obtain⟨y,hy,rfl⟩:=hr;simp only[CM,Cp] at h;split at h
  ·rename_i m hm;obtain⟨hk,h⟩:=Bn h;cases h;obtain⟨k,hk'⟩:=JC (Bx hs hw hy) hm;exact .inr ⟨x,k,y,rfl,rfl,hk',of_decide_eq_true hk⟩
  ·cases h
theorem Kn {P:Program} (w:World) (isS:Bool) (len cap:Nat) (ev:Operand->Value) (lo hi mx:Option Operand) (l h m:Nat)
  (hm:(mx=none/\m=cap)\/(∃ x k,mx=some x/\ev x=.int k (m:Int)/\m<=cap))
  (hh:(hi=none/\mx=none/\h=len)\/(∃ x k,hi=some x/\ev x=.int k (h:Int)/\h<=m))
  (hl:(lo=none/\l=0)\/(∃ x k,lo=some x/\ev x=.int k (l:Int)/\l<=h)) :
  (Instr.sliceBounds isS len cap (lo.map ev) (hi.map ev) (mx.map ev)).run P w=.ok (l,h,m) w:=by
 unfold Instr.sliceBounds;rcases hm with ⟨rfl,rfl⟩ | ⟨xm,km,rfl,hxm,hmc⟩
 ·rcases hh with ⟨rfl,_,rfl⟩ | ⟨xh,kh,rfl,hxh,hhm⟩
  ·rcases hl with ⟨rfl,rfl⟩ | ⟨xl,kl,rfl,hxl,hlh⟩;·simp
   ·simp[hxl,Is w kl l _ _ hlh]
  ·rcases hl with ⟨rfl,rfl⟩ | ⟨xl,kl,rfl,hxl,hlh⟩;·simp[hxh,Is w kh h _ _ hhm]
   ·simp[hxh,Is w kh h _ _ hhm,hxl,Is w kl l _ _ hlh]
 ·rcases hh with ⟨rfl,hn,rfl⟩ | ⟨xh,kh,rfl,hxh,hhm⟩;·cases hn
  ·rcases hl with ⟨rfl,rfl⟩ | ⟨xl,kl,rfl,hxl,hlh⟩;·simp[hxm,Is w km m _ _ hmc,hxh,Is w kh h _ _ hhm]
   ·simp[hxm,Is w km m _ _ hmc,hxh,Is w kh h _ _ hhm,hxl,Is w kl l _ _ hlh]
theorem M3 {P:Program} {t el:TypeId} {i:TypeInfo} (hu:P.underlying t=some (.slice el)) (hi:P.info? el=some i) (w:World) (ad:Option Addr) (len cap:Nat) (ev:Operand->Value) (lo hi' mx:Option Operand) (l h m:Nat)
  (hb:(Instr.sliceBounds true len cap (lo.map ev) (hi'.map ev) (mx.map ev)).run P w=.ok (l,h,m) w) :
  (Instr.sliceAt t (.slice ad len cap) (lo.map ev) (hi'.map ev) (mx.map ev)).run P w=.ok (.slice (if m=l then ad else ad.map (·.add (l*i.size))) (h - l) (m - l)) w:=by
 simp[Instr.sliceAt,Instr.slice,run_underlying hu,hb,H6 hi]
theorem op_slice (hs:SR lp I L st a.tmps.toList suf w) (hf:Fr cx w0 I0 F0 O0 Hd R e ds I F L w) {t:TypeId} {x:Operand} {lo hi mx:Option Operand} (ho:o.op=.slice t x lo hi mx) {k by_:Nat} {z:PV} {r:RX} {rl rh rm:Option RX}
  (he:Gt cx.P t=some (k,by_,z)) (h1:rx cx.G x=some r) (hl:rxO cx.G lo=some rl) (hh:rxO cx.G hi=some rh) (hm:rxO cx.G mx=some rm)
  (h:exec (o.dst.getD 0) (Ak st.objs) st.tmps (.slice k r rl rh rm)=some out):BA cx w0 I0 F0 O0 Hd R e ds F lp suf o a w (apply st o.dst out):=by
 obtain⟨el,i,zv,hu,hi',hik,_⟩:=LC he;have hx:=Bx hs hf.wd h1;simp only[exec] at h;obtain⟨u,hu',rfl⟩:=Z3.1 h;clear h
 have bnds:∀ {len cap mA hA lA:Nat},len<=cap->CM (Cp st.tmps rm) len len=some mA->CM (Cp st.tmps rh) len mA=some hA->CM (Cp st.tmps rl) 0 hA=some lA ->
   ((Cp st.tmps rm).isNone||(Cp st.tmps rh).isSome)=true ->
   ∃ m,(Instr.sliceBounds true len cap (lo.map a.eval) (hi.map a.eval) (mx.map a.eval)).run cx.P w=.ok (lA,hA,m) w/\m<=cap/\hA<=m/\lA<=hA/\hA<=len/\(rm=none->m=cap)/\(rm≠none->m=mA):=by
  intro len cap mA hA lA hlc b1 b2 b3 b4;rcases Jm hs hf.wd hm b1 with ⟨e1,e2,e3⟩ | ⟨xm,km,rm',e1,e2,e3,e4⟩
  ·subst e1;subst e2;subst e3;rcases Jm hs hf.wd hh b2 with ⟨f1,f2,f3⟩ | ⟨xh,kh,rh',f1,f2,f3,f4⟩
   ·subst f1;subst f3;rcases Jm hs hf.wd hl b3 with ⟨g1,g2,g3⟩ | ⟨xl,kl,rl',g1,g2,g3,g4⟩
    ·subst g1;subst g3;exact⟨cap,Kn w true hA cap a.eval none none none 0 hA cap (.inl ⟨rfl,rfl⟩) (.inl ⟨rfl,rfl,rfl⟩) (.inl ⟨rfl,rfl⟩),Z5 _,hlc,by omega,Z5 _,fun _=>rfl,fun h=>absurd rfl h⟩
    ·subst g1;exact⟨cap,Kn w true hA cap a.eval (some xl) none none lA hA cap (.inl ⟨rfl,rfl⟩) (.inl ⟨rfl,rfl,rfl⟩) (.inr ⟨xl,kl,rfl,g3,g4⟩),Z5 _,hlc,g4,Z5 _,fun _=>rfl,fun h=>absurd rfl h⟩
   ·subst f1;rcases Jm hs hf.wd hl b3 with ⟨g1,g2,g3⟩ | ⟨xl,kl,rl',g1,g2,g3,g4⟩
    ·subst g1;subst g3;exact⟨cap,Kn w true mA cap a.eval none (some xh) none 0 hA cap (.inl ⟨rfl,rfl⟩) (.inr ⟨xh,kh,rfl,f3,by omega⟩) (.inl ⟨rfl,rfl⟩),Z5 _,by omega,by omega,f4,fun _=>rfl,fun h=>absurd rfl h⟩
    ·subst g1;exact⟨cap,Kn w true mA cap a.eval (some xl) (some xh) none lA hA cap (.inl ⟨rfl,rfl⟩) (.inr ⟨xh,kh,rfl,f3,by omega⟩) (.inr ⟨xl,kl,rfl,g3,g4⟩),Z5 _,by omega,g4,f4,fun _=>rfl,fun h=>absurd rfl h⟩
  ·subst e1;subst e2;rcases Jm hs hf.wd hh b2 with ⟨f1,f2,f3⟩ | ⟨xh,kh,rh',f1,f2,f3,f4⟩;·subst f2;simp[Cp] at b4
   ·subst f1;rcases Jm hs hf.wd hl b3 with ⟨g1,g2,g3⟩ | ⟨xl,kl,rl',g1,g2,g3,g4⟩
    ·subst g1;subst g3;exact⟨mA,Kn w true len cap a.eval none (some xh) (some xm) 0 hA mA (.inr ⟨xm,km,rfl,e3,by omega⟩) (.inr ⟨xh,kh,rfl,f3,f4⟩) (.inl ⟨rfl,rfl⟩),by omega,f4,by omega,by omega,fun h=>(by cases h),fun _=>rfl⟩
    ·subst g1;exact⟨mA,Kn w true len cap a.eval (some xl) (some xh) (some xm) lA hA mA (.inr ⟨xm,km,rfl,e3,by omega⟩) (.inr ⟨xh,kh,rfl,f3,f4⟩) (.inr ⟨xl,kl,rfl,g3,g4⟩),by omega,f4,g4,by omega,fun h=>(by cases h),fun _=>rfl⟩
 have isn:(Cp st.tmps rm).isNone=rm.isNone:=by cases rm<;>rfl
 have iss:(Cp st.tmps rm).isSome=rm.isSome:=by cases rm<;>rfl
 unfold FW at hu';split at hu'
 ·rename_i k' xs full hr;rw[hr] at hx;split at hu';·cases hu'
  rename_i mA b1;split at hu';·cases hu'
  rename_i hA b2;split at hu';·cases hu'
  rename_i lA b3;obtain⟨hk,hu2⟩:=Bn hu';clear hu';simp only[Z2,beq_iff_eq] at hk;obtain⟨rfl,b4⟩:=hk;cases hu2;rcases JS hx with ⟨b,off,cap,c,E',fr,hv,g1,g2,g3,g4,g5,g6,g7,g8⟩ | ⟨rfl,ad,cap,hv,g6⟩
  ·obtain⟨m,hrun,m1,m2,m3,m4,m5,m6⟩:=bnds g5 b1 b2 b3 b4;have hrun':=M3 (P:=cx.P) hu hi' w (some ⟨b,off,none⟩) xs.length cap a.eval lo hi mx lA hA m hrun;rw[hik] at hrun'
   have hfull:(if (Cp st.tmps rm).isSome=true then mA==hA else full&&hA==xs.length)=true->m=hA:=by
    intro hq;rw[iss] at hq;cases hrm:rm with
    | none =>
     rw[hrm] at hq;simp only[cP,Z0,if_false,Z2,beq_iff_eq] at hq;have:=m5 hrm;have:=g6 hq.1;omega
    | some y =>
     rw[hrm] at hq;simp only[Option.isSome_some,if_true,beq_iff_eq] at hq;have:=m6 (by rw[hrm];simp);omega
   by_cases hlh:hA=lA
   ·have hnil:(xs.take hA).drop lA=[]:=by rw[hlh];exact aU (by simp;omega)
    refine BP hs hf (v':=.slice (if m=lA then some ⟨b,off,none⟩ else (some (⟨b,off,none⟩:Addr)).map (·.add (lA*k))) (hA - lA) (m - lA)) (by simp[execOp,ho,hv,hrun']) (.refl w) ?_;rw[hnil,show hA - lA=0 from by omega];exact .slE k _ _ _ fun hq=>by have:=hfull hq;omega
   ·have hml:¬ m=lA:=by omega
    refine BP hs hf (v':=.slice (some ⟨b,off+lA*k,none⟩) (hA - lA) (m - lA)) (by simp[execOp,ho,hv,hrun',hml,ID]) (.refl w) ?_;have hlen:((xs.take hA).drop lA).length=hA - lA:=by simp;omega
    have hmul:hA*k<=xs.length*k:=aS _ m4;have hspl:hA*k=lA*k+(hA - lA)*k:=by rw[<-au];congr 1;omega
    have hmem:∀ y∈(xs.take hA).drop lA,y.cells.length=k:=fun y hy=>g4 y (aQ (bf hy))
    have e1:((((c.toList.drop off).take (xs.length*k)).take (hA*k)).drop (lA*k))=(c.toList.drop (off+lA*k)).take ((hA - lA)*k):=by
     rw[aW,aT hmul,br,bQ,show hA*k - lA*k=(hA - lA)*k from by omega]
    have:=Aw.sl (w:=w) (I:=I) (lp:=lp) (L:=some L) k ((xs.take hA).drop lA) (if (Cp st.tmps rm).isSome=true then mA==hA else full&&hA==xs.length) b (off+lA*k) (m - lA) c E' fr g1 g2
     (by rw[hlen];omega) hmem (by rw[hlen];omega) (fun hq=>by rw[hlen];have:=hfull hq;omega) (by rw[hlen,<-e1];exact (g7.take' _).drop' _)
     (by rw[hlen,<-e1,LD (fun y hy=>g4 y (aQ hy)),Jh g4];exact (g8.take _).drop _)
    rwa [hlen] at this
  ·obtain⟨m,hrun,m1,m2,m3,m4,m5,m6⟩:=bnds (len:=0) (cap:=cap) (by omega) b1 b2 b3 b4;have hrun':=M3 (P:=cx.P) hu hi' w ad 0 cap a.eval lo hi mx lA hA m hrun;have hA0:hA=0:=by simpa using m4
   have hl0:lA=0:=by omega
   refine BP hs hf (v':=.slice (if m=lA then ad else ad.map (·.add (lA*i.size))) (hA - lA) (m - lA)) (by simp[execOp,ho,hv,hrun']) (.refl w) ?_;subst hA0;subst hl0;have hnil:((([]:List PV).take 0).drop 0)=[]:=rfl;rw[hnil];refine .slE k _ _ _ fun hq=>?_;rw[iss] at hq;cases hrm:rm with
   | none =>
    rw[hrm] at hq;simp only[cP,Z0,if_false,Z2] at hq;have:=m5 hrm;have:=g6 hq.1;omega
   | some y =>
    rw[hrm] at hq;simp only[Option.isSome_some,if_true,beq_iff_eq] at hq;have:=m6 (by rw[hrm];simp);omega
 ·rename_i nm k' off n hr;rw[hr] at hx;split at hu';·cases hu'
  rename_i mA b1;split at hu';·cases hu'
  rename_i hA b2;split at hu';·cases hu'
  rename_i lA b3;obtain⟨hk,hu2⟩:=Bn hu';clear hu';simp only[Z2,beq_iff_eq] at hk;obtain⟨rfl,b4⟩:=hk;cases hu2;rcases JE hx with ⟨b,C,cap,hL,hv,hC,hn⟩ | ⟨hL,hv,rfl,rfl⟩
  ·obtain⟨m,hrun,m1,m2,m3,m4,m5,m6⟩:=bnds hn b1 b2 b3 b4;have hrun':=M3 (P:=cx.P) hu hi' w (some ⟨b,off*k,none⟩) n cap a.eval lo hi mx lA hA m hrun;rw[hik] at hrun';refine BP hs hf (v':=.slice (if m=lA then some ⟨b,off*k,none⟩ else (some (⟨b,off*k,none⟩:Addr)).map (·.add (lA*k))) (hA - lA) (m - lA)) (by simp[execOp,ho,hv,hrun']) (.refl w) ?_;split
   ·rename_i hz;rw[show hA - lA=0 from by omega];exact .slE k false _ _ (by simp)
   ·rename_i hz;have hCm:(off+lA+(m - lA))*k<=C:=ci (aS _ (by omega)) hC;have key:=Aw.arr (w:=w) (I:=I) (lp:=lp) nm k (off+lA) (hA - lA) (m - lA) b C hL hCm (by omega);by_cases hml:m=lA
    ·have hl0:lA=0:=by omega
     subst hl0;simpa[hml] using key
    ·simpa[hml,ID,au] using key
  ·obtain⟨m,hrun,m1,m2,m3,m4,m5,m6⟩:=bnds (len:=0) (cap:=0) (by omega) b1 b2 b3 b4;have hrun':=M3 (P:=cx.P) hu hi' w none 0 0 a.eval lo hi mx lA hA m hrun;have hA0:hA=0:=by omega
   have hl0:lA=0:=by omega
   have hm0:m=0:=by omega
   subst hA0;subst hl0;subst hm0;refine BP hs hf (v':=.slice none 0 0) (by simp[execOp,ho,hv,hrun']) (.refl w) ?_;simpa using Aw.arrN nm k hL
 ·rename_i hr;rw[hr] at hx;split at hu';·cases hu'
  rename_i mA b1;split at hu';·cases hu'
  rename_i hA b2;split at hu';·cases hu'
  rename_i lA b3;obtain⟨b4,hu'⟩:=Bn hu';cases hu';obtain⟨m,hrun,m1,m2,m3,m4,m5,m6⟩:=bnds (len:=0) (cap:=0) (by omega) b1 b2 b3 b4;have hrun':=M3 (P:=cx.P) hu hi' w none 0 0 a.eval lo hi mx lA hA m hrun;have hA0:hA=0:=by omega
  have hl0:lA=0:=by omega
  have hm0:m=0:=by omega
  subst hA0;subst hl0;subst hm0;exact BP hs hf (v':=.slice none 0 0) (by simp[execOp,ho,Gm hx,hrun']) (.refl w) .nilS
 ·cases hu'
theorem Yj (hs:SR lp I L st a.tmps.toList suf w) (hf:Fr cx w0 I0 F0 O0 Hd R e ds I F L w) {t:TypeId} {x:Operand} {lo hi:Option Operand} (ho:o.op=.slice t x lo hi none) {r:RX} {rl rh:Option RX}
  (hu:cx.P.underlying t=some .string) (h1:rx cx.G x=some r) (hl:rxO cx.G lo=some rl) (hh:rxO cx.G hi=some rh)
  (h:exec (o.dst.getD 0) (Ak st.objs) st.tmps (.strSlice r rl rh)=some out):BA cx w0 I0 F0 O0 Hd R e ds F lp suf o a w (apply st o.dst out):=by
 have hx:=Bx hs hf.wd h1;simp only[exec] at h;split at h
 case h_2=>cases h
 rename_i s hr;rw[hr] at hx;split at h;·cases h
 rename_i hA b2;split at h;·cases h
 rename_i lA b3;cases h
 have hb:(Instr.sliceBounds false s.length s.length (lo.map a.eval) (hi.map a.eval) none).run cx.P w=.ok (lA,hA,s.length) w:=by
  refine Kn w false s.length s.length a.eval lo hi none lA hA s.length (.inl ⟨rfl,rfl⟩) ?_ ?_
  ·rcases Jm hs hf.wd hh b2 with ⟨f1,f2,f3⟩ | ⟨xh,kh,rh',f1,f2,f3,f4⟩;·exact .inl ⟨f1,rfl,f3⟩
   ·exact .inr ⟨xh,kh,f1,f3,f4⟩
  ·rcases Jm hs hf.wd hl b3 with ⟨f1,f2,f3⟩ | ⟨xh,kh,rh',f1,f2,f3,f4⟩;·exact .inl ⟨f1,f3⟩
   ·exact .inr ⟨xh,kh,f1,f3,f4⟩
 have hsz:(⟨s.toArray⟩:ByteArray).size=s.length:=by simp[ByteArray.size]
 refine BP hs hf (v':=.string ⟨((s.take hA).drop lA).toArray⟩) ?_ (.refl w) (.str _);simp[execOp,ho,Ff hx,Instr.sliceAt,Instr.slice,run_underlying hu,hsz,hb,ByteArray.extract_mk,br]
end ops
end Go.Ab


namespace Go.Ab
structure Src (P:Program) (w:World) (I:Nat->Prop) (lp:Nat->Option Nat) (size:Nat) (x:Value) (ys:List PV) (news:List Value):Prop where
 len:Builtin.lenOf x=pure ys.length
 first:∀ n,n<=ys.length->∀ w':World,w'.heap=w.heap->(Builtin.firstCells size n x).run P w'=.ok (news.take (n*size)).toArray w'
 lenN:news.length=ys.length*size
 one:Bo news
 rep:Aq w I lp none (cellsL ys) news
 each:∀ y∈ys,y.cells.length=size
theorem Pi {P:Program} {w:World} {b off N size:Nat} {c:Array Value} {E:TypeId} {fr:Nat×Nat} (hb:w.heap[b]?=some (.cells c E fr)) (hle:off+N<=c.size) {n len cap:Nat} (hn:n*size<=N) {w':World} (hw:w'.heap=w.heap) :
  (Builtin.firstCells size n (.slice (some ⟨b,off,none⟩) len cap)).run P w'=.ok (((c.toList.drop off).take N).take (n*size)).toArray w':=by
 have hl:(((c.toList.drop off).take N).take (n*size)).length=n*size:=by simp;omega
 refine run_firstCells_some w' size n ⟨b,off,none⟩ len cap _ hl ?_;intro j v hj;have hjn:j < n*size:=by have:=(ac.1 hj).1;omega
 rw[ID,NI (by rw[hw];exact hb)];rw[aW,b7 (by omega),ck] at hj;simpa using hj
theorem RL {P:Program} {size:Nat} {w':World} {len cap:Nat}:(Builtin.firstCells size 0 (.slice none len cap)).run P w'=.ok #[] w':=by simp[Builtin.firstCells]
theorem OX {P:Program} {size:Nat} {w':World} {a:Option Addr} {len cap:Nat}:(Builtin.firstCells size 0 (.slice a len cap)).run P w'=.ok #[] w':=by
 cases a with
 | none=>exact RL
 | some a =>
  have:=run_firstCells_some (P:=P) w' size 0 a len cap [] (by simp) (by simp);simpa using this
theorem TP {w:World} {I:Nat->Prop} {lp:Nat->Option Nat} (s:List UInt8):Aq w I lp none (cellsL (DF s)) (s.map fun b=>Value.int .u8 (b.toNat:Int)):=by
 induction s with
 | nil=>exact .nil
 | cons b s ih=>exact .cons _ _ _ _ (.int .u8 _) ih
theorem kt_old {kt E:Nat} (h:kt=0\/E=kt) (el:Nat):(if kt=el then el else 0)=0\/E=(if kt=el then el else 0):=by
 by_cases h2:kt=el
 ·rw[if_pos h2,<-h2];exact h
 ·rw[if_neg h2];exact .inl rfl
theorem kt_new (kt el:Nat):(if kt=el then el else 0)=0\/el=(if kt=el then el else 0):=by
 by_cases h2:kt=el
 ·rw[if_pos h2];exact .inr rfl
 ·rw[if_neg h2];exact .inl rfl
section ops
variable {E:Type} {cx:Cx} {w0:World} {I0 F0:Nat->Prop} {O0:B9} {Hd:Nat->Option Obj} {R:BV E} {e:E} {ds:List Deferred} {F:Nat->Prop} {lp:Nat->Option Nat} {suf:List Value}
variable {I:Nat->Prop} {L:AF} {st:St} {a:Act} {w:World} {o:Oper} {out:AO} {rop:AC}
theorem VG (P:Program) (hs:SR lp I L st a.tmps.toList suf w) {k:Nat} {x:PV} {v:Value} (hx:Aw w I lp (some L) x v) {ys:List PV} (h:elems (Ak st.objs) k x=some ys) :
  ∃ news,Src P w I lp k v ys news:=by
 unfold elems at h;split at h
 ·obtain⟨hk,h2⟩:=Bn h;cases h2;have hk:=beq_iff_eq.1 hk;subst hk;rcases JS hx with ⟨b,off,cap,c,E',fr,rfl,g1,g2,g3,g4,g5,g6,g7,g8⟩ | ⟨rfl,ad,cap,rfl,_⟩;·exact⟨_,rfl,fun n hn w' hw=>Pi g2 g3 (aS _ hn) hw,by simp;omega,g7,g8,g4⟩
  ·refine⟨[],rfl,fun n hn w' _=>?_,by simp,by simp[Bo],.nil,by simp⟩;have:n=0:=by simpa using hn
   subst this;simpa using OX (P:=P) (w':=w')
 ·rename_i nm k' off n;split at h
  case h_2=>cases h
  rename_i k'' kt xs hlk;obtain⟨hk,h2⟩:=Bn h;cases h2;simp only[Z2,beq_iff_eq,decide_eq_true_eq] at hk;obtain⟨⟨rfl,rfl⟩,hle⟩:=hk;obtain⟨p,hp,ha⟩:=hs.ob nm _ hlk;rcases JE hx with ⟨b,C,cap,hL,rfl,hC,hn⟩ | ⟨hL,rfl,rfl,rfl⟩
  ·rw[hL] at hp;cases hp;obtain⟨c,E',hb,hC',hxs,hkx,hone,hrep⟩:=ha;have hlen:((xs.drop off).take n).length=n:=by simp;omega
   have hmul:(off+n)*k<=xs.length*k:=aS _ hle;rw[au] at hmul
   have e1:((c.toList.take (xs.length*k)).drop (off*k)).take (n*k)=(c.toList.drop (off*k)).take (n*k):=by
    rw[br,aW,aT (by omega)]
   refine⟨(c.toList.drop (off*k)).take (n*k),by rw[hlen];rfl,fun m hm w' hw=>?_,by rw[hlen];simp;omega,?_,?_,?_⟩
   ·rw[hlen] at hm;exact Pi hb (by omega) (aS _ hm) hw
   ·rw[<-e1];exact (hone.drop' _).take' _
   ·have:=(hrep.drop (off*k)).take (n*k)
    rwa [<-LD hkx,<-Jh (fun x hx=>hkx x (bf hx)),e1] at this
   ·exact fun y hy=>hkx y (bf (aQ hy))
  ·refine⟨[],rfl,fun n hn w' _=>?_,by simp,by simp[Bo],by rw[List.take_zero];exact .nil,by simp⟩;have:n=0:=by simpa using hn
   subst this;simpa using OX (P:=P) (w':=w')
 ·cases h;rw[Gm hx];refine⟨[],rfl,fun n hn w' _=>?_,by simp,by simp[Bo],.nil,by simp⟩;have:n=0:=by simpa using hn
  subst this;simpa using OX (P:=P) (w':=w')
 ·rename_i s;obtain⟨hk,h2⟩:=Bn h;cases h2;have hk:=beq_iff_eq.1 hk;subst hk;rw[Ff hx];refine⟨s.map fun b=>Value.int .u8 (b.toNat:Int),by simp[Builtin.lenOf,DF,ByteArray.size],fun n hn w' _=>?_,by simp[DF],?_,TP s,?_⟩;·simp[Builtin.firstCells,ByteArray.extract_mk]
  ·intro v hv;obtain⟨b,_,rfl⟩:=Z4.1 hv;rfl
  ·intro y hy;obtain⟨b,_,rfl⟩:=Z4.1 hy;rfl
 ·cases h
theorem OF {P:Program} {w:World} {t u el ty:TypeId} {ats:Array TypeId} (a0:ats[0]?=some t) (a1:ats[1]?=some u) {i:TypeInfo} {zv:Value} {d:TypeDesc} (hu:P.underlying t=some (.slice el)) (hi:P.info? el=some i) (hz:i.zero=some zv)
  (hu2:P.underlying u=some d) (hd:d=.string\/∃ e',d=.slice e') {base:Option Addr} {sLen sCap:Nat} {olds:List Value} (hold:∀ w':World,w'.heap=w.heap->(Builtin.firstCells i.size sLen (.slice base sLen sCap)).run P w'=.ok olds.toArray w')
  {x:Value} {m:Nat} {news:List Value} (hl:Builtin.lenOf x=pure m) (hnew:∀ w':World,w'.heap=w.heap->(Builtin.firstCells i.size m x).run P w'=.ok news.toArray w')
  (hg:sCap < sLen+m) (hle:sLen+m<=FA) (hb:i.bytes<=65536) :
  (Builtin.append_ ats ty #[.slice base sLen sCap,x]).run P w=.ok (.slice (some ⟨w.heap.size,0,none⟩) (sLen+m) (grownCap w (sLen+m) sCap el))
   (w.drew.alloc (.cells (olds.toArray++news.toArray++Builtin.zeroCells zv.cells (grownCap w (sLen+m) sCap el - (sLen+m))) el)):=by
 have hn:¬ (sLen+m<=sCap):=by omega
 unfold FA at hle;have h63':¬ (9223372036854775807 < ((sLen:Int)+(m:Int))):=by omega
 have hmul:(sLen+m)*i.bytes<=140737488355328:=calc (sLen+m)*i.bytes<=2147483648*65536:=Nat.mul_le_mul hle hb
  _=140737488355328:=by decide
 have hfit:=growslice_fits hg hmul;have h48':¬ (281474976710656 < Builtin.nextslicecap (sLen+m) sCap*i.bytes):=by omega
 have hf:=hnew w.drew rfl;have hfo:=hold w.drew rfl;rcases hd with rfl | ⟨e',rfl⟩
 ·simp[Builtin.append_,a0,a1,run_underlying hu,run_underlying hu2,sizeOf,typeInfo,zeroValue,hi,hz,hl,hn,h63',h48',Question.forced,hf,hfo,newRow,grownCap];congr 2;exact Array.ext' (by simp[aR])
 ·simp[Builtin.append_,a0,a1,run_underlying hu,run_underlying hu2,sizeOf,typeInfo,zeroValue,hi,hz,hl,hn,h63',h48',Question.forced,hf,hfo,newRow,grownCap];congr 2;exact Array.ext' (by simp[aR])
theorem Q6 {P:Program} {w:World} {t u el ty:TypeId} {ats:Array TypeId} (a0:ats[0]?=some t) (a1:ats[1]?=some u) {i:TypeInfo} {d:TypeDesc} (hu:P.underlying t=some (.slice el)) (hi:P.info? el=some i)
  (hu2:P.underlying u=some d) (hd:d=.string\/∃ e',d=.slice e') {base:Option Addr} {sLen sCap:Nat}
  {x:Value} {m:Nat} {news:List Value} (hl:Builtin.lenOf x=pure m) (hnew:(Builtin.firstCells i.size m x).run P w=.ok news.toArray w)
  (hn:sLen+m<=sCap) {w':World} (hst:(match base with | some a=>storeCells (a.add (sLen*i.size)) news | none=>pure ()).run P w=.ok () w') :
  (Builtin.append_ ats ty #[.slice base sLen sCap,x]).run P w=.ok (.slice base (sLen+m) sCap) w':=by
 cases base with
 | none =>
  have hst:w=w':=by simpa using hst
  subst hst;rcases hd with rfl | ⟨e',rfl⟩<;>simp[Builtin.append_,a0,a1,run_underlying hu,run_underlying hu2,sizeOf,typeInfo,hi,hl,hn,hnew]
 | some a =>
  simp only at hst;rcases hd with rfl | ⟨e',rfl⟩<;>simp[Builtin.append_,a0,a1,run_underlying hu,run_underlying hu2,sizeOf,typeInfo,hi,hl,hn,hnew,hst]
theorem ZO (hs:SR lp I L st a.tmps.toList suf w) (hf:Fr cx w0 I0 F0 O0 Hd R e ds I F L w) {d:Nat} (hd:o.dst=some d) (hc:st.objs[d]?=some []) {k kt:Nat}
  (hr:(execOp a.eval o).run cx.P w=.ok (.value (.slice none 0 0)) w) :
  BA cx w0 I0 F0 O0 Hd R e ds F lp suf o a w (apply st o.dst {v:=.arr (d,0) k 0 0,new:=[.arr k kt []]}):=by
 have hn:=hs.news hc [.arr k kt []] [none] rfl (by
  intro j ob p h1 h2;cases j with
  | zero=>simp at h1 h2;subst h1;subst h2;exact⟨k,_,rfl⟩
  | succ j=>simp at h1)
 refine⟨.slice none 0 0,w,I,Cr L d [none],.inl hr,?_,?_⟩
 ·rw[H8,hd];exact hn.put d (.arrN _ k (by simp[Cr]))
 ·refine Fr.news hf hc rfl rfl rfl (Z5 _) (fun _ _=>rfl) ?_ ?_
  ·intro j b C hj;cases j with
   | zero=>simp at hj
   | succ j=>simp at hj
  ·intro j j' b C C' h1 _;cases j with
   | zero=>simp at h1
   | succ j=>simp at h1
theorem Pg {w:World} {I:Nat->Prop} {lp:Nat->Option Nat} {k:Nat} {xs ys:List PV} {olds news:List Value} {zs:Array Value} (h1:Aq w I lp none (cellsL xs) olds) (h2:Aq w I lp none (cellsL ys) news)
  (o1:Bo olds) (o2:Bo news) (k1:∀ x∈xs,x.cells.length=k) (k2:∀ x∈ys,x.cells.length=k) :
  (∀ x∈xs++ys,x.cells.length=k)/\Bo (((olds.toArray++news.toArray++zs).toList).take ((xs++ys).length*k))/\Aq w I lp none (cellsL (xs++ys)) (((olds.toArray++news.toArray++zs).toList).take ((xs++ys).length*k)):=by
 have l1:=h1.length;have l2:=h2.length;rw[Kp k1] at l1;rw[Kp k2] at l2
 have e:((olds.toArray++news.toArray++zs).toList).take ((xs++ys).length*k)=olds++news:=by
  simp only[Array.toList_append];rw[cm (by simp[au];omega),av (by simp[au];omega)]
 rw[e,Kq];refine⟨fun x hx=>(ar.1 hx).elim (k1 x) (k2 x),o1.append' o2,h1.append h2⟩
theorem Ve (hs:SR lp I L st a.tmps.toList suf w) (hf:Fr cx w0 I0 F0 O0 Hd R e ds I F L w) {c:Call} (ho:o.op=.call c) {x y:Operand} (hcal:c.callee=.builtin .append) {ty u:TypeId} (a0:c.argTypes[0]?=some ty) (a1:c.argTypes[1]?=some u) (harg:c.args=#[x,y])
  {k by_:Nat} {z:PV} {r1 r2:RX} (he:Gt cx.P ty=some (k,by_,z)) {el:TypeId} (hel:cx.P.underlying ty=some (.slice el)) {du:TypeDesc} (hu2:cx.P.underlying u=some du) (hdu:du=.string\/∃ e',du=.slice e')
  (h1:rx cx.G x=some r1) (h2:rx cx.G y=some r2) {d:Nat} (hd:o.dst=some d) (hcl:st.objs[d]?=some [])
  (h:exec (o.dst.getD 0) (Ak st.objs) st.tmps (.append k el r1 r2)=some out):BA cx w0 I0 F0 O0 Hd R e ds F lp suf o a w (apply st o.dst out):=by
 obtain⟨el',i,zv,hu,hi,hik,hby,hb6,hz,hzk,hzv,hzn,hzr⟩:=LC he;rw[hu] at hel;cases hel;have hx:=Bx hs hf.wd h1;have hy:=Bx hs hf.wd h2
 have hrun:∀ {v' w'},(Builtin.append_ c.argTypes o.type #[a.eval x,a.eval y]).run cx.P w=.ok v' w'->(execOp a.eval o).run cx.P w=.ok (.value v') w':=by
  intro v' w' hr;simp[execOp,ho,resolve,hcal,harg,invoke,builtin,hr]
 simp only[exec,hd,aM] at h;split at h;·cases h
 rename_i ys hys;obtain⟨news,hsrc⟩:=VG cx.P hs hy hys
 have hnew:∀ w':World,w'.heap=w.heap->(Builtin.firstCells i.size ys.length (a.eval y)).run cx.P w'=.ok news.toArray w':=fun w' hw=>by
  have:=hsrc.first ys.length (Z5 _) w' hw;rw[av (by rw[hsrc.lenN];exact Z5 _)] at this;rw[hik];exact this
 have hkm:∀ w':World,(∀ b,I b->w'.heap[b]?=w.heap[b]?)->Aq w' I lp none (cellsL ys) news:=fun w' hw=>Aq.mono (fun _ h=>h) hw (fun _ _ h=>h) hsrc.rep;split at h
 ·rename_i hr;rw[hr] at hx;have hxv:=Gm hx;obtain⟨hk,h⟩:=Bn h;cases h;have hk:=of_decide_eq_true hk;by_cases hy0:ys=[]
  ·subst hy0;have hn0:news=[]:=by have:=hsrc.lenN;simpa using this
   have hr0:=Q6 (P:=cx.P) (w:=w) (ty:=o.type) a0 a1 hu hi hu2 hdu (base:=none) (sLen:=0) (sCap:=0) hsrc.len (hnew w rfl) (by simp) (w':=w) rfl;have:=ZO hs hf hd hcl (k:=k) (kt:=el) (hrun (by rw[hxv];exact hr0));simpa[hd] using this
  ·have hpos:0 < ys.length:=List.length_pos_iff.2 hy0;have hr0:=OF (P:=cx.P) (w:=w) (ty:=o.type) a0 a1 hu hi hz hu2 hdu (base:=none) (sLen:=0) (sCap:=0) (olds:=[]) (fun w' _=>RL) hsrc.len hnew (by omega) (by omega) (by omega);simp only[az] at hr0;have hge:=grownCap_ge w ys.length 0 el;obtain⟨k3,o3,r3⟩:=Pg (w:=w) (I:=I) (lp:=lp) (xs:=[]) (olds:=[]) (zs:=Builtin.zeroCells zv.cells (grownCap w ys.length 0 el - ys.length)) .nil hsrc.rep (by simp[Bo]) hsrc.one (by simp) hsrc.each;simp only[aK] at k3 o3 r3
   have:=Ns hs hf hd hcl (k:=k) (kt:=el) (xs:=ys) (t:=el) (.inr rfl) (cap:=grownCap w ys.length 0 el) (w1:=w.drew) ⟨rfl,rfl,rfl,rfl⟩ hge (by
     simp only[cy,cQ,size_zeroCells,hsrc.lenN,b9]
     have hzs:zv.cells.size=k:=by
      have:=((hzr w I lp none).cells hzv).2.length;simp at this;omega
     rw[hzs,az,<-au,cR hge];exact Z5 _) k3 o3 r3 (hrun (by rw[hxv];exact hr0))
   simpa[hd] using this
 ·rename_i nm k' off n hr;rw[hr] at hx;split at h
  case h_2=>cases h
  rename_i k'' kt xs hlk;obtain⟨hk,h⟩:=Bn h;cases h;simp only[Z2,beq_iff_eq,decide_eq_true_eq] at hk;obtain⟨⟨⟨⟨rfl,rfl⟩,rfl⟩,hnx⟩,hmost⟩:=hk;obtain⟨p,hp,ha⟩:=hs.ob nm _ hlk
  have hzs:zv.cells.size=k:=by
   have:=((hzr w I lp none).cells hzv).2.length;simp at this;omega
  have hold:∀ (b C cap:Nat),L nm=some (some (b,C))->(0+cap)*k<=C->n<=cap->∃ c E',w.heap[b]?=some (.cells c E' (0,0))/\c.size=C/\(n*k<=c.size/\(kt=0\/E'=kt))/\Bo (c.toList.take (n*k))/\Aq w I lp none (cellsL (xs.take n)) (c.toList.take (n*k))/\(∀ x∈xs.take n,x.cells.length=k):=by
   intro b C cap hL hC hn;rw[hL] at hp;cases hp;obtain⟨c,E',hb,hC',hxs,hkx,hone,hrep⟩:=ha;have hmul:n*k<=xs.length*k:=aS _ hnx;have e1:(c.toList.take (xs.length*k)).take (n*k)=c.toList.take (n*k):=by rw[aW,aT hmul]
   refine⟨c,E',hb,hC',⟨by omega,hxs.2⟩,?_,?_,fun x hx=>hkx x (aQ hx)⟩;·rw[<-e1];exact hone.take' _
   ·rw[Jh hkx,<-e1];exact hrep.take _
  have htl:(xs.take n).length=n:=by simp;omega
  rcases JE hx with ⟨b,C,cap,hL,hv,hC,hn⟩ | ⟨hL,hv,_,rfl⟩
  ·obtain⟨c,E',hb,hcC,⟨hnk,hkt⟩,hone,hrep,heach⟩:=hold b C cap hL hC hn;rw[Nat.zero_mul] at hv;by_cases hfit:n+ys.length<=cap
   ·
    have hfk:(n+ys.length)*k<=cap*k:=aS _ hfit;rw[au] at hfk;rw[az] at hC;have hst:=run_storeCells_at cx.P b (n*k) E' news 0 c w hb (by rw[hsrc.lenN];omega) hsrc.one;simp only[Nat.add_zero] at hst
    have hr0:=Q6 (P:=cx.P) (w:=w) (ty:=o.type) a0 a1 hu hi hu2 hdu (base:=some ⟨b,0,none⟩) (sLen:=n) (sCap:=cap) hsrc.len (hnew w rfl) hfit
     (w':=w.setRow b (c.toList.take (n*k)++news++c.toList.drop (n*k+news.length)).toArray) (by simp only[ID,hik,az];exact hst)
    have hkI:∀ b',I b'->(w.setRow b (c.toList.take (n*k)++news++c.toList.drop (n*k+news.length)).toArray).heap[b']?=w.heap[b']?:=fun b' hb'=>Jc w b _ fun e=>(hf.lB nm b C hL).2.2.1 (e ▸ hb');have hln:=hsrc.lenN
    have e2:(c.toList.take (n*k)++news++c.toList.drop (n*k+news.length)).take ((xs.take n++ys).length*k)=c.toList.take (n*k)++news:=by
     have hlt:(c.toList.take (n*k)++news).length=(xs.take n++ys).length*k:=by rw[aF,aF,htl,au,bS,bx];omega
     rw[cm (by rw[hlt];exact Z5 _),av (by rw[hlt];exact Z5 _)]
    refine Pk hs hf hL (w':=w.setRow b (c.toList.take (n*k)++news++c.toList.drop (n*k+news.length)).toArray) (p':=some (b,C)) (v':=.slice (some ⟨b,0,none⟩) (n+ys.length) cap) (k:=k) (kt:=if kt=el then el else 0) (xs:=xs.take n++ys) (hrun (by rw[hv];exact hr0)) rfl rfl rfl (by simp) (fun b' _ hne=>Jc w b _ fun e=>hne C (by rw[e]))
     (fun b' C' e=>by cases e;exact⟨by simpa using (hf.lB nm b C hL).2.1,.inr ⟨C,rfl⟩⟩) (fun L'=>?_) (fun L' hL'=>?_)
    ·refine⟨_,E',setRow_heap w b c _ E' _ hb,by simp;omega,⟨by simp[htl,au];omega,kt_old hkt el⟩,fun x hx=>(ar.1 hx).elim (heach x) (hsrc.each x),?_,?_⟩;·simp only[e2];exact hone.append' hsrc.one
     ·simp only[e2,Kq];exact (Aq.mono (fun _ h=>h) hkI (fun _ _ h=>h) hrep).append (hkm _ hkI)
    ·have:=Aw.arr (w:=w.setRow b (c.toList.take (n*k)++news++c.toList.drop (n*k+news.length)).toArray) (I:=I) (lp:=lp) nm k 0 (n+ys.length) cap b C hL' (by rw[az];exact hC) hfit;simpa using this
   ·
    have hr0:=OF (P:=cx.P) (w:=w) (ty:=o.type) a0 a1 hu hi hz hu2 hdu (base:=some ⟨b,0,none⟩) (sLen:=n) (sCap:=cap) (olds:=c.toList.take (n*k)) (fun w' hw=>by
      have:=Pi (P:=cx.P) (size:=i.size) (n:=n) (len:=n) (cap:=cap) (off:=0) (N:=n*k) hb (by omega) (by rw[hik];exact Z5 _) hw;simpa[hik,aW] using this) hsrc.len hnew (by omega) hmost (by omega)
    have hge:=grownCap_ge w (n+ys.length) cap el;obtain⟨k3,o3,r3⟩:=Pg (w:=w) (I:=I) (lp:=lp) (zs:=Builtin.zeroCells zv.cells (grownCap w (n+ys.length) cap el - (n+ys.length))) hrep hsrc.rep hone hsrc.one heach hsrc.each;have hnk':(c.toList.take (n*k)).length=n*k:=by simp;omega
    have hsize:((c.toList.take (n*k)).toArray++news.toArray++Builtin.zeroCells zv.cells (grownCap w (n+ys.length) cap el - (n+ys.length))).size=grownCap w (n+ys.length) cap el*k:=by
     simp only[cy,cQ,size_zeroCells,hsrc.lenN,hnk',hzs];rw[<-au,<-au,cR hge]
    generalize ((c.toList.take (n*k)).toArray++news.toArray++Builtin.zeroCells zv.cells (grownCap w (n+ys.length) cap el - (n+ys.length)))=row at *;have hkb:∀ b',b' < w.heap.size->(w.drew.alloc (.cells row el)).heap[b']?=w.heap[b']?:=fun b' hb'=>by rw[EJ w.drew _ hb'];rfl
    refine Pk hs hf hL (w':=w.drew.alloc (.cells row el)) (p':=some (w.heap.size,row.size)) (v':=.slice (some ⟨w.heap.size,0,none⟩) (n+ys.length) (grownCap w (n+ys.length) cap el)) (k:=k) (kt:=if kt=el then el else 0) (xs:=xs.take n++ys) (hrun (by rw[hv];exact hr0))
     rfl rfl rfl (by simp) (fun b' hb' _=>hkb b' hb') (fun b' C' e=>by cases e;exact⟨by simp,.inl (Z5 _)⟩) (fun L'=>?_) (fun L' hL'=>?_)
    ·refine⟨row,el,Jb w.drew _,rfl,⟨?_,kt_new kt el⟩,k3,o3,Aq.mono (fun _ h=>h) (fun b' hb'=>hkb b' (hf.sep.iB b' hb')) (fun _ _ h=>h) r3⟩;rw[hsize,aF,htl];exact aS _ hge
    ·have:=Aw.arr (w:=w.drew.alloc (.cells row el)) (I:=I) (lp:=lp) nm k 0 (n+ys.length) (grownCap w (n+ys.length) cap el) w.heap.size row.size hL' (by rw[hsize];simp) hge;simpa using this
  ·
   by_cases hy0:ys=[]
   ·subst hy0;have hn0:news=[]:=by have:=hsrc.lenN;simpa using this
    have hr0:=Q6 (P:=cx.P) (w:=w) (ty:=o.type) a0 a1 hu hi hu2 hdu (base:=none) (sLen:=0) (sCap:=0) hsrc.len (hnew w rfl) (by simp) (w':=w) rfl;exact Pk hs hf hL (p':=none) (v':=.slice none 0 0) (k:=k) (kt:=if kt=el then el else 0) (xs:=xs.take 0++[]) (hrun (by rw[hv];exact hr0)) rfl rfl rfl (Z5 _) (fun _ _ _=>rfl) (fun b C e=>by cases e) (fun L'=>⟨k,if kt=el then el else 0,by simp⟩) (fun L' hL'=>.arrN nm k hL')
   ·have hpos:0 < ys.length:=List.length_pos_iff.2 hy0;have hr0:=OF (P:=cx.P) (w:=w) (ty:=o.type) a0 a1 hu hi hz hu2 hdu (base:=none) (sLen:=0) (sCap:=0) (olds:=[]) (fun w' _=>RL) hsrc.len hnew (by omega) (by omega) (by omega);simp only[az] at hr0;have hge:=grownCap_ge w ys.length 0 el;obtain⟨k3,o3,r3⟩:=Pg (w:=w) (I:=I) (lp:=lp) (xs:=[]) (olds:=[]) (zs:=Builtin.zeroCells zv.cells (grownCap w ys.length 0 el - ys.length)) .nil hsrc.rep (by simp[Bo]) hsrc.one (by simp) hsrc.each;simp only[aK] at k3 o3 r3
    have hsize:((#[]:Array Value)++news.toArray++Builtin.zeroCells zv.cells (grownCap w ys.length 0 el - ys.length)).size=grownCap w ys.length 0 el*k:=by
     simp only[cy,cQ,size_zeroCells,hsrc.lenN,hzs];rw[b9,az,<-au,cR hge]
    generalize ((#[]:Array Value)++news.toArray++Builtin.zeroCells zv.cells (grownCap w ys.length 0 el - ys.length))=row at *;have hkb:∀ b',b' < w.heap.size->(w.drew.alloc (.cells row el)).heap[b']?=w.heap[b']?:=fun b' hb'=>by rw[EJ w.drew _ hb'];rfl
    have e0:xs.take 0++ys=ys:=by simp
    rw[e0,az]
    refine Pk hs hf hL (w':=w.drew.alloc (.cells row el)) (p':=some (w.heap.size,row.size)) (v':=.slice (some ⟨w.heap.size,0,none⟩) ys.length (grownCap w ys.length 0 el)) (k:=k) (kt:=if kt=el then el else 0) (xs:=ys) (hrun (by rw[hv];exact hr0))
     rfl rfl rfl (by simp) (fun b' hb' _=>hkb b' hb') (fun b' C' e=>by cases e;exact⟨by simp,.inl (Z5 _)⟩) (fun L'=>?_) (fun L' hL'=>?_)
    ·refine⟨row,el,Jb w.drew _,rfl,⟨?_,kt_new kt el⟩,k3,o3,Aq.mono (fun _ h=>h) (fun b' hb'=>hkb b' (hf.sep.iB b' hb')) (fun _ _ h=>h) r3⟩;rw[hsize];exact aS _ hge
    ·have:=Aw.arr (w:=w.drew.alloc (.cells row el)) (I:=I) (lp:=lp) nm k 0 ys.length (grownCap w ys.length 0 el) w.heap.size row.size hL' (by rw[hsize];simp) hge;simpa using this
 ·rename_i k' xs hr;rw[hr] at hx;split at h;·cases h
  rename_i y0 ys0;obtain⟨hk,h⟩:=Bn h;cases h;simp only[Z2,beq_iff_eq,decide_eq_true_eq] at hk;obtain⟨rfl,hmost⟩:=hk
  have hzs:zv.cells.size=k:=by
   have:=((hzr w I lp none).cells hzv).2.length;simp at this;omega
  obtain⟨base,olds,hv,hold,hlo,o1,hrep,heach⟩:∃ base olds,a.eval x=.slice base xs.length xs.length/\(∀ w':World,w'.heap=w.heap->(Builtin.firstCells i.size xs.length (.slice base xs.length xs.length)).run cx.P w'=.ok olds.toArray w') /\
    olds.length=xs.length*k/\Bo olds/\Aq w I lp none (cellsL xs) olds/\(∀ x∈xs,x.cells.length=k):=by
   rcases JS hx with ⟨b,off,cap,c,E',fr,hv,g1,g2,g3,g4,g5,g6,g7,g8⟩ | ⟨rfl,ad,cap,hv,g6⟩
   ·have:=g6 rfl;subst this;refine⟨_,_,hv,fun w' hw=>?_,by simp;omega,g7,g8,g4⟩;have:=Pi (P:=cx.P) (size:=i.size) (n:=xs.length) (len:=xs.length) (cap:=xs.length) (off:=off) (N:=xs.length*k) g2 g3 (by rw[hik];exact Z5 _) hw;simpa[hik,aW] using this
   ·have:=g6 rfl;subst this;exact⟨ad,[],hv,fun w' _=>OX,by simp,by simp[Bo],.nil,by simp⟩
  have hr0:=OF (P:=cx.P) (w:=w) (ty:=o.type) a0 a1 hu hi hz hu2 hdu hold hsrc.len hnew (by simp only[be];omega) (by simp only[be];exact hmost) (by omega);have hge:=grownCap_ge w (xs.length+(y0 :: ys0).length) xs.length el;obtain⟨k3,o3,r3⟩:=Pg (w:=w) (I:=I) (lp:=lp) (zs:=Builtin.zeroCells zv.cells (grownCap w (xs.length+(y0 :: ys0).length) xs.length el - (xs.length+(y0 :: ys0).length))) hrep hsrc.rep o1 hsrc.one heach hsrc.each
  have hsize:(olds.toArray++news.toArray++Builtin.zeroCells zv.cells (grownCap w (xs.length+(y0 :: ys0).length) xs.length el - (xs.length+(y0 :: ys0).length))).size=grownCap w (xs.length+(y0 :: ys0).length) xs.length el*k:=by
   simp only[cy,cQ,size_zeroCells,hsrc.lenN,hlo,hzs];rw[<-au,<-au,cR hge]
  have:=Ns hs hf hd hcl (k:=k) (kt:=el) (xs:=xs++y0 :: ys0) (t:=el) (.inr rfl) (cap:=grownCap w (xs.length+(y0 :: ys0).length) xs.length el) (w1:=w.drew) ⟨rfl,rfl,rfl,rfl⟩ (by rw[aF];exact hge) (by rw[hsize];exact Z5 _) k3 o3 r3
   (hrun (by rw[hv,aF];exact hr0))
  simpa[hd] using this
 ·cases h
end ops
end Go.Ab


namespace Go.Ab
section ops
variable {E:Type} {cx:Cx} {w0:World} {I0 F0:Nat->Prop} {O0:B9} {Hd:Nat->Option Obj} {R:BV E} {e:E} {ds:List Deferred} {F:Nat->Prop} {lp:Nat->Option Nat} {suf:List Value}
variable {I:Nat->Prop} {L:AF} {st:St} {a:Act} {w:World} {o:Oper} {out:AO} {rop:AC}
theorem done_upd0 (hs:SR lp I L st a.tmps.toList suf w) (hf:Fr cx w0 I0 F0 O0 Hd R e ds I F L w) {nm:Nm} (hL:L nm=some none)
  {v:PV} {v':Value} {k kt:Nat} (hr:(execOp a.eval o).run cx.P w=.ok (.value v') w\/((execOp a.eval o).run cx.P w=.ok .skip w/\v'=undef))
  (hv:Aw w I lp (some L) v v'):BA cx w0 I0 F0 O0 Hd R e ds F lp suf o a w (apply st o.dst {v,upd:=some (nm,.arr k kt [])}):=by
 have hu:=hs.upd (w':=w) (ob':=.arr k kt []) hL (fun _ _=>rfl) (fun _ _ _ _ _=>rfl) ⟨k,_,rfl⟩;refine⟨v',w,I,L,hr,?_,hf⟩;rw[H8];cases o.dst with
 | none=>exact hu
 | some d=>exact hu.put d hv
theorem Sl {P:Program} {w w':World} {t el ty:TypeId} {ats:Array TypeId} (a0:ats[0]?=some t) {i:TypeInfo} (hu:P.underlying t=some (.slice el)) (hi:P.info? el=some i)
  {base:Option Addr} {dLen dCap:Nat} {x:Value} {m:Nat} {news:List Value} (hl:Builtin.lenOf x=pure m)
  (hnew:(Builtin.firstCells i.size (Nat.min m dLen) x).run P w=.ok news.toArray w)
  (hst:(match base with | some a=>storeCells a news | none=>pure ()).run P w=.ok () w') :
  (Builtin.copy_ ats ty #[.slice base dLen dCap,x]).run P w=.ok (.int .i64 ((Nat.min m dLen:Nat):Int)) w':=by
 cases base with
 | none =>
  have hst:w=w':=by simpa using hst
  subst hst;simp[Builtin.copy_,a0,run_underlying hu,sizeOf,typeInfo,hi,hl,hnew,goInt]
 | some a =>
  simp only at hst;simp[Builtin.copy_,a0,run_underlying hu,sizeOf,typeInfo,hi,hl,hnew,hst,goInt]
theorem op_copy (hs:SR lp I L st a.tmps.toList suf w) (hf:Fr cx w0 I0 F0 O0 Hd R e ds I F L w) {c:Call} (ho:o.op=.call c) {x y:Operand} (hcal:c.callee=.builtin .copy) {ty:TypeId} (a0:c.argTypes[0]?=some ty) (harg:c.args=#[x,y])
  {k by_:Nat} {z:PV} {r1 r2:RX} (he:Gt cx.P ty=some (k,by_,z)) (h1:rx cx.G x=some r1) (h2:rx cx.G y=some r2)
  (h:exec (o.dst.getD 0) (Ak st.objs) st.tmps (.copy k r1 r2)=some out):BA cx w0 I0 F0 O0 Hd R e ds F lp suf o a w (apply st o.dst out):=by
 obtain⟨el,i,zv,hu,hi,hik,hby,hb6,hz,hzk,hzv,hzn,hzr⟩:=LC he;have hx:=Bx hs hf.wd h1;have hy:=Bx hs hf.wd h2
 have hrun:∀ {v' w'},(Builtin.copy_ c.argTypes o.type #[a.eval x,a.eval y]).run cx.P w=.ok v' w'->(execOp a.eval o).run cx.P w=.ok (.value v') w':=by
  intro v' w' hr;simp[execOp,ho,resolve,hcal,harg,invoke,builtin,hr]
 simp only[exec] at h;split at h;·cases h
 rename_i ys hys;obtain⟨news,hsrc⟩:=VG cx.P hs hy hys
 have hnew:∀ n,n<=ys.length->(Builtin.firstCells i.size n (a.eval y)).run cx.P w=.ok (news.take (n*k)).toArray w:=fun n hn=>by
  rw[hik];exact hsrc.first n hn w rfl
 split at h
 ·rename_i hr;rw[hr] at hx;cases h;have hr0:=Sl (P:=cx.P) (w:=w) (w':=w) (ty:=o.type) a0 hu hi (base:=none) (dLen:=0) (dCap:=0) hsrc.len (by rw[show Nat.min ys.length 0=0 from Nat.min_zero _];exact hnew 0 (bR _)) rfl;refine BP hs hf (hrun (by rw[Gm hx];exact hr0)) (.refl w) ?_;rw[show Nat.min ys.length 0=0 from Nat.min_zero _];exact .int .i64 _
 ·rename_i nm k' off n hr;rw[hr] at hx;split at h
  case h_2=>cases h
  rename_i k'' kt xs hlk;obtain⟨hk,h⟩:=Bn h;cases h;simp only[Z2,beq_iff_eq,decide_eq_true_eq] at hk;obtain⟨⟨rfl,rfl⟩,hle⟩:=hk;obtain⟨p,hp,ha⟩:=hs.ob nm _ hlk;rcases JE hx with ⟨b,C,cap,hL,hv,hC,hn⟩ | ⟨hL,hv,rfl,rfl⟩
  ·rw[hL] at hp;cases hp;obtain⟨c',E',hb,hC',hxs,hkx,hone,hrep⟩:=ha;have hyl:(ys.take n).length=Nat.min ys.length n:=by rw[bS];exact Nat.min_comm _ _
   have hmn:Nat.min ys.length n<=n:=Nat.min_le_right _ _;have hmy:Nat.min ys.length n<=ys.length:=Nat.min_le_left _ _;generalize hmm:Nat.min ys.length n=m at *
   have hml:(news.take (m*k)).length=m*k:=by
    have:m*k<=ys.length*k:=aS _ hmy;simp[hsrc.lenN,this]
   have hoff:off*k+m*k<=xs.length*k:=by rw[<-au];exact aS _ (by omega)
   have hst:=run_storeCells_at cx.P b (off*k) E' (news.take (m*k)) 0 c' w hb (by omega) (hsrc.one.take' _);simp only[Nat.add_zero] at hst;have hr0:=Sl (P:=cx.P) (w:=w) (ty:=o.type) a0 hu hi (base:=some ⟨b,off*k,none⟩) (dLen:=n) (dCap:=cap) hsrc.len (by rw[hmm];exact hnew m hmy) hst;rw[hmm] at hr0;have hkI:∀ b',I b'->(w.setRow b (c'.toList.take (off*k)++news.take (m*k)++c'.toList.drop (off*k+(news.take (m*k)).length)).toArray).heap[b']?=w.heap[b']?:=fun b' hb'=>Jc w b _ fun e=>(hf.lB nm b C hL).2.2.1 (e ▸ hb')
   have hysr:Aq w I lp none (cellsL (ys.take n)) (news.take (m*k)):=by
    have:=hsrc.rep.take (m*k);rw[<-Jh hsrc.each] at this
    have e0:ys.take m=ys.take n:=by
     rw[<-hmm];by_cases hc:ys.length<=n
     ·rw[show Nat.min ys.length n=ys.length from aT hc,bA,av hc]
     ·rw[show Nat.min ys.length n=n from cS (by omega)]
    rwa [e0] at this
   have hyk:∀ y∈ys.take n,y.cells.length=k:=fun y hy=>hsrc.each y (aQ hy)
   have hnl:(xs.take off++ys.take n++xs.drop (off+(ys.take n).length)).length=xs.length:=by
    simp only[aF,bS,List.length_drop];omega
   have hcells:cellsL (xs.take off++ys.take n++xs.drop (off+(ys.take n).length))=splice (cellsL xs) (off*k) (cellsL (ys.take n)):=by
    unfold splice;rw[Kq,Kq,Jh hkx,LD hkx,Kp hyk,au]
   have e1:=Rg c'.toList (news.take (m*k)) (off*k) (xs.length*k) (by omega) (by simp;omega);have hspl:=hrep.splice hysr (off*k)
   refine NG hs hf hL (w':=w.setRow b (c'.toList.take (off*k)++news.take (m*k)++c'.toList.drop (off*k+(news.take (m*k)).length)).toArray) (v':=.int .i64 (m:Int)) (.inl (hrun (by rw[hv];exact hr0))) rfl rfl rfl (by simp)
    (fun b' hb'=>Jc w b _ hb') ?_ (by rw[show (min (ys.length:Int) (n:Int))=(m:Int) from by have:min ys.length n=m:=hmm;omega];exact .int .i64 _)
   refine⟨_,E',setRow_heap w b c' _ E' _ hb,?_,by rw[hnl];exact hxs,?_,?_,?_⟩;·simp[hml];omega
   ·intro x hx;rcases ar.1 hx with hx | hx
    ·rcases ar.1 hx with hx | hx;·exact hkx x (aQ hx)
     ·exact hyk x hx
    ·exact hkx x (bf hx)
   ·rw[hnl];simp only
    rw[e1];exact hone.splice (hsrc.one.take' _) _ _
   ·rw[hnl,hcells];simp only
    rw[e1];exact Aq.mono (fun _ h=>h) hkI (fun _ _ h=>h) hspl
  ·rw[hL] at hp;cases hp;obtain⟨k2,kt2,hk2⟩:=ha;simp only[Ob.arr.injEq] at hk2;obtain⟨rfl,rfl,rfl⟩:=hk2;have hr0:=Sl (P:=cx.P) (w:=w) (w':=w) (ty:=o.type) a0 hu hi (base:=none) (dLen:=0) (dCap:=0) hsrc.len (by rw[show Nat.min ys.length 0=0 from Nat.min_zero _];exact hnew 0 (bR _)) rfl
   have:=done_upd0 hs hf hL (k:=k) (kt:=kt) (v:=.int .i64 (min (ys.length:Int) ((0:Nat):Int))) (.inl (hrun (by rw[hv];exact hr0))) (by
    rw[show Nat.min ys.length 0=0 from Nat.min_zero _,show (min (ys.length:Int) ((0:Nat):Int))=((0:Nat):Int) from by omega];exact .int .i64 _)
   simpa using this
 ·cases h
theorem TL (es:List MapEntry):(F9 es).length=2*es.length:=by
 induction es with
 | nil=>rfl
 | cons e es ih=>simp[F9,ih];omega
theorem Tb (hs:SR lp I L st a.tmps.toList suf w) (hf:Fr cx w0 I0 F0 O0 Hd R e ds I F L w) {c:Call} (ho:o.op=.call c) {x:Operand} (hcal:c.callee=.builtin .len) {ty:TypeId} (a0:c.argTypes[0]?=some ty) (harg:c.args=#[x])
  {r1:RX} {d:TypeDesc} {tc:TC} (hu:cx.P.underlying ty=some d) (hd:(d=.string/\tc=.str)\/(∃ e',d=.slice e'/\tc=.slice)\/∃ k' e',d=.map k' e'/\tc=.map) (h1:rx cx.G x=some r1)
  (h:exec (o.dst.getD 0) (Ak st.objs) st.tmps (.len tc r1)=some out):BA cx w0 I0 F0 O0 Hd R e ds F lp suf o a w (apply st o.dst out):=by
 have hx:=Bx hs hf.wd h1
 have hrun:∀ {n:Nat},(Builtin.len_ c.argTypes o.type #[a.eval x]).run cx.P w=.ok (.int .i64 (n:Int)) w->BA cx w0 I0 F0 O0 Hd R e ds F lp suf o a w (apply st o.dst {v:=.int .i64 (n:Int)}):=by
  intro n hr;exact BP hs hf (by simp[execOp,ho,resolve,hcal,harg,invoke,builtin,hr]) (.refl w) (.int .i64 _)
 simp only[exec] at h;obtain⟨n,hn,rfl⟩:=Z3.1 h;refine hrun ?_;rcases hd with ⟨rfl,rfl⟩ | ⟨e',rfl,rfl⟩ | ⟨k',e',rfl,rfl⟩
 ·cases hr:r1.ev st.tmps<;>rw[hr] at hn hx<;>simp only[IX] at hn<;>first | contradiction | skip
  rename_i s;cases hn;have hz:(⟨s.toArray⟩:ByteArray).size=s.length:=by simp[ByteArray.size]
  rw[Ff hx];simp only[Builtin.len_,a0,Sem.run_bind,run_underlying hu,Result.andThen_ok,List.getElem?_toArray,af,goInt,hz,Sem.run_pure]
 ·cases hr:r1.ev st.tmps<;>rw[hr] at hn hx<;>simp only[IX] at hn<;>first | contradiction | skip
  ·cases hn;simp[Builtin.len_,a0,run_underlying hu,Gm hx,goInt]
  ·cases hn;rcases JS hx with ⟨b,off,cap,c,E',fr,hv,_⟩ | ⟨rfl,ad,cap,hv,_⟩<;>simp[Builtin.len_,a0,run_underlying hu,hv,goInt]
  ·cases hn;rcases JE hx with ⟨b,C,cap,hL,hv,hC,hn⟩ | ⟨hL,hv,rfl,rfl⟩<;>simp[Builtin.len_,a0,run_underlying hu,hv,goInt]
 ·cases hr:r1.ev st.tmps<;>rw[hr] at hn hx<;>simp only[IX] at hn<;>first | contradiction | skip
  ·cases hn;simp[Builtin.len_,a0,run_underlying hu,Wk hx,goInt]
  ·rename_i es;cases hn;obtain⟨r,ents,clock,hv,_,hb,hrep⟩:=Wl hx;have hl:=hrep.length;rw[TL] at hl;have:es.length / 2=ents.size:=by simp at hl;omega
   rw[this];have hg:(getObj r).run cx.P w=.ok (.map ents clock) w:=by simp[getObj,Sem.run,hb]
   simp[Builtin.len_,a0,run_underlying hu,hv,goInt,hg]
  ·rename_i nm;split at hn
   case h_2=>cases hn
   rename_i es hlk;cases hn;obtain⟨b,C,hL,hv⟩:=Qc hx;obtain⟨p,hp,ha⟩:=hs.ob nm _ hlk;rw[hL] at hp;cases hp;obtain⟨ents,clock,hb,hrep⟩:=ha;have hl:=hrep.length;rw[TL] at hl;have:es.length / 2=ents.size:=by simp at hl;omega
   rw[this];have hg:(getObj b).run cx.P w=.ok (.map ents clock) w:=by simp[getObj,Sem.run,hb]
   simp[Builtin.len_,a0,run_underlying hu,hv,goInt,hg]
theorem Y5 {P:Program} {w w':World} {I:Nat->Prop} {lp:Nat->Option Nat} {L:Option AF} (mx:Bool) (k:IntKind):∀ (xs:List PV) (vs:List Value) (x n:Int),Aq w I lp L xs vs->Hl mx k x xs=some n ->
  (vs.foldlM (if mx then Builtin.max2 else Builtin.min2) (.int k x)).run P w'=.ok (.int k n) w':=by
 intro xs;induction xs with
 | nil=>intro vs x n h hn;cases h;simp only[Hl,Z6] at hn;subst hn;rfl
 | cons y ys ih =>
  intro vs x n h hn;cases h with
  | cons _ v _ vs h hs =>
   cases y<;>simp only[Hl] at hn<;>first | contradiction | skip
   rename_i k' b;obtain⟨hk,hn2⟩:=Bn hn;have hk:=beq_iff_eq.1 hk;subst hk;rw[Ef h];rw[List.foldlM_cons];cases mx
   ·simp only[Z0,if_false] at hn2 |-;rw[Sem.run_bind];have:(Builtin.min2 (.int k x) (.int k b)).run P w'=.ok (.int k (if b < x then b else x)) w':=rfl;rw[this,Result.andThen_ok];simpa using ih vs _ _ hs hn2
   ·simp only[if_true] at hn2 |-;rw[Sem.run_bind];have:(Builtin.max2 (.int k x) (.int k b)).run P w'=.ok (.int k (if b>x then b else x)) w':=rfl;rw[this,Result.andThen_ok];simpa using ih vs _ _ hs hn2
theorem Vc (hs:SR lp I L st a.tmps.toList suf w) (hf:Fr cx w0 I0 F0 O0 Hd R e ds I F L w) {c:Call} (ho:o.op=.call c) {mx:Bool} (hcal:c.callee=.builtin (if mx then .max else .min))
  {rs:List RX} (h1:Es cx.G c.args.toList=some rs)
  (h:exec (o.dst.getD 0) (Ak st.objs) st.tmps (.minmax mx rs)=some out):BA cx w0 I0 F0 O0 Hd R e ds F lp suf o a w (apply st o.dst out):=by
 have hx:=PQ hs hf.wd h1;simp only[exec] at h;split at h
 case h_2=>cases h
 rename_i k x rest hr;rw[hr] at hx;obtain⟨n,hn,rfl⟩:=Z3.1 h;cases hv:c.args.toList.map a.eval with
 | nil=>rw[hv] at hx;cases hx
 | cons v vs =>
  rw[hv] at hx;cases hx with
  | cons _ _ _ _ hx1 hx2 =>
   have hm:(c.args.map a.eval).toList=v :: vs:=by rw[cN,hv]
   have hfm:=Y5 (P:=cx.P) (w':=w) mx k rest vs x n hx2 hn;rw[<-Ef hx1] at hfm;refine BP hs hf (v':=.int k n) ?_ (.refl w) (.int k _);cases mx
   ·simp only[Z0,if_false] at hcal hfm;simp[execOp,ho,resolve,hcal,invoke,builtin,Builtin.min_,hv,hfm]
   ·simp only[if_true] at hcal hfm;simp[execOp,ho,resolve,hcal,invoke,builtin,Builtin.max_,hv,hfm]
end ops
end Go.Ab

