/-
  Part 1 of a proof: a machine of our own for the given program, its laws, and what it says of the program. Nothing here is a claim by itself.
-/
import GoSem.Step
import Derived.Laws.Sem
import Derived.RangeFuncLeaves
import Derived.RangeFuncSeq
import Derived.RangeFuncCalls
import Derived.Laws.Append
import Derived.OwnWalkIn
import Derived.Laws.MakeOwn
import Derived.Carry
import Derived.Laws.Strings
import Derived.Laws.Strings2
import Derived.Laws.Concat
import Derived.Laws.AppendOwn
set_option linter.all false

def bz:=@List.map_cons
def bA:=@Bool.false_eq_true
def bB:=@Bool.and_eq_true
def bC:=@List.map_nil
def bD:=@Option.map_eq_some_iff
def bE:=@List.mem_map
def bF:=@Nat.le_refl
def bG:=@Option.some.injEq
def bH:=@List.mem_cons
def bI:=@List.getD_eq_getElem?_getD
def bJ:=@Nat.le_of_ble_eq_true
def bK:=@List.getElem?_map
def bL:=@List.getElem?_eq_some_iff
def bM:=@List.mem_cons_of_mem
def bN:=@List.getElem?_eq_getElem
def bP:=@List.all_eq_true
def bQ:=@List.mem_of_getElem?
def bR:=@List.mem_append_left
def bS:=@List.length_map
def bT:=@List.mem_cons_self
def bU:=@Option.map_some
def bW:=@List.mem_append
def bX:=@List.getElem?_cons_zero
def bY:=@List.getElem?_cons_succ
def bZ:=@Nat.add_mul
def b7:=@List.mem_append_right
def b8:=@List.take_of_length_le
def b9:=@Int.toNat_natCast
def cc:=@List.map_map
def cd:=@Nat.zero_add
def ce:=@Bool.not_true
def cf:=@List.getElem?_eq_none
def cg:=@List.getElem?_set_ne
def ch:=@Prod.mk.injEq
def ci:=@List.map_congr_left
def cj:=@List.mem_singleton
def ck:=@Bool.not_false
def cm:=@List.length_append
def cn:=@Ne.symm
def co:=@List.getElem?_eq_none_iff
def cq:=@Nat.min_eq_left
def cr:=@Option.getD_some
def ct:=@List.ext_getElem?
def cu:=@Bool.and_self
def cw:=@List.mem_of_mem_take
def cy:=@Nat.mul_le_mul_right
def cz:=@List.take_take
def cA:=@List.length_cons
def cB:=@Option.bind_eq_some_iff
def cC:=@List.append_assoc
def cD:=@List.isEmpty_iff
def cE:=@List.nil_append
def cF:=@List.pairwise_cons
def cG:=@Nat.blt_eq
def cH:=@List.flatMap_cons
def cI:=@List.drop_zero
def cJ:=@Bool.eq_iff_iff
def cK:=@Eq.trans
def cL:=@List.mem_of_mem_drop
def cM:=@Classical.byContradiction
def cN:=@Bool.true_and
def cP:=@Nat.lt_of_lt_of_le
def cQ:=@List.mapM_cons
def cR:=@List.length_take
def cS:=@List.all_cons
def cU:=@Bool.false_or
def cV:=@List.contains_iff_mem
def cW:=@List.mem_zipIdx_iff_getElem?
def cX:=@List.getElem?_range
def cY:=@List.all_append
def cZ:=@List.drop_eq_getElem_cons
def dc:=@List.drop_take
def de:=@Nat.zero_le
def df:=@Array.toArray_toList
def dg:=@List.getElem?_zipIdx
def dh:=@List.mem_flatMap
def di:=@List.map_append
def dj:=@List.mem_range
def dk:=@List.getElem_mem
def dl:=@Array.length_toList
def dm:=@List.getElem?_append_left
def dn:=@Bool.not_eq_true'
def dp:=@Option.some.inj
def dv:=@Nat.eq_of_beq_eq_true
def dw:=@Nat.one_mul
def dx:=@List.getElem?_set_self
def dz:=@Nat.le_trans
def dA:=@List.foldl_cons
def dB:=@List.append_nil
def dC:=@List.drop_eq_nil_of_le
def dD:=@List.map_set
def dE:=@Option.map_none
def dF:=@List.mem_filter
def dG:=@List.drop_drop
def dH:=@Option.isSome_iff_exists
def dI:=@List.isEmpty_nil
def dJ:=@Bool.or_eq_false_iff
def dK:=@Nat.add_sub_cancel_left
def dL:=@List.length_eq_zero_iff
def dM:=@Array.getElem?_toList
def dN:=@List.take_length
def dO:=@List.getElem?_append_right
def dP:=@List.length_nil
def dQ:=@Bool.and_eq_true_iff
def dR:=@List.cons_append
def dS:=@List.getElem?_set
def dT:=@List.getElem_map
def dU:=@Option.bind_eq_bind
def dV:=@List.getElem?_take_of_lt
def dW:=@List.mem_or_eq_of_mem_set
def dX:=@List.length_set
def dY:=@Nat.add_assoc
def dZ:=@Bool.or_eq_true
def d6:=@List.nodup_cons
def d7:=@Bool.true_or
def d8:=@Bool.and_true
def d9:=@Option.pure_def
def ec:=@List.getElem?_drop
def ed:=@List.take_append_of_le_length
def eg:=@Option.map_map
def eh:=@List.size_toArray
def ej:=@Array.getElem?_eq_some_iff
def eo:=@Option.bind_some
def ep:=@Bool.false_and
def eu:=@List.drop_of_length_le
def ew:=@List.take_zero
def ez:=@List.set_comm
def eA:=@List.mem_filterMap
def eB:=@List.lookup_cons
def eC:=@List.set_eq_of_length_le
def eD:=@Nat.eq_zero_or_pos
def eE:=@List.take_succ_cons
def eF:=@List.take_append
def eG:=@List.zipIdx_cons
def eH:=@Array.toList_map
def eI:=@List.eq_of_mem_replicate
def eJ:=@Option.isSome_none
def eK:=@Array.size_append
def eL:=@Nat.add_sub_cancel'
def eM:=@Nat.min_eq_right
def eN:=@List.getElem_range
def eO:=@List.flatMap_def
def eP:=@Option.isNone_iff_eq_none
def eQ:=@List.flatMap_nil
def eR:=@Bool.not_eq_true
def eS:=@List.mem_reverse
def eT:=@Array.getElem?_eq_none
def eU:=@List.getElem_of_mem
def eV:=@List.flatMap_map
def eW:=@Bool.true_eq_false
def eX:=@List.length_range
def eY:=@List.any_eq_true
def eZ:=@Array.mapM_eq_mapM_toList
def e8:=@Array.toList_setIfInBounds
def e9:=@List.getElem?_replicate
namespace Go.Ab
abbrev Nm:=Nat×Nat
inductive PV where
 | undef
 | bool (b:Bool)
 | int (k:IntKind) (n:Int)
 | str (s:List UInt8)
 | nilS | nilP | nilF | nilI | nilM
 | sl (k:Nat) (xs:List PV) (full:Bool)
 | ptr (cs:List PV) (o:Nat)
 | agg (cs:List PV)
 | iface (t:TypeId) (x:PV)
 | fn (f:FuncId) (cap:List PV)
 | yld (d:Nat)
 | tup (xs:List PV)
 | imap (es:List PV)
 | glob (g:Nat) (t:TypeId)
 | ref (nm:Nm) (o:Nat)
 | aref (nm:Nm) (k i o:Nat)
 | arr (nm:Nm) (k o n:Nat)
 | mp (nm:Nm)
 | it (nm:Nm)
 deriving Inhabited
def PV.cells:PV->List PV
 | .agg cs=>cs
 | v=>[v]
def PV.isVal:PV->Bool
 | .undef=>false
 | .tup _=>false
 | _=>true
def PV.isCell:PV->Bool
 | .undef=>false
 | .tup _=>false
 | .agg _=>false
 | _=>true
def cellsL:List PV->List PV
 | []=>[]
 | x :: xs=>x.cells++cellsL xs
inductive Ob where
 | cells (ty:Nat) (cs:List PV)
 | arr (k ty:Nat) (xs:List PV)
 | map (es:List PV)
 | siter (s:List UInt8) (pos:Nat)
 deriving Inhabited
mutual
def PV.names:PV->List Nm
 | .agg cs=>AQ cs
 | .iface _ x=>x.names
 | .fn _ cap=>AQ cap
 | .tup xs=>AQ xs
 | .ref nm _=>[nm]
 | .aref nm _ _ _=>[nm]
 | .arr nm _ _ _=>[nm]
 | .mp nm=>[nm]
 | .it nm=>[nm]
 | .undef | .bool _ | .int _ _ | .str _ | .nilS | .nilP | .nilF | .nilI | .nilM | .sl _ _ _ | .ptr _ _ | .yld _ | .imap _ | .glob _ _=>[]
def AQ:List PV->List Nm
 | []=>[]
 | x :: xs=>x.names++AQ xs
end
mutual
def PV.hasY:PV->Bool
 | .agg cs=>BF cs
 | .iface _ x=>x.hasY
 | .fn _ cap=>BF cap
 | .tup xs=>BF xs
 | .sl _ xs _=>BF xs
 | .ptr cs _=>BF cs
 | .imap es=>BF es
 | .yld _=>true
 | .undef | .bool _ | .int _ _ | .str _ | .nilS | .nilP | .nilF | .nilI | .nilM | .ref _ _ | .aref _ _ _ _ | .arr _ _ _ _ | .mp _ | .it _ | .glob _ _=>false
def BF:List PV->Bool
 | []=>false
 | x :: xs=>x.hasY||BF xs
end
mutual
def PV.free:PV->Bool
 | .agg cs=>EZ cs
 | .iface _ x=>x.free
 | .fn _ cap=>EZ cap
 | .tup xs=>EZ xs
 | .sl _ _ _=>false
 | .ptr _ _=>false
 | .imap _=>false
 | .glob _ _=>false
 | .undef | .bool _ | .int _ _ | .str _ | .nilS | .nilP | .nilF | .nilI | .nilM | .yld _ | .ref _ _ | .aref _ _ _ _ | .arr _ _ _ _ | .mp _ | .it _=>true
def EZ:List PV->Bool
 | []=>true
 | x :: xs=>x.free&&EZ xs
end
def Ob.free:Ob->Bool
 | .cells _ cs=>EZ cs
 | .arr _ _ xs=>EZ xs
 | .map es=>EZ es
 | .siter _ _=>true
mutual
def PV.sub (f:Nm->Option (Option Ob)):PV->PV
 | .agg cs=>.agg (AX f cs)
 | .iface t x=>.iface t (x.sub f)
 | .fn g cap=>.fn g (AX f cap)
 | .tup xs=>.tup (AX f xs)
 | .ref nm o=>match f nm with
  | none=>.ref nm o
  | some (some (.cells _ cs))=>if o < cs.length then .ptr cs o else .undef
  | some _=>.undef
 | .aref nm k i o=>match f nm with
  | none=>.aref nm k i o
  | some (some (.arr k' kt xs))=>if k=k' then (match xs[i]? with | some x=>if o < x.cells.length then .ptr x.cells o else .undef | none=>.undef) else .undef
  | some _=>.undef
 | .arr nm k o n=>match f nm with
  | none=>.arr nm k o n
  | some (some (.arr k' kt xs))=>if k=k'/\o+n<=xs.length then .sl k ((xs.drop o).take n) false else .undef
  | some _=>.undef
 | .mp nm=>match f nm with
  | none=>.mp nm
  | some (some (.map es))=>.imap es
  | some _=>.undef
 | .it nm=>match f nm with
  | none=>.it nm
  | some _=>.undef
 | .undef=>.undef | .bool b=>.bool b | .int k n=>.int k n | .str s=>.str s
 | .nilS=>.nilS | .nilP=>.nilP | .nilF=>.nilF | .nilI=>.nilI | .nilM=>.nilM
 | .sl k xs b=>.sl k xs b | .ptr cs o=>.ptr cs o | .yld d=>.yld d | .imap es=>.imap es | .glob g t=>.glob g t
def AX (f:Nm->Option (Option Ob)):List PV->List PV
 | []=>[]
 | x :: xs=>x.sub f :: AX f xs
end
def Ob.sub (f:Nm->Option (Option Ob)):Ob->Ob
 | .cells ty cs=>.cells ty (AX f cs)
 | o=>o
mutual
def PV.ren (f:Nm->Nm):PV->PV
 | .agg cs=>.agg (Bt f cs)
 | .iface t x=>.iface t (x.ren f)
 | .fn g cap=>.fn g (Bt f cap)
 | .tup xs=>.tup (Bt f xs)
 | .ref nm o=>.ref (f nm) o
 | .aref nm k i o=>.aref (f nm) k i o
 | .arr nm k o n=>.arr (f nm) k o n
 | .mp nm=>.mp (f nm)
 | .it nm=>.it (f nm)
 | .undef=>.undef | .bool b=>.bool b | .int k n=>.int k n | .str s=>.str s
 | .nilS=>.nilS | .nilP=>.nilP | .nilF=>.nilF | .nilI=>.nilI | .nilM=>.nilM
 | .sl k xs b=>.sl k xs b | .ptr cs o=>.ptr cs o | .yld d=>.yld d | .imap es=>.imap es | .glob g t=>.glob g t
def Bt (f:Nm->Nm):List PV->List PV
 | []=>[]
 | x :: xs=>x.ren f :: Bt f xs
end
def Ob.ren (f:Nm->Nm):Ob->Ob
 | .cells ty cs=>.cells ty (Bt f cs)
 | o=>o
def Ob.names:Ob->List Nm
 | .cells _ cs=>AQ cs
 | _=>[]
def H1 (σ:Nm->Option Ob):Nat->Ob->Ob
 | 0,o=>o.sub fun _=>some none
 | d+1,o=>o.sub fun nm=>some ((σ nm).map (H1 σ d))
def A8 (σ:Nm->Option Ob):Nat->List Nm->List Nm
 | 0,l=>l
 | d+1,l=>l++A8 σ d (l.flatMap fun nm=>((σ nm).map Ob.names).getD [])
def AU:Nat:=3
def C8 (σ:Nm->Option Ob) (R:List Nm):Bool:=R.all fun nm=>(((σ nm).map Ob.names).getD []).all fun m=>R.contains m
def BJ (σ:Nm->Option Ob) (nm:Nm):Option (Option Ob):=some ((σ nm).map (H1 σ AU))
inductive RX where
 | t (i:Nat)
 | c (v:PV)
 deriving Inhabited
inductive TC where
 | num | str | bool | iface | slice | map | func | ptr | other
 | plain (l:List Nat)
 deriving DecidableEq,Inhabited
inductive Ax where
 | mov (x:RX)
 | pick (c a b:RX)
 | box (x:RX)
 | alloc (ty:Nat) (z:List PV)
 | build (z:List PV) (ps:List (Nat×Nat×RX))
 | mkSl (k:Nat) (ps:List RX)
 | load (n:Nat) (ag:Bool) (x:RX)
 | store (n:Nat) (x v:RX)
 | nilck (x:RX)
 | bin (op:BinOp) (c:TC) (cst:Bool) (x y:RX)
 | un (op:UnOp) (x:RX)
 | conv (k:IntKind) (x:RX)
 | toBytes (x:RX)
 | ofBytes (x:RX)
 | ofRune (x:RX)
 | strId (x:RX)
 | mkI (t:TypeId) (x:RX)
 | mkF (f:FuncId) (cap:List RX)
 | mkMap
 | insert (c:TC) (x k v:RX)
 | lookup (c:TC) (z:PV) (ok:Bool) (x k:RX)
 | mkS (k:Nat) (z:PV) (len cap:RX)
 | slice (k:Nat) (x:RX) (lo hi mx:Option RX)
 | strSlice (x:RX) (lo hi:Option RX)
 | fieldAddr (off:Nat) (x:RX)
 | field (off n:Nat) (ag:Bool) (x:RX)
 | idxAddr (k:Nat) (x i:RX)
 | idxAddrA (k len:Nat) (x i:RX)
 | strIdx (x i:RX)
 | extract (j:Nat) (x:RX)
 | len (c:TC) (x:RX)
 | append (k ty:Nat) (s x:RX)
 | copy (k:Nat) (d s:RX)
 | minmax (mx:Bool) (xs:List RX)
 | call (f:RX) (args:List RX)
 | iter (x:RX)
 | next (x:RX)
 | tassert (t:TypeId) (z:PV) (ok:Bool) (x:RX)
 | bad
 deriving Inhabited
structure AV where
 dst:Option Nat
 op:Ax
 guard:Option (Nat×Bool)
 deriving Inhabited
inductive Bw where
 | skip
 | region (ops:List AV) (draw:Option (List (Nat×Nat))) (live:Option (List Nat))
 | seq (a b:Bw)
 | cond (c:RX) (thn els:Bw)
 | block (id:Nat) (body:Bw)
 | loop (asg:List Nat) (grow:List (Nat×Nat)) (body:Bw)
 | rangeFunc (f:RX) (ps:List Nat) (assign body:Bw)
 | exit (id:Nat)
 | scope (body:Bw)
 | ret
 | norm (grow:List (Nat×Nat))
 | dreg (ops:List AV) (f:RX) (args:List RX) (live:Option (List Nat))
 | bad
 deriving Inhabited
def Dk:Bw->Bool
 | .dreg _ _ _ _=>false
 | .seq a b=>Dk a&&Dk b
 | .cond _ a b=>Dk a&&Dk b
 | .block _ b=>Dk b
 | .scope b=>Dk b
 | _=>true
inductive HL where
 | tmp (t:Nat)
 | cell (t n:Nat) (ag:Bool)
 deriving Inhabited
structure At where
 nt:Nat
 code:Bw
 res:List HL
 io:Bool:=false
 shut:Bool:=false
 leans:Bool:=false
 gone:List Nat:=[]
 deriving Inhabited
structure St where
 tmps:List PV
 objs:List (List Ob)
 keep:List PV
 deriving Inhabited
def Ak (σ:List (List Ob)) (nm:Nm):Option Ob :=
 match σ[nm.1]? with
 | some l=>l[nm.2]?
 | none=>none
def RX.ev (tm:List PV):RX->PV
 | .t i=>tm.getD i .undef
 | .c v=>v
def B6 (tm:List PV):Option RX->Option PV
 | none=>none
 | some x=>some (x.ev tm)
def Bi (σ:List (List Ob)) (nm:Nm) (o:Ob):List (List Ob) :=
 match σ[nm.1]? with
 | some l=>σ.set nm.1 (l.set nm.2 o)
 | none=>σ
def Bz:Ob:=.arr 0 0 []
structure AK where
 v:PV
 new:List Ob:=[]
 upd:Option (Nm×Ob):=none
 kill:Option Nm:=none
 frz:List Nm:=[]
 gone:List Nm:=[]
 ups:List (Nm×Ob):=[]
 io:Bool:=false
 slot:Option Nat:=none
def AC {α:Type} (b:Bool) (x:Option α):Option α:=if b then x else none
def BE (cs:List PV) (o n:Nat) (ag:Bool):Option PV :=
 if ag then AC (decide (o+n<=cs.length)) (some (.agg ((cs.drop o).take n))) else cs[o]?
def splice (cs:List PV) (o:Nat) (vs:List PV):List PV:=cs.take o++vs++cs.drop (o+vs.length)
def DS (tm:List PV):List PV->List (Nat×Nat×RX)->Option (List PV)
 | z,[]=>some z
 | z,(off,n,x) :: ps =>
  AC ((x.ev tm).isVal&&decide ((x.ev tm).cells.length=n)&&decide (off+n<=z.length)) (DS tm (splice z off (x.ev tm).cells) ps)
def Ff:Nat:=2147483648
def Di (s:List UInt8):List PV:=s.map fun b=>.int .u8 b.toNat
def Oy:PV->Option UInt8
 | .int .u8 n=>if 0<=n/\n < 256 then some (UInt8.ofNat n.toNat) else none
 | _=>none
def GA:List PV->Option (List UInt8)
 | []=>some []
 | x :: xs=>match Oy x,GA xs with
  | some b,some bs=>some (b :: bs)
  | _,_=>none
def elems (σ:Nm->Option Ob) (k:Nat):PV->Option (List PV)
 | .sl k' xs _=>AC (k==k') (some xs)
 | .arr nm k' o n=>match σ nm with
  | some (.arr k'' kt xs)=>AC (k==k'&&k'==k''&&decide (o+n<=xs.length)) (some ((xs.drop o).take n))
  | _=>none
 | .nilS=>some []
 | .str s=>AC (k==1) (some (Di s))
 | _=>none
def QO:PV->Bool
 | .str _=>true
 | _=>false
def IK:PV->PV->Option Bool
 | .int k a,.int k' b=>AC (k==k') (some (a==b))
 | .str a,.str b=>some (a==b)
 | .bool a,.bool b=>some (a==b)
 | _,_=>none
def Dc (k:PV):List PV->Option (Option PV)
 | a :: v :: es=>match IK k a with
  | some true=>some (some v)
  | some false=>Dc k es
  | none=>none
 | []=>some none
 | _=>none
def GO (k v:PV):List PV->Option (List PV)
 | a :: u :: es=>match IK k a with
  | some true=>some (k :: v :: es)
  | some false=>(GO k v es).map fun l=>a :: u :: l
  | none=>none
 | []=>some [k,v]
 | _=>none
def GL:TC->PV->Bool
 | .num,.int _ _ | .str,.str _ | .bool,.bool _=>true
 | _,_=>false
def JH:BinOp->Int->Int->Option Bool
 | .eql,x,y=>some (x==y)
 | .neq,x,y=>some (x != y)
 | .lss,x,y=>some (decide (x < y))
 | .leq,x,y=>some (decide (x<=y))
 | .gtr,x,y=>some (decide (x>y))
 | .geq,x,y=>some (decide (x≥y))
 | _,_,_=>none
def Kx:List UInt8->List UInt8->Bool
 | _,[]=>false
 | [],_ :: _=>true
 | a :: x,b :: y=>a < b||(a==b&&Kx x y)
def T7:Nat:=9223372036854775807
def Fq (op:BinOp) (k:IntKind) (x y:Int):Option PV :=
 match op with
 | .add=>some (.int k (k.wrap (x+y)))
 | .sub=>some (.int k (k.wrap (x - y)))
 | .mul=>some (.int k (k.wrap (x*y)))
 | .quo=>AC (y != 0) (some (.int k (k.wrap (x.tdiv y))))
 | .rem=>AC (y != 0) (some (.int k (x.tmod y)))
 | .and=>some (.int k (k.wrap (BitVec.ofInt k.bits x &&& BitVec.ofInt k.bits y).toNat))
 | .or=>some (.int k (k.wrap (BitVec.ofInt k.bits x ||| BitVec.ofInt k.bits y).toNat))
 | .xor=>some (.int k (k.wrap (BitVec.ofInt k.bits x ^^^ BitVec.ofInt k.bits y).toNat))
 | .andNot=>some (.int k (k.wrap (BitVec.ofInt k.bits x &&& ~~~ BitVec.ofInt k.bits y).toNat))
 | op=>(JH op x y).map .bool
def K6 (op:BinOp) (x y:List UInt8):Option PV :=
 match op with
 | .add=>AC (decide (x.length+y.length<=T7)) (some (.str (x++y)))
 | .eql=>some (.bool (x==y))
 | .neq=>some (.bool (!(x==y)))
 | .lss=>some (.bool (Kx x y))
 | .leq=>some (.bool (Kx x y||x==y))
 | .gtr=>some (.bool (!(Kx x y||x==y)))
 | .geq=>some (.bool (!(Kx x y)))
 | _=>none
def Ix:List Nat->List PV->List PV->Option Bool
 | [],[],[]=>some true
 | 0 :: l,.int k a :: xs,.int k' b :: ys=>AC (k==k') (match a==b with | true=>Ix l xs ys | false=>some false)
 | 1 :: l,.str a :: xs,.str b :: ys=>match a==b with | true=>Ix l xs ys | false=>some false
 | 2 :: l,.bool a :: xs,.bool b :: ys=>match a==b with | true=>Ix l xs ys | false=>some false
 | _,_,_=>none
def JX:TC->Bool->PV->PV->Option Bool
 | .iface,cst,.nilI,.nilI=>AC cst (some true)
 | .iface,_,.nilI,.iface _ _ | .iface,_,.iface _ _,.nilI | .iface,_,.nilI,.glob _ _ | .iface,_,.glob _ _,.nilI=>some false
 | .func,_,.nilF,.nilF=>some true
 | .func,_,.nilF,.fn _ _ | .func,_,.fn _ _,.nilF=>some false
 | .slice,_,.nilS,.nilS=>some true
 | .slice,_,.nilS,.sl _ (_ :: _) _ | .slice,_,.sl _ (_ :: _) _,.nilS=>some false
 | .ptr,_,.nilP,.nilP=>some true
 | .ptr,_,.nilP,.ref _ _ | .ptr,_,.nilP,.ptr _ _ | .ptr,_,.ref _ _,.nilP | .ptr,_,.ptr _ _,.nilP=>some false
 | .bool,_,.bool a,.bool b=>some (a==b)
 | .plain l,_,.agg xs,.agg ys=>Ix l xs ys
 | _,_,_,_=>none
def DX (op:BinOp) (c:TC) (cst:Bool) (x y:PV):Option PV :=
 match x,y with
 | .int k a,.int k' b =>
  match op with
  | .shl=>AC (decide (0<=b)) (some (.int k (k.wrap (a*2 ^ (min b.toNat k.bits)))))
  | .shr=>AC (decide (0<=b)) (some (.int k (a.fdiv (2 ^ (min b.toNat k.bits)))))
  | op=>AC (k==k') (Fq op k a b)
 | .str a,.str b=>K6 op a b
 | x,y =>
  match op with
  | .eql=>(JX c cst x y).map .bool
  | .neq=>(JX c cst x y).map fun b=>.bool (!b)
  | _=>none
def CS:PV->Option Nat
 | .int _ n=>if 0<=n then some n.toNat else none
 | _=>none
def Cn (x:Option PV) (d top:Nat):Option Nat :=
 match x with
 | none=>some d
 | some v=>match CS v with
  | some n=>AC (decide (n<=top)) (some n)
  | none=>none
def EP (k:Nat) (x:PV) (lo hi mx:Option PV):Option PV :=
 match x with
 | .sl k' xs full =>
  match Cn mx xs.length xs.length with
  | none=>none
  | some m=>match Cn hi xs.length m with
   | none=>none
   | some h=>match Cn lo 0 h with
    | none=>none
    | some l=>AC (k==k'&&(mx.isNone||hi.isSome)) (some (.sl k ((xs.take h).drop l) (if mx.isSome then m==h else full&&h==xs.length)))
 | .arr nm k' o n =>
  match Cn mx n n with
  | none=>none
  | some m=>match Cn hi n m with
   | none=>none
   | some h=>match Cn lo 0 h with
    | none=>none
    | some l=>AC (k==k'&&(mx.isNone||hi.isSome)) (some (if h=l/\0 < l then .sl k [] false else .arr nm k (o+l) (h - l)))
 | .nilS =>
  match Cn mx 0 0 with
  | none=>none
  | some m=>match Cn hi 0 m with
   | none=>none
   | some h=>match Cn lo 0 h with
    | none=>none
    | some _=>AC (mx.isNone||hi.isSome) (some .nilS)
 | _=>none
def IJ (σ:Nm->Option Ob):TC->PV->Option Nat
 | .str,.str s=>some s.length
 | .slice,.sl _ xs _=>some xs.length
 | .slice,.arr _ _ _ n=>some n
 | .slice,.nilS=>some 0
 | .map,.nilM=>some 0
 | .map,.imap es=>some (es.length / 2)
 | .map,.mp nm=>match σ nm with
  | some (.map es)=>some (es.length / 2)
  | _=>none
 | _,_=>none
def H9 (mx:Bool) (k:IntKind):Int->List PV->Option Int
 | a,[]=>some a
 | a,.int k' b :: rest=>AC (k==k') (H9 mx k (if mx then (if b>a then b else a) else (if b < a then b else a)) rest)
 | _,_=>none
def exec (dst:Nat) (σ:Nm->Option Ob) (tm:List PV) (op:Ax):Option AK :=
 match op with
 | .mov x=>some {v:=x.ev tm}
 | .pick c a b=>match c.ev tm with
  | .bool true=>some {v:=a.ev tm}
  | .bool false=>some {v:=b.ev tm}
  | _=>none
 | .box x=>AC (x.ev tm).isVal (some {v:=.ref (dst,0) 0,new:=[.cells 0 (x.ev tm).cells]})
 | .alloc ty z=>some {v:=.ref (dst,0) 0,new:=[.cells ty z]}
 | .build z ps=>match DS tm z ps with
  | some cs=>some {v:=.agg cs}
  | none=>none
 | .mkSl k ps =>
  let xs:=ps.map (RX.ev tm)
  let S:=AQ xs
  if S.isEmpty then AC (xs.all fun x=>x.isVal&&x.cells.length==k) (some {v:=.arr (dst,0) k 0 xs.length,new:=[.arr k 0 xs]})
  else
   let ys:=AX (BJ σ) xs
   AC ((ys.all fun x=>x.isVal&&x.cells.length==k)&&C8 σ (A8 σ AU S)) (some {v:=.arr (dst,0) k 0 ys.length,new:=[.arr k 0 ys],frz:=A8 σ AU S})
 | .load n ag x=>match x.ev tm with
  | .ref nm o=>match σ nm with
   | some (.cells _ cs)=>(BE cs o n ag).map fun v=>{v}
   | _=>none
  | .ptr cs o=>(BE cs o n ag).map fun v=>{v}
  | .aref nm k i o=>match σ nm with
   | some (.arr k' kt xs)=>match xs[i]? with
    | some e=>AC (k==k') ((BE e.cells o n ag).map fun v=>{v})
    | none=>none
   | _=>none
  | _=>none
 | .store n x v =>
  let vs:=(v.ev tm).cells
  match x.ev tm with
  | .ref nm o=>match σ nm with
   | some (.cells ty cs)=>AC ((v.ev tm).isVal&&decide (vs.length=n)&&decide (o+n<=cs.length)) (some {v:=.undef,upd:=some (nm,.cells ty (splice cs o vs))})
   | _=>none
  | .aref nm k i o=>match σ nm with
   | some (.arr k' kt xs)=>match xs[i]? with
    | some (.agg es)=>AC (k==k'&&(v.ev tm).isVal&&decide (vs.length=n)&&decide (o+n<=es.length)&&(AQ vs).isEmpty)
      (some {v:=.undef,upd:=some (nm,.arr k kt (xs.set i (.agg (splice es o vs))))})
    | some _=>AC (k==k'&&k==1&&o==0&&n==1&&(v.ev tm).isCell&&(v.ev tm).names.isEmpty)
      (some {v:=.undef,upd:=some (nm,.arr k kt (xs.set i (v.ev tm)))})
    | none=>none
   | _=>none
  | _=>none
 | .nilck x=>match x.ev tm with
  | .ref nm o=>some {v:=.ref nm o}
  | .ptr cs o=>some {v:=.ptr cs o}
  | .aref nm k i o=>some {v:=.aref nm k i o}
  | .fn f cap=>some {v:=.fn f cap}
  | .yld d=>some {v:=.yld d}
  | _=>none
 | .bin op c cst x y=>(DX op c cst (x.ev tm) (y.ev tm)).map fun v=>{v}
 | .un op x=>match op,x.ev tm with
  | .not,.bool b=>some {v:=.bool (!b)}
  | .neg,.int k n=>some {v:=.int k (k.wrap (0 - n))}
  | _,_=>none
 | .conv k x=>match x.ev tm with
  | .int _ n=>some {v:=.int k (k.wrap n)}
  | _=>none
 | .toBytes x=>match x.ev tm with
  | .str s=>AC (decide (s.length<=T7)) (some {v:=.sl 1 (Di s) false})
  | _=>none
 | .ofBytes x=>match AC (!QO (x.ev tm)) (elems σ 1 (x.ev tm)) with
  | some xs=>match GA xs with
   | some s=>some {v:=.str s}
   | none=>none
  | none=>none
 | .ofRune x=>match x.ev tm with
  | .int _ n=>some {v:=.str (Utf8.encode n).data.toList}
  | _=>none
 | .strId x=>match x.ev tm with
  | .str s=>some {v:=.str s}
  | _=>none
 | .mkI t x=>some {v:=.iface t (x.ev tm)}
 | .mkF f cap=>some {v:=.fn f (cap.map (RX.ev tm))}
 | .mkMap=>some {v:=.mp (dst,0),new:=[.map []]}
 | .insert c x k v=>match x.ev tm with
  | .mp nm=>match σ nm with
   | some (.map es) =>
    let S:=(v.ev tm).names
    let R:=if S.isEmpty then [] else A8 σ AU S
    let u:=if S.isEmpty then v.ev tm else (v.ev tm).sub (BJ σ)
    match GO (k.ev tm) u es with
    | some es'=>AC (GL c (k.ev tm)&&u.isVal&&(S.isEmpty||(C8 σ R&&!R.contains nm))) (some {v:=.undef,upd:=some (nm,.map es'),frz:=R})
    | none=>none
   | _=>none
  | _=>none
 | .lookup c z ok x k =>
  let es:Option (List PV):=match x.ev tm with
   | .mp nm=>match σ nm with
    | some (.map es)=>some es
    | _=>none
   | .imap es=>some es
   | .nilM=>some []
   | _=>none
  match es with
  | none=>none
  | some es=>match Dc (k.ev tm) es with
   | none=>none
   | some r=>AC (GL c (k.ev tm)) (some {v:=if ok then .tup [r.getD z,.bool r.isSome] else r.getD z})
 | .mkS k z len cap=>match CS (len.ev tm),CS (cap.ev tm) with
  | some l,some c=>AC (decide (l<=c)&&decide (c<=Ff)&&(z.cells.length==k)) (some {v:=.arr (dst,0) k 0 l,new:=[.arr k 0 (List.replicate l z)]})
  | _,_=>none
 | .slice k x lo hi mx=>(EP k (x.ev tm) (B6 tm lo) (B6 tm hi) (B6 tm mx)).map fun v=>{v}
 | .strSlice x lo hi=>match x.ev tm with
  | .str s=>match Cn (B6 tm hi) s.length s.length with
   | none=>none
   | some h=>match Cn (B6 tm lo) 0 h with
    | none=>none
    | some l=>some {v:=.str ((s.take h).drop l)}
  | _=>none
 | .fieldAddr off x=>match x.ev tm with
  | .ref nm o=>some {v:=.ref nm (o+off)}
  | .ptr cs o=>AC (decide (o+off < cs.length)) (some {v:=.ptr cs (o+off)})
  | .aref nm k i o=>some {v:=.aref nm k i (o+off)}
  | _=>none
 | .field off n ag x=>match x.ev tm with
  | .agg cs=>(BE cs off n ag).map fun v=>{v}
  | _=>none
 | .idxAddr k x i=>match CS (i.ev tm),x.ev tm with
  | some j,.sl k' xs _=>match xs[j]? with
   | some e=>AC (k==k'&&decide (0 < k)) (some {v:=.ptr e.cells 0})
   | none=>none
  | some j,.arr nm k' o n=>AC (k==k'&&decide (j < n)) (some {v:=.aref nm k (o+j) 0})
  | _,_=>none
 | .idxAddrA k len x i=>match CS (i.ev tm),x.ev tm with
  | some j,.ptr cs o=>AC (decide (j < len)&&decide (o+j*k < cs.length)) (some {v:=.ptr cs (o+j*k)})
  | some j,.ref nm o=>AC (decide (j < len)) (some {v:=.ref nm (o+j*k)})
  | _,_=>none
 | .strIdx x i=>match CS (i.ev tm),x.ev tm with
  | some j,.str s=>match s[j]? with
   | some b=>some {v:=.int .u8 b.toNat}
   | none=>none
  | _,_=>none
 | .extract j x=>match x.ev tm with
  | .tup xs=>match xs[j]? with
   | some v=>some {v}
   | none=>none
  | _=>none
 | .len c x=>(IJ σ c (x.ev tm)).map fun (n:Nat)=>{v:=.int .i64 (n:Int)}
 | .append k ty s x=>match elems σ k (x.ev tm) with
  | none=>none
  | some ys=>match s.ev tm with
   | .nilS=>AC (decide (ys.length<=Ff)) (some {v:=.arr (dst,0) k 0 ys.length,new:=[.arr k ty ys]})
   | .arr nm k' o n=>match σ nm with
    | some (.arr k'' kt xs)=>AC (k==k'&&k'==k''&&o==0&&decide (n<=xs.length)&&decide (n+ys.length<=Ff))
      (some {v:=.arr nm k 0 (n+ys.length),upd:=some (nm,.arr k (if kt=ty then ty else 0) (xs.take n++ys)),kill:=some nm})
    | _=>none
   | .sl k' xs true=>match ys with
    | []=>none
    | y :: ys=>AC (k==k'&&decide (xs.length+(ys.length+1)<=Ff)) (some {v:=.arr (dst,0) k 0 (xs.length+(ys.length+1)),new:=[.arr k ty (xs++y :: ys)]})
   | _=>none
 | .copy k d s=>match elems σ k (s.ev tm) with
  | none=>none
  | some ys=>match d.ev tm with
   | .nilS=>some {v:=.int .i64 0}
   | .arr nm k' o n=>match σ nm with
    | some (.arr k'' kt xs)=>AC (k==k'&&k'==k''&&decide (o+n<=xs.length))
      (some {v:=.int .i64 (min ys.length n),upd:=some (nm,.arr k kt (xs.take o++ys.take n++xs.drop (o+(ys.take n).length)))})
    | _=>none
   | _=>none
 | .minmax mx xs=>match (xs.map (RX.ev tm):List PV) with
  | .int k a :: rest=>(H9 mx k a rest).map fun n=>{v:=.int k n}
  | _=>none
 | .iter x=>match x.ev tm with
  | .str s=>some {v:=.it (dst,0),new:=[.siter s 0]}
  | _=>none
 | .next x=>match x.ev tm with
  | .it nm=>match σ nm with
   | some (.siter s pos) =>
    if pos < s.length then
     some {v:=.tup [.bool true,.int .i64 pos,.int .i32 (Utf8.decode ⟨s.toArray⟩ pos).1],upd:=some (nm,.siter s (pos+(Utf8.decode ⟨s.toArray⟩ pos).2))}
    else some {v:=.tup [.bool false]}
   | _=>none
  | _=>none
 | .tassert t z ok x=>match x.ev tm with
  | .iface u y=>if u=t then some {v:=if ok then .tup [y,.bool true] else y}
   else AC ok (some {v:=.tup [z,.bool false]})
  | .nilI=>AC ok (some {v:=.tup [z,.bool false]})
  | _=>none
 | .call _ _=>none
 | .bad=>none
def DF (f:Nm->Option (Option Ob)) (st:St):St:={tmps:=AX f st.tmps,objs:=st.objs.map (·.map (Ob.sub f)),keep:=AX f st.keep}
def CD (σ:Nm->Option Ob) (R:List Nm) (st:St):St :=
 let st:=DF (fun m=>if R.contains m then BJ σ m else none) st
 {st with objs:=R.foldl (fun objs nm=>Bi objs nm Bz) st.objs}
def Fj:List (Nm×Ob)->List (List Ob)->List (List Ob)
 | [],objs=>objs
 |(nm,o) :: l,objs=>Fj l (Bi objs nm o)
def apply (st:St) (dst:Option Nat) (o:AK):St :=
 let σ:=Ak st.objs
 let st:=match o.upd with
  | some (nm,ob)=>{st with objs:=Bi st.objs nm ob}
  | none=>st
 let st:=match o.kill with
  | some nm=>DF (fun m=>if m=nm then some none else none) st
  | none=>st
 let st:=if o.frz.isEmpty then st else CD σ o.frz st
 let st:=if o.gone.isEmpty then st else DF (fun m=>if o.gone.contains m then some none else none) st
 let st:=if o.ups.isEmpty then st else {st with objs:=Fj o.ups st.objs}
 let st:=match o.slot with
  | some r=>{st with objs:=st.objs.set r (st.objs.getD r []++o.new)}
  | none=>st
 match dst with
 | some d=>{st with tmps:=st.tmps.set d o.v,objs:=if o.slot.isSome||o.new.isEmpty then st.objs else st.objs.set d o.new}
 | none=>st
abbrev Ay (E:Type):=Nat->List PV->E->Option (Bool×E)
abbrev Ha:=(E:Type)->Ay E->Nat->FuncId->List PV->E->Option (PV×List Ob×E)
def CQ:Nat:=1000000
def AW (f:FuncId):FuncId:=match Nat.blt f CQ with
 | true=>f
 | false=>f%CQ
def E9 (f:FuncId):Nat:=match Nat.blt f CQ with
 | true=>0
 | false=>f / CQ
def OQ (f:FuncId):Nat->FuncId
 | 0=>f
 | n+1=>f+CQ*(n+1)
def Bv (f:FuncId) (vs cap:List PV):List PV:=match Nat.blt f CQ with
 | true=>vs++cap
 | false=>cap.take (E9 f)++(vs++cap.drop (E9 f))
def AD:Ay Unit:=fun _ _ _=>none
structure Ba where
 sp:FuncId->(Nm->Option Ob)->List PV->Option AK
 call:Ha
 isIo:FuncId->Bool
 leans:FuncId->Bool
 io:FuncId->Nat->(Nm->Option Ob)->List PV->Option AK
 flat:FuncId->Bool
def EC (d:Nat) (nm:Nm):Nm:=(d,nm.2)
def C0 (M:Ba) {E:Type} (h:Ay E) (dep dst:Nat) (σ:Nm->Option Ob) (tm:List PV) (f:RX) (args:List RX) (e:E):Option (AK×E) :=
 let vs:=args.map (RX.ev tm)
 match f.ev tm with
 | .yld d =>
  let S:=AQ vs
  if S.isEmpty then
   AC (!BF vs) (match h d vs e with
    | some (b,e)=>some ({v:=.bool b},e)
    | none=>none)
  else
   let vs':=AX (BJ σ) vs
   AC (!BF vs'&&C8 σ (A8 σ AU S)) (match h d vs' e with
    | some (b,e)=>some ({v:=.bool b,frz:=A8 σ AU S},e)
    | none=>none)
 | .fn f cap =>
  let g:=AW f
  let vs:=Bv f vs cap
  match M.sp g σ vs with
  | some out=>some ({out with v:=out.v.ren (EC dst)},e)
  | none =>
  if M.isIo g then
   match M.io g dst σ vs with
   | some out=>some (out,e)
   | none=>none
  else
  let S:=AQ vs
  if S.isEmpty then
   if BF vs then
    match M.call E h dep g vs e with
    | some (r,obs,e)=>some ({v:=r.ren (EC dst),new:=obs},e)
    | none=>none
   else match M.call Unit AD 0 g vs () with
    | some (r,obs,_)=>some ({v:=r.ren (EC dst),new:=obs},e)
    | none=>none
  else
   let vs':=AX (BJ σ) vs
   AC (!BF vs'&&C8 σ (A8 σ AU S)) (match M.call Unit AD 0 g vs' () with
    | some (r,obs,_)=>some ({v:=r.ren (EC dst),new:=obs,frz:=if r.free&&obs.all Ob.free&&!M.leans g then [] else A8 σ AU S},e)
    | none=>none)
 | _=>none
def Lb:Ax->Bool
 | .box _ | .alloc _ _ | .mkSl _ _ | .mkMap | .mkS _ _ _ _ | .append _ _ _ _ | .call _ _ | .iter _=>true
 | _=>false
def Fg (o:AV) (st:St):Bool :=
 if Lb o.op then
  match o.dst with
  | some d=>match st.objs[d]? with
   | some []=>true
   | _=>false
  | none=>match o.op with
   | .call _ _=>true
   | _=>false
 else true
def KF (dst:Option Nat) (out:AK):Bool:=!out.io||dst.isSome||out.new.isEmpty||out.slot.isSome
theorem RK {E:Type} {x:Option (AK×E)} {dst:Option Nat} {out:AK} {e1:E} (h:(match x with
   | some (out,e)=>AC (KF dst out) (some (out,e))
   | none=>none)=some (out,e1)):x=some (out,e1)/\KF dst out=true:=by
 cases x with
 | none=>cases h
 | some p =>
  simp only[AC] at h;split at h
  ·rename_i h1;cases h;exact⟨rfl,h1⟩
  ·cases h
def Dj (M:Ba) {E:Type} (h:Ay E) (dep:Nat) (o:AV) (st:St) (e:E):Option (AK×E) :=
 AC (Fg o st) (match o.op with
  | .call f args=>match C0 M h dep (o.dst.getD 0) (Ak st.objs) st.tmps f args e with
   | some (out,e)=>AC (KF o.dst out) (some (out,e))
   | none=>none
  | op=>match exec (o.dst.getD 0) (Ak st.objs) st.tmps op with
   | some out=>some (out,e)
   | none=>none)
def Jt (M:Ba) {E:Type} (h:Ay E) (dep:Nat) (o:AV) (st:St) (e:E):Option (St×E) :=
 match Dj M h dep o st e with
 | some (out,e)=>some (apply st o.dst out,e)
 | none=>none
def Dt (ops:List AV) (o:AV) (tm:List PV):Option Bool :=
 match o.guard with
 | none=>some true
 | some (j,want) =>
  match ops[j]? with
  | some p=>match p.dst with
   | some d=>match tm.getD d .undef with
    | .bool b=>some (b==want)
    | .tup []=>some false
    | _=>none
   | none=>none
  | none=>none
def stepG (M:Ba) {E:Type} (h:Ay E) (dep:Nat) (ops:List AV) (o:AV) (st:St) (e:E):Option (St×E) :=
 match Dt ops o st.tmps with
 | some true=>Jt M h dep o st e
 | some false=>some (apply st o.dst {v:=.tup []},e)
 | none=>none
def EB (M:Ba) {E:Type} (h:Ay E) (dep:Nat) (ops:List AV):List AV->St->E->Option (St×E)
 | [],st,e=>some (st,e)
 | o :: rest,st,e=>match stepG M h dep ops o st e with
  | some (st,e)=>EB M h dep ops rest st e
  | none=>none
def CC (ops:List AV):List Nat:=ops.filterMap fun o=>if Lb o.op then o.dst else none
def EG (ds:List Nat) (st:St):St :=
 if ds.all fun d=>(st.objs.getD d []).isEmpty then st
 else
  let st:=DF (fun m=>if ds.contains m.1 then some none else none) st
  {st with objs:=st.objs.zipIdx.map fun (l,i)=>if ds.contains i then [] else l}
def Gy:PV->Bool
 | .undef=>true
 | _=>false
def undefs (st:St):List Nat:=(st.tmps.zipIdx.filter fun (v,_)=>Gy v).map (·.2)
def KH (st:St) (t:Nat):Bool :=
 match st.objs[t]? with
 | some []=>true
 | _=>false
def KC (t:Nat) (st:St):St :=
 match st.tmps.getD t .undef with
 | .arr nm _ _ _ =>
  if nm≠(t,0)/\KH st t=true then
   match Ak st.objs nm with
   | some ob =>
    let f:Nm->Nm:=fun m=>if m=nm then (t,0) else m
    let objs:=st.objs.map (·.map (Ob.ren f))
    {tmps:=Bt f st.tmps,objs:=(Bi objs nm Bz).set t [ob.ren f],keep:=Bt f st.keep}
   | none=>st
  else st
 | _=>st
def ID:Nat:=1000000
def NI (nm:Nm) (ty:Nat) (cs:List PV) (i k:Nat) (st:St):St :=
 let l:=st.objs.getD nm.1 []
 match cs[i]? with
 | some .nilS=>{st with objs:=st.objs.set nm.1 (l.set nm.2 (.cells ty (cs.set i (.arr (nm.1,l.length) k 0 0)))++[.arr k 0 []])}
 | some (.arr m _ _ _) =>
  if m.1≠nm.1 then
   match Ak st.objs m with
   | some ob =>
    let f:Nm->Nm:=fun x=>if x=m then (nm.1,l.length) else x
    let objs:=Bi (st.objs.map (·.map (Ob.ren f))) m Bz
    {tmps:=Bt f st.tmps,objs:=objs.set nm.1 (objs.getD nm.1 []++[ob.ren f]),keep:=Bt f st.keep}
   | none=>st
  else st
 | _=>st
def OP (x off k:Nat) (st:St):St :=
 match st.tmps.getD x .undef with
 | .ref nm o=>match Ak st.objs nm with
  | some (.cells ty cs)=>NI nm ty cs (o+off) k st
  | _=>st
 | _=>st
def Lf (t k:Nat) (st:St):St :=
 if ID<=t then OP (t%ID) (t / ID - 1) k st
 else match st.tmps.getD t .undef with
 | .nilS=>if KH st t then {st with tmps:=st.tmps.set t (.arr (t,0) k 0 0),objs:=st.objs.set t [.arr k 0 []]} else st
 | _=>st
def QC (asg:List Nat) (grow:List (Nat×Nat)) (st:St):St :=
 grow.foldl (fun st (t,k)=>Lf t k st) (asg.foldl (fun st t=>KC t st) st)
def Kv (ds:List Nat) (st:St):St:={st with tmps:=st.tmps.zipIdx.map fun (v,i)=>if ds.contains i then .undef else v}
def PS (st:St):List Nat :=
 let R:=AQ st.tmps++AQ st.keep++st.objs.flatMap fun l=>l.flatMap Ob.names
 (List.range st.objs.length).filter fun d=>!(st.objs.getD d []).isEmpty&&R.all fun nm=>nm.1 != d
def drop (ds:List Nat) (st:St):St:=EG (PS (Kv ds st)) (Kv ds st)
def norm (asg:List Nat) (grow:List (Nat×Nat)) (st:St):St:=drop (undefs (QC asg grow st)) (QC asg grow st)
def Kt (ks:List Nat) (st:St):St:={st with tmps:=st.tmps.zipIdx.map fun (v,i)=>if ks.contains i then v else .undef}
def Hb (live:Option (List Nat)) (st:St):St :=
 match live with
 | none=>st
 | some ks=>EG (PS (Kt ks st)) (Kt ks st)
def HB (R:List Nm) (d:Nat):Nat->Nat
 | 0=>0
 | m+1=>if R.contains (d,m) then m+1 else HB R d m
def trim (st:St):St :=
 let R:=AQ st.tmps++AQ st.keep++st.objs.flatMap fun l=>l.flatMap Ob.names
 {st with objs:=st.objs.zipIdx.map fun (l,d)=>l.take (HB R d l.length)}
inductive Cls where
 | quiet | turns | calls | other
 deriving DecidableEq
structure CK where
 i:Nat
 cls:Cls
 dst:Option Nat
 reads:List Nat
 rn:List Nm
 on:List Nm:=[]
 tch:List Nm:=[]
 frz:Bool:=false
 vn:List Nm:=[]
 rv:List Nm:=[]
def Ax.xs:Ax->List RX
 | .mov x | .box x | .load _ _ x | .nilck x | .un _ x | .conv _ x | .toBytes x | .ofBytes x | .ofRune x | .strId x | .mkI _ x | .fieldAddr _ x | .field _ _ _ x | .extract _ x | .len _ x | .iter x | .next x | .tassert _ _ _ x=>[x]
 | .pick c a b=>[c,a,b]
 | .alloc _ _ | .mkMap | .bad=>[]
 | .build _ ps=>ps.map (·.2.2)
 | .mkSl _ ps=>ps
 | .store _ x v=>[x,v]
 | .bin _ _ _ x y=>[x,y]
 | .mkF _ cap=>cap
 | .insert _ x k v=>[x,k,v]
 | .lookup _ _ _ x k=>[x,k]
 | .mkS _ _ l c=>[l,c]
 | .slice _ x lo hi mx=>x :: (lo.toList++hi.toList++mx.toList)
 | .strSlice x lo hi=>x :: (lo.toList++hi.toList)
 | .idxAddr _ x i | .strIdx x i=>[x,i]
 | .idxAddrA _ _ x i=>[x,i]
 | .append _ _ s x=>[s,x]
 | .copy _ d s=>[d,s]
 | .minmax _ xs=>xs
 | .call f args=>f :: args
def PU (xs:List RX):List Nat:=xs.filterMap fun | .t i=>some i | .c _=>none
def FX (ops:List AV) (o:AV):List Nat :=
 match o.guard with
 | none=>[]
 | some (j,_)=>match ops[j]? with
  | some p=>p.dst.toList
  | none=>[]
def ET:Ax->Bool
 | .call _ _=>true
 | _=>false
def HC:Ax->Bool
 | .mov _ | .extract _ _ | .pick _ _ _ | .fieldAddr _ _ | .nilck _ | .mkI _ _ | .mkF _ _=>true
 | _=>false
def Fm:Ax->Bool
 | .load _ _ _=>true
 | _=>false
def Ji (op:Ax) (stays:Bool):Nat:=if Fm op&&stays then 0 else AU
def Cm (o:AK):Bool:=o.upd.isNone&&o.kill.isNone&&o.frz.isEmpty&&o.gone.isEmpty&&o.ups.isEmpty&&o.slot.isNone
def Ei (o:AK):Bool:=o.gone.isEmpty&&o.ups.isEmpty&&o.slot.isNone&&!o.io
def Fa (o:AK):List Nm :=
 match o.upd with
 | some (nm,_)=>[nm]
 | none=>[]
def JU (σ:Nm->Option Ob) (l:List Nm):List Nm:=l.flatMap fun nm=>((σ nm).map Ob.names).getD []
def Fx (o:AV) (st:St) (out:AK):List Nm :=
 if HC o.op&&Cm out then [] else A8 (Ak st.objs) (Ji o.op (Cm out)) (AQ (o.op.xs.map (RX.ev st.tmps))++out.frz)
def G6 (op:Ax) (tm:List PV):Bool :=
 match op with
 | .call f args=>match f.ev tm with
  | .yld _=>(AQ (args.map (RX.ev tm))).isEmpty
  | _=>false
 | _=>false
def GG (ops:List AV) (i:Nat) (o:AV) (st:St) (out:AK):CK :=
 let vs:=o.op.xs.map (RX.ev st.tmps)
 {i,dst:=o.dst,reads:=PU o.op.xs++FX ops o,rn:=Fx o st out,rv:=if Fm o.op then [] else JU (Ak st.objs) (Fx o st out),
  cls:=if ET o.op&&BF vs then (if G6 o.op st.tmps then .calls else .other) else if Cm out then .quiet else if Ei out then .turns else .other,
  on:=out.v.names++out.new.flatMap Ob.names,tch:=Fa out++(out.frz++out.kill.toList),frz:=!(out.frz++out.kill.toList).isEmpty,
  vn:=(PU o.op.xs++FX ops o).flatMap fun s=>(st.tmps.getD s .undef).names}
def HT (a b:List Nat):Bool:=a.all fun x=>!b.contains x
def Qs (f:Bool) (q t:CK):Bool :=
 (q.rn.all fun nm=>!t.tch.contains nm)&&HT q.dst.toList (t.tch.map (·.1))&&(!t.frz||((if f then q.rv.all fun nm=>!t.tch.contains nm else q.rn.isEmpty)&&(if f then q.vn.all fun nm=>!t.tch.contains nm else q.reads.isEmpty)&&q.on.all fun nm=>!t.tch.contains nm))
def indepY (a b:CK):Bool :=
 match a.cls,b.cls with
 | .quiet,.calls=>true
 | .calls,.quiet=>true
 | _,_=>false
def Ug (a b:CK):Bool :=
 match a.cls,b.cls with
 | .quiet,.quiet=>true
 | .quiet,.turns=>Qs true a b
 | .turns,.quiet=>Qs false b a
 | _,_=>false
def IL (a b:CK):Bool :=
 HT a.dst.toList (b.reads++b.dst.toList)&&HT b.dst.toList a.reads &&
 HT a.dst.toList (b.rn.map (·.1))&&HT b.dst.toList (a.rn.map (·.1)) &&
 (Ug a b||indepY a b)
def BX (M:Ba) {E:Type} (h:Ay E) (dep:Nat) (ops:List AV) (i:Nat) (o:AV) (st:St) (e:E):Option (AK×E×CK) :=
 match Dt ops o st.tmps with
 | some true=>match Dj M h dep o st e with
  | some (out,e)=>some (out,e,GG ops i o st out)
  | none=>none
 | some false=>some ({v:=.tup []},e,{i,cls:=.quiet,dst:=o.dst,reads:=FX ops o,rn:=[],vn:=(FX ops o).flatMap fun s=>(st.tmps.getD s .undef).names})
 | none=>none
def MB (M:Ba) {E:Type} (h:Ay E) (dep:Nat) (ops:List AV) (i:Nat) (o:AV) (st:St) (e:E):Option (St×E×CK) :=
 match BX M h dep ops i o st e with
 | some (out,e,info)=>some (apply st o.dst out,e,info)
 | none=>none
def Hg (M:Ba) {E:Type} (h:Ay E) (dep:Nat) (ops:List AV):List (Nat×Nat)->List CK->St->E->Option (St×E)
 | [],_,st,e=>some (st,e)
 |(i,bef) :: rest,infos,st,e=>match ops[i]? with
  | some o=>match MB M h dep ops i o st e with
   | some (st,e,info)=>AC (infos.all fun j=>bef.testBit j.i||IL j info) (Hg M h dep ops rest (info :: infos) st e)
   | none=>none
  | none=>none
inductive Ex where
 | normal
 | exit (id:Nat)
 | ret
 deriving DecidableEq
def Cr:Nat:=1000000000
abbrev Gs (E:Type):=St×Option Ex×E
def G2:List Nat->List PV->List PV->List PV
 | p :: ps,v :: vs,tm=>G2 ps vs (tm.set p v)
 | _,_,tm=>tm
def KG (st:St) (v:PV):Option (PV×St) :=
 if v.names.isEmpty then some (v,st)
 else AC (C8 (Ak st.objs) (A8 (Ak st.objs) AU v.names))
  (some (v.sub (BJ (Ak st.objs)),CD (Ak st.objs) (A8 (Ak st.objs) AU v.names) st))
def F6 {σ:Type} (step:σ->Option (Sum σ (Ex×σ))):Nat->σ->Option (Ex×σ)
 | 0,_=>none
 | m+1,s=>match step s with
  | some (.inl s)=>F6 step m s
  | some (.inr r)=>some r
  | none=>none
def AP (M:Ba) (fuel:Nat):Bw->{E:Type}->Ay E->Nat->St->E->Option (Ex×St×E)
 | .skip,_,_,_,st,e=>some (.normal,st,e)
 | .region ops none Bz,_,h,dep,st,e=>match EB M h dep ops ops (EG (CC ops) st) e with
  | some (st,e)=>some (.normal,Hb Bz st,e)
  | none=>none
 | .region ops (some bef) Bz,_,h,dep,st,e=>match Hg M h dep ops bef [] (EG (CC ops) st) e with
  | some (st,e)=>some (.normal,Hb Bz st,e)
  | none=>none
 | .seq a b,_,h,dep,st,e=>match AP M fuel a h dep st e with
  | some (.normal,st,e)=>AP M fuel b h dep st e
  | r=>r
 | .cond c a b,_,h,dep,st,e=>match c.ev st.tmps with
  | .bool true=>AP M fuel a h dep st e
  | .bool false=>AP M fuel b h dep st e
  | _=>none
 | .block id body,_,h,dep,st,e=>match AP M fuel body h dep st e with
  | some (.exit id',st,e)=>if id'=id then some (.normal,st,e) else some (.exit id',st,e)
  | r=>r
 | .loop asg grow body,E,h,dep,st,e =>
  let st:=norm asg grow st
  let ds:=undefs st
  match F6 (fun (s:St×E)=>match AP M fuel body h dep s.1 s.2 with
   | some (.normal,st,e)=>some (.inl (norm asg grow (drop ds st),e))
   | some (x,st,e)=>some (.inr (x,st,e))
   | none=>none) fuel (st,e) with
  | some (x,st,e)=>some (x,st,e)
  | none=>none
 | .rangeFunc f ps assign body,E,h,dep,st,e =>
  match KG st (f.ev st.tmps) with
  | some (.fn g cap,st) =>
   let h':Ay (Gs E):=fun l args r =>
    if l=dep then
     match r with
     |(s,none,e) =>
      if args.length=ps.length then
       match AP M fuel assign h (dep+1) {s with tmps:=G2 ps args s.tmps,keep:=s.tmps++s.keep} e with
       | some (.normal,s',e)=>match AP M fuel body h (dep+1) s' e with
        | some (x,s',e)=>some (x==.normal,({s' with tmps:=s'.keep.take s.tmps.length,keep:=s'.keep.drop s.tmps.length},(if x=.normal then none else some x),e))
        | none=>none
       | _=>none
      else none
     | _=>none
    else
     match r with
     |(s,p,e)=>match h l args e with
      | some (b,e)=>some (b,(s,p,e))
      | none=>none
   match M.call (Gs E) h' (dep+1) (AW g) (Bv g [.yld dep] cap) (st,none,e) with
   | some (_,_,s,p,e)=>some (p.getD .normal,s,e)
   | none=>none
  | _=>none
 | .exit id,_,_,_,st,e=>some (.exit id,st,e)
 | .scope body,_,h,dep,st,e=>match AP M fuel body h dep st e with
  | some (.exit id,st,e)=>if id < Cr then some (.exit id,st,e) else none
  | r=>r
 | .ret,_,_,_,st,e=>some (.ret,st,e)
 | .norm grow,_,_,_,st,e=>some (.normal,norm [] grow (trim st),e)
 | .dreg _ _ _ _,_,_,_,_,_=>none
 | .bad,_,_,_,_,_=>none
def QA (nt:Nat) (vs:List PV) (st:St):St:={st with keep:=vs++List.replicate (nt - vs.length) .undef++st.keep}
def S8:Bw->Bool
 | .seq (.block id _) _=>decide (Cr<=id)
 | _=>false
def isFn:PV->Bool
 | .fn _ _=>true
 | _=>false
def Gj:Option (Ex×St×Unit)->Option (Ex×St×List Nat)
 | some (x,st,_)=>some (x,st,[])
 | none=>none
def Bh (M:Ba) (fuel nt:Nat):Bw->St->Option (Ex×St×List Nat)
 | .dreg ops f args live,st=>match EB M AD 0 ops ops (EG (CC ops) st) () with
  | some (st,_)=>AC (decide (args.length+1<=nt)&&isFn (f.ev st.tmps))
    (some (.normal,Hb live (QA nt (f.ev st.tmps :: args.map (RX.ev st.tmps)) st),[args.length]))
  | none=>none
 | .seq a b,st=>match Bh M fuel nt a st with
  | some (.normal,st,l)=>match Bh M fuel nt b st with
   | some (x,st,l')=>some (x,st,l'++l)
   | none=>none
  | r=>r
 | .cond c a b,st=>match c.ev st.tmps with
  | .bool true=>Bh M fuel nt a st
  | .bool false=>Bh M fuel nt b st
  | _=>none
 | .block id body,st=>match Bh M fuel nt body st with
  | some (.exit id',st,l)=>if id'=id then some (.normal,st,l) else some (.exit id',st,l)
  | r=>r
 | .scope body,st=>if S8 body then none else match Bh M fuel nt body st with
  | some (.exit id,st,l)=>if id < Cr then some (.exit id,st,l) else none
  | r=>r
 | c,st=>Gj (AP M fuel c AD 0 st ())
def GS (M:Ba) (nt:Nat):List Nat->St->Option St
 | [],st=>some st
 | n :: l,st=>match st.keep.getD 0 .undef with
  | .fn f cap =>
   match M.sp (AW f) (Ak st.objs) (Bv f ((st.keep.drop 1).take n) cap) with
   | some _=>none
   | none=>if M.isIo (AW f)&&M.flat (AW f) then match M.io (AW f) 0 (Ak st.objs) (Bv f ((st.keep.drop 1).take n) cap) with
    | some out=>AC (out.new.isEmpty||out.slot.isSome) (GS M nt l (apply {st with keep:=st.keep.drop nt} none out))
    | none=>none
   else none
  | _=>none
def BW (st:St):HL->Option PV
 | .tmp t=>some (st.tmps.getD t .undef)
 | .cell t n ag=>match st.tmps.getD t .undef with
  | .ref nm o=>match Ak st.objs nm with
   | some (.cells _ cs)=>BE cs o n ag
   | _=>none
  | _=>none
def Ft (st:St):List HL->Option (List PV)
 | []=>some []
 | r :: rs=>match BW st r,Ft st rs with
  | some v,some vs=>some (v :: vs)
  | _,_=>none
def G4:List PV->PV
 | [v]=>v
 | vs=>.tup vs
def tops:PV->List Nm
 | .arr nm _ 0 _=>[nm]
 | .agg cs=>cs.flatMap fun | .arr nm _ 0 _=>[nm] | _=>[]
 | .tup xs=>xs.flatMap fun | .arr nm _ 0 _=>[nm] | .agg cs=>cs.flatMap (fun | .arr nm _ 0 _=>[nm] | _=>[]) | _=>[]
 | _=>[]
def DE:List Nm->Bool
 | []=>true
 | x :: xs=>!xs.contains x&&DE xs
def JN (S:List Nm) (nm:Nm):Nm:=(0,S.idxOf nm)
def JT:Ob->Bool
 | .arr _ _ _=>true
 | _=>false
def Ob.bare:Ob->Ob
 | .arr k _ xs=>.arr k 0 xs
 | o=>o
def H2 (shut:Bool) (v:PV):List Nm:=if shut then [] else tops v
def Jl (shut:Bool) (st:St) (v:PV):Option (PV×List Ob) :=
 let σ:=Ak st.objs
 let S:=H2 shut v
 let R:=A8 σ AU (v.names.filter fun nm=>!S.contains nm)
 let S:=if DE S&&S.all (fun nm=>!R.contains nm) then S else []
 let R:=A8 σ AU (v.names.filter fun nm=>!S.contains nm)
 let v:=(v.sub fun nm=>if S.contains nm then none else BJ σ nm).ren (JN S)
 match S.mapM σ with
 | some obs=>AC (C8 σ R&&obs.all JT) (some (v,obs.map Ob.bare))
 | none=>none
def IG (M:Ba) (n:Nat) (tab:FuncId->Option At):Ha:=fun _ h dep f args e =>
 match tab f with
 | none=>none
 | some fn =>
  match AP M n fn.code h dep {tmps:=args++List.replicate (fn.nt - args.length) .undef,objs:=List.replicate fn.nt [],keep:=[]} e with
  | some (x,st,e) =>
   match x with
   | .exit _=>none
   | _=>match Ft st fn.res with
    | some vs=>match Jl fn.shut st (G4 vs) with
     | some (v,obs)=>some (v,obs,e)
     | none=>none
    | none=>none
  | none=>none
def Ob.hasY:Ob->Bool
 | .cells _ cs=>BF cs
 | .arr _ _ xs=>BF xs
 | .map es=>BF es
 | .siter _ _=>false
def Dr:List Nm->List Nm
 | []=>[]
 | x :: xs=>if xs.contains x then Dr xs else x :: Dr xs
def Lp (g:List Nat) (nt k:Nat):List PV:=(List.range nt).map fun j=>if j < k/\g.contains j=false then .arr (0,j) 1 0 0 else .undef
def FH:PV->Option Nm
 | .arr nm 1 0 0=>some nm
 | _=>none
def FB (R:List Nm) (keep:List PV):List (Nm×Nm):=R.zipIdx.map fun p=>((FH (keep.getD p.2 .undef)).getD (0,p.2),p.1)
def JD (R:List Nm) (keep:List PV):List Nm:=(R.zipIdx.filter fun p=>(FH (keep.getD p.2 .undef)).isNone).map (·.1)
def KW (σ:Nm->Option Ob) (A:List (Nm×Nm)) (v:PV):List Nm :=
 Dr ((A8 σ AU (v.names++A.flatMap fun p=>((σ p.1).map Ob.names).getD [])).filter fun m=>!(A.map (·.1)).contains m)
def GR (σ:Nm->Option Ob) (B:List (Nm×Nm)) (nm:Nm):Ob :=
 (((σ nm).getD Bz).sub fun m=>if (B.map (·.1)).contains m then none else some none).ren fun m=>(B.lookup m).getD m
def GM (sl:Option Nat) (d0 i0:Nat) (R:List Nm) (st:St) (v:PV):Option AK :=
 let A:=FB R st.keep
 let N:=KW (Ak st.objs) A v
 let B:=A++N.zipIdx.map fun p=>(p.1,(d0,i0+p.2))
 AC (DE (B.map (·.1)))
  (some {v:=(v.sub fun m=>if (B.map (·.1)).contains m then none else some none).ren fun m=>(B.lookup m).getD m,new:=N.map (GR (Ak st.objs) B),ups:=A.map fun p=>(p.2,GR (Ak st.objs) B p.1),gone:=JD R st.keep,io:=true,slot:=sl})
def IU (g:List Nat) (nt:Nat) (ins:List Ob) (vs:List PV):St :=
 {tmps:=vs++List.replicate (nt - vs.length) .undef,objs:=(List.replicate nt []).set 0 ins,keep:=Lp g nt ins.length}
def Hz (M:Ba) (n:Nat) (fn:At) (ins:List Ob) (vs:List PV):Option (St×PV) :=
 if Dk fn.code then match AP M n fn.code AD 0 (IU fn.gone fn.nt ins vs) () with
  | some (x,st,_) =>
   match x with
   | .exit _=>none
   | _=>match Ft st fn.res with
    | some rs=>some (st,G4 rs)
    | none=>none
  | none=>none
 else match Bh M n fn.nt fn.code (IU fn.gone fn.nt ins vs) with
  | some (x,st,l) =>
   match x with
   | .exit _=>none
   | _=>match GS M fn.nt l st with
    | some st=>match Ft st fn.res with
     | some rs=>some (st,G4 rs)
     | none=>none
    | none=>none
  | none=>none
def Kz {α:Type} (σ:Nm->Option α) (d:Nat):Option Nat:=(List.range 64).find? fun j=>(σ (d,j)).isNone
def L9 (σ:Nm->Option Ob) (dst:Nat) (R:List Nm) (st:St) (v:PV):Option AK :=
 match R with
 | []=>GM none dst 0 R st v
 | r :: _=>match Kz σ r.1 with
  | some i0=>GM (some r.1) r.1 i0 R st v
  | none=>none
def Gp (M:Ba) (n:Nat) (tab:FuncId->Option At) (f:FuncId) (dst:Nat) (σ:Nm->Option Ob) (vs:List PV):Option AK :=
 match tab f with
 | none=>none
 | some fn =>
  let R:=Dr (A8 σ AU (AQ vs))
  match R.mapM σ with
  | none=>none
  | some ins =>
   AC (!BF vs&&C8 σ R&&ins.all (fun o=>!o.hasY)&&(decide (vs.length<=fn.nt)&&decide (R.length<=fn.nt)&&decide (0 < fn.nt))) (
    match Hz M n fn (ins.map (Ob.ren fun m=>(0,R.idxOf m))) (Bt (fun m=>(0,R.idxOf m)) vs) with
    | some (st,v)=>L9 σ dst R st v
    | none=>none)
def EU (tab:FuncId->Option At) (f:FuncId):Bool :=
 match tab f with
 | some fn=>fn.io
 | none=>false
def F4 (tab:FuncId->Option At) (f:FuncId):Bool :=
 match tab f with
 | some fn=>fn.leans
 | none=>false
def Jm (tab:FuncId->Option At) (f:FuncId):Bool :=
 match tab f with
 | some fn=>Dk fn.code
 | none=>false
def Ec (sp:FuncId->(Nm->Option Ob)->List PV->Option AK) (tab:FuncId->Option At):Nat->Ba
 | 0=>{sp,call:=fun _ _ _ _ _ _=>none,isIo:=EU tab,leans:=F4 tab,io:=fun _ _ _ _=>none,flat:=Jm tab}
 | n+1=>{sp,call:=IG (Ec sp tab n) n tab,isIo:=EU tab,leans:=F4 tab,io:=Gp (Ec sp tab n) n tab,flat:=Jm tab}
def Bc (sp:FuncId->(Nm->Option Ob)->List PV->Option AK) (tab:FuncId->Option At) (n:Nat):Ha:=(Ec sp tab n).call
end Go.Ab


namespace Go.Ab
def Lu (d:TypeDesc):Bool :=
 match d with
 | .struct _=>true
 | .array _ _=>true
 | _=>false
def Hq:Nat->Value->Option PV
 | _,.bool b=>some (.bool b)
 | _,.int k n=>some (.int k n)
 | _,.string s=>some (.str s.data.toList)
 | _,.slice none 0 0=>some .nilS
 | _,.pointer none=>some .nilP
 | _,.nilFunc=>some .nilF
 | _,.nilIface=>some .nilI
 | _,.map none=>some .nilM
 | n+1,.agg cs=>if cs.toList.all (·.oneCell') then (cs.toList.mapM (Hq n)).map .agg else none
 | _,_=>none
def Ga (P:Program) (t:TypeId):Option PV:=((P.info? t).bind (·.zero)).bind (Hq 3)
def GZ (P:Program) (t:TypeId):Option (Nat×Bool) :=
 match P.underlying t,P.info? t with
 | some d,some i=>some (i.size,Lu d)
 | _,_=>none
def Ge (P:Program) (t:TypeId):Option (Nat×Nat×PV) :=
 match P.underlying t with
 | some (.slice e)=>match P.info? e,Ga P e with
  | some i,some z=>if i.bytes<=65536/\z.cells.length=i.size then some (i.size,i.bytes,z) else none
  | _,_=>none
 | _=>none
def KD (P:Program) (i:Nat):List Field->Option (List Nat)
 | []=>some []
 | f :: fs=>if f.offset=i/\f.name ≠ "_" then
   match P.underlying f.type,KD P (i+1) fs with
   | some (.int _),some l=>some (0 :: l)
   | some .string,some l=>some (1 :: l)
   | some .bool,some l=>some (2 :: l)
   | _,_=>none
  else none
def DP (P:Program) (t:TypeId):TC :=
 match P.underlying t with
 | some (.struct fs)=>match KD P 0 fs.toList with
  | some l=>if P.stoodInHeld t=false/\P.eqGuardType P.depth t=false then .plain l else .other
  | none=>.other
 | some (.int _)=>.num
 | some .string=>.str
 | some .bool=>.bool
 | some (.interface _)=>.iface
 | some (.slice _)=>.slice
 | some (.map _ _)=>.map
 | some (.func _ _ _)=>.func
 | some (.pointer _)=>.ptr
 | _=>.other
abbrev EH:=Nat->Option (List PV)
def rx (G:EH):Operand->Option RX
 | .tmp t=>some (.t t)
 | .const v=>(Hq 3 v).map .c
 | .global g=>(G g).map fun cs=>.c (.ptr cs 0)
 | .func f=>if Nat.blt f CQ=true then some (.c (.fn f [])) else none
def rxO (G:EH):Option Operand->Option (Option RX)
 | none=>some none
 | some x=>(rx G x).map some
def D2 (G:EH):List Operand->Option (List RX)
 | []=>some []
 | x :: xs=>match rx G x,D2 G xs with
  | some y,some ys=>some (y :: ys)
  | _,_=>none
def isC:Operand->Bool
 | .const _=>true
 | _=>false
def LL (G:EH) (place:Nat->Option (Nat×Nat)):List (Nat×Operand)->Option (List (Nat×Nat×RX))
 | []=>some []
 |(i,x) :: ps=>match place i,rx G x,LL G place ps with
  | some (off,n),some y,some ys=>some ((off,n,y) :: ys)
  | _,_,_=>none
def Mb (G:EH):Nat->List (Nat×Operand)->Option (List RX)
 | _,[]=>some []
 | j,(i,x) :: ps=>if i=j then match rx G x,Mb G (j+1) ps with
  | some y,some ys=>some (y :: ys)
  | _,_=>none
  else none
def OY (P:Program) (fs:Array Field) (i:Nat):Option (Nat×Nat) :=
 match fs[i]? with
 | some f=>match P.info? f.type with
  | some inf=>some (f.offset,inf.size)
  | none=>none
 | none=>none
def orBad:Option Ax->Ax
 | some o=>o
 | none=>.bad
def SZ (P:Program) (t:TypeId):Bool :=
 match P.underlying t with
 | some (.int _)=>true
 | some .string=>true
 | some .bool=>true
 | _=>false
def BV (P:Program) (G:EH) (o:Oper):Option Ax :=
 match o.op with
 | .move x=>(rx G x).map .mov
 | .assign x=>(rx G x).map .mov
 | .pick c a b=>match rx G c,rx G a,rx G b with
  | some c,some a,some b=>some (.pick c a b)
  | _,_,_=>none
 | .alloc t=>match Ga P t with
  | some z=>some (.alloc t z.cells)
  | none=>none
 | .box _ x=>(rx G x).map .box
 | .build t ps=>match P.underlying t,Ga P t with
  | some (.struct fs),some (.agg z)=>match LL G (OY P fs) ps.toList with
   | some ps=>if fs.all (fun f=>(P.info? f.type).isSome) then some (.build z ps) else none
   | none=>none
  | _,_=>none
 | .buildSlice t len ps=>match Ge P t,Mb G 0 ps.toList with
  | some (k,_,_),some xs=>if xs.length=len/\len*k<=16777216 then some (.mkSl k xs) else none
  | _,_=>none
 | .load t a=>match GZ P t,rx G a with
  | some (n,ag),some x=>some (.load n ag x)
  | _,_=>none
 | .store t a v=>match GZ P t,rx G a,rx G v with
  | some (n,_),some x,some y=>some (.store n x y)
  | _,_,_=>none
 | .nilCheck x=>(rx G x).map .nilck
 | .binOp op t x y _=>match rx G x,rx G y with
  | some a,some b=>some (.bin op (DP P t) (isC x||isC y) a b)
  | _,_=>none
 | .unOp op _ x=>(rx G x).map (.un op)
 | .convert src dst x=>match P.underlying src,P.underlying dst,rx G x with
  | some (.int _),some (.int k),some x=>some (.conv k x)
  | some (.int _),some .string,some x=>some (.ofRune x)
  | some .string,some .string,some x=>some (.strId x)
  | some .string,some (.slice e),some x=>match P.underlying e with
   | some (.int .u8)=>some (.toBytes x)
   | _=>none
  | some (.slice e),some .string,some x=>match P.underlying e with
   | some (.int .u8)=>some (.ofBytes x)
   | _=>none
  | _,_,_=>none
 | .makeInterface t x=>match P.underlying t with
  | some (.interface _)=>none
  | some _=>(rx G x).map (.mkI t)
  | none=>none
 | .makeFunc (.func f) first cap=>if Nat.blt f CQ=true then (D2 G (first.toList++cap.toList)).map (.mkF (OQ f first.size)) else none
 | .makeMap _ none=>some .mkMap
 | .insert t m k v=>match P.underlying t,rx G m,rx G k,rx G v with
  | some (.map kt _),some m,some k,some v=>if SZ P kt then some (.insert (DP P kt) m k v) else none
  | _,_,_,_=>none
 | .mapUpdate t m k v=>match P.underlying t,rx G m,rx G k,rx G v with
  | some (.map kt _),some m,some k,some v=>if SZ P kt then some (.insert (DP P kt) m k v) else none
  | _,_,_,_=>none
 | .lookup t m k ok=>match P.underlying t with
  | some (.map kt et)=>match Ga P et,rx G m,rx G k with
   | some z,some m,some k=>if SZ P kt then some (.lookup (DP P kt) z ok m k) else none
   | _,_,_=>none
  | _=>none
 | .makeSlice t l c=>match Ge P t,rx G l,rx G c with
  | some (k,_,z),some l,some c=>some (.mkS k z l c)
  | _,_,_=>none
 | .slice t x lo hi mx=>match rx G x,rxO G lo,rxO G hi,rxO G mx with
  | some x,some lo,some hi,some mx=>match P.underlying t with
   | some .string=>if mx.isNone then some (.strSlice x lo hi) else none
   | some (.slice _)=>match Ge P t with
    | some (k,_,_)=>some (.slice k x lo hi mx)
    | none=>none
   | _=>none
  | _,_,_,_=>none
 | .fieldAddr t x f=>match P.underlying t,rx G x with
  | some (.struct fs),some x=>match fs[f]? with
   | some fd=>match P.info? fd.type with
    | some i=>if i.size=0 then none else some (.fieldAddr fd.offset x)
    | none=>none
   | none=>none
  | _,_=>none
 | .field t x f=>match P.underlying t,rx G x with
  | some (.struct fs),some x=>match fs[f]? with
   | some fd=>match GZ P fd.type with
    | some (n,ag)=>some (.field fd.offset n ag x)
    | none=>none
   | none=>none
  | _,_=>none
 | .indexAddr t x i=>match P.underlying t,rx G x,rx G i with
  | some (.slice _),some x,some i=>match Ge P t with
   | some (k,_,_)=>some (.idxAddr k x i)
   | none=>none
  | some (.array n e),some x,some i=>match P.info? e with
   | some inf=>some (.idxAddrA inf.size n x i)
   | none=>none
  | _,_,_=>none
 | .index t x i=>match P.underlying t,rx G x,rx G i with
  | some .string,some x,some i=>some (.strIdx x i)
  | _,_,_=>none
 | .extract x j=>(rx G x).map (.extract j)
 | .call c=>match D2 G c.args.toList with
  | none=>none
  | some as=>match c.callee with
   | .value f=>(rx G f).map fun f=>.call f as
   | .builtin .len=>match c.argTypes[0]?,as with
    | some t,[x]=>match P.underlying t with
     | some .string=>some (.len .str x)
     | some (.slice _)=>some (.len .slice x)
     | some (.map _ _)=>some (.len .map x)
     | _=>none
    | _,_=>none
   | .builtin .append=>match c.argTypes[0]?,c.argTypes[1]?,as with
    | some t,some u,[s,x]=>match Ge P t,P.underlying u,P.underlying t with
     | some (k,_,_),some (.slice _),some (.slice el)=>some (.append k el s x)
     | some (k,_,_),some .string,some (.slice el)=>some (.append k el s x)
     | _,_,_=>none
    | _,_,_=>none
   | .builtin .copy=>match c.argTypes[0]?,as with
    | some t,[d,s]=>match Ge P t with
     | some (k,_,_)=>some (.copy k d s)
     | none=>none
    | _,_=>none
   | .builtin .min=>some (.minmax false as)
   | .builtin .max=>some (.minmax true as)
   | _=>none
 | .range t x=>match P.underlying t,rx G x with
  | some .string,some x=>some (.iter x)
  | _,_=>none
 | .next x true=>(rx G x).map .next
 | .typeAssert x _ t ok=>match P.underlying t with
  | some (.interface _)=>none
  | some _=>match Ga P t,rx G x with
   | some z,some x=>some (.tassert t z ok x)
   | _,_=>none
  | none=>none
 | _=>none
def Cy (P:Program) (G:EH) (o:Oper):AV:={dst:=o.dst,op:=orBad (BV P G o),guard:=o.guard}
def JY:Bw->List Nat
 | .region ops _ _=>ops.filterMap fun o=>match o.op with | .mov _=>o.dst | _=>none
 | .seq a b=>JY a++JY b
 | .cond _ a b=>JY a++JY b
 | .block _ b=>JY b
 | .loop _ _ b=>JY b
 | .scope b=>JY b
 | _=>[]
def growOps (ops:List AV):List (Nat×Nat) :=
 ops.filterMap fun o=>match o.dst,o.op with
  | some t,.mov (.t s)=>(ops.findSome? fun p=>match p.op with | .append k _ _ _=>if p.dst=some s then some k else none | _=>none).map fun k=>(t,k)
  | _,_=>none
def Q2 (ops:List AV):Nat->Nat->Nat->Option (Nat×Nat)
 | 0,_,_=>none
 | n+1,x,off=>match ops.find? fun p=>p.dst==some x with
  | none=>some (x,off)
  | some p=>match p.op with
   | .mov (.t y)=>Q2 ops n y off
   | .nilck (.t y)=>Q2 ops n y off
   | .fieldAddr o (.t y)=>Q2 ops n y (off+o)
   | _=>none
def growCells (ops:List AV):List (Nat×Nat) :=
 ops.filterMap fun o=>match o.op with
  | .store 1 (.t a) (.t u) =>
   match ops.findSome? (fun p=>match p.op with | .append k _ _ _=>if p.dst=some u then some k else none | _=>none),Q2 ops 8 a 0 with
   | some k,some (x,off)=>some (ID*(off+1)+x,k)
   | _,_=>none
  | _=>none
def Hu:Bw->List (Nat×Nat)
 | .region ops _ _=>growOps ops++growCells ops
 | .seq a b=>Hu a++Hu b
 | .cond _ a b=>Hu a++Hu b
 | .block _ b=>Hu b
 | .loop _ _ b=>Hu b
 | .scope b=>Hu b
 | .rangeFunc _ _ _ b=>(Hu b).filter fun p=>decide (ID<=p.1)
 | _=>[]
def Lh {α:Type} [BEq α]:List α->List α
 | []=>[]
 | x :: xs=>if (Lh xs).contains x then Lh xs else x :: Lh xs
def Mf (acc:List (Nat×Nat)):List Edge->Nat
 | []=>0
 | e :: es=>if Region.binds .any e then 2 ^ e.on ||| ((acc.lookup e.on).getD 0) ||| Mf acc es else Mf acc es
def MW (ops:Array Oper):List Nat->List (Nat×Nat)->Option (List (Nat×Nat))
 | [],acc=>if acc.length=ops.size then some acc.reverse else none
 | i :: rest,acc=>match ops[i]? with
  | some o=>if (acc.lookup i).isNone/\o.after.toList.all (fun e=>!Region.binds .any e||(acc.lookup e.on).isSome) then MW ops rest ((i,Mf acc o.after.toList) :: acc) else none
  | none=>none
def IC:Code->Option Nat
 | .goto l=>some l
 | .seq a b=>(IC a).orElse fun _=>IC b
 | .cond _ a b=>(IC a).orElse fun _=>IC b
 | .block _ b=>IC b
 | .loop b=>IC b
 | .rangeFunc _ _ _ b=>IC b
 | _=>none
def D9 (l:Nat):Code->Bw->Option (Bw×Bw)
 | .seq a b,.seq ra rb=>match D9 l a ra with
  | some (x,y)=>some (x,.seq y rb)
  | none=>match D9 l b rb with
   | some (x,y)=>some (.seq ra x,y)
   | none=>none
 | .label l',_=>if l'=l then some (.skip,.skip) else none
 | _,_=>none
def Oi (c:Code) (r:Bw):Bw :=
 match IC c with
 | none=>.scope r
 | some l=>match D9 l c r with
  | some (x,y)=>.scope (.seq (.block (Cr+l) x) y)
  | none=>.scope r
structure Told where
 lv:Option (List Nat):=none
 grow:Option (List (Nat×Nat)):=none
 peel:Bool:=false
 deriving Inhabited
abbrev D0:=Nat->Told
def MI (g:Option (List (Nat×Nat))) (r:Bw):Bw :=
 match g with
 | none=>r
 | some g=>.seq r (.norm g)
def Jq:Code->Option Nat
 | .region id _ _=>some id
 | .seq a b=>(Jq a).orElse fun _=>Jq b
 | .cond _ a b=>(Jq a).orElse fun _=>Jq b
 | .block _ b=>Jq b
 | .loop b=>Jq b
 | .scope b=>Jq b
 | _=>none
def peelOf (D:D0) (c:Code):Bool :=
 match Jq c with
 | some id=>(D id).peel
 | none=>false
def QF (p:Bool) (asg:List Nat) (grow:List (Nat×Nat)) (b:Bw):Bw:=if p then .seq b (.loop asg grow b) else .loop asg grow b
def T1 (f:RX) (ps:List Nat) (asg b:Bw) (g:List (Nat×Nat)):Bw :=
 if g.isEmpty then .rangeFunc f ps asg b else .seq (.norm g) (.rangeFunc f ps asg (.seq (.seq b (.region [] none (some []))) (.norm g)))
def P8 (G:EH) (o:Oper):Option (RX×List RX) :=
 match o.op,o.guard,o.dst with
 | .defer c,none,none=>match c.callee with
  | .value f=>match rx G f,D2 G c.args.toList with
   | some f,some args=>some (f,args)
   | _,_=>none
  | _=>none
 | _,_,_=>none
def Qh (P:Program) (G:EH) (ops:Array Oper) (lv:Option (List Nat)):Bw :=
 match ops.toList.getLast?.bind (P8 G) with
 | some (f,args)=>.dreg (ops.toList.dropLast.map (Cy P G)) f args lv
 | none=>.region (ops.toList.map (Cy P G)) none lv
def BN (P:Program) (G:EH) (D:D0):Code->Bw
 | .skip=>.skip
 | .region id ops draw=>MI (D id).grow (if draw then (match MW ops (Region.linearise .any ops 0) [] with
   | some l=>.region (ops.toList.map (Cy P G)) (some l) (D id).lv
   | none=>.bad)
  else Qh P G ops (D id).lv)
 | .seq a b=>.seq (BN P G D a) (BN P G D b)
 | .cond c a b=>match rx G c with
  | some c=>.cond c (BN P G D a) (BN P G D b)
  | none=>.bad
 | .block id b=>if id < Cr then .block id (BN P G D b) else .bad
 | .loop b=>QF (peelOf D b&&Dk (BN P G D b)) (Lh (JY (BN P G D b))) (Lh (Hu (BN P G D b))) (BN P G D b)
 | .rangeFunc f ps asg b=>match rx G f with
  | some f=>T1 f ps.toList (BN P G D asg) (BN P G D b) (Lh (Hu (BN P G D b)))
  | none=>.bad
 | .exit id=>if id < Cr then .exit id else .bad
 | .scope b=>Oi b (BN P G D b)
 | .label _=>.skip
 | .goto l=>.exit (Cr+l)
 | .ret=>.ret
 | .refuse _=>.bad
def Me (P:Program):List ResultVar->Option (List HL)
 | []=>some []
 | r :: rs=>match (match r with
   | .tmp t=>some (HL.tmp t)
   | .cell a t=>(GZ P t).map fun (n,ag)=>HL.cell a n ag),Me P rs with
  | some x,some xs=>some (x :: xs)
  | _,_=>none
def Li (P:Program) (G:EH) (D:D0) (f:FuncId):Option At :=
 match P.funcs[f]? with
 | some fn=>match fn.body,Me P fn.results.toList with
  | some c,some rs=>if fn.name == "runtime.NumGoroutine" then none else some {nt:=fn.ntmps,code:=BN P G D c,res:=rs}
  | _,_=>none
 | none=>none
end Go.Ab


namespace Go.Ab
def opT:Operand->List Nat
 | .tmp t=>[t]
 | _=>[]
def opsT (l:List Operand):List Nat:=l.flatMap opT
def Lv (a b:List Nat):List Nat:=a.foldl (fun acc x=>if acc.contains x then acc else x :: acc) b
abbrev Ry:=List (Nat×List Nat)
def FR:Code->List Nat->Ry->List Nat->List Nat×Ry
 | .skip,out,_,_=>(out,[])
 | .region id ops _,out,_,_=>(ops.toList.foldr (fun o l=>Lv (opsT o.op.operands.toList) (match o.dst with | some d=>l.filter (· != d) | none=>l)) out,[(id,out)])
 | .seq a b,out,ends,rets =>
  let r2:=FR b out ends rets
  let r1:=FR a r2.1 ends rets
  (r1.1,r1.2++r2.2)
 | .cond c a b,out,ends,rets =>
  let r1:=FR a out ends rets
  let r2:=FR b out ends rets
  (Lv (opT c) (Lv r1.1 r2.1),r1.2++r2.2)
 | .block id b,out,ends,rets=>FR b out ((id,out) :: ends) rets
 | .loop b,_,ends,rets =>
  let x1:=(FR b [] ends rets).1
  let x2:=(FR b x1 ends rets).1
  let x3:=(FR b x2 ends rets).1
  (x3,(FR b x3 ends rets).2)
 | .rangeFunc f ps asg b,out,ends,rets =>
  let e0:=ends.map fun p=>(p.1,([]:List Nat))
  let r2:=FR b [] e0 []
  let r1:=FR asg r2.1 e0 []
  (Lv (opT f) (Lv (r1.1.filter fun x=>!ps.contains x) (Lv out (Lv (ends.flatMap (·.2)) rets))),r1.2++r2.2)
 | .exit id,_,ends,_=>((ends.lookup id).getD [],[])
 | .scope b,out,ends,rets =>
  let l:=(IC b).getD 0
  let x1:=((FR b out ends rets).2.lookup (Cr+l)).getD []
  let x2:=((FR b out ((Cr+l,x1) :: ends) rets).2.lookup (Cr+l)).getD []
  FR b out ((Cr+l,x2) :: ends) rets
 | .label l,out,_,_=>(out,[(Cr+l,out)])
 | .goto l,_,ends,_=>((ends.lookup (Cr+l)).getD [],[])
 | .ret,_,_,rets=>(rets,[])
 | .refuse _,out,_,_=>(out,[])
def resT:ResultVar->Nat
 | .tmp t=>t
 | .cell a _=>a
def liveOf (P:Program) (f:FuncId):Ry :=
 match P.funcs[f]? with
 | some fn=>match fn.body with
  | some c=>(FR c (fn.results.toList.map resT) [] (fn.results.toList.map resT)).2
  | none=>[]
 | none=>[]
def lookD (l:Ry):D0:=fun id=>{lv:=l.lookup id}
def deadOf (P:Program) (f:FuncId):D0:=lookD (liveOf P f)
abbrev Hint:=List (Nat×Nat×Option (List (Nat×Nat))×Bool)
def hinted (H:Hint) (f:FuncId) (D:D0):D0:=fun id =>
 match H.find? fun h=>h.1==f&&h.2.1==id with
 | some h=>{D id with grow:=h.2.2.1,peel:=h.2.2.2}
 | none=>D id
def OR (H:Hint) (P:Program) (f:FuncId):D0:=hinted H f (deadOf P f)
end Go.Ab


namespace Go.Ab
abbrev AB:=Nm->Option (Option (Nat×Nat))
def FJ:List MapEntry->List Value
 | []=>[]
 | e :: es=>e.key :: e.val :: FJ es
def Bn (vs:List Value):Prop:=∀ v∈vs,v.oneCell'=true
theorem Bn.take' {vs:List Value} (h:Bn vs) (n:Nat):Bn (vs.take n):=fun v hv=>h v (cw hv)
theorem Bn.drop' {vs:List Value} (h:Bn vs) (n:Nat):Bn (vs.drop n):=fun v hv=>h v (cL hv)
theorem Bn.append' {vs us:List Value} (h:Bn vs) (h':Bn us):Bn (vs++us):=fun v hv=>(bW.1 hv).elim (h v) (h' v)
mutual
inductive Au (w:World) (I:Nat->Prop) (lp:Nat->Option Nat):Option AB->PV->Value->Prop
 | undef {L} (v:Value):Au w I lp L .undef v
 | bool {L} (b:Bool):Au w I lp L (.bool b) (.bool b)
 | int {L} (k:IntKind) (n:Int):Au w I lp L (.int k n) (.int k n)
 | str {L} (s:List UInt8):Au w I lp L (.str s) (.string ⟨s.toArray⟩)
 | nilS {L}:Au w I lp L .nilS (.slice none 0 0)
 | nilP {L}:Au w I lp L .nilP (.pointer none)
 | nilF {L}:Au w I lp L .nilF .nilFunc
 | nilI {L}:Au w I lp L .nilI .nilIface
 | nilM {L}:Au w I lp L .nilM (.map none)
 | slE {L} (k:Nat) (full:Bool) (a:Option Addr) (cap:Nat) (hf:full=true->cap=0):Au w I lp L (.sl k [] full) (.slice a 0 cap)
 | sl {L} (k:Nat) (xs:List PV) (full:Bool) (b off cap:Nat) (c:Array Value) (E:TypeId) (fr:Nat×Nat)
   (hI:I b) (hb:w.heap[b]?=some (.cells c E fr)) (hs:off+xs.length*k<=c.size) (hk:∀ x∈xs,x.cells.length=k)
   (hc:xs.length<=cap) (hf:full=true->cap=xs.length) (h1:Bn ((c.toList.drop off).take (xs.length*k)))
   (hr:Aq w I lp none (cellsL xs) ((c.toList.drop off).take (xs.length*k))):Au w I lp L (.sl k xs full) (.slice (some ⟨b,off,none⟩) xs.length cap)
 | ptr {L} (cs:List PV) (o:Nat) (b off:Nat) (c:Array Value) (E:TypeId) (fr:Nat×Nat)
   (hI:I b) (hb:w.heap[b]?=some (.cells c E fr)) (hs:off+cs.length<=c.size) (ho:o < cs.length) (h1:Bn ((c.toList.drop off).take cs.length))
   (hr:Aq w I lp none cs ((c.toList.drop off).take cs.length)):Au w I lp L (.ptr cs o) (.pointer (some ⟨b,off+o,none⟩))
 | agg {L} (cs:List PV) (vs:Array Value) (h1:Bn vs.toList) (h:Aq w I lp L cs vs.toList):Au w I lp L (.agg cs) (.agg vs)
 | iface {L} (t:TypeId) (x:PV) (v:Value) (h:Au w I lp L x v):Au w I lp L (.iface t x) (.iface t v)
 | fn {L} (f:FuncId) (cs:List PV) (us vs:Array Value) (hk:us.size=E9 f) (h:Aq w I lp L cs (us.toList++vs.toList)):Au w I lp L (.fn f cs) (.func (.func (AW f)) us vs)
 | yld {L} (d l:Nat) (h:lp d=some l):Au w I lp L (.yld d) (.func (.yield l) #[] #[])
 | tup {L} (xs:List PV) (vs:Array Value) (h:Aq w I lp L xs vs.toList):Au w I lp L (.tup xs) (.tuple vs)
 | imap {L} (es:List PV) (r:Nat) (ents:Array MapEntry) (clock:Nat) (hI:I r) (hb:w.heap[r]?=some (.map ents clock))
   (hr:Aq w I lp none es (FJ ents.toList)):Au w I lp L (.imap es) (.map (some r))
 | glob {L} (g:Nat) (t:TypeId) (x:Value) (c:Array Value) (E:TypeId) (fr:Nat×Nat) (hI:I g) (hb:w.heap[g]?=some (.cells c E fr)) (hv:c[0]?=some (.iface t x)):Au w I lp L (.glob g t) (.iface t x)
 | ref {L:AB} (nm:Nm) (o b C:Nat) (h:L nm=some (some (b,C))):Au w I lp (some L) (.ref nm o) (.pointer (some ⟨b,o,none⟩))
 | aref {L:AB} (nm:Nm) (k i o b C:Nat) (h:L nm=some (some (b,C))):Au w I lp (some L) (.aref nm k i o) (.pointer (some ⟨b,i*k+o,none⟩))
 | arr {L:AB} (nm:Nm) (k o n cap b C:Nat) (h:L nm=some (some (b,C))) (hC:(o+cap)*k<=C) (hn:n<=cap) :
   Au w I lp (some L) (.arr nm k o n) (.slice (some ⟨b,o*k,none⟩) n cap)
 | arrN {L:AB} (nm:Nm) (k:Nat) (h:L nm=some none):Au w I lp (some L) (.arr nm k 0 0) (.slice none 0 0)
 | mp {L:AB} (nm:Nm) (b C:Nat) (h:L nm=some (some (b,C))):Au w I lp (some L) (.mp nm) (.map (some b))
 | it {L:AB} (nm:Nm) (b C:Nat) (h:L nm=some (some (b,C))):Au w I lp (some L) (.it nm) (.pointer (some ⟨b,0,none⟩))
inductive Aq (w:World) (I:Nat->Prop) (lp:Nat->Option Nat):Option AB->List PV->List Value->Prop
 | nil {L}:Aq w I lp L [] []
 | cons {L} (x:PV) (v:Value) (xs:List PV) (vs:List Value) (h:Au w I lp L x v) (hs:Aq w I lp L xs vs):Aq w I lp L (x :: xs) (v :: vs)
end
def MX (L L':AB):Prop:=∀ nm p,L nm=some p->L' nm=some p
def lpLe (lp lp':Nat->Option Nat):Prop:=∀ d l,lp d=some l->lp' d=some l
section mono
variable {w w':World} {I I':Nat->Prop} {lp lp':Nat->Option Nat}
mutual
theorem Au.mono (hI:∀ b,I b->I' b) (hb:∀ b,I b->w'.heap[b]?=w.heap[b]?) (hl:lpLe lp lp') {L:Option AB} {x:PV} {v:Value}:Au w I lp L x v->Au w' I' lp' L x v
 | .undef v=>.undef v
 | .bool b=>.bool b
 | .int k n=>.int k n
 | .str s=>.str s
 | .nilS=>.nilS
 | .nilP=>.nilP
 | .nilF=>.nilF
 | .nilI=>.nilI
 | .nilM=>.nilM
 | .slE k full a cap hf=>.slE k full a cap hf
 | .sl k xs full b off cap c E fr h1 h2 h3 h4 h5 h6 h8 h7=>.sl k xs full b off cap c E fr (hI b h1) ((hb b h1).trans h2) h3 h4 h5 h6 h8 (Aq.mono hI hb hl h7)
 | .ptr cs o b off c E fr h1 h2 h3 h4 h8 h5=>.ptr cs o b off c E fr (hI b h1) ((hb b h1).trans h2) h3 h4 h8 (Aq.mono hI hb hl h5)
 | .agg cs vs h1 h=>.agg cs vs h1 (Aq.mono hI hb hl h)
 | .iface t x v h=>.iface t x v (Au.mono hI hb hl h)
 | .fn f cs us vs hk h=>.fn f cs us vs hk (Aq.mono hI hb hl h)
 | .yld d l h=>.yld d l (hl d l h)
 | .tup xs vs h=>.tup xs vs (Aq.mono hI hb hl h)
 | .imap es r ents clock h1 h2 h3=>.imap es r ents clock (hI r h1) ((hb r h1).trans h2) (Aq.mono hI hb hl h3)
 | .glob g t x c E fr h1 h2 h3=>.glob g t x c E fr (hI g h1) ((hb g h1).trans h2) h3
 | .ref nm o b C h=>.ref nm o b C h
 | .aref nm k i o b C h=>.aref nm k i o b C h
 | .arr nm k o n cap b C h hC hn=>.arr nm k o n cap b C h hC hn
 | .arrN nm k h=>.arrN nm k h
 | .mp nm b C h=>.mp nm b C h
 | .it nm b C h=>.it nm b C h
theorem Aq.mono (hI:∀ b,I b->I' b) (hb:∀ b,I b->w'.heap[b]?=w.heap[b]?) (hl:lpLe lp lp') {L:Option AB} {xs:List PV} {vs:List Value}:Aq w I lp L xs vs->Aq w' I' lp' L xs vs
 | .nil=>.nil
 | .cons x v xs vs h hs=>.cons x v xs vs (Au.mono hI hb hl h) (Aq.mono hI hb hl hs)
end
end mono
section lift
variable {w:World} {I:Nat->Prop} {lp:Nat->Option Nat}
mutual
theorem Au.lift {x:PV} {v:Value} (L:Option AB):Au w I lp none x v->Au w I lp L x v
 | .undef v=>.undef v
 | .bool b=>.bool b
 | .int k n=>.int k n
 | .str s=>.str s
 | .nilS=>.nilS
 | .nilP=>.nilP
 | .nilF=>.nilF
 | .nilI=>.nilI
 | .nilM=>.nilM
 | .slE k full a cap hf=>.slE k full a cap hf
 | .sl k xs full b off cap c E fr h1 h2 h3 h4 h5 h6 h8 h7=>.sl k xs full b off cap c E fr h1 h2 h3 h4 h5 h6 h8 h7
 | .ptr cs o b off c E fr h1 h2 h3 h4 h8 h5=>.ptr cs o b off c E fr h1 h2 h3 h4 h8 h5
 | .agg cs vs h1 h=>.agg cs vs h1 (h.lift L)
 | .iface t x v h=>.iface t x v (h.lift L)
 | .fn f cs us vs hk h=>.fn f cs us vs hk (h.lift L)
 | .yld d l h=>.yld d l h
 | .tup xs vs h=>.tup xs vs (h.lift L)
 | .imap es r ents clock h1 h2 h3=>.imap es r ents clock h1 h2 h3
 | .glob g t x c E fr h1 h2 h3=>.glob g t x c E fr h1 h2 h3
theorem Aq.lift {xs:List PV} {vs:List Value} (L:Option AB):Aq w I lp none xs vs->Aq w I lp L xs vs
 | .nil=>.nil
 | .cons x v xs vs h hs=>.cons x v xs vs (h.lift L) (hs.lift L)
end
mutual
theorem Au.shut {L:Option AB} {x:PV} {v:Value}:Au w I lp L x v->x.names=[]->Au w I lp none x v
 | .undef v,_=>.undef v
 | .bool b,_=>.bool b
 | .int k n,_=>.int k n
 | .str s,_=>.str s
 | .nilS,_=>.nilS
 | .nilP,_=>.nilP
 | .nilF,_=>.nilF
 | .nilI,_=>.nilI
 | .nilM,_=>.nilM
 | .slE k full a cap hf,_=>.slE k full a cap hf
 | .sl k xs full b off cap c E fr h1 h2 h3 h4 h5 h6 h8 h7,_=>.sl k xs full b off cap c E fr h1 h2 h3 h4 h5 h6 h8 h7
 | .ptr cs o b off c E fr h1 h2 h3 h4 h8 h5,_=>.ptr cs o b off c E fr h1 h2 h3 h4 h8 h5
 | .agg cs vs h1 h,e=>.agg cs vs h1 (h.shut (by simpa[PV.names] using e))
 | .iface t x v h,e=>.iface t x v (h.shut (by simpa[PV.names] using e))
 | .fn f cs us vs hk h,e=>.fn f cs us vs hk (h.shut (by simpa[PV.names] using e))
 | .yld d l h,_=>.yld d l h
 | .tup xs vs h,e=>.tup xs vs (h.shut (by simpa[PV.names] using e))
 | .imap es r ents clock h1 h2 h3,_=>.imap es r ents clock h1 h2 h3
 | .glob g t x c E fr h1 h2 h3,_=>.glob g t x c E fr h1 h2 h3
 | .ref nm o b C h,e=>by simp[PV.names] at e
 | .aref nm k i o b C h,e=>by simp[PV.names] at e
 | .arr nm k o n cap b C h hC hn,e=>by simp[PV.names] at e
 | .arrN nm k h,e=>by simp[PV.names] at e
 | .mp nm b C h,e=>by simp[PV.names] at e
 | .it nm b C h,e=>by simp[PV.names] at e
theorem Aq.shut {L:Option AB} {xs:List PV} {vs:List Value}:Aq w I lp L xs vs->AQ xs=[]->Aq w I lp none xs vs
 | .nil,_=>.nil
 | .cons x v xs vs h hs,e=>.cons x v xs vs (h.shut (List.append_eq_nil_iff.1 e).1) (hs.shut (List.append_eq_nil_iff.1 e).2)
end
mutual
theorem Au.reloc {L L':AB} {x:PV} {v:Value}:Au w I lp (some L) x v->MX L L'->Au w I lp (some L') x v
 | .undef v,_=>.undef v
 | .bool b,_=>.bool b
 | .int k n,_=>.int k n
 | .str s,_=>.str s
 | .nilS,_=>.nilS
 | .nilP,_=>.nilP
 | .nilF,_=>.nilF
 | .nilI,_=>.nilI
 | .nilM,_=>.nilM
 | .slE k full a cap hf,_=>.slE k full a cap hf
 | .sl k xs full b off cap c E fr h1 h2 h3 h4 h5 h6 h8 h7,_=>.sl k xs full b off cap c E fr h1 h2 h3 h4 h5 h6 h8 h7
 | .ptr cs o b off c E fr h1 h2 h3 h4 h8 h5,_=>.ptr cs o b off c E fr h1 h2 h3 h4 h8 h5
 | .agg cs vs h1 h,e=>.agg cs vs h1 (h.reloc e)
 | .iface t x v h,e=>.iface t x v (h.reloc e)
 | .fn f cs us vs hk h,e=>.fn f cs us vs hk (h.reloc e)
 | .yld d l h,_=>.yld d l h
 | .tup xs vs h,e=>.tup xs vs (h.reloc e)
 | .imap es r ents clock h1 h2 h3,_=>.imap es r ents clock h1 h2 h3
 | .glob g t x c E fr h1 h2 h3,_=>.glob g t x c E fr h1 h2 h3
 | .ref nm o b C h,e=>.ref nm o b C (e _ _ h)
 | .aref nm k i o b C h,e=>.aref nm k i o b C (e _ _ h)
 | .arr nm k o n cap b C h hC hn,e=>.arr nm k o n cap b C (e _ _ h) hC hn
 | .arrN nm k h,e=>.arrN nm k (e _ _ h)
 | .mp nm b C h,e=>.mp nm b C (e _ _ h)
 | .it nm b C h,e=>.it nm b C (e _ _ h)
theorem Aq.reloc {L L':AB} {xs:List PV} {vs:List Value}:Aq w I lp (some L) xs vs->MX L L'->Aq w I lp (some L') xs vs
 | .nil,_=>.nil
 | .cons x v xs vs h hs,e=>.cons x v xs vs (h.reloc e) (hs.reloc e)
end
end lift
section lists
variable {w:World} {I:Nat->Prop} {lp:Nat->Option Nat} {L:Option AB}
theorem Aq.length {xs:List PV} {vs:List Value} (h:Aq w I lp L xs vs):xs.length=vs.length:=by
 induction xs generalizing vs with
 | nil=>cases h;rfl
 | cons x xs ih=>cases h with | cons _ v _ vs h hs=>simp[ih hs]
theorem Aq.get {xs:List PV} {vs:List Value} (h:Aq w I lp L xs vs) {i:Nat} {x:PV} (hx:xs[i]?=some x):∃ v,vs[i]?=some v/\Au w I lp L x v:=by
 induction xs generalizing vs i with
 | nil=>simp at hx
 | cons y xs ih =>
  cases h with
  | cons _ v _ vs h hs =>
   cases i with
   | zero=>simp at hx;subst hx;exact⟨v,rfl,h⟩
   | succ i=>simp at hx |-;exact ih hs hx
theorem Aq.append {xs ys:List PV} {vs us:List Value} (h:Aq w I lp L xs vs) (h':Aq w I lp L ys us):Aq w I lp L (xs++ys) (vs++us):=by
 induction xs generalizing vs with
 | nil=>cases h;exact h'
 | cons x xs ih=>cases h with | cons _ v _ vs h hs=>exact .cons _ _ _ _ h (ih hs)
theorem Aq.take {xs:List PV} {vs:List Value} (h:Aq w I lp L xs vs) (n:Nat):Aq w I lp L (xs.take n) (vs.take n):=by
 induction xs generalizing vs n with
 | nil=>cases h;simp;exact .nil
 | cons x xs ih =>
  cases h with
  | cons _ v _ vs h hs =>
   cases n with
   | zero=>exact .nil
   | succ n=>exact .cons _ _ _ _ h (ih hs n)
theorem Aq.drop {xs:List PV} {vs:List Value} (h:Aq w I lp L xs vs) (n:Nat):Aq w I lp L (xs.drop n) (vs.drop n):=by
 induction xs generalizing vs n with
 | nil=>cases h;simp;exact .nil
 | cons x xs ih =>
  cases h with
  | cons _ v _ vs h hs =>
   cases n with
   | zero=>exact .cons _ _ _ _ h hs
   | succ n=>exact ih hs n
theorem Aq.set {xs:List PV} {vs:List Value} (h:Aq w I lp L xs vs) (i:Nat) {x:PV} {v:Value} (hx:Au w I lp L x v):Aq w I lp L (xs.set i x) (vs.set i v):=by
 induction xs generalizing vs i with
 | nil=>cases h;exact .nil
 | cons y xs ih =>
  cases h with
  | cons _ u _ vs h hs =>
   cases i with
   | zero=>exact .cons _ _ _ _ hx hs
   | succ i=>exact .cons _ _ _ _ h (ih hs i)
theorem Aq.split {xs ys:List PV} {vs:List Value} (h:Aq w I lp L (xs++ys) vs):∃ us ts,vs=us++ts/\Aq w I lp L xs us/\Aq w I lp L ys ts:=by
 induction xs generalizing vs with
 | nil=>exact⟨[],vs,rfl,.nil,h⟩
 | cons x xs ih =>
  cases h with
  | cons _ v _ vs h hs =>
   obtain⟨us,ts,rfl,h1,h2⟩:=ih hs;exact⟨v :: us,ts,rfl,.cons _ _ _ _ h h1,h2⟩
theorem Aq.undefs (n:Nat) (vs:List Value) (h:vs.length=n):Aq w I lp L (List.replicate n .undef) vs:=by
 induction n generalizing vs with
 | zero=>cases vs with | nil=>exact .nil | cons v vs=>simp at h
 | succ n ih=>cases vs with | nil=>simp at h | cons v vs=>exact .cons _ _ _ _ (.undef v) (ih vs (by simpa using h))
theorem Aq.getD {xs:List PV} {vs:List Value} (h:Aq w I lp L xs vs) (i:Nat) (d:Value):Au w I lp L (xs.getD i .undef) (vs.getD i d):=by
 cases hx:xs[i]? with
 | none=>rw[bI,hx];exact .undef _
 | some x =>
  obtain⟨v,hv,hr⟩:=h.get hx;rw[bI,bI,hx,hv];exact hr
theorem Au.cells {x:PV} {v:Value} (h:Au w I lp L x v) (hu:x.isVal=true):Bn v.cells.toList/\Aq w I lp L x.cells v.cells.toList:=by
 cases h<;>first
  |(simp[PV.isVal] at hu;done)
  |(simp only[PV.cells,Value.cells];exact⟨by simp[Bn,Value.oneCell'],.cons _ _ _ _ (by constructor<;>assumption) .nil⟩)
  |(simp only[PV.cells,Value.cells];exact⟨by assumption,by assumption⟩)
theorem Kh (xs ys:List PV):cellsL (xs++ys)=cellsL xs++cellsL ys:=by
 induction xs with
 | nil=>rfl
 | cons x xs ih=>simp[cellsL,ih]
theorem Kg {k:Nat} {xs:List PV} (h:∀ x∈xs,x.cells.length=k):(cellsL xs).length=xs.length*k:=by
 induction xs with
 | nil=>simp[cellsL]
 | cons x xs ih =>
  simp only[cellsL,cm,cA,h x (by simp),ih fun y hy=>h y (by simp[hy])];rw[bZ,dw,Nat.add_comm]
theorem Lz {k:Nat} {xs:List PV} (h:∀ x∈xs,x.cells.length=k) (i:Nat):cellsL (xs.drop i)=(cellsL xs).drop (i*k):=by
 induction xs generalizing i with
 | nil=>simp[cellsL]
 | cons x xs ih =>
  cases i with
  | zero=>simp
  | succ i =>
   simp only[List.drop_succ_cons,cellsL];have hx:=h x (by simp);rw[ih (fun y hy=>h y (by simp[hy])) i,show (i+1)*k=x.cells.length+i*k from by rw[bZ,dw,Nat.add_comm,hx],<-dG,List.drop_left]
theorem I7 {k:Nat} {xs:List PV} (h:∀ x∈xs,x.cells.length=k) (i:Nat):cellsL (xs.take i)=(cellsL xs).take (i*k):=by
 induction xs generalizing i with
 | nil=>simp[cellsL]
 | cons x xs ih =>
  cases i with
  | zero=>simp[cellsL]
  | succ i =>
   simp only[eE,cellsL];rw[ih (fun y hy=>h y (by simp[hy])) i,eF];have hx:=h x (by simp);rw[show (i+1)*k=k+i*k from by rw[bZ,dw,Nat.add_comm],b8 (l:=x.cells) (by omega),hx,dK]
theorem So {k:Nat} {xs:List PV} (h:∀ x∈xs,x.cells.length=k) {i:Nat} {x:PV} (hx:xs[i]?=some x):((cellsL xs).drop (i*k)).take k=x.cells:=by
 rw[<-Lz h]
 have hd:xs.drop i=x :: xs.drop (i+1):=by
  obtain⟨hi,rfl⟩:=bL.1 hx;exact cZ hi
 rw[hd,cellsL,eF,b8 (by have:=h x (bQ hx);omega)];have:=h x (bQ hx);simp[this]
end lists
def Rw (w:World) (I:Nat->Prop) (lp:Nat->Option Nat) (L:AB) (b C:Nat):Ob->Prop
 | .cells ty cs=>∃ c E,w.heap[b]?=some (.cells c E (0,0))/\c.size=C/\(Bn c.toList/\(ty=0\/E=ty))/\Aq w I lp (some L) cs c.toList
 | .arr k kt xs=>∃ c E,w.heap[b]?=some (.cells c E (0,0))/\c.size=C/\(xs.length*k<=C/\(kt=0\/E=kt))/\(∀ x∈xs,x.cells.length=k)/\Bn (c.toList.take (xs.length*k))/\Aq w I lp none (cellsL xs) (c.toList.take (xs.length*k))
 | .map es=>∃ ents clock,w.heap[b]?=some (.map ents clock)/\Aq w I lp none es (FJ ents.toList)
 | .siter s pos=>w.heap[b]?=some (.stringIter ⟨s.toArray⟩ pos)
def BD (w:World) (I:Nat->Prop) (lp:Nat->Option Nat) (L:AB) (ob:Ob):Option (Nat×Nat)->Prop
 | some (b,C)=>Rw w I lp L b C ob
 | none=>∃ k kt,ob=.arr k kt []
theorem BD.mono {w w':World} {I I':Nat->Prop} {lp lp':Nat->Option Nat} {L:AB} {p:Option (Nat×Nat)} {ob:Ob} (h:BD w I lp L ob p)
  (hI:∀ b,I b->I' b) (hb:∀ b,I b->w'.heap[b]?=w.heap[b]?) (hl:lpLe lp lp') (hw:∀ b C,p=some (b,C)->w'.heap[b]?=w.heap[b]?):BD w' I' lp' L ob p:=by
 cases p with
 | none=>exact h
 | some p =>
  obtain⟨b,C⟩:=p;have hw:=hw b C rfl;cases ob with
  | cells ty cs=>obtain⟨c,E,h1,h2,h4,h3⟩:=h;exact⟨c,E,hw.trans h1,h2,h4,Aq.mono hI hb hl h3⟩
  | arr k kt xs=>obtain⟨c,E,h1,h2,h3,h4,h6,h5⟩:=h;exact⟨c,E,hw.trans h1,h2,h3,h4,h6,Aq.mono hI hb hl h5⟩
  | map es=>obtain⟨c,E,h1,h2⟩:=h;exact⟨c,E,hw.trans h1,Aq.mono hI hb hl h2⟩
  | siter s pos=>exact hw.trans h
theorem BD.reloc {w:World} {I:Nat->Prop} {lp:Nat->Option Nat} {L L':AB} {p:Option (Nat×Nat)} {ob:Ob} (h:BD w I lp L ob p) (hL:MX L L'):BD w I lp L' ob p:=by
 cases p with
 | none=>exact h
 | some p =>
  cases ob with
  | cells ty cs=>obtain⟨c,E,h1,h2,h4,h3⟩:=h;exact⟨c,E,h1,h2,h4,h3.reloc hL⟩
  | arr k kt xs=>exact h
  | map es=>exact h
  | siter s pos=>exact h
def Uj (w:World) (I:Nat->Prop) (lp:Nat->Option Nat) (b:Nat):Ob->Prop
 | .cells _ cs=>I b/\∃ c E fr,w.heap[b]?=some (.cells c E fr)/\cs.length<=c.size/\Bn (c.toList.take cs.length)/\Aq w I lp none cs (c.toList.take cs.length)
 | .arr k kt xs=>I b/\∃ c E fr,w.heap[b]?=some (.cells c E fr)/\xs.length*k<=c.size/\(∀ x∈xs,x.cells.length=k)/\Bn (c.toList.take (xs.length*k))/\Aq w I lp none (cellsL xs) (c.toList.take (xs.length*k))
 | .map es=>I b/\∃ ents clock,w.heap[b]?=some (.map ents clock)/\Aq w I lp none es (FJ ents.toList)
 | .siter _ _=>True
def Ee (w:World) (I':Nat->Prop) (lp:Nat->Option Nat) (L:AB) (L':Option AB) (S:Nm->Prop) (f:Nm->Option (Option Ob)):Prop :=
 ∀ nm p,S nm->L nm=some p->match f nm with
  | none=>∃ M,L'=some M/\M nm=some p
  | some none=>True
  | some (some ob)=>match p with
   | some (b,_)=>Uj w I' lp b ob
   | none=>∃ k kt,ob=.arr k kt []
section sub
variable {w:World} {I I':Nat->Prop} {lp:Nat->Option Nat} {L:AB} {L':Option AB} {S:Nm->Prop} {f:Nm->Option (Option Ob)}
theorem sub_ref (hs:Ee w I' lp L L' S f) (nm:Nm) (hS:S nm) (o b C:Nat) (h:L nm=some (some (b,C))) :
  Au w I' lp L' ((PV.ref nm o).sub f) (.pointer (some ⟨b,o,none⟩)):=by
 have:=hs nm _ hS h;simp only[PV.sub];split at this;·rename_i hf;obtain⟨M,rfl,hM⟩:=this;rw[hf];exact .ref nm o b C hM
 ·rename_i hf;rw[hf];exact .undef _
 ·rename_i ob hf;rw[hf];cases ob with
  | cells ty cs =>
   obtain⟨hi,c,E,fr,h1,h2,h5,h3⟩:=this;simp only
   split
   ·rename_i ho;have:=Au.ptr (w:=w) (I:=I') (lp:=lp) (L:=L') cs o b 0 c E fr hi h1 (by omega) ho (by simpa using h5) (by simpa using h3);simpa using this
   ·exact .undef _
  | arr k kt xs=>exact .undef _
  | map es=>exact .undef _
  | siter s p=>exact .undef _
theorem sub_aref (hs:Ee w I' lp L L' S f) (nm:Nm) (hS:S nm) (k i o b C:Nat) (h:L nm=some (some (b,C))) :
  Au w I' lp L' ((PV.aref nm k i o).sub f) (.pointer (some ⟨b,i*k+o,none⟩)):=by
 have:=hs nm _ hS h;simp only[PV.sub];split at this;·rename_i hf;obtain⟨M,rfl,hM⟩:=this;rw[hf];exact .aref nm k i o b C hM
 ·rename_i hf;rw[hf];exact .undef _
 ·rename_i ob hf;rw[hf];cases ob with
  | arr k' kt xs =>
   obtain⟨hi,c,E,fr,h1,h2,h3,h5,h4⟩:=this;simp only
   split
   ·rename_i hk;subst hk;split
    ·rename_i x hx;split
     ·rename_i ho;have hkx:=h3 x (bQ hx);have hlt:=(bL.1 hx).1;have hle:(i+1)*k<=xs.length*k:=cy _ hlt;rw[bZ,dw] at hle
      have e:((c.toList.take (xs.length*k)).drop (i*k)).take k=(c.toList.drop (i*k)).take k:=by
       rw[dc,cz,cq (by omega)]
      refine Au.ptr x.cells o b (i*k) c E fr hi h1 (by omega) ho ?_ ?_;·rw[hkx,<-e];exact (h5.drop' _).take' _
      ·have:=(h4.drop (i*k)).take k;rw[So h3 hx] at this;rw[hkx]
       rwa [e] at this
     ·exact .undef _
    ·exact .undef _
   ·exact .undef _
  | cells ty cs=>exact .undef _
  | map es=>exact .undef _
  | siter s p=>exact .undef _
theorem sub_arr (hs:Ee w I' lp L L' S f) (nm:Nm) (hS:S nm) (k o n cap b C:Nat) (h:L nm=some (some (b,C))) (hC:(o+cap)*k<=C) (hn:n<=cap) :
  Au w I' lp L' ((PV.arr nm k o n).sub f) (.slice (some ⟨b,o*k,none⟩) n cap):=by
 have:=hs nm _ hS h;simp only[PV.sub];split at this;·rename_i hf;obtain⟨M,rfl,hM⟩:=this;rw[hf];exact .arr nm k o n cap b C hM hC hn
 ·rename_i hf;rw[hf];exact .undef _
 ·rename_i ob hf;rw[hf];cases ob with
  | arr k' kt xs =>
   obtain⟨hi,c,E,fr,h1,h2,h3,h5,h4⟩:=this;simp only
   split
   ·rename_i hk;obtain⟨rfl,hon⟩:=hk;have hlen:((xs.drop o).take n).length=n:=by simp;omega
    have hm:∀ x∈(xs.drop o).take n,x.cells.length=k:=fun x hx=>h3 x (cL (cw hx));have hle:(o+n)*k<=xs.length*k:=cy _ hon;rw[bZ] at hle
    have e:((c.toList.take (xs.length*k)).drop (o*k)).take (n*k)=(c.toList.drop (o*k)).take (n*k):=by
     rw[dc,cz,cq (by omega)]
    have key:=Au.sl (w:=w) (I:=I') (lp:=lp) (L:=L') k ((xs.drop o).take n) false b (o*k) cap c E fr hi h1 (by rw[hlen];omega) hm (by rw[hlen];exact hn) (by simp) ?_ ?_
    ·rwa [hlen] at key
    ·rw[hlen,<-e];exact (h5.drop' _).take' _
    ·rw[hlen];have:=(h4.drop (o*k)).take (n*k);rw[<-Lz h3,<-I7 (fun x hx=>h3 x (cL hx))] at this
     rwa [e] at this
   ·exact .undef _
  | cells ty cs=>exact .undef _
  | map es=>exact .undef _
  | siter s p=>exact .undef _
theorem sub_arrN (hs:Ee w I' lp L L' S f) (nm:Nm) (hS:S nm) (k:Nat) (h:L nm=some none) :
  Au w I' lp L' ((PV.arr nm k 0 0).sub f) (.slice none 0 0):=by
 have:=hs nm _ hS h;simp only[PV.sub];split at this;·rename_i hf;obtain⟨M,rfl,hM⟩:=this;rw[hf];exact .arrN nm k hM
 ·rename_i hf;rw[hf];exact .undef _
 ·rename_i ob hf;obtain⟨k',kt,rfl⟩:=this;rw[hf];simp only
  split
  ·rename_i hk;obtain⟨rfl,_⟩:=hk;simpa using Au.slE k false none 0 (by simp)
  ·exact .undef _
theorem sub_mp (hs:Ee w I' lp L L' S f) (nm:Nm) (hS:S nm) (b C:Nat) (h:L nm=some (some (b,C))):Au w I' lp L' ((PV.mp nm).sub f) (.map (some b)):=by
 have:=hs nm _ hS h;simp only[PV.sub];split at this;·rename_i hf;obtain⟨M,rfl,hM⟩:=this;rw[hf];exact .mp nm b C hM
 ·rename_i hf;rw[hf];exact .undef _
 ·rename_i ob hf;rw[hf];cases ob with
  | map es=>obtain⟨hi,ents,clock,h1,h2⟩:=this;exact .imap es b ents clock hi h1 h2
  | cells ty cs=>exact .undef _
  | arr k kt xs=>exact .undef _
  | siter s p=>exact .undef _
theorem sub_it (hs:Ee w I' lp L L' S f) (nm:Nm) (hS:S nm) (b C:Nat) (h:L nm=some (some (b,C))):Au w I' lp L' ((PV.it nm).sub f) (.pointer (some ⟨b,0,none⟩)):=by
 have:=hs nm _ hS h;simp only[PV.sub];split at this;·rename_i hf;obtain⟨M,rfl,hM⟩:=this;rw[hf];exact .it nm b C hM
 ·rename_i hf;rw[hf];exact .undef _
 ·rename_i ob hf;rw[hf];exact .undef _
mutual
theorem Au.subst (hI:∀ b,I b->I' b) (hs:Ee w I' lp L L' S f) {x:PV} {v:Value}:Au w I lp (some L) x v->(∀ nm∈x.names,S nm)->Au w I' lp L' (x.sub f) v
 | .undef v,_=>.undef v
 | .bool b,_=>.bool b
 | .int k n,_=>.int k n
 | .str s,_=>.str s
 | .nilS,_=>.nilS
 | .nilP,_=>.nilP
 | .nilF,_=>.nilF
 | .nilI,_=>.nilI
 | .nilM,_=>.nilM
 | .slE k full a cap hf,_=>.slE k full a cap hf
 | .sl k xs full b off cap c E fr h1 h2 h3 h4 h5 h6 h8 h7,_=>.sl k xs full b off cap c E fr (hI b h1) h2 h3 h4 h5 h6 h8 (Aq.mono hI (fun _ _=>rfl) (fun _ _ h=>h) h7)
 | .ptr cs o b off c E fr h1 h2 h3 h4 h8 h5,_=>.ptr cs o b off c E fr (hI b h1) h2 h3 h4 h8 (Aq.mono hI (fun _ _=>rfl) (fun _ _ h=>h) h5)
 | .agg cs vs h1 h,e=>.agg _ vs h1 (Aq.subst hI hs h fun nm hn=>e nm (by simpa[PV.names] using hn))
 | .iface t x v h,e=>.iface t _ v (Au.subst hI hs h fun nm hn=>e nm (by simpa[PV.names] using hn))
 | .fn g cs us vs hk h,e=>.fn g _ us vs hk (Aq.subst hI hs h fun nm hn=>e nm (by simpa[PV.names] using hn))
 | .yld d l h,_=>.yld d l h
 | .tup xs vs h,e=>.tup _ vs (Aq.subst hI hs h fun nm hn=>e nm (by simpa[PV.names] using hn))
 | .imap es r ents clock h1 h2 h3,_=>.imap es r ents clock (hI r h1) h2 (Aq.mono hI (fun _ _=>rfl) (fun _ _ h=>h) h3)
 | .glob g t x c E fr h1 h2 h3,_=>.glob g t x c E fr (hI g h1) h2 h3
 | .ref nm o b C h,e=>sub_ref hs nm (e nm (by simp[PV.names])) o b C h
 | .aref nm k i o b C h,e=>sub_aref hs nm (e nm (by simp[PV.names])) k i o b C h
 | .arr nm k o n cap b C h hC hn,e=>sub_arr hs nm (e nm (by simp[PV.names])) k o n cap b C h hC hn
 | .arrN nm k h,e=>sub_arrN hs nm (e nm (by simp[PV.names])) k h
 | .mp nm b C h,e=>sub_mp hs nm (e nm (by simp[PV.names])) b C h
 | .it nm b C h,e=>sub_it hs nm (e nm (by simp[PV.names])) b C h
theorem Aq.subst (hI:∀ b,I b->I' b) (hs:Ee w I' lp L L' S f) {xs:List PV} {vs:List Value}:Aq w I lp (some L) xs vs->(∀ nm∈AQ xs,S nm)->Aq w I' lp L' (AX f xs) vs
 | .nil,_=>.nil
 | .cons x v xs vs h h',e=>.cons _ v _ vs (Au.subst hI hs h fun nm hn=>e nm (bR _ hn)) (Aq.subst hI hs h' fun nm hn=>e nm (b7 _ hn))
end
end sub
section ren
variable {w:World} {I:Nat->Prop} {lp:Nat->Option Nat} {L L':AB} {f:Nm->Nm}
mutual
theorem Au.rename (hf:∀ nm p,L nm=some p->L' (f nm)=some p) {x:PV} {v:Value}:Au w I lp (some L) x v->Au w I lp (some L') (x.ren f) v
 | .undef v=>.undef v
 | .bool b=>.bool b
 | .int k n=>.int k n
 | .str s=>.str s
 | .nilS=>.nilS
 | .nilP=>.nilP
 | .nilF=>.nilF
 | .nilI=>.nilI
 | .nilM=>.nilM
 | .slE k full a cap hf=>.slE k full a cap hf
 | .sl k xs full b off cap c E fr h1 h2 h3 h4 h5 h6 h8 h7=>.sl k xs full b off cap c E fr h1 h2 h3 h4 h5 h6 h8 h7
 | .ptr cs o b off c E fr h1 h2 h3 h4 h8 h5=>.ptr cs o b off c E fr h1 h2 h3 h4 h8 h5
 | .agg cs vs h1 h=>.agg _ vs h1 (Aq.rename hf h)
 | .iface t x v h=>.iface t _ v (Au.rename hf h)
 | .fn g cs us vs hk h=>.fn g _ us vs hk (Aq.rename hf h)
 | .yld d l h=>.yld d l h
 | .tup xs vs h=>.tup _ vs (Aq.rename hf h)
 | .imap es r ents clock h1 h2 h3=>.imap es r ents clock h1 h2 h3
 | .glob g t x c E fr h1 h2 h3=>.glob g t x c E fr h1 h2 h3
 | .ref nm o b C h=>.ref _ o b C (hf _ _ h)
 | .aref nm k i o b C h=>.aref _ k i o b C (hf _ _ h)
 | .arr nm k o n cap b C h hC hn=>.arr _ k o n cap b C (hf _ _ h) hC hn
 | .arrN nm k h=>.arrN _ k (hf _ _ h)
 | .mp nm b C h=>.mp _ b C (hf _ _ h)
 | .it nm b C h=>.it _ b C (hf _ _ h)
theorem Aq.rename (hf:∀ nm p,L nm=some p->L' (f nm)=some p) {xs:List PV} {vs:List Value}:Aq w I lp (some L) xs vs->Aq w I lp (some L') (Bt f xs) vs
 | .nil=>.nil
 | .cons x v xs vs h h'=>.cons _ v _ vs (Au.rename hf h) (Aq.rename hf h')
end
end ren
end Go.Ab


namespace Go.Ab
theorem Fb (g:Ob->Ob) (σ:List (List Ob)) (nm:Nm):Ak (σ.map (·.map g)) nm=(Ak σ nm).map g:=by
 unfold Ak;rw[bK];cases σ[nm.1]? with
 | none=>rfl
 | some l=>simp
theorem Kf {σ:List (List Ob)} {nm:Nm} {ob:Ob} (o:Ob) (h:Ak σ nm=some ob):Ak (Bi σ nm o) nm=some o:=by
 unfold Ak at h;unfold Ak Bi;cases hl:σ[nm.1]? with
 | none=>rw[hl] at h;cases h
 | some l =>
  rw[hl] at h;have h1:=(bL.1 hl).1;have h2:=(bL.1 h).1;simp[h1,h2]
theorem Hk {σ:List (List Ob)} {nm m:Nm} (o:Ob) (h:m≠nm):Ak (Bi σ nm o) m=Ak σ m:=by
 unfold Ak Bi;cases hl:σ[nm.1]? with
 | none=>rfl
 | some l =>
  by_cases h1:m.1=nm.1
  ·have h2:m.2≠nm.2:=fun e=>h (Prod.ext h1 e);have hlt:=(bL.1 hl).1;rw[h1,hl,dx hlt];simp[cg (cn h2)]
  ·rw[cg (cn h1)]
theorem IZ {σ:List (List Ob)} {nm m:Nm} (o:Ob):Ak (Bi σ nm o) m=none↔Ak σ m=none:=by
 by_cases h:m=nm
 ·subst h;cases hl:Ak σ m with
  | some ob=>rw[Kf o hl];simp
  | none =>
   unfold Ak at hl;unfold Ak Bi;cases hs:σ[m.1]? with
   | none=>simp[hs]
   | some l =>
    rw[hs] at hl;have h1:=(bL.1 hs).1;simp[h1];exact co.1 hl
 ·rw[Hk o h]
theorem GU {σ:List (List Ob)} {d:Nat} (obs:List Ob) (hd:d < σ.length) (j:Nat):Ak (σ.set d obs) (d,j)=obs[j]?:=by
 unfold Ak;simp[hd]
theorem FU {σ:List (List Ob)} {d:Nat} (obs:List Ob) {m:Nm} (h:m.1≠d):Ak (σ.set d obs) m=Ak σ m:=by
 unfold Ak;rw[cg (cn h)]
structure SR (lp:Nat->Option Nat) (I:Nat->Prop) (L:AB) (st:St) (tmv suf:List Value) (w:World):Prop where
 tm:Aq w I lp (some L) st.tmps tmv
 kp:Aq w I lp (some L) st.keep suf
 ob:∀ nm ob,Ak st.objs nm=some ob->∃ p,L nm=some p/\BD w I lp L ob p
 dom:∀ nm,Ak st.objs nm=none->L nm=none
section sr
variable {lp:Nat->Option Nat} {I I':Nat->Prop} {L L':AB} {st:St} {tmv suf:List Value} {w w':World}
theorem SR.keeps (h:SR lp I L st tmv suf w) (hI:∀ b,I b->I' b) (hb:∀ b,I b->w'.heap[b]?=w.heap[b]?)
  (ho:∀ nm b C,L nm=some (some (b,C))->w'.heap[b]?=w.heap[b]?):SR lp I' L st tmv suf w' where
 tm:=Aq.mono hI hb (fun _ _ h=>h) h.tm
 kp:=Aq.mono hI hb (fun _ _ h=>h) h.kp
 ob nm ob hl:=by
  obtain⟨p,hp,ha⟩:=h.ob nm ob hl;exact⟨p,hp,ha.mono hI hb (fun _ _ h=>h) fun b C e=>ho nm b C (by rw[hp,e])⟩
 dom:=h.dom
theorem SR.put (h:SR lp I L st tmv suf w) (d:Nat) {v:PV} {v':Value} (hv:Au w I lp (some L) v v'):SR lp I L {st with tmps:=st.tmps.set d v} (tmv.set d v') suf w :=
 {h with tm:=h.tm.set d hv}
def Cg (L:AB) (d:Nat) (ps:List (Option (Nat×Nat))):AB:=fun nm=>if nm.1=d then ps[nm.2]? else L nm
theorem SR.fresh (h:SR lp I L st tmv suf w) {d:Nat} (hd:st.objs[d]?=some []) (ps:List (Option (Nat×Nat))):MX L (Cg L d ps):=by
 intro nm p hp;unfold Cg;split
 ·rename_i hn;exfalso;have:=h.dom nm (by unfold Ak;rw[hn,hd];rfl);rw[hp] at this;cases this
 ·exact hp
theorem SR.news (h:SR lp I L st tmv suf w) {d:Nat} (hd:st.objs[d]?=some []) (obs:List Ob) (ps:List (Option (Nat×Nat))) (hl:ps.length=obs.length)
  (hob:∀ (j:Nat) (ob:Ob) (p:Option (Nat×Nat)),obs[j]?=some ob->ps[j]?=some p->BD w I lp (Cg L d ps) ob p) :
  SR lp I (Cg L d ps) {st with objs:=st.objs.set d obs} tmv suf w where
 tm:=h.tm.reloc (h.fresh hd ps)
 kp:=h.kp.reloc (h.fresh hd ps)
 ob nm ob hlk:=by
  by_cases hn:nm.1=d
  ·obtain⟨a,j⟩:=nm;simp only at hn;subst hn;simp only at hlk;rw[GU obs (bL.1 hd).1] at hlk;have hj:=(bL.1 hlk).1;refine⟨ps[j]'(by omega),by simp[Cg,hl,hj],hob j ob _ hlk (by simp[hl,hj])⟩
  ·simp only at hlk;rw[FU obs hn] at hlk;obtain⟨p,hp,ha⟩:=h.ob nm ob hlk;exact⟨p,by simp[Cg,hn,hp],ha.reloc (h.fresh hd ps)⟩
 dom nm hlk:=by
  by_cases hn:nm.1=d
  ·obtain⟨a,j⟩:=nm;simp only at hn;subst hn;simp only at hlk;rw[GU obs (bL.1 hd).1] at hlk;have:=co.1 hlk;simp only[Cg,if_true];exact co.2 (by omega)
  ·simp only at hlk;rw[FU obs hn] at hlk;simp only[Cg,hn,if_false];exact h.dom nm hlk
theorem SR.upd (h:SR lp I L st tmv suf w) {nm:Nm} {ob':Ob} {p:Option (Nat×Nat)} (hp:L nm=some p) (hb:∀ b,I b->w'.heap[b]?=w.heap[b]?)
  (ho:∀ m b C,m≠nm->L m=some (some (b,C))->w'.heap[b]?=w.heap[b]?) (hob:BD w' I lp L ob' p) :
  SR lp I L {st with objs:=Bi st.objs nm ob'} tmv suf w' where
 tm:=Aq.mono (fun _ h=>h) hb (fun _ _ h=>h) h.tm
 kp:=Aq.mono (fun _ h=>h) hb (fun _ _ h=>h) h.kp
 ob m ob hl:=by
  simp only at hl;by_cases hm:m=nm
  ·subst hm
   have hsome:∃ o,Ak st.objs m=some o:=by
    cases hk:Ak st.objs m with
    | some o=>exact⟨o,rfl⟩
    | none=>have:=h.dom m hk;rw[hp] at this;cases this
   obtain⟨o,hk⟩:=hsome;rw[Kf ob' hk] at hl;cases hl;exact⟨p,hp,hob⟩
  ·rw[Hk ob' hm] at hl;obtain⟨q,hq,ha⟩:=h.ob m ob hl;exact⟨q,hq,ha.mono (fun _ h=>h) hb (fun _ _ h=>h) fun b C e=>ho m b C hm (by rw[hq,e])⟩
 dom m hl:=by
  simp only at hl;exact h.dom m ((IZ ob').1 hl)
theorem BD.subst {S:Nm->Prop} {f:Nm->Option (Option Ob)} {ob:Ob} {p:Option (Nat×Nat)} (h:BD w I lp L ob p) (hI:∀ b,I b->I' b) (hb:∀ b,I b->w'.heap[b]?=w.heap[b]?)
  (hs:Ee w' I' lp L (some L') S f) (hn:∀ nm∈ob.names,S nm) (hw:∀ b C,p=some (b,C)->w'.heap[b]?=w.heap[b]?):BD w' I' lp L' (ob.sub f) p:=by
 cases p with
 | none=>obtain⟨k,kt,rfl⟩:=h;exact⟨k,kt,rfl⟩
 | some p =>
  obtain⟨b,C⟩:=p;have hw:=hw b C rfl;cases ob with
  | cells ty cs =>
   obtain⟨c,E,h1,h2,h4,h3⟩:=h;exact⟨c,E,hw.trans h1,h2,h4,Aq.subst hI hs (Aq.mono (fun _ h=>h) hb (fun _ _ h=>h) h3) hn⟩
  | arr k kt xs=>obtain⟨c,E,h1,h2,h3,h4,h6,h5⟩:=h;exact⟨c,E,hw.trans h1,h2,h3,h4,h6,Aq.mono hI hb (fun _ _ h=>h) h5⟩
  | map es=>obtain⟨c,E,h1,h2⟩:=h;exact⟨c,E,hw.trans h1,Aq.mono hI hb (fun _ _ h=>h) h2⟩
  | siter s pos=>exact hw.trans h
theorem SR.subst (h:SR lp I L st tmv suf w) {f:Nm->Option (Option Ob)} {objs':List (List Ob)} (hI:∀ b,I b->I' b) (hb:∀ b,I b->w'.heap[b]?=w.heap[b]?)
  (hs:Ee w' I' lp L (some L') (fun _=>True) f)
  (hob:∀ nm ob,Ak objs' nm=some ob->∃ p,L' nm=some p/\BD w' I' lp L' ob p) (hdom:∀ nm,Ak objs' nm=none->L' nm=none) :
  SR lp I' L' {tmps:=AX f st.tmps,objs:=objs',keep:=AX f st.keep} tmv suf w' where
 tm:=Aq.subst hI hs (Aq.mono (fun _ h=>h) hb (fun _ _ h=>h) h.tm) fun _ _=>trivial
 kp:=Aq.subst hI hs (Aq.mono (fun _ h=>h) hb (fun _ _ h=>h) h.kp) fun _ _=>trivial
 ob:=hob
 dom:=hdom
theorem SR.regrow (h:SR lp I L st tmv suf w) {nm:Nm} {k kt:Nat} {xs:List PV} {p p':Option (Nat×Nat)} (hp:L nm=some p) (hb:∀ b,I b->w'.heap[b]?=w.heap[b]?)
  (ho:∀ m b C,m≠nm->L m=some (some (b,C))->w'.heap[b]?=w.heap[b]?)
  (hob:BD w' I lp (fun m=>if m=nm then some p' else L m) (.arr k kt xs) p') :
  SR lp I (fun m=>if m=nm then some p' else L m) (DF (fun m=>if m=nm then some none else none) {st with objs:=Bi st.objs nm (.arr k kt xs)}) tmv suf w':=by
 have hs:Ee w' I lp L (some fun m=>if m=nm then some p' else L m) (fun _=>True) (fun m=>if m=nm then some none else none):=by
  intro m q _ hq;by_cases hm:m=nm
  ·simp[hm]
  ·simp[hm,hq]
 obtain⟨o,hk⟩:∃ o,Ak st.objs nm=some o:=by
  cases hk:Ak st.objs nm with
  | some o=>exact⟨o,rfl⟩
  | none=>have:=h.dom nm hk;rw[hp] at this;cases this
 refine h.subst (fun _ h=>h) hb hs ?_ ?_
 ·intro m ob hl;simp only[Fb,bD] at hl;obtain⟨ob0,hl,rfl⟩:=hl;by_cases hm:m=nm
  ·subst hm;rw[Kf _ hk] at hl;cases hl;exact⟨p',by simp,hob⟩
  ·rw[Hk _ hm] at hl;obtain⟨q,hq,ha⟩:=h.ob m ob0 hl;exact⟨q,by simp[hm,hq],ha.subst (fun _ h=>h) hb hs (fun _ _=>trivial) fun b C e=>ho m b C hm (by rw[hq,e])⟩
 ·intro m hl;simp only[Fb,Option.map_eq_none_iff] at hl;have hl':=(IZ _).1 hl;by_cases hm:m=nm
  ·subst hm;rw[hk] at hl';cases hl'
  ·simp[hm,h.dom m hl']
end sr
structure B7 (I F:Nat->Prop) (w:World) (I' F':Nat->Prop) (w':World):Prop where
 os:w'.os=w.os
 tape:w'.tape=w.tape
 output:w'.output=w.output
 size:w.heap.size<=w'.heap.size
 keep:∀ b,b < w.heap.size->¬ F b->w'.heap[b]?=w.heap[b]?
 subI:∀ b,I b->I' b
 newI:∀ b,I' b->I b\/F b\/w.heap.size<=b
 newF:∀ b,F' b->F b\/w.heap.size<=b
theorem B7.refl (I F:Nat->Prop) (w:World):B7 I F w I F w:=⟨rfl,rfl,rfl,bF _,fun _ _ _=>rfl,fun _ h=>h,fun _ h=>.inl h,fun _ h=>.inl h⟩
theorem B7.trans {I F I' F' I'' F'':Nat->Prop} {w w' w'':World} (h:B7 I F w I' F' w') (h':B7 I' F' w' I'' F'' w''):B7 I F w I'' F'' w'' where
 os:=h'.os.trans h.os
 tape:=h'.tape.trans h.tape
 output:=h'.output.trans h.output
 size:=dz h.size h'.size
 keep b hb hF:=(h'.keep b (cP hb h.size) fun hf=>(h.newF b hf).elim hF fun h1=>by omega).trans (h.keep b hb hF)
 subI b hb:=h'.subI b (h.subI b hb)
 newI b hb:=by
  rcases h'.newI b hb with h1 | h1 | h1;·exact h.newI b h1
  ·exact .inr (h.newF b h1)
  ·exact .inr (.inr (dz h.size h1))
 newF b hb:=(h'.newF b hb).elim (h.newF b) fun h1=>.inr (dz h.size h1)
structure IF (I F:Nat->Prop) (w:World):Prop where
 iB:∀ b,I b->b < w.heap.size
 fB:∀ b,F b->b < w.heap.size/\¬ I b
theorem B7.sameI {I F I' F':Nat->Prop} {w w':World} (h:B7 I F w I' F' w') (hi:IF I F w) (b:Nat) (hb:I b):w'.heap[b]?=w.heap[b]? :=
 h.keep b (hi.iB b hb) fun hf=>(hi.fB b hf).2 hb
structure Cx where
 P:Program
 mixed:P.follows .mixedOrders=true
 G:EH
 Wd:(Nat->Prop)->World->Prop
 stab:∀ (I I':Nat->Prop) (w w':World),Wd I w->(∀ b,I b->I' b)->(∀ b,I b->w'.heap[b]?=w.heap[b]?)->w.heap.size<=w'.heap.size->Wd I' w'
 gl:∀ (I:Nat->Prop) (w:World) (g:Nat) (cs:List PV),Wd I w->G g=some cs->∀ lp L,Au w I lp L (.ptr cs 0) (.pointer (some ⟨g,0,none⟩))
structure BR (E:Type) where
 rel:E->(Nat->Prop)->(Nat->Prop)->World->Prop
 stab:∀ (e:E) (I I' F:Nat->Prop) (w w':World),rel e I F w->(∀ b,I b->I' b)->(∀ b,I b\/F b->w'.heap[b]?=w.heap[b]?)->w.heap.size<=w'.heap.size->rel e I' F w'
structure BZ where
 own:Nat->Prop
 dfs:List Deferred:=[]
instance:CoeFun BZ fun _=>Nat->Prop:=⟨BZ.own⟩
inductive Dd (lo:Nat) (I F:Nat->Prop) (L:AB) (w:World):List Deferred->List Deferred->Prop
 | nil:Dd lo I F L w [] []
 | cons (D:Nat) (ds rs:List Deferred) (h1:lo<=D) (h2:D < w.heap.size) (h3:¬ I D) (h4:¬ F D) (h5:∀ nm C,L nm≠some (some (D,C)))
   (h6:w.heap[D]?=some (.deferred (some []))) (h7:∀ d∈ds,d.target≠.collected D) (h:Dd lo I F L w ds rs):Dd lo I F L w ({target:=.collected D,args:=#[]} :: ds) rs
 | call (d:Deferred) (ds rs:List Deferred) (hd:∀ D,d.target≠.collected D) (h:Dd lo I F L w ds rs):Dd lo I F L w (d :: ds) (d :: rs)
structure Fr {E:Type} (cx:Cx) (w0:World) (I0 F0:Nat->Prop) (O0:BZ) (Hd:Nat->Option Obj) (R:BR E) (e:E) (ds:List Deferred) (I F:Nat->Prop) (L:AB) (w:World):Prop where
 ext:B7 I0 F0 w0 I F w
 sep:IF I F w
 oF:∀ b,O0 b->F0 b
 lB:∀ nm b C,L nm=some (some (b,C))->(w0.heap.size<=b\/O0 b)/\b < w.heap.size/\¬ I b/\¬ F b
 inj:∀ nm nm' b C C',L nm=some (some (b,C))->L nm'=some (some (b,C'))->nm=nm'
 wd:cx.Wd I w
 re:R.rel e I F w
 mks:Dd w0.heap.size I F L w ds O0.dfs
 hld:∀ b ob,Hd b=some ob->b < w.heap.size/\¬ I b/\¬ F b/\(∀ nm C,L nm≠some (some (b,C)))/\w.heap[b]?=some ob
theorem Dd.move {lo:Nat} {I F I' F':Nat->Prop} {L L':AB} {w w':World} {ds rs:List Deferred} (h:Dd lo I F L w ds rs) (hs:w.heap.size<=w'.heap.size)
  (hk:∀ D,D < w.heap.size->lo<=D->¬ I D->¬ F D->(∀ nm C,L nm≠some (some (D,C)))->w'.heap[D]?=w.heap[D]?/\¬ I' D/\¬ F' D/\(∀ nm C,L' nm≠some (some (D,C)))):Dd lo I' F' L' w' ds rs:=by
 induction h with
 | nil=>exact .nil
 | cons D ds rs h1 h2 h3 h4 h5 h6 h7 _ ih =>
  obtain⟨a,b,c,d⟩:=hk D h2 h1 h3 h4 h5;exact .cons D ds rs h1 (cP h2 hs) b c d (a.trans h6) h7 ih
 | call d ds rs hd _ ih=>exact .call d ds rs hd ih
section fr
variable {E:Type} {cx:Cx} {w0:World} {I0 F0:Nat->Prop} {O0:BZ} {Hd:Nat->Option Obj} {R:BR E} {e:E} {ds:List Deferred} {I F I':Nat->Prop} {L L':AB} {w w':World}
theorem Fr.sameI (h:Fr cx w0 I0 F0 O0 Hd R e ds I F L w) (hk:∀ b,b < w.heap.size->(∀ nm C,L nm≠some (some (b,C)))->w'.heap[b]?=w.heap[b]?) (b:Nat) (hb:I b):w'.heap[b]?=w.heap[b]? :=
 hk b (h.sep.iB b hb) fun nm C hL=>(h.lB nm b C hL).2.2.1 hb
theorem Fr.own (h:Fr cx w0 I0 F0 O0 Hd R e ds I F L w) (h1:w'.os=w.os) (h2:w'.tape=w.tape) (h3:w'.output=w.output) (h4:w.heap.size<=w'.heap.size)
  (hk:∀ b,b < w.heap.size->(∀ nm C,L nm≠some (some (b,C)))->w'.heap[b]?=w.heap[b]?) (hI:∀ b,I b->I' b)
  (hI':∀ b,I' b->I b\/(b < w'.heap.size/\(w.heap.size<=b\/∃ nm C,L nm=some (some (b,C)))))
  (hL:∀ nm b C,L' nm=some (some (b,C))->b < w'.heap.size/\¬ I' b/\(w.heap.size<=b\/∃ nm' C',L nm'=some (some (b,C'))))
  (hinj:∀ nm nm' b C C',L' nm=some (some (b,C))->L' nm'=some (some (b,C'))->nm=nm'):Fr cx w0 I0 F0 O0 Hd R e ds I' F L' w' where
 ext:=by
  have hsz:=h.ext.size;refine⟨h1.trans h.ext.os,h2.trans h.ext.tape,h3.trans h.ext.output,dz hsz h4,fun b hb hf=>?_,fun b hb=>hI b (h.ext.subI b hb),fun b hb=>?_,h.ext.newF⟩;·exact (hk b (by omega) fun nm C hn=>(h.lB nm b C hn).1.elim (fun h1=>by omega) (fun ho=>hf (h.oF b ho))).trans (h.ext.keep b hb hf)
  ·rcases hI' b hb with h5 | ⟨_,h5 | ⟨nm,C,h5⟩⟩;·exact h.ext.newI b h5
   ·exact .inr (.inr (by omega))
   ·exact .inr ((h.lB nm b C h5).1.elim .inr fun ho=>.inl (h.oF b ho))
 sep:=⟨fun b hb=>(hI' b hb).elim (fun h5=>cP (h.sep.iB b h5) h4) fun h5=>h5.1,
  fun b hb=>⟨cP (h.sep.fB b hb).1 h4,fun hi=>by
   rcases hI' b hi with h5 | ⟨_,h5 | ⟨nm,C,h5⟩⟩;·exact (h.sep.fB b hb).2 h5
   ·have:=(h.sep.fB b hb).1;omega
   ·exact (h.lB nm b C h5).2.2.2 hb⟩⟩
 oF:=h.oF
 lB nm b C hn:=by
  obtain⟨a1,a2,a3⟩:=hL nm b C hn;have hsz:=h.ext.size;refine⟨?_,a1,a2,?_⟩
  ·rcases a3 with a3 | ⟨nm',C',a3⟩;·exact .inl (by omega)
   ·exact (h.lB nm' b C' a3).1
  ·intro hf;rcases a3 with a3 | ⟨nm',C',a3⟩;·have:=(h.sep.fB b hf).1;omega
   ·exact (h.lB nm' b C' a3).2.2.2 hf
 inj:=hinj
 wd:=cx.stab I I' w w' h.wd hI (h.sameI hk) h4
 re:=R.stab e I I' F w w' h.re hI (fun b hb=>by
  rcases hb with hb | hb;·exact h.sameI hk b hb
  ·exact hk b (h.sep.fB b hb).1 fun nm C hn=>(h.lB nm b C hn).2.2.2 hb) h4
 mks:=h.mks.move h4 fun D d1 d2 d3 d4 d5=>⟨hk D d1 d5,fun hi=>by
   rcases hI' D hi with h5 | ⟨_,h5 | ⟨nm,C,h5⟩⟩;·exact d3 h5
   ·omega
   ·exact d5 nm C h5,d4,fun nm C hn=>by
   rcases (hL nm D C hn).2.2 with h5 | ⟨nm',C',h5⟩;·omega
   ·exact d5 nm' C' h5⟩
 hld b ob hb:=by
  obtain⟨d1,d2,d3,d4,d5⟩:=h.hld b ob hb;refine⟨by omega,fun hi=>?_,d3,fun nm C hn=>?_,(hk b d1 d4).trans d5⟩
  ·rcases hI' b hi with h5 | ⟨_,h5 | ⟨nm,C,h5⟩⟩;·exact d2 h5
   ·omega
   ·exact d4 nm C h5
  ·rcases (hL nm b C hn).2.2 with h5 | ⟨nm',C',h5⟩;·omega
   ·exact d4 nm' C' h5
end fr
end Go.Ab


namespace Go.Ab
theorem num_ge {b f:Nat} (n:Nat):Nat.blt (f+b*(n+1)) b=false:=by
 cases hq:Nat.blt (f+b*(n+1)) b with
 | false=>rfl
 | true =>
  have h1:=Nat.blt_eq.mp hq;have h2:=Nat.le_mul_of_pos_right b (Nat.succ_pos n);exact absurd (cP h1 (dz h2 (Nat.le_add_left _ f))) (Nat.lt_irrefl _)
theorem num_div {b f:Nat} (hb:f < b) (n:Nat):(f+b*(n+1)) / b=n+1:=by
 rw[Nat.add_mul_div_left _ _ (Nat.lt_of_le_of_lt (de f) hb),Nat.div_eq_of_lt hb,cd]
theorem num_mod {b f:Nat} (hb:f < b) (n:Nat):(f+b*(n+1))%b=f:=by
 rw[Nat.add_mul_mod_self_left,Nat.mod_eq_of_lt hb]
theorem fnK_ge {g:Nat} (h:Nat.blt g CQ=false):E9 g=g / CQ:=by unfold E9;rw[h]
theorem fnId_ge {g:Nat} (h:Nat.blt g CQ=false):AW g=g%CQ:=by unfold AW;rw[h]
theorem fnNum_k {f:FuncId} (hb:Nat.blt f CQ=true):∀ n,E9 (OQ f n)=n
 | 0=>by simp[OQ,E9,hb]
 | n+1=>(fnK_ge (num_ge n)).trans (num_div (Nat.blt_eq.mp hb) n)
theorem fnNum_id {f:FuncId} (hb:Nat.blt f CQ=true):∀ n,AW (OQ f n)=f
 | 0=>by simp[OQ,AW,hb]
 | n+1=>(fnId_ge (num_ge n)).trans (num_mod (Nat.blt_eq.mp hb) n)
theorem RR {w:World} {I:Nat->Prop} {lp:Nat->Option Nat} {L:Option AB}:∀ (n:Nat) (v:Value) (x:PV),Hq n v=some x->Au w I lp L x v:=by
 intro n;induction n with
 | zero =>
  intro v x h;unfold Hq at h;split at h<;>first | contradiction | (cases h;done) | (cases h;constructor)
 | succ n ih =>
  intro v x h;unfold Hq at h;split at h<;>first | (cases h;constructor) | skip
  ·rename_i m cs e;cases e;split at h
   case isFalse=>cases h
   rename_i hone;simp only[bD] at h;obtain⟨xs,hx,rfl⟩:=h;refine .agg xs cs (fun v hv=>bP.1 hone v hv) ?_;clear hone;generalize cs.toList=l at hx;induction l generalizing xs with
   | nil=>simp at hx;subst hx;exact .nil
   | cons v l ihl =>
    rw[cQ] at hx;simp only[dU,cB,d9,bG] at hx;obtain⟨y,hy,ys,hys,rfl⟩:=hx;exact .cons _ _ _ _ (ih v y hy) (ihl ys hys)
  ·cases h
theorem Tm {tmps:Array Value} (i:Nat):tmps.getD i undef=tmps.toList.getD i undef:=by
 simp[bI]
section
variable {cx:Cx} {I:Nat->Prop} {L:AB} {st:St} {a:Act} {suf:List Value} {lp:Nat->Option Nat} {w:World}
theorem By (h:SR lp I L st a.tmps.toList suf w) (hw:cx.Wd I w) {x:Operand} {r:RX} (hx:rx cx.G x=some r):Au w I lp (some L) (r.ev st.tmps) (a.eval x):=by
 cases x with
 | tmp t=>simp only[rx,bG] at hx;subst hx;simp only[RX.ev,Act.eval,Tm];exact h.tm.getD t undef
 | const v =>
  simp only[rx,bD] at hx;obtain⟨y,hy,rfl⟩:=hx;exact RR 3 v y hy
 | global g =>
  simp only[rx,bD] at hx;obtain⟨cs,hc,rfl⟩:=hx;exact cx.gl I w g cs hw hc lp _
 | func f =>
  simp only[rx] at hx;split at hx
  case isFalse=>cases hx
  rename_i hb;simp only[bG] at hx;subst hx
  have hr:Au w I lp (some L) (.fn f []) (.func (.func f) #[] #[]):=by
   have:=Au.fn (w:=w) (I:=I) (lp:=lp) (L:=some L) f [] #[] #[] (by simp[E9,hb]) .nil
   rwa [show AW f=f by simp[AW,hb]] at this
  exact hr
theorem P7 (h:SR lp I L st a.tmps.toList suf w) (hw:cx.Wd I w):∀ {xs:List Operand} {rs:List RX},D2 cx.G xs=some rs ->
  Aq w I lp (some L) (rs.map (RX.ev st.tmps)) (xs.map a.eval):=by
 intro xs;induction xs with
 | nil=>intro rs h;simp only[D2,bG] at h;subst h;exact .nil
 | cons x xs ih =>
  intro rs hr;simp only[D2] at hr;split at hr
  ·rename_i y ys h1 h2;cases hr;exact .cons _ _ _ _ (By h hw h1) (ih h2)
  ·cases hr
end
structure Kd (w w':World):Prop where
 heap:w'.heap=w.heap
 os:w'.os=w.os
 tape:w'.tape=w.tape
 output:w'.output=w.output
theorem Kd.refl (w:World):Kd w w:=⟨rfl,rfl,rfl,rfl⟩
theorem HR (a:Act) (dst:Option Nat) (v:Value):(a.put dst v).tmps.toList=(match dst with | some d=>a.tmps.toList.set d v | none=>a.tmps.toList):=by
 cases dst<;>simp[Act.put]
section done
variable {E:Type} (cx:Cx) (w0:World) (I0 F0:Nat->Prop) (O0:BZ) (Hd:Nat->Option Obj) (R:BR E) (e:E) (ds:List Deferred) (F:Nat->Prop) (lp:Nat->Option Nat) (suf:List Value)
def BA (o:Oper) (a:Act) (w:World) (st':St):Prop :=
 ∃ v' w' I' L',((execOp a.eval o).run cx.P w=.ok (.value v') w'\/((execOp a.eval o).run cx.P w=.ok .skip w'/\v'=undef)) /\
  SR lp I' L' st' (a.put o.dst v').tmps.toList suf w'/\Fr cx w0 I0 F0 O0 Hd R e ds I' F L' w'
end done
section lemmas
variable {E:Type} {cx:Cx} {w0:World} {I0 F0:Nat->Prop} {O0:BZ} {Hd:Nat->Option Obj} {R:BR E} {e:E} {ds:List Deferred} {F:Nat->Prop} {lp:Nat->Option Nat} {suf:List Value}
variable {I:Nat->Prop} {L:AB} {st:St} {a:Act} {w:World} {o:Oper}
theorem Au.same {L:Option AB} {x:PV} {v:Value} {w':World} (h:Au w I lp L x v) (hs:Kd w w'):Au w' I lp L x v :=
 Au.mono (fun _ h=>h) (fun _ _=>by rw[hs.heap]) (fun _ _ h=>h) h
theorem Fr.same (h:Fr cx w0 I0 F0 O0 Hd R e ds I F L w) {w':World} (hs:Kd w w'):Fr cx w0 I0 F0 O0 Hd R e ds I F L w' :=
 h.own hs.os hs.tape hs.output (by rw[hs.heap];exact bF _) (fun b _ _=>by rw[hs.heap]) (fun _ h=>h) (fun _ h=>.inl h)
  (fun nm b C hn=>⟨by rw[hs.heap];exact (h.lB nm b C hn).2.1,(h.lB nm b C hn).2.2.1,.inr ⟨nm,C,hn⟩⟩) h.inj
theorem SR.same (h:SR lp I L st a.tmps.toList suf w) {w':World} (hs:Kd w w'):SR lp I L st a.tmps.toList suf w' :=
 h.keeps (fun _ h=>h) (fun _ _=>by rw[hs.heap]) fun _ _ _ _=>by rw[hs.heap]
theorem SR.putO (h:SR lp I L st a.tmps.toList suf w) (dst:Option Nat) {v:PV} {v':Value} (hv:Au w I lp (some L) v v') :
  SR lp I L (apply st dst {v}) (a.put dst v').tmps.toList suf w:=by
 rw[HR];cases dst with
 | none=>exact h
 | some d=>exact h.put d hv
theorem BO (hs:SR lp I L st a.tmps.toList suf w) (hf:Fr cx w0 I0 F0 O0 Hd R e ds I F L w) {v:PV} {v':Value} {w':World}
  (hr:(execOp a.eval o).run cx.P w=.ok (.value v') w') (hw:Kd w w') (hv:Au w I lp (some L) v v') :
  BA cx w0 I0 F0 O0 Hd R e ds F lp suf o a w (apply st o.dst {v}) :=
 ⟨v',w',I,L,.inl hr,(hs.same hw).putO o.dst (hv.same hw),hf.same hw⟩
theorem Eg (w:World) (ob:Obj) {b:Nat} (h:b < w.heap.size):(w.alloc ob).heap[b]?=w.heap[b]?:=heap_alloc_old w ob b h
theorem Fr.news (h:Fr cx w0 I0 F0 O0 Hd R e ds I F L w) {w':World} {d:Nat} (_hd:st.objs[d]?=some []) {ps:List (Option (Nat×Nat))}
  (h1:w'.os=w.os) (h2:w'.tape=w.tape) (h3:w'.output=w.output) (h4:w.heap.size<=w'.heap.size) (hk:∀ b,b < w.heap.size->w'.heap[b]?=w.heap[b]?)
  (hp:∀ (j b C:Nat),ps[j]?=some (some (b,C))->w.heap.size<=b/\b < w'.heap.size)
  (hi:∀ (j j' b C C':Nat),ps[j]?=some (some (b,C))->ps[j']?=some (some (b,C'))->j=j'):Fr cx w0 I0 F0 O0 Hd R e ds I F (Cg L d ps) w':=by
 refine h.own h1 h2 h3 h4 (fun b hb _=>hk b hb) (fun _ h=>h) (fun _ h=>.inl h) ?_ ?_
 ·intro nm b C hn;unfold Cg at hn;split at hn
  ·obtain⟨p1,p2⟩:=hp _ _ _ hn;exact⟨p2,fun hb=>by have:=h.sep.iB b hb;omega,.inl p1⟩
  ·have:=h.lB nm b C hn;exact⟨by omega,this.2.2.1,.inr ⟨nm,C,hn⟩⟩
 ·intro nm nm' b C C' hn hn';unfold Cg at hn hn';split at hn<;>split at hn'
  ·rename_i e1 e2;exact Prod.ext (e1.trans e2.symm) (hi _ _ _ _ _ hn hn')
  ·have:=hp _ _ _ hn;have:=h.lB nm' b C' hn';omega
  ·have:=hp _ _ _ hn';have:=h.lB nm b C hn;omega
  ·exact h.inj nm nm' b C C' hn hn'
theorem PR (hs:SR lp I L st a.tmps.toList suf w) (hf:Fr cx w0 I0 F0 O0 Hd R e ds I F L w) {d:Nat} (hd:o.dst=some d) (hc:st.objs[d]?=some [])
  {v:PV} {v':Value} {ob:Ob} {obj:Obj} {C:Nat} {w1:World} (hw:Kd w w1) (hr:(execOp a.eval o).run cx.P w=.ok (.value v') (w1.alloc obj))
  (hob:∀ L',MX L L'->Rw (w1.alloc obj) I lp L' w.heap.size C ob)
  (hv:∀ L':AB,L' (d,0)=some (some (w.heap.size,C))->Au (w1.alloc obj) I lp (some L') v v') :
  BA cx w0 I0 F0 O0 Hd R e ds F lp suf o a w (apply st o.dst {v,new:=[ob]}):=by
 have hsz:w1.heap.size=w.heap.size:=by rw[hw.heap]
 have hk:∀ b,b < w.heap.size->(w1.alloc obj).heap[b]?=w.heap[b]?:=fun b hb=>by rw[Eg w1 obj (by omega),hw.heap]
 have hk2:SR lp I L st a.tmps.toList suf (w1.alloc obj):=hs.keeps (fun _ h=>h) (fun b hb=>hk b (hf.sep.iB b hb)) fun nm b C hn=>hk b (hf.lB nm b C hn).2.1
 have hn:=hk2.news hc [ob] [some (w.heap.size,C)] rfl (by
  intro j ob' p h1 h2;cases j with
  | zero=>simp at h1 h2;subst h1;subst h2;exact hob _ (hk2.fresh hc _)
  | succ j=>simp at h1)
 refine⟨v',w1.alloc obj,I,Cg L d [some (w.heap.size,C)],.inl hr,?_,?_⟩
 ·rw[HR,hd];exact hn.put d (hv _ (by simp[Cg]))
 ·refine Fr.news hf hc (by simp[World.alloc,hw.os]) (by simp[hw.tape]) (by simp[World.alloc,hw.output]) (by simp;omega) hk ?_ ?_
  ·intro j b C' hj;cases j with
   | zero=>simp at hj;simp;omega
   | succ j=>simp at hj
  ·intro j j' b C1 C2 h1 h2;cases j with
   | zero=>cases j' with
    | zero=>rfl
    | succ j'=>simp at h2
   | succ j=>simp at h1
theorem NK (hs:SR lp I L st a.tmps.toList suf w) (hf:Fr cx w0 I0 F0 O0 Hd R e ds I F L w) {nm:Nm} {b C:Nat} (hL:L nm=some (some (b,C)))
  {v:PV} {v':Value} {ob:Ob} {w':World} (hr:(execOp a.eval o).run cx.P w=.ok (.value v') w'\/((execOp a.eval o).run cx.P w=.ok .skip w'/\v'=undef))
  (h1:w'.os=w.os) (h2:w'.tape=w.tape) (h3:w'.output=w.output) (h4:w'.heap.size=w.heap.size) (hk:∀ b',b'≠b->w'.heap[b']?=w.heap[b']?)
  (hob:Rw w' I lp L b C ob) (hv:Au w' I lp (some L) v v') :
  BA cx w0 I0 F0 O0 Hd R e ds F lp suf o a w (apply st o.dst {v,upd:=some (nm,ob)}):=by
 have hI:∀ b',I b'->w'.heap[b']?=w.heap[b']?:=fun b' hb'=>hk b' fun e=>(hf.lB nm b C hL).2.2.1 (e ▸ hb');have hu:=hs.upd (w':=w') (ob':=ob) hL hI (fun m b' C' hm hn=>hk b' fun e=>hm (hf.inj m nm b' C' C hn (e ▸ hL))) hob;refine⟨v',w',I,L,hr,?_,?_⟩
 ·rw[HR];cases o.dst with
  | none=>exact hu
  | some d=>exact hu.put d hv
 ·exact hf.own h1 h2 h3 (by omega) (fun b' _ hn=>hk b' fun e=>hn nm C (e ▸ hL)) (fun _ h=>h) (fun _ h=>.inl h)
   (fun m b' C' hn=>⟨by have:=(hf.lB m b' C' hn).2.1;omega,(hf.lB m b' C' hn).2.2.1,.inr ⟨m,C',hn⟩⟩) hf.inj
theorem Py (hs:SR lp I L st a.tmps.toList suf w) (hf:Fr cx w0 I0 F0 O0 Hd R e ds I F L w) {nm:Nm} {p p':Option (Nat×Nat)} (hL:L nm=some p)
  {v:PV} {v':Value} {k kt:Nat} {xs:List PV} {w':World} (hr:(execOp a.eval o).run cx.P w=.ok (.value v') w')
  (h1:w'.os=w.os) (h2:w'.tape=w.tape) (h3:w'.output=w.output) (h4:w.heap.size<=w'.heap.size)
  (hk:∀ b',b' < w.heap.size->(∀ C,p≠some (b',C))->w'.heap[b']?=w.heap[b']?)
  (hp':∀ b C,p'=some (b,C)->b < w'.heap.size/\(w.heap.size<=b\/∃ C',p=some (b,C')))
  (hob:∀ L',BD w' I lp L' (.arr k kt xs) p') (hv:∀ L':AB,L' nm=some p'->Au w' I lp (some L') v v') :
  BA cx w0 I0 F0 O0 Hd R e ds F lp suf o a w (apply st o.dst {v,upd:=some (nm,.arr k kt xs),kill:=some nm}):=by
 have hI:∀ b',I b'->w'.heap[b']?=w.heap[b']?:=fun b' hb'=>hk b' (hf.sep.iB b' hb') fun C e=>(hf.lB nm b' C (by rw[hL,e])).2.2.1 hb'
 have hu:=hs.regrow (w':=w') (k:=k) (kt:=kt) (xs:=xs) (p':=p') hL hI
  (fun m b' C' hm hn=>hk b' (hf.lB m b' C' hn).2.1 fun C e=>hm (hf.inj m nm b' C' C hn (by rw[hL,e]))) (hob _)
 refine⟨v',w',I,(fun m=>if m=nm then some p' else L m),.inl hr,?_,?_⟩
 ·rw[HR];cases o.dst with
  | none=>exact hu
  | some d=>exact hu.put d (hv _ (by simp))
 ·refine hf.own h1 h2 h3 h4 (fun b' hb' hn=>hk b' hb' fun C e=>hn nm C (by rw[hL,e])) (fun _ h=>h) (fun _ h=>.inl h) ?_ ?_
  ·intro m b' C' hn;by_cases hm:m=nm
   ·simp only[hm,if_true,bG] at hn;obtain⟨q1,q2⟩:=hp' b' C' hn;refine⟨q1,fun hb=>?_,?_⟩
    ·rcases q2 with q2 | ⟨C2,q2⟩;·have:=hf.sep.iB b' hb;omega
     ·exact (hf.lB nm b' C2 (by rw[hL,q2])).2.2.1 hb
    ·rcases q2 with q2 | ⟨C2,q2⟩;·exact .inl q2
     ·exact .inr ⟨nm,C2,by rw[hL,q2]⟩
   ·simp only[hm,if_false] at hn;exact⟨by have:=(hf.lB m b' C' hn).2.1;omega,(hf.lB m b' C' hn).2.2.1,.inr ⟨m,C',hn⟩⟩
  ·intro m m' b' C1 C2 hn hn'
   have other:∀ m C1 C2,m≠nm->L m=some (some (b',C1))->p'=some (b',C2)->False:=fun m C1 C2 hm h1 h2=>by
    obtain⟨q1,q2⟩:=hp' b' C2 h2;rcases q2 with q2 | ⟨C3,q2⟩;·have:=(hf.lB m b' C1 h1).2.1;omega
    ·exact hm (hf.inj m nm b' C1 C3 h1 (by rw[hL,q2]))
   by_cases hm:m=nm<;>by_cases hm':m'=nm
   ·rw[hm,hm']
   ·simp only[hm,hm',if_true,if_false,bG] at hn hn';exact (other m' C2 C1 hm' hn' hn).elim
   ·simp only[hm,hm',if_true,if_false,bG] at hn hn';exact (other m C1 C2 hm hn hn').elim
   ·simp only[hm,hm',if_false] at hn hn';exact hf.inj m m' b' C1 C2 hn hn'
end lemmas
end Go.Ab


namespace Go.Ab
section inv
variable {w:World} {I:Nat->Prop} {lp:Nat->Option Nat} {L:AB} {v:Value}
theorem Fc {L:Option AB} {b:Bool} (h:Au w I lp L (.bool b) v):v=.bool b:=by cases h;rfl
theorem DO {L:Option AB} {k:IntKind} {n:Int} (h:Au w I lp L (.int k n) v):v=.int k n:=by cases h;rfl
theorem EQ {L:Option AB} {s:List UInt8} (h:Au w I lp L (.str s) v):v=.string ⟨s.toArray⟩:=by cases h;rfl
theorem F5 {L:Option AB} (h:Au w I lp L .nilS v):v=.slice none 0 0:=by cases h;rfl
theorem Ku {L:Option AB} (h:Au w I lp L .nilP v):v=.pointer none:=by cases h;rfl
theorem PM {L:Option AB} (h:Au w I lp L .nilF v):v=.nilFunc:=by cases h;rfl
theorem Is {L:Option AB} (h:Au w I lp L .nilI v):v=.nilIface:=by cases h;rfl
theorem W5 {L:Option AB} (h:Au w I lp L .nilM v):v=.map none:=by cases h;rfl
theorem P4 {L:Option AB} {cs:List PV} (h:Au w I lp L (.agg cs) v):∃ vs,v=.agg vs/\Bn vs.toList/\Aq w I lp L cs vs.toList:=by cases h;exact⟨_,rfl,by assumption,by assumption⟩
theorem XR {L:Option AB} {cs:List PV} (h:Au w I lp L (.tup cs) v):∃ vs,v=.tuple vs/\Aq w I lp L cs vs.toList:=by cases h;exact⟨_,rfl,by assumption⟩
theorem W7 {L:Option AB} {g:Nat} {t:TypeId} (h:Au w I lp L (.glob g t) v):∃ u,v=.iface t u/\I g/\∃ c E fr,w.heap[g]?=some (.cells c E fr)/\c[0]?=some (.iface t u):=by cases h;exact⟨_,rfl,by assumption,_,_,_,by assumption,by assumption⟩
theorem LH {L:Option AB} {t:TypeId} {x:PV} (h:Au w I lp L (.iface t x) v):∃ u,v=.iface t u/\Au w I lp L x u:=by cases h;exact⟨_,rfl,by assumption⟩
theorem KX {L:Option AB} {f:FuncId} {cs:List PV} (h:Au w I lp L (.fn f cs) v):∃ us vs,v=.func (.func (AW f)) us vs/\us.size=E9 f/\Aq w I lp L cs (us.toList++vs.toList):=by cases h;exact⟨_,_,rfl,by assumption,by assumption⟩
theorem Sf {L:Option AB} {f:FuncId} {cs xs:List PV} {us vs:Array Value} {ys:List Value} (hk:us.size=E9 f) (h:Aq w I lp L cs (us.toList++vs.toList)) (hv:Aq w I lp L xs ys) :
  Aq w I lp L (Bv f xs cs) (us.toList++(ys++vs.toList)):=by
 unfold Bv;have hl:us.toList.length=us.size:=by simp
 split
 ·rename_i hb;have h0:us.size=0:=by rw[hk];simp[E9,hb]
  have hu:us.toList=[]:=dL.1 (by rw[hl,h0]);rw[hu] at h |-;exact hv.append h
 ·have h1:=h.take (E9 f);have h2:=h.drop (E9 f);rw[List.take_left' (by rw[hl,hk])] at h1;rw[List.drop_left' (by rw[hl,hk])] at h2;exact h1.append (hv.append h2)
theorem XQ {L:Option AB} {d:Nat} (h:Au w I lp L (.yld d) v):∃ l,v=.func (.yield l) #[] #[]/\lp d=some l:=by cases h;exact⟨_,rfl,by assumption⟩
theorem FC {nm:Nm} {o:Nat} (h:Au w I lp (some L) (.ref nm o) v):∃ b C,L nm=some (some (b,C))/\v=.pointer (some ⟨b,o,none⟩):=by cases h;exact⟨_,_,by assumption,rfl⟩
theorem PN {nm:Nm} {k i o:Nat} (h:Au w I lp (some L) (.aref nm k i o) v):∃ b C,L nm=some (some (b,C))/\v=.pointer (some ⟨b,i*k+o,none⟩):=by cases h;exact⟨_,_,by assumption,rfl⟩
theorem Ma {L:Option AB} {cs:List PV} {o:Nat} (h:Au w I lp L (.ptr cs o) v):∃ b off c E fr,v=.pointer (some ⟨b,off+o,none⟩)/\I b/\w.heap[b]?=some (.cells c E fr) /\
  off+cs.length<=c.size/\o < cs.length/\Bn ((c.toList.drop off).take cs.length)/\Aq w I lp none cs ((c.toList.drop off).take cs.length):=by
 cases h;exact⟨_,_,_,_,_,rfl,by assumption,by assumption,by assumption,by assumption,by assumption,by assumption⟩
theorem Jp {nm:Nm} {k o n:Nat} (h:Au w I lp (some L) (.arr nm k o n) v) :
  (∃ b C cap,L nm=some (some (b,C))/\v=.slice (some ⟨b,o*k,none⟩) n cap/\(o+cap)*k<=C/\n<=cap)\/(L nm=some none/\v=.slice none 0 0/\o=0/\n=0):=by
 cases h;·exact .inl ⟨_,_,_,by assumption,rfl,by assumption,by assumption⟩
 ·exact .inr ⟨by assumption,rfl,rfl,rfl⟩
theorem JE {L:Option AB} {k:Nat} {xs:List PV} {full:Bool} (h:Au w I lp L (.sl k xs full) v) :
  (∃ b off cap c E fr,v=.slice (some ⟨b,off,none⟩) xs.length cap/\I b/\w.heap[b]?=some (.cells c E fr)/\off+xs.length*k<=c.size/\(∀ x∈xs,x.cells.length=k)/\xs.length<=cap/\(full=true->cap=xs.length) /\
   Bn ((c.toList.drop off).take (xs.length*k))/\Aq w I lp none (cellsL xs) ((c.toList.drop off).take (xs.length*k)))\/(xs=[]/\∃ a cap,v=.slice a 0 cap/\(full=true->cap=0)):=by
 cases h;·exact .inr ⟨rfl,_,_,rfl,by assumption⟩
 ·exact .inl ⟨_,_,_,_,_,_,rfl,by assumption,by assumption,by assumption,by assumption,by assumption,by assumption,by assumption,by assumption⟩
theorem Qr {nm:Nm} (h:Au w I lp (some L) (.mp nm) v):∃ b C,L nm=some (some (b,C))/\v=.map (some b):=by cases h;exact⟨_,_,by assumption,rfl⟩
theorem inv_it {nm:Nm} (h:Au w I lp (some L) (.it nm) v):∃ b C,L nm=some (some (b,C))/\v=.pointer (some ⟨b,0,none⟩):=by cases h;exact⟨_,_,by assumption,rfl⟩
theorem W6 {L:Option AB} {es:List PV} (h:Au w I lp L (.imap es) v):∃ r ents clock,v=.map (some r)/\I r/\w.heap[r]?=some (.map ents clock)/\Aq w I lp none es (FJ ents.toList):=by
 cases h;exact⟨_,_,_,rfl,by assumption,by assumption,by assumption⟩
end inv
theorem Bm {α:Type} {b:Bool} {x:Option α} {y:α} (h:AC b x=some y):b=true/\x=some y:=by
 cases b;·simp[AC] at h
 ·exact⟨rfl,by simpa[AC] using h⟩
theorem RD {P:Program} {t:TypeId} {n:Nat} {ag:Bool} (h:GZ P t=some (n,ag)):∃ d i,P.underlying t=some d/\P.info? t=some i/\i.size=n/\Lu d=ag:=by
 unfold GZ at h;split at h
 ·rename_i d i h1 h2;simp only[bG,ch] at h;exact⟨d,i,h1,h2,h.1,h.2⟩
 ·cases h
theorem VR {P:Program} {t:TypeId} {d:TypeDesc} (h:P.underlying t=some d) (w:World):(isAgg t).run P w=.ok (Lu d) w:=by
 unfold isAgg Lu;simp only[Sem.run_bind,run_underlying h,Result.andThen_ok];split<;>split<;>simp_all
theorem HP {P:Program} {t:TypeId} {i:TypeInfo} (h:P.info? t=some i) (w:World):(sizeOf t).run P w=.ok i.size w:=by
 simp[sizeOf,typeInfo,h]
theorem It (b off i:Nat):(⟨b,off,none⟩:Addr).add i=⟨b,off+i,none⟩:=by
 unfold Addr.add;split<;>simp_all
theorem NM {w:World} {b:Nat} {c:Array Value} {E:TypeId} {fr:Nat×Nat} (h:w.heap[b]?=some (.cells c E fr)) (j:Nat):w.cell? ⟨b,j,none⟩=c[j]?:=by
 simp[World.cell?,h]
theorem OT {P:Program} {w:World} {t:TypeId} {n:Nat} {ag:Bool} (hsh:GZ P t=some (n,ag)) {b off:Nat} {c:Array Value} {E:TypeId} {fr:Nat×Nat}
  (hb:w.heap[b]?=some (.cells c E fr)) {v:Value} (hv:if ag then off+n<=c.size/\v=.agg (c.extract off (off+n)) else c[off]?=some v) :
  (Instr.loadAt t (.pointer (some ⟨b,off,none⟩))).run P w=.ok v w:=by
 obtain⟨d,i,h1,h2,h3,h4⟩:=RD hsh;simp only[Instr.loadAt,Instr.sureAddr,loadVar,Sem.run_bind,Sem.run_pure,Result.andThen_ok,VR h1,h4];cases ag
 ·simp only[bA,if_false] at hv |-;simp[run_load,NM hb,hv]
 ·simp only[if_true] at hv |-;obtain⟨hle,rfl⟩:=hv
  have:=run_loadCells_list (P:=P) (w:=w) ⟨b,off,none⟩ ((c.extract off (off+n)).toList) (fun j v hj=>by
   rw[It,NM hb];simp only[dM,Array.getElem?_extract] at hj;split at hj;·rename_i hlt;exact hj
   ·cases hj)
  simp only[dl,Array.size_extract,df] at this;rw[cq hle,dK] at this;simp only[HP h2,h3,Result.andThen_ok,Sem.run_bind,this,Sem.run_pure]
theorem NP {w:World} {I:Nat->Prop} {lp:Nat->Option Nat} {L:Option AB} {cs:List PV} {vs:List Value} (hr:Aq w I lp L cs vs) (h1:Bn vs) {o n:Nat} {ag:Bool} {x:PV}
  (h:BE cs o n ag=some x):∃ v,(if ag then o+n<=vs.length/\v=.agg ((vs.drop o).take n).toArray else vs[o]?=some v)/\Au w I lp L x v:=by
 unfold BE at h;cases ag
 ·simp only[bA,if_false] at h |-;exact hr.get h
 ·simp only[if_true] at h |-;obtain⟨h2,h3⟩:=Bm h;cases h3;exact⟨_,⟨by rw[<-hr.length];exact of_decide_eq_true h2,rfl⟩,.agg _ _ (by simpa using (h1.drop' o).take' n) (by simpa using (hr.drop o).take n)⟩
theorem M0 (c:Array Value) (i j:Nat):c.extract i j=((c.toList.drop i).take (j - i)).toArray:=by
 apply Array.ext';simp[Array.toList_extract,List.take_drop,List.extract]
section ops
variable {E:Type} {cx:Cx} {w0:World} {I0 F0:Nat->Prop} {O0:BZ} {Hd:Nat->Option Obj} {R:BR E} {e:E} {ds:List Deferred} {F:Nat->Prop} {lp:Nat->Option Nat} {suf:List Value}
variable {I:Nat->Prop} {L:AB} {st:St} {a:Act} {w:World} {o:Oper} {out:AK} {rop:Ax}
variable (hs:SR lp I L st a.tmps.toList suf w) (hf:Fr cx w0 I0 F0 O0 Hd R e ds I F L w)
include hs hf
theorem op_mov {x:Operand} (ho:o.op=.move x\/o.op=.assign x) {r:RX} (hr:rx cx.G x=some r) :
  BA cx w0 I0 F0 O0 Hd R e ds F lp suf o a w (apply st o.dst {v:=r.ev st.tmps}) :=
 BO hs hf (by rcases ho with ho | ho<;>simp[execOp,ho]) (.refl w) (By hs hf.wd hr)
theorem op_pick {c x y:Operand} (ho:o.op=.pick c x y) {rc r1 r2:RX} (h0:rx cx.G c=some rc) (h1:rx cx.G x=some r1) (h2:rx cx.G y=some r2)
  (h:exec (o.dst.getD 0) (Ak st.objs) st.tmps (.pick rc r1 r2)=some out):BA cx w0 I0 F0 O0 Hd R e ds F lp suf o a w (apply st o.dst out):=by
 have hc:=By hs hf.wd h0;have hx:=By hs hf.wd h1;have hy:=By hs hf.wd h2;simp only[exec] at h;split at h
 ·rename_i hb;rw[hb] at hc;cases h;exact BO hs hf (by simp[execOp,ho,Fc hc,asBool]) (.refl w) hx
 ·rename_i hb;rw[hb] at hc;cases h;exact BO hs hf (by simp[execOp,ho,Fc hc,asBool]) (.refl w) hy
 ·cases h
theorem op_load {t:TypeId} {x:Operand} (ho:o.op=.load t x) {n:Nat} {ag:Bool} {r:RX} (hsh:GZ cx.P t=some (n,ag)) (h1:rx cx.G x=some r)
  (h:exec (o.dst.getD 0) (Ak st.objs) st.tmps (.load n ag r)=some out):BA cx w0 I0 F0 O0 Hd R e ds F lp suf o a w (apply st o.dst out):=by
 have hx:=By hs hf.wd h1;simp only[exec] at h;split at h
 ·rename_i nm off hr;rw[hr] at hx;obtain⟨b,C,hL,hv⟩:=FC hx;split at h
  case h_2=>cases h
  rename_i cs hlk;obtain⟨u,hu,rfl⟩:=bD.1 h;obtain⟨p,hp,ha⟩:=hs.ob nm _ hlk;rw[hL] at hp;cases hp;obtain⟨c,E',hb,hC,hone,hrep⟩:=ha;obtain⟨u',hu',hrv⟩:=NP hrep hone.1 hu;refine BO hs hf (v':=u') (w':=w) ?_ (.refl w) hrv
  have:=OT (P:=cx.P) hsh (off:=off) hb (v:=u') (by
   cases ag;·simpa using hu'
   ·simp only[if_true] at hu' |-;refine⟨by simpa using hu'.1,?_⟩;rw[hu'.2,M0,dK])
  simp[execOp,ho,hv,this]
 ·rename_i cs off hr;rw[hr] at hx;obtain⟨b,off0,c,E',fr,hv,hI,hb,hle,hlt,hone,hrep⟩:=Ma hx;obtain⟨u,hu,rfl⟩:=bD.1 h;obtain⟨u',hu',hrv⟩:=NP hrep hone hu;refine BO hs hf (v':=u') (w':=w) ?_ (.refl w) (hrv.lift _);have hlen:=hrep.length
  have:=OT (P:=cx.P) hsh (off:=off0+off) hb (v:=u') (by
   cases ag
   ·simp only[bA,if_false] at hu' |-;rw[dV hlt,ec] at hu';simpa using hu'
   ·simp only[if_true] at hu' |-;obtain⟨g1,g2⟩:=hu';rw[<-hlen] at g1;refine⟨by omega,?_⟩;rw[g2,M0,dK,dc,dG,cz,cq (by omega)])
  simp[execOp,ho,hv,this]
 ·rename_i nm k i off hr;rw[hr] at hx;obtain⟨b,C,hL,hv⟩:=PN hx;split at h
  case h_2=>cases h
  rename_i k' kt xs hlk;split at h
  case h_2=>cases h
  rename_i el hel;obtain⟨hk,h'⟩:=Bm h;clear h;have hk:k=k':=by simpa using hk
  subst hk;obtain⟨u,hu,rfl⟩:=bD.1 h';obtain⟨p,hp,ha⟩:=hs.ob nm _ hlk;rw[hL] at hp;cases hp;obtain⟨c,E',hb,hC,hle,hkx,hone,hrep⟩:=ha;have hlt:=(bL.1 hel).1;have hke:=hkx el (bQ hel);have hik:(i+1)*k<=xs.length*k:=cy _ hlt;rw[bZ,dw] at hik
  have hrep':Aq w I lp none el.cells ((c.toList.drop (i*k)).take k):=by
   have:=(hrep.drop (i*k)).take k
   rwa [So hkx hel,dc,cz,cq (by omega)] at this
  have hone':Bn ((c.toList.drop (i*k)).take k):=by
   have:=(hone.drop' (i*k)).take' k
   rwa [dc,cz,cq (by omega)] at this
  obtain⟨u',hu',hrv⟩:=NP hrep' hone' hu;refine BO hs hf (v':=u') (w':=w) ?_ (.refl w) (hrv.lift _);have hlen:=hrep'.length
  have:=OT (P:=cx.P) hsh (off:=i*k+off) hb (v:=u') (by
   cases ag
   ·simp only[bA,if_false] at hu' |-;have hlt2:=(bL.1 hu').1;rw[<-hlen,hke] at hlt2;rw[dV hlt2,ec] at hu';simpa using hu'
   ·simp only[if_true] at hu' |-;obtain⟨g1,g2⟩:=hu';rw[<-hlen,hke] at g1;refine⟨by omega,?_⟩;rw[g2,M0,dK,dc,dG,cz,cq (by omega)])
  simp[execOp,ho,hv,this]
 ·cases h
omit hs hf in
theorem Um {P:Program} {w:World} {t:TypeId} {n:Nat} {ag:Bool} (hsh:GZ P t=some (n,ag)) {b off:Nat} {c:Array Value} {E:TypeId}
  (hb:w.heap[b]?=some (.cells c E (0,0))) {v:Value} (hv:v.cells.size=n) (h1:Bn v.cells.toList) (hle:off+n<=c.size) :
  (Instr.storeAt t (.pointer (some ⟨b,off,none⟩)) v).run P w=.ok () (w.setRow b (c.toList.take off++v.cells.toList++c.toList.drop (off+n)).toArray):=by
 obtain⟨d,i,g1,g2,g3,g4⟩:=RD hsh;have hst:=run_storeCells_at P b off E v.cells.toList 0 c w hb (by simp[hv];omega) h1;simp only[Nat.add_zero,dl,hv] at hst;simp[Instr.storeAt,Instr.sureAddr,storeVar,HP g2,g3,hv,hst]
omit hs hf in
theorem IY (w:World) (b:Nat) (cs:Array Value) {b':Nat} (h:b'≠b):(w.setRow b cs).heap[b']?=w.heap[b']?:=setRow_other w b b' cs h
omit hs hf in
theorem Bn.splice {vs us:List Value} (h:Bn vs) (h':Bn us) (o n:Nat):Bn (vs.take o++us++vs.drop n) :=
 ((h.take' o).append' h').append' (h.drop' n)
omit hs hf in
theorem Aq.splice {w:World} {L:Option AB} {cs ys:List PV} {vs us:List Value} (h:Aq w I lp L cs vs) (h':Aq w I lp L ys us) (o:Nat) :
  Aq w I lp L (splice cs o ys) (vs.take o++us++vs.drop (o+us.length)):=by
 unfold Go.Ab.splice;rw[h'.length];exact ((h.take o).append h').append (h.drop _)
omit hs hf in
theorem RM (l u:List Value) (p N:Nat) (h:p+u.length<=N) (hN:N<=l.length) :
  (l.take p++u++l.drop (p+u.length)).take N=(l.take N).take p++u++(l.take N).drop (p+u.length):=by
 rw[eF,eF,cz,cz,dc];simp only[cR,cm];rw[b8 (l:=u) (by omega),Nat.min_comm N p,show N - (min p l.length+u.length)=N - (p+u.length) from by omega]
theorem op_store {t:TypeId} {x y:Operand} (ho:o.op=.store t x y) {n:Nat} {ag:Bool} {r s:RX} (hsh:GZ cx.P t=some (n,ag)) (h1:rx cx.G x=some r) (h2:rx cx.G y=some s)
  (h:exec (o.dst.getD 0) (Ak st.objs) st.tmps (.store n r s)=some out):BA cx w0 I0 F0 O0 Hd R e ds F lp suf o a w (apply st o.dst out):=by
 have hx:=By hs hf.wd h1;have hy:=By hs hf.wd h2;simp only[exec] at h;split at h
 ·rename_i nm off hr;rw[hr] at hx;obtain⟨b,C,hL,hv⟩:=FC hx;split at h
  case h_2=>cases h
  rename_i cs hlk;obtain⟨hk,h⟩:=Bm h;cases h;simp only[bB,decide_eq_true_eq] at hk;obtain⟨⟨k1,k2⟩,k3⟩:=hk;obtain⟨hone2,hrep2⟩:=hy.cells k1;have hsz:(a.eval y).cells.size=n:=by have:=hrep2.length;simp at this;omega
  obtain⟨p,hp,ha⟩:=hs.ob nm _ hlk;rw[hL] at hp;cases hp;obtain⟨c,E',hb,hC,hone,hrep⟩:=ha;have hlen:=hrep.length;simp only[dl] at hlen;have hst:=Um (P:=cx.P) hsh hb hsz hone2 (off:=off) (by omega);refine NK hs hf hL (w':=w.setRow b (c.toList.take off++(a.eval y).cells.toList++c.toList.drop (off+n)).toArray) (v':=undef) (.inr ⟨?_,rfl⟩) rfl rfl rfl (by simp) (fun b' hb'=>IY w b _ hb') ?_ (.undef _);·simp[execOp,ho,hv,hst]
  ·refine⟨_,E',setRow_heap w b c _ E' _ hb,?_,?_,?_⟩;·simp[hsz];omega
   ·exact⟨by simpa using hone.1.splice hone2 off (off+n),hone.2⟩
   ·have hb2:∀ b',I b'->(w.setRow b (c.toList.take off++(a.eval y).cells.toList++c.toList.drop (off+n)).toArray).heap[b']?=w.heap[b']?:=fun b' hb'=>IY w b _ fun e=>(hf.lB nm b C hL).2.2.1 (e ▸ hb');have:=Aq.mono (w':=w.setRow b (c.toList.take off++(a.eval y).cells.toList++c.toList.drop (off+n)).toArray) (fun _ h=>h) hb2 (fun _ _ h=>h) (hrep.splice hrep2 off);simpa[hsz] using this
 ·rename_i nm k i off hr;rw[hr] at hx;obtain⟨b,C,hL,hv⟩:=PN hx;split at h
  case h_2=>cases h
  rename_i k' kt xs hlk;obtain⟨p,hp,ha⟩:=hs.ob nm _ hlk;rw[hL] at hp;cases hp;obtain⟨c,E',hb,hC,hle,hkx,hone,hrep⟩:=ha
  have key:∀ (el el':PV) (ys:List PV),k=k'->xs[i]?=some el->(s.ev st.tmps).isVal=true->(s.ev st.tmps).cells.length=n->(s.ev st.tmps).names=[]->off+n<=k ->
    el'.cells=splice el.cells off (s.ev st.tmps).cells->ys=xs.set i el' ->
    BA cx w0 I0 F0 O0 Hd R e ds F lp suf o a w (apply st o.dst {v:=.undef,upd:=some (nm,.arr k kt ys)}):=by
   intro el el' ys hkk hel k1 k2 k4 k3 hcel hys;subst hkk;subst hys;obtain⟨hone2,hrep2⟩:=hy.cells k1
   have hn4:AQ (s.ev st.tmps).cells=[]:=by
    generalize s.ev st.tmps=z at k4;cases z<;>simp_all [PV.cells,AQ,PV.names]
   have hsz:(a.eval y).cells.size=n:=by have:=hrep2.length;simp at this;omega
   have hlt:=(bL.1 hel).1;have hke:=hkx el (bQ hel);have hik:(i+1)*k<=xs.length*k:=cy _ hlt;rw[bZ,dw] at hik;have hst:=Um (P:=cx.P) hsh hb hsz hone2 (off:=i*k+off) (by omega);have hvl:(a.eval y).cells.toList.length=n:=by simpa using hsz
   refine NK hs hf hL (w':=w.setRow b (c.toList.take (i*k+off)++(a.eval y).cells.toList++c.toList.drop (i*k+off+n)).toArray) (v':=undef) (.inr ⟨?_,rfl⟩) rfl rfl rfl (by simp) (fun b' hb'=>IY w b _ hb') ?_ (.undef _);·simp[execOp,ho,hv,hst]
   ·have hb2:∀ b',I b'->(w.setRow b (c.toList.take (i*k+off)++(a.eval y).cells.toList++c.toList.drop (i*k+off+n)).toArray).heap[b']?=w.heap[b']?:=fun b' hb'=>IY w b _ fun e=>(hf.lB nm b C hL).2.2.1 (e ▸ hb');have hspl:=(hrep.splice (hrep2.shut hn4) (i*k+off));have hlc:(cellsL xs).length=xs.length*k:=Kg hkx;have hel':el'.cells.length=k:=by rw[hcel];unfold Go.Ab.splice;simp;omega
    have hcells:splice (cellsL xs) (i*k+off) (s.ev st.tmps).cells=cellsL (xs.set i el'):=by
     have hd:xs.drop i=el :: xs.drop (i+1):=by
      have:=cZ hlt
      rwa [(bL.1 hel).2] at this
     have h1:xs=xs.take i++el :: xs.drop (i+1):=by rw[<-hd,List.take_append_drop]
     have h2:xs.set i el'=xs.take i++el' :: xs.drop (i+1):=by rw[List.set_eq_take_append_cons_drop,if_pos hlt]
     have h3:(cellsL (xs.take i)).length=i*k:=by rw[Kg (fun x hx=>hkx x (cw hx))];simp;rw[cq (by omega)]
     rw[h2,Kh,cellsL,hcel]
     conv=>lhs;rw[h1]
     rw[Kh,cellsL];unfold Go.Ab.splice;rw[show i*k+off=(cellsL (xs.take i)).length+off from by rw[h3],List.take_length_add_append,ed (by omega)];rw[show (cellsL (xs.take i)).length+off+(s.ev st.tmps).cells.length=(cellsL (xs.take i)).length+(off+(s.ev st.tmps).cells.length) from by omega,List.drop_length_add_append,List.drop_append_of_le_length (by omega)];simp[cC]
    refine⟨_,E',setRow_heap w b c _ E' _ hb,?_,by simpa using hle,?_,?_,?_⟩;·simp[hsz];omega
    ·intro x hx;rcases dW hx with hx | rfl;·exact hkx x hx
     ·exact hel'
    ·simp only[dX];have e1:=RM c.toList (a.eval y).cells.toList (i*k+off) (xs.length*k) (by omega) (by simp;omega);rw[hvl] at e1;rw[e1];exact hone.splice hone2 _ _
    ·simp only[dX];have e1:=RM c.toList (a.eval y).cells.toList (i*k+off) (xs.length*k) (by omega) (by simp;omega);rw[hvl] at e1;rw[e1,<-hcells];rw[hvl] at hspl;exact Aq.mono (fun _ h=>h) hb2 (fun _ _ h=>h) hspl
  split at h
  ·rename_i es hel;obtain⟨hk,h'⟩:=Bm h;cases h';simp only[bB,decide_eq_true_eq,beq_iff_eq,cD] at hk;obtain⟨⟨⟨⟨g1,g2⟩,g3⟩,g4⟩,g5⟩:=hk;have hke:=hkx _ (bQ hel);refine key (.agg es) (.agg (splice es off (s.ev st.tmps).cells)) _ g1 hel g2 g3 ?_ ?_ rfl rfl
   ·generalize s.ev st.tmps=z at g5;cases z<;>simp_all [PV.cells,AQ,PV.names]
   ·simp only[PV.cells] at hke;omega
  ·rename_i el hel hna;obtain⟨hk,h'⟩:=Bm h;cases h';simp only[bB,decide_eq_true_eq,beq_iff_eq,cD] at hk;obtain⟨⟨⟨⟨⟨g1,g2⟩,g3⟩,g4⟩,g5⟩,g6⟩:=hk;subst g2;subst g3;subst g4
   have hcz:(s.ev st.tmps).cells=[s.ev st.tmps]:=by
    generalize s.ev st.tmps=z at g5;cases z<;>first | rfl | (simp[PV.isCell] at g5)
   have hiv:(s.ev st.tmps).isVal=true:=by
    generalize s.ev st.tmps=z at g5;cases z<;>first | rfl | (simp[PV.isCell] at g5)
   have hke:=hkx el (bQ hna);refine key el (s.ev st.tmps) _ g1 hna hiv (by rw[hcz];rfl) g6 (by omega) ?_ rfl;rw[hcz];unfold Go.Ab.splice;rw[<-g1] at hke;simp[eu (l:=el.cells) (i:=1) (by omega)]
  ·cases h
 ·cases h
end ops
end Go.Ab


namespace Go.Ab
section ops
variable {E:Type} {cx:Cx} {w0:World} {I0 F0:Nat->Prop} {O0:BZ} {Hd:Nat->Option Obj} {R:BR E} {e:E} {ds:List Deferred} {F:Nat->Prop} {lp:Nat->Option Nat} {suf:List Value}
variable {I:Nat->Prop} {L:AB} {st:St} {a:Act} {w:World} {o:Oper} {out:AK} {rop:Ax}
theorem O4 {P:Program} {t:TypeId} {z:PV} (h:Ga P t=some z) {w:World} {I:Nat->Prop} {lp:Nat->Option Nat} {L:Option AB} :
  ∃ i zv,P.info? t=some i/\i.zero=some zv/\Au w I lp L z zv:=by
 unfold Ga at h;simp only[cB] at h;obtain⟨zv,⟨i,hi,hz⟩,hp⟩:=h;exact⟨i,zv,hi,hz,RR 3 zv z hp⟩
theorem Y5:∀ (n:Nat) (v:Value) (x:PV),Hq n v=some x->x.isVal=true:=by
 intro n v x h;unfold Hq at h
 split at h<;>first
  |(cases h;done)
  |(cases h;rfl)
  |(split at h<;>first | (cases h;done) | (obtain⟨xs,_,rfl⟩:=bD.1 h;rfl))
theorem U1 {P:Program} {t:TypeId} {z:PV} (h:Ga P t=some z):z.isVal=true:=by
 unfold Ga at h;simp only[cB] at h;obtain⟨zv,_,hp⟩:=h;exact Y5 3 zv z hp
theorem ae {f:Value->Option PV} (ih:∀ v x,f v=some x->x.names=[]):∀ (l:List Value) (xs:List PV),l.mapM f=some xs->AQ xs=[]:=by
 intro l;induction l with
 | nil=>intro xs hx;simp at hx;subst hx;rfl
 | cons v l ihl =>
  intro xs hx;rw[cQ] at hx;simp only[dU,cB,d9,bG] at hx;obtain⟨y,hy,ys,hys,rfl⟩:=hx;simp[AQ,ih v y hy,ihl ys hys]
theorem Yk:∀ (n:Nat) (v:Value) (x:PV),Hq n v=some x->x.names=[]:=by
 intro n;induction n with
 | zero=>intro v x h;unfold Hq at h;split at h<;>first | contradiction | (cases h;done) | (cases h;rfl)
 | succ n ih =>
  intro v x h;unfold Hq at h;split at h<;>first | (cases h;done) | (cases h;rfl) | skip
  rename_i m cs e;cases e;split at h
  case isFalse=>cases h
  obtain⟨xs,hx,rfl⟩:=bD.1 h;simp only[PV.names];exact ae ih _ _ hx
theorem IX (w:World) (ob:Obj):(w.alloc ob).heap[w.heap.size]?=some ob:=heap_alloc_new w ob
theorem Vy (hs:SR lp I L st a.tmps.toList suf w) (hf:Fr cx w0 I0 F0 O0 Hd R e ds I F L w) {d:Nat} (hd:o.dst=some d) (hc:st.objs[d]?=some [])
  {x:PV} {v:Value} (hv:Au w I lp (some L) x v) (hval:x.isVal=true) {t:TypeId} {ty:Nat} (hty:ty=0\/t=ty)
  (hr:(execOp a.eval o).run cx.P w=.ok (.value (.pointer (some ⟨w.heap.size,0,none⟩))) (w.alloc (.cells v.cells t))) :
  BA cx w0 I0 F0 O0 Hd R e ds F lp suf o a w (apply st o.dst {v:=.ref (d,0) 0,new:=[.cells ty x.cells]}):=by
 obtain⟨h1,h2⟩:=hv.cells hval;refine PR hs hf hd hc (.refl w) (C:=v.cells.size) hr ?_ ?_
 ·intro L' hL;refine⟨v.cells,t,IX w _,rfl,⟨h1,hty⟩,?_⟩;exact (Aq.mono (fun _ h=>h) (fun b hb=>Eg w _ (hf.sep.iB b hb)) (fun _ _ h=>h) h2).reloc hL
 ·intro L' hL;exact .ref (d,0) 0 _ _ hL
theorem op_box (hs:SR lp I L st a.tmps.toList suf w) (hf:Fr cx w0 I0 F0 O0 Hd R e ds I F L w) {t:TypeId} {x:Operand} (ho:o.op=.box t x) {r:RX} (h1:rx cx.G x=some r)
  {d:Nat} (hd:o.dst=some d) (hc:st.objs[d]?=some [])
  (h:exec (o.dst.getD 0) (Ak st.objs) st.tmps (.box r)=some out):BA cx w0 I0 F0 O0 Hd R e ds F lp suf o a w (apply st o.dst out):=by
 simp only[exec] at h;obtain⟨hk,h⟩:=Bm h;cases h;have:=Vy hs hf hd hc (By hs hf.wd h1) hk (t:=t) (ty:=0) (.inl rfl) (by simp[execOp,ho,Instr.box,newVar,newRow]);simpa[hd] using this
theorem op_alloc (hs:SR lp I L st a.tmps.toList suf w) (hf:Fr cx w0 I0 F0 O0 Hd R e ds I F L w) {t:TypeId} (ho:o.op=.alloc t) {z:PV} (hz:Ga cx.P t=some z)
  {d:Nat} (hd:o.dst=some d) (hc:st.objs[d]?=some []) :
  BA cx w0 I0 F0 O0 Hd R e ds F lp suf o a w (apply st o.dst {v:=.ref (d,0) 0,new:=[.cells t z.cells]}):=by
 obtain⟨i,zv,hi,hz1,hrep⟩:=O4 hz (w:=w) (I:=I) (lp:=lp) (L:=some L);exact Vy hs hf hd hc hrep (U1 hz) (t:=t) (ty:=t) (.inr rfl) (by simp[execOp,ho,Instr.alloc,zeroValue,typeInfo,hi,hz1,newVar,newRow])
theorem op_nilck (hs:SR lp I L st a.tmps.toList suf w) (hf:Fr cx w0 I0 F0 O0 Hd R e ds I F L w) {x:Operand} (ho:o.op=.nilCheck x) {r:RX} (h1:rx cx.G x=some r)
  (h:exec (o.dst.getD 0) (Ak st.objs) st.tmps (.nilck r)=some out):BA cx w0 I0 F0 O0 Hd R e ds F lp suf o a w (apply st o.dst out):=by
 have hx:=By hs hf.wd h1;simp only[exec] at h;split at h
 ·rename_i nm off hr;rw[hr] at hx;cases h;obtain⟨b,C,hL,hv⟩:=FC hx;exact BO hs hf (v':=a.eval x) (by simp[execOp,ho,hv]) (.refl w) hx
 ·rename_i cs off hr;rw[hr] at hx;cases h;obtain⟨b,off0,c,E',fr,hv,_⟩:=Ma hx;exact BO hs hf (v':=a.eval x) (by simp[execOp,ho,hv]) (.refl w) hx
 ·rename_i nm k i off hr;rw[hr] at hx;cases h;obtain⟨b,C,hL,hv⟩:=PN hx;exact BO hs hf (v':=a.eval x) (by simp[execOp,ho,hv]) (.refl w) hx
 ·rename_i f cap hr;rw[hr] at hx;cases h;obtain⟨us,vs,hv,_,_⟩:=KX hx;exact BO hs hf (v':=a.eval x) (by simp[execOp,ho,hv]) (.refl w) hx
 ·rename_i d hr;rw[hr] at hx;cases h;obtain⟨l,hv,_⟩:=XQ hx;exact BO hs hf (v':=a.eval x) (by simp[execOp,ho,hv]) (.refl w) hx
 ·cases h
theorem op_mkI (hs:SR lp I L st a.tmps.toList suf w) (hf:Fr cx w0 I0 F0 O0 Hd R e ds I F L w) {t:TypeId} {x:Operand} (ho:o.op=.makeInterface t x) {r:RX} (h1:rx cx.G x=some r)
  {d:TypeDesc} (hu:cx.P.underlying t=some d) (hn:∀ ms,d≠.interface ms):BA cx w0 I0 F0 O0 Hd R e ds F lp suf o a w (apply st o.dst {v:=.iface t (r.ev st.tmps)}):=by
 refine BO hs hf (v':=.iface t (a.eval x)) ?_ (.refl w) (.iface t _ _ (By hs hf.wd h1))
 have:(Instr.makeInterface t (a.eval x)).run cx.P w=.ok (.iface t (a.eval x)) w:=by
  simp only[Instr.makeInterface,Sem.run_bind,run_underlying hu,Result.andThen_ok];cases d<;>first | rfl | exact absurd rfl (hn _)
 simp[execOp,ho,this]
theorem op_mkF (hs:SR lp I L st a.tmps.toList suf w) (hf:Fr cx w0 I0 F0 O0 Hd R e ds I F L w) {f k:FuncId} {first cap:Array Operand} (ho:o.op=.makeFunc (.func f) first cap)
  (hk:E9 k=first.size) (hi:AW k=f) {rs:List RX} (h1:D2 cx.G (first.toList++cap.toList)=some rs):BA cx w0 I0 F0 O0 Hd R e ds F lp suf o a w (apply st o.dst {v:=.fn k (rs.map (RX.ev st.tmps))}):=by
 have hr:Au w I lp (some L) (.fn k (rs.map (RX.ev st.tmps))) (.func (.func f) (first.map a.eval) (cap.map a.eval)):=by
  have:=Au.fn (w:=w) (I:=I) (lp:=lp) (L:=some L) k (rs.map (RX.ev st.tmps)) (first.map a.eval) (cap.map a.eval) (by simpa using hk.symm) (by simpa using P7 hs hf.wd h1)
  rwa [hi] at this
 refine BO hs hf (v':=.func (.func f) (first.map a.eval) (cap.map a.eval)) ?_ (.refl w) hr;simp[execOp,ho,Instr.makeFunc]
theorem Z8 (hs:SR lp I L st a.tmps.toList suf w) (hf:Fr cx w0 I0 F0 O0 Hd R e ds I F L w) {x:Operand} {j:Nat} (ho:o.op=.extract x j) {r:RX} (h1:rx cx.G x=some r)
  (h:exec (o.dst.getD 0) (Ak st.objs) st.tmps (.extract j r)=some out):BA cx w0 I0 F0 O0 Hd R e ds F lp suf o a w (apply st o.dst out):=by
 have hx:=By hs hf.wd h1;simp only[exec] at h;split at h
 case h_2=>cases h
 rename_i xs hr;rw[hr] at hx;obtain⟨vs,hv,hrep⟩:=XR hx;split at h
 case h_2=>cases h
 rename_i y hy;cases h;obtain⟨u,hu,hru⟩:=hrep.get hy;simp only[dM] at hu;exact BO hs hf (v':=u) (by simp[execOp,ho,hv,Instr.extract,hu]) (.refl w) hru
theorem op_un (hs:SR lp I L st a.tmps.toList suf w) (hf:Fr cx w0 I0 F0 O0 Hd R e ds I F L w) {op:UnOp} {t:TypeId} {x:Operand} (ho:o.op=.unOp op t x) {r:RX} (h1:rx cx.G x=some r)
  (h:exec (o.dst.getD 0) (Ak st.objs) st.tmps (.un op r)=some out):BA cx w0 I0 F0 O0 Hd R e ds F lp suf o a w (apply st o.dst out):=by
 have hx:=By hs hf.wd h1;simp only[exec] at h;split at h
 ·rename_i b hb;rw[hb] at hx;cases h;exact BO hs hf (by simp[execOp,ho,Fc hx,Op.unary]) (.refl w) (.bool _)
 ·rename_i k n hn;rw[hn] at hx;cases h;exact BO hs hf (by simp[execOp,ho,DO hx,Op.unary,Op.intArith]) (.refl w) (.int _ _)
 ·cases h
theorem RP {P:Program} {src dst:TypeId} {d1 d2:TypeDesc} (h1:P.underlying src=some d1) (h2:P.underlying dst=some d2) (x:Value) (w:World) :
  (convert src dst x).run P w=(match d1,d2,x with
   | _,.int k,.int _ n=>Conv.intToInt k n
   | _,.string,.int _ n=>Conv.intToString n
   | _,.string,.string _=>pure x
   | _,_,_=>convert src dst x).run P w:=by
 split<;>simp[convert,run_underlying h1,run_underlying h2]
theorem op_conv (hs:SR lp I L st a.tmps.toList suf w) (hf:Fr cx w0 I0 F0 O0 Hd R e ds I F L w) {src dst:TypeId} {x:Operand} (ho:o.op=.convert src dst x) {r:RX} (h1:rx cx.G x=some r)
  {d1:TypeDesc} {k:IntKind} (hu1:cx.P.underlying src=some d1) (hu2:cx.P.underlying dst=some (.int k))
  (h:exec (o.dst.getD 0) (Ak st.objs) st.tmps (.conv k r)=some out):BA cx w0 I0 F0 O0 Hd R e ds F lp suf o a w (apply st o.dst out):=by
 have hx:=By hs hf.wd h1;simp only[exec] at h;split at h
 ·rename_i k' n hn;rw[hn] at hx;cases h;refine BO hs hf ?_ (.refl w) (.int _ _);simp[execOp,ho,DO hx,RP hu1 hu2,Conv.intToInt]
 ·cases h
theorem op_ofRune (hs:SR lp I L st a.tmps.toList suf w) (hf:Fr cx w0 I0 F0 O0 Hd R e ds I F L w) {src dst:TypeId} {x:Operand} (ho:o.op=.convert src dst x) {r:RX} (h1:rx cx.G x=some r)
  {d1:TypeDesc} (hu1:cx.P.underlying src=some d1) (hu2:cx.P.underlying dst=some .string)
  (h:exec (o.dst.getD 0) (Ak st.objs) st.tmps (.ofRune r)=some out):BA cx w0 I0 F0 O0 Hd R e ds F lp suf o a w (apply st o.dst out):=by
 have hx:=By hs hf.wd h1;simp only[exec] at h;split at h
 ·rename_i k' n hn;rw[hn] at hx;cases h;refine BO hs hf (v':=.string (Utf8.encode n)) ?_ (.refl w) ?_;·simp[execOp,ho,DO hx,RP hu1 hu2,Conv.intToString]
  ·have:=Au.str (w:=w) (I:=I) (lp:=lp) (L:=some L) (Utf8.encode n).data.toList;simpa using this
 ·cases h
theorem op_strId (hs:SR lp I L st a.tmps.toList suf w) (hf:Fr cx w0 I0 F0 O0 Hd R e ds I F L w) {src dst:TypeId} {x:Operand} (ho:o.op=.convert src dst x) {r:RX} (h1:rx cx.G x=some r)
  {d1:TypeDesc} (hu1:cx.P.underlying src=some d1) (hu2:cx.P.underlying dst=some .string)
  (h:exec (o.dst.getD 0) (Ak st.objs) st.tmps (.strId r)=some out):BA cx w0 I0 F0 O0 Hd R e ds F lp suf o a w (apply st o.dst out):=by
 have hx:=By hs hf.wd h1;simp only[exec] at h;split at h
 ·rename_i s hst;rw[hst] at hx;cases h;refine BO hs hf (v':=a.eval x) ?_ (.refl w) hx;simp[execOp,ho,EQ hx,RP hu1 hu2]
 ·cases h
end ops
end Go.Ab


namespace Go.Ab
theorem OW (f:Nm->Option (Option Ob)) (xs:List PV):(AX f xs).length=xs.length:=by
 induction xs with
 | nil=>rfl
 | cons x xs ih=>simp[AX,ih]
theorem subL_getElem? (f:Nm->Option (Option Ob)) (xs:List PV) (i:Nat):(AX f xs)[i]?=(xs[i]?).map (PV.sub f):=by
 induction xs generalizing i with
 | nil=>simp[AX]
 | cons x xs ih=>cases i with
  | zero=>simp[AX]
  | succ i=>simp[AX,ih]
theorem Pn (R:List Nm):∀ (σ:List (List Ob)) (nm:Nm),Ak (R.foldl (fun objs nm=>Bi objs nm Bz) σ) nm=if nm∈R then (Ak σ nm).map fun _=>Bz else Ak σ nm:=by
 induction R with
 | nil=>intro σ nm;simp
 | cons r R ih =>
  intro σ nm;simp only[dA,ih,bH];by_cases h:nm=r
  ·subst h;cases hl:Ak σ nm with
   | none=>simp[(IZ Bz).2 hl]
   | some ob=>rw[Kf Bz hl];simp
  ·simp[h,Hk Bz h]
def DM (I:Nat->Prop) (L:AB) (R:List Nm):Nat->Prop:=fun b=>I b\/∃ nm∈R,∃ C,L nm=some (some (b,C))
def G1 (L:AB) (R:List Nm):AB:=fun nm=>if nm∈R then (L nm).map fun _=>none else L nm
section
variable {lp:Nat->Option Nat} {I:Nat->Prop} {L:AB} {st:St} {tmv suf:List Value} {w:World} {R:List Nm}
theorem SR.some_of_loc (h:SR lp I L st tmv suf w) {nm:Nm} {p:Option (Nat×Nat)} (hp:L nm=some p):∃ ob,Ak st.objs nm=some ob/\BD w I lp L ob p:=by
 cases hl:Ak st.objs nm with
 | none=>have:=h.dom nm hl;rw[hp] at this;cases this
 | some ob =>
  obtain⟨q,hq,ha⟩:=h.ob nm ob hl;rw[hp] at hq;cases hq;exact⟨ob,rfl,ha⟩
theorem UH (hR:C8 (Ak st.objs) R=true) {nm:Nm} (hn:nm∈R) {ob:Ob} (hl:Ak st.objs nm=some ob):∀ m∈ob.names,m∈R:=by
 intro m hm;have:=bP.1 hR nm hn;rw[hl] at this;simpa using bP.1 this m hm
theorem close_ok (h:SR lp I L st tmv suf w) (hR:C8 (Ak st.objs) R=true):∀ (d:Nat) (nm:Nm) (ob:Ob) (b C:Nat),nm∈R->Ak st.objs nm=some ob->L nm=some (some (b,C)) ->
  Uj w (DM I L R) lp b (H1 (Ak st.objs) d ob):=by
 have hI:∀ b,I b->DM I L R b:=fun b hb=>.inl hb
 have easy:∀ (f:Nm->Option (Option Ob)),Ee w (DM I L R) lp L none (·∈R) f->∀ (nm:Nm) (ob:Ob) (b C:Nat),nm∈R->Ak st.objs nm=some ob->L nm=some (some (b,C)) ->
   Uj w (DM I L R) lp b (ob.sub f):=by
  intro f hf nm ob b C hn hl hL;obtain⟨p,hp,ha⟩:=h.ob nm ob hl;rw[hL] at hp;cases hp;have hb:DM I L R b:=.inr ⟨nm,hn,C,hL⟩;cases ob with
  | cells ty cs =>
   obtain⟨c,E,h1,h2,h3,h4⟩:=ha;have hlen:=h4.length;simp only[dl] at hlen;refine⟨hb,c,E,(0,0),h1,by rw[OW];omega,h3.1.take' _,?_⟩;have:=Aq.subst hI hf h4 (UH hR hn hl)
   rwa [OW,hlen,b8 (by simp)]
  | arr k kt xs =>
   obtain⟨c,E,h1,h2,h3,h4,h5,h6⟩:=ha;exact⟨hb,c,E,(0,0),h1,by omega,h4,h5,Aq.mono hI (fun _ _=>rfl) (fun _ _ h=>h) h6⟩
  | map es=>obtain⟨ents,clock,h1,h2⟩:=ha;exact⟨hb,ents,clock,h1,Aq.mono hI (fun _ _=>rfl) (fun _ _ h=>h) h2⟩
  | siter s p=>trivial
 intro d;induction d with
 | zero=>exact easy _ fun nm p _ _=>trivial
 | succ d ih =>
  refine easy _ fun m p hm hp=>?_;obtain⟨ob,hl,ha⟩:=h.some_of_loc hp;simp only[hl,bU];cases p with
  | none=>obtain⟨k,kt,rfl⟩:=ha;exact⟨k,kt,by cases d<;>rfl⟩
  | some p=>exact ih m ob p.1 p.2 hm hl hp
theorem PC (h:SR lp I L st tmv suf w) (hR:C8 (Ak st.objs) R=true) (L':Option AB):Ee w (DM I L R) lp L L' (·∈R) (BJ (Ak st.objs)):=by
 intro m p hm hp;obtain⟨ob,hl,ha⟩:=h.some_of_loc hp;simp only[BJ,hl,bU];cases p with
 | none=>obtain⟨k,kt,rfl⟩:=ha;exact⟨k,kt,rfl⟩
 | some p=>exact close_ok h hR _ m ob p.1 p.2 hm hl hp
theorem ZR (h:SR lp I L st tmv suf w) (hR:C8 (Ak st.objs) R=true) {x:PV} {v:Value} (hx:Au w I lp (some L) x v) (hn:∀ nm∈x.names,nm∈R) :
  Au w (DM I L R) lp none (x.sub (BJ (Ak st.objs))) v :=
 Au.subst (fun _ hb=>.inl hb) (PC h hR none) hx hn
theorem OX (h:SR lp I L st tmv suf w) (hR:C8 (Ak st.objs) R=true) {xs:List PV} {vs:List Value} (hx:Aq w I lp (some L) xs vs) (hn:∀ nm∈AQ xs,nm∈R) :
  Aq w (DM I L R) lp none (AX (BJ (Ak st.objs)) xs) vs :=
 Aq.subst (fun _ hb=>.inl hb) (PC h hR none) hx hn
theorem SR.freeze (h:SR lp I L st tmv suf w) (hR:C8 (Ak st.objs) R=true):SR lp (DM I L R) (G1 L R) (CD (Ak st.objs) R st) tmv suf w:=by
 have hs:Ee w (DM I L R) lp L (some (G1 L R)) (fun _=>True) (fun m=>if R.contains m then BJ (Ak st.objs) m else none):=by
  intro m p _ hp;by_cases hm:m∈R
  ·have:=PC h hR (some (G1 L R)) m p hm hp;simpa[hm] using this
  ·simp[hm,G1,hp]
 unfold CD;refine h.subst (fun _ hb=>.inl hb) (fun _ _=>rfl) hs ?_ ?_
 ·intro nm ob hl;simp only[DF,Pn,Fb] at hl;split at hl
  ·rename_i hm;simp only[eg,bD] at hl;obtain⟨ob0,hl,rfl⟩:=hl;obtain⟨p,hp,ha⟩:=h.ob nm ob0 hl;exact⟨none,by simp[G1,hm,hp],0,0,rfl⟩
  ·rename_i hm;simp only[bD] at hl;obtain⟨ob0,hl,rfl⟩:=hl;obtain⟨p,hp,ha⟩:=h.ob nm ob0 hl;exact⟨p,by simp[G1,hm,hp],ha.subst (fun _ hb=>.inl hb) (fun _ _=>rfl) hs (fun _ _=>trivial) fun _ _ _=>rfl⟩
 ·intro nm hl;simp only[DF,Pn,Fb] at hl
  have:Ak st.objs nm=none:=by
   split at hl<;>simpa using hl
  simp[G1,h.dom nm this]
theorem Fr.freeze {E:Type} {cx:Cx} {w0:World} {I0 F0:Nat->Prop} {O0:BZ} {Hd:Nat->Option Obj} {RE:BR E} {e:E} {ds:List Deferred} {F:Nat->Prop} (h:Fr cx w0 I0 F0 O0 Hd RE e ds I F L w) (R:List Nm) :
  Fr cx w0 I0 F0 O0 Hd RE e ds (DM I L R) F (G1 L R) w:=by
 have cut:∀ nm b C,G1 L R nm=some (some (b,C))->nm ∉ R/\L nm=some (some (b,C)):=by
  intro nm b C hn;unfold G1 at hn;split at hn;·simp at hn
  ·rename_i hm;exact⟨hm,hn⟩
 refine h.own rfl rfl rfl (bF _) (fun _ _ _=>rfl) (fun _ hb=>.inl hb) ?_ ?_ ?_
 ·rintro b (hb | ⟨nm,_,C,hL⟩);·exact .inl hb
  ·exact .inr ⟨(h.lB nm b C hL).2.1,.inr ⟨nm,C,hL⟩⟩
 ·intro nm b C hn;obtain⟨h1,h2⟩:=cut nm b C hn;refine⟨(h.lB nm b C h2).2.1,?_,.inr ⟨nm,C,h2⟩⟩;rintro (hb | ⟨nm',hm',C',hL'⟩);·exact (h.lB nm b C h2).2.2.1 hb
  ·exact h1 (h.inj nm nm' b C C' h2 hL' ▸ hm')
 ·intro nm nm' b C C' hn hn';exact h.inj nm nm' b C C' (cut nm b C hn).2 (cut nm' b C' hn').2
theorem EM {σ:Nm->Option Ob}:∀ (d:Nat) (l:List Nm) (nm:Nm),nm∈l->nm∈A8 σ d l:=by
 intro d;cases d with
 | zero=>intro l nm h;exact h
 | succ d=>intro l nm h;exact bR _ h
end
end Go.Ab


namespace Go.Ab
theorem fold_set (off:Nat):∀ (vs:List Value) (k:Nat) (cs:Array Value),off+k+vs.length<=cs.size ->
  ((vs.zipIdx k).foldl (fun (cs:Array Value) (x:Value×Nat)=>cs.setIfInBounds (off+x.2) x.1) cs).toList=cs.toList.take (off+k)++vs++cs.toList.drop (off+k+vs.length):=by
 intro vs;induction vs with
 | nil=>intro k cs _;simp
 | cons v vs ih =>
  intro k cs h;simp only[cA] at h;simp only[eG,dA];rw[ih (k+1) _ (by simp;omega)];have:=list_seg_step cs.toList (off+k) v vs (by simp;omega);simpa[dY] using this
theorem fold_set' (off:Nat) (vs:Array Value) (cs:Array Value) (h:off+vs.size<=cs.size) :
  (vs.zipIdx.foldl (fun (cs:Array Value) (x:Value×Nat)=>cs.setIfInBounds (off+x.2) x.1) cs).toList=cs.toList.take off++vs.toList++cs.toList.drop (off+vs.size):=by
 have:=fold_set off vs.toList 0 cs (by simpa using h);rw[<-Array.foldl_toList];simpa using this
section fill
variable {w:World} {I:Nat->Prop} {lp:Nat->Option Nat} {L:Option AB}
theorem Wo {place:Nat->Option (Nat×Nat)} {cells:Array Value} {i off n:Nat} {v:Value} {rest:List (Nat×Value)} (hp:place i=some (off,n)) (h1:v.cells.size=n) (h2:off+n<=cells.size) :
  ∃ cells',cells'.toList=cells.toList.take off++v.cells.toList++cells.toList.drop (off+n)/\Instr.fill place cells ((i,v) :: rest)=Instr.fill place cells' rest:=by
 refine⟨_,?_,by simp only[Instr.fill,hp];rw[if_neg (by simp;omega)]⟩;have:=fold_set' off v.cells cells (by omega);rw[h1] at this;exact this
end fill
section ops
variable {E:Type} {cx:Cx} {w0:World} {I0 F0:Nat->Prop} {O0:BZ} {Hd:Nat->Option Obj} {R:BR E} {e:E} {ds:List Deferred} {F:Nat->Prop} {lp:Nat->Option Nat} {suf:List Value}
variable {I:Nat->Prop} {L:AB} {st:St} {a:Act} {w:World} {o:Oper} {out:AK} {rop:Ax}
theorem aB (hs:SR lp I L st a.tmps.toList suf w) (hw:cx.Wd I w) (place:Nat->Option (Nat×Nat)):∀ (ps:List (Nat×Operand)) (rs:List (Nat×Nat×RX)) (z cs:List PV) (zv:Array Value),
  LL cx.G place ps=some rs->Aq w I lp (some L) z zv.toList->Bn zv.toList->DS st.tmps z rs=some cs ->
  ∃ cells,Instr.fill place zv (ps.map fun x=>(x.1,a.eval x.2))=some cells/\Aq w I lp (some L) cs cells.toList/\Bn cells.toList:=by
 intro ps;induction ps with
 | nil =>
  intro rs z cs zv hc hz ho hf;simp only[LL,bG] at hc;subst hc;simp only[DS,bG] at hf;subst hf;exact⟨zv,rfl,hz,ho⟩
 | cons p ps ih =>
  obtain⟨i,x⟩:=p;intro rs z cs zv hc hz ho hf;simp only[LL] at hc;split at hc
  case h_2=>cases hc
  rename_i off n y ys hp hy hys;cases hc;simp only[DS] at hf;obtain⟨hk,hf⟩:=Bm hf;simp only[bB,decide_eq_true_eq] at hk;obtain⟨⟨k1,k2⟩,k3⟩:=hk;obtain⟨g1,g2⟩:=(By hs hw hy).cells k1;have hsz:(a.eval x).cells.size=n:=by have:=g2.length;simp at this;omega
  have hzl:=hz.length;simp only[dl] at hzl;obtain⟨cells',hc',hfill⟩:=Wo (place:=place) (rest:=ps.map fun x=>(x.1,a.eval x.2)) hp hsz (cells:=zv) (by omega)
  have hrep:Aq w I lp (some L) (splice z off (y.ev st.tmps).cells) cells'.toList:=by
   rw[hc'];have:=hz.splice g2 off;simpa[hsz] using this
  have hone:Bn cells'.toList:=by rw[hc'];exact ho.splice g1 off (off+n)
  obtain⟨cells,h1,h2,h3⟩:=ih ys _ cs cells' hys hrep hone hf;exact⟨cells,by simpa[hfill] using h1,h2,h3⟩
theorem ZV {P:Program} (fs:Array Field) (hfs:fs.all (fun f=>(P.info? f.type).isSome)=true) (w:World) :
  (fs.mapM fun (f:Field)=>(do pure (f.offset,<-sizeOf f.type):Sem (Nat×Nat))).run P w=.ok (fs.map fun f=>(f.offset,P.cellsOf f.type)) w:=by
 have key:∀ l:List Field,(∀ f∈l,(P.info? f.type).isSome=true)->(l.mapM fun (f:Field)=>(do pure (f.offset,<-sizeOf f.type):Sem (Nat×Nat))).run P w=.ok (l.map fun f=>(f.offset,P.cellsOf f.type)) w:=by
  intro l;induction l with
  | nil=>intro _;rfl
  | cons f l ih =>
   intro h;obtain⟨i,hi⟩:=dH.1 (h f (by simp));simp only[cQ,Sem.run_bind,HP hi,Result.andThen_ok,Sem.run_pure,ih fun g hg=>h g (by simp[hg]),bz];simp[Program.cellsOf,hi]
 rw[eZ];simp only[Sem.run_map,key fs.toList (fun f hf=>by simpa using (Array.all_eq_true_iff_forall_mem.1 hfs) f (by simpa using hf)),Result.andThen_ok];congr 1;exact Array.ext' (by simp)
theorem op_build (hs:SR lp I L st a.tmps.toList suf w) (hf:Fr cx w0 I0 F0 O0 Hd R e ds I F L w) {t:TypeId} {ps:Array (Nat×Operand)} (ho:o.op=.build t ps) {fs:Array Field} {z:List PV} {rs:List (Nat×Nat×RX)}
  (hu:cx.P.underlying t=some (.struct fs)) (hz:Ga cx.P t=some (.agg z)) (hfs:fs.all (fun f=>(cx.P.info? f.type).isSome)=true) (hc:LL cx.G (OY cx.P fs) ps.toList=some rs)
  (h:exec (o.dst.getD 0) (Ak st.objs) st.tmps (.build z rs)=some out):BA cx w0 I0 F0 O0 Hd R e ds F lp suf o a w (apply st o.dst out):=by
 obtain⟨i,zv,hi,hz1,hrep⟩:=O4 hz (w:=w) (I:=I) (lp:=lp) (L:=some L);obtain⟨zs,rfl,hone,hzr⟩:=P4 hrep;simp only[exec] at h;split at h
 case h_2=>cases h
 rename_i cs hfl;cases h;obtain⟨cells,h1,h2,h3⟩:=aB hs hf.wd _ _ _ _ _ _ hc hzr hone hfl;refine BO hs hf (v':=.agg cells) ?_ (.refl w) (.agg _ _ h3 h2)
 have hpl:OY cx.P fs=fun j=>(fs.map fun f=>(f.offset,cx.P.cellsOf f.type))[j]?:=by
  funext j;unfold OY;rw[Array.getElem?_map];cases hj:fs[j]? with
  | none=>rfl
  | some f =>
   obtain⟨inf,hinf⟩:=dH.1 ((Array.all_eq_true_iff_forall_mem.1 hfs) f (Array.mem_of_getElem? hj));simp[hinf,Program.cellsOf]
 rw[hpl] at h1
 have hrun:(Instr.build t (ps.map fun x=>(x.1,a.eval x.2))).run cx.P w=.ok (.agg cells) w:=by
  simp only[Instr.build,Sem.run_bind,zeroValue,typeInfo,run_program,Result.andThen_ok,hi,Sem.run_pure,hz1,run_underlying hu,ZV fs hfs w,Value.cells,eH,h1]
 simp[execOp,ho,hrun]
theorem aC (k:Nat):∀ (vs:List Value) (j:Nat) (cells:Array Value),(∀ v∈vs,v.cells.size=k)->(j+vs.length)*k<=cells.size ->
  ∃ cells',Instr.fill (fun i=>some (i*k,k)) cells ((vs.zipIdx j).map fun x=>(x.2,x.1))=some cells' /\
   cells'.toList=cells.toList.take (j*k)++vs.flatMap (fun v=>v.cells.toList)++cells.toList.drop ((j+vs.length)*k):=by
 intro vs;induction vs with
 | nil=>intro j cells _ _;exact⟨cells,rfl,by simp⟩
 | cons v vs ih =>
  intro j cells hv hle;simp only[cA] at hle;have e1:(j+(vs.length+1))*k=j*k+k+vs.length*k:=by rw[bZ,bZ];omega
  have hvk:=hv v (by simp);obtain⟨c1,hc1,hf1⟩:=Wo (place:=fun i=>some (i*k,k)) (cells:=cells) (i:=j) (v:=v) (rest:=(vs.zipIdx (j+1)).map fun x=>(x.2,x.1)) rfl hvk (by omega);have hl:c1.toList.length=cells.size:=by rw[hc1];simp[hvk];omega
  obtain⟨c2,hc2,hl2⟩:=ih (j+1) c1 (fun u hu=>hv u (by simp[hu])) (by
   have:c1.size=cells.size:=by simpa using hl
   rw[this,show j+1+vs.length=j+(vs.length+1) from by omega];exact hle)
  refine⟨c2,?_,?_⟩;·simp only[eG,bz,hf1];exact hc2
  ·rw[hl2,hc1];have e2:(j+1)*k=j*k+k:=by rw[bZ,dw]
   have e3:(j+1+vs.length)*k=j*k+k+vs.length*k:=by rw[bZ,bZ];omega
   have t1:(cells.toList.take (j*k)).length=j*k:=by simp;omega
   rw[e2,e3,cA,e1];have a1:(cells.toList.take (j*k)++v.cells.toList).length=j*k+k:=by simp[hvk];omega
   rw[ed (by omega),b8 (l:=cells.toList.take (j*k)++v.cells.toList) (by omega)];rw[List.drop_append,a1,eu (l:=cells.toList.take (j*k)++v.cells.toList) (by omega),cE,dK,dG];simp[cC,dY]
theorem YF (hs:SR lp I L st a.tmps.toList suf w) (hw:cx.Wd I w):∀ (ps:List (Nat×Operand)) (j:Nat) (rs:List RX),Mb cx.G j ps=some rs ->
  ∃ vs,ps.map (fun x=>(x.1,a.eval x.2))=(vs.zipIdx j).map (fun x=>(x.2,x.1))/\Aq w I lp (some L) (rs.map (RX.ev st.tmps)) vs:=by
 intro ps;induction ps with
 | nil=>intro j rs h;simp only[Mb,bG] at h;subst h;exact⟨[],rfl,.nil⟩
 | cons p ps ih =>
  obtain⟨i,x⟩:=p;intro j rs h;simp only[Mb] at h;split at h
  case isFalse=>cases h
  rename_i hij;subst hij;split at h
  case h_2=>cases h
  rename_i y ys hy hys;cases h;obtain⟨vs,h1,h2⟩:=ih (i+1) ys hys;exact⟨a.eval x :: vs,by simp[h1],.cons _ _ _ _ (By hs hw hy) h2⟩
theorem R4 {w:World} {I:Nat->Prop} {lp:Nat->Option Nat} {L:Option AB} {k:Nat}:∀ {xs:List PV} {vs:List Value},Aq w I lp L xs vs->(xs.all fun x=>x.isVal&&x.cells.length==k)=true ->
  (∀ v∈vs,v.cells.size=k)/\(∀ x∈xs,x.cells.length=k)/\Bn (vs.flatMap fun v=>v.cells.toList)/\Aq w I lp L (cellsL xs) (vs.flatMap fun v=>v.cells.toList):=by
 intro xs;induction xs with
 | nil=>intro vs h _;cases h;exact⟨by simp,by simp,by simp[Bn],.nil⟩
 | cons x xs ih =>
  intro vs h hall;cases h with
  | cons _ v _ vs h hs =>
   simp only[cS,bB,beq_iff_eq] at hall;obtain⟨⟨h1,h2⟩,h3⟩:=hall;obtain⟨i1,i2,i3,i4⟩:=ih hs (by simpa using h3);obtain⟨c1,c2⟩:=h.cells h1;have hl:=c2.length;simp only[dl] at hl;refine⟨?_,?_,?_,?_⟩
   ·intro u hu;rcases bH.1 hu with rfl | hu;·omega
    ·exact i1 u hu
   ·intro u hu;rcases bH.1 hu with rfl | hu;·exact h2
    ·exact i2 u hu
   ·rw[cH];exact c1.append' i3
   ·rw[cH];exact c2.append i4
theorem Lx {P:Program} {t:TypeId} {k by_:Nat} {z:PV} (h:Ge P t=some (k,by_,z)) :
  ∃ e i zv,P.underlying t=some (.slice e)/\P.info? e=some i/\i.size=k/\i.bytes=by_/\by_<=65536/\i.zero=some zv/\z.cells.length=k/\z.isVal=true/\z.names=[] /\
   (∀ (w:World) (I:Nat->Prop) (lp:Nat->Option Nat) (L:Option AB),Au w I lp L z zv):=by
 unfold Ge at h;split at h
 case h_2=>cases h
 rename_i e hu;split at h
 case h_2=>cases h
 rename_i i z' hi hz;split at h
 case isFalse=>cases h
 rename_i hb;cases h;have hval:=U1 hz;have hz0:=hz;unfold Ga at hz;simp only[cB] at hz;obtain⟨zv,⟨j,hj,hjz⟩,hp⟩:=hz;rw[hi] at hj;cases hj;exact⟨e,i,zv,hu,hi,rfl,rfl,hb.1,hjz,hb.2,hval,Yk 3 zv _ hp,fun w I lp L=>RR 3 zv _ hp⟩
theorem Nw (hs:SR lp I L st a.tmps.toList suf w) (hf:Fr cx w0 I0 F0 O0 Hd R e ds I F L w) {d:Nat} (hd:o.dst=some d) (hc:st.objs[d]?=some [])
  {k kt:Nat} {xs:List PV} {c:Array Value} {t:TypeId} (hkt:kt=0\/t=kt) {cap:Nat} {w1:World} (hw:Kd w w1) (hcap:xs.length<=cap) (hsz:cap*k<=c.size) (hk:∀ x∈xs,x.cells.length=k)
  (hone:Bn (c.toList.take (xs.length*k))) (hrep:Aq w I lp none (cellsL xs) (c.toList.take (xs.length*k)))
  (hr:(execOp a.eval o).run cx.P w=.ok (.value (.slice (some ⟨w.heap.size,0,none⟩) xs.length cap)) (w1.alloc (.cells c t))) :
  BA cx w0 I0 F0 O0 Hd R e ds F lp suf o a w (apply st o.dst {v:=.arr (d,0) k 0 xs.length,new:=[.arr k kt xs]}):=by
 have hs1:w1.heap.size=w.heap.size:=by rw[hw.heap]
 have hle:xs.length*k<=cap*k:=cy _ hcap;refine PR hs hf hd hc hw (C:=c.size) hr ?_ ?_
 ·intro L' hL;refine⟨c,t,by rw[<-hs1];exact IX w1 _,rfl,⟨by omega,hkt⟩,hk,hone,?_⟩;exact Aq.mono (fun _ h=>h) (fun b hb=>by rw[Eg w1 _ (by have:=hf.sep.iB b hb;omega),hw.heap]) (fun _ _ h=>h) hrep
 ·intro L' hL;have:=Au.arr (w:=w1.alloc (.cells c t)) (I:=I) (lp:=lp) (L:=L') (d,0) k 0 xs.length cap w.heap.size c.size hL (by simpa using hsz) hcap;simpa using this
end ops
end Go.Ab


namespace Go.Ab
section ops
variable {E:Type} {cx:Cx} {w0:World} {I0 F0:Nat->Prop} {O0:BZ} {Hd:Nat->Option Obj} {R:BR E} {e:E} {ds:List Deferred} {F:Nat->Prop} {lp:Nat->Option Nat} {suf:List Value}
variable {I:Nat->Prop} {L:AB} {st:St} {a:Act} {w:World} {o:Oper} {out:AK} {rop:Ax}
theorem Zt (hs:SR lp I L st a.tmps.toList suf w) (hf:Fr cx w0 I0 F0 O0 Hd R e ds I F L w) {Rn:List Nm} (hR:C8 (Ak st.objs) Rn=true) {o:Oper} {out:AK} (hfrz:out.frz=[]) (hupd:out.upd=none) (hkill:out.kill=none)
  (h:∀ (L':AB),SR lp (DM I L Rn) L' (CD (Ak st.objs) Rn st) a.tmps.toList suf w->Fr cx w0 I0 F0 O0 Hd R e ds (DM I L Rn) F L' w ->
   BA cx w0 I0 F0 O0 Hd R e ds F lp suf o a w (apply (CD (Ak st.objs) Rn st) o.dst out)) (hne:Rn≠[]) :
  BA cx w0 I0 F0 O0 Hd R e ds F lp suf o a w (apply st o.dst {out with frz:=Rn}):=by
 have hd:=h _ (hs.freeze hR) (hf.freeze Rn)
 have e1:apply st o.dst {out with frz:=Rn}=apply (CD (Ak st.objs) Rn st) o.dst out:=by
  cases Rn with
  | nil=>exact absurd rfl hne
  | cons r rs=>simp[apply,hfrz,hupd,hkill]
 rw[e1];exact hd
theorem Yj (t el:TypeId) (i:TypeInfo) (zv:Value) {P:Program} (hu:P.underlying t=some (.slice el)) (hi:P.info? el=some i) (hz:i.zero=some zv) (w:World) (len:Nat) (parts:Array (Nat×Value)) (h:len*i.size<=16777216)
  (vs:List Value) (hp:parts.toList=(vs.zipIdx 0).map fun x=>(x.2,x.1)) (hl:vs.length=len) (hv:∀ v∈vs,v.cells.size=i.size) :
  ∃ c:Array Value,c.toList=vs.flatMap (fun v=>v.cells.toList)/\(Instr.buildSlice t len parts).run P w=.ok (.slice (some ⟨w.heap.size,0,none⟩) len len) (w.alloc (.cells c el)):=by
 have go:∀ z0:Array Value,∃ c:Array Value,Instr.fill (fun j=>some (j*i.size,i.size)) ((Array.range (len*i.size)).map (z0[·%z0.size]!)) parts.toList=some c/\c.toList=vs.flatMap (fun v=>v.cells.toList):=by
  intro z0;obtain⟨c,h1,h2⟩:=aC i.size vs 0 ((Array.range (len*i.size)).map (z0[·%z0.size]!)) hv (by simp[hl]);refine⟨c,by rw[hp];exact h1,?_⟩;rw[h2,Nat.zero_mul,ew,cE,eu (by simp[hl]),dB]
 by_cases h0:len*i.size=0
 ·obtain⟨c,h1,h2⟩:=go #[];refine⟨c,h2,?_⟩;simp only[Instr.buildSlice,Sem.run_bind,run_underlying hu,Result.andThen_ok,HP hi];rw[if_neg (by omega),if_pos h0];rw[Sem.run_bind,Sem.run_pure,Result.andThen_ok,h1];simp[newRow]
 ·obtain⟨c,h1,h2⟩:=go zv.cells;refine⟨c,h2,?_⟩;simp only[Instr.buildSlice,Sem.run_bind,run_underlying hu,Result.andThen_ok,HP hi];rw[if_neg (by omega)];rw[if_neg h0];simp only[Sem.run_pure,Result.andThen_ok,Sem.run_bind,zeroValue,typeInfo,run_program,hi,hz];rw[h1];simp[newRow]
theorem op_mkSl (hs:SR lp I L st a.tmps.toList suf w) (hf:Fr cx w0 I0 F0 O0 Hd R e ds I F L w) {t:TypeId} {len:Nat} {ps:Array (Nat×Operand)} (ho:o.op=.buildSlice t len ps) {k by_:Nat} {z:PV} {rs:List RX}
  (he:Ge cx.P t=some (k,by_,z)) (hc:Mb cx.G 0 ps.toList=some rs) (hl:rs.length=len) (hle:len*k<=16777216) {d:Nat} (hd:o.dst=some d) (hcl:st.objs[d]?=some [])
  (h:exec (o.dst.getD 0) (Ak st.objs) st.tmps (.mkSl k rs)=some out):BA cx w0 I0 F0 O0 Hd R e ds F lp suf o a w (apply st o.dst out):=by
 obtain⟨el,i,zv,hu,hi,hik,_,_,hz,_⟩:=Lx he;obtain⟨vs,h1,h2⟩:=YF hs hf.wd _ _ _ hc;have hlen:=h2.length;rw[bS] at hlen
 have hrun:(∀ v∈vs,v.cells.size=k)->∃ c:Array Value,c.toList=vs.flatMap (fun v=>v.cells.toList)/\(execOp a.eval o).run cx.P w=.ok (.value (.slice (some ⟨w.heap.size,0,none⟩) len len)) (w.alloc (.cells c el)):=by
  intro hv;obtain⟨c,g1,g2⟩:=Yj t el i zv hu hi hz w len (ps.map fun x=>(x.1,a.eval x.2)) (by rw[hik];exact hle) vs (by simpa using h1) (by omega) (by rw[hik];exact hv);exact⟨c,g1,by simp[execOp,ho,g2]⟩
 simp only[exec,hd,cr] at h;split at h
 ·rename_i hS;obtain⟨hk,h⟩:=Bm h;cases h;obtain⟨v1,v2,v3,v4⟩:=R4 h2 hk;obtain⟨c,hc1,hr⟩:=hrun v1;have hS:AQ (rs.map (RX.ev st.tmps))=[]:=by simpa using hS
  have hclo:=(R4 (h2.shut hS) hk).2.2.2;have hlc:=hclo.length;rw[Kg v2,<-hc1] at hlc;have hlx:(rs.map (RX.ev st.tmps)).length=len:=by simp[hl]
  rw[hlx] at hlc
  have:=Nw hs hf hd hcl (k:=k) (kt:=0) (xs:=rs.map (RX.ev st.tmps)) (c:=c) (t:=el) (.inl rfl) (cap:=len) (.refl w) (by omega) (by simp at hlc;omega) v2
   (by rw[hlx,hlc,dN,hc1];exact v3) (by rw[hlx,hlc,dN,hc1];exact hclo) (by rw[hlx];exact hr)
  simpa[hd] using this
 ·rename_i hS;obtain⟨hk,h⟩:=Bm h;cases h;simp only[bB] at hk;obtain⟨hk,hR⟩:=hk
  have hne:A8 (Ak st.objs) AU (AQ (rs.map (RX.ev st.tmps)))≠[]:=by
   intro e0;cases hn:AQ (rs.map (RX.ev st.tmps)) with
   | nil=>rw[hn] at hS;simp at hS
   | cons m ms =>
    have:m∈A8 (Ak st.objs) AU (AQ (rs.map (RX.ev st.tmps))):=EM AU _ m (by rw[hn];exact bT);rw[e0] at this;cases this
  have hclo0:=OX hs hR h2 fun nm hn=>EM _ _ nm hn;obtain⟨v1,v2,v3,hclo⟩:=R4 hclo0 hk;obtain⟨c,hc1,hr⟩:=hrun v1;have hlc:=hclo.length;rw[Kg v2,<-hc1] at hlc;have hlx:(AX (BJ (Ak st.objs)) (rs.map (RX.ev st.tmps))).length=len:=by simp[OW,hl]
  rw[hlx] at hlc;have:=Zt hs hf hR (o:=o) (out:={v:=.arr (d,0) k 0 (AX (BJ (Ak st.objs)) (rs.map (RX.ev st.tmps))).length,new:=[.arr k 0 (AX (BJ (Ak st.objs)) (rs.map (RX.ev st.tmps)))]}) rfl rfl rfl (fun L' hs' hf'=>?_) hne;·simpa[hd] using this
  ·have hcl':(CD (Ak st.objs) (A8 (Ak st.objs) AU (AQ (rs.map (RX.ev st.tmps)))) st).objs[d]?=some []:=by
    have key:∀ (R:List Nm) (σ:List (List Ob)),σ[d]?=some []->(R.foldl (fun objs nm=>Bi objs nm Bz) σ)[d]?=some []:=by
     intro R;induction R with
     | nil=>intro σ h;exact h
     | cons r R ih =>
      intro σ h;refine ih _ ?_;show (Bi σ r Bz)[d]?=some [];unfold Bi;split
      ·rename_i l hl;by_cases hrd:r.1=d
       ·rw[hrd] at hl;rw[h] at hl;cases hl;rw[hrd,dx (bL.1 h).1];rfl
       ·rw[cg hrd];exact h
      ·exact h
    refine key _ _ ?_;simp[DF,hcl]
   exact Nw hs' hf' hd hcl' (k:=k) (kt:=0) (c:=c) (t:=el) (.inl rfl) (cap:=len) (.refl w) (by omega) (by simp at hlc;omega) v2
    (by rw[hlx,hlc,dN,hc1];exact v3) (by rw[hlx,hlc,dN,hc1];exact hclo) (by rw[hlx];exact hr)
theorem ab {x:PV} {n:Nat} (h:CS x=some n):∃ k,x=.int k (n:Int):=by
 unfold CS at h;split at h
 ·rename_i k m;split at h;·rename_i hm;cases h;exact⟨k,by rw[Int.toNat_of_nonneg hm]⟩
  ·cases h
 ·cases h
theorem Jo {x:PV} {v:Value} (hx:Au w I lp (some L) x v) {n:Nat} (h:CS x=some n):∃ k,v=.int k (n:Int):=by
 obtain⟨k,hk⟩:=ab h;rw[hk] at hx;exact⟨k,DO hx⟩
theorem Yq {w:World} {I:Nat->Prop} {lp:Nat->Option Nat} {L:Option AB} {z:PV} {zs:List Value} (h:Aq w I lp L z.cells zs) (l:Nat) :
  Aq w I lp L (cellsL (List.replicate l z)) (List.replicate l zs).flatten:=by
 induction l with
 | zero=>exact .nil
 | succ l ih=>rw[List.replicate_succ,List.replicate_succ,cellsL,List.flatten_cons];exact h.append ih
theorem op_mkS (hs:SR lp I L st a.tmps.toList suf w) (hf:Fr cx w0 I0 F0 O0 Hd R e ds I F L w) {t:TypeId} {x y:Operand} (ho:o.op=.makeSlice t x y) {k by_:Nat} {z:PV} {r1 r2:RX}
  (he:Ge cx.P t=some (k,by_,z)) (h1:rx cx.G x=some r1) (h2:rx cx.G y=some r2) {d:Nat} (hd:o.dst=some d) (hcl:st.objs[d]?=some [])
  (h:exec (o.dst.getD 0) (Ak st.objs) st.tmps (.mkS k z r1 r2)=some out):BA cx w0 I0 F0 O0 Hd R e ds F lp suf o a w (apply st o.dst out):=by
 obtain⟨el,i,zv,hu,hi,hik,hby,hb6,hz,hzk,hzv,hzn,hzr⟩:=Lx he;have hx:=By hs hf.wd h1;have hy:=By hs hf.wd h2;simp only[exec,hd,cr] at h;split at h
 case h_2=>cases h
 rename_i l c hl hc;obtain⟨hk,h⟩:=Bm h;cases h;simp only[bB,decide_eq_true_eq,beq_iff_eq] at hk;obtain⟨⟨hlc,hcm⟩,_⟩:=hk;unfold Ff at hcm;obtain⟨k1,hk1⟩:=Jo hx hl;obtain⟨k2,hk2⟩:=Jo hy hc
 have hmul:i.bytes*c<=140737488355328:=calc i.bytes*c<=65536*2147483648:=Nat.mul_le_mul (by omega) hcm
  _=140737488355328:=by decide
 have hmulI:(i.bytes:Int)*(c:Int)<=140737488355328:=by
  have:((i.bytes*c:Nat):Int)<=((140737488355328:Nat):Int):=Int.ofNat_le.2 hmul
  rwa [Int.natCast_mul] at this
 have hrun:=run_make (P:=cx.P) w t el i zv hu hi hz k1 k2 (l:Int) (c:Int) (by omega) (by omega) (by omega) (by omega);simp only[b9] at hrun;obtain⟨hz1,hz2⟩:=(hzr w I lp none).cells hzv;have hzsz:zv.cells.size=k:=by have:=hz2.length;simp at this;omega
 have hmk:∀ n,n<=c->(madeCells zv.cells (c*k)).toList.take (n*k)=(List.replicate n zv.cells.toList).flatten:=by
  intro n hn;apply ct;intro j;by_cases hj:j < n*k
  ·have hk0:0 < k:=Nat.pos_of_ne_zero fun h0=>by simp[h0] at hj
   have hjc:j < c*k:=cP hj (cy _ hn);rw[dV hj];have hmod:j%k < k:=Nat.mod_lt _ hk0
   have key:∀ (n j:Nat),j < n*k->(List.replicate n zv.cells.toList).flatten[j]?=zv.cells.toList[j%k]?:=by
    intro n;induction n with
    | zero=>intro j hj;simp at hj
    | succ n ih =>
     intro j hj;rw[List.replicate_succ,List.flatten_cons];by_cases hjk:j < k
     ·rw[dm (by simp[hzsz,hjk]),Nat.mod_eq_of_lt hjk]
     ·rw[dO (by simp[hzsz];omega)];simp only[dl,hzsz];rw[bZ,dw] at hj;rw[ih (j - k) (by omega),<-Nat.mod_eq_sub_mod (by omega)]
   rw[key n j hj];simp[madeCells,hjc,hzsz,hmod]
  ·rw[cf (by simp;omega),cf (by simp[hzsz];omega)]
 have hclen:∀ x∈List.replicate l z,x.cells.length=k:=fun x hx=>by rw[eI hx];exact hzk
 have hone:Bn (List.replicate l zv.cells.toList).flatten:=by
  intro v hv;obtain⟨u,hu1,hu2⟩:=List.mem_flatten.1 hv;rw[eI hu1] at hu2;exact hz1 v hu2
 have hrep:=Yq hz2 l
 have:=Nw hs hf hd hcl (k:=k) (kt:=0) (xs:=List.replicate l z) (c:=madeCells zv.cells (c*k)) (t:=el) (.inl rfl) (cap:=c) (.refl w) (by simpa using hlc) (by simp[madeCells]) hclen
  (by rw[List.length_replicate,hmk l hlc];exact hone) (by rw[List.length_replicate,hmk l hlc];exact hrep)
  (by simp[execOp,ho,hk1,hk2,hrun,hik])
 simpa[hd] using this
theorem op_mkMap (hs:SR lp I L st a.tmps.toList suf w) (hf:Fr cx w0 I0 F0 O0 Hd R e ds I F L w) {t:TypeId} (ho:o.op=.makeMap t none) {d:Nat} (hd:o.dst=some d) (hcl:st.objs[d]?=some []) :
  BA cx w0 I0 F0 O0 Hd R e ds F lp suf o a w (apply st o.dst {v:=.mp (d,0),new:=[.map []]}):=by
 refine PR hs hf hd hcl (.refl w) (C:=0) (v':=.map (some w.heap.size)) (obj:=.map #[] 0) ?_ ?_ ?_
 ·have:(Instr.makeMap t none).run cx.P w=.ok (.map (some w.heap.size)) (w.alloc (.map #[] 0)):=rfl;simp[execOp,ho,this]
 ·intro L' hL;exact⟨#[],0,IX w _,.nil⟩
 ·intro L' hL;exact .mp _ _ _ hL
theorem Yy (hs:SR lp I L st a.tmps.toList suf w) (hf:Fr cx w0 I0 F0 O0 Hd R e ds I F L w) {t:TypeId} {x:Operand} {f:Nat} (ho:o.op=.fieldAddr t x f) {fs:Array Field} {fd:Field} {i:TypeInfo} {r:RX}
  (hu:cx.P.underlying t=some (.struct fs)) (hfd:fs[f]?=some fd) (hi:cx.P.info? fd.type=some i) (hz:i.size≠0) (h1:rx cx.G x=some r)
  (h:exec (o.dst.getD 0) (Ak st.objs) st.tmps (.fieldAddr fd.offset r)=some out):BA cx w0 I0 F0 O0 Hd R e ds F lp suf o a w (apply st o.dst out):=by
 have hx:=By hs hf.wd h1
 have hrun:∀ b off,a.eval x=.pointer (some ⟨b,off,none⟩)->(execOp a.eval o).run cx.P w=.ok (.value (.pointer (some ⟨b,off+fd.offset,none⟩))) w:=by
  intro b off hv;simp[execOp,ho,hv,Instr.fieldAt,run_underlying hu,hfd,Instr.sureAddr,fieldPlace,HP hi,hz,It]
 simp only[exec] at h;split at h
 ·rename_i nm off hr;rw[hr] at hx;cases h;obtain⟨b,C,hL,hv⟩:=FC hx;exact BO hs hf (hrun b off hv) (.refl w) (.ref nm _ b C hL)
 ·rename_i cs off hr;rw[hr] at hx;obtain⟨hk,h⟩:=Bm h;cases h;obtain⟨b,off0,c,E',fr,hv,g1,g2,g3,g4,g5,g6⟩:=Ma hx;have:=Au.ptr (w:=w) (I:=I) (lp:=lp) (L:=some L) cs (off+fd.offset) b off0 c E' fr g1 g2 g3 (of_decide_eq_true hk) g5 g6;refine BO hs hf (hrun b _ hv) (.refl w) ?_
  rwa [dY]
 ·rename_i nm k j off hr;rw[hr] at hx;cases h;obtain⟨b,C,hL,hv⟩:=PN hx;refine BO hs hf (hrun b _ hv) (.refl w) ?_;rw[dY];exact .aref nm k j _ b C hL
 ·cases h
theorem run_part {P:Program} {w:World} {t:TypeId} {n:Nat} {ag:Bool} (hsh:GZ P t=some (n,ag)) {vs:Array Value} {off:Nat} {v:Value}
  (hv:if ag then off+n<=vs.toList.length/\v=.agg ((vs.toList.drop off).take n).toArray else vs.toList[off]?=some v):(part t vs off).run P w=.ok v w:=by
 obtain⟨d,i,h1,h2,h3,h4⟩:=RD hsh;simp only[part,Sem.run_bind,VR h1,Result.andThen_ok,h4];cases ag
 ·simp only[bA,if_false,dM] at hv |-;simp[hv]
 ·simp only[if_true] at hv |-;obtain⟨_,rfl⟩:=hv;simp[HP h2,h3,M0]
theorem op_field (hs:SR lp I L st a.tmps.toList suf w) (hf:Fr cx w0 I0 F0 O0 Hd R e ds I F L w) {t:TypeId} {x:Operand} {f:Nat} (ho:o.op=.field t x f) {fs:Array Field} {fd:Field} {n:Nat} {ag:Bool} {r:RX}
  (hu:cx.P.underlying t=some (.struct fs)) (hfd:fs[f]?=some fd) (hsh:GZ cx.P fd.type=some (n,ag)) (h1:rx cx.G x=some r)
  (h:exec (o.dst.getD 0) (Ak st.objs) st.tmps (.field fd.offset n ag r)=some out):BA cx w0 I0 F0 O0 Hd R e ds F lp suf o a w (apply st o.dst out):=by
 have hx:=By hs hf.wd h1;simp only[exec] at h;split at h
 case h_2=>cases h
 rename_i cs hr;rw[hr] at hx;obtain⟨vs,hv,hone,hrep⟩:=P4 hx;obtain⟨u,hu',rfl⟩:=bD.1 h;obtain⟨v',hv',hrv⟩:=NP hrep hone hu';refine BO hs hf (v':=v') ?_ (.refl w) hrv;simp[execOp,ho,hv,Instr.field,run_underlying hu,hfd,asAgg,run_part hsh hv']
theorem UJ {P:Program} {t el:TypeId} {i:TypeInfo} (hu:P.underlying t=some (.slice el)) (hi:P.info? el=some i) (w:World) (b off len cap:Nat) (k:IntKind) (j:Nat) (hj:j < len) :
  (Instr.indexAt t (.slice (some ⟨b,off,none⟩) len cap) (.int k (j:Int))).run P w=.ok (.pointer (some ⟨b,off+j*i.size,none⟩)) w:=by
 have h2:(0:Int)<=(j:Int)/\(j:Int) < (len:Int):=⟨by omega,by omega⟩;simp[Instr.indexAt,asIntOf,run_underlying hu,h2,HP hi,It];intro h;omega
theorem Z7 (hs:SR lp I L st a.tmps.toList suf w) (hf:Fr cx w0 I0 F0 O0 Hd R e ds I F L w) {t:TypeId} {x y:Operand} (ho:o.op=.indexAddr t x y) {k by_:Nat} {z:PV} {r1 r2:RX}
  (he:Ge cx.P t=some (k,by_,z)) (h1:rx cx.G x=some r1) (h2:rx cx.G y=some r2)
  (h:exec (o.dst.getD 0) (Ak st.objs) st.tmps (.idxAddr k r1 r2)=some out):BA cx w0 I0 F0 O0 Hd R e ds F lp suf o a w (apply st o.dst out):=by
 obtain⟨el,i,zv,hu,hi,hik,_⟩:=Lx he;have hx:=By hs hf.wd h1;have hy:=By hs hf.wd h2;simp only[exec] at h;split at h
 ·rename_i j k' xs full hj hr;rw[hr] at hx;obtain⟨kk,hky⟩:=Jo hy hj;split at h
  case h_2=>cases h
  rename_i ev hev;obtain⟨hk,h⟩:=Bm h;cases h;simp only[bB,beq_iff_eq,decide_eq_true_eq] at hk;obtain⟨rfl,hk0⟩:=hk;have hlt:=(bL.1 hev).1;rcases JE hx with ⟨b,off,cap,c,E',fr,hv,g1,g2,g3,g4,g5,g6,g7,g8⟩ | ⟨rfl,_⟩
  ·have hrun:=UJ (P:=cx.P) hu hi w b off xs.length cap kk j hlt;rw[hik] at hrun;have hkx:=g4 ev (bQ hev);have hmul:(j+1)*k<=xs.length*k:=cy _ hlt;rw[bZ,dw] at hmul
   have e1:(((c.toList.drop off).take (xs.length*k)).drop (j*k)).take k=(c.toList.drop (off+j*k)).take k:=by
    rw[dc,cz,dG,cq (by omega)]
   have:=Au.ptr (w:=w) (I:=I) (lp:=lp) (L:=some L) ev.cells 0 b (off+j*k) c E' fr g1 g2 (by omega) (by omega) (by rw[hkx,<-e1];exact (g7.drop' _).take' _)
    (by rw[hkx,<-e1,<-So g4 hev];exact (g8.drop _).take _)
   exact BO hs hf (v':=.pointer (some ⟨b,off+j*k,none⟩)) (by simp[execOp,ho,hv,hky,hrun]) (.refl w) (by simpa using this)
  ·simp at hev
 ·rename_i j nm k' off n hj hr;rw[hr] at hx;obtain⟨kk,hky⟩:=Jo hy hj;obtain⟨hk,h⟩:=Bm h;cases h;simp only[bB,beq_iff_eq,decide_eq_true_eq] at hk;obtain⟨rfl,hjn⟩:=hk;rcases Jp hx with ⟨b,C,cap,hL,hv,_,_⟩ | ⟨_,_,_,hn0⟩
  ·have hrun:=UJ (P:=cx.P) hu hi w b (off*k) n cap kk j hjn;rw[hik] at hrun;have:=Au.aref (w:=w) (I:=I) (lp:=lp) nm k (off+j) 0 b C hL;refine BO hs hf (v':=.pointer (some ⟨b,off*k+j*k,none⟩)) (by simp[execOp,ho,hv,hky,hrun]) (.refl w) ?_;rw[bZ] at this;exact this
  ·omega
 ·cases h
theorem op_strIdx (hs:SR lp I L st a.tmps.toList suf w) (hf:Fr cx w0 I0 F0 O0 Hd R e ds I F L w) {t:TypeId} {x y:Operand} (ho:o.op=.index t x y) {r1 r2:RX}
  (hu:cx.P.underlying t=some .string) (h1:rx cx.G x=some r1) (h2:rx cx.G y=some r2)
  (h:exec (o.dst.getD 0) (Ak st.objs) st.tmps (.strIdx r1 r2)=some out):BA cx w0 I0 F0 O0 Hd R e ds F lp suf o a w (apply st o.dst out):=by
 have hx:=By hs hf.wd h1;have hy:=By hs hf.wd h2;simp only[exec] at h;split at h
 case h_2=>cases h
 rename_i j s hj hr;rw[hr] at hx;obtain⟨kk,hky⟩:=Jo hy hj;split at h
 case h_2=>cases h
 rename_i b hb;cases h
 have hb':(⟨s.toArray⟩:ByteArray)[j]?=some b:=by
  obtain⟨h1,h2⟩:=bL.1 hb;have hsz:j < (⟨s.toArray⟩:ByteArray).size:=h1;rw[getElem?_pos (⟨s.toArray⟩:ByteArray) j hsz];exact congrArg some h2
 refine BO hs hf (v':=.int .u8 b.toNat) ?_ (.refl w) (.int _ _);simp[execOp,ho,EQ hx,hky,Instr.index,asIntOf,run_underlying hu,hb']
end ops
end Go.Ab


namespace Go.Ab
section ops
variable {E:Type} {cx:Cx} {w0:World} {I0 F0:Nat->Prop} {O0:BZ} {Hd:Nat->Option Obj} {R:BR E} {e:E} {ds:List Deferred} {F:Nat->Prop} {lp:Nat->Option Nat} {suf:List Value}
variable {I:Nat->Prop} {L:AB} {st:St} {a:Act} {w:World} {o:Oper} {out:AK} {rop:Ax}
theorem Y7 (hs:SR lp I L st a.tmps.toList suf w) (hf:Fr cx w0 I0 F0 O0 Hd R e ds I F L w) {t el:TypeId} {n:Nat} {i:TypeInfo} {x y:Operand} (ho:o.op=.indexAddr t x y) {r1 r2:RX}
  (hu:cx.P.underlying t=some (.array n el)) (hi:cx.P.info? el=some i) (h1:rx cx.G x=some r1) (h2:rx cx.G y=some r2)
  (h:exec (o.dst.getD 0) (Ak st.objs) st.tmps (.idxAddrA i.size n r1 r2)=some out):BA cx w0 I0 F0 O0 Hd R e ds F lp suf o a w (apply st o.dst out):=by
 have hx:=By hs hf.wd h1;have hy:=By hs hf.wd h2
 have hrun:∀ (b off j:Nat) (kk:IntKind),a.eval x=.pointer (some ⟨b,off,none⟩)->a.eval y=.int kk (j:Int)->j < n ->
   (execOp a.eval o).run cx.P w=.ok (.value (.pointer (some ⟨b,off+j*i.size,none⟩))) w:=by
  intro b off j kk hv hk hj;have h2:(0:Int)<=(j:Int)/\(j:Int) < (n:Int):=⟨by omega,by omega⟩;simp[execOp,ho,hv,hk,Instr.indexAt,asIntOf,run_underlying hu,Instr.sureAddr,h2,HP hi,It];intro h;omega
 simp only[exec] at h;split at h
 ·rename_i j cs off hj hr;rw[hr] at hx;obtain⟨kk,hky⟩:=Jo hy hj;obtain⟨hk,h⟩:=Bm h;cases h;simp only[bB,decide_eq_true_eq] at hk;obtain⟨b,off0,c,E',fr,hv,g1,g2,g3,g4,g5,g6⟩:=Ma hx;have:=Au.ptr (w:=w) (I:=I) (lp:=lp) (L:=some L) cs (off+j*i.size) b off0 c E' fr g1 g2 g3 hk.2 g5 g6;refine BO hs hf (hrun b _ j kk hv hky hk.1) (.refl w) ?_
  rwa [dY]
 ·rename_i j nm off hj hr;rw[hr] at hx;obtain⟨kk,hky⟩:=Jo hy hj;obtain⟨hk,h⟩:=Bm h;cases h;obtain⟨b,C,hL,hv⟩:=FC hx;exact BO hs hf (hrun b _ j kk hv hky (of_decide_eq_true hk)) (.refl w) (.ref nm _ b C hL)
 ·cases h
theorem Il {P:Program} (w:World) (k:IntKind) (n y:Nat) (code:BoundsCode) (h:n<=y):(Instr.sliceBound (.int k (n:Int)) y code).run P w=.ok n w:=by
 have:(0:Int)<=(n:Int)/\(n:Int)<=(y:Int):=⟨by omega,by omega⟩;simp[Instr.sliceBound,asIntOf,this]
theorem Jc (hs:SR lp I L st a.tmps.toList suf w) (hw:cx.Wd I w) {xo:Option Operand} {r:Option RX} (hr:rxO cx.G xo=some r) {d top n:Nat} (h:Cn (B6 st.tmps r) d top=some n) :
  (xo=none/\r=none/\n=d)\/(∃ x k rx',xo=some x/\r=some rx'/\a.eval x=.int k (n:Int)/\n<=top):=by
 cases xo with
 | none =>
  simp only[rxO,bG] at hr;subst hr;simp only[Cn,B6,bG] at h;exact .inl ⟨rfl,rfl,h.symm⟩
 | some x =>
  simp only[rxO,bD] at hr;obtain⟨y,hy,rfl⟩:=hr;simp only[Cn,B6] at h;split at h
  ·rename_i m hm;obtain⟨hk,h⟩:=Bm h;cases h;obtain⟨k,hk'⟩:=Jo (By hs hw hy) hm;exact .inr ⟨x,k,y,rfl,rfl,hk',of_decide_eq_true hk⟩
  ·cases h
theorem Ke {P:Program} (w:World) (isS:Bool) (len cap:Nat) (ev:Operand->Value) (lo hi mx:Option Operand) (l h m:Nat)
  (hm:(mx=none/\m=cap)\/(∃ x k,mx=some x/\ev x=.int k (m:Int)/\m<=cap))
  (hh:(hi=none/\mx=none/\h=len)\/(∃ x k,hi=some x/\ev x=.int k (h:Int)/\h<=m))
  (hl:(lo=none/\l=0)\/(∃ x k,lo=some x/\ev x=.int k (l:Int)/\l<=h)) :
  (Instr.sliceBounds isS len cap (lo.map ev) (hi.map ev) (mx.map ev)).run P w=.ok (l,h,m) w:=by
 unfold Instr.sliceBounds;rcases hm with ⟨rfl,rfl⟩ | ⟨xm,km,rfl,hxm,hmc⟩
 ·rcases hh with ⟨rfl,_,rfl⟩ | ⟨xh,kh,rfl,hxh,hhm⟩
  ·rcases hl with ⟨rfl,rfl⟩ | ⟨xl,kl,rfl,hxl,hlh⟩;·simp
   ·simp[hxl,Il w kl l _ _ hlh]
  ·rcases hl with ⟨rfl,rfl⟩ | ⟨xl,kl,rfl,hxl,hlh⟩;·simp[hxh,Il w kh h _ _ hhm]
   ·simp[hxh,Il w kh h _ _ hhm,hxl,Il w kl l _ _ hlh]
 ·rcases hh with ⟨rfl,hn,rfl⟩ | ⟨xh,kh,rfl,hxh,hhm⟩;·cases hn
  ·rcases hl with ⟨rfl,rfl⟩ | ⟨xl,kl,rfl,hxl,hlh⟩;·simp[hxm,Il w km m _ _ hmc,hxh,Il w kh h _ _ hhm]
   ·simp[hxm,Il w km m _ _ hmc,hxh,Il w kh h _ _ hhm,hxl,Il w kl l _ _ hlh]
theorem M7 {P:Program} {t el:TypeId} {i:TypeInfo} (hu:P.underlying t=some (.slice el)) (hi:P.info? el=some i) (w:World) (ad:Option Addr) (len cap:Nat) (ev:Operand->Value) (lo hi' mx:Option Operand) (l h m:Nat)
  (hb:(Instr.sliceBounds true len cap (lo.map ev) (hi'.map ev) (mx.map ev)).run P w=.ok (l,h,m) w) :
  (Instr.sliceAt t (.slice ad len cap) (lo.map ev) (hi'.map ev) (mx.map ev)).run P w=.ok (.slice (if m=l then ad else ad.map (·.add (l*i.size))) (h - l) (m - l)) w:=by
 simp[Instr.sliceAt,Instr.slice,run_underlying hu,hb,HP hi]
theorem op_slice (hs:SR lp I L st a.tmps.toList suf w) (hf:Fr cx w0 I0 F0 O0 Hd R e ds I F L w) {t:TypeId} {x:Operand} {lo hi mx:Option Operand} (ho:o.op=.slice t x lo hi mx) {k by_:Nat} {z:PV} {r:RX} {rl rh rm:Option RX}
  (he:Ge cx.P t=some (k,by_,z)) (h1:rx cx.G x=some r) (hl:rxO cx.G lo=some rl) (hh:rxO cx.G hi=some rh) (hm:rxO cx.G mx=some rm)
  (h:exec (o.dst.getD 0) (Ak st.objs) st.tmps (.slice k r rl rh rm)=some out):BA cx w0 I0 F0 O0 Hd R e ds F lp suf o a w (apply st o.dst out):=by
 obtain⟨el,i,zv,hu,hi',hik,_⟩:=Lx he;have hx:=By hs hf.wd h1;simp only[exec] at h;obtain⟨u,hu',rfl⟩:=bD.1 h;clear h
 have bnds:∀ {len cap mA hA lA:Nat},len<=cap->Cn (B6 st.tmps rm) len len=some mA->Cn (B6 st.tmps rh) len mA=some hA->Cn (B6 st.tmps rl) 0 hA=some lA ->
   ((B6 st.tmps rm).isNone||(B6 st.tmps rh).isSome)=true ->
   ∃ m,(Instr.sliceBounds true len cap (lo.map a.eval) (hi.map a.eval) (mx.map a.eval)).run cx.P w=.ok (lA,hA,m) w/\m<=cap/\hA<=m/\lA<=hA/\hA<=len/\(rm=none->m=cap)/\(rm≠none->m=mA):=by
  intro len cap mA hA lA hlc b1 b2 b3 b4;rcases Jc hs hf.wd hm b1 with ⟨e1,e2,e3⟩ | ⟨xm,km,rm',e1,e2,e3,e4⟩
  ·subst e1;subst e2;subst e3;rcases Jc hs hf.wd hh b2 with ⟨f1,f2,f3⟩ | ⟨xh,kh,rh',f1,f2,f3,f4⟩
   ·subst f1;subst f3;rcases Jc hs hf.wd hl b3 with ⟨g1,g2,g3⟩ | ⟨xl,kl,rl',g1,g2,g3,g4⟩
    ·subst g1;subst g3;exact⟨cap,Ke w true hA cap a.eval none none none 0 hA cap (.inl ⟨rfl,rfl⟩) (.inl ⟨rfl,rfl,rfl⟩) (.inl ⟨rfl,rfl⟩),bF _,hlc,by omega,bF _,fun _=>rfl,fun h=>absurd rfl h⟩
    ·subst g1;exact⟨cap,Ke w true hA cap a.eval (some xl) none none lA hA cap (.inl ⟨rfl,rfl⟩) (.inl ⟨rfl,rfl,rfl⟩) (.inr ⟨xl,kl,rfl,g3,g4⟩),bF _,hlc,g4,bF _,fun _=>rfl,fun h=>absurd rfl h⟩
   ·subst f1;rcases Jc hs hf.wd hl b3 with ⟨g1,g2,g3⟩ | ⟨xl,kl,rl',g1,g2,g3,g4⟩
    ·subst g1;subst g3;exact⟨cap,Ke w true mA cap a.eval none (some xh) none 0 hA cap (.inl ⟨rfl,rfl⟩) (.inr ⟨xh,kh,rfl,f3,by omega⟩) (.inl ⟨rfl,rfl⟩),bF _,by omega,by omega,f4,fun _=>rfl,fun h=>absurd rfl h⟩
    ·subst g1;exact⟨cap,Ke w true mA cap a.eval (some xl) (some xh) none lA hA cap (.inl ⟨rfl,rfl⟩) (.inr ⟨xh,kh,rfl,f3,by omega⟩) (.inr ⟨xl,kl,rfl,g3,g4⟩),bF _,by omega,g4,f4,fun _=>rfl,fun h=>absurd rfl h⟩
  ·subst e1;subst e2;rcases Jc hs hf.wd hh b2 with ⟨f1,f2,f3⟩ | ⟨xh,kh,rh',f1,f2,f3,f4⟩;·subst f2;simp[B6] at b4
   ·subst f1;rcases Jc hs hf.wd hl b3 with ⟨g1,g2,g3⟩ | ⟨xl,kl,rl',g1,g2,g3,g4⟩
    ·subst g1;subst g3;exact⟨mA,Ke w true len cap a.eval none (some xh) (some xm) 0 hA mA (.inr ⟨xm,km,rfl,e3,by omega⟩) (.inr ⟨xh,kh,rfl,f3,f4⟩) (.inl ⟨rfl,rfl⟩),by omega,f4,by omega,by omega,fun h=>(by cases h),fun _=>rfl⟩
    ·subst g1;exact⟨mA,Ke w true len cap a.eval (some xl) (some xh) (some xm) lA hA mA (.inr ⟨xm,km,rfl,e3,by omega⟩) (.inr ⟨xh,kh,rfl,f3,f4⟩) (.inr ⟨xl,kl,rfl,g3,g4⟩),by omega,f4,g4,by omega,fun h=>(by cases h),fun _=>rfl⟩
 have isn:(B6 st.tmps rm).isNone=rm.isNone:=by cases rm<;>rfl
 have iss:(B6 st.tmps rm).isSome=rm.isSome:=by cases rm<;>rfl
 unfold EP at hu';split at hu'
 ·rename_i k' xs full hr;rw[hr] at hx;split at hu';·cases hu'
  rename_i mA b1;split at hu';·cases hu'
  rename_i hA b2;split at hu';·cases hu'
  rename_i lA b3;obtain⟨hk,hu2⟩:=Bm hu';clear hu';simp only[bB,beq_iff_eq] at hk;obtain⟨rfl,b4⟩:=hk;cases hu2;rcases JE hx with ⟨b,off,cap,c,E',fr,hv,g1,g2,g3,g4,g5,g6,g7,g8⟩ | ⟨rfl,ad,cap,hv,g6⟩
  ·obtain⟨m,hrun,m1,m2,m3,m4,m5,m6⟩:=bnds g5 b1 b2 b3 b4;have hrun':=M7 (P:=cx.P) hu hi' w (some ⟨b,off,none⟩) xs.length cap a.eval lo hi mx lA hA m hrun;rw[hik] at hrun'
   have hfull:(if (B6 st.tmps rm).isSome=true then mA==hA else full&&hA==xs.length)=true->m=hA:=by
    intro hq;rw[iss] at hq;cases hrm:rm with
    | none =>
     rw[hrm] at hq;simp only[eJ,bA,if_false,bB,beq_iff_eq] at hq;have:=m5 hrm;have:=g6 hq.1;omega
    | some y =>
     rw[hrm] at hq;simp only[Option.isSome_some,if_true,beq_iff_eq] at hq;have:=m6 (by rw[hrm];simp);omega
   by_cases hlh:hA=lA
   ·have hnil:(xs.take hA).drop lA=[]:=by rw[hlh];exact dC (by simp;omega)
    refine BO hs hf (v':=.slice (if m=lA then some ⟨b,off,none⟩ else (some (⟨b,off,none⟩:Addr)).map (·.add (lA*k))) (hA - lA) (m - lA)) (by simp[execOp,ho,hv,hrun']) (.refl w) ?_;rw[hnil,show hA - lA=0 from by omega];exact .slE k _ _ _ fun hq=>by have:=hfull hq;omega
   ·have hml:¬ m=lA:=by omega
    refine BO hs hf (v':=.slice (some ⟨b,off+lA*k,none⟩) (hA - lA) (m - lA)) (by simp[execOp,ho,hv,hrun',hml,It]) (.refl w) ?_;have hlen:((xs.take hA).drop lA).length=hA - lA:=by simp;omega
    have hmul:hA*k<=xs.length*k:=cy _ m4;have hspl:hA*k=lA*k+(hA - lA)*k:=by rw[<-bZ];congr 1;omega
    have hmem:∀ y∈(xs.take hA).drop lA,y.cells.length=k:=fun y hy=>g4 y (cw (cL hy))
    have e1:((((c.toList.drop off).take (xs.length*k)).take (hA*k)).drop (lA*k))=(c.toList.drop (off+lA*k)).take ((hA - lA)*k):=by
     rw[cz,cq hmul,dc,dG,show hA*k - lA*k=(hA - lA)*k from by omega]
    have:=Au.sl (w:=w) (I:=I) (lp:=lp) (L:=some L) k ((xs.take hA).drop lA) (if (B6 st.tmps rm).isSome=true then mA==hA else full&&hA==xs.length) b (off+lA*k) (m - lA) c E' fr g1 g2
     (by rw[hlen];omega) hmem (by rw[hlen];omega) (fun hq=>by rw[hlen];have:=hfull hq;omega) (by rw[hlen,<-e1];exact (g7.take' _).drop' _)
     (by rw[hlen,<-e1,Lz (fun y hy=>g4 y (cw hy)),I7 g4];exact (g8.take _).drop _)
    rwa [hlen] at this
  ·obtain⟨m,hrun,m1,m2,m3,m4,m5,m6⟩:=bnds (len:=0) (cap:=cap) (by omega) b1 b2 b3 b4;have hrun':=M7 (P:=cx.P) hu hi' w ad 0 cap a.eval lo hi mx lA hA m hrun;have hA0:hA=0:=by simpa using m4
   have hl0:lA=0:=by omega
   refine BO hs hf (v':=.slice (if m=lA then ad else ad.map (·.add (lA*i.size))) (hA - lA) (m - lA)) (by simp[execOp,ho,hv,hrun']) (.refl w) ?_;subst hA0;subst hl0;have hnil:((([]:List PV).take 0).drop 0)=[]:=rfl;rw[hnil];refine .slE k _ _ _ fun hq=>?_;rw[iss] at hq;cases hrm:rm with
   | none =>
    rw[hrm] at hq;simp only[eJ,bA,if_false,bB] at hq;have:=m5 hrm;have:=g6 hq.1;omega
   | some y =>
    rw[hrm] at hq;simp only[Option.isSome_some,if_true,beq_iff_eq] at hq;have:=m6 (by rw[hrm];simp);omega
 ·rename_i nm k' off n hr;rw[hr] at hx;split at hu';·cases hu'
  rename_i mA b1;split at hu';·cases hu'
  rename_i hA b2;split at hu';·cases hu'
  rename_i lA b3;obtain⟨hk,hu2⟩:=Bm hu';clear hu';simp only[bB,beq_iff_eq] at hk;obtain⟨rfl,b4⟩:=hk;cases hu2;rcases Jp hx with ⟨b,C,cap,hL,hv,hC,hn⟩ | ⟨hL,hv,rfl,rfl⟩
  ·obtain⟨m,hrun,m1,m2,m3,m4,m5,m6⟩:=bnds hn b1 b2 b3 b4;have hrun':=M7 (P:=cx.P) hu hi' w (some ⟨b,off*k,none⟩) n cap a.eval lo hi mx lA hA m hrun;rw[hik] at hrun';refine BO hs hf (v':=.slice (if m=lA then some ⟨b,off*k,none⟩ else (some (⟨b,off*k,none⟩:Addr)).map (·.add (lA*k))) (hA - lA) (m - lA)) (by simp[execOp,ho,hv,hrun']) (.refl w) ?_;split
   ·rename_i hz;rw[show hA - lA=0 from by omega];exact .slE k false _ _ (by simp)
   ·rename_i hz;have hCm:(off+lA+(m - lA))*k<=C:=dz (cy _ (by omega)) hC;have key:=Au.arr (w:=w) (I:=I) (lp:=lp) nm k (off+lA) (hA - lA) (m - lA) b C hL hCm (by omega);by_cases hml:m=lA
    ·have hl0:lA=0:=by omega
     subst hl0;simpa[hml] using key
    ·simpa[hml,It,bZ] using key
  ·obtain⟨m,hrun,m1,m2,m3,m4,m5,m6⟩:=bnds (len:=0) (cap:=0) (by omega) b1 b2 b3 b4;have hrun':=M7 (P:=cx.P) hu hi' w none 0 0 a.eval lo hi mx lA hA m hrun;have hA0:hA=0:=by omega
   have hl0:lA=0:=by omega
   have hm0:m=0:=by omega
   subst hA0;subst hl0;subst hm0;refine BO hs hf (v':=.slice none 0 0) (by simp[execOp,ho,hv,hrun']) (.refl w) ?_;simpa using Au.arrN nm k hL
 ·rename_i hr;rw[hr] at hx;split at hu';·cases hu'
  rename_i mA b1;split at hu';·cases hu'
  rename_i hA b2;split at hu';·cases hu'
  rename_i lA b3;obtain⟨b4,hu'⟩:=Bm hu';cases hu';obtain⟨m,hrun,m1,m2,m3,m4,m5,m6⟩:=bnds (len:=0) (cap:=0) (by omega) b1 b2 b3 b4;have hrun':=M7 (P:=cx.P) hu hi' w none 0 0 a.eval lo hi mx lA hA m hrun;have hA0:hA=0:=by omega
  have hl0:lA=0:=by omega
  have hm0:m=0:=by omega
  subst hA0;subst hl0;subst hm0;exact BO hs hf (v':=.slice none 0 0) (by simp[execOp,ho,F5 hx,hrun']) (.refl w) .nilS
 ·cases hu'
theorem Y6 (hs:SR lp I L st a.tmps.toList suf w) (hf:Fr cx w0 I0 F0 O0 Hd R e ds I F L w) {t:TypeId} {x:Operand} {lo hi:Option Operand} (ho:o.op=.slice t x lo hi none) {r:RX} {rl rh:Option RX}
  (hu:cx.P.underlying t=some .string) (h1:rx cx.G x=some r) (hl:rxO cx.G lo=some rl) (hh:rxO cx.G hi=some rh)
  (h:exec (o.dst.getD 0) (Ak st.objs) st.tmps (.strSlice r rl rh)=some out):BA cx w0 I0 F0 O0 Hd R e ds F lp suf o a w (apply st o.dst out):=by
 have hx:=By hs hf.wd h1;simp only[exec] at h;split at h
 case h_2=>cases h
 rename_i s hr;rw[hr] at hx;split at h;·cases h
 rename_i hA b2;split at h;·cases h
 rename_i lA b3;cases h
 have hb:(Instr.sliceBounds false s.length s.length (lo.map a.eval) (hi.map a.eval) none).run cx.P w=.ok (lA,hA,s.length) w:=by
  refine Ke w false s.length s.length a.eval lo hi none lA hA s.length (.inl ⟨rfl,rfl⟩) ?_ ?_
  ·rcases Jc hs hf.wd hh b2 with ⟨f1,f2,f3⟩ | ⟨xh,kh,rh',f1,f2,f3,f4⟩;·exact .inl ⟨f1,rfl,f3⟩
   ·exact .inr ⟨xh,kh,f1,f3,f4⟩
  ·rcases Jc hs hf.wd hl b3 with ⟨f1,f2,f3⟩ | ⟨xh,kh,rh',f1,f2,f3,f4⟩;·exact .inl ⟨f1,f3⟩
   ·exact .inr ⟨xh,kh,f1,f3,f4⟩
 have hsz:(⟨s.toArray⟩:ByteArray).size=s.length:=by simp[ByteArray.size]
 refine BO hs hf (v':=.string ⟨((s.take hA).drop lA).toArray⟩) ?_ (.refl w) (.str _);simp[execOp,ho,EQ hx,Instr.sliceAt,Instr.slice,run_underlying hu,hsz,hb,ByteArray.extract_mk,dc]
end ops
end Go.Ab


namespace Go.Ab
structure Src (P:Program) (w:World) (I:Nat->Prop) (lp:Nat->Option Nat) (size:Nat) (x:Value) (ys:List PV) (news:List Value):Prop where
 len:Builtin.lenOf x=pure ys.length
 first:∀ n,n<=ys.length->∀ w':World,w'.heap=w.heap->(Builtin.firstCells size n x).run P w'=.ok (news.take (n*size)).toArray w'
 lenN:news.length=ys.length*size
 one:Bn news
 rep:Aq w I lp none (cellsL ys) news
 each:∀ y∈ys,y.cells.length=size
theorem Pw {P:Program} {w:World} {b off N size:Nat} {c:Array Value} {E:TypeId} {fr:Nat×Nat} (hb:w.heap[b]?=some (.cells c E fr)) (hle:off+N<=c.size) {n len cap:Nat} (hn:n*size<=N) {w':World} (hw:w'.heap=w.heap) :
  (Builtin.firstCells size n (.slice (some ⟨b,off,none⟩) len cap)).run P w'=.ok (((c.toList.drop off).take N).take (n*size)).toArray w':=by
 have hl:(((c.toList.drop off).take N).take (n*size)).length=n*size:=by simp;omega
 refine run_firstCells_some w' size n ⟨b,off,none⟩ len cap _ hl ?_;intro j v hj;have hjn:j < n*size:=by have:=(bL.1 hj).1;omega
 rw[It,NM (by rw[hw];exact hb)];rw[cz,dV (by omega),ec] at hj;simpa using hj
theorem Si {P:Program} {size:Nat} {w':World} {len cap:Nat}:(Builtin.firstCells size 0 (.slice none len cap)).run P w'=.ok #[] w':=by simp[Builtin.firstCells]
theorem Pd {P:Program} {size:Nat} {w':World} {a:Option Addr} {len cap:Nat}:(Builtin.firstCells size 0 (.slice a len cap)).run P w'=.ok #[] w':=by
 cases a with
 | none=>exact Si
 | some a =>
  have:=run_firstCells_some (P:=P) w' size 0 a len cap [] (by simp) (by simp);simpa using this
theorem UC {w:World} {I:Nat->Prop} {lp:Nat->Option Nat} (s:List UInt8):Aq w I lp none (cellsL (Di s)) (s.map fun b=>Value.int .u8 (b.toNat:Int)):=by
 induction s with
 | nil=>exact .nil
 | cons b s ih=>exact .cons _ _ _ _ (.int .u8 _) ih
theorem kt_old {kt E:Nat} (h:kt=0\/E=kt) (el:Nat):(if kt=el then el else 0)=0\/E=(if kt=el then el else 0):=by
 by_cases h2:kt=el
 ·rw[if_pos h2,<-h2];exact h
 ·rw[if_neg h2];exact .inl rfl
theorem kt_new (kt el:Nat):(if kt=el then el else 0)=0\/el=(if kt=el then el else 0):=by
 by_cases h2:kt=el
 ·rw[if_pos h2];exact .inr rfl
 ·rw[if_neg h2];exact .inl rfl
section ops
variable {E:Type} {cx:Cx} {w0:World} {I0 F0:Nat->Prop} {O0:BZ} {Hd:Nat->Option Obj} {R:BR E} {e:E} {ds:List Deferred} {F:Nat->Prop} {lp:Nat->Option Nat} {suf:List Value}
variable {I:Nat->Prop} {L:AB} {st:St} {a:Act} {w:World} {o:Oper} {out:AK} {rop:Ax}
theorem Wr (P:Program) (hs:SR lp I L st a.tmps.toList suf w) {k:Nat} {x:PV} {v:Value} (hx:Au w I lp (some L) x v) {ys:List PV} (h:elems (Ak st.objs) k x=some ys) :
  ∃ news,Src P w I lp k v ys news:=by
 unfold elems at h;split at h
 ·obtain⟨hk,h2⟩:=Bm h;cases h2;have hk:=beq_iff_eq.1 hk;subst hk;rcases JE hx with ⟨b,off,cap,c,E',fr,rfl,g1,g2,g3,g4,g5,g6,g7,g8⟩ | ⟨rfl,ad,cap,rfl,_⟩;·exact⟨_,rfl,fun n hn w' hw=>Pw g2 g3 (cy _ hn) hw,by simp;omega,g7,g8,g4⟩
  ·refine⟨[],rfl,fun n hn w' _=>?_,by simp,by simp[Bn],.nil,by simp⟩;have:n=0:=by simpa using hn
   subst this;simpa using Pd (P:=P) (w':=w')
 ·rename_i nm k' off n;split at h
  case h_2=>cases h
  rename_i k'' kt xs hlk;obtain⟨hk,h2⟩:=Bm h;cases h2;simp only[bB,beq_iff_eq,decide_eq_true_eq] at hk;obtain⟨⟨rfl,rfl⟩,hle⟩:=hk;obtain⟨p,hp,ha⟩:=hs.ob nm _ hlk;rcases Jp hx with ⟨b,C,cap,hL,rfl,hC,hn⟩ | ⟨hL,rfl,rfl,rfl⟩
  ·rw[hL] at hp;cases hp;obtain⟨c,E',hb,hC',hxs,hkx,hone,hrep⟩:=ha;have hlen:((xs.drop off).take n).length=n:=by simp;omega
   have hmul:(off+n)*k<=xs.length*k:=cy _ hle;rw[bZ] at hmul
   have e1:((c.toList.take (xs.length*k)).drop (off*k)).take (n*k)=(c.toList.drop (off*k)).take (n*k):=by
    rw[dc,cz,cq (by omega)]
   refine⟨(c.toList.drop (off*k)).take (n*k),by rw[hlen];rfl,fun m hm w' hw=>?_,by rw[hlen];simp;omega,?_,?_,?_⟩
   ·rw[hlen] at hm;exact Pw hb (by omega) (cy _ hm) hw
   ·rw[<-e1];exact (hone.drop' _).take' _
   ·have:=(hrep.drop (off*k)).take (n*k)
    rwa [<-Lz hkx,<-I7 (fun x hx=>hkx x (cL hx)),e1] at this
   ·exact fun y hy=>hkx y (cL (cw hy))
  ·refine⟨[],rfl,fun n hn w' _=>?_,by simp,by simp[Bn],by rw[ew];exact .nil,by simp⟩;have:n=0:=by simpa using hn
   subst this;simpa using Pd (P:=P) (w':=w')
 ·cases h;rw[F5 hx];refine⟨[],rfl,fun n hn w' _=>?_,by simp,by simp[Bn],.nil,by simp⟩;have:n=0:=by simpa using hn
  subst this;simpa using Pd (P:=P) (w':=w')
 ·rename_i s;obtain⟨hk,h2⟩:=Bm h;cases h2;have hk:=beq_iff_eq.1 hk;subst hk;rw[EQ hx];refine⟨s.map fun b=>Value.int .u8 (b.toNat:Int),by simp[Builtin.lenOf,Di,ByteArray.size],fun n hn w' _=>?_,by simp[Di],?_,UC s,?_⟩;·simp[Builtin.firstCells,ByteArray.extract_mk]
  ·intro v hv;obtain⟨b,_,rfl⟩:=bE.1 hv;rfl
  ·intro y hy;obtain⟨b,_,rfl⟩:=bE.1 hy;rfl
 ·cases h
theorem OU {P:Program} {w:World} {t u el ty:TypeId} {ats:Array TypeId} (a0:ats[0]?=some t) (a1:ats[1]?=some u) {i:TypeInfo} {zv:Value} {d:TypeDesc} (hu:P.underlying t=some (.slice el)) (hi:P.info? el=some i) (hz:i.zero=some zv)
  (hu2:P.underlying u=some d) (hd:d=.string\/∃ e',d=.slice e') {base:Option Addr} {sLen sCap:Nat} {olds:List Value} (hold:∀ w':World,w'.heap=w.heap->(Builtin.firstCells i.size sLen (.slice base sLen sCap)).run P w'=.ok olds.toArray w')
  {x:Value} {m:Nat} {news:List Value} (hl:Builtin.lenOf x=pure m) (hnew:∀ w':World,w'.heap=w.heap->(Builtin.firstCells i.size m x).run P w'=.ok news.toArray w')
  (hg:sCap < sLen+m) (hle:sLen+m<=Ff) (hb:i.bytes<=65536) :
  (Builtin.append_ ats ty #[.slice base sLen sCap,x]).run P w=.ok (.slice (some ⟨w.heap.size,0,none⟩) (sLen+m) (grownCap w (sLen+m) sCap el))
   (w.drew.alloc (.cells (olds.toArray++news.toArray++Builtin.zeroCells zv.cells (grownCap w (sLen+m) sCap el - (sLen+m))) el)):=by
 have hn:¬ (sLen+m<=sCap):=by omega
 unfold Ff at hle;have h63':¬ (9223372036854775807 < ((sLen:Int)+(m:Int))):=by omega
 have hmul:(sLen+m)*i.bytes<=140737488355328:=calc (sLen+m)*i.bytes<=2147483648*65536:=Nat.mul_le_mul hle hb
  _=140737488355328:=by decide
 have hfit:=growslice_fits hg hmul;have h48':¬ (281474976710656 < Builtin.nextslicecap (sLen+m) sCap*i.bytes):=by omega
 have hf:=hnew w.drew rfl;have hfo:=hold w.drew rfl;rcases hd with rfl | ⟨e',rfl⟩
 ·simp[Builtin.append_,a0,a1,run_underlying hu,run_underlying hu2,sizeOf,typeInfo,zeroValue,hi,hz,hl,hn,h63',h48',Question.forced,hf,hfo,newRow,grownCap];congr 2;exact Array.ext' (by simp[cC])
 ·simp[Builtin.append_,a0,a1,run_underlying hu,run_underlying hu2,sizeOf,typeInfo,zeroValue,hi,hz,hl,hn,h63',h48',Question.forced,hf,hfo,newRow,grownCap];congr 2;exact Array.ext' (by simp[cC])
theorem RB {P:Program} {w:World} {t u el ty:TypeId} {ats:Array TypeId} (a0:ats[0]?=some t) (a1:ats[1]?=some u) {i:TypeInfo} {d:TypeDesc} (hu:P.underlying t=some (.slice el)) (hi:P.info? el=some i)
  (hu2:P.underlying u=some d) (hd:d=.string\/∃ e',d=.slice e') {base:Option Addr} {sLen sCap:Nat}
  {x:Value} {m:Nat} {news:List Value} (hl:Builtin.lenOf x=pure m) (hnew:(Builtin.firstCells i.size m x).run P w=.ok news.toArray w)
  (hn:sLen+m<=sCap) {w':World} (hst:(match base with | some a=>storeCells (a.add (sLen*i.size)) news | none=>pure ()).run P w=.ok () w') :
  (Builtin.append_ ats ty #[.slice base sLen sCap,x]).run P w=.ok (.slice base (sLen+m) sCap) w':=by
 cases base with
 | none =>
  have hst:w=w':=by simpa using hst
  subst hst;rcases hd with rfl | ⟨e',rfl⟩<;>simp[Builtin.append_,a0,a1,run_underlying hu,run_underlying hu2,sizeOf,typeInfo,hi,hl,hn,hnew]
 | some a =>
  simp only at hst;rcases hd with rfl | ⟨e',rfl⟩<;>simp[Builtin.append_,a0,a1,run_underlying hu,run_underlying hu2,sizeOf,typeInfo,hi,hl,hn,hnew,hst]
theorem bk (hs:SR lp I L st a.tmps.toList suf w) (hf:Fr cx w0 I0 F0 O0 Hd R e ds I F L w) {d:Nat} (hd:o.dst=some d) (hc:st.objs[d]?=some []) {k kt:Nat}
  (hr:(execOp a.eval o).run cx.P w=.ok (.value (.slice none 0 0)) w) :
  BA cx w0 I0 F0 O0 Hd R e ds F lp suf o a w (apply st o.dst {v:=.arr (d,0) k 0 0,new:=[.arr k kt []]}):=by
 have hn:=hs.news hc [.arr k kt []] [none] rfl (by
  intro j ob p h1 h2;cases j with
  | zero=>simp at h1 h2;subst h1;subst h2;exact⟨k,_,rfl⟩
  | succ j=>simp at h1)
 refine⟨.slice none 0 0,w,I,Cg L d [none],.inl hr,?_,?_⟩
 ·rw[HR,hd];exact hn.put d (.arrN _ k (by simp[Cg]))
 ·refine Fr.news hf hc rfl rfl rfl (bF _) (fun _ _=>rfl) ?_ ?_
  ·intro j b C hj;cases j with
   | zero=>simp at hj
   | succ j=>simp at hj
  ·intro j j' b C C' h1 _;cases j with
   | zero=>simp at h1
   | succ j=>simp at h1
theorem Pu {w:World} {I:Nat->Prop} {lp:Nat->Option Nat} {k:Nat} {xs ys:List PV} {olds news:List Value} {zs:Array Value} (h1:Aq w I lp none (cellsL xs) olds) (h2:Aq w I lp none (cellsL ys) news)
  (o1:Bn olds) (o2:Bn news) (k1:∀ x∈xs,x.cells.length=k) (k2:∀ x∈ys,x.cells.length=k) :
  (∀ x∈xs++ys,x.cells.length=k)/\Bn (((olds.toArray++news.toArray++zs).toList).take ((xs++ys).length*k))/\Aq w I lp none (cellsL (xs++ys)) (((olds.toArray++news.toArray++zs).toList).take ((xs++ys).length*k)):=by
 have l1:=h1.length;have l2:=h2.length;rw[Kg k1] at l1;rw[Kg k2] at l2
 have e:((olds.toArray++news.toArray++zs).toList).take ((xs++ys).length*k)=olds++news:=by
  simp only[Array.toList_append];rw[ed (by simp[bZ];omega),b8 (by simp[bZ];omega)]
 rw[e,Kh];refine⟨fun x hx=>(bW.1 hx).elim (k1 x) (k2 x),o1.append' o2,h1.append h2⟩
theorem V0 (hs:SR lp I L st a.tmps.toList suf w) (hf:Fr cx w0 I0 F0 O0 Hd R e ds I F L w) {c:Call} (ho:o.op=.call c) {x y:Operand} (hcal:c.callee=.builtin .append) {ty u:TypeId} (a0:c.argTypes[0]?=some ty) (a1:c.argTypes[1]?=some u) (harg:c.args=#[x,y])
  {k by_:Nat} {z:PV} {r1 r2:RX} (he:Ge cx.P ty=some (k,by_,z)) {el:TypeId} (hel:cx.P.underlying ty=some (.slice el)) {du:TypeDesc} (hu2:cx.P.underlying u=some du) (hdu:du=.string\/∃ e',du=.slice e')
  (h1:rx cx.G x=some r1) (h2:rx cx.G y=some r2) {d:Nat} (hd:o.dst=some d) (hcl:st.objs[d]?=some [])
  (h:exec (o.dst.getD 0) (Ak st.objs) st.tmps (.append k el r1 r2)=some out):BA cx w0 I0 F0 O0 Hd R e ds F lp suf o a w (apply st o.dst out):=by
 obtain⟨el',i,zv,hu,hi,hik,hby,hb6,hz,hzk,hzv,hzn,hzr⟩:=Lx he;rw[hu] at hel;cases hel;have hx:=By hs hf.wd h1;have hy:=By hs hf.wd h2
 have hrun:∀ {v' w'},(Builtin.append_ c.argTypes o.type #[a.eval x,a.eval y]).run cx.P w=.ok v' w'->(execOp a.eval o).run cx.P w=.ok (.value v') w':=by
  intro v' w' hr;simp[execOp,ho,resolve,hcal,harg,invoke,builtin,hr]
 simp only[exec,hd,cr] at h;split at h;·cases h
 rename_i ys hys;obtain⟨news,hsrc⟩:=Wr cx.P hs hy hys
 have hnew:∀ w':World,w'.heap=w.heap->(Builtin.firstCells i.size ys.length (a.eval y)).run cx.P w'=.ok news.toArray w':=fun w' hw=>by
  have:=hsrc.first ys.length (bF _) w' hw;rw[b8 (by rw[hsrc.lenN];exact bF _)] at this;rw[hik];exact this
 have hkm:∀ w':World,(∀ b,I b->w'.heap[b]?=w.heap[b]?)->Aq w' I lp none (cellsL ys) news:=fun w' hw=>Aq.mono (fun _ h=>h) hw (fun _ _ h=>h) hsrc.rep;split at h
 ·rename_i hr;rw[hr] at hx;have hxv:=F5 hx;obtain⟨hk,h⟩:=Bm h;cases h;have hk:=of_decide_eq_true hk;by_cases hy0:ys=[]
  ·subst hy0;have hn0:news=[]:=by have:=hsrc.lenN;simpa using this
   have hr0:=RB (P:=cx.P) (w:=w) (ty:=o.type) a0 a1 hu hi hu2 hdu (base:=none) (sLen:=0) (sCap:=0) hsrc.len (hnew w rfl) (by simp) (w':=w) rfl;have:=bk hs hf hd hcl (k:=k) (kt:=el) (hrun (by rw[hxv];exact hr0));simpa[hd] using this
  ·have hpos:0 < ys.length:=List.length_pos_iff.2 hy0;have hr0:=OU (P:=cx.P) (w:=w) (ty:=o.type) a0 a1 hu hi hz hu2 hdu (base:=none) (sLen:=0) (sCap:=0) (olds:=[]) (fun w' _=>Si) hsrc.len hnew (by omega) (by omega) (by omega);simp only[cd] at hr0;have hge:=grownCap_ge w ys.length 0 el;obtain⟨k3,o3,r3⟩:=Pu (w:=w) (I:=I) (lp:=lp) (xs:=[]) (olds:=[]) (zs:=Builtin.zeroCells zv.cells (grownCap w ys.length 0 el - ys.length)) .nil hsrc.rep (by simp[Bn]) hsrc.one (by simp) hsrc.each;simp only[cE] at k3 o3 r3
   have:=Nw hs hf hd hcl (k:=k) (kt:=el) (xs:=ys) (t:=el) (.inr rfl) (cap:=grownCap w ys.length 0 el) (w1:=w.drew) ⟨rfl,rfl,rfl,rfl⟩ hge (by
     simp only[eh,eK,size_zeroCells,hsrc.lenN,dP]
     have hzs:zv.cells.size=k:=by
      have:=((hzr w I lp none).cells hzv).2.length;simp at this;omega
     rw[hzs,cd,<-bZ,eL hge];exact bF _) k3 o3 r3 (hrun (by rw[hxv];exact hr0))
   simpa[hd] using this
 ·rename_i nm k' off n hr;rw[hr] at hx;split at h
  case h_2=>cases h
  rename_i k'' kt xs hlk;obtain⟨hk,h⟩:=Bm h;cases h;simp only[bB,beq_iff_eq,decide_eq_true_eq] at hk;obtain⟨⟨⟨⟨rfl,rfl⟩,rfl⟩,hnx⟩,hmost⟩:=hk;obtain⟨p,hp,ha⟩:=hs.ob nm _ hlk
  have hzs:zv.cells.size=k:=by
   have:=((hzr w I lp none).cells hzv).2.length;simp at this;omega
  have hold:∀ (b C cap:Nat),L nm=some (some (b,C))->(0+cap)*k<=C->n<=cap->∃ c E',w.heap[b]?=some (.cells c E' (0,0))/\c.size=C/\(n*k<=c.size/\(kt=0\/E'=kt))/\Bn (c.toList.take (n*k))/\Aq w I lp none (cellsL (xs.take n)) (c.toList.take (n*k))/\(∀ x∈xs.take n,x.cells.length=k):=by
   intro b C cap hL hC hn;rw[hL] at hp;cases hp;obtain⟨c,E',hb,hC',hxs,hkx,hone,hrep⟩:=ha;have hmul:n*k<=xs.length*k:=cy _ hnx;have e1:(c.toList.take (xs.length*k)).take (n*k)=c.toList.take (n*k):=by rw[cz,cq hmul]
   refine⟨c,E',hb,hC',⟨by omega,hxs.2⟩,?_,?_,fun x hx=>hkx x (cw hx)⟩;·rw[<-e1];exact hone.take' _
   ·rw[I7 hkx,<-e1];exact hrep.take _
  have htl:(xs.take n).length=n:=by simp;omega
  rcases Jp hx with ⟨b,C,cap,hL,hv,hC,hn⟩ | ⟨hL,hv,_,rfl⟩
  ·obtain⟨c,E',hb,hcC,⟨hnk,hkt⟩,hone,hrep,heach⟩:=hold b C cap hL hC hn;rw[Nat.zero_mul] at hv;by_cases hfit:n+ys.length<=cap
   ·
    have hfk:(n+ys.length)*k<=cap*k:=cy _ hfit;rw[bZ] at hfk;rw[cd] at hC;have hst:=run_storeCells_at cx.P b (n*k) E' news 0 c w hb (by rw[hsrc.lenN];omega) hsrc.one;simp only[Nat.add_zero] at hst
    have hr0:=RB (P:=cx.P) (w:=w) (ty:=o.type) a0 a1 hu hi hu2 hdu (base:=some ⟨b,0,none⟩) (sLen:=n) (sCap:=cap) hsrc.len (hnew w rfl) hfit
     (w':=w.setRow b (c.toList.take (n*k)++news++c.toList.drop (n*k+news.length)).toArray) (by simp only[It,hik,cd];exact hst)
    have hkI:∀ b',I b'->(w.setRow b (c.toList.take (n*k)++news++c.toList.drop (n*k+news.length)).toArray).heap[b']?=w.heap[b']?:=fun b' hb'=>IY w b _ fun e=>(hf.lB nm b C hL).2.2.1 (e ▸ hb');have hln:=hsrc.lenN
    have e2:(c.toList.take (n*k)++news++c.toList.drop (n*k+news.length)).take ((xs.take n++ys).length*k)=c.toList.take (n*k)++news:=by
     have hlt:(c.toList.take (n*k)++news).length=(xs.take n++ys).length*k:=by rw[cm,cm,htl,bZ,cR,dl];omega
     rw[ed (by rw[hlt];exact bF _),b8 (by rw[hlt];exact bF _)]
    refine Py hs hf hL (w':=w.setRow b (c.toList.take (n*k)++news++c.toList.drop (n*k+news.length)).toArray) (p':=some (b,C)) (v':=.slice (some ⟨b,0,none⟩) (n+ys.length) cap) (k:=k) (kt:=if kt=el then el else 0) (xs:=xs.take n++ys) (hrun (by rw[hv];exact hr0)) rfl rfl rfl (by simp) (fun b' _ hne=>IY w b _ fun e=>hne C (by rw[e]))
     (fun b' C' e=>by cases e;exact⟨by simpa using (hf.lB nm b C hL).2.1,.inr ⟨C,rfl⟩⟩) (fun L'=>?_) (fun L' hL'=>?_)
    ·refine⟨_,E',setRow_heap w b c _ E' _ hb,by simp;omega,⟨by simp[htl,bZ];omega,kt_old hkt el⟩,fun x hx=>(bW.1 hx).elim (heach x) (hsrc.each x),?_,?_⟩;·simp only[e2];exact hone.append' hsrc.one
     ·simp only[e2,Kh];exact (Aq.mono (fun _ h=>h) hkI (fun _ _ h=>h) hrep).append (hkm _ hkI)
    ·have:=Au.arr (w:=w.setRow b (c.toList.take (n*k)++news++c.toList.drop (n*k+news.length)).toArray) (I:=I) (lp:=lp) nm k 0 (n+ys.length) cap b C hL' (by rw[cd];exact hC) hfit;simpa using this
   ·
    have hr0:=OU (P:=cx.P) (w:=w) (ty:=o.type) a0 a1 hu hi hz hu2 hdu (base:=some ⟨b,0,none⟩) (sLen:=n) (sCap:=cap) (olds:=c.toList.take (n*k)) (fun w' hw=>by
      have:=Pw (P:=cx.P) (size:=i.size) (n:=n) (len:=n) (cap:=cap) (off:=0) (N:=n*k) hb (by omega) (by rw[hik];exact bF _) hw;simpa[hik,cz] using this) hsrc.len hnew (by omega) hmost (by omega)
    have hge:=grownCap_ge w (n+ys.length) cap el;obtain⟨k3,o3,r3⟩:=Pu (w:=w) (I:=I) (lp:=lp) (zs:=Builtin.zeroCells zv.cells (grownCap w (n+ys.length) cap el - (n+ys.length))) hrep hsrc.rep hone hsrc.one heach hsrc.each;have hnk':(c.toList.take (n*k)).length=n*k:=by simp;omega
    have hsize:((c.toList.take (n*k)).toArray++news.toArray++Builtin.zeroCells zv.cells (grownCap w (n+ys.length) cap el - (n+ys.length))).size=grownCap w (n+ys.length) cap el*k:=by
     simp only[eh,eK,size_zeroCells,hsrc.lenN,hnk',hzs];rw[<-bZ,<-bZ,eL hge]
    generalize ((c.toList.take (n*k)).toArray++news.toArray++Builtin.zeroCells zv.cells (grownCap w (n+ys.length) cap el - (n+ys.length)))=row at *;have hkb:∀ b',b' < w.heap.size->(w.drew.alloc (.cells row el)).heap[b']?=w.heap[b']?:=fun b' hb'=>by rw[Eg w.drew _ hb'];rfl
    refine Py hs hf hL (w':=w.drew.alloc (.cells row el)) (p':=some (w.heap.size,row.size)) (v':=.slice (some ⟨w.heap.size,0,none⟩) (n+ys.length) (grownCap w (n+ys.length) cap el)) (k:=k) (kt:=if kt=el then el else 0) (xs:=xs.take n++ys) (hrun (by rw[hv];exact hr0))
     rfl rfl rfl (by simp) (fun b' hb' _=>hkb b' hb') (fun b' C' e=>by cases e;exact⟨by simp,.inl (bF _)⟩) (fun L'=>?_) (fun L' hL'=>?_)
    ·refine⟨row,el,IX w.drew _,rfl,⟨?_,kt_new kt el⟩,k3,o3,Aq.mono (fun _ h=>h) (fun b' hb'=>hkb b' (hf.sep.iB b' hb')) (fun _ _ h=>h) r3⟩;rw[hsize,cm,htl];exact cy _ hge
    ·have:=Au.arr (w:=w.drew.alloc (.cells row el)) (I:=I) (lp:=lp) nm k 0 (n+ys.length) (grownCap w (n+ys.length) cap el) w.heap.size row.size hL' (by rw[hsize];simp) hge;simpa using this
  ·
   by_cases hy0:ys=[]
   ·subst hy0;have hn0:news=[]:=by have:=hsrc.lenN;simpa using this
    have hr0:=RB (P:=cx.P) (w:=w) (ty:=o.type) a0 a1 hu hi hu2 hdu (base:=none) (sLen:=0) (sCap:=0) hsrc.len (hnew w rfl) (by simp) (w':=w) rfl;exact Py hs hf hL (p':=none) (v':=.slice none 0 0) (k:=k) (kt:=if kt=el then el else 0) (xs:=xs.take 0++[]) (hrun (by rw[hv];exact hr0)) rfl rfl rfl (bF _) (fun _ _ _=>rfl) (fun b C e=>by cases e) (fun L'=>⟨k,if kt=el then el else 0,by simp⟩) (fun L' hL'=>.arrN nm k hL')
   ·have hpos:0 < ys.length:=List.length_pos_iff.2 hy0;have hr0:=OU (P:=cx.P) (w:=w) (ty:=o.type) a0 a1 hu hi hz hu2 hdu (base:=none) (sLen:=0) (sCap:=0) (olds:=[]) (fun w' _=>Si) hsrc.len hnew (by omega) (by omega) (by omega);simp only[cd] at hr0;have hge:=grownCap_ge w ys.length 0 el;obtain⟨k3,o3,r3⟩:=Pu (w:=w) (I:=I) (lp:=lp) (xs:=[]) (olds:=[]) (zs:=Builtin.zeroCells zv.cells (grownCap w ys.length 0 el - ys.length)) .nil hsrc.rep (by simp[Bn]) hsrc.one (by simp) hsrc.each;simp only[cE] at k3 o3 r3
    have hsize:((#[]:Array Value)++news.toArray++Builtin.zeroCells zv.cells (grownCap w ys.length 0 el - ys.length)).size=grownCap w ys.length 0 el*k:=by
     simp only[eh,eK,size_zeroCells,hsrc.lenN,hzs];rw[dP,cd,<-bZ,eL hge]
    generalize ((#[]:Array Value)++news.toArray++Builtin.zeroCells zv.cells (grownCap w ys.length 0 el - ys.length))=row at *;have hkb:∀ b',b' < w.heap.size->(w.drew.alloc (.cells row el)).heap[b']?=w.heap[b']?:=fun b' hb'=>by rw[Eg w.drew _ hb'];rfl
    have e0:xs.take 0++ys=ys:=by simp
    rw[e0,cd]
    refine Py hs hf hL (w':=w.drew.alloc (.cells row el)) (p':=some (w.heap.size,row.size)) (v':=.slice (some ⟨w.heap.size,0,none⟩) ys.length (grownCap w ys.length 0 el)) (k:=k) (kt:=if kt=el then el else 0) (xs:=ys) (hrun (by rw[hv];exact hr0))
     rfl rfl rfl (by simp) (fun b' hb' _=>hkb b' hb') (fun b' C' e=>by cases e;exact⟨by simp,.inl (bF _)⟩) (fun L'=>?_) (fun L' hL'=>?_)
    ·refine⟨row,el,IX w.drew _,rfl,⟨?_,kt_new kt el⟩,k3,o3,Aq.mono (fun _ h=>h) (fun b' hb'=>hkb b' (hf.sep.iB b' hb')) (fun _ _ h=>h) r3⟩;rw[hsize];exact cy _ hge
    ·have:=Au.arr (w:=w.drew.alloc (.cells row el)) (I:=I) (lp:=lp) nm k 0 ys.length (grownCap w ys.length 0 el) w.heap.size row.size hL' (by rw[hsize];simp) hge;simpa using this
 ·rename_i k' xs hr;rw[hr] at hx;split at h;·cases h
  rename_i y0 ys0;obtain⟨hk,h⟩:=Bm h;cases h;simp only[bB,beq_iff_eq,decide_eq_true_eq] at hk;obtain⟨rfl,hmost⟩:=hk
  have hzs:zv.cells.size=k:=by
   have:=((hzr w I lp none).cells hzv).2.length;simp at this;omega
  obtain⟨base,olds,hv,hold,hlo,o1,hrep,heach⟩:∃ base olds,a.eval x=.slice base xs.length xs.length/\(∀ w':World,w'.heap=w.heap->(Builtin.firstCells i.size xs.length (.slice base xs.length xs.length)).run cx.P w'=.ok olds.toArray w') /\
    olds.length=xs.length*k/\Bn olds/\Aq w I lp none (cellsL xs) olds/\(∀ x∈xs,x.cells.length=k):=by
   rcases JE hx with ⟨b,off,cap,c,E',fr,hv,g1,g2,g3,g4,g5,g6,g7,g8⟩ | ⟨rfl,ad,cap,hv,g6⟩
   ·have:=g6 rfl;subst this;refine⟨_,_,hv,fun w' hw=>?_,by simp;omega,g7,g8,g4⟩;have:=Pw (P:=cx.P) (size:=i.size) (n:=xs.length) (len:=xs.length) (cap:=xs.length) (off:=off) (N:=xs.length*k) g2 g3 (by rw[hik];exact bF _) hw;simpa[hik,cz] using this
   ·have:=g6 rfl;subst this;exact⟨ad,[],hv,fun w' _=>Pd,by simp,by simp[Bn],.nil,by simp⟩
  have hr0:=OU (P:=cx.P) (w:=w) (ty:=o.type) a0 a1 hu hi hz hu2 hdu hold hsrc.len hnew (by simp only[cA];omega) (by simp only[cA];exact hmost) (by omega);have hge:=grownCap_ge w (xs.length+(y0 :: ys0).length) xs.length el;obtain⟨k3,o3,r3⟩:=Pu (w:=w) (I:=I) (lp:=lp) (zs:=Builtin.zeroCells zv.cells (grownCap w (xs.length+(y0 :: ys0).length) xs.length el - (xs.length+(y0 :: ys0).length))) hrep hsrc.rep o1 hsrc.one heach hsrc.each
  have hsize:(olds.toArray++news.toArray++Builtin.zeroCells zv.cells (grownCap w (xs.length+(y0 :: ys0).length) xs.length el - (xs.length+(y0 :: ys0).length))).size=grownCap w (xs.length+(y0 :: ys0).length) xs.length el*k:=by
   simp only[eh,eK,size_zeroCells,hsrc.lenN,hlo,hzs];rw[<-bZ,<-bZ,eL hge]
  have:=Nw hs hf hd hcl (k:=k) (kt:=el) (xs:=xs++y0 :: ys0) (t:=el) (.inr rfl) (cap:=grownCap w (xs.length+(y0 :: ys0).length) xs.length el) (w1:=w.drew) ⟨rfl,rfl,rfl,rfl⟩ (by rw[cm];exact hge) (by rw[hsize];exact bF _) k3 o3 r3
   (hrun (by rw[hv,cm];exact hr0))
  simpa[hd] using this
 ·cases h
end ops
end Go.Ab


namespace Go.Ab
section ops
variable {E:Type} {cx:Cx} {w0:World} {I0 F0:Nat->Prop} {O0:BZ} {Hd:Nat->Option Obj} {R:BR E} {e:E} {ds:List Deferred} {F:Nat->Prop} {lp:Nat->Option Nat} {suf:List Value}
variable {I:Nat->Prop} {L:AB} {st:St} {a:Act} {w:World} {o:Oper} {out:AK} {rop:Ax}
theorem done_upd0 (hs:SR lp I L st a.tmps.toList suf w) (hf:Fr cx w0 I0 F0 O0 Hd R e ds I F L w) {nm:Nm} (hL:L nm=some none)
  {v:PV} {v':Value} {k kt:Nat} (hr:(execOp a.eval o).run cx.P w=.ok (.value v') w\/((execOp a.eval o).run cx.P w=.ok .skip w/\v'=undef))
  (hv:Au w I lp (some L) v v'):BA cx w0 I0 F0 O0 Hd R e ds F lp suf o a w (apply st o.dst {v,upd:=some (nm,.arr k kt [])}):=by
 have hu:=hs.upd (w':=w) (ob':=.arr k kt []) hL (fun _ _=>rfl) (fun _ _ _ _ _=>rfl) ⟨k,_,rfl⟩;refine⟨v',w,I,L,hr,?_,hf⟩;rw[HR];cases o.dst with
 | none=>exact hu
 | some d=>exact hu.put d hv
theorem SX {P:Program} {w w':World} {t el ty:TypeId} {ats:Array TypeId} (a0:ats[0]?=some t) {i:TypeInfo} (hu:P.underlying t=some (.slice el)) (hi:P.info? el=some i)
  {base:Option Addr} {dLen dCap:Nat} {x:Value} {m:Nat} {news:List Value} (hl:Builtin.lenOf x=pure m)
  (hnew:(Builtin.firstCells i.size (Nat.min m dLen) x).run P w=.ok news.toArray w)
  (hst:(match base with | some a=>storeCells a news | none=>pure ()).run P w=.ok () w') :
  (Builtin.copy_ ats ty #[.slice base dLen dCap,x]).run P w=.ok (.int .i64 ((Nat.min m dLen:Nat):Int)) w':=by
 cases base with
 | none =>
  have hst:w=w':=by simpa using hst
  subst hst;simp[Builtin.copy_,a0,run_underlying hu,sizeOf,typeInfo,hi,hl,hnew,goInt]
 | some a =>
  simp only at hst;simp[Builtin.copy_,a0,run_underlying hu,sizeOf,typeInfo,hi,hl,hnew,hst,goInt]
theorem op_copy (hs:SR lp I L st a.tmps.toList suf w) (hf:Fr cx w0 I0 F0 O0 Hd R e ds I F L w) {c:Call} (ho:o.op=.call c) {x y:Operand} (hcal:c.callee=.builtin .copy) {ty:TypeId} (a0:c.argTypes[0]?=some ty) (harg:c.args=#[x,y])
  {k by_:Nat} {z:PV} {r1 r2:RX} (he:Ge cx.P ty=some (k,by_,z)) (h1:rx cx.G x=some r1) (h2:rx cx.G y=some r2)
  (h:exec (o.dst.getD 0) (Ak st.objs) st.tmps (.copy k r1 r2)=some out):BA cx w0 I0 F0 O0 Hd R e ds F lp suf o a w (apply st o.dst out):=by
 obtain⟨el,i,zv,hu,hi,hik,hby,hb6,hz,hzk,hzv,hzn,hzr⟩:=Lx he;have hx:=By hs hf.wd h1;have hy:=By hs hf.wd h2
 have hrun:∀ {v' w'},(Builtin.copy_ c.argTypes o.type #[a.eval x,a.eval y]).run cx.P w=.ok v' w'->(execOp a.eval o).run cx.P w=.ok (.value v') w':=by
  intro v' w' hr;simp[execOp,ho,resolve,hcal,harg,invoke,builtin,hr]
 simp only[exec] at h;split at h;·cases h
 rename_i ys hys;obtain⟨news,hsrc⟩:=Wr cx.P hs hy hys
 have hnew:∀ n,n<=ys.length->(Builtin.firstCells i.size n (a.eval y)).run cx.P w=.ok (news.take (n*k)).toArray w:=fun n hn=>by
  rw[hik];exact hsrc.first n hn w rfl
 split at h
 ·rename_i hr;rw[hr] at hx;cases h;have hr0:=SX (P:=cx.P) (w:=w) (w':=w) (ty:=o.type) a0 hu hi (base:=none) (dLen:=0) (dCap:=0) hsrc.len (by rw[show Nat.min ys.length 0=0 from Nat.min_zero _];exact hnew 0 (de _)) rfl;refine BO hs hf (hrun (by rw[F5 hx];exact hr0)) (.refl w) ?_;rw[show Nat.min ys.length 0=0 from Nat.min_zero _];exact .int .i64 _
 ·rename_i nm k' off n hr;rw[hr] at hx;split at h
  case h_2=>cases h
  rename_i k'' kt xs hlk;obtain⟨hk,h⟩:=Bm h;cases h;simp only[bB,beq_iff_eq,decide_eq_true_eq] at hk;obtain⟨⟨rfl,rfl⟩,hle⟩:=hk;obtain⟨p,hp,ha⟩:=hs.ob nm _ hlk;rcases Jp hx with ⟨b,C,cap,hL,hv,hC,hn⟩ | ⟨hL,hv,rfl,rfl⟩
  ·rw[hL] at hp;cases hp;obtain⟨c',E',hb,hC',hxs,hkx,hone,hrep⟩:=ha;have hyl:(ys.take n).length=Nat.min ys.length n:=by rw[cR];exact Nat.min_comm _ _
   have hmn:Nat.min ys.length n<=n:=Nat.min_le_right _ _;have hmy:Nat.min ys.length n<=ys.length:=Nat.min_le_left _ _;generalize hmm:Nat.min ys.length n=m at *
   have hml:(news.take (m*k)).length=m*k:=by
    have:m*k<=ys.length*k:=cy _ hmy;simp[hsrc.lenN,this]
   have hoff:off*k+m*k<=xs.length*k:=by rw[<-bZ];exact cy _ (by omega)
   have hst:=run_storeCells_at cx.P b (off*k) E' (news.take (m*k)) 0 c' w hb (by omega) (hsrc.one.take' _);simp only[Nat.add_zero] at hst;have hr0:=SX (P:=cx.P) (w:=w) (ty:=o.type) a0 hu hi (base:=some ⟨b,off*k,none⟩) (dLen:=n) (dCap:=cap) hsrc.len (by rw[hmm];exact hnew m hmy) hst;rw[hmm] at hr0;have hkI:∀ b',I b'->(w.setRow b (c'.toList.take (off*k)++news.take (m*k)++c'.toList.drop (off*k+(news.take (m*k)).length)).toArray).heap[b']?=w.heap[b']?:=fun b' hb'=>IY w b _ fun e=>(hf.lB nm b C hL).2.2.1 (e ▸ hb')
   have hysr:Aq w I lp none (cellsL (ys.take n)) (news.take (m*k)):=by
    have:=hsrc.rep.take (m*k);rw[<-I7 hsrc.each] at this
    have e0:ys.take m=ys.take n:=by
     rw[<-hmm];by_cases hc:ys.length<=n
     ·rw[show Nat.min ys.length n=ys.length from cq hc,dN,b8 hc]
     ·rw[show Nat.min ys.length n=n from eM (by omega)]
    rwa [e0] at this
   have hyk:∀ y∈ys.take n,y.cells.length=k:=fun y hy=>hsrc.each y (cw hy)
   have hnl:(xs.take off++ys.take n++xs.drop (off+(ys.take n).length)).length=xs.length:=by
    simp only[cm,cR,List.length_drop];omega
   have hcells:cellsL (xs.take off++ys.take n++xs.drop (off+(ys.take n).length))=splice (cellsL xs) (off*k) (cellsL (ys.take n)):=by
    unfold splice;rw[Kh,Kh,I7 hkx,Lz hkx,Kg hyk,bZ]
   have e1:=RM c'.toList (news.take (m*k)) (off*k) (xs.length*k) (by omega) (by simp;omega);have hspl:=hrep.splice hysr (off*k)
   refine NK hs hf hL (w':=w.setRow b (c'.toList.take (off*k)++news.take (m*k)++c'.toList.drop (off*k+(news.take (m*k)).length)).toArray) (v':=.int .i64 (m:Int)) (.inl (hrun (by rw[hv];exact hr0))) rfl rfl rfl (by simp)
    (fun b' hb'=>IY w b _ hb') ?_ (by rw[show (min (ys.length:Int) (n:Int))=(m:Int) from by have:min ys.length n=m:=hmm;omega];exact .int .i64 _)
   refine⟨_,E',setRow_heap w b c' _ E' _ hb,?_,by rw[hnl];exact hxs,?_,?_,?_⟩;·simp[hml];omega
   ·intro x hx;rcases bW.1 hx with hx | hx
    ·rcases bW.1 hx with hx | hx;·exact hkx x (cw hx)
     ·exact hyk x hx
    ·exact hkx x (cL hx)
   ·rw[hnl];simp only
    rw[e1];exact hone.splice (hsrc.one.take' _) _ _
   ·rw[hnl,hcells];simp only
    rw[e1];exact Aq.mono (fun _ h=>h) hkI (fun _ _ h=>h) hspl
  ·rw[hL] at hp;cases hp;obtain⟨k2,kt2,hk2⟩:=ha;simp only[Ob.arr.injEq] at hk2;obtain⟨rfl,rfl,rfl⟩:=hk2;have hr0:=SX (P:=cx.P) (w:=w) (w':=w) (ty:=o.type) a0 hu hi (base:=none) (dLen:=0) (dCap:=0) hsrc.len (by rw[show Nat.min ys.length 0=0 from Nat.min_zero _];exact hnew 0 (de _)) rfl
   have:=done_upd0 hs hf hL (k:=k) (kt:=kt) (v:=.int .i64 (min (ys.length:Int) ((0:Nat):Int))) (.inl (hrun (by rw[hv];exact hr0))) (by
    rw[show Nat.min ys.length 0=0 from Nat.min_zero _,show (min (ys.length:Int) ((0:Nat):Int))=((0:Nat):Int) from by omega];exact .int .i64 _)
   simpa using this
 ·cases h
theorem Uy (es:List MapEntry):(FJ es).length=2*es.length:=by
 induction es with
 | nil=>rfl
 | cons e es ih=>simp[FJ,ih];omega
theorem T3 (hs:SR lp I L st a.tmps.toList suf w) (hf:Fr cx w0 I0 F0 O0 Hd R e ds I F L w) {c:Call} (ho:o.op=.call c) {x:Operand} (hcal:c.callee=.builtin .len) {ty:TypeId} (a0:c.argTypes[0]?=some ty) (harg:c.args=#[x])
  {r1:RX} {d:TypeDesc} {tc:TC} (hu:cx.P.underlying ty=some d) (hd:(d=.string/\tc=.str)\/(∃ e',d=.slice e'/\tc=.slice)\/∃ k' e',d=.map k' e'/\tc=.map) (h1:rx cx.G x=some r1)
  (h:exec (o.dst.getD 0) (Ak st.objs) st.tmps (.len tc r1)=some out):BA cx w0 I0 F0 O0 Hd R e ds F lp suf o a w (apply st o.dst out):=by
 have hx:=By hs hf.wd h1
 have hrun:∀ {n:Nat},(Builtin.len_ c.argTypes o.type #[a.eval x]).run cx.P w=.ok (.int .i64 (n:Int)) w->BA cx w0 I0 F0 O0 Hd R e ds F lp suf o a w (apply st o.dst {v:=.int .i64 (n:Int)}):=by
  intro n hr;exact BO hs hf (by simp[execOp,ho,resolve,hcal,harg,invoke,builtin,hr]) (.refl w) (.int .i64 _)
 simp only[exec] at h;obtain⟨n,hn,rfl⟩:=bD.1 h;refine hrun ?_;rcases hd with ⟨rfl,rfl⟩ | ⟨e',rfl,rfl⟩ | ⟨k',e',rfl,rfl⟩
 ·cases hr:r1.ev st.tmps<;>rw[hr] at hn hx<;>simp only[IJ] at hn<;>first | contradiction | skip
  rename_i s;cases hn;have hz:(⟨s.toArray⟩:ByteArray).size=s.length:=by simp[ByteArray.size]
  rw[EQ hx];simp only[Builtin.len_,a0,Sem.run_bind,run_underlying hu,Result.andThen_ok,List.getElem?_toArray,bX,goInt,hz,Sem.run_pure]
 ·cases hr:r1.ev st.tmps<;>rw[hr] at hn hx<;>simp only[IJ] at hn<;>first | contradiction | skip
  ·cases hn;simp[Builtin.len_,a0,run_underlying hu,F5 hx,goInt]
  ·cases hn;rcases JE hx with ⟨b,off,cap,c,E',fr,hv,_⟩ | ⟨rfl,ad,cap,hv,_⟩<;>simp[Builtin.len_,a0,run_underlying hu,hv,goInt]
  ·cases hn;rcases Jp hx with ⟨b,C,cap,hL,hv,hC,hn⟩ | ⟨hL,hv,rfl,rfl⟩<;>simp[Builtin.len_,a0,run_underlying hu,hv,goInt]
 ·cases hr:r1.ev st.tmps<;>rw[hr] at hn hx<;>simp only[IJ] at hn<;>first | contradiction | skip
  ·cases hn;simp[Builtin.len_,a0,run_underlying hu,W5 hx,goInt]
  ·rename_i es;cases hn;obtain⟨r,ents,clock,hv,_,hb,hrep⟩:=W6 hx;have hl:=hrep.length;rw[Uy] at hl;have:es.length / 2=ents.size:=by simp at hl;omega
   rw[this];have hg:(getObj r).run cx.P w=.ok (.map ents clock) w:=by simp[getObj,Sem.run,hb]
   simp[Builtin.len_,a0,run_underlying hu,hv,goInt,hg]
  ·rename_i nm;split at hn
   case h_2=>cases hn
   rename_i es hlk;cases hn;obtain⟨b,C,hL,hv⟩:=Qr hx;obtain⟨p,hp,ha⟩:=hs.ob nm _ hlk;rw[hL] at hp;cases hp;obtain⟨ents,clock,hb,hrep⟩:=ha;have hl:=hrep.length;rw[Uy] at hl;have:es.length / 2=ents.size:=by simp at hl;omega
   rw[this];have hg:(getObj b).run cx.P w=.ok (.map ents clock) w:=by simp[getObj,Sem.run,hb]
   simp[Builtin.len_,a0,run_underlying hu,hv,goInt,hg]
theorem ZW {P:Program} {w w':World} {I:Nat->Prop} {lp:Nat->Option Nat} {L:Option AB} (mx:Bool) (k:IntKind):∀ (xs:List PV) (vs:List Value) (x n:Int),Aq w I lp L xs vs->H9 mx k x xs=some n ->
  (vs.foldlM (if mx then Builtin.max2 else Builtin.min2) (.int k x)).run P w'=.ok (.int k n) w':=by
 intro xs;induction xs with
 | nil=>intro vs x n h hn;cases h;simp only[H9,bG] at hn;subst hn;rfl
 | cons y ys ih =>
  intro vs x n h hn;cases h with
  | cons _ v _ vs h hs =>
   cases y<;>simp only[H9] at hn<;>first | contradiction | skip
   rename_i k' b;obtain⟨hk,hn2⟩:=Bm hn;have hk:=beq_iff_eq.1 hk;subst hk;rw[DO h];rw[List.foldlM_cons];cases mx
   ·simp only[bA,if_false] at hn2 |-;rw[Sem.run_bind];have:(Builtin.min2 (.int k x) (.int k b)).run P w'=.ok (.int k (if b < x then b else x)) w':=rfl;rw[this,Result.andThen_ok];simpa using ih vs _ _ hs hn2
   ·simp only[if_true] at hn2 |-;rw[Sem.run_bind];have:(Builtin.max2 (.int k x) (.int k b)).run P w'=.ok (.int k (if b>x then b else x)) w':=rfl;rw[this,Result.andThen_ok];simpa using ih vs _ _ hs hn2
theorem VY (hs:SR lp I L st a.tmps.toList suf w) (hf:Fr cx w0 I0 F0 O0 Hd R e ds I F L w) {c:Call} (ho:o.op=.call c) {mx:Bool} (hcal:c.callee=.builtin (if mx then .max else .min))
  {rs:List RX} (h1:D2 cx.G c.args.toList=some rs)
  (h:exec (o.dst.getD 0) (Ak st.objs) st.tmps (.minmax mx rs)=some out):BA cx w0 I0 F0 O0 Hd R e ds F lp suf o a w (apply st o.dst out):=by
 have hx:=P7 hs hf.wd h1;simp only[exec] at h;split at h
 case h_2=>cases h
 rename_i k x rest hr;rw[hr] at hx;obtain⟨n,hn,rfl⟩:=bD.1 h;cases hv:c.args.toList.map a.eval with
 | nil=>rw[hv] at hx;cases hx
 | cons v vs =>
  rw[hv] at hx;cases hx with
  | cons _ _ _ _ hx1 hx2 =>
   have hm:(c.args.map a.eval).toList=v :: vs:=by rw[eH,hv]
   have hfm:=ZW (P:=cx.P) (w':=w) mx k rest vs x n hx2 hn;rw[<-DO hx1] at hfm;refine BO hs hf (v':=.int k n) ?_ (.refl w) (.int k _);cases mx
   ·simp only[bA,if_false] at hcal hfm;simp[execOp,ho,resolve,hcal,invoke,builtin,Builtin.min_,hv,hfm]
   ·simp only[if_true] at hcal hfm;simp[execOp,ho,resolve,hcal,invoke,builtin,Builtin.max_,hv,hfm]
end ops
end Go.Ab

