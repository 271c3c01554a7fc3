/- Part 1 of a proof: laws of a machine. -/
import GoSem.Step
import Derived.Laws.Sem
import Derived.RangeFuncLeaves
import Derived.RangeFuncSeq
import Derived.RangeFuncCalls
import Derived.Laws.Append
import Derived.OwnWalkIn
import Derived.Laws.MakeOwn
import Derived.Carry
import Derived.Laws.Strings
import Derived.Laws.Strings2
import Derived.Laws.Concat
import Derived.Laws.AppendOwn
set_option linter.all false

def eE:=@if_false
def eF:=@if_true
def eG:=@if_neg
def eH:=@if_pos
def eI:=@decide_eq_true_eq
def eJ:=@beq_iff_eq
def eK:=@decide_true
def eL:=@decide_false
def eM:=@congrArg
def eN:=@decide_eq_true_iff
def eO:=@beq_self_eq_true
def eP:=@not_false_eq_true
def eQ:=@absurd
def eR:=@of_decide_eq_true
abbrev eS:=Go.World
abbrev eT:=Go.Value
abbrev eU:=Go.FuncId
abbrev eV:=Go.Operand
abbrev eW:=Go.IntKind
abbrev eX:=Go.Program
abbrev eY:=Go.TypeId
abbrev eZ:=Go.Deferred
abbrev e9:=Go.TypeDesc
abbrev fb:=Option Nat
abbrev fc:=List Nat
abbrev fp:=List UInt8
def bw:=@Option.some.inj
def bx:=@Nat.le_of_ble_eq_true
def bz:=@Bool.and_eq_true
def bA:=@List.mem_map
def bB:=@Option.map_eq_some_iff
def bC:=@Option.some.injEq
def bD:=@Nat.le_refl
def bE:=@List.mem_cons
def bF:=@List.getD_eq_getElem?_getD
def bG:=@Option.map_some
def bH:=@List.getElem?_eq_some_iff
def bI:=@List.all_eq_true
def bJ:=@List.mem_of_getElem?
def bK:=@List.getElem?_map
def bL:=@Bool.false_eq_true
def bM:=@List.mem_cons_of_mem
def bN:=@List.mem_cons_self
def bO:=@List.mem_append_left
def bP:=@List.map_cons
def bQ:=@List.getElem?_eq_getElem
def bR:=@List.getElem?_set_ne
def bS:=@List.mem_append
def bT:=@List.mem_append_right
def bU:=@Nat.add_mul
def bV:=@List.map_map
def bW:=@Ne.symm
def bX:=@Nat.zero_add
def bY:=@List.getElem?_eq_none_iff
def bZ:=@List.isEmpty_iff
def b7:=@Option.getD_some
def b8:=@Prod.mk.injEq
def b9:=@List.map_congr_left
def cc:=@List.mem_singleton
def cd:=@List.mem_zipIdx_iff_getElem?
def ce:=@List.length_append
def cf:=@List.length_map
def cg:=@List.getElem?_eq_none
def ch:=@Nat.eq_of_beq_eq_true
def ci:=@Bool.and_self
def cj:=@List.ext_getElem?
def ck:=@List.getElem?_append_left
def cm:=@Nat.mul_le_mul_right
def cn:=@List.take_take
def co:=@Option.bind_eq_some_iff
def cp:=@List.mem_flatMap
def cq:=@List.map_nil
def cr:=@Nat.blt_eq
def ct:=@List.length_cons
def cu:=@Nat.min_eq_left
def cw:=@List.append_assoc
def cy:=@List.contains_iff_mem
def cz:=@List.pairwise_cons
def cA:=@List.all_append
def cB:=@List.getElem?_set_self
def cC:=@List.mem_of_mem_take
def cD:=@List.getElem?_append_right
def cE:=@List.mem_filter
def cF:=@List.take_of_length_le
def cG:=@Nat.lt_of_lt_of_le
def cH:=@List.mapM_cons
def cI:=@Array.toArray_toList
def cJ:=@List.foldl_cons
def cK:=@Bool.not_eq_true'
def cL:=@Bool.and_eq_true_iff
def cM:=@List.getElem?_zipIdx
def cN:=@List.getElem?_range
def cO:=@List.mem_of_mem_drop
def cP:=@List.drop_take
def cQ:=@List.flatMap_cons
def cR:=@List.set_comm
def cS:=@Option.map_none
def cU:=@List.map_append
def cV:=@List.mem_range
def cW:=@Bool.eq_iff_iff
def cX:=@Nat.zero_le
def cY:=@Array.length_toList
def cZ:=@Nat.lt_or_ge
def dc:=@Option.bind_some
def de:=@Nat.one_mul
def df:=@Option.isSome_iff_exists
def dg:=@List.isEmpty_nil
def dh:=@Bool.or_eq_true_iff
def di:=@Bool.or_eq_false_iff
def dj:=@Option.isNone_iff_eq_none
def dk:=@List.drop_drop
def dl:=@Array.getElem?_toList
def dm:=@List.getElem?_take_of_lt
def dn:=@List.length_take
def dp:=@List.nil_append
def dv:=@List.append_nil
def dw:=@Classical.byContradiction
def dx:=@Array.getElem?_eq_none
def dy:=@Nat.add_sub_cancel_left
def dz:=@Nat.add_assoc
def dA:=@List.all_cons
def dB:=@List.map_set
def dC:=@Bool.false_or
def dD:=@Nat.le_trans
def dE:=@Option.bind_eq_bind
def dF:=@List.getElem?_drop
def dG:=@List.mem_or_eq_of_mem_set
def dH:=@Option.map_map
def dI:=@List.zipIdx_cons
def dJ:=@List.mem_filterMap
def dK:=@List.nodup_cons
def dL:=@Array.getElem?_eq_some_iff
def dM:=@List.getElem_of_mem
def dN:=@List.drop_eq_getElem_cons
def dO:=@Option.pure_def
def dP:=@List.drop_of_length_le
def dQ:=@List.eq_of_mem_replicate
def dR:=@List.length_replicate
def dS:=@List.size_toArray
def dT:=@Nat.min_zero
def dU:=@List.drop_zero
def dV:=@Bool.not_true
def dW:=@Bool.or_eq_true
def dX:=@List.flatMap_def
def dY:=@List.getElem?_set
def dZ:=@List.getElem?_replicate
def d6:=@Nat.sub_zero
def d7:=@List.append_eq_nil_iff
def d8:=@List.take_append_of_le_length
def d9:=@List.take_length
def ec:=@List.length_nil
def ed:=@List.lookup_cons
def ef:=@Array.toList_setIfInBounds
def eg:=@Nat.ne_of_beq_eq_false
def eh:=@List.set_eq_of_length_le
def ei:=@List.take_append
def ej:=@List.length_eq_zero_iff
def ek:=@Array.mapM_eq_mapM_toList
def eo:=@Array.toList_map
def ep:=@Option.isSome_none
def eu:=@List.drop_eq_nil_of_le
def ew:=@List.length_pos_iff
def ez:=@Array.size_append
def eA:=@Nat.add_sub_cancel'
def eB:=@List.flatMap_map
def eC:=@List.not_mem_nil
def eD:=@List.idxOf_lt_length_of_mem
namespace Go.Ab
variable{E α:Type} {b:Bool} {e1:E} {x:Option α} {y:α}
abbrev Nm:=Nat×Nat
abbrev fh:=List Nm
inductive PV where
 | undef
 | bool (b:Bool)
 | int (k:eW) (n:Int)
 | str (s:fp)
 | fF | gh | gH | fR | gF
 | sl (k:Nat) (Z:List PV) (full:Bool)
 | ptr (cs:List PV) (o:Nat)
 | agg (cs:List PV)
 | iface (t:eY) (x:PV)
 | fn (f:eU) (cap:List PV)
 | fT (d:Nat)
 | fM (Z:List PV)
 | gz (es:List PV)
 | gw (g:Nat) (t:eY)
 | ref (J:Nm) (o:Nat)
 | fO (J:Nm) (k i o:Nat)
 | arr (J:Nm) (k o n:Nat)
 | mp (J:Nm)
 | it (J:Nm)
 deriving Inhabited
abbrev ft:=Option PV
abbrev fa:=List PV
def PV.cells:PV->fa
 | .agg cs=>cs
 | v=>[v]
def PV.isVal:PV->Bool
 | .undef=>false
 | .fM _=>false
 | _=>true
def PV.nh:PV->Bool
 | .undef=>false
 | .fM _=>false
 | .agg _=>false
 | _=>true
def fL:fa->fa
 | []=>[]
 | x :: Z=>x.cells++fL Z
inductive Ob where
 | cells (ty:Nat) (cs:fa)
 | arr (k ty:Nat) (Z:fa)
 | map (es:fa)
 | fW (s:fp) (pos:Nat)
 deriving Inhabited
abbrev fg:=List Ob
abbrev fe:=Option Ob
mutual
def PV.names:PV->fh
 | .agg cs=>Al cs
 | .iface _ x=>x.names
 | .fn _ cap=>Al cap
 | .fM Z=>Al Z
 | .ref J _=>[J]
 | .fO J _ _ _=>[J]
 | .arr J _ _ _=>[J]
 | .mp J=>[J]
 | .it J=>[J]
 | .undef | .bool _ | .int _ _ | .str _ | .fF | .gh | .gH | .fR | .gF | .sl _ _ _ | .ptr _ _ | .fT _ | .gz _ | .gw _ _=>[]
def Al:fa->fh
 | []=>[]
 | x :: Z=>x.names++Al Z
end
mutual
def PV.gq:PV->Bool
 | .agg cs=>A2 cs
 | .iface _ x=>x.gq
 | .fn _ cap=>A2 cap
 | .fM Z=>A2 Z
 | .sl _ Z _=>A2 Z
 | .ptr cs _=>A2 cs
 | .gz es=>A2 es
 | .fT _=>true
 | .undef | .bool _ | .int _ _ | .str _ | .fF | .gh | .gH | .fR | .gF | .ref _ _ | .fO _ _ _ _ | .arr _ _ _ _ | .mp _ | .it _ | .gw _ _=>false
def A2:fa->Bool
 | []=>false
 | x :: Z=>x.gq||A2 Z
end
mutual
def PV.free:PV->Bool
 | .agg cs=>EX cs
 | .iface _ x=>x.free
 | .fn _ cap=>EX cap
 | .fM Z=>EX Z
 | .sl _ _ _=>false
 | .ptr _ _=>false
 | .gz _=>false
 | .gw _ _=>false
 | .undef | .bool _ | .int _ _ | .str _ | .fF | .gh | .gH | .fR | .gF | .fT _ | .ref _ _ | .fO _ _ _ _ | .arr _ _ _ _ | .mp _ | .it _=>true
def EX:fa->Bool
 | []=>true
 | x :: Z=>x.free&&EX Z
end
def Ob.free:Ob->Bool
 | .cells _ cs=>EX cs
 | .arr _ _ Z=>EX Z
 | .map es=>EX es
 | .fW _ _=>true
mutual
def PV.sub (f:Nm->Option fe):PV->PV
 | .agg cs=>.agg (AE f cs)
 | .iface t x=>.iface t (x.sub f)
 | .fn g cap=>.fn g (AE f cap)
 | .fM Z=>.fM (AE f Z)
 | .ref J o=>match f J with
  | none=>.ref J o
  | some (some (.cells _ cs))=>if o < cs.length then .ptr cs o else .undef
  | some _=>.undef
 | .fO J k i o=>match f J with
  | none=>.fO J k i o
  | some (some (.arr k' kt Z))=>if k=k' then (match Z[i]? with | some x=>if o < x.cells.length then .ptr x.cells o else .undef | none=>.undef) else .undef
  | some _=>.undef
 | .arr J k o n=>match f J with
  | none=>.arr J k o n
  | some (some (.arr k' kt Z))=>if k=k'/\o+n<=Z.length then .sl k ((Z.drop o).take n) false else .undef
  | some _=>.undef
 | .mp J=>match f J with
  | none=>.mp J
  | some (some (.map es))=>.gz es
  | some _=>.undef
 | .it J=>match f J with
  | none=>.it J
  | some _=>.undef
 | .undef=>.undef | .bool b=>.bool b | .int k n=>.int k n | .str s=>.str s
 | .fF=>.fF | .gh=>.gh | .gH=>.gH | .fR=>.fR | .gF=>.gF
 | .sl k Z b=>.sl k Z b | .ptr cs o=>.ptr cs o | .fT d=>.fT d | .gz es=>.gz es | .gw g t=>.gw g t
def AE (f:Nm->Option fe):fa->fa
 | []=>[]
 | x :: Z=>x.sub f :: AE f Z
end
def Ob.sub (f:Nm->Option fe):Ob->Ob
 | .cells ty cs=>.cells ty (AE f cs)
 | .map es=>.map (AE f es)
 | o=>o
mutual
def PV.fQ (f:Nm->Nm):PV->PV
 | .agg cs=>.agg (AR f cs)
 | .iface t x=>.iface t (x.fQ f)
 | .fn g cap=>.fn g (AR f cap)
 | .fM Z=>.fM (AR f Z)
 | .ref J o=>.ref (f J) o
 | .fO J k i o=>.fO (f J) k i o
 | .arr J k o n=>.arr (f J) k o n
 | .mp J=>.mp (f J)
 | .it J=>.it (f J)
 | .undef=>.undef | .bool b=>.bool b | .int k n=>.int k n | .str s=>.str s
 | .fF=>.fF | .gh=>.gh | .gH=>.gH | .fR=>.fR | .gF=>.gF
 | .sl k Z b=>.sl k Z b | .ptr cs o=>.ptr cs o | .fT d=>.fT d | .gz es=>.gz es | .gw g t=>.gw g t
def AR (f:Nm->Nm):fa->fa
 | []=>[]
 | x :: Z=>x.fQ f :: AR f Z
end
def Ob.fQ (f:Nm->Nm):Ob->Ob
 | .cells ty cs=>.cells ty (AR f cs)
 | .map es=>.map (AR f es)
 | o=>o
def Ob.names:Ob->fh
 | .cells _ cs=>Al cs
 | .map es=>Al es
 | _=>[]
def EL (σ:Nm->fe):Nat->Ob->Ob
 | 0,o=>o.sub fun _=>some none
 | d+1,o=>o.sub fun J=>some ((σ J).map (EL σ d))
def AA (σ:Nm->fe):Nat->fh->fh
 | 0,l=>l
 | d+1,l=>l++AA σ d (l.flatMap fun J=>((σ J).map Ob.names).getD [])
def Ax:Nat:=3
def BJ (σ:Nm->fe) (R:fh):Bool:=R.all fun J=>(((σ J).map Ob.names).getD []).all fun m=>R.contains m
def A3 (σ:Nm->fe) (J:Nm):Option fe:=some ((σ J).map (EL σ Ax))
inductive RX where
 | t (i:Nat)
 | c (v:PV)
 deriving Inhabited
abbrev fz:=Option RX
abbrev fu:=List RX
inductive TC where
 | num | str | bool | iface | slice | map | func | ptr | other
 | plain (l:fc)
 deriving DecidableEq,Inhabited
inductive Ak where
 | mov (x:RX)
 | pick (c a b:RX)
 | box (x:RX)
 | alloc (ty:Nat) (z:fa)
 | build (z:fa) (ps:List (Nat×Nat×RX))
 | kr (k:Nat) (ps:fu)
 | load (n:Nat) (ag:Bool) (x:RX)
 | store (n:Nat) (x v:RX)
 | nilck (x:RX)
 | bin (op:BinOp) (c:TC) (kc:Bool) (x y:RX)
 | un (op:UnOp) (x:RX)
 | conv (k:eW) (x:RX)
 | il (x:RX)
 | ofBytes (x:RX)
 | iU (x:RX)
 | jG (x:RX)
 | mkI (t:eY) (x:RX)
 | mkF (f:eU) (cap:fu)
 | mkMap
 | insert (c:TC) (x k v:RX)
 | lookup (c:TC) (z:PV) (ok:Bool) (x k:RX)
 | po (k:Nat) (z:PV) (len cap:RX)
 | slice (k:Nat) (x:RX) (lo hi mx:fz)
 | gM (x:RX) (lo hi:fz)
 | fieldAddr (off:Nat) (x:RX)
 | field (off n:Nat) (ag:Bool) (x:RX)
 | ic (k:Nat) (x i:RX)
 | hJ (k len:Nat) (x i:RX)
 | iV (x i:RX)
 | extract (j:Nat) (x:RX)
 | len (c:TC) (x:RX)
 | append (k ty:Nat) (s x:RX)
 | copy (k:Nat) (d s:RX)
 | ij (mx:Bool) (Z:fu)
 | call (f:RX) (args:fu)
 | iter (x:RX)
 | next (x:RX)
 | gZ (t:eY) (z:PV) (ok:Bool) (x:RX)
 | bad
 deriving Inhabited
structure Av where
 dst:fb
 op:Ak
 guard:Option (Nat×Bool)
 deriving Inhabited
abbrev fq:=List Av
inductive AU where
 | skip
 | region (ops:fq) (draw:Option (List (Nat×Nat))) (live:Option fc)
 | seq (a b:AU)
 | cond (c:RX) (thn els:AU)
 | block (id:Nat) (body:AU)
 | loop (gp:fc) (grow:List (Nat×Nat)) (body:AU)
 | rangeFunc (f:RX) (ps:fc) (assign body:AU)
 | exit (id:Nat)
 | scope (body:AU)
 | ret
 | norm (grow:List (Nat×Nat))
 | kd (ops:fq) (f:RX) (args:fu) (live:Option fc)
 | bad
 deriving Inhabited
def Cq:AU->Bool
 | .kd _ _ _ _=>false
 | .seq a b=>Cq a&&Cq b
 | .cond _ a b=>Cq a&&Cq b
 | .block _ b=>Cq b
 | .scope b=>Cq b
 | _=>true
inductive E5 where
 | tmp (t:Nat)
 | cell (t n:Nat) (ag:Bool)
 deriving Inhabited
structure Ad where
 nt:Nat
 code:AU
 res:List E5
 io:Bool:=false
 shut:Bool:=false
 gT:Bool:=false
 gone:fc:=[]
 gv:Bool:=false
 deriving Inhabited
abbrev fk:=Option Ad
structure St where
 tmps:fa
 fA:List fg
 fD:fa
 deriving Inhabited
def Aa (σ:List fg) (J:Nm):fe :=
 match σ[J.1]? with
 | some l=>l[J.2]?
 | none=>none
def RX.ev (tm:fa):RX->PV
 | .t i=>tm.getD i .undef
 | .c v=>v
def Ci (tm:fa):fz->ft
 | none=>none
 | some x=>some (x.ev tm)
def AM (σ:List fg) (J:Nm) (o:Ob):List fg :=
 match σ[J.1]? with
 | some l=>σ.set J.1 (l.set J.2 o)
 | none=>σ
def AH:Ob:=.arr 0 0 []
structure Ai where
 v:PV
 new:fg:=[]
 gA:Option (Nm×Ob):=none
 kill:Option Nm:=none
 gv:fh:=[]
 gone:fh:=[]
 gC:List (Nm×Ob):=[]
 io:Bool:=false
 slot:fb:=none
abbrev fj:=Option Ai
def Ap (b:Bool) (x:Option α):Option α:=if b then x else none
theorem Ld (h:Ap b x=some y):b=true/\x=some y:=by
 cases b with
 | true=>exact⟨rfl,h⟩
 | false=>cases h
theorem O3 (x:Option α):Ap true x=x:=rfl
def B1 (cs:fa) (o n:Nat) (ag:Bool):ft :=
 if ag then Ap (decide (o+n<=cs.length)) (some (.agg ((cs.drop o).take n))) else cs[o]?
def gE (cs:fa) (o:Nat) (A:fa):fa:=cs.take o++A++cs.drop (o+A.length)
def Ew (tm:fa):fa->List (Nat×Nat×RX)->Option fa
 | z,[]=>some z
 | z,(off,n,x) :: ps =>
  Ap ((x.ev tm).isVal&&decide ((x.ev tm).cells.length=n)&&decide (off+n<=z.length)) (Ew tm (gE z off (x.ev tm).cells) ps)
def Et:Nat:=2147483648
def Bz (s:fp):fa:=s.map fun b=>.int .u8 b.toNat
def Ke:PV->Option UInt8
 | .int .u8 n=>if 0<=n/\n < 256 then some (UInt8.ofNat n.toNat) else none
 | _=>none
def EM:fa->Option fp
 | []=>some []
 | x :: Z=>match Ke x,EM Z with
  | some b,some bs=>some (b :: bs)
  | _,_=>none
def C0 (σ:Nm->fe) (k:Nat):PV->Option fa
 | .sl k' Z _=>Ap (k==k') (some Z)
 | .arr J k' o n=>match σ J with
  | some (.arr ku kt Z)=>Ap (k==k'&&k'==ku&&decide (o+n<=Z.length)) (some ((Z.drop o).take n))
  | _=>none
 | .fF=>some []
 | .str s=>Ap (k==1) (some (Bz s))
 | _=>none
def N3:PV->Bool
 | .str _=>true
 | _=>false
def LS:PV->PV->Option Bool
 | .int k a,.int k' b=>Ap (k==k') (some (a==b))
 | .str a,.str b=>some (a==b)
 | .bool a,.bool b=>some (a==b)
 | _,_=>none
def Gp (k:PV):fa->Option ft
 | a :: v :: es=>match LS k a with
  | some true=>some (some v)
  | some false=>Gp k es
  | none=>none
 | []=>some none
 | _=>none
def D1 (k v:PV):fa->Option fa
 | a :: u :: es=>match LS k a with
  | some true=>some (k :: v :: es)
  | some false=>(D1 k v es).map fun l=>a :: u :: l
  | none=>none
 | []=>some [k,v]
 | _=>none
def FK:TC->PV->Bool
 | .num,.int _ _ | .str,.str _ | .bool,.bool _=>true
 | _,_=>false
def Jh:BinOp->Int->Int->Option Bool
 | .eql,x,y=>some (x==y)
 | .neq,x,y=>some (x != y)
 | .lss,x,y=>some (decide (x < y))
 | .leq,x,y=>some (decide (x<=y))
 | .gtr,x,y=>some (decide (x>y))
 | .geq,x,y=>some (decide (x≥y))
 | _,_,_=>none
def JX:fp->fp->Bool
 | _,[]=>false
 | [],_ :: _=>true
 | a :: x,b :: y=>a < b||(a==b&&JX x y)
def J4:Nat:=9223372036854775807
def Ff (op:BinOp) (k:eW) (x y:Int):ft :=
 match op with
 | .add=>some (.int k (k.wrap (x+y)))
 | .sub=>some (.int k (k.wrap (x - y)))
 | .mul=>some (.int k (k.wrap (x*y)))
 | .quo=>Ap (y != 0) (some (.int k (k.wrap (x.tdiv y))))
 | .rem=>Ap (y != 0) (some (.int k (x.tmod y)))
 | .and=>some (.int k (k.wrap (BitVec.ofInt k.bits x &&& BitVec.ofInt k.bits y).toNat))
 | .or=>some (.int k (k.wrap (BitVec.ofInt k.bits x ||| BitVec.ofInt k.bits y).toNat))
 | .xor=>some (.int k (k.wrap (BitVec.ofInt k.bits x ^^^ BitVec.ofInt k.bits y).toNat))
 | .andNot=>some (.int k (k.wrap (BitVec.ofInt k.bits x &&& ~~~ BitVec.ofInt k.bits y).toNat))
 | op=>(Jh op x y).map .bool
def Jj (op:BinOp) (x y:fp):ft :=
 match op with
 | .add=>Ap (decide (x.length+y.length<=J4)) (some (.str (x++y)))
 | .eql=>some (.bool (x==y))
 | .neq=>some (.bool (!(x==y)))
 | .lss=>some (.bool (JX x y))
 | .leq=>some (.bool (JX x y||x==y))
 | .gtr=>some (.bool (!(JX x y||x==y)))
 | .geq=>some (.bool (!(JX x y)))
 | _=>none
def H1:fc->fa->fa->Option Bool
 | [],[],[]=>some true
 | 0 :: l,.int k a :: Z,.int k' b :: ys=>Ap (k==k') (match a==b with | true=>H1 l Z ys | false=>some false)
 | 1 :: l,.str a :: Z,.str b :: ys=>match a==b with | true=>H1 l Z ys | false=>some false
 | 2 :: l,.bool a :: Z,.bool b :: ys=>match a==b with | true=>H1 l Z ys | false=>some false
 | _,_,_=>none
def Jr:TC->Bool->PV->PV->Option Bool
 | .iface,kc,.fR,.fR=>Ap kc (some true)
 | .iface,_,.fR,.iface _ _ | .iface,_,.iface _ _,.fR | .iface,_,.fR,.gw _ _ | .iface,_,.gw _ _,.fR=>some false
 | .func,_,.gH,.gH=>some true
 | .func,_,.gH,.fn _ _ | .func,_,.fn _ _,.gH=>some false
 | .slice,_,.fF,.fF=>some true
 | .slice,_,.fF,.sl _ (_ :: _) _ | .slice,_,.sl _ (_ :: _) _,.fF=>some false
 | .ptr,_,.gh,.gh=>some true
 | .ptr,_,.gh,.ref _ _ | .ptr,_,.gh,.ptr _ _ | .ptr,_,.ref _ _,.gh | .ptr,_,.ptr _ _,.gh=>some false
 | .bool,_,.bool a,.bool b=>some (a==b)
 | .plain l,_,.agg Z,.agg ys=>H1 l Z ys
 | _,_,_,_=>none
def Dw (op:BinOp) (c:TC) (kc:Bool) (x y:PV):ft :=
 match x,y with
 | .int k a,.int k' b =>
  match op with
  | .shl=>Ap (decide (0<=b)) (some (.int k (k.wrap (a*2 ^ (min b.toNat k.bits)))))
  | .shr=>Ap (decide (0<=b)) (some (.int k (a.fdiv (2 ^ (min b.toNat k.bits)))))
  | op=>Ap (k==k') (Ff op k a b)
 | .str a,.str b=>Jj op a b
 | x,y =>
  match op with
  | .eql=>(Jr c kc x y).map .bool
  | .neq=>(Jr c kc x y).map fun b=>.bool (!b)
  | _=>none
def EA:PV->fb
 | .int _ n=>if 0<=n then some n.toNat else none
 | _=>none
def Df (x:ft) (d top:Nat):fb :=
 match x with
 | none=>some d
 | some v=>match EA v with
  | some n=>Ap (decide (n<=top)) (some n)
  | none=>none
def HV (k:Nat) (x:PV) (lo hi mx:ft):ft :=
 match x with
 | .sl k' Z full =>
  match Df mx Z.length Z.length with
  | none=>none
  | some m=>match Df hi Z.length m with
   | none=>none
   | some h=>match Df lo 0 h with
    | none=>none
    | some l=>Ap (k==k'&&(mx.isNone||hi.isSome)) (some (.sl k ((Z.take h).drop l) (if mx.isSome then m==h else full&&h==Z.length)))
 | .arr J k' o n =>
  match Df mx n n with
  | none=>none
  | some m=>match Df hi n m with
   | none=>none
   | some h=>match Df lo 0 h with
    | none=>none
    | some l=>Ap (k==k'&&(mx.isNone||hi.isSome)) (some (if h=l/\0 < l then .sl k [] false else .arr J k (o+l) (h - l)))
 | .fF =>
  match Df mx 0 0 with
  | none=>none
  | some m=>match Df hi 0 m with
   | none=>none
   | some h=>match Df lo 0 h with
    | none=>none
    | some _=>Ap (mx.isNone||hi.isSome) (some .fF)
 | _=>none
def If (σ:Nm->fe):TC->PV->fb
 | .str,.str s=>some s.length
 | .slice,.sl _ Z _=>some Z.length
 | .slice,.arr _ _ _ n=>some n
 | .slice,.fF=>some 0
 | .map,.gF=>some 0
 | .map,.gz es=>some (es.length / 2)
 | .map,.mp J=>match σ J with
  | some (.map es)=>some (es.length / 2)
  | _=>none
 | _,_=>none
def LF (mx:Bool) (k:eW):Int->fa->Option Int
 | a,[]=>some a
 | a,.int k' b :: rest=>Ap (k==k') (LF mx k (if mx then (if b>a then b else a) else (if b < a then b else a)) rest)
 | _,_=>none
def CJ:Nat:=1000000
def Q0:PV->Bool
 | .fn f _=>Nat.ble CJ f
 | _=>false
def exec (dst:Nat) (σ:Nm->fe) (tm:fa) (op:Ak):fj :=
 match op with
 | .mov x=>some {v:=x.ev tm}
 | .pick c a b=>match c.ev tm with
  | .bool true=>some {v:=a.ev tm}
  | .bool false=>some {v:=b.ev tm}
  | _=>none
 | .box x=>Ap (x.ev tm).isVal (some {v:=.ref (dst,0) 0,new:=[.cells 0 (x.ev tm).cells]})
 | .alloc ty z=>some {v:=.ref (dst,0) 0,new:=[.cells ty z]}
 | .build z ps=>match Ew tm z ps with
  | some cs=>some {v:=.agg cs}
  | none=>none
 | .kr k ps =>
  let Z:=ps.map (RX.ev tm)
  let S:=Al Z
  if S.isEmpty then Ap (Z.all fun x=>x.isVal&&x.cells.length==k) (some {v:=.arr (dst,0) k 0 Z.length,new:=[.arr k 0 Z]})
  else
   let ys:=AE (A3 σ) Z
   Ap ((ys.all fun x=>x.isVal&&x.cells.length==k)&&BJ σ (AA σ Ax S)) (some {v:=.arr (dst,0) k 0 ys.length,new:=[.arr k 0 ys],gv:=AA σ Ax S})
 | .load n ag x=>match x.ev tm with
  | .ref J o=>match σ J with
   | some (.cells _ cs)=>(B1 cs o n ag).map fun v=>{v}
   | _=>none
  | .ptr cs o=>(B1 cs o n ag).map fun v=>{v}
  | .fO J k i o=>match σ J with
   | some (.arr k' kt Z)=>match Z[i]? with
    | some e=>Ap (k==k') ((B1 e.cells o n ag).map fun v=>{v})
    | none=>none
   | _=>none
  | _=>none
 | .store n x v =>
  let A:=(v.ev tm).cells
  match x.ev tm with
  | .ref J o=>match σ J with
   | some (.cells ty cs)=>Ap ((v.ev tm).isVal&&decide (A.length=n)&&decide (o+n<=cs.length)) (some {v:=.undef,gA:=some (J,.cells ty (gE cs o A))})
   | _=>none
  | .fO J k i o=>match σ J with
   | some (.arr k' kt Z)=>match Z[i]? with
    | some (.agg es)=>Ap (k==k'&&(v.ev tm).isVal&&decide (A.length=n)&&decide (o+n<=es.length)&&(Al A).isEmpty)
      (some {v:=.undef,gA:=some (J,.arr k kt (Z.set i (.agg (gE es o A))))})
    | some _=>Ap (k==k'&&k==1&&o==0&&n==1&&(v.ev tm).nh&&(v.ev tm).names.isEmpty)
      (some {v:=.undef,gA:=some (J,.arr k kt (Z.set i (v.ev tm)))})
    | none=>none
   | _=>none
  | _=>none
 | .nilck x=>match x.ev tm with
  | .ref J o=>some {v:=.ref J o}
  | .ptr cs o=>some {v:=.ptr cs o}
  | .fO J k i o=>some {v:=.fO J k i o}
  | .fn f cap=>some {v:=.fn f cap}
  | .fT d=>some {v:=.fT d}
  | _=>none
 | .bin op c kc x y=>(Dw op c kc (x.ev tm) (y.ev tm)).map fun v=>{v}
 | .un op x=>match op,x.ev tm with
  | .not,.bool b=>some {v:=.bool (!b)}
  | .neg,.int k n=>some {v:=.int k (k.wrap (0 - n))}
  | _,_=>none
 | .conv k x=>match x.ev tm with
  | .int _ n=>some {v:=.int k (k.wrap n)}
  | _=>none
 | .il x=>match x.ev tm with
  | .str s=>Ap (decide (s.length<=J4)) (some {v:=.sl 1 (Bz s) false})
  | _=>none
 | .ofBytes x=>match Ap (!N3 (x.ev tm)) (C0 σ 1 (x.ev tm)) with
  | some Z=>match EM Z with
   | some s=>some {v:=.str s}
   | none=>none
  | none=>none
 | .iU x=>match x.ev tm with
  | .int _ n=>some {v:=.str (Utf8.encode n).data.toList}
  | _=>none
 | .jG x=>match x.ev tm with
  | .str s=>some {v:=.str s}
  | _=>none
 | .mkI t x=>some {v:=.iface t (x.ev tm)}
 | .mkF f cap=>some {v:=.fn f (cap.map (RX.ev tm))}
 | .mkMap=>some {v:=.mp (dst,0),new:=[.map []]}
 | .insert c x k v=>match x.ev tm with
  | .mp J=>match σ J with
   | some (.map es) =>
    let S:=if Q0 (v.ev tm) then [] else (v.ev tm).names
    let R:=if S.isEmpty then [] else AA σ Ax S
    let u:=if S.isEmpty then v.ev tm else (v.ev tm).sub (A3 σ)
    match D1 (k.ev tm) u es with
    | some jS=>Ap (FK c (k.ev tm)&&u.isVal&&(S.isEmpty||(BJ σ R&&(!R.contains J&&(Al es).isEmpty)))) (some {v:=.undef,gA:=some (J,.map jS),gv:=R})
    | none=>none
   | _=>none
  | _=>none
 | .lookup c z ok x k =>
  let es:Option fa:=match x.ev tm with
   | .mp J=>match σ J with
    | some (.map es)=>some es
    | _=>none
   | .gz es=>some es
   | .gF=>some []
   | _=>none
  match es with
  | none=>none
  | some es=>match Gp (k.ev tm) es with
   | none=>none
   | some r=>Ap (FK c (k.ev tm)) (some {v:=if ok then .fM [r.getD z,.bool r.isSome] else r.getD z})
 | .po k z len cap=>match EA (len.ev tm),EA (cap.ev tm) with
  | some l,some c=>Ap (decide (l<=c)&&decide (c<=Et)&&(z.cells.length==k)) (some {v:=.arr (dst,0) k 0 l,new:=[.arr k 0 (List.replicate l z)]})
  | _,_=>none
 | .slice k x lo hi mx=>(HV k (x.ev tm) (Ci tm lo) (Ci tm hi) (Ci tm mx)).map fun v=>{v}
 | .gM x lo hi=>match x.ev tm with
  | .str s=>match Df (Ci tm hi) s.length s.length with
   | none=>none
   | some h=>match Df (Ci tm lo) 0 h with
    | none=>none
    | some l=>some {v:=.str ((s.take h).drop l)}
  | _=>none
 | .fieldAddr off x=>match x.ev tm with
  | .ref J o=>some {v:=.ref J (o+off)}
  | .ptr cs o=>Ap (decide (o+off < cs.length)) (some {v:=.ptr cs (o+off)})
  | .fO J k i o=>some {v:=.fO J k i (o+off)}
  | _=>none
 | .field off n ag x=>match x.ev tm with
  | .agg cs=>(B1 cs off n ag).map fun v=>{v}
  | _=>none
 | .ic k x i=>match EA (i.ev tm),x.ev tm with
  | some j,.sl k' Z _=>match Z[j]? with
   | some e=>Ap (k==k'&&decide (0 < k)) (some {v:=.ptr e.cells 0})
   | none=>none
  | some j,.arr J k' o n=>Ap (k==k'&&decide (j < n)) (some {v:=.fO J k (o+j) 0})
  | _,_=>none
 | .hJ k len x i=>match EA (i.ev tm),x.ev tm with
  | some j,.ptr cs o=>Ap (decide (j < len)&&decide (o+j*k < cs.length)) (some {v:=.ptr cs (o+j*k)})
  | some j,.ref J o=>Ap (decide (j < len)) (some {v:=.ref J (o+j*k)})
  | _,_=>none
 | .iV x i=>match EA (i.ev tm),x.ev tm with
  | some j,.str s=>match s[j]? with
   | some b=>some {v:=.int .u8 b.toNat}
   | none=>none
  | _,_=>none
 | .extract j x=>match x.ev tm with
  | .fM Z=>match Z[j]? with
   | some v=>some {v}
   | none=>none
  | _=>none
 | .len c x=>(If σ c (x.ev tm)).map fun (n:Nat)=>{v:=.int .i64 (n:Int)}
 | .append k ty s x=>match C0 σ k (x.ev tm) with
  | none=>none
  | some ys=>match s.ev tm with
   | .fF=>Ap (decide (ys.length<=Et)) (some {v:=.arr (dst,0) k 0 ys.length,new:=[.arr k ty ys]})
   | .arr J k' o n=>match σ J with
    | some (.arr ku kt Z)=>Ap (k==k'&&k'==ku&&o==0&&decide (n<=Z.length)&&decide (n+ys.length<=Et))
      (some {v:=.arr J k 0 (n+ys.length),gA:=some (J,.arr k (if kt=ty then ty else 0) (Z.take n++ys)),kill:=some J})
    | _=>none
   | .sl k' Z true=>match ys with
    | []=>Ap (k==k') (some {v:=.sl k' Z true})
    | y :: ys=>Ap (k==k'&&decide (Z.length+(ys.length+1)<=Et)) (some {v:=.arr (dst,0) k 0 (Z.length+(ys.length+1)),new:=[.arr k ty (Z++y :: ys)]})
   | _=>none
 | .copy k d s=>match C0 σ k (s.ev tm) with
  | none=>none
  | some ys=>match d.ev tm with
   | .fF=>some {v:=.int .i64 0}
   | .sl _ [] _=>some {v:=.int .i64 0}
   | .arr J k' o n=>match σ J with
    | some (.arr ku kt Z)=>Ap (k==k'&&k'==ku&&decide (o+n<=Z.length))
      (some {v:=.int .i64 (min ys.length n),gA:=some (J,.arr k kt (Z.take o++ys.take n++Z.drop (o+(ys.take n).length)))})
    | _=>none
   | _=>none
 | .ij mx Z=>match (Z.map (RX.ev tm):fa) with
  | .int k a :: rest=>(LF mx k a rest).map fun n=>{v:=.int k n}
  | _=>none
 | .iter x=>match x.ev tm with
  | .str s=>some {v:=.it (dst,0),new:=[.fW s 0]}
  | _=>none
 | .next x=>match x.ev tm with
  | .it J=>match σ J with
   | some (.fW s pos) =>
    if pos < s.length then
     some {v:=.fM [.bool true,.int .i64 pos,.int .i32 (Utf8.decode ⟨s.toArray⟩ pos).1],gA:=some (J,.fW s (pos+(Utf8.decode ⟨s.toArray⟩ pos).2))}
    else some {v:=.fM [.bool false]}
   | _=>none
  | _=>none
 | .gZ t z ok x=>match x.ev tm with
  | .iface u y=>if u=t then some {v:=if ok then .fM [y,.bool true] else y}
   else Ap ok (some {v:=.fM [z,.bool false]})
  | .fR=>Ap ok (some {v:=.fM [z,.bool false]})
  | _=>none
 | .call _ _=>none
 | .bad=>none
def Cd (f:Nm->Option fe) (V:St):St:={tmps:=AE f V.tmps,fA:=V.fA.map (·.map (Ob.sub f)),fD:=AE f V.fD}
def BN (σ:Nm->fe) (R:fh) (V:St):St :=
 let V:=Cd (fun m=>if R.contains m then A3 σ m else none) V
 {V with fA:=R.foldl (fun fA J=>AM fA J AH) V.fA}
def Bj:List (Nm×Ob)->List fg->List fg
 | [],fA=>fA
 |(J,o) :: l,fA=>Bj l (AM fA J o)
def apply (V:St) (dst:fb) (o:Ai):St :=
 let σ:=Aa V.fA
 let V:=match o.gA with
  | some (J,ob)=>{V with fA:=AM V.fA J ob}
  | none=>V
 let V:=match o.kill with
  | some J=>Cd (fun m=>if m=J then some none else none) V
  | none=>V
 let V:=if o.gv.isEmpty then V else BN σ o.gv V
 let V:=if o.gone.isEmpty then V else Cd (fun m=>if o.gone.contains m then some none else none) V
 let V:=if o.gC.isEmpty then V else {V with fA:=Bj o.gC V.fA}
 let V:=match o.slot with
  | some r=>{V with fA:=V.fA.set r (V.fA.getD r []++o.new)}
  | none=>V
 match dst with
 | some d=>{V with tmps:=V.tmps.set d o.v,fA:=if o.slot.isSome||o.new.isEmpty then V.fA else V.fA.set d o.new}
 | none=>V
abbrev AB (E:Type):=Nat->fa->E->Option (Bool×E)
abbrev Gq:=(E:Type)->AB E->Nat->eU->fa->E->Option (PV×fg×E)
def AG (f:eU):eU:=match Nat.blt f CJ with
 | true=>f
 | false=>f%CJ
def En (f:eU):Nat:=match Nat.blt f CJ with
 | true=>0
 | false=>f / CJ
def N6 (f:eU):Nat->eU
 | 0=>f
 | n+1=>f+CJ*(n+1)
def A7 (f:eU) (A cap:fa):fa:=match Nat.blt f CJ with
 | true=>A++cap
 | false=>cap.take (En f)++(A++cap.drop (En f))
def Ar:AB Unit:=fun _ _ _=>none
structure AC where
 sp:eU->(Nm->fe)->fa->fj
 call:Gq
 iN:eU->Bool
 gT:eU->Bool
 io:eU->Nat->(Nm->fe)->fa->fj
 flat:eU->Bool
 nP:(E:Type)->AB E->Nat->eU->fg->fa->E->Option (St×E)
def DT (d:Nat) (J:Nm):Nm:=(d,J.2)
def BU (M:AC) (h:AB E) (dep dst:Nat) (σ:Nm->fe) (tm:fa) (f:RX) (args:fu) (e:E):Option (Ai×E) :=
 let A:=args.map (RX.ev tm)
 match f.ev tm with
 | .fT d =>
  let S:=Al A
  if S.isEmpty then
   Ap (!A2 A) (match h d A e with
    | some (b,e)=>some ({v:=.bool b},e)
    | none=>none)
  else
   let sW:=AE (A3 σ) A
   Ap (!A2 sW&&BJ σ (AA σ Ax S)) (match h d sW e with
    | some (b,e)=>some ({v:=.bool b,gv:=AA σ Ax S},e)
    | none=>none)
 | .fn f cap =>
  let g:=AG f
  let A:=A7 f A cap
  match M.sp g σ A with
  | some out=>some ({out with v:=out.v.fQ (DT dst)},e)
  | none =>
  if M.iN g then
   match M.io g dst σ A with
   | some out=>some (out,e)
   | none=>none
  else
  let S:=Al A
  if S.isEmpty then
   if A2 A then
    match M.call E h dep g A e with
    | some (r,obs,e)=>some ({v:=r.fQ (DT dst),new:=obs},e)
    | none=>none
   else match M.call Unit Ar 0 g A () with
    | some (r,obs,_)=>some ({v:=r.fQ (DT dst),new:=obs},e)
    | none=>none
  else
   let sW:=AE (A3 σ) A
   Ap (!A2 sW&&BJ σ (AA σ Ax S)) (match M.call Unit Ar 0 g sW () with
    | some (r,obs,_)=>some ({v:=r.fQ (DT dst),new:=obs,gv:=if r.free&&obs.all Ob.free&&!M.gT g then [] else AA σ Ax S},e)
    | none=>none)
 | _=>none
def Dd:Ak->Bool
 | .box _ | .alloc _ _ | .kr _ _ | .mkMap | .po _ _ _ _ | .append _ _ _ _ | .call _ _ | .iter _=>true
 | _=>false
def BQ (o:Av) (V:St):Bool :=
 if Dd o.op then
  match o.dst with
  | some d=>match V.fA[d]? with
   | some []=>true
   | _=>false
  | none=>match o.op with
   | .call _ _=>true
   | _=>false
 else true
def HY (dst:fb) (out:Ai):Bool:=!out.io||dst.isSome||out.new.isEmpty||out.slot.isSome
variable{dst:fb}
theorem Oh {x:Option (Ai×E)} {out:Ai} (h:(match x with
   | some (out,e)=>Ap (HY dst out) (some (out,e))
   | none=>none)=some (out,e1)):x=some (out,e1)/\HY dst out=true:=by
 cases x with
 | none=>cases h
 | some p =>
  simp only[Ap] at h;split at h;{rename_i U;cases h;exact⟨rfl,U⟩};{cases h}
def Br (M:AC) (h:AB E) (dep:Nat) (o:Av) (V:St) (e:E):Option (Ai×E) :=
 Ap (BQ o V) (match o.op with
  | .call f args=>match BU M h dep (o.dst.getD 0) (Aa V.fA) V.tmps f args e with
   | some (out,e)=>Ap (HY o.dst out) (some (out,e))
   | none=>none
  | op=>match exec (o.dst.getD 0) (Aa V.fA) V.tmps op with
   | some out=>some (out,e)
   | none=>none)
def Hv (M:AC) (h:AB E) (dep:Nat) (o:Av) (V:St) (e:E):Option (St×E) :=
 match Br M h dep o V e with
 | some (out,e)=>some (apply V o.dst out,e)
 | none=>none
def BB (ops:fq) (o:Av) (tm:fa):Option Bool :=
 match o.guard with
 | none=>some true
 | some (j,want) =>
  match ops[j]? with
  | some p=>match p.dst with
   | some d=>match tm.getD d .undef with
    | .bool b=>some (b==want)
    | .fM []=>some false
    | _=>none
   | none=>none
  | none=>none
def stepG (M:AC) (h:AB E) (dep:Nat) (ops:fq) (o:Av) (V:St) (e:E):Option (St×E) :=
 match BB ops o V.tmps with
 | some true=>Hv M h dep o V e
 | some false=>some (apply V o.dst {v:=.fM []},e)
 | none=>none
def CX (M:AC) {E:Type} (h:AB E) (dep:Nat) (ops:fq):fq->St->E->Option (St×E)
 | [],V,e=>some (V,e)
 | o :: rest,V,e=>match stepG M h dep ops o V e with
  | some (V,e)=>CX M h dep ops rest V e
  | none=>none
def Bx (ops:fq):fc:=ops.filterMap fun o=>if Dd o.op then o.dst else none
def BR (ds:fc) (V:St):St :=
 if ds.all fun d=>(V.fA.getD d []).isEmpty then V
 else
  let V:=Cd (fun m=>if ds.contains m.1 then some none else none) V
  {V with fA:=V.fA.zipIdx.map fun (l,i)=>if ds.contains i then [] else l}
def B3:PV->Bool
 | .undef=>true
 | _=>false
def gi (V:St):fc:=(V.tmps.zipIdx.filter fun (v,_)=>B3 v).map (·.2)
def J0 (V:St) (t:Nat):Bool :=
 match V.fA[t]? with
 | some []=>true
 | _=>false
def Gg (t:Nat) (V:St):St :=
 match V.tmps.getD t .undef with
 | .arr J _ _ _ =>
  if J≠(t,0)/\J0 V t=true then
   match Aa V.fA J with
   | some ob =>
    let f:Nm->Nm:=fun m=>if m=J then (t,0) else m
    let fA:=V.fA.map (·.map (Ob.fQ f))
    {tmps:=AR f V.tmps,fA:=(AM fA J AH).set t [ob.fQ f],fD:=AR f V.fD}
   | none=>V
  else V
 | _=>V
def Ev:Nat:=1000000
def KX (J:Nm) (ty:Nat) (cs:fa) (i k:Nat) (V:St):St :=
 let l:=V.fA.getD J.1 []
 match cs[i]? with
 | some .fF=>{V with fA:=V.fA.set J.1 (l.set J.2 (.cells ty (cs.set i (.arr (J.1,l.length) k 0 0)))++[.arr k 0 []])}
 | some (.arr m _ _ _) =>
  if m.1≠J.1 then
   match Aa V.fA m with
   | some ob =>
    let f:Nm->Nm:=fun x=>if x=m then (J.1,l.length) else x
    let fA:=AM (V.fA.map (·.map (Ob.fQ f))) m AH
    {tmps:=AR f V.tmps,fA:=fA.set J.1 (fA.getD J.1 []++[ob.fQ f]),fD:=AR f V.fD}
   | none=>V
  else V
 | _=>V
def Mc (x off k:Nat) (V:St):St :=
 match V.tmps.getD x .undef with
 | .ref J o=>match Aa V.fA J with
  | some (.cells ty cs)=>KX J ty cs (o+off) k V
  | _=>V
 | _=>V
def FL (t k:Nat) (V:St):St :=
 if Ev<=t then Mc (t%Ev) (t / Ev - 1) k V
 else match V.tmps.getD t .undef with
 | .fF=>if J0 V t then {V with tmps:=V.tmps.set t (.arr (t,0) k 0 0),fA:=V.fA.set t [.arr k 0 []]} else V
 | _=>V
def Ie (gp:fc) (grow:List (Nat×Nat)) (V:St):St :=
 grow.foldl (fun V (t,k)=>FL t k V) (gp.foldl (fun V t=>Gg t V) V)
def FA (ds:fc) (V:St):St:={V with tmps:=V.tmps.zipIdx.map fun (v,i)=>if ds.contains i then .undef else v}
def Gd (V:St):fc :=
 let R:=Al V.tmps++Al V.fD++V.fA.flatMap fun l=>l.flatMap Ob.names
 (List.range V.fA.length).filter fun d=>!(V.fA.getD d []).isEmpty&&R.all fun J=>J.1 != d
def drop (ds:fc) (V:St):St:=BR (Gd (FA ds V)) (FA ds V)
def norm (gp:fc) (grow:List (Nat×Nat)) (V:St):St:=drop (gi (Ie gp grow V)) (Ie gp grow V)
def Fz (ks:fc) (V:St):St:={V with tmps:=V.tmps.zipIdx.map fun (v,i)=>if ks.contains i then v else .undef}
def EC (live:Option fc) (V:St):St :=
 match live with
 | none=>V
 | some ks=>BR (Gd (Fz ks V)) (Fz ks V)
def G4 (R:fh) (d:Nat):Nat->Nat
 | 0=>0
 | m+1=>if R.contains (d,m) then m+1 else G4 R d m
def trim (V:St):St :=
 let R:=Al V.tmps++Al V.fD++V.fA.flatMap fun l=>l.flatMap Ob.names
 {V with fA:=V.fA.zipIdx.map fun (l,d)=>l.take (G4 R d l.length)}
inductive Cls where
 | quiet | turns | calls | other | ios
 deriving DecidableEq
structure Bf where
 i:Nat
 cls:Cls
 dst:fb
 reads:fc
 rn:fh
 on:fh:=[]
 tch:fh:=[]
 gv:Bool:=false
 vn:fh:=[]
 rv:fh:=[]
 nw:Bool:=false
 ld:Option (Nm×Nat×Nat×Bool×PV):=none
 jF:List (Nm×fe):=[]
 aft:List (Nm×Ob):=[]
 V:Option Nm:=none
 sl:Option (Nat×Nat):=none
def Ak.Z:Ak->fu
 | .mov x | .box x | .load _ _ x | .nilck x | .un _ x | .conv _ x | .il x | .ofBytes x | .iU x | .jG x | .mkI _ x | .fieldAddr _ x | .field _ _ _ x | .extract _ x | .len _ x | .iter x | .next x | .gZ _ _ _ x=>[x]
 | .pick c a b=>[c,a,b]
 | .alloc _ _ | .mkMap | .bad=>[]
 | .build _ ps=>ps.map (·.2.2)
 | .kr _ ps=>ps
 | .store _ x v=>[x,v]
 | .bin _ _ _ x y=>[x,y]
 | .mkF _ cap=>cap
 | .insert _ x k v=>[x,k,v]
 | .lookup _ _ _ x k=>[x,k]
 | .po _ _ l c=>[l,c]
 | .slice _ x lo hi mx=>x :: (lo.toList++hi.toList++mx.toList)
 | .gM x lo hi=>x :: (lo.toList++hi.toList)
 | .ic _ x i | .iV x i=>[x,i]
 | .hJ _ _ x i=>[x,i]
 | .append _ _ s x=>[s,x]
 | .copy _ d s=>[d,s]
 | .ij _ Z=>Z
 | .call f args=>f :: args
def HU (Z:fu):fc:=Z.filterMap fun | .t i=>some i | .c _=>none
def Ca (ops:fq) (o:Av):fc :=
 match o.guard with
 | none=>[]
 | some (j,_)=>match ops[j]? with
  | some p=>p.dst.toList
  | none=>[]
def Cz:Ak->Bool
 | .call _ _=>true
 | _=>false
def Dv:Ak->Bool
 | .mov _ | .extract _ _ | .pick _ _ _ | .fieldAddr _ _ | .nilck _ | .mkI _ _ | .mkF _ _ | .slice _ _ _ _ _=>true
 | _=>false
def DB:Ak->Bool
 | .load _ _ _=>true
 | _=>false
def GN:Ak->Bool
 | .store _ _ _=>true
 | _=>false
def Jf (op:Ak):Bool:=DB op||GN op
def EI (op:Ak) (stays:Bool):Nat:=if GN op||(DB op&&stays) then 0 else Ax
def A6 (o:Ai):Bool:=o.gA.isNone&&o.kill.isNone&&o.gv.isEmpty&&o.gone.isEmpty&&o.gC.isEmpty&&o.slot.isNone
def Ck (o:Ai):Bool:=o.gone.isEmpty&&o.gC.isEmpty&&o.slot.isNone&&!o.io
def ES (o:Ai):Bool:=o.gA.isNone&&o.kill.isNone&&o.gv.isEmpty&&o.gone.isEmpty
def GC (op:Ak) (tm:fa) (v:PV):Option (Nm×Nat×Nat×Bool×PV) :=
 match op with
 | .load n ag x=>match x.ev tm with
  | .ref J k=>some (J,k,n,ag,v)
  | _=>none
 | _=>none
def HG (dst:fb) (op:Ak) (tm:fa):Option Nm :=
 match dst,op with
 | none,.store _ x _=>match x.ev tm with
  | .ref J _=>some J
  | .fO J _ _ _=>some J
  | _=>none
 | _,_=>none
def sX:PV->PV->Bool
 | .arr J k o n,.arr gP k' o' n'=>decide (J=gP/\k=k'/\o=o'/\n=n')
 | .ref J o,.ref gP o'=>decide (J=gP/\o=o')
 | .int k n,.int k' n'=>decide (k=k'/\n=n')
 | .fF,.fF=>true
 | .gh,.gh=>true
 | _,_=>false
def N5 (l:Nm×Nat×Nat×Bool×PV):Ob->Bool
 | .cells _ cs=>match B1 cs l.2.1 l.2.2.1 l.2.2.2.1 with
  | some u=>sX u l.2.2.2.2
  | none=>false
 | _=>false
def DQ (o:Ai):fh :=
 match o.gA with
 | some (J,_)=>[J]
 | none=>[]
def Fj (σ:Nm->fe) (l:fh):fh:=l.flatMap fun J=>((σ J).map Ob.names).getD []
def Cg (o:Av) (V:St) (out:Ai):fh :=
 if Dv o.op&&A6 out then [] else AA (Aa V.fA) (EI o.op (A6 out)) (Al (o.op.Z.map (RX.ev V.tmps))++out.gv)
def EV (op:Ak) (tm:fa):Bool :=
 match op with
 | .call f args=>match f.ev tm with
  | .fT _=>(Al (args.map (RX.ev tm))).isEmpty
  | _=>false
 | _=>false
def Cl (ops:fq) (i:Nat) (o:Av) (V:St) (out:Ai):Bf :=
 let A:=o.op.Z.map (RX.ev V.tmps)
 {i,dst:=o.dst,reads:=HU o.op.Z++Ca ops o,rn:=Cg o V out,rv:=if Jf o.op then [] else Fj (Aa V.fA) (Cg o V out),
  cls:=if Cz o.op&&A2 A then (if EV o.op V.tmps then .calls else .other) else if A6 out then .quiet else if Ck out then .turns else if ES out then .ios else .other,
  on:=out.v.names++out.new.flatMap Ob.names,tch:=DQ out++(out.gv++out.kill.toList),gv:=!(out.gv++out.kill.toList).isEmpty,
  vn:=(HU o.op.Z++Ca ops o).flatMap fun s=>(V.tmps.getD s .undef).names
  nw:=out.new.isEmpty&&!Dd o.op,ld:=GC o.op V.tmps out.v,jF:=out.gC.map fun p=>(p.1,Aa V.fA p.1),aft:=out.gC,V:=HG o.dst o.op V.tmps,sl:=out.slot.map fun r=>(r,(V.fA.getD r []).length)}
def E8 (a b:fc):Bool:=a.all fun x=>!b.contains x
def PX (f:Bool) (q t:Bf):Bool :=
 (q.rn.all fun J=>!t.tch.contains J)&&E8 q.dst.toList (t.tch.map (·.1))&&(!t.gv||((if f then q.rv.all fun J=>!t.tch.contains J else q.rn.isEmpty)&&(if f then q.vn.all fun J=>!t.tch.contains J else q.reads.isEmpty)&&q.on.all fun J=>!t.tch.contains J))
def sY (a b:Bf):Bool :=
 match a.cls,b.cls with
 | .quiet,.calls=>true
 | .calls,.quiet=>true
 | _,_=>false
def T4 (a b:Bf):Bool :=
 match a.cls,b.cls with
 | .quiet,.quiet=>true
 | .quiet,.turns=>PX true a b
 | .turns,.quiet=>PX false b a
 | _,_=>false
def PY (a b:Bf):Bool :=
 match a.ld with
 | some l=>b.aft.any (fun p=>decide (p.1=l.1))&&(b.aft.all (fun p=>!decide (p.1=l.1)||N5 l p.2)&&b.jF.all fun p=>!decide (p.1=l.1)||match p.2 with
  | some ob=>N5 l ob
  | none=>false)
 | none=>false
def T1 (a b:Bf):Bool :=
 a.rn.all fun J=>(b.jF.all fun p=>!decide (p.1=J))&&match b.sl with
  | some r=>!decide (J.1=r.1)||decide (J.2 < r.2)
  | none=>true
def NE (a b:Bf):Bool :=
 a.dst.toList.all fun d=>(b.jF.all fun p=>!decide (p.1.1=d))&&match b.sl with
  | some r=>!decide (r.1=d)
  | none=>true
def T3 (a b:Bf):Bool :=
 match a.cls,b.cls with
 | .quiet,.ios=>(a.nw||NE a b)&&(T1 a b||PY a b)
 | .ios,.quiet=>(b.nw||NE b a)&&(T1 b a||PY b a)
 | _,_=>false
def T2 (a b:Bf):Bool :=
 match a.V,b.V with
 | some x,some y=>!decide (x=y)
 | _,_=>false
def G2 (a b:Bf):Bool :=
 E8 a.dst.toList (b.reads++b.dst.toList)&&E8 b.dst.toList a.reads &&
 E8 a.dst.toList (b.rn.map (·.1))&&E8 b.dst.toList (a.rn.map (·.1)) &&
 (T4 a b||(sY a b||(T3 a b||T2 a b)))
def AX (M:AC) (h:AB E) (dep:Nat) (ops:fq) (i:Nat) (o:Av) (V:St) (e:E):Option (Ai×E×Bf) :=
 match BB ops o V.tmps with
 | some true=>match Br M h dep o V e with
  | some (out,e)=>some (out,e,Cl ops i o V out)
  | none=>none
 | some false=>some ({v:=.fM []},e,{i,cls:=.quiet,dst:=o.dst,reads:=Ca ops o,rn:=[],vn:=(Ca ops o).flatMap fun s=>(V.tmps.getD s .undef).names,nw:=!Dd o.op})
 | none=>none
def HB (M:AC) (h:AB E) (dep:Nat) (ops:fq) (i:Nat) (o:Av) (V:St) (e:E):Option (St×E×Bf) :=
 match AX M h dep ops i o V e with
 | some (out,e,info)=>some (apply V o.dst out,e,info)
 | none=>none
def ED (M:AC) {E:Type} (h:AB E) (dep:Nat) (ops:fq):List (Nat×Nat)->List Bf->St->E->Option (St×E)
 | [],_,V,e=>some (V,e)
 |(i,jF) :: rest,infos,V,e=>match ops[i]? with
  | some o=>match HB M h dep ops i o V e with
   | some (V,e,info)=>Ap (infos.all fun j=>jF.testBit j.i||G2 j info) (ED M h dep ops rest (info :: infos) V e)
   | none=>none
  | none=>none
inductive Ex where
 | normal
 | exit (id:Nat)
 | ret
 deriving DecidableEq
def BK:Nat:=1000000000
abbrev Dj (E:Type):=St×Option Ex×E
def FG:fc->fa->fa->fa
 | p :: ps,v :: A,tm=>FG ps A (tm.set p v)
 | _,_,tm=>tm
def IY (V:St) (v:PV):Option (PV×St) :=
 if v.names.isEmpty then some (v,V)
 else Ap (BJ (Aa V.fA) (AA (Aa V.fA) Ax v.names))
  (some (v.sub (A3 (Aa V.fA)),BN (Aa V.fA) (AA (Aa V.fA) Ax v.names) V))
def Cy:fh->Bool
 | []=>true
 | x :: Z=>!Z.contains x&&Cy Z
def Ob.gq:Ob->Bool
 | .cells _ cs=>A2 cs
 | .arr _ _ Z=>A2 Z
 | .map es=>A2 es
 | .fW _ _=>false
def Bm:fh->fh
 | []=>[]
 | x :: Z=>if Z.contains x then Bm Z else x :: Bm Z
def E0 (g:fc) (nt k:Nat):fa:=(List.range nt).map fun j=>if j < k/\g.contains j=false then .arr (0,j) 1 0 0 else .undef
def Cm:PV->Option Nm
 | .arr J 1 0 0=>some J
 | _=>none
def EJ (R:fh) (fD:fa):List (Nm×Nm):=R.zipIdx.map fun p=>((Cm (fD.getD p.2 .undef)).getD (0,p.2),p.1)
def Hx (R:fh) (fD:fa):fh:=(R.zipIdx.filter fun p=>(Cm (fD.getD p.2 .undef)).isNone).map (·.1)
def J6 (σ:Nm->fe) (zzb:List (Nm×Nm)) (v:PV):fh :=
 Bm ((AA σ Ax (v.names++zzb.flatMap fun p=>((σ p.1).map Ob.names).getD [])).filter fun m=>!(zzb.map (·.1)).contains m)
def FZ (σ:Nm->fe) (B:List (Nm×Nm)) (J:Nm):Ob :=
 (((σ J).getD AH).sub fun m=>if (B.map (·.1)).contains m then none else some none).fQ fun m=>(B.lookup m).getD m
def Fi (sl:fb) (d0 i0:Nat) (R:fh) (V:St) (v:PV):fj :=
 let zzb:=EJ R V.fD
 let N:=J6 (Aa V.fA) zzb v
 let B:=zzb++N.zipIdx.map fun p=>(p.1,(d0,i0+p.2))
 Ap (Cy (B.map (·.1)))
  (some {v:=(v.sub fun m=>if (B.map (·.1)).contains m then none else some none).fQ fun m=>(B.lookup m).getD m,new:=N.map (FZ (Aa V.fA) B),gC:=zzb.map fun p=>(p.2,FZ (Aa V.fA) B p.1),gone:=Hx R V.fD,io:=true,slot:=sl})
def D4 (g:fc) (nt:Nat) (ins:fg) (A:fa):St :=
 {tmps:=A++List.replicate (nt - A.length) .undef,fA:=(List.replicate nt []).set 0 ins,fD:=E0 g nt ins.length}
def GL (σ:Nm->Option α) (d:Nat):fb:=(List.range 64).find? fun j=>(σ (d,j)).isNone
def Gh (σ:Nm->fe) (dst:Nat) (R:fh) (V:St) (v:PV):fj :=
 match R with
 | []=>Fi none dst 0 R V v
 | r :: _=>match GL σ r.1 with
  | some i0=>Fi (some r.1) r.1 i0 R V v
  | none=>none
mutual
def Io (dep:Nat) (R:fh):PV->PV
 | .ref J o=>if R.contains J then (if o=0 then .fT (dep+R.idxOf J) else .undef) else .ref J o
 | .fO J k i o=>if R.contains J then .undef else .fO J k i o
 | .arr J k o n=>if R.contains J then .undef else .arr J k o n
 | .mp J=>if R.contains J then .undef else .mp J
 | .it J=>if R.contains J then .undef else .it J
 | .agg cs=>.agg (Ip dep R cs)
 | .iface t x=>.iface t (Io dep R x)
 | .fn f cs=>.fn f (Ip dep R cs)
 | .fM Z=>.fM (Ip dep R Z)
 | .undef=>.undef | .bool b=>.bool b | .int k n=>.int k n | .str s=>.str s | .fF=>.fF | .gh=>.gh | .gH=>.gH | .fR=>.fR | .gF=>.gF
 | .sl k Z b=>.sl k Z b | .ptr cs o=>.ptr cs o | .fT d=>.fT d | .gz es=>.gz es | .gw g t=>.gw g t
def Ip (dep:Nat) (R:fh):fa->fa
 | []=>[]
 | x :: Z=>Io dep R x :: Ip dep R Z
end
mutual
def Fl (dep:Nat) (R:fh):PV->PV
 | .fT d=>if dep<=d/\d < dep+R.length then .ref (R.getD (d - dep) (0,0)) 0 else .fT d
 | .arr J k o n=>if R.contains J then .undef else .arr J k o n
 | .ref J o=>if R.contains J then .undef else .ref J o
 | .fO J k i o=>if R.contains J then .undef else .fO J k i o
 | .mp J=>if R.contains J then .undef else .mp J
 | .it J=>if R.contains J then .undef else .it J
 | .sl k Z b=>if A2 Z then .undef else .sl k Z b
 | .ptr cs o=>if A2 cs then .undef else .ptr cs o
 | .gz es=>if A2 es then .undef else .gz es
 | .agg cs=>.agg (In dep R cs)
 | .iface t x=>.iface t (Fl dep R x)
 | .fn f cs=>.fn f (In dep R cs)
 | .fM Z=>.fM (In dep R Z)
 | .undef=>.undef | .bool b=>.bool b | .int k n=>.int k n | .str s=>.str s | .fF=>.fF | .gh=>.gh | .gH=>.gH | .fR=>.fR | .gF=>.gF
 | .gw g t=>.gw g t
def In (dep:Nat) (R:fh):fa->fa
 | []=>[]
 | x :: Z=>Fl dep R x :: In dep R Z
end
def Uc (dep:Nat) (R:fh):Ob->Ob
 | .cells ty cs=>.cells ty (Ip dep R cs)
 | .map es=>.map (Ip dep R es)
 | ob=>ob
def Q1 (dep:Nat) (R:fh):Ob->Ob
 | .cells ty cs=>.cells ty (In dep R cs)
 | .map es=>.map (In dep R es)
 | ob=>ob
def NJ (dep:Nat) (R:fh) (V:St):St :=
 {tmps:=Ip dep R V.tmps,fD:=Ip dep R V.fD,fA:=(Bj (R.map fun J=>(J,AH)) V.fA).map (·.map (Uc dep R))}
def NI (dep:Nat) (R:fh) (V:St):St :=
 {tmps:=In dep R V.tmps,fD:=In dep R V.fD,fA:=V.fA.map (·.map (Q1 dep R))}
def sZ:fe->Bool
 | some (.arr _ _ [])=>true
 | _=>false
def Ps (R:fh) (V:St):Bool:=R.all (fun J=>sZ (Aa V.fA J))&&V.fA.all fun l=>l.all fun ob=>match ob with
 | .cells _ _=>true
 | .map _=>true
 | ob=>!ob.gq
def Kg (J:Nm) (σ:List fg):List fg :=
 match σ[J.1]? with
 | some l=>σ.set J.1 (l++List.replicate (J.2+1 - l.length) AH)
 | none=>σ
def s6:fh->List fg->List fg
 | [],σ=>σ
 | J :: R,σ=>s6 R (Kg J σ)
def Nt (R:fh) (V:St):St:={V with fA:=s6 R V.fA}
def keep1 (R:fh) (o n:PV):PV:=match o with
 | .arr J 1 0 0=>if R.contains J then .arr J 1 0 0 else n
 | _=>n
def Ta (R:fh):fa->fa->fa
 | o :: os,n :: ns=>keep1 R o n :: Ta R os ns
 | _,ns=>ns
def XV (R:fh) (lu:fa) (V:St):St:={V with fD:=Ta R lu V.fD}
def Mi (dep k:Nat) (h:AB E):AB E:=fun l args e=>if dep<=l/\l < dep+k then none else h l args e
def Ih (M:AC):PV->Bool
 | .fn g cap=>M.iN (AG g)&&!(Al cap).isEmpty
 | _=>false
def HW (M:AC) (rnd:AB E->Nat->AB (Dj E)) (h:AB E) (dep:Nat) (f:PV) (V:St) (e:E):Option (Ex×St×E) :=
 match f with
 | .fn g cap =>
  let R:=Bm (AA (Aa V.fA) Ax (Al cap))
  match R.mapM (Aa V.fA) with
  | none=>none
  | some ins =>
   Ap (!R.isEmpty&&(!A2 cap&&(BJ (Aa V.fA) R&&ins.all fun o=>!o.gq))) (
    match M.nP (Dj E) (rnd (Mi dep R.length h) (dep+R.length)) (dep+R.length+1) (AG g) (ins.map (Ob.fQ fun m=>(0,R.idxOf m))) (A7 g [.fT (dep+R.length)] (AR (fun m=>(0,R.idxOf m)) cap)) (NJ dep R V,none,e) with
    | some (kx,s,p,e)=>Ap (Ps R (Nt R s)) (match Gh (Aa (Nt R s).fA) 0 R kx (.fM []) with
     | some out=>Ap (out.gone.isEmpty&&(out.new.all (fun o=>!o.gq)&&out.gC.all fun o=>!o.2.gq)) (some (p.getD .normal,XV R V.fD (apply (NI dep R (Nt R s)) none out),e))
     | none=>none)
    | none=>none)
 | _=>none
def CW {σ:Type} (step:σ->Option (Sum σ (Ex×σ))):Nat->σ->Option (Ex×σ)
 | 0,_=>none
 | m+1,s=>match step s with
  | some (.inl s)=>CW step m s
  | some (.inr r)=>some r
  | none=>none
def At (M:AC) (fuel:Nat):AU->{E:Type}->AB E->Nat->St->E->Option (Ex×St×E)
 | .skip,_,_,_,V,e=>some (.normal,V,e)
 | .region ops none AH,_,h,dep,V,e=>match CX M h dep ops ops (BR (Bx ops) V) e with
  | some (V,e)=>some (.normal,EC AH V,e)
  | none=>none
 | .region ops (some jF) AH,_,h,dep,V,e=>match ED M h dep ops jF [] (BR (Bx ops) V) e with
  | some (V,e)=>some (.normal,EC AH V,e)
  | none=>none
 | .seq a b,_,h,dep,V,e=>match At M fuel a h dep V e with
  | some (.normal,V,e)=>At M fuel b h dep V e
  | r=>r
 | .cond c a b,_,h,dep,V,e=>match c.ev V.tmps with
  | .bool true=>At M fuel a h dep V e
  | .bool false=>At M fuel b h dep V e
  | _=>none
 | .block id body,_,h,dep,V,e=>match At M fuel body h dep V e with
  | some (.exit jH,V,e)=>if jH=id then some (.normal,V,e) else some (.exit jH,V,e)
  | r=>r
 | .loop gp grow body,E,h,dep,V,e =>
  let V:=norm gp grow V
  let ds:=gi V
  match CW (fun (s:St×E)=>match At M fuel body h dep s.1 s.2 with
   | some (.normal,V,e)=>some (.inl (norm gp grow (drop ds V),e))
   | some (x,V,e)=>some (.inr (x,V,e))
   | none=>none) fuel (V,e) with
  | some (x,V,e)=>some (x,V,e)
  | none=>none
 | .rangeFunc f ps assign body,E,h,dep,V,e =>
  let rnd:AB E->Nat->AB (Dj E):=fun h dep l args r =>
   if l=dep then
    match r with
    |(s,none,e) =>
     if args.length=ps.length then
      match At M fuel assign h (dep+1) {s with tmps:=FG ps args s.tmps,fD:=s.tmps++s.fD} e with
      | some (.normal,s',e)=>match At M fuel body h (dep+1) s' e with
       | some (x,s',e)=>some (x==.normal,({s' with tmps:=s'.fD.take s.tmps.length,fD:=s'.fD.drop s.tmps.length},(if x=.normal then none else some x),e))
       | none=>none
      | _=>none
     else none
    | _=>none
   else
    match r with
    |(s,p,e)=>match h l args e with
     | some (b,e)=>some (b,(s,p,e))
     | none=>none
  if Ih M (f.ev V.tmps) then HW M rnd h dep (f.ev V.tmps) V e
  else match IY V (f.ev V.tmps) with
  | some (.fn g cap,V) =>
   match M.call (Dj E) (rnd h dep) (dep+1) (AG g) (A7 g [.fT dep] cap) (V,none,e) with
   | some (_,_,s,p,e)=>some (p.getD .normal,s,e)
   | none=>none
  | _=>none
 | .exit id,_,_,_,V,e=>some (.exit id,V,e)
 | .scope body,_,h,dep,V,e=>match At M fuel body h dep V e with
  | some (.exit id,V,e)=>if id < BK then some (.exit id,V,e) else none
  | r=>r
 | .ret,_,_,_,V,e=>some (.ret,V,e)
 | .norm grow,_,_,_,V,e=>some (.normal,norm [] grow (trim V),e)
 | .kd _ _ _ _,_,_,_,_,_=>none
 | .bad,_,_,_,_,_=>none
def LK (nt:Nat) (A:fa) (V:St):St:={V with fD:=A++List.replicate (nt - A.length) .undef++V.fD}
def Pb:AU->Bool
 | .seq (.block id _) _=>decide (BK<=id)
 | _=>false
def isFn:PV->Bool
 | .fn _ _=>true
 | _=>false
def ET:Option (Ex×St×Unit)->Option (Ex×St×fc)
 | some (x,V,_)=>some (x,V,[])
 | none=>none
def AQ (M:AC) (fuel nt:Nat):AU->St->Option (Ex×St×fc)
 | .kd ops f args live,V=>match CX M Ar 0 ops ops (BR (Bx ops) V) () with
  | some (V,_)=>Ap (decide (args.length+1<=nt)&&isFn (f.ev V.tmps))
    (some (.normal,EC live (LK nt (f.ev V.tmps :: args.map (RX.ev V.tmps)) V),[args.length]))
  | none=>none
 | .seq a b,V=>match AQ M fuel nt a V with
  | some (.normal,V,l)=>match AQ M fuel nt b V with
   | some (x,V,l')=>some (x,V,l'++l)
   | none=>none
  | r=>r
 | .cond c a b,V=>match c.ev V.tmps with
  | .bool true=>AQ M fuel nt a V
  | .bool false=>AQ M fuel nt b V
  | _=>none
 | .block id body,V=>match AQ M fuel nt body V with
  | some (.exit jH,V,l)=>if jH=id then some (.normal,V,l) else some (.exit jH,V,l)
  | r=>r
 | .scope body,V=>if Pb body then none else match AQ M fuel nt body V with
  | some (.exit id,V,l)=>if id < BK then some (.exit id,V,l) else none
  | r=>r
 | c,V=>ET (At M fuel c Ar 0 V ())
def Fp (M:AC) (nt:Nat):fc->St->Option St
 | [],V=>some V
 | n :: l,V=>match V.fD.getD 0 .undef with
  | .fn f cap =>
   match M.sp (AG f) (Aa V.fA) (A7 f ((V.fD.drop 1).take n) cap) with
   | some _=>none
   | none=>if M.iN (AG f)&&M.flat (AG f) then match M.io (AG f) 0 (Aa V.fA) (A7 f ((V.fD.drop 1).take n) cap) with
    | some out=>Ap (out.new.isEmpty||out.slot.isSome) (Fp M nt l (apply {V with fD:=V.fD.drop nt} none out))
    | none=>none
   else none
  | _=>none
def G7 (V:St):E5->ft
 | .tmp t=>some (V.tmps.getD t .undef)
 | .cell t n ag=>match V.tmps.getD t .undef with
  | .ref J o=>match Aa V.fA J with
   | some (.cells _ cs)=>B1 cs o n ag
   | _=>none
  | _=>none
def CK (V:St):List E5->Option fa
 | []=>some []
 | r :: rs=>match G7 V r,CK V rs with
  | some v,some A=>some (v :: A)
  | _,_=>none
def DW:fa->PV
 | [v]=>v
 | A=>.fM A
def s7:PV->fh
 | .arr J _ 0 _=>[J]
 | .agg cs=>cs.flatMap fun | .arr J _ 0 _=>[J] | _=>[]
 | .fM Z=>Z.flatMap fun | .arr J _ 0 _=>[J] | .agg cs=>cs.flatMap (fun | .arr J _ 0 _=>[J] | _=>[]) | _=>[]
 | _=>[]
def H9 (S:fh) (J:Nm):Nm:=(0,S.idxOf J)
def Ii:Ob->Bool
 | .arr _ _ _=>true
 | _=>false
def Ob.bare:Ob->Ob
 | .arr k _ Z=>.arr k 0 Z
 | o=>o
def GR (shut:Bool) (v:PV):fh:=if shut then [] else s7 v
def HQ (shut:Bool) (V:St) (v:PV):Option (PV×fg) :=
 let σ:=Aa V.fA
 let S:=GR shut v
 let R:=AA σ Ax (v.names.filter fun J=>!S.contains J)
 let S:=if Cy S&&S.all (fun J=>!R.contains J) then S else []
 let R:=AA σ Ax (v.names.filter fun J=>!S.contains J)
 let v:=(v.sub fun J=>if S.contains J then none else A3 σ J).fQ (H9 S)
 match S.mapM σ with
 | some obs=>Ap (BJ σ R&&obs.all Ii) (some (v,obs.map Ob.bare))
 | none=>none
def GZ (M:AC) (n:Nat) (fK:eU->fk):Gq:=fun _ h dep f args e =>
 match fK f with
 | none=>none
 | some fn =>
  match At M n fn.code h dep {tmps:=args++List.replicate (fn.nt - args.length) .undef,fA:=List.replicate fn.nt [],fD:=[]} e with
  | some (x,V,e) =>
   match x with
   | .exit _=>none
   | _=>match CK V fn.res with
    | some A=>match HQ fn.shut V (DW A) with
     | some (v,obs)=>some (v,obs,e)
     | none=>none
    | none=>none
  | none=>none
def Bq (M:AC) (n:Nat) (fn:Ad) (ins:fg) (A:fa):Option (St×PV) :=
 if Cq fn.code then match At M n fn.code Ar 0 (D4 fn.gone fn.nt ins A) () with
  | some (x,V,_) =>
   match x with
   | .exit _=>none
   | _=>match CK V fn.res with
    | some rs=>some (V,DW rs)
    | none=>none
  | none=>none
 else match AQ M n fn.nt fn.code (D4 fn.gone fn.nt ins A) with
  | some (x,V,l) =>
   match x with
   | .exit _=>none
   | _=>match Fp M fn.nt l V with
    | some V=>match CK V fn.res with
     | some rs=>some (V,DW rs)
     | none=>none
    | none=>none
  | none=>none
def H4 (fn:Ad) (p:St×PV):Option (St×PV) :=
 if fn.shut&&!p.2.names.isEmpty then
  Ap (BJ (Aa p.1.fA) (AA (Aa p.1.fA) Ax p.2.names))
   (some (BN (Aa p.1.fA) (AA (Aa p.1.fA) Ax p.2.names) p.1,p.2.sub (A3 (Aa p.1.fA))))
 else some p
def E4 (M:AC) (n:Nat) (fK:eU->fk) (f:eU) (dst:Nat) (σ:Nm->fe) (A:fa):fj :=
 match fK f with
 | none=>none
 | some fn =>
  let R:=Bm (AA σ Ax (Al A))
  match R.mapM σ with
  | none=>none
  | some ins =>
   Ap (!A2 A&&BJ σ R&&ins.all (fun o=>!o.gq)&&(decide (A.length<=fn.nt)&&decide (R.length<=fn.nt)&&decide (0 < fn.nt))) (
    match Bq M n fn (ins.map (Ob.fQ fun m=>(0,R.idxOf m))) (AR (fun m=>(0,R.idxOf m)) A) with
    | some p=>match H4 fn p with
     | some (V,v)=>Gh σ dst R V v
     | none=>none
    | none=>none)
def Yw (A:fa):fh:=A.flatMap fun v=>match v with
 | .arr J _ _ _=>[J]
 | _=>[]
def JA (σ:Nm->fe) (R:fh) (m:Nm):Option fe:=if R.contains m then A3 σ m else none
def frzS (σ:Nm->fe) (R:fh) (J:Nm):fe:=if J∈R then ((σ J).map (Ob.sub (JA σ R))).map fun _=>AH else (σ J).map (Ob.sub (JA σ R))
def Jd (fK:eU->fk) (g:eU) (σ:Nm->fe) (A:fa):fh :=
 match fK g with
 | some fn=>if fn.gv then AA σ Ax (Yw A) else []
 | none=>[]
def Fm (fK:eU->fk) (io:eU->Nat->(Nm->fe)->fa->fj) (g:eU) (dst:Nat) (σ:Nm->fe) (A:fa):fj :=
 match Jd fK g σ A with
 | []=>io g dst σ A
 | r :: rs=>Ap (BJ σ (r :: rs)) (match io g dst (frzS σ (r :: rs)) (AE (JA σ (r :: rs)) A) with
  | some out=>Ap (out.io&&out.gA.isNone&&out.kill.isNone&&out.gv.isEmpty) (some {out with gv:=r :: rs})
  | none=>none)
def Ef (fK:eU->fk) (f:eU):Bool :=
 match fK f with
 | some fn=>fn.io
 | none=>false
def KT (fK:eU->fk) (f:eU):Bool :=
 match fK f with
 | some fn=>fn.gT
 | none=>false
def IR (fK:eU->fk) (f:eU):Bool :=
 match fK f with
 | some fn=>Cq fn.code
 | none=>false
def Ib (M:AC) (n:Nat) (fK:eU->fk):(E:Type)->AB E->Nat->eU->fg->fa->E->Option (St×E):=fun _ h dep g ins A e =>
 match fK g with
 | none=>none
 | some fn=>Ap (fn.res.isEmpty&&(decide (A.length<=fn.nt)&&decide (ins.length<=fn.nt)&&decide (0 < fn.nt))) (
  match At M n fn.code h dep (D4 fn.gone fn.nt ins A) e with
  | some (.exit _,_,_)=>none
  | some (.normal,V,e)=>some (V,e)
  | some (.ret,V,e)=>some (V,e)
  | none=>none)
def Be (sp:eU->(Nm->fe)->fa->fj) (fK:eU->fk):Nat->AC
 | 0=>{sp,call:=fun _ _ _ _ _ _=>none,iN:=Ef fK,gT:=KT fK,io:=fun _ _ _ _=>none,flat:=IR fK,nP:=fun _ _ _ _ _ _ _=>none}
 | n+1=>{sp,call:=GZ (Be sp fK n) n fK,iN:=Ef fK,gT:=KT fK,io:=Fm fK (E4 (Be sp fK n) n fK),flat:=IR fK,nP:=Ib (Be sp fK n) n fK}
def AI (sp:eU->(Nm->fe)->fa->fj) (fK:eU->fk) (n:Nat):Gq:=(Be sp fK n).call
end Go.Ab


namespace Go.Ab
def Kv (d:e9):Bool :=
 match d with
 | .struct _=>true
 | .array _ _=>true
 | _=>false
def GM:Nat->eT->ft
 | _,.bool b=>some (.bool b)
 | _,.int k n=>some (.int k n)
 | _,.string s=>some (.str s.data.toList)
 | _,.slice none 0 0=>some .fF
 | _,.pointer none=>some .gh
 | _,.nilFunc=>some .gH
 | _,.nilIface=>some .fR
 | _,.map none=>some .gF
 | n+1,.agg cs=>if cs.toList.all (·.oneCell') then (cs.toList.mapM (GM n)).map .agg else none
 | _,_=>none
def Fd (P:eX) (t:eY):ft:=((P.info? t).bind (·.zero)).bind (GM 3)
def Gf (P:eX) (t:eY):Option (Nat×Bool) :=
 match P.underlying t,P.info? t with
 | some d,some i=>some (i.size,Kv d)
 | _,_=>none
def Fe (P:eX) (t:eY):Option (Nat×Nat×PV) :=
 match P.underlying t with
 | some (.slice e)=>match P.info? e,Fd P e with
  | some i,some z=>if i.bytes<=65536/\z.cells.length=i.size then some (i.size,i.bytes,z) else none
  | _,_=>none
 | _=>none
def JY (P:eX) (i:Nat):List Field->Option fc
 | []=>some []
 | f :: fs=>if f.offset=i/\f.name ≠ "_" then
   match P.underlying f.type,JY P (i+1) fs with
   | some (.int _),some l=>some (0 :: l)
   | some .string,some l=>some (1 :: l)
   | some .bool,some l=>some (2 :: l)
   | _,_=>none
  else none
def Da (P:eX) (t:eY):TC :=
 match P.underlying t with
 | some (.struct fs)=>match JY P 0 fs.toList with
  | some l=>if P.stoodInHeld t=false/\P.eqGuardType P.depth t=false then .plain l else .other
  | none=>.other
 | some (.int _)=>.num
 | some .string=>.str
 | some .bool=>.bool
 | some (.interface _)=>.iface
 | some (.slice _)=>.slice
 | some (.map _ _)=>.map
 | some (.func _ _ _)=>.func
 | some (.pointer _)=>.ptr
 | _=>.other
abbrev DZ:=Nat->Option fa
def rx (G:DZ):eV->fz
 | .tmp t=>some (.t t)
 | .const v=>(GM 3 v).map .c
 | .global g=>(G g).map fun cs=>.c (.ptr cs 0)
 | .func f=>if Nat.blt f CJ=true then some (.c (.fn f [])) else none
def sE (G:DZ):Option eV->Option fz
 | none=>some none
 | some x=>(rx G x).map some
def Di (G:DZ):List eV->Option fu
 | []=>some []
 | x :: Z=>match rx G x,Di G Z with
  | some y,some ys=>some (y :: ys)
  | _,_=>none
def isC:eV->Bool
 | .const _=>true
 | _=>false
def KN (G:DZ) (place:Nat->Option (Nat×Nat)):List (Nat×eV)->Option (List (Nat×Nat×RX))
 | []=>some []
 |(i,x) :: ps=>match place i,rx G x,KN G place ps with
  | some (off,n),some y,some ys=>some ((off,n,y) :: ys)
  | _,_,_=>none
def K8 (G:DZ):Nat->List (Nat×eV)->Option fu
 | _,[]=>some []
 | j,(i,x) :: ps=>if i=j then match rx G x,K8 G (j+1) ps with
  | some y,some ys=>some (y :: ys)
  | _,_=>none
  else none
def Om (P:eX) (fs:Array Field) (i:Nat):Option (Nat×Nat) :=
 match fs[i]? with
 | some f=>match P.info? f.type with
  | some inf=>some (f.offset,inf.size)
  | none=>none
 | none=>none
def s8:Option Ak->Ak
 | some o=>o
 | none=>.bad
def SZ (P:eX) (t:eY):Bool :=
 match P.underlying t with
 | some (.int _)=>true
 | some .string=>true
 | some .bool=>true
 | _=>false
def Bw (P:eX) (G:DZ) (o:Oper):Option Ak :=
 match o.op with
 | .move x=>(rx G x).map .mov
 | .assign x=>(rx G x).map .mov
 | .pick c a b=>match rx G c,rx G a,rx G b with
  | some c,some a,some b=>some (.pick c a b)
  | _,_,_=>none
 | .alloc t=>match Fd P t with
  | some z=>some (.alloc t z.cells)
  | none=>none
 | .box _ x=>(rx G x).map .box
 | .build t ps=>match P.underlying t,Fd P t with
  | some (.struct fs),some (.agg z)=>match KN G (Om P fs) ps.toList with
   | some ps=>if fs.all (fun f=>(P.info? f.type).isSome) then some (.build z ps) else none
   | none=>none
  | _,_=>none
 | .buildSlice t len ps=>match Fe P t,K8 G 0 ps.toList with
  | some (k,_,_),some Z=>if Z.length=len/\len*k<=16777216 then some (.kr k Z) else none
  | _,_=>none
 | .load t a=>match Gf P t,rx G a with
  | some (n,ag),some x=>some (.load n ag x)
  | _,_=>none
 | .store t a v=>match Gf P t,rx G a,rx G v with
  | some (n,_),some x,some y=>some (.store n x y)
  | _,_,_=>none
 | .nilCheck x=>(rx G x).map .nilck
 | .binOp op t x y _=>match rx G x,rx G y with
  | some a,some b=>some (.bin op (Da P t) (isC x||isC y) a b)
  | _,_=>none
 | .unOp op _ x=>(rx G x).map (.un op)
 | .convert src dst x=>match P.underlying src,P.underlying dst,rx G x with
  | some (.int _),some (.int k),some x=>some (.conv k x)
  | some (.int _),some .string,some x=>some (.iU x)
  | some .string,some .string,some x=>some (.jG x)
  | some .string,some (.slice e),some x=>match P.underlying e with
   | some (.int .u8)=>some (.il x)
   | _=>none
  | some (.slice e),some .string,some x=>match P.underlying e with
   | some (.int .u8)=>some (.ofBytes x)
   | _=>none
  | _,_,_=>none
 | .makeInterface t x=>match P.underlying t with
  | some (.interface _)=>none
  | some _=>(rx G x).map (.mkI t)
  | none=>none
 | .makeFunc (.func f) first cap=>if Nat.blt f CJ=true then (Di G (first.toList++cap.toList)).map (.mkF (N6 f first.size)) else none
 | .makeMap _ none=>some .mkMap
 | .insert t m k v=>match P.underlying t,rx G m,rx G k,rx G v with
  | some (.map kt _),some m,some k,some v=>if SZ P kt then some (.insert (Da P kt) m k v) else none
  | _,_,_,_=>none
 | .mapUpdate t m k v=>match P.underlying t,rx G m,rx G k,rx G v with
  | some (.map kt _),some m,some k,some v=>if SZ P kt then some (.insert (Da P kt) m k v) else none
  | _,_,_,_=>none
 | .lookup t m k ok=>match P.underlying t with
  | some (.map kt et)=>match Fd P et,rx G m,rx G k with
   | some z,some m,some k=>if SZ P kt then some (.lookup (Da P kt) z ok m k) else none
   | _,_,_=>none
  | _=>none
 | .makeSlice t l c=>match Fe P t,rx G l,rx G c with
  | some (k,_,z),some l,some c=>some (.po k z l c)
  | _,_,_=>none
 | .slice t x lo hi mx=>match rx G x,sE G lo,sE G hi,sE G mx with
  | some x,some lo,some hi,some mx=>match P.underlying t with
   | some .string=>if mx.isNone then some (.gM x lo hi) else none
   | some (.slice _)=>match Fe P t with
    | some (k,_,_)=>some (.slice k x lo hi mx)
    | none=>none
   | _=>none
  | _,_,_,_=>none
 | .fieldAddr t x f=>match P.underlying t,rx G x with
  | some (.struct fs),some x=>match fs[f]? with
   | some fd=>match P.info? fd.type with
    | some i=>if i.size=0 then none else some (.fieldAddr fd.offset x)
    | none=>none
   | none=>none
  | _,_=>none
 | .field t x f=>match P.underlying t,rx G x with
  | some (.struct fs),some x=>match fs[f]? with
   | some fd=>match Gf P fd.type with
    | some (n,ag)=>some (.field fd.offset n ag x)
    | none=>none
   | none=>none
  | _,_=>none
 | .indexAddr t x i=>match P.underlying t,rx G x,rx G i with
  | some (.slice _),some x,some i=>match Fe P t with
   | some (k,_,_)=>some (.ic k x i)
   | none=>none
  | some (.array n e),some x,some i=>match P.info? e with
   | some inf=>some (.hJ inf.size n x i)
   | none=>none
  | _,_,_=>none
 | .index t x i=>match P.underlying t,rx G x,rx G i with
  | some .string,some x,some i=>some (.iV x i)
  | _,_,_=>none
 | .extract x j=>(rx G x).map (.extract j)
 | .call c=>match Di G c.args.toList with
  | none=>none
  | some as=>match c.callee with
   | .value f=>(rx G f).map fun f=>.call f as
   | .builtin .len=>match c.argTypes[0]?,as with
    | some t,[x]=>match P.underlying t with
     | some .string=>some (.len .str x)
     | some (.slice _)=>some (.len .slice x)
     | some (.map _ _)=>some (.len .map x)
     | _=>none
    | _,_=>none
   | .builtin .append=>match c.argTypes[0]?,c.argTypes[1]?,as with
    | some t,some u,[s,x]=>match Fe P t,P.underlying u,P.underlying t with
     | some (k,_,_),some (.slice _),some (.slice el)=>some (.append k el s x)
     | some (k,_,_),some .string,some (.slice el)=>some (.append k el s x)
     | _,_,_=>none
    | _,_,_=>none
   | .builtin .copy=>match c.argTypes[0]?,as with
    | some t,[d,s]=>match Fe P t with
     | some (k,_,_)=>some (.copy k d s)
     | none=>none
    | _,_=>none
   | .builtin .min=>some (.ij false as)
   | .builtin .max=>some (.ij true as)
   | _=>none
 | .range t x=>match P.underlying t,rx G x with
  | some .string,some x=>some (.iter x)
  | _,_=>none
 | .next x true=>(rx G x).map .next
 | .typeAssert x _ t ok=>match P.underlying t with
  | some (.interface _)=>none
  | some _=>match Fd P t,rx G x with
   | some z,some x=>some (.gZ t z ok x)
   | _,_=>none
  | none=>none
 | _=>none
def B7 (P:eX) (G:DZ) (o:Oper):Av:={dst:=o.dst,op:=s8 (Bw P G o),guard:=o.guard}
def Jt:AU->fc
 | .region ops _ _=>ops.filterMap fun o=>match o.op with | .mov _=>o.dst | _=>none
 | .seq a b=>Jt a++Jt b
 | .cond _ a b=>Jt a++Jt b
 | .block _ b=>Jt b
 | .loop _ _ b=>Jt b
 | .scope b=>Jt b
 | _=>[]
def growOps (ops:fq):List (Nat×Nat) :=
 ops.filterMap fun o=>match o.dst,o.op with
  | some t,.mov (.t s)=>(ops.findSome? fun p=>match p.op with | .append k _ _ _=>if p.dst=some s then some k else none | _=>none).map fun k=>(t,k)
  | _,_=>none
def Rl (ops:fq):Nat->Nat->Nat->Option (Nat×Nat)
 | 0,_,_=>none
 | n+1,x,off=>match ops.find? fun p=>p.dst==some x with
  | none=>some (x,off)
  | some p=>match p.op with
   | .mov (.t y)=>Rl ops n y off
   | .nilck (.t y)=>Rl ops n y off
   | .fieldAddr o (.t y)=>Rl ops n y (off+o)
   | _=>none
def pQ (ops:fq):List (Nat×Nat) :=
 ops.filterMap fun o=>match o.op with
  | .store 1 (.t a) (.t u) =>
   match ops.findSome? (fun p=>match p.op with | .append k _ _ _=>if p.dst=some u then some k else none | _=>none),Rl ops 8 a 0 with
   | some k,some (x,off)=>some (Ev*(off+1)+x,k)
   | _,_=>none
  | _=>none
def GW:AU->List (Nat×Nat)
 | .region ops _ _=>growOps ops++pQ ops
 | .seq a b=>GW a++GW b
 | .cond _ a b=>GW a++GW b
 | .block _ b=>GW b
 | .loop _ _ b=>GW b
 | .scope b=>GW b
 | .rangeFunc _ _ _ b=>(GW b).filter fun p=>decide (Ev<=p.1)
 | _=>[]
def Kl {α:Type} [BEq α]:List α->List α
 | []=>[]
 | x :: Z=>if (Kl Z).contains x then Kl Z else x :: Kl Z
def Le (acc:List (Nat×Nat)):List Edge->Nat
 | []=>0
 | e :: es=>if Region.binds .any e then 2 ^ e.on ||| ((acc.lookup e.on).getD 0) ||| Le acc es else Le acc es
def Mh (ops:Array Oper):fc->List (Nat×Nat)->Option (List (Nat×Nat))
 | [],acc=>if acc.length=ops.size then some acc.reverse else none
 | i :: rest,acc=>match ops[i]? with
  | some o=>if (acc.lookup i).isNone/\o.after.toList.all (fun e=>!Region.binds .any e||(acc.lookup e.on).isSome) then Mh ops rest ((i,Le acc o.after.toList) :: acc) else none
  | none=>none
def H5:Code->fb
 | .goto l=>some l
 | .seq a b=>(H5 a).orElse fun _=>H5 b
 | .cond _ a b=>(H5 a).orElse fun _=>H5 b
 | .block _ b=>H5 b
 | .loop b=>H5 b
 | .rangeFunc _ _ _ b=>H5 b
 | _=>none
def Dp (l:Nat):Code->AU->Option (AU×AU)
 | .seq a b,.seq ra rb=>match Dp l a ra with
  | some (x,y)=>some (x,.seq y rb)
  | none=>match Dp l b rb with
   | some (x,y)=>some (.seq ra x,y)
   | none=>none
 | .label l',_=>if l'=l then some (.skip,.skip) else none
 | _,_=>none
def Ns (c:Code) (r:AU):AU :=
 match H5 c with
 | none=>.scope r
 | some l=>match Dp l c r with
  | some (x,y)=>.scope (.seq (.block (BK+l) x) y)
  | none=>.scope r
structure Told where
 lv:Option fc:=none
 grow:Option (List (Nat×Nat)):=none
 peel:Bool:=false
 deriving Inhabited
abbrev C4:=Nat->Told
def LL (g:Option (List (Nat×Nat))) (r:AU):AU :=
 match g with
 | none=>r
 | some g=>.seq r (.norm g)
def IZ:Code->fb
 | .region id _ _=>some id
 | .seq a b=>(IZ a).orElse fun _=>IZ b
 | .cond _ a b=>(IZ a).orElse fun _=>IZ b
 | .block _ b=>IZ b
 | .loop b=>IZ b
 | .scope b=>IZ b
 | _=>none
def peelOf (D:C4) (c:Code):Bool :=
 match IZ c with
 | some id=>(D id).peel
 | none=>false
def Q8 (p:Bool) (gp:fc) (grow:List (Nat×Nat)) (b:AU):AU:=if p then .seq b (.loop gp grow b) else .loop gp grow b
def TL (f:RX) (ps:fc) (gp b:AU) (g:List (Nat×Nat)):AU :=
 if g.isEmpty then .rangeFunc f ps gp b else .seq (.norm g) (.rangeFunc f ps gp (.seq (.seq b (.region [] none (some []))) (.norm g)))
def PB (G:DZ) (o:Oper):Option (RX×fu) :=
 match o.op,o.guard,o.dst with
 | .defer c,none,none=>match c.callee with
  | .value f=>match rx G f,Di G c.args.toList with
   | some f,some args=>some (f,args)
   | _,_=>none
  | _=>none
 | _,_,_=>none
def PO (P:eX) (G:DZ) (ops:Array Oper) (lv:Option fc):AU :=
 match ops.toList.getLast?.bind (PB G) with
 | some (f,args)=>.kd (ops.toList.dropLast.map (B7 P G)) f args lv
 | none=>.region (ops.toList.map (B7 P G)) none lv
def Bk (P:eX) (G:DZ) (D:C4):Code->AU
 | .skip=>.skip
 | .region id ops draw=>LL (D id).grow (if draw then (match Mh ops (Region.linearise .any ops 0) [] with
   | some l=>.region (ops.toList.map (B7 P G)) (some l) (D id).lv
   | none=>.bad)
  else PO P G ops (D id).lv)
 | .seq a b=>.seq (Bk P G D a) (Bk P G D b)
 | .cond c a b=>match rx G c with
  | some c=>.cond c (Bk P G D a) (Bk P G D b)
  | none=>.bad
 | .block id b=>if id < BK then .block id (Bk P G D b) else .bad
 | .loop b=>Q8 (peelOf D b&&Cq (Bk P G D b)) (Kl (Jt (Bk P G D b))) (Kl (GW (Bk P G D b))) (Bk P G D b)
 | .rangeFunc f ps gp b=>match rx G f with
  | some f=>TL f ps.toList (Bk P G D gp) (Bk P G D b) (Kl (GW (Bk P G D b)))
  | none=>.bad
 | .exit id=>if id < BK then .exit id else .bad
 | .scope b=>Ns b (Bk P G D b)
 | .label _=>.skip
 | .goto l=>.exit (BK+l)
 | .ret=>.ret
 | .refuse _=>.bad
def Lb (P:eX):List ResultVar->Option (List E5)
 | []=>some []
 | r :: rs=>match (match r with
   | .tmp t=>some (E5.tmp t)
   | .cell a t=>(Gf P t).map fun (n,ag)=>E5.cell a n ag),Lb P rs with
  | some x,some Z=>some (x :: Z)
  | _,_=>none
def Js (P:eX) (G:DZ) (D:C4) (f:eU):fk :=
 match P.funcs[f]? with
 | some fn=>match fn.body,Lb P fn.results.toList with
  | some c,some rs=>if fn.name == "runtime.NumGoroutine" then none else some {nt:=fn.ntmps,code:=Bk P G D c,res:=rs}
  | _,_=>none
 | none=>none
end Go.Ab


namespace Go.Ab
def opT:eV->fc
 | .tmp t=>[t]
 | _=>[]
def opsT (l:List eV):fc:=l.flatMap opT
def Kw (a b:fc):fc:=a.foldl (fun acc x=>if acc.contains x then acc else x :: acc) b
abbrev RF:=List (Nat×fc)
def E6:Code->fc->RF->fc->fc×RF
 | .skip,out,_,_=>(out,[])
 | .region id ops _,out,_,_=>(ops.toList.foldr (fun o l=>Kw (opsT o.op.operands.toList) (match o.dst with | some d=>l.filter (· != d) | none=>l)) out,[(id,out)])
 | .seq a b,out,ends,jI =>
  let r2:=E6 b out ends jI
  let r1:=E6 a r2.1 ends jI
  (r1.1,r1.2++r2.2)
 | .cond c a b,out,ends,jI =>
  let r1:=E6 a out ends jI
  let r2:=E6 b out ends jI
  (Kw (opT c) (Kw r1.1 r2.1),r1.2++r2.2)
 | .block id b,out,ends,jI=>E6 b out ((id,out) :: ends) jI
 | .loop b,_,ends,jI =>
  let x1:=(E6 b [] ends jI).1
  let x2:=(E6 b x1 ends jI).1
  let x3:=(E6 b x2 ends jI).1
  (x3,(E6 b x3 ends jI).2)
 | .rangeFunc f ps gp b,out,ends,jI =>
  let e0:=ends.map fun p=>(p.1,([]:fc))
  let r2:=E6 b [] e0 []
  let r1:=E6 gp r2.1 e0 []
  (Kw (opT f) (Kw (r1.1.filter fun x=>!ps.contains x) (Kw out (Kw (ends.flatMap (·.2)) jI))),r1.2++r2.2)
 | .exit id,_,ends,_=>((ends.lookup id).getD [],[])
 | .scope b,out,ends,jI =>
  let l:=(H5 b).getD 0
  let x1:=((E6 b out ends jI).2.lookup (BK+l)).getD []
  let x2:=((E6 b out ((BK+l,x1) :: ends) jI).2.lookup (BK+l)).getD []
  E6 b out ((BK+l,x2) :: ends) jI
 | .label l,out,_,_=>(out,[(BK+l,out)])
 | .goto l,_,ends,_=>((ends.lookup (BK+l)).getD [],[])
 | .ret,_,_,jI=>(jI,[])
 | .refuse _,out,_,_=>(out,[])
def resT:ResultVar->Nat
 | .tmp t=>t
 | .cell a _=>a
def liveOf (P:eX) (f:eU):RF :=
 match P.funcs[f]? with
 | some fn=>match fn.body with
  | some c=>(E6 c (fn.results.toList.map resT) [] (fn.results.toList.map resT)).2
  | none=>[]
 | none=>[]
def lookD (l:RF):C4:=fun id=>{lv:=l.lookup id}
def deadOf (P:eX) (f:eU):C4:=lookD (liveOf P f)
abbrev Hint:=List (Nat×Nat×Option (List (Nat×Nat))×Bool)
def hinted (zzd:Hint) (f:eU) (D:C4):C4:=fun id =>
 match zzd.find? fun h=>h.1==f&&h.2.1==id with
 | some h=>{D id with grow:=h.2.2.1,peel:=h.2.2.2}
 | none=>D id
def Me (zzd:Hint) (P:eX) (f:eU):C4:=hinted zzd f (deadOf P f)
end Go.Ab


namespace Go.Ab
variable{i k:Nat} {p:Option (Nat×Nat)} {us A:List eT} {v:eT} {x:PV} {ys:fa}
abbrev Am:=Nm->Option (Option (Nat×Nat))
abbrev fm:=Option Am
def EY:List MapEntry->List eT
 | []=>[]
 | e :: es=>e.key :: e.val :: EY es
def A1 (A:List eT):Prop:=∀ v∈A,v.oneCell'=true
theorem A1.j5 (h:A1 A) (n:Nat):A1 (A.take n):=fun v hv=>h v (cC hv)
theorem A1.ke (h:A1 A) (n:Nat):A1 (A.drop n):=fun v hv=>h v (cO hv)
theorem A1.jW (h:A1 A) (h':A1 us):A1 (A++us):=fun v hv=>(bS.1 hv).elim (h v) (h' v)
def yv (l:Nat):eT:=if l%2=0 then .func (.yield (l / 2)) #[] #[] else .pointer (some ⟨l / 2,0,none⟩)
theorem Pn (l:Nat):yv (2*l)=.func (.yield l) #[] #[]:=by unfold yv;rw[eH (by omega),show 2*l / 2=l by omega]
theorem s9 (b:Nat):yv (2*b+1)=.pointer (some ⟨b,0,none⟩):=by unfold yv;rw[eG (by omega),show (2*b+1) / 2=b by omega]
theorem yv_or (l:Nat):yv l=.func (.yield (l / 2)) #[] #[]/\l=2*(l / 2)\/yv l=.pointer (some ⟨l / 2,0,none⟩):=by unfold yv;by_cases h:l%2=0;{exact .inl ⟨eH h,by omega⟩};{exact .inr (eG h)}
theorem td (l:Nat):(yv l).cells=#[yv l]:=by unfold yv;split<;>rfl
theorem yv_one (l:Nat):(yv l).oneCell'=true:=by unfold yv;split<;>rfl
mutual
inductive Aj (w:eS) (I:Nat->Prop) (lp:Nat->fb):fm->PV->eT->Prop
 | undef {L} (v:eT):Aj w I lp L .undef v
 | bool {L} (b:Bool):Aj w I lp L (.bool b) (.bool b)
 | int {L} (k:eW) (n:Int):Aj w I lp L (.int k n) (.int k n)
 | str {L} (s:fp):Aj w I lp L (.str s) (.string ⟨s.toArray⟩)
 | fF {L}:Aj w I lp L .fF (.slice none 0 0)
 | gh {L}:Aj w I lp L .gh (.pointer none)
 | gH {L}:Aj w I lp L .gH .nilFunc
 | fR {L}:Aj w I lp L .fR .nilIface
 | gF {L}:Aj w I lp L .gF (.map none)
 | lx {L} (k:Nat) (full:Bool) (a:Option Addr) (cap:Nat) (hf:full=true->cap=0):Aj w I lp L (.sl k [] full) (.slice a 0 cap)
 | sl {L} (k:Nat) (Z:fa) (full:Bool) (b off cap:Nat) (c:Array eT) (E:eY) (fr:Nat×Nat)
   (hI:I b) (hb:w.heap[b]?=some (.cells c E fr)) (hs:off+Z.length*k<=c.size) (hk:∀ x∈Z,x.cells.length=k)
   (hc:Z.length<=cap) (hf:full=true->cap=Z.length) (U:A1 ((c.toList.drop off).take (Z.length*k)))
   (hr:Ae w I lp none (fL Z) ((c.toList.drop off).take (Z.length*k))):Aj w I lp L (.sl k Z full) (.slice (some ⟨b,off,none⟩) Z.length cap)
 | ptr {L} (cs:fa) (o:Nat) (b off:Nat) (c:Array eT) (E:eY) (fr:Nat×Nat)
   (hI:I b) (hb:w.heap[b]?=some (.cells c E fr)) (hs:off+cs.length<=c.size) (ho:o < cs.length) (U:A1 ((c.toList.drop off).take cs.length))
   (hr:Ae w I lp none cs ((c.toList.drop off).take cs.length)):Aj w I lp L (.ptr cs o) (.pointer (some ⟨b,off+o,none⟩))
 | agg {L} (cs:fa) (A:Array eT) (U:A1 A.toList) (h:Ae w I lp L cs A.toList):Aj w I lp L (.agg cs) (.agg A)
 | iface {L} (t:eY) (x:PV) (v:eT) (h:Aj w I lp L x v):Aj w I lp L (.iface t x) (.iface t v)
 | fn {L} (f:eU) (cs:fa) (us A:Array eT) (hk:us.size=En f) (h:Ae w I lp L cs (us.toList++A.toList)):Aj w I lp L (.fn f cs) (.func (.func (AG f)) us A)
 | fT {L} (d l:Nat) (h:lp d=some l):Aj w I lp L (.fT d) (yv l)
 | fM {L} (Z:fa) (A:Array eT) (h:Ae w I lp L Z A.toList):Aj w I lp L (.fM Z) (.tuple A)
 | gz {L} (es:fa) (r:Nat) (gD:Array MapEntry) (clock:Nat) (hI:I r) (hb:w.heap[r]?=some (.map gD clock))
   (hr:Ae w I lp none es (EY gD.toList)):Aj w I lp L (.gz es) (.map (some r))
 | gw {L} (g:Nat) (t:eY) (x:eT) (c:Array eT) (E:eY) (fr:Nat×Nat) (hI:I g) (hb:w.heap[g]?=some (.cells c E fr)) (hv:c[0]?=some (.iface t x)):Aj w I lp L (.gw g t) (.iface t x)
 | ref {L:Am} (J:Nm) (o b C:Nat) (h:L J=some (some (b,C))):Aj w I lp (some L) (.ref J o) (.pointer (some ⟨b,o,none⟩))
 | fO {L:Am} (J:Nm) (k i o b C:Nat) (h:L J=some (some (b,C))):Aj w I lp (some L) (.fO J k i o) (.pointer (some ⟨b,i*k+o,none⟩))
 | arr {L:Am} (J:Nm) (k o n cap b C:Nat) (h:L J=some (some (b,C))) (hC:(o+cap)*k<=C) (hn:n<=cap) :
   Aj w I lp (some L) (.arr J k o n) (.slice (some ⟨b,o*k,none⟩) n cap)
 | iL {L:Am} (J:Nm) (k:Nat) (h:L J=some none):Aj w I lp (some L) (.arr J k 0 0) (.slice none 0 0)
 | mp {L:Am} (J:Nm) (b C:Nat) (h:L J=some (some (b,C))):Aj w I lp (some L) (.mp J) (.map (some b))
 | it {L:Am} (J:Nm) (b C:Nat) (h:L J=some (some (b,C))):Aj w I lp (some L) (.it J) (.pointer (some ⟨b,0,none⟩))
inductive Ae (w:eS) (I:Nat->Prop) (lp:Nat->fb):fm->fa->List eT->Prop
 | nil {L}:Ae w I lp L [] []
 | cons {L} (x:PV) (v:eT) (Z:fa) (A:List eT) (h:Aj w I lp L x v) (hs:Ae w I lp L Z A):Ae w I lp L (x :: Z) (v :: A)
end
def Kp (L L':Am):Prop:=∀ J p,L J=some p->L' J=some p
def G9 (lp jT:Nat->fb):Prop:=∀ d l,lp d=some l->jT d=some l
section mono
variable {w w':eS} {I I':Nat->Prop} {lp jT:Nat->fb}
mutual
theorem Aj.mono (hI:∀ b,I b->I' b) (hb:∀ b,I b->w'.heap[b]?=w.heap[b]?) (hl:G9 lp jT) {L:fm} {x:PV} {v:eT}:Aj w I lp L x v->Aj w' I' jT L x v
 | .undef v=>.undef v
 | .bool b=>.bool b
 | .int k n=>.int k n
 | .str s=>.str s
 | .fF=>.fF
 | .gh=>.gh
 | .gH=>.gH
 | .fR=>.fR
 | .gF=>.gF
 | .lx k full a cap hf=>.lx k full a cap hf
 | .sl k Z full b off cap c E fr U O h3 h4 h5 h6 h8 h7=>.sl k Z full b off cap c E fr (hI b U) ((hb b U).trans O) h3 h4 h5 h6 h8 (Ae.mono hI hb hl h7)
 | .ptr cs o b off c E fr U O h3 h4 h8 h5=>.ptr cs o b off c E fr (hI b U) ((hb b U).trans O) h3 h4 h8 (Ae.mono hI hb hl h5)
 | .agg cs A U h=>.agg cs A U (Ae.mono hI hb hl h)
 | .iface t x v h=>.iface t x v (Aj.mono hI hb hl h)
 | .fn f cs us A hk h=>.fn f cs us A hk (Ae.mono hI hb hl h)
 | .fT d l h=>.fT d l (hl d l h)
 | .fM Z A h=>.fM Z A (Ae.mono hI hb hl h)
 | .gz es r gD clock U O h3=>.gz es r gD clock (hI r U) ((hb r U).trans O) (Ae.mono hI hb hl h3)
 | .gw g t x c E fr U O h3=>.gw g t x c E fr (hI g U) ((hb g U).trans O) h3
 | .ref J o b C h=>.ref J o b C h
 | .fO J k i o b C h=>.fO J k i o b C h
 | .arr J k o n cap b C h hC hn=>.arr J k o n cap b C h hC hn
 | .iL J k h=>.iL J k h
 | .mp J b C h=>.mp J b C h
 | .it J b C h=>.it J b C h
theorem Ae.mono (hI:∀ b,I b->I' b) (hb:∀ b,I b->w'.heap[b]?=w.heap[b]?) (hl:G9 lp jT) {L:fm} {Z:fa} {A:List eT}:Ae w I lp L Z A->Ae w' I' jT L Z A
 | .nil=>.nil
 | .cons x v Z A h hs=>.cons x v Z A (Aj.mono hI hb hl h) (Ae.mono hI hb hl hs)
end
end mono
section lift
variable {w:eS} {I:Nat->Prop} {lp:Nat->fb}
mutual
theorem Aj.lift {x:PV} {v:eT} (L:fm):Aj w I lp none x v->Aj w I lp L x v
 | .undef v=>.undef v
 | .bool b=>.bool b
 | .int k n=>.int k n
 | .str s=>.str s
 | .fF=>.fF
 | .gh=>.gh
 | .gH=>.gH
 | .fR=>.fR
 | .gF=>.gF
 | .lx k full a cap hf=>.lx k full a cap hf
 | .sl k Z full b off cap c E fr U O h3 h4 h5 h6 h8 h7=>.sl k Z full b off cap c E fr U O h3 h4 h5 h6 h8 h7
 | .ptr cs o b off c E fr U O h3 h4 h8 h5=>.ptr cs o b off c E fr U O h3 h4 h8 h5
 | .agg cs A U h=>.agg cs A U (h.lift L)
 | .iface t x v h=>.iface t x v (h.lift L)
 | .fn f cs us A hk h=>.fn f cs us A hk (h.lift L)
 | .fT d l h=>.fT d l h
 | .fM Z A h=>.fM Z A (h.lift L)
 | .gz es r gD clock U O h3=>.gz es r gD clock U O h3
 | .gw g t x c E fr U O h3=>.gw g t x c E fr U O h3
theorem Ae.lift {Z:fa} {A:List eT} (L:fm):Ae w I lp none Z A->Ae w I lp L Z A
 | .nil=>.nil
 | .cons x v Z A h hs=>.cons x v Z A (h.lift L) (hs.lift L)
end
mutual
theorem Aj.shut {L:fm} {x:PV} {v:eT}:Aj w I lp L x v->x.names=[]->Aj w I lp none x v
 | .undef v,_=>.undef v
 | .bool b,_=>.bool b
 | .int k n,_=>.int k n
 | .str s,_=>.str s
 | .fF,_=>.fF
 | .gh,_=>.gh
 | .gH,_=>.gH
 | .fR,_=>.fR
 | .gF,_=>.gF
 | .lx k full a cap hf,_=>.lx k full a cap hf
 | .sl k Z full b off cap c E fr U O h3 h4 h5 h6 h8 h7,_=>.sl k Z full b off cap c E fr U O h3 h4 h5 h6 h8 h7
 | .ptr cs o b off c E fr U O h3 h4 h8 h5,_=>.ptr cs o b off c E fr U O h3 h4 h8 h5
 | .agg cs A U h,e=>.agg cs A U (h.shut (by simpa[PV.names] using e))
 | .iface t x v h,e=>.iface t x v (h.shut (by simpa[PV.names] using e))
 | .fn f cs us A hk h,e=>.fn f cs us A hk (h.shut (by simpa[PV.names] using e))
 | .fT d l h,_=>.fT d l h
 | .fM Z A h,e=>.fM Z A (h.shut (by simpa[PV.names] using e))
 | .gz es r gD clock U O h3,_=>.gz es r gD clock U O h3
 | .gw g t x c E fr U O h3,_=>.gw g t x c E fr U O h3
 | .ref J o b C h,e=>by simp[PV.names] at e
 | .fO J k i o b C h,e=>by simp[PV.names] at e
 | .arr J k o n cap b C h hC hn,e=>by simp[PV.names] at e
 | .iL J k h,e=>by simp[PV.names] at e
 | .mp J b C h,e=>by simp[PV.names] at e
 | .it J b C h,e=>by simp[PV.names] at e
theorem Ae.shut {L:fm} {Z:fa} {A:List eT}:Ae w I lp L Z A->Al Z=[]->Ae w I lp none Z A
 | .nil,_=>.nil
 | .cons x v Z A h hs,e=>.cons x v Z A (h.shut (d7.1 e).1) (hs.shut (d7.1 e).2)
end
mutual
theorem Aj.iD {L L':Am} {x:PV} {v:eT}:Aj w I lp (some L) x v->Kp L L'->Aj w I lp (some L') x v
 | .undef v,_=>.undef v
 | .bool b,_=>.bool b
 | .int k n,_=>.int k n
 | .str s,_=>.str s
 | .fF,_=>.fF
 | .gh,_=>.gh
 | .gH,_=>.gH
 | .fR,_=>.fR
 | .gF,_=>.gF
 | .lx k full a cap hf,_=>.lx k full a cap hf
 | .sl k Z full b off cap c E fr U O h3 h4 h5 h6 h8 h7,_=>.sl k Z full b off cap c E fr U O h3 h4 h5 h6 h8 h7
 | .ptr cs o b off c E fr U O h3 h4 h8 h5,_=>.ptr cs o b off c E fr U O h3 h4 h8 h5
 | .agg cs A U h,e=>.agg cs A U (h.iD e)
 | .iface t x v h,e=>.iface t x v (h.iD e)
 | .fn f cs us A hk h,e=>.fn f cs us A hk (h.iD e)
 | .fT d l h,_=>.fT d l h
 | .fM Z A h,e=>.fM Z A (h.iD e)
 | .gz es r gD clock U O h3,_=>.gz es r gD clock U O h3
 | .gw g t x c E fr U O h3,_=>.gw g t x c E fr U O h3
 | .ref J o b C h,e=>.ref J o b C (e _ _ h)
 | .fO J k i o b C h,e=>.fO J k i o b C (e _ _ h)
 | .arr J k o n cap b C h hC hn,e=>.arr J k o n cap b C (e _ _ h) hC hn
 | .iL J k h,e=>.iL J k (e _ _ h)
 | .mp J b C h,e=>.mp J b C (e _ _ h)
 | .it J b C h,e=>.it J b C (e _ _ h)
theorem Ae.iD {L L':Am} {Z:fa} {A:List eT}:Ae w I lp (some L) Z A->Kp L L'->Ae w I lp (some L') Z A
 | .nil,_=>.nil
 | .cons x v Z A h hs,e=>.cons x v Z A (h.iD e) (hs.iD e)
end
end lift
section lists
variable {w:eS} {I:Nat->Prop} {lp:Nat->fb} {L:fm}
theorem Ae.length {Z:fa} (h:Ae w I lp L Z A):Z.length=A.length:=by
 induction Z generalizing A with
 | nil=>cases h;rfl
 | cons x Z ih=>cases h with | cons _ v _ A h hs=>simp[ih hs]
theorem Ae.get {Z:fa} (h:Ae w I lp L Z A) (H:Z[i]?=some x):∃ v,A[i]?=some v/\Aj w I lp L x v:=by
 induction Z generalizing A i with
 | nil=>simp at H
 | cons y Z ih =>
  cases h with
  | cons _ v _ A h hs =>
   cases i with
   | zero=>simp at H;subst H;exact⟨v,rfl,h⟩
   | succ i=>simp at H |-;exact ih hs H
theorem Ae.append {Z:fa} (h:Ae w I lp L Z A) (h':Ae w I lp L ys us):Ae w I lp L (Z++ys) (A++us):=by
 induction Z generalizing A with
 | nil=>cases h;exact h'
 | cons x Z ih=>cases h with | cons _ v _ A h hs=>exact .cons _ _ _ _ h (ih hs)
theorem Ae.take {Z:fa} (h:Ae w I lp L Z A) (n:Nat):Ae w I lp L (Z.take n) (A.take n):=by
 induction Z generalizing A n with
 | nil=>cases h;simp;exact .nil
 | cons x Z ih =>
  cases h with
  | cons _ v _ A h hs =>
   cases n with
   | zero=>exact .nil
   | succ n=>exact .cons _ _ _ _ h (ih hs n)
theorem Ae.drop {Z:fa} (h:Ae w I lp L Z A) (n:Nat):Ae w I lp L (Z.drop n) (A.drop n):=by
 induction Z generalizing A n with
 | nil=>cases h;simp;exact .nil
 | cons x Z ih =>
  cases h with
  | cons _ v _ A h hs =>
   cases n with
   | zero=>exact .cons _ _ _ _ h hs
   | succ n=>exact ih hs n
theorem Ae.set {Z:fa} (h:Ae w I lp L Z A) (i:Nat) (H:Aj w I lp L x v):Ae w I lp L (Z.set i x) (A.set i v):=by
 induction Z generalizing A i with
 | nil=>cases h;exact .nil
 | cons y Z ih =>
  cases h with
  | cons _ u _ A h hs =>
   cases i with
   | zero=>exact .cons _ _ _ _ H hs
   | succ i=>exact .cons _ _ _ _ h (ih hs i)
theorem Ae.split {Z:fa} (h:Ae w I lp L (Z++ys) A):∃ us ts,A=us++ts/\Ae w I lp L Z us/\Ae w I lp L ys ts:=by
 induction Z generalizing A with
 | nil=>exact⟨[],A,rfl,.nil,h⟩
 | cons x Z ih =>
  cases h with
  | cons _ v _ A h hs =>
   obtain⟨us,ts,rfl,U,O⟩:=ih hs;exact⟨v :: us,ts,rfl,.cons _ _ _ _ h U,O⟩
theorem Ae.gi (n:Nat) (A:List eT) (h:A.length=n):Ae w I lp L (List.replicate n .undef) A:=by
 induction n generalizing A with
 | zero=>cases A with | nil=>exact .nil | cons v A=>simp at h
 | succ n ih=>cases A with | nil=>simp at h | cons v A=>exact .cons _ _ _ _ (.undef v) (ih A (by simpa using h))
theorem Ae.getD {Z:fa} (h:Ae w I lp L Z A) (i:Nat) (d:eT):Aj w I lp L (Z.getD i .undef) (A.getD i d):=by
 cases H:Z[i]? with
 | none=>rw[bF,H];exact .undef _
 | some x =>
  obtain⟨v,hv,hr⟩:=h.get H;rw[bF,bF,H,hv];exact hr
theorem Aj.cells (h:Aj w I lp L x v) (hu:x.isVal=true):A1 v.cells.toList/\Ae w I lp L x.cells v.cells.toList:=by
 cases h<;>first
  |(simp[PV.isVal] at hu;done)
  |(simp only[PV.cells,Value.cells];exact⟨by simp[A1,Value.oneCell'],.cons _ _ _ _ (by constructor<;>assumption) .nil⟩)
  |(simp only[PV.cells,Value.cells];exact⟨by assumption,by assumption⟩)
  |(rename_i d l hl;rw[td];exact⟨by simp[A1,yv_one],.cons _ _ _ _ (.fT d l hl) .nil⟩)
theorem JH (Z ys:fa):fL (Z++ys)=fL Z++fL ys:=by
 induction Z with
 | nil=>rfl
 | cons x Z ih=>simp[fL,ih]
theorem JG {Z:fa} (h:∀ x∈Z,x.cells.length=k):(fL Z).length=Z.length*k:=by
 induction Z with
 | nil=>simp[fL]
 | cons x Z ih =>
  simp only[fL,ce,ct,h x (by simp),ih fun y hy=>h y (by simp[hy])];rw[bU,de,Nat.add_comm]
theorem KA {Z:fa} (h:∀ x∈Z,x.cells.length=k) (i:Nat):fL (Z.drop i)=(fL Z).drop (i*k):=by
 induction Z generalizing i with
 | nil=>simp[fL]
 | cons x Z ih =>
  cases i with
  | zero=>simp
  | succ i =>
   simp only[List.drop_succ_cons,fL];have H:=h x (by simp);rw[ih (fun y hy=>h y (by simp[hy])) i,show (i+1)*k=x.cells.length+i*k from by rw[bU,de,Nat.add_comm,H],<-dk,List.drop_left]
theorem IB {Z:fa} (h:∀ x∈Z,x.cells.length=k) (i:Nat):fL (Z.take i)=(fL Z).take (i*k):=by
 induction Z generalizing i with
 | nil=>simp[fL]
 | cons x Z ih =>
  cases i with
  | zero=>simp[fL]
  | succ i =>
   simp only[List.take_succ_cons,fL];rw[ih (fun y hy=>h y (by simp[hy])) i,ei];have H:=h x (by simp);rw[show (i+1)*k=k+i*k from by rw[bU,de,Nat.add_comm],cF (l:=x.cells) (by omega),H,dy]
theorem Sl {Z:fa} (h:∀ x∈Z,x.cells.length=k) (H:Z[i]?=some x):((fL Z).drop (i*k)).take k=x.cells:=by
 rw[<-KA h];have hd:Z.drop i=x :: Z.drop (i+1):=by obtain⟨hi,rfl⟩:=bH.1 H;exact dN hi
 rw[hd,fL,ei,cF (by have:=h x (bJ H);omega)];have:=h x (bJ H);simp[this]
end lists
def RD (w:eS) (I:Nat->Prop) (lp:Nat->fb) (L:Am) (b C:Nat):Ob->Prop
 | .cells ty cs=>∃ c E,w.heap[b]?=some (.cells c E (0,0))/\c.size=C/\(A1 c.toList/\(ty=0\/E=ty))/\Ae w I lp (some L) cs c.toList
 | .arr k kt Z=>∃ c E,w.heap[b]?=some (.cells c E (0,0))/\c.size=C/\(Z.length*k<=C/\(kt=0\/E=kt))/\(∀ x∈Z,x.cells.length=k)/\A1 (c.toList.take (Z.length*k))/\Ae w I lp none (fL Z) (c.toList.take (Z.length*k))
 | .map es=>∃ gD clock,w.heap[b]?=some (.map gD clock)/\Ae w I lp (some L) es (EY gD.toList)
 | .fW s pos=>w.heap[b]?=some (.stringIter ⟨s.toArray⟩ pos)
def A5 (w:eS) (I:Nat->Prop) (lp:Nat->fb) (L:Am) (ob:Ob):Option (Nat×Nat)->Prop
 | some (b,C)=>RD w I lp L b C ob
 | none=>∃ k kt,ob=.arr k kt []
theorem A5.mono {w w':eS} {I I':Nat->Prop} {lp jT:Nat->fb} {L:Am} {ob:Ob} (h:A5 w I lp L ob p)
  (hI:∀ b,I b->I' b) (hb:∀ b,I b->w'.heap[b]?=w.heap[b]?) (hl:G9 lp jT) (hw:∀ b C,p=some (b,C)->w'.heap[b]?=w.heap[b]?):A5 w' I' jT L ob p:=by
 cases p with
 | none=>exact h
 | some p =>
  obtain⟨b,C⟩:=p;have hw:=hw b C rfl;cases ob with
  | cells ty cs=>obtain⟨c,E,U,O,h4,h3⟩:=h;exact⟨c,E,hw.trans U,O,h4,Ae.mono hI hb hl h3⟩
  | arr k kt Z=>obtain⟨c,E,U,O,h3,h4,h6,h5⟩:=h;exact⟨c,E,hw.trans U,O,h3,h4,h6,Ae.mono hI hb hl h5⟩
  | map es=>obtain⟨c,E,U,O⟩:=h;exact⟨c,E,hw.trans U,Ae.mono hI hb hl O⟩
  | fW s pos=>exact hw.trans h
theorem A5.iD {w:eS} {I:Nat->Prop} {lp:Nat->fb} {L L':Am} {ob:Ob} (h:A5 w I lp L ob p) (hL:Kp L L'):A5 w I lp L' ob p:=by
 cases p with
 | none=>exact h
 | some p =>
  cases ob with
  | cells ty cs=>obtain⟨c,E,U,O,h4,h3⟩:=h;exact⟨c,E,U,O,h4,h3.iD hL⟩
  | arr k kt Z=>exact h
  | map es=>obtain⟨c,E,U,O⟩:=h;exact⟨c,E,U,O.iD hL⟩
  | fW s pos=>exact h
def Ud (w:eS) (I:Nat->Prop) (lp:Nat->fb) (b:Nat):Ob->Prop
 | .cells _ cs=>I b/\∃ c E fr,w.heap[b]?=some (.cells c E fr)/\cs.length<=c.size/\A1 (c.toList.take cs.length)/\Ae w I lp none cs (c.toList.take cs.length)
 | .arr k kt Z=>I b/\∃ c E fr,w.heap[b]?=some (.cells c E fr)/\Z.length*k<=c.size/\(∀ x∈Z,x.cells.length=k)/\A1 (c.toList.take (Z.length*k))/\Ae w I lp none (fL Z) (c.toList.take (Z.length*k))
 | .map es=>I b/\∃ gD clock,w.heap[b]?=some (.map gD clock)/\Ae w I lp none es (EY gD.toList)
 | .fW _ _=>True
def Dg (w:eS) (I':Nat->Prop) (lp:Nat->fb) (L:Am) (L':fm) (S:Nm->Prop) (f:Nm->Option fe):Prop :=
 ∀ J p,S J->L J=some p->match f J with
  | none=>∃ M,L'=some M/\M J=some p
  | some none=>True
  | some (some ob)=>match p with
   | some (b,_)=>Ud w I' lp b ob
   | none=>∃ k kt,ob=.arr k kt []
section sub
variable {w:eS} {I I':Nat->Prop} {lp:Nat->fb} {L:Am} {L':fm} {S:Nm->Prop} {f:Nm->Option fe}
theorem sub_ref (hs:Dg w I' lp L L' S f) (J:Nm) (hS:S J) (o b C:Nat) (h:L J=some (some (b,C))) :
  Aj w I' lp L' ((PV.ref J o).sub f) (.pointer (some ⟨b,o,none⟩)):=by
 have:=hs J _ hS h;simp only[PV.sub];split at this;{rename_i hf;obtain⟨M,rfl,hM⟩:=this;rw[hf];exact .ref J o b C hM};{rename_i hf;rw[hf];exact .undef _}
 ·rename_i ob hf;rw[hf];cases ob with
  | cells ty cs =>
   obtain⟨hi,c,E,fr,U,O,h5,h3⟩:=this;simp only
   split;{rename_i ho;have:=Aj.ptr (w:=w) (I:=I') (lp:=lp) (L:=L') cs o b 0 c E fr hi U (by omega) ho (by simpa using h5) (by simpa using h3);simpa using this};{exact .undef _}
  | arr k kt Z=>exact .undef _
  | map es=>exact .undef _
  | fW s p=>exact .undef _
theorem tf (hs:Dg w I' lp L L' S f) (J:Nm) (hS:S J) (k i o b C:Nat) (h:L J=some (some (b,C))) :
  Aj w I' lp L' ((PV.fO J k i o).sub f) (.pointer (some ⟨b,i*k+o,none⟩)):=by
 have:=hs J _ hS h;simp only[PV.sub];split at this;{rename_i hf;obtain⟨M,rfl,hM⟩:=this;rw[hf];exact .fO J k i o b C hM};{rename_i hf;rw[hf];exact .undef _}
 ·rename_i ob hf;rw[hf];cases ob with
  | arr k' kt Z =>
   obtain⟨hi,c,E,fr,U,O,h3,h5,h4⟩:=this;simp only
   split
   ·rename_i hk;subst hk;split
    ·rename_i x H;split
     ·rename_i ho;have kq:=h3 x (bJ H);have gI:=(bH.1 H).1;have hle:(i+1)*k<=Z.length*k:=cm _ gI;rw[bU,de] at hle;have e:((c.toList.take (Z.length*k)).drop (i*k)).take k=(c.toList.drop (i*k)).take k:=by rw[cP,cn,cu (by omega)]
      refine Aj.ptr x.cells o b (i*k) c E fr hi U (by omega) ho ?_ ?_;{rw[kq,<-e];exact (h5.ke _).j5 _}
      ·have:=(h4.drop (i*k)).take k;rw[Sl h3 H] at this;rw[kq]
       rwa [e] at this
     {exact .undef _}
    {exact .undef _}
   {exact .undef _}
  | cells ty cs=>exact .undef _
  | map es=>exact .undef _
  | fW s p=>exact .undef _
theorem sub_arr (hs:Dg w I' lp L L' S f) (J:Nm) (hS:S J) (k o n cap b C:Nat) (h:L J=some (some (b,C))) (hC:(o+cap)*k<=C) (hn:n<=cap) :
  Aj w I' lp L' ((PV.arr J k o n).sub f) (.slice (some ⟨b,o*k,none⟩) n cap):=by
 have:=hs J _ hS h;simp only[PV.sub];split at this;{rename_i hf;obtain⟨M,rfl,hM⟩:=this;rw[hf];exact .arr J k o n cap b C hM hC hn};{rename_i hf;rw[hf];exact .undef _}
 ·rename_i ob hf;rw[hf];cases ob with
  | arr k' kt Z =>
   obtain⟨hi,c,E,fr,U,O,h3,h5,h4⟩:=this;simp only
   split
   ·rename_i hk;obtain⟨rfl,hon⟩:=hk;have hlen:((Z.drop o).take n).length=n:=by simp;omega
    have hm:∀ x∈(Z.drop o).take n,x.cells.length=k:=fun x H=>h3 x (cO (cC H));have hle:(o+n)*k<=Z.length*k:=cm _ hon;rw[bU] at hle;have e:((c.toList.take (Z.length*k)).drop (o*k)).take (n*k)=(c.toList.drop (o*k)).take (n*k):=by rw[cP,cn,cu (by omega)]
    have key:=Aj.sl (w:=w) (I:=I') (lp:=lp) (L:=L') k ((Z.drop o).take n) false b (o*k) cap c E fr hi U (by rw[hlen];omega) hm (by rw[hlen];exact hn) (by simp) ?_ ?_
    ·rwa [hlen] at key
    {rw[hlen,<-e];exact (h5.ke _).j5 _}
    ·rw[hlen];have:=(h4.drop (o*k)).take (n*k);rw[<-KA h3,<-IB fun x H=>h3 x (cO H)] at this
     rwa [e] at this
   {exact .undef _}
  | cells ty cs=>exact .undef _
  | map es=>exact .undef _
  | fW s p=>exact .undef _
theorem tg (hs:Dg w I' lp L L' S f) (J:Nm) (hS:S J) (k:Nat) (h:L J=some none) :
  Aj w I' lp L' ((PV.arr J k 0 0).sub f) (.slice none 0 0):=by
 have:=hs J _ hS h;simp only[PV.sub];split at this;{rename_i hf;obtain⟨M,rfl,hM⟩:=this;rw[hf];exact .iL J k hM};{rename_i hf;rw[hf];exact .undef _}
 ·rename_i ob hf;obtain⟨k',kt,rfl⟩:=this;rw[hf];simp only
  split;{rename_i hk;obtain⟨rfl,_⟩:=hk;simpa using Aj.lx k false none 0 (by simp)};{exact .undef _}
theorem sub_mp (hs:Dg w I' lp L L' S f) (J:Nm) (hS:S J) (b C:Nat) (h:L J=some (some (b,C))):Aj w I' lp L' ((PV.mp J).sub f) (.map (some b)):=by
 have:=hs J _ hS h;simp only[PV.sub];split at this;{rename_i hf;obtain⟨M,rfl,hM⟩:=this;rw[hf];exact .mp J b C hM};{rename_i hf;rw[hf];exact .undef _}
 ·rename_i ob hf;rw[hf];cases ob with
  | map es=>obtain⟨hi,gD,clock,U,O⟩:=this;exact .gz es b gD clock hi U O
  | cells ty cs=>exact .undef _
  | arr k kt Z=>exact .undef _
  | fW s p=>exact .undef _
theorem sub_it (hs:Dg w I' lp L L' S f) (J:Nm) (hS:S J) (b C:Nat) (h:L J=some (some (b,C))):Aj w I' lp L' ((PV.it J).sub f) (.pointer (some ⟨b,0,none⟩)):=by have:=hs J _ hS h;simp only[PV.sub];split at this;{rename_i hf;obtain⟨M,rfl,hM⟩:=this;rw[hf];exact .it J b C hM};{rename_i hf;rw[hf];exact .undef _};{rename_i ob hf;rw[hf];exact .undef _}
mutual
theorem Aj.subst (hI:∀ b,I b->I' b) (hs:Dg w I' lp L L' S f) {x:PV} {v:eT}:Aj w I lp (some L) x v->(∀ J∈x.names,S J)->Aj w I' lp L' (x.sub f) v
 | .undef v,_=>.undef v
 | .bool b,_=>.bool b
 | .int k n,_=>.int k n
 | .str s,_=>.str s
 | .fF,_=>.fF
 | .gh,_=>.gh
 | .gH,_=>.gH
 | .fR,_=>.fR
 | .gF,_=>.gF
 | .lx k full a cap hf,_=>.lx k full a cap hf
 | .sl k Z full b off cap c E fr U O h3 h4 h5 h6 h8 h7,_=>.sl k Z full b off cap c E fr (hI b U) O h3 h4 h5 h6 h8 (Ae.mono hI (fun _ _=>rfl) (fun _ _ h=>h) h7)
 | .ptr cs o b off c E fr U O h3 h4 h8 h5,_=>.ptr cs o b off c E fr (hI b U) O h3 h4 h8 (Ae.mono hI (fun _ _=>rfl) (fun _ _ h=>h) h5)
 | .agg cs A U h,e=>.agg _ A U (Ae.subst hI hs h fun J hn=>e J (by simpa[PV.names] using hn))
 | .iface t x v h,e=>.iface t _ v (Aj.subst hI hs h fun J hn=>e J (by simpa[PV.names] using hn))
 | .fn g cs us A hk h,e=>.fn g _ us A hk (Ae.subst hI hs h fun J hn=>e J (by simpa[PV.names] using hn))
 | .fT d l h,_=>.fT d l h
 | .fM Z A h,e=>.fM _ A (Ae.subst hI hs h fun J hn=>e J (by simpa[PV.names] using hn))
 | .gz es r gD clock U O h3,_=>.gz es r gD clock (hI r U) O (Ae.mono hI (fun _ _=>rfl) (fun _ _ h=>h) h3)
 | .gw g t x c E fr U O h3,_=>.gw g t x c E fr (hI g U) O h3
 | .ref J o b C h,e=>sub_ref hs J (e J (by simp[PV.names])) o b C h
 | .fO J k i o b C h,e=>tf hs J (e J (by simp[PV.names])) k i o b C h
 | .arr J k o n cap b C h hC hn,e=>sub_arr hs J (e J (by simp[PV.names])) k o n cap b C h hC hn
 | .iL J k h,e=>tg hs J (e J (by simp[PV.names])) k h
 | .mp J b C h,e=>sub_mp hs J (e J (by simp[PV.names])) b C h
 | .it J b C h,e=>sub_it hs J (e J (by simp[PV.names])) b C h
theorem Ae.subst (hI:∀ b,I b->I' b) (hs:Dg w I' lp L L' S f) {Z:fa} {A:List eT}:Ae w I lp (some L) Z A->(∀ J∈Al Z,S J)->Ae w I' lp L' (AE f Z) A
 | .nil,_=>.nil
 | .cons x v Z A h h',e=>.cons _ v _ A (Aj.subst hI hs h fun J hn=>e J (bO _ hn)) (Ae.subst hI hs h' fun J hn=>e J (bT _ hn))
end
end sub
section fQ
variable {w:eS} {I:Nat->Prop} {lp:Nat->fb} {L L':Am} {f:Nm->Nm}
mutual
theorem Aj.rename (hf:∀ J p,L J=some p->L' (f J)=some p) {x:PV} {v:eT}:Aj w I lp (some L) x v->Aj w I lp (some L') (x.fQ f) v
 | .undef v=>.undef v
 | .bool b=>.bool b
 | .int k n=>.int k n
 | .str s=>.str s
 | .fF=>.fF
 | .gh=>.gh
 | .gH=>.gH
 | .fR=>.fR
 | .gF=>.gF
 | .lx k full a cap hf=>.lx k full a cap hf
 | .sl k Z full b off cap c E fr U O h3 h4 h5 h6 h8 h7=>.sl k Z full b off cap c E fr U O h3 h4 h5 h6 h8 h7
 | .ptr cs o b off c E fr U O h3 h4 h8 h5=>.ptr cs o b off c E fr U O h3 h4 h8 h5
 | .agg cs A U h=>.agg _ A U (Ae.rename hf h)
 | .iface t x v h=>.iface t _ v (Aj.rename hf h)
 | .fn g cs us A hk h=>.fn g _ us A hk (Ae.rename hf h)
 | .fT d l h=>.fT d l h
 | .fM Z A h=>.fM _ A (Ae.rename hf h)
 | .gz es r gD clock U O h3=>.gz es r gD clock U O h3
 | .gw g t x c E fr U O h3=>.gw g t x c E fr U O h3
 | .ref J o b C h=>.ref _ o b C (hf _ _ h)
 | .fO J k i o b C h=>.fO _ k i o b C (hf _ _ h)
 | .arr J k o n cap b C h hC hn=>.arr _ k o n cap b C (hf _ _ h) hC hn
 | .iL J k h=>.iL _ k (hf _ _ h)
 | .mp J b C h=>.mp _ b C (hf _ _ h)
 | .it J b C h=>.it _ b C (hf _ _ h)
theorem Ae.rename (hf:∀ J p,L J=some p->L' (f J)=some p) {Z:fa} {A:List eT}:Ae w I lp (some L) Z A->Ae w I lp (some L') (AR f Z) A
 | .nil=>.nil
 | .cons x v Z A h h'=>.cons _ v _ A (Aj.rename hf h) (Ae.rename hf h')
end
end fQ
end Go.Ab


namespace Go.Ab
variable{F':Nat->Prop} {S:Nm->Prop} {d lo:Nat} {f:Nm->Option fe} {m J:Nm} {ky:Ob} {lN σ:List fg} {p:Option (Nat×Nat)} {v:PV} {v':eT}
theorem DA (g:Ob->Ob) (σ:List fg) (J:Nm):Aa (σ.map (·.map g)) J=(Aa σ J).map g:=by
 unfold Aa;rw[bK];cases σ[J.1]? with
 | none=>rfl
 | some l=>simp
theorem Ix {ob:Ob} (o:Ob) (h:Aa σ J=some ob):Aa (AM σ J o) J=some o:=by
 unfold Aa at h;unfold Aa AM;cases hl:σ[J.1]? with
 | none=>rw[hl] at h;cases h
 | some l =>
  rw[hl] at h;have U:=(bH.1 hl).1;have O:=(bH.1 h).1;simp[U,O]
theorem EG (o:Ob) (h:m≠J):Aa (AM σ J o) m=Aa σ m:=by
 unfold Aa AM;cases hl:σ[J.1]? with
 | none=>rfl
 | some l =>
  by_cases U:m.1=J.1;{have O:m.2≠J.2:=fun e=>h (Prod.ext U e);have gI:=(bH.1 hl).1;rw[U,hl,cB gI];simp[bR (bW O)]};{rw[bR (bW U)]}
theorem Iy (o:Ob):Aa (AM σ J o) m=none↔Aa σ m=none:=by
 by_cases h:m=J
 ·subst h;cases hl:Aa σ m with
  | some ob=>rw[Ix o hl];simp
  | none =>
   unfold Aa at hl;unfold Aa AM;cases hs:σ[m.1]? with
   | none=>simp[hs]
   | some l =>
    rw[hs] at hl;have U:=(bH.1 hs).1;simp[U];exact bY.1 hl
 {rw[EG o h]}
theorem Ep (obs:fg) (hd:d < σ.length) (j:Nat):Aa (σ.set d obs) (d,j)=obs[j]?:=by unfold Aa;simp[hd]
theorem DO (obs:fg) (h:m.1≠d):Aa (σ.set d obs) m=Aa σ m:=by unfold Aa;rw[bR (bW h)]
structure SR (lp:Nat->fb) (I:Nat->Prop) (L:Am) (V:St) (gf fE:List eT) (w:eS):Prop where
 tm:Ae w I lp (some L) V.tmps gf
 kp:Ae w I lp (some L) V.fD fE
 ob:∀ J ob,Aa V.fA J=some ob->∃ p,L J=some p/\A5 w I lp L ob p
 j6:∀ J,Aa V.fA J=none->L J=none
section sr
variable {lp:Nat->fb} {I I':Nat->Prop} {L L':Am} {V:St} {gf fE:List eT} {w w':eS}
theorem SR.keeps (h:SR lp I L V gf fE w) (hI:∀ b,I b->I' b) (hb:∀ b,I b->w'.heap[b]?=w.heap[b]?)
  (ho:∀ J b C,L J=some (some (b,C))->w'.heap[b]?=w.heap[b]?):SR lp I' L V gf fE w' where
 tm:=Ae.mono hI hb (fun _ _ h=>h) h.tm
 kp:=Ae.mono hI hb (fun _ _ h=>h) h.kp
 ob J ob hl:=by obtain⟨p,hp,ha⟩:=h.ob J ob hl;exact⟨p,hp,ha.mono hI hb (fun _ _ h=>h) fun b C e=>ho J b C (by rw[hp,e])⟩
 j6:=h.j6
theorem SR.put (h:SR lp I L V gf fE w) (d:Nat) (hv:Aj w I lp (some L) v v'):SR lp I L {V with tmps:=V.tmps.set d v} (gf.set d v') fE w :=
 {h with tm:=h.tm.set d hv}
def BO (L:Am) (d:Nat) (ps:List (Option (Nat×Nat))):Am:=fun J=>if J.1=d then ps[J.2]? else L J
theorem SR.fresh (h:SR lp I L V gf fE w) (hd:V.fA[d]?=some []) (ps:List (Option (Nat×Nat))):Kp L (BO L d ps):=by intro J p hp;unfold BO;split;{rename_i hn;exfalso;have:=h.j6 J (by unfold Aa;rw[hn,hd];rfl);rw[hp] at this;cases this};{exact hp}
theorem SR.news (h:SR lp I L V gf fE w) (hd:V.fA[d]?=some []) (obs:fg) (ps:List (Option (Nat×Nat))) (hl:ps.length=obs.length)
  (iT:∀ (j:Nat) (ob:Ob) (p:Option (Nat×Nat)),obs[j]?=some ob->ps[j]?=some p->A5 w I lp (BO L d ps) ob p) :
  SR lp I (BO L d ps) {V with fA:=V.fA.set d obs} gf fE w where
 tm:=h.tm.iD (h.fresh hd ps)
 kp:=h.kp.iD (h.fresh hd ps)
 ob J ob gK:=by by_cases hn:J.1=d;{obtain⟨a,j⟩:=J;simp only at hn;subst hn;simp only at gK;rw[Ep obs (bH.1 hd).1] at gK;have hj:=(bH.1 gK).1;refine⟨ps[j]'(by omega),by simp[BO,hl,hj],iT j ob _ gK (by simp[hl,hj])⟩};{simp only at gK;rw[DO obs hn] at gK;obtain⟨p,hp,ha⟩:=h.ob J ob gK;exact⟨p,by simp[BO,hn,hp],ha.iD (h.fresh hd ps)⟩}
 j6 J gK:=by by_cases hn:J.1=d;{obtain⟨a,j⟩:=J;simp only at hn;subst hn;simp only at gK;rw[Ep obs (bH.1 hd).1] at gK;have:=bY.1 gK;simp only[BO,eF];exact bY.2 (by omega)};{simp only at gK;rw[DO obs hn] at gK;simp only[BO,hn,eE];exact h.j6 J gK}
theorem SR.gA (h:SR lp I L V gf fE w) (hp:L J=some p) (hb:∀ b,I b->w'.heap[b]?=w.heap[b]?)
  (ho:∀ m b C,m≠J->L m=some (some (b,C))->w'.heap[b]?=w.heap[b]?) (iT:A5 w' I lp L ky p) :
  SR lp I L {V with fA:=AM V.fA J ky} gf fE w' where
 tm:=Ae.mono (fun _ h=>h) hb (fun _ _ h=>h) h.tm
 kp:=Ae.mono (fun _ h=>h) hb (fun _ _ h=>h) h.kp
 ob m ob hl:=by
  simp only at hl;by_cases hm:m=J
  ·subst hm
   have ja:∃ o,Aa V.fA m=some o:=by
    cases hk:Aa V.fA m with
    | some o=>exact⟨o,rfl⟩
    | none=>have:=h.j6 m hk;rw[hp] at this;cases this
   obtain⟨o,hk⟩:=ja;rw[Ix ky hk] at hl;cases hl;exact⟨p,hp,iT⟩
  {rw[EG ky hm] at hl;obtain⟨q,hq,ha⟩:=h.ob m ob hl;exact⟨q,hq,ha.mono (fun _ h=>h) hb (fun _ _ h=>h) fun b C e=>ho m b C hm (by rw[hq,e])⟩}
 j6 m hl:=by simp only at hl;exact h.j6 m ((Iy ky).1 hl)
theorem A5.subst {ob:Ob} (h:A5 w I lp L ob p) (hI:∀ b,I b->I' b) (hb:∀ b,I b->w'.heap[b]?=w.heap[b]?)
  (hs:Dg w' I' lp L (some L') S f) (hn:∀ J∈ob.names,S J) (hw:∀ b C,p=some (b,C)->w'.heap[b]?=w.heap[b]?):A5 w' I' lp L' (ob.sub f) p:=by
 cases p with
 | none=>obtain⟨k,kt,rfl⟩:=h;exact⟨k,kt,rfl⟩
 | some p =>
  obtain⟨b,C⟩:=p;have hw:=hw b C rfl;cases ob with
  | cells ty cs =>
   obtain⟨c,E,U,O,h4,h3⟩:=h;exact⟨c,E,hw.trans U,O,h4,Ae.subst hI hs (Ae.mono (fun _ h=>h) hb (fun _ _ h=>h) h3) hn⟩
  | arr k kt Z=>obtain⟨c,E,U,O,h3,h4,h6,h5⟩:=h;exact⟨c,E,hw.trans U,O,h3,h4,h6,Ae.mono hI hb (fun _ _ h=>h) h5⟩
  | map es=>obtain⟨c,E,U,O⟩:=h;exact⟨c,E,hw.trans U,Ae.subst hI hs (Ae.mono (fun _ h=>h) hb (fun _ _ h=>h) O) hn⟩
  | fW s pos=>exact hw.trans h
theorem SR.subst (h:SR lp I L V gf fE w) (hI:∀ b,I b->I' b) (hb:∀ b,I b->w'.heap[b]?=w.heap[b]?)
  (hs:Dg w' I' lp L (some L') (fun _=>True) f)
  (iT:∀ J ob,Aa lN J=some ob->∃ p,L' J=some p/\A5 w' I' lp L' ob p) (hdom:∀ J,Aa lN J=none->L' J=none) :
  SR lp I' L' {tmps:=AE f V.tmps,fA:=lN,fD:=AE f V.fD} gf fE w' where
 tm:=Ae.subst hI hs (Ae.mono (fun _ h=>h) hb (fun _ _ h=>h) h.tm) fun _ _=>trivial
 kp:=Ae.subst hI hs (Ae.mono (fun _ h=>h) hb (fun _ _ h=>h) h.kp) fun _ _=>trivial
 ob:=iT
 j6:=hdom
theorem SR.th (h:SR lp I L V gf fE w) {k kt:Nat} {Z:fa} {p':Option (Nat×Nat)} (hp:L J=some p) (hb:∀ b,I b->w'.heap[b]?=w.heap[b]?)
  (ho:∀ m b C,m≠J->L m=some (some (b,C))->w'.heap[b]?=w.heap[b]?)
  (iT:A5 w' I lp (fun m=>if m=J then some p' else L m) (.arr k kt Z) p') :
  SR lp I (fun m=>if m=J then some p' else L m) (Cd (fun m=>if m=J then some none else none) {V with fA:=AM V.fA J (.arr k kt Z)}) gf fE w':=by
 have hs:Dg w' I lp L (some fun m=>if m=J then some p' else L m) (fun _=>True) (fun m=>if m=J then some none else none):=by intro m q _ hq;by_cases hm:m=J;{simp[hm]};{simp[hm,hq]}
 obtain⟨o,hk⟩:∃ o,Aa V.fA J=some o:=by
  cases hk:Aa V.fA J with
  | some o=>exact⟨o,rfl⟩
  | none=>have:=h.j6 J hk;rw[hp] at this;cases this
 refine h.subst (fun _ h=>h) hb hs ?_ ?_;{intro m ob hl;simp only[DA,bB] at hl;obtain⟨jo,hl,rfl⟩:=hl;by_cases hm:m=J;{subst hm;rw[Ix _ hk] at hl;cases hl;exact⟨p',by simp,iT⟩};{rw[EG _ hm] at hl;obtain⟨q,hq,ha⟩:=h.ob m jo hl;exact⟨q,by simp[hm,hq],ha.subst (fun _ h=>h) hb hs (fun _ _=>trivial) fun b C e=>ho m b C hm (by rw[hq,e])⟩}};{intro m hl;simp only[DA,Option.map_eq_none_iff] at hl;have mN:=(Iy _).1 hl;by_cases hm:m=J;{subst hm;rw[hk] at mN;cases mN};{simp[hm,h.j6 m mN]}}
end sr
structure BA (I F:Nat->Prop) (w:eS) (I' F':Nat->Prop) (w':eS):Prop where
 os:w'.os=w.os
 tape:w'.tape=w.tape
 output:w'.output=w.output
 size:w.heap.size<=w'.heap.size
 fD:∀ b,b < w.heap.size->¬ F b->w'.heap[b]?=w.heap[b]?
 j9:∀ b,I b->I' b
 jJ:∀ b,I' b->I b\/F b\/w.heap.size<=b
 jX:∀ b,F' b->F b\/w.heap.size<=b
theorem BA.refl (I F:Nat->Prop) (w:eS):BA I F w I F w:=⟨rfl,rfl,rfl,bD _,fun _ _ _=>rfl,fun _ h=>h,fun _ h=>.inl h,fun _ h=>.inl h⟩
theorem BA.trans {I F I' I'' F'':Nat->Prop} {w w' w'':eS} (h:BA I F w I' F' w') (h':BA I' F' w' I'' F'' w''):BA I F w I'' F'' w'' where
 os:=h'.os.trans h.os
 tape:=h'.tape.trans h.tape
 output:=h'.output.trans h.output
 size:=dD h.size h'.size
 fD b hb hF:=(h'.fD b (cG hb h.size) fun hf=>(h.jX b hf).elim hF fun U=>by omega).trans (h.fD b hb hF)
 j9 b hb:=h'.j9 b (h.j9 b hb)
 jJ b hb:=by rcases h'.jJ b hb with U | U | U;{exact h.jJ b U};{exact .inr (h.jX b U)};{exact .inr (.inr (dD h.size U))}
 jX b hb:=(h'.jX b hb).elim (h.jX b) fun U=>.inr (dD h.size U)
structure IF (I F:Nat->Prop) (w:eS):Prop where
 iB:∀ b,I b->b < w.heap.size
 fB:∀ b,F b->b < w.heap.size/\¬ I b
theorem BA.nT {I F I':Nat->Prop} {w w':eS} (h:BA I F w I' F' w') (hi:IF I F w) (b:Nat) (hb:I b):w'.heap[b]?=w.heap[b]? :=
 h.fD b (hi.iB b hb) fun hf=>(hi.fB b hf).2 hb
structure Cx where
 P:eX
 mixed:P.follows .mixedOrders=true
 G:DZ
 Wd:(Nat->Prop)->eS->Prop
 jK:∀ (I I':Nat->Prop) (w w':eS),Wd I w->(∀ b,I b->I' b)->(∀ b,I b->w'.heap[b]?=w.heap[b]?)->w.heap.size<=w'.heap.size->Wd I' w'
 gl:∀ (I:Nat->Prop) (w:eS) (g:Nat) (cs:fa),Wd I w->G g=some cs->∀ lp L,Aj w I lp L (.ptr cs 0) (.pointer (some ⟨g,0,none⟩))
structure Bl (E:Type) where
 rel:E->(Nat->Prop)->(Nat->Prop)->eS->Prop
 jK:∀ (e:E) (I I' F:Nat->Prop) (w w':eS),rel e I F w->(∀ b,I b->I' b)->(∀ b,I b\/F b->w'.heap[b]?=w.heap[b]?)->w.heap.size<=w'.heap.size->rel e I' F w'
structure Bu where
 own:Nat->Prop
 dfs:List eZ:=[]
instance:CoeFun Bu fun _=>Nat->Prop:=⟨Bu.own⟩
inductive BS (lo:Nat) (I F:Nat->Prop) (L:Am) (w:eS):List eZ->List eZ->Prop
 | nil:BS lo I F L w [] []
 | cons (D:Nat) (ds rs:List eZ) (U:lo<=D) (O:D < w.heap.size) (h3:¬ I D) (h4:¬ F D) (h5:∀ J C,L J≠some (some (D,C)))
   (h6:w.heap[D]?=some (.deferred (some []))) (h7:∀ d∈ds,d.target≠.collected D) (h:BS lo I F L w ds rs):BS lo I F L w ({target:=.collected D,args:=#[]} :: ds) rs
 | call (d:eZ) (ds rs:List eZ) (hd:∀ D,d.target≠.collected D) (h:BS lo I F L w ds rs):BS lo I F L w (d :: ds) (d :: rs)
structure Fr {E:Type} (cx:Cx) (w0:eS) (I0 F0:Nat->Prop) (O0:Bu) (Hd:Nat->Option Obj) (R:Bl E) (e:E) (ds:List eZ) (I F:Nat->Prop) (L:Am) (w:eS):Prop where
 ext:BA I0 F0 w0 I F w
 sep:IF I F w
 oF:∀ b,O0 b->F0 b
 lB:∀ J b C,L J=some (some (b,C))->(w0.heap.size<=b\/O0 b)/\b < w.heap.size/\¬ I b/\¬ F b
 inj:∀ J gP b C C',L J=some (some (b,C))->L gP=some (some (b,C'))->J=gP
 wd:cx.Wd I w
 re:R.rel e I F w
 lO:BS w0.heap.size I F L w ds O0.dfs
 lP:∀ b ob,Hd b=some ob->b < w.heap.size/\¬ I b/\¬ F b/\(∀ J C,L J≠some (some (b,C)))/\w.heap[b]?=some ob
theorem BS.move {I F I':Nat->Prop} {L L':Am} {w w':eS} {ds rs:List eZ} (h:BS lo I F L w ds rs) (hs:w.heap.size<=w'.heap.size)
  (hk:∀ D,D < w.heap.size->lo<=D->¬ I D->¬ F D->(∀ J C,L J≠some (some (D,C)))->w'.heap[D]?=w.heap[D]?/\¬ I' D/\¬ F' D/\(∀ J C,L' J≠some (some (D,C)))):BS lo I' F' L' w' ds rs:=by
 induction h with
 | nil=>exact .nil
 | cons D ds rs U O h3 h4 h5 h6 h7 _ ih =>
  obtain⟨a,b,c,d⟩:=hk D O U h3 h4 h5;exact .cons D ds rs U (cG O hs) b c d (a.trans h6) h7 ih
 | call d ds rs hd _ ih=>exact .call d ds rs hd ih
section fr
variable {E:Type} {cx:Cx} {w0:eS} {I0 F0:Nat->Prop} {O0:Bu} {Hd:Nat->Option Obj} {R:Bl E} {e:E} {ds:List eZ} {I F I':Nat->Prop} {L L':Am} {w w':eS}
theorem Fr.nT (h:Fr cx w0 I0 F0 O0 Hd R e ds I F L w) (hk:∀ b,b < w.heap.size->(∀ J C,L J≠some (some (b,C)))->w'.heap[b]?=w.heap[b]?) (b:Nat) (hb:I b):w'.heap[b]?=w.heap[b]? :=
 hk b (h.sep.iB b hb) fun J C hL=>(h.lB J b C hL).2.2.1 hb
theorem Fr.own (h:Fr cx w0 I0 F0 O0 Hd R e ds I F L w) (U:w'.os=w.os) (O:w'.tape=w.tape) (h3:w'.output=w.output) (h4:w.heap.size<=w'.heap.size)
  (hk:∀ b,b < w.heap.size->(∀ J C,L J≠some (some (b,C)))->w'.heap[b]?=w.heap[b]?) (hI:∀ b,I b->I' b)
  (hI':∀ b,I' b->I b\/(b < w'.heap.size/\(w.heap.size<=b\/∃ J C,L J=some (some (b,C)))))
  (hL:∀ J b C,L' J=some (some (b,C))->b < w'.heap.size/\¬ I' b/\(w.heap.size<=b\/∃ gP C',L gP=some (some (b,C'))))
  (hinj:∀ J gP b C C',L' J=some (some (b,C))->L' gP=some (some (b,C'))->J=gP):Fr cx w0 I0 F0 O0 Hd R e ds I' F L' w' where
 ext:=by have iQ:=h.ext.size;refine⟨U.trans h.ext.os,O.trans h.ext.tape,h3.trans h.ext.output,dD iQ h4,fun b hb hf=>?_,fun b hb=>hI b (h.ext.j9 b hb),fun b hb=>?_,h.ext.jX⟩;{exact (hk b (by omega) fun J C hn=>(h.lB J b C hn).1.elim (fun U=>by omega) fun ho=>hf (h.oF b ho)).trans (h.ext.fD b hb hf)};{rcases hI' b hb with h5 | ⟨_,h5 | ⟨J,C,h5⟩⟩;{exact h.ext.jJ b h5};{exact .inr (.inr (by omega))};{exact .inr ((h.lB J b C h5).1.elim .inr fun ho=>.inl (h.oF b ho))}}
 sep:=⟨fun b hb=>(hI' b hb).elim (fun h5=>cG (h.sep.iB b h5) h4) fun h5=>h5.1,
  fun b hb=>⟨cG (h.sep.fB b hb).1 h4,fun hi=>by
   rcases hI' b hi with h5 | ⟨_,h5 | ⟨J,C,h5⟩⟩;·exact (h.sep.fB b hb).2 h5
   ·have:=(h.sep.fB b hb).1;omega
   ·exact (h.lB J b C h5).2.2.2 hb⟩⟩
 oF:=h.oF
 lB J b C hn:=by obtain⟨a1,a2,a3⟩:=hL J b C hn;have iQ:=h.ext.size;refine⟨?_,a1,a2,?_⟩;{rcases a3 with a3 | ⟨gP,C',a3⟩;{exact .inl (by omega)};{exact (h.lB gP b C' a3).1}};{intro hf;rcases a3 with a3 | ⟨gP,C',a3⟩;{have:=(h.sep.fB b hf).1;omega};{exact (h.lB gP b C' a3).2.2.2 hf}}
 inj:=hinj
 wd:=cx.jK I I' w w' h.wd hI (h.nT hk) h4
 re:=R.jK e I I' F w w' h.re hI (fun b hb=>by
  rcases hb with hb | hb;·exact h.nT hk b hb
  ·exact hk b (h.sep.fB b hb).1 fun J C hn=>(h.lB J b C hn).2.2.2 hb) h4
 lO:=h.lO.move h4 fun D d1 d2 d3 d4 d5=>⟨hk D d1 d5,fun hi=>by
   rcases hI' D hi with h5 | ⟨_,h5 | ⟨J,C,h5⟩⟩;·exact d3 h5
   ·omega
   ·exact d5 J C h5,d4,fun J C hn=>by
   rcases (hL J D C hn).2.2 with h5 | ⟨gP,C',h5⟩;·omega
   ·exact d5 gP C' h5⟩
 lP b ob hb:=by obtain⟨d1,d2,d3,d4,d5⟩:=h.lP b ob hb;refine⟨by omega,fun hi=>?_,d3,fun J C hn=>?_,(hk b d1 d4).trans d5⟩;{rcases hI' b hi with h5 | ⟨_,h5 | ⟨J,C,h5⟩⟩;{exact d2 h5};{omega};{exact d4 J C h5}};{rcases (hL J b C hn).2.2 with h5 | ⟨gP,C',h5⟩;{omega};{exact d4 gP C' h5}}
end fr
end Go.Ab


namespace Go.Ab
variable{C b d f g:Nat} {J:Nm} {obj:Obj} {ps:List (Option (Nat×Nat))} {r:RX} {tmps:Array eT} {v v':eT} {w' w1:eS} {x:eV}
theorem tj (n:Nat):Nat.blt (f+b*(n+1)) b=false:=by
 cases hq:Nat.blt (f+b*(n+1)) b with
 | false=>rfl
 | true =>
  have U:=Nat.blt_eq.mp hq;have O:=Nat.le_mul_of_pos_right b (Nat.succ_pos n);exact eQ (cG U (dD O (Nat.le_add_left _ f))) (Nat.lt_irrefl _)
theorem num_div (hb:f < b) (n:Nat):(f+b*(n+1)) / b=n+1:=by rw[Nat.add_mul_div_left _ _ (Nat.lt_of_le_of_lt (cX f) hb),Nat.div_eq_of_lt hb,bX]
theorem num_mod (hb:f < b) (n:Nat):(f+b*(n+1))%b=f:=by rw[Nat.add_mul_mod_self_left,Nat.mod_eq_of_lt hb]
theorem fnK_ge (h:Nat.blt g CJ=false):En g=g / CJ:=by unfold En;rw[h]
theorem fnId_ge (h:Nat.blt g CJ=false):AG g=g%CJ:=by unfold AG;rw[h]
theorem fnNum_k {f:eU} (hb:Nat.blt f CJ=true):∀ n,En (N6 f n)=n
 | 0=>by simp[N6,En,hb]
 | n+1=>(fnK_ge (tj n)).trans (num_div (Nat.blt_eq.mp hb) n)
theorem tk {f:eU} (hb:Nat.blt f CJ=true):∀ n,AG (N6 f n)=f
 | 0=>by simp[N6,AG,hb]
 | n+1=>(fnId_ge (tj n)).trans (num_mod (Nat.blt_eq.mp hb) n)
theorem RS {w:eS} {I:Nat->Prop} {lp:Nat->fb} {L:fm}:∀ (n:Nat) (v:eT) (x:PV),GM n v=some x->Aj w I lp L x v:=by
 intro n;induction n with
 | zero =>
  intro v x h;unfold GM at h;split at h<;>first | contradiction | (cases h;done) | (cases h;constructor)
 | succ n ih =>
  intro v x h;unfold GM at h;split at h<;>first | (cases h;constructor) | skip
  ·rename_i m cs e;cases e;split at h
   case isFalse=>cases h
   rename_i gL;simp only[bB] at h;obtain⟨Z,H,rfl⟩:=h;refine .agg Z cs (fun v hv=>bI.1 gL v hv) ?_;clear gL;generalize cs.toList=l at H;induction l generalizing Z with
   | nil=>simp at H;subst H;exact .nil
   | cons v l ihl =>
    rw[cH] at H;simp only[dE,co,dO,bC] at H;obtain⟨y,hy,ys,kX,rfl⟩:=H;exact .cons _ _ _ _ (ih v y hy) (ihl ys kX)
  {cases h}
theorem Th (i:Nat):tmps.getD i undef=tmps.toList.getD i undef:=by simp[bF]
section
variable {cx:Cx} {I:Nat->Prop} {L:Am} {V:St} {a:Act} {fE:List eT} {lp:Nat->fb} {w:eS}
theorem A9 (h:SR lp I L V a.tmps.toList fE w) (hw:cx.Wd I w) (H:rx cx.G x=some r):Aj w I lp (some L) (r.ev V.tmps) (a.eval x):=by
 cases x with
 | tmp t=>simp only[rx,bC] at H;subst H;simp only[RX.ev,Act.eval,Th];exact h.tm.getD t undef
 | const v =>
  simp only[rx,bB] at H;obtain⟨y,hy,rfl⟩:=H;exact RS 3 v y hy
 | global g =>
  simp only[rx,bB] at H;obtain⟨cs,hc,rfl⟩:=H;exact cx.gl I w g cs hw hc lp _
 | func f =>
  simp only[rx] at H;split at H
  case isFalse=>cases H
  rename_i hb;simp only[bC] at H;subst H
  have hr:Aj w I lp (some L) (.fn f []) (.func (.func f) #[] #[]):=by
   have:=Aj.fn (w:=w) (I:=I) (lp:=lp) (L:=some L) f [] #[] #[] (by simp[En,hb]) .nil
   rwa [show AG f=f by simp[AG,hb]] at this
  exact hr
theorem Pz (h:SR lp I L V a.tmps.toList fE w) (hw:cx.Wd I w):∀ {Z:List eV} {rs:fu},Di cx.G Z=some rs ->
  Ae w I lp (some L) (rs.map (RX.ev V.tmps)) (Z.map a.eval):=by
 intro Z;induction Z with
 | nil=>intro rs h;simp only[Di,bC] at h;subst h;exact .nil
 | cons x Z ih =>
  intro rs hr;simp only[Di] at hr;split at hr;{rename_i y ys U O;cases hr;exact .cons _ _ _ _ (A9 h hw U) (ih O)};{cases hr}
end
structure JE (w w':eS):Prop where
 heap:w'.heap=w.heap
 os:w'.os=w.os
 tape:w'.tape=w.tape
 output:w'.output=w.output
theorem JE.refl (w:eS):JE w w:=⟨rfl,rfl,rfl,rfl⟩
theorem Hi (a:Act) (dst:fb) (v:eT):(a.put dst v).tmps.toList=(match dst with | some d=>a.tmps.toList.set d v | none=>a.tmps.toList):=by cases dst<;>simp[Act.put]
section done
variable {E:Type} (cx:Cx) (w0:eS) (I0 F0:Nat->Prop) (O0:Bu) (Hd:Nat->Option Obj) (R:Bl E) (e:E) (ds:List eZ) (F:Nat->Prop) (lp:Nat->fb) (fE:List eT)
def Bb (o:Oper) (a:Act) (w:eS) (st':St):Prop :=
 ∃ v' w' I' L',((execOp a.eval o).run cx.P w=.ok (.value v') w'\/((execOp a.eval o).run cx.P w=.ok .skip w'/\v'=undef)) /\
  SR lp I' L' st' (a.put o.dst v').tmps.toList fE w'/\Fr cx w0 I0 F0 O0 Hd R e ds I' F L' w'
end done
section lemmas
variable {E:Type} {cx:Cx} {w0:eS} {I0 F0:Nat->Prop} {O0:Bu} {Hd:Nat->Option Obj} {R:Bl E} {e:E} {ds:List eZ} {F:Nat->Prop} {lp:Nat->fb} {fE:List eT}
variable {I:Nat->Prop} {L:Am} {V:St} {a:Act} {w:eS} {o:Oper}
theorem Aj.same {L:fm} {x:PV} (h:Aj w I lp L x v) (hs:JE w w'):Aj w' I lp L x v :=
 Aj.mono (fun _ h=>h) (fun _ _=>by rw[hs.heap]) (fun _ _ h=>h) h
theorem Fr.same (h:Fr cx w0 I0 F0 O0 Hd R e ds I F L w) (hs:JE w w'):Fr cx w0 I0 F0 O0 Hd R e ds I F L w' :=
 h.own hs.os hs.tape hs.output (by rw[hs.heap];exact bD _) (fun b _ _=>by rw[hs.heap]) (fun _ h=>h) (fun _ h=>.inl h)
  (fun J b C hn=>⟨by rw[hs.heap];exact (h.lB J b C hn).2.1,(h.lB J b C hn).2.2.1,.inr ⟨J,C,hn⟩⟩) h.inj
theorem SR.same (h:SR lp I L V a.tmps.toList fE w) (hs:JE w w'):SR lp I L V a.tmps.toList fE w' :=
 h.keeps (fun _ h=>h) (fun _ _=>by rw[hs.heap]) fun _ _ _ _=>by rw[hs.heap]
theorem SR.tl (h:SR lp I L V a.tmps.toList fE w) (dst:fb) {v:PV} (hv:Aj w I lp (some L) v v') :
  SR lp I L (apply V dst {v}) (a.put dst v').tmps.toList fE w:=by
 rw[Hi];cases dst with
 | none=>exact h
 | some d=>exact h.put d hv
theorem Bi (hs:SR lp I L V a.tmps.toList fE w) (hf:Fr cx w0 I0 F0 O0 Hd R e ds I F L w) {v:PV} 
  (hr:(execOp a.eval o).run cx.P w=.ok (.value v') w') (hw:JE w w') (hv:Aj w I lp (some L) v v') :
  Bb cx w0 I0 F0 O0 Hd R e ds F lp fE o a w (apply V o.dst {v}) :=
 ⟨v',w',I,L,.inl hr,(hs.same hw).tl o.dst (hv.same hw),hf.same hw⟩
theorem fJ (w:eS) (ob:Obj) (h:b < w.heap.size):(w.alloc ob).heap[b]?=w.heap[b]?:=heap_alloc_old w ob b h
theorem Fr.news (h:Fr cx w0 I0 F0 O0 Hd R e ds I F L w) (_hd:V.fA[d]?=some []) 
  (U:w'.os=w.os) (O:w'.tape=w.tape) (h3:w'.output=w.output) (h4:w.heap.size<=w'.heap.size) (hk:∀ b,b < w.heap.size->w'.heap[b]?=w.heap[b]?)
  (hp:∀ (j b C:Nat),ps[j]?=some (some (b,C))->w.heap.size<=b/\b < w'.heap.size)
  (hi:∀ (j j' b C C':Nat),ps[j]?=some (some (b,C))->ps[j']?=some (some (b,C'))->j=j'):Fr cx w0 I0 F0 O0 Hd R e ds I F (BO L d ps) w':=by
 refine h.own U O h3 h4 (fun b hb _=>hk b hb) (fun _ h=>h) (fun _ h=>.inl h) ?_ ?_;{intro J b C hn;unfold BO at hn;split at hn;{obtain⟨p1,p2⟩:=hp _ _ _ hn;exact⟨p2,fun hb=>by have:=h.sep.iB b hb;omega,.inl p1⟩};{have:=h.lB J b C hn;exact⟨by omega,this.2.2.1,.inr ⟨J,C,hn⟩⟩}};{intro J gP b C C' hn ik;unfold BO at hn ik;split at hn<;>split at ik;{rename_i e1 e2;exact Prod.ext (e1.trans e2.symm) (hi _ _ _ _ _ hn ik)};{have:=hp _ _ _ hn;have:=h.lB gP b C' ik;omega};{have:=hp _ _ _ ik;have:=h.lB J b C hn;omega};{exact h.inj J gP b C C' hn ik}}
theorem Pk (hs:SR lp I L V a.tmps.toList fE w) (hf:Fr cx w0 I0 F0 O0 Hd R e ds I F L w) (hd:o.dst=some d) (hc:V.fA[d]?=some [])
  {v:PV} {ob:Ob} (hw:JE w w1) (hr:(execOp a.eval o).run cx.P w=.ok (.value v') (w1.alloc obj))
  (iT:∀ L',Kp L L'->RD (w1.alloc obj) I lp L' w.heap.size C ob)
  (hv:∀ L':Am,L' (d,0)=some (some (w.heap.size,C))->Aj (w1.alloc obj) I lp (some L') v v') :
  Bb cx w0 I0 F0 O0 Hd R e ds F lp fE o a w (apply V o.dst {v,new:=[ob]}):=by
 have iQ:w1.heap.size=w.heap.size:=by rw[hw.heap]
 have hk:∀ b,b < w.heap.size->(w1.alloc obj).heap[b]?=w.heap[b]?:=fun b hb=>by rw[fJ w1 obj (by omega),hw.heap]
 have ka:SR lp I L V a.tmps.toList fE (w1.alloc obj):=hs.keeps (fun _ h=>h) (fun b hb=>hk b (hf.sep.iB b hb)) fun J b C hn=>hk b (hf.lB J b C hn).2.1
 have hn:=ka.news hc [ob] [some (w.heap.size,C)] rfl (by
  intro j ky p U O;cases j with
  | zero=>simp at U O;subst U;subst O;exact iT _ (ka.fresh hc _)
  | succ j=>simp at U)
 refine⟨v',w1.alloc obj,I,BO L d [some (w.heap.size,C)],.inl hr,?_,?_⟩;{rw[Hi,hd];exact hn.put d (hv _ (by simp[BO]))}
 ·refine Fr.news hf hc (by simp[World.alloc,hw.os]) (by simp[hw.tape]) (by simp[World.alloc,hw.output]) (by simp;omega) hk ?_ ?_
  ·intro j b C' hj;cases j with
   | zero=>simp at hj;simp;omega
   | succ j=>simp at hj
  ·intro j j' b C1 C2 U O;cases j with
   | zero=>cases j' with
    | zero=>rfl
    | succ j'=>simp at O
   | succ j=>simp at U
theorem MZ (hs:SR lp I L V a.tmps.toList fE w) (hf:Fr cx w0 I0 F0 O0 Hd R e ds I F L w) (hL:L J=some (some (b,C)))
  {v:PV} {ob:Ob} (hr:(execOp a.eval o).run cx.P w=.ok (.value v') w'\/((execOp a.eval o).run cx.P w=.ok .skip w'/\v'=undef))
  (U:w'.os=w.os) (O:w'.tape=w.tape) (h3:w'.output=w.output) (h4:w'.heap.size=w.heap.size) (hk:∀ b',b'≠b->w'.heap[b']?=w.heap[b']?)
  (iT:RD w' I lp L b C ob) (hv:Aj w' I lp (some L) v v') :
  Bb cx w0 I0 F0 O0 Hd R e ds F lp fE o a w (apply V o.dst {v,gA:=some (J,ob)}):=by
 have hI:∀ b',I b'->w'.heap[b']?=w.heap[b']?:=fun b' jh=>hk b' fun e=>(hf.lB J b C hL).2.2.1 (e ▸ jh);have hu:=hs.gA (w':=w') (ky:=ob) hL hI (fun m b' C' hm hn=>hk b' fun e=>hm (hf.inj m J b' C' C hn (e ▸ hL))) iT;refine⟨v',w',I,L,hr,?_,?_⟩
 ·rw[Hi];cases o.dst with
  | none=>exact hu
  | some d=>exact hu.put d hv
 ·exact hf.own U O h3 (by omega) (fun b' _ hn=>hk b' fun e=>hn J C (e ▸ hL)) (fun _ h=>h) (fun _ h=>.inl h)
   (fun m b' C' hn=>⟨by have:=(hf.lB m b' C' hn).2.1;omega,(hf.lB m b' C' hn).2.2.1,.inr ⟨m,C',hn⟩⟩) hf.inj
theorem OX (hs:SR lp I L V a.tmps.toList fE w) (hf:Fr cx w0 I0 F0 O0 Hd R e ds I F L w) {p p':Option (Nat×Nat)} (hL:L J=some p)
  {v:PV} {k kt:Nat} {Z:fa} (hr:(execOp a.eval o).run cx.P w=.ok (.value v') w')
  (U:w'.os=w.os) (O:w'.tape=w.tape) (h3:w'.output=w.output) (h4:w.heap.size<=w'.heap.size)
  (hk:∀ b',b' < w.heap.size->(∀ C,p≠some (b',C))->w'.heap[b']?=w.heap[b']?)
  (hp':∀ b C,p'=some (b,C)->b < w'.heap.size/\(w.heap.size<=b\/∃ C',p=some (b,C')))
  (iT:∀ L',A5 w' I lp L' (.arr k kt Z) p') (hv:∀ L':Am,L' J=some p'->Aj w' I lp (some L') v v') :
  Bb cx w0 I0 F0 O0 Hd R e ds F lp fE o a w (apply V o.dst {v,gA:=some (J,.arr k kt Z),kill:=some J}):=by
 have hI:∀ b',I b'->w'.heap[b']?=w.heap[b']?:=fun b' jh=>hk b' (hf.sep.iB b' jh) fun C e=>(hf.lB J b' C (by rw[hL,e])).2.2.1 jh
 have hu:=hs.th (w':=w') (k:=k) (kt:=kt) (Z:=Z) (p':=p') hL hI
  (fun m b' C' hm hn=>hk b' (hf.lB m b' C' hn).2.1 fun C e=>hm (hf.inj m J b' C' C hn (by rw[hL,e]))) (iT _)
 refine⟨v',w',I,(fun m=>if m=J then some p' else L m),.inl hr,?_,?_⟩
 ·rw[Hi];cases o.dst with
  | none=>exact hu
  | some d=>exact hu.put d (hv _ (by simp))
 ·refine hf.own U O h3 h4 (fun b' jh hn=>hk b' jh fun C e=>hn J C (by rw[hL,e])) (fun _ h=>h) (fun _ h=>.inl h) ?_ ?_;{intro m b' C' hn;by_cases hm:m=J;{simp only[hm,eF,bC] at hn;obtain⟨q1,q2⟩:=hp' b' C' hn;refine⟨q1,fun hb=>?_,?_⟩;{rcases q2 with q2 | ⟨C2,q2⟩;{have:=hf.sep.iB b' hb;omega};{exact (hf.lB J b' C2 (by rw[hL,q2])).2.2.1 hb}};{rcases q2 with q2 | ⟨C2,q2⟩;{exact .inl q2};{exact .inr ⟨J,C2,by rw[hL,q2]⟩}}};{simp only[hm,eE] at hn;exact⟨by have:=(hf.lB m b' C' hn).2.1;omega,(hf.lB m b' C' hn).2.2.1,.inr ⟨m,C',hn⟩⟩}}
  ·intro m m' b' C1 C2 hn ik;have other:∀ m C1 C2,m≠J->L m=some (some (b',C1))->p'=some (b',C2)->False:=fun m C1 C2 hm U O=>by obtain⟨q1,q2⟩:=hp' b' C2 O;rcases q2 with q2 | ⟨C3,q2⟩;{have:=(hf.lB m b' C1 U).2.1;omega};{exact hm (hf.inj m J b' C1 C3 U (by rw[hL,q2]))}
   by_cases hm:m=J<;>by_cases ly:m'=J;{rw[hm,ly]};{simp only[hm,ly,eF,eE,bC] at hn ik;exact (other m' C2 C1 ly ik hn).elim};{simp only[hm,ly,eF,eE,bC] at hn ik;exact (other m C1 C2 hm hn ik).elim};{simp only[hm,ly,eE] at hn ik;exact hf.inj m m' b' C1 C2 hn ik}
end lemmas
end Go.Ab


namespace Go.Ab
variable{α:Type} {P:eX} {ag b full:Bool} {b' d g:Nat} {c:Array eT} {cs es:fa} {f:eU} {fr:Nat×Nat} {i:TypeInfo} {k:eW} {n:Int} {J:Nm} {r:RX} {s:fp} {A ys:List eT} {x:PV} {y:eV}
section inv
variable {w:eS} {I:Nat->Prop} {lp:Nat->fb} {L:Am} {v:eT}
theorem Er {L:fm} (h:Aj w I lp L (.bool b) v):v=.bool b:=by cases h;rfl
theorem B5 {L:fm} (h:Aj w I lp L (.int k n) v):v=.int k n:=by cases h;rfl
theorem B4 {L:fm} (h:Aj w I lp L (.str s) v):v=.string ⟨s.toArray⟩:=by cases h;rfl
theorem Fb {L:fm} (h:Aj w I lp L .fF v):v=.slice none 0 0:=by cases h;rfl
theorem JV {L:fm} (h:Aj w I lp L .gh v):v=.pointer none:=by cases h;rfl
theorem Pe {L:fm} (h:Aj w I lp L .gH v):v=.nilFunc:=by cases h;rfl
theorem Hn {L:fm} (h:Aj w I lp L .fR v):v=.nilIface:=by cases h;rfl
theorem Xy {L:fm} (h:Aj w I lp L .gF v):v=.map none:=by cases h;rfl
theorem K7 {L:fm} (h:Aj w I lp L (.agg cs) v):∃ A,v=.agg A/\A1 A.toList/\Ae w I lp L cs A.toList:=by cases h;exact⟨_,rfl,by assumption,by assumption⟩
theorem Yt {L:fm} (h:Aj w I lp L (.fM cs) v):∃ A,v=.tuple A/\Ae w I lp L cs A.toList:=by cases h;exact⟨_,rfl,by assumption⟩
theorem XA {L:fm} {t:eY} (h:Aj w I lp L (.gw g t) v):∃ u,v=.iface t u/\I g/\∃ c E fr,w.heap[g]?=some (.cells c E fr)/\c[0]?=some (.iface t u):=by cases h;exact⟨_,rfl,by assumption,_,_,_,by assumption,by assumption⟩
theorem IH {L:fm} {t:eY} (h:Aj w I lp L (.iface t x) v):∃ u,v=.iface t u/\Aj w I lp L x u:=by cases h;exact⟨_,rfl,by assumption⟩
theorem Jc {L:fm} (h:Aj w I lp L (.fn f cs) v):∃ us A,v=.func (.func (AG f)) us A/\us.size=En f/\Ae w I lp L cs (us.toList++A.toList):=by cases h;exact⟨_,_,rfl,by assumption,by assumption⟩
theorem OF {L:fm} {Z:fa} {us A:Array eT} (hk:us.size=En f) (h:Ae w I lp L cs (us.toList++A.toList)) (hv:Ae w I lp L Z ys) :
  Ae w I lp L (A7 f Z cs) (us.toList++(ys++A.toList)):=by
 unfold A7;have hl:us.toList.length=us.size:=by simp
 split
 ·rename_i hb;have h0:us.size=0:=by rw[hk];simp[En,hb]
  have hu:us.toList=[]:=ej.1 (by rw[hl,h0]);rw[hu] at h |-;exact hv.append h
 {have U:=h.take (En f);have O:=h.drop (En f);rw[List.take_left' (by rw[hl,hk])] at U;rw[List.drop_left' (by rw[hl,hk])] at O;exact U.append (hv.append O)}
theorem Ys {L:fm} (h:Aj w I lp L (.fT d) v):∃ l,v=yv l/\lp d=some l:=by cases h;exact⟨_,rfl,by assumption⟩
theorem EK {o:Nat} (h:Aj w I lp (some L) (.ref J o) v):∃ b C,L J=some (some (b,C))/\v=.pointer (some ⟨b,o,none⟩):=by cases h;exact⟨_,_,by assumption,rfl⟩
theorem Pg {k i o:Nat} (h:Aj w I lp (some L) (.fO J k i o) v):∃ b C,L J=some (some (b,C))/\v=.pointer (some ⟨b,i*k+o,none⟩):=by cases h;exact⟨_,_,by assumption,rfl⟩
theorem K6 {L:fm} {o:Nat} (h:Aj w I lp L (.ptr cs o) v):∃ b off c E fr,v=.pointer (some ⟨b,off+o,none⟩)/\I b/\w.heap[b]?=some (.cells c E fr) /\
  off+cs.length<=c.size/\o < cs.length/\A1 ((c.toList.drop off).take cs.length)/\Ae w I lp none cs ((c.toList.drop off).take cs.length):=by
 cases h;exact⟨_,_,_,_,_,rfl,by assumption,by assumption,by assumption,by assumption,by assumption,by assumption⟩
theorem Gi {k o n:Nat} (h:Aj w I lp (some L) (.arr J k o n) v) :
  (∃ b C cap,L J=some (some (b,C))/\v=.slice (some ⟨b,o*k,none⟩) n cap/\(o+cap)*k<=C/\n<=cap)\/(L J=some none/\v=.slice none 0 0/\o=0/\n=0):=by
 cases h;{exact .inl ⟨_,_,_,by assumption,rfl,by assumption,by assumption⟩};{exact .inr ⟨by assumption,rfl,rfl,rfl⟩}
theorem Hy {L:fm} {k:Nat} {Z:fa} (h:Aj w I lp L (.sl k Z full) v) :
  (∃ b off cap c E fr,v=.slice (some ⟨b,off,none⟩) Z.length cap/\I b/\w.heap[b]?=some (.cells c E fr)/\off+Z.length*k<=c.size/\(∀ x∈Z,x.cells.length=k)/\Z.length<=cap/\(full=true->cap=Z.length) /\
   A1 ((c.toList.drop off).take (Z.length*k))/\Ae w I lp none (fL Z) ((c.toList.drop off).take (Z.length*k)))\/(Z=[]/\∃ a cap,v=.slice a 0 cap/\(full=true->cap=0)):=by
 cases h;{exact .inr ⟨rfl,_,_,rfl,by assumption⟩};{exact .inl ⟨_,_,_,_,_,_,rfl,by assumption,by assumption,by assumption,by assumption,by assumption,by assumption,by assumption,by assumption⟩}
theorem PW (h:Aj w I lp (some L) (.mp J) v):∃ b C,L J=some (some (b,C))/\v=.map (some b):=by cases h;exact⟨_,_,by assumption,rfl⟩
theorem inv_it (h:Aj w I lp (some L) (.it J) v):∃ b C,L J=some (some (b,C))/\v=.pointer (some ⟨b,0,none⟩):=by cases h;exact⟨_,_,by assumption,rfl⟩
theorem Xz {L:fm} (h:Aj w I lp L (.gz es) v):∃ r gD clock,v=.map (some r)/\I r/\w.heap[r]?=some (.map gD clock)/\Ae w I lp none es (EY gD.toList):=by cases h;exact⟨_,_,_,rfl,by assumption,by assumption,by assumption⟩
end inv
theorem AK {x:Option α} {y:α} (h:Ap b x=some y):b=true/\x=some y:=by cases b;{simp[Ap] at h};{exact⟨rfl,by simpa[Ap] using h⟩}
variable{n:Nat}
theorem RI {t:eY} (h:Gf P t=some (n,ag)):∃ d i,P.underlying t=some d/\P.info? t=some i/\i.size=n/\Kv d=ag:=by unfold Gf at h;split at h;{rename_i d i U O;simp only[bC,b8] at h;exact⟨d,i,U,O,h.1,h.2⟩};{cases h}
theorem Wg {t:eY} {d:e9} (h:P.underlying t=some d) (w:eS):(isAgg t).run P w=.ok (Kv d) w:=by unfold isAgg Kv;simp only[Sem.run_bind,run_underlying h,Result.andThen_ok];split<;>split<;>simp_all
theorem Hf {t:eY} (h:P.info? t=some i) (w:eS):(sizeOf t).run P w=.ok i.size w:=by simp[sizeOf,typeInfo,h]
theorem HS (b off i:Nat):(⟨b,off,none⟩:Addr).add i=⟨b,off+i,none⟩:=by unfold Addr.add;split<;>simp_all
variable{b:Nat}
theorem M4 {w:eS} {E:eY} (h:w.heap[b]?=some (.cells c E fr)) (j:Nat):w.cell? ⟨b,j,none⟩=c[j]?:=by simp[World.cell?,h]
theorem Od {w:eS} {t:eY} (iR:Gf P t=some (n,ag)) {off:Nat} {E:eY} 
  (hb:w.heap[b]?=some (.cells c E fr)) {v:eT} (hv:if ag then off+n<=c.size/\v=.agg (c.extract off (off+n)) else c[off]?=some v) :
  (Instr.loadAt t (.pointer (some ⟨b,off,none⟩))).run P w=.ok v w:=by
 obtain⟨d,i,U,O,h3,h4⟩:=RI iR;simp only[Instr.loadAt,Instr.sureAddr,loadVar,Sem.run_bind,Sem.run_pure,Result.andThen_ok,Wg U,h4];cases ag;{simp only[bL,eE] at hv |-;simp[run_load,M4 hb,hv]}
 ·simp only[eF] at hv |-;obtain⟨hle,rfl⟩:=hv
  have:=run_loadCells_list (P:=P) (w:=w) ⟨b,off,none⟩ ((c.extract off (off+n)).toList) (fun j v hj=>by
   rw[HS,M4 hb];simp only[dl,Array.getElem?_extract] at hj;split at hj;·rename_i gI;exact hj
   ·cases hj)
  simp only[cY,Array.size_extract,cI] at this;rw[cu hle,dy] at this;simp only[Hf O,h3,Result.andThen_ok,Sem.run_bind,this,Sem.run_pure]
theorem M8 {w:eS} {I:Nat->Prop} {lp:Nat->fb} {L:fm} (hr:Ae w I lp L cs A) (U:A1 A) {o:Nat} 
  (h:B1 cs o n ag=some x):∃ v,(if ag then o+n<=A.length/\v=.agg ((A.drop o).take n).toArray else A[o]?=some v)/\Aj w I lp L x v:=by
 unfold B1 at h;cases ag;{simp only[bL,eE] at h |-;exact hr.get h};{simp only[eF] at h |-;obtain⟨O,h3⟩:=AK h;cases h3;exact⟨_,⟨by rw[<-hr.length];exact eR O,rfl⟩,.agg _ _ (by simpa using (U.ke o).j5 n) (by simpa using (hr.drop o).take n)⟩}
theorem Mo (c:Array eT) (i j:Nat):c.extract i j=((c.toList.drop i).take (j - i)).toArray:=by apply Array.ext';simp[Array.toList_extract,List.take_drop,List.extract]
section ops
variable {E:Type} {cx:Cx} {w0:eS} {I0 F0:Nat->Prop} {O0:Bu} {Hd:Nat->Option Obj} {R:Bl E} {e:E} {ds:List eZ} {F:Nat->Prop} {lp:Nat->fb} {fE:List eT}
variable {I:Nat->Prop} {L:Am} {V:St} {a:Act} {w:eS} {o:Oper} {out:Ai} {mF:Ak}
variable (hs:SR lp I L V a.tmps.toList fE w) (hf:Fr cx w0 I0 F0 O0 Hd R e ds I F L w)
include hs hf
theorem tn {x:eV} (ho:o.op=.move x\/o.op=.assign x) (hr:rx cx.G x=some r) :
  Bb cx w0 I0 F0 O0 Hd R e ds F lp fE o a w (apply V o.dst {v:=r.ev V.tmps}) :=
 Bi hs hf (by rcases ho with ho | ho<;>simp[execOp,ho]) (.refl w) (A9 hs hf.wd hr)
theorem op_pick {c x:eV} (ho:o.op=.pick c x y) {rc r1 r2:RX} (h0:rx cx.G c=some rc) (U:rx cx.G x=some r1) (O:rx cx.G y=some r2)
  (h:exec (o.dst.getD 0) (Aa V.fA) V.tmps (.pick rc r1 r2)=some out):Bb cx w0 I0 F0 O0 Hd R e ds F lp fE o a w (apply V o.dst out):=by
 have hc:=A9 hs hf.wd h0;have H:=A9 hs hf.wd U;have hy:=A9 hs hf.wd O;simp only[exec] at h;split at h;{rename_i hb;rw[hb] at hc;cases h;exact Bi hs hf (by simp[execOp,ho,Er hc,asBool]) (.refl w) H};{rename_i hb;rw[hb] at hc;cases h;exact Bi hs hf (by simp[execOp,ho,Er hc,asBool]) (.refl w) hy};{cases h}
theorem op_load {t:eY} {x:eV} (ho:o.op=.load t x) (iR:Gf cx.P t=some (n,ag)) (U:rx cx.G x=some r)
  (h:exec (o.dst.getD 0) (Aa V.fA) V.tmps (.load n ag r)=some out):Bb cx w0 I0 F0 O0 Hd R e ds F lp fE o a w (apply V o.dst out):=by
 have H:=A9 hs hf.wd U;simp only[exec] at h;split at h
 ·rename_i J off hr;rw[hr] at H;obtain⟨b,C,hL,hv⟩:=EK H;split at h
  case h_2=>cases h
  rename_i cs gK;obtain⟨u,hu,rfl⟩:=bB.1 h;obtain⟨p,hp,ha⟩:=hs.ob J _ gK;rw[hL] at hp;cases hp;obtain⟨c,E',hb,hC,gL,fX⟩:=ha;obtain⟨u',iS,nQ⟩:=M8 fX gL.1 hu;refine Bi hs hf (v':=u') (w':=w) ?_ (.refl w) nQ
  have:=Od (P:=cx.P) iR (off:=off) hb (v:=u') (by
   cases ag;·simpa using iS
   ·simp only[eF] at iS |-;refine⟨by simpa using iS.1,?_⟩;rw[iS.2,Mo,dy])
  simp[execOp,ho,hv,this]
 ·rename_i cs off hr;rw[hr] at H;obtain⟨b,nU,c,E',fr,hv,hI,hb,hle,gI,gL,fX⟩:=K6 H;obtain⟨u,hu,rfl⟩:=bB.1 h;obtain⟨u',iS,nQ⟩:=M8 fX gL hu;refine Bi hs hf (v':=u') (w':=w) ?_ (.refl w) (nQ.lift _);have hlen:=fX.length
  have:=Od (P:=cx.P) iR (off:=nU+off) hb (v:=u') (by
   cases ag
   ·simp only[bL,eE] at iS |-;rw[dm gI,dF] at iS;simpa using iS
   ·simp only[eF] at iS |-;obtain⟨g1,g2⟩:=iS;rw[<-hlen] at g1;refine⟨by omega,?_⟩;rw[g2,Mo,dy,cP,dk,cn,cu (by omega)])
  simp[execOp,ho,hv,this]
 ·rename_i J k i off hr;rw[hr] at H;obtain⟨b,C,hL,hv⟩:=Pg H;split at h
  case h_2=>cases h
  rename_i k' kt Z gK;split at h
  case h_2=>cases h
  rename_i el lz;obtain⟨hk,h'⟩:=AK h;clear h;have hk:k=k':=by simpa using hk
  subst hk;obtain⟨u,hu,rfl⟩:=bB.1 h';obtain⟨p,hp,ha⟩:=hs.ob J _ gK;rw[hL] at hp;cases hp;obtain⟨c,E',hb,hC,hle,kq,gL,fX⟩:=ha;have gI:=(bH.1 lz).1;have nV:=kq el (bJ lz);have l8:(i+1)*k<=Z.length*k:=cm _ gI;rw[bU,de] at l8
  have pq:Ae w I lp none el.cells ((c.toList.drop (i*k)).take k):=by
   have:=(fX.drop (i*k)).take k
   rwa [Sl kq lz,cP,cn,cu (by omega)] at this
  have hone':A1 ((c.toList.drop (i*k)).take k):=by
   have:=(gL.ke (i*k)).j5 k
   rwa [cP,cn,cu (by omega)] at this
  obtain⟨u',iS,nQ⟩:=M8 pq hone' hu;refine Bi hs hf (v':=u') (w':=w) ?_ (.refl w) (nQ.lift _);have hlen:=pq.length
  have:=Od (P:=cx.P) iR (off:=i*k+off) hb (v:=u') (by
   cases ag
   ·simp only[bL,eE] at iS |-;have oP:=(bH.1 iS).1;rw[<-hlen,nV] at oP;rw[dm oP,dF] at iS;simpa using iS
   ·simp only[eF] at iS |-;obtain⟨g1,g2⟩:=iS;rw[<-hlen,nV] at g1;refine⟨by omega,?_⟩;rw[g2,Mo,dy,cP,dk,cn,cu (by omega)])
  simp[execOp,ho,hv,this]
 {cases h}
omit hs hf in
theorem Ug {w:eS} {t:eY} (iR:Gf P t=some (n,ag)) {off:Nat} {c:Array eT} {E:eY}
  (hb:w.heap[b]?=some (.cells c E (0,0))) {v:eT} (hv:v.cells.size=n) (U:A1 v.cells.toList) (hle:off+n<=c.size) :
  (Instr.storeAt t (.pointer (some ⟨b,off,none⟩)) v).run P w=.ok () (w.setRow b (c.toList.take off++v.cells.toList++c.toList.drop (off+n)).toArray):=by
 obtain⟨d,i,g1,g2,g3,g4⟩:=RI iR;have hH:=run_storeCells_at P b off E v.cells.toList 0 c w hb (by simp[hv];omega) U;simp only[Nat.add_zero,cY,hv] at hH;simp[Instr.storeAt,Instr.sureAddr,storeVar,Hf g2,g3,hv,hH]
omit hs hf in
theorem Iw (w:eS) (b:Nat) (cs:Array eT) (h:b'≠b):(w.setRow b cs).heap[b']?=w.heap[b']?:=setRow_other w b b' cs h
omit hs hf in
theorem A1.gE {us:List eT} (h:A1 A) (h':A1 us) (o n:Nat):A1 (A.take o++us++A.drop n) :=
 ((h.j5 o).jW h').jW (h.ke n)
omit hs hf in
theorem Ae.gE {w:eS} {L:fm} {ys:fa} {us:List eT} (h:Ae w I lp L cs A) (h':Ae w I lp L ys us) (o:Nat) :
  Ae w I lp L (gE cs o ys) (A.take o++us++A.drop (o+us.length)):=by
 unfold Go.Ab.gE;rw[h'.length];exact ((h.take o).append h').append (h.drop _)
omit hs hf in
theorem RN (l u:List eT) (p N:Nat) (h:p+u.length<=N) (hN:N<=l.length) :
  (l.take p++u++l.drop (p+u.length)).take N=(l.take N).take p++u++(l.take N).drop (p+u.length):=by
 rw[ei,ei,cn,cn,cP];simp only[dn,ce];rw[cF (l:=u) (by omega),Nat.min_comm N p,show N - (min p l.length+u.length)=N - (p+u.length) from by omega]
theorem tq {t:eY} {x:eV} (ho:o.op=.store t x y) {s:RX} (iR:Gf cx.P t=some (n,ag)) (U:rx cx.G x=some r) (O:rx cx.G y=some s)
  (h:exec (o.dst.getD 0) (Aa V.fA) V.tmps (.store n r s)=some out):Bb cx w0 I0 F0 O0 Hd R e ds F lp fE o a w (apply V o.dst out):=by
 have H:=A9 hs hf.wd U;have hy:=A9 hs hf.wd O;simp only[exec] at h;split at h
 ·rename_i J off hr;rw[hr] at H;obtain⟨b,C,hL,hv⟩:=EK H;split at h
  case h_2=>cases h
  rename_i cs gK;obtain⟨hk,h⟩:=AK h;cases h;simp only[bz,eI] at hk;obtain⟨⟨k1,k2⟩,k3⟩:=hk;obtain⟨mX,nW⟩:=hy.cells k1;have iQ:(a.eval y).cells.size=n:=by have:=nW.length;simp at this;omega
  obtain⟨p,hp,ha⟩:=hs.ob J _ gK;rw[hL] at hp;cases hp;obtain⟨c,E',hb,hC,gL,fX⟩:=ha;have hlen:=fX.length;simp only[cY] at hlen;have hH:=Ug (P:=cx.P) iR hb iQ mX (off:=off) (by omega);refine MZ hs hf hL (w':=w.setRow b (c.toList.take off++(a.eval y).cells.toList++c.toList.drop (off+n)).toArray) (v':=undef) (.inr ⟨?_,rfl⟩) rfl rfl rfl (by simp) (fun b' jh=>Iw w b _ jh) ?_ (.undef _);{simp[execOp,ho,hv,hH]};{refine⟨_,E',setRow_heap w b c _ E' _ hb,?_,?_,?_⟩;{simp[iQ];omega};{exact⟨by simpa using gL.1.gE mX off (off+n),gL.2⟩};{have pR:∀ b',I b'->(w.setRow b (c.toList.take off++(a.eval y).cells.toList++c.toList.drop (off+n)).toArray).heap[b']?=w.heap[b']?:=fun b' jh=>Iw w b _ fun e=>(hf.lB J b C hL).2.2.1 (e ▸ jh);have:=Ae.mono (w':=w.setRow b (c.toList.take off++(a.eval y).cells.toList++c.toList.drop (off+n)).toArray) (fun _ h=>h) pR (fun _ _ h=>h) (fX.gE nW off);simpa[iQ] using this}}
 ·rename_i J k i off hr;rw[hr] at H;obtain⟨b,C,hL,hv⟩:=Pg H;split at h
  case h_2=>cases h
  rename_i k' kt Z gK;obtain⟨p,hp,ha⟩:=hs.ob J _ gK;rw[hL] at hp;cases hp;obtain⟨c,E',hb,hC,hle,kq,gL,fX⟩:=ha
  have key:∀ (el el':PV) (ys:fa),k=k'->Z[i]?=some el->(s.ev V.tmps).isVal=true->(s.ev V.tmps).cells.length=n->(s.ev V.tmps).names=[]->off+n<=k ->
    el'.cells=gE el.cells off (s.ev V.tmps).cells->ys=Z.set i el' ->
    Bb cx w0 I0 F0 O0 Hd R e ds F lp fE o a w (apply V o.dst {v:=.undef,gA:=some (J,.arr k kt ys)}):=by
   intro el el' ys l9 lz k1 k2 k4 k3 hcel kX;subst l9;subst kX;obtain⟨mX,nW⟩:=hy.cells k1;have hn4:Al (s.ev V.tmps).cells=[]:=by generalize s.ev V.tmps=z at k4;cases z<;>simp_all [PV.cells,Al,PV.names]
   have iQ:(a.eval y).cells.size=n:=by have:=nW.length;simp at this;omega
   have gI:=(bH.1 lz).1;have nV:=kq el (bJ lz);have l8:(i+1)*k<=Z.length*k:=cm _ gI;rw[bU,de] at l8;have hH:=Ug (P:=cx.P) iR hb iQ mX (off:=i*k+off) (by omega);have hvl:(a.eval y).cells.toList.length=n:=by simpa using iQ
   refine MZ hs hf hL (w':=w.setRow b (c.toList.take (i*k+off)++(a.eval y).cells.toList++c.toList.drop (i*k+off+n)).toArray) (v':=undef) (.inr ⟨?_,rfl⟩) rfl rfl rfl (by simp) (fun b' jh=>Iw w b _ jh) ?_ (.undef _);{simp[execOp,ho,hv,hH]}
   ·have pR:∀ b',I b'->(w.setRow b (c.toList.take (i*k+off)++(a.eval y).cells.toList++c.toList.drop (i*k+off+n)).toArray).heap[b']?=w.heap[b']?:=fun b' jh=>Iw w b _ fun e=>(hf.lB J b C hL).2.2.1 (e ▸ jh);have tr:=(fX.gE (nW.shut hn4) (i*k+off));have lC:(fL Z).length=Z.length*k:=JG kq;have hel':el'.cells.length=k:=by rw[hcel];unfold Go.Ab.gE;simp;omega
    have mc:gE (fL Z) (i*k+off) (s.ev V.tmps).cells=fL (Z.set i el'):=by
     have hd:Z.drop i=el :: Z.drop (i+1):=by
      have:=dN gI
      rwa [(bH.1 lz).2] at this
     have U:Z=Z.take i++el :: Z.drop (i+1):=by rw[<-hd,List.take_append_drop]
     have O:Z.set i el'=Z.take i++el' :: Z.drop (i+1):=by rw[List.set_eq_take_append_cons_drop,eH gI]
     have h3:(fL (Z.take i)).length=i*k:=by rw[JG fun x H=>kq x (cC H)];simp;rw[cu (by omega)]
     rw[O,JH,fL,hcel]
     conv=>lhs;rw[U]
     rw[JH,fL];unfold Go.Ab.gE;rw[show i*k+off=(fL (Z.take i)).length+off from by rw[h3],List.take_length_add_append,d8 (by omega)];rw[show (fL (Z.take i)).length+off+(s.ev V.tmps).cells.length=(fL (Z.take i)).length+(off+(s.ev V.tmps).cells.length) from by omega,List.drop_length_add_append,List.drop_append_of_le_length (by omega)];simp[cw]
    refine⟨_,E',setRow_heap w b c _ E' _ hb,?_,by simpa using hle,?_,?_,?_⟩;{simp[iQ];omega};{intro x H;rcases dG H with H | rfl;{exact kq x H};{exact hel'}};{simp only[List.length_set];have e1:=RN c.toList (a.eval y).cells.toList (i*k+off) (Z.length*k) (by omega) (by simp;omega);rw[hvl] at e1;rw[e1];exact gL.gE mX _ _};{simp only[List.length_set];have e1:=RN c.toList (a.eval y).cells.toList (i*k+off) (Z.length*k) (by omega) (by simp;omega);rw[hvl] at e1;rw[e1,<-mc];rw[hvl] at tr;exact Ae.mono (fun _ h=>h) pR (fun _ _ h=>h) tr}
  split at h;{rename_i es lz;obtain⟨hk,h'⟩:=AK h;cases h';simp only[bz,eI,eJ,bZ] at hk;obtain⟨⟨⟨⟨g1,g2⟩,g3⟩,g4⟩,g5⟩:=hk;have nV:=kq _ (bJ lz);refine key (.agg es) (.agg (gE es off (s.ev V.tmps).cells)) _ g1 lz g2 g3 ?_ ?_ rfl rfl;{generalize s.ev V.tmps=z at g5;cases z<;>simp_all [PV.cells,Al,PV.names]};{simp only[PV.cells] at nV;omega}}
  ·rename_i el lz hna;obtain⟨hk,h'⟩:=AK h;cases h';simp only[bz,eI,eJ,bZ] at hk;obtain⟨⟨⟨⟨⟨g1,g2⟩,g3⟩,g4⟩,g5⟩,g6⟩:=hk;subst g2;subst g3;subst g4;have hcz:(s.ev V.tmps).cells=[s.ev V.tmps]:=by generalize s.ev V.tmps=z at g5;cases z<;>first | rfl | (simp[PV.nh] at g5)
   have hiv:(s.ev V.tmps).isVal=true:=by generalize s.ev V.tmps=z at g5;cases z<;>first | rfl | (simp[PV.nh] at g5)
   have nV:=kq el (bJ hna);refine key el (s.ev V.tmps) _ g1 hna hiv (by rw[hcz];rfl) g6 (by omega) ?_ rfl;rw[hcz];unfold Go.Ab.gE;rw[<-g1] at nV;simp[dP (l:=el.cells) (i:=1) (by omega)]
  {cases h}
 {cases h}
end ops
end Go.Ab


namespace Go.Ab
variable{P:eX} {d j ty:Nat} {d1:e9} {dst src:eY} {f:eT->ft} {op:UnOp} {r:RX} {rs:fu} {v:eT} {x z:PV}
section ops
variable {E:Type} {cx:Cx} {w0:eS} {I0 F0:Nat->Prop} {O0:Bu} {Hd:Nat->Option Obj} {R:Bl E} {e:E} {ds:List eZ} {F:Nat->Prop} {lp:Nat->fb} {fE:List eT}
variable {I:Nat->Prop} {L:Am} {V:St} {a:Act} {w:eS} {o:Oper} {out:Ai} {mF:Ak}
theorem Ou {t:eY} (h:Fd P t=some z) {w:eS} {I:Nat->Prop} {lp:Nat->fb} {L:fm} :
  ∃ i zv,P.info? t=some i/\i.zero=some zv/\Aj w I lp L z zv:=by
 unfold Fd at h;simp only[co] at h;obtain⟨zv,⟨i,hi,hz⟩,hp⟩:=h;exact⟨i,zv,hi,hz,RS 3 zv z hp⟩
theorem Zz:∀ (n:Nat) (v:eT) (x:PV),GM n v=some x->x.isVal=true:=by
 intro n v x h;unfold GM at h
 split at h<;>first
  |(cases h;done)
  |(cases h;rfl)
  |(split at h<;>first | (cases h;done) | (obtain⟨Z,_,rfl⟩:=bB.1 h;rfl))
theorem U1 {t:eY} (h:Fd P t=some z):z.isVal=true:=by unfold Fd at h;simp only[co] at h;obtain⟨zv,_,hp⟩:=h;exact Zz 3 zv z hp
theorem aG (ih:∀ v x,f v=some x->x.names=[]):∀ (l:List eT) (Z:fa),l.mapM f=some Z->Al Z=[]:=by
 intro l;induction l with
 | nil=>intro Z H;simp at H;subst H;rfl
 | cons v l ihl =>
  intro Z H;rw[cH] at H;simp only[dE,co,dO,bC] at H;obtain⟨y,hy,ys,kX,rfl⟩:=H;simp[Al,ih v y hy,ihl ys kX]
theorem YU:∀ (n:Nat) (v:eT) (x:PV),GM n v=some x->x.names=[]:=by
 intro n;induction n with
 | zero=>intro v x h;unfold GM at h;split at h<;>first | contradiction | (cases h;done) | (cases h;rfl)
 | succ n ih =>
  intro v x h;unfold GM at h;split at h<;>first | (cases h;done) | (cases h;rfl) | skip
  rename_i m cs e;cases e;split at h
  case isFalse=>cases h
  obtain⟨Z,H,rfl⟩:=bB.1 h;simp only[PV.names];exact aG ih _ _ H
theorem Iv (w:eS) (ob:Obj):(w.alloc ob).heap[w.heap.size]?=some ob:=heap_alloc_new w ob
theorem VQ (hs:SR lp I L V a.tmps.toList fE w) (hf:Fr cx w0 I0 F0 O0 Hd R e ds I F L w) (hd:o.dst=some d) (hc:V.fA[d]?=some [])
  (hv:Aj w I lp (some L) x v) (kz:x.isVal=true) {t:eY} (hty:ty=0\/t=ty)
  (hr:(execOp a.eval o).run cx.P w=.ok (.value (.pointer (some ⟨w.heap.size,0,none⟩))) (w.alloc (.cells v.cells t))) :
  Bb cx w0 I0 F0 O0 Hd R e ds F lp fE o a w (apply V o.dst {v:=.ref (d,0) 0,new:=[.cells ty x.cells]}):=by
 obtain⟨U,O⟩:=hv.cells kz;refine Pk hs hf hd hc (.refl w) (C:=v.cells.size) hr ?_ ?_;{intro L' hL;refine⟨v.cells,t,Iv w _,rfl,⟨U,hty⟩,?_⟩;exact (Ae.mono (fun _ h=>h) (fun b hb=>fJ w _ (hf.sep.iB b hb)) (fun _ _ h=>h) O).iD hL};{intro L' hL;exact .ref (d,0) 0 _ _ hL}
theorem op_box (hs:SR lp I L V a.tmps.toList fE w) (hf:Fr cx w0 I0 F0 O0 Hd R e ds I F L w) {t:eY} {x:eV} (ho:o.op=.box t x) (U:rx cx.G x=some r)
  (hd:o.dst=some d) (hc:V.fA[d]?=some [])
  (h:exec (o.dst.getD 0) (Aa V.fA) V.tmps (.box r)=some out):Bb cx w0 I0 F0 O0 Hd R e ds F lp fE o a w (apply V o.dst out):=by
 simp only[exec] at h;obtain⟨hk,h⟩:=AK h;cases h;have:=VQ hs hf hd hc (A9 hs hf.wd U) hk (t:=t) (ty:=0) (.inl rfl) (by simp[execOp,ho,Instr.box,newVar,newRow]);simpa[hd] using this
theorem tt (hs:SR lp I L V a.tmps.toList fE w) (hf:Fr cx w0 I0 F0 O0 Hd R e ds I F L w) {t:eY} (ho:o.op=.alloc t) (hz:Fd cx.P t=some z)
  (hd:o.dst=some d) (hc:V.fA[d]?=some []) :
  Bb cx w0 I0 F0 O0 Hd R e ds F lp fE o a w (apply V o.dst {v:=.ref (d,0) 0,new:=[.cells t z.cells]}):=by
 obtain⟨i,zv,hi,pS,fX⟩:=Ou hz (w:=w) (I:=I) (lp:=lp) (L:=some L);exact VQ hs hf hd hc fX (U1 hz) (t:=t) (ty:=t) (.inr rfl) (by simp[execOp,ho,Instr.alloc,zeroValue,typeInfo,hi,pS,newVar,newRow])
theorem tu (hs:SR lp I L V a.tmps.toList fE w) (hf:Fr cx w0 I0 F0 O0 Hd R e ds I F L w) {x:eV} (ho:o.op=.nilCheck x) (U:rx cx.G x=some r)
  (h:exec (o.dst.getD 0) (Aa V.fA) V.tmps (.nilck r)=some out):Bb cx w0 I0 F0 O0 Hd R e ds F lp fE o a w (apply V o.dst out):=by
 have H:=A9 hs hf.wd U;simp only[exec] at h;split at h;{rename_i J off hr;rw[hr] at H;cases h;obtain⟨b,C,hL,hv⟩:=EK H;exact Bi hs hf (v':=a.eval x) (by simp[execOp,ho,hv]) (.refl w) H};{rename_i cs off hr;rw[hr] at H;cases h;obtain⟨b,nU,c,E',fr,hv,_⟩:=K6 H;exact Bi hs hf (v':=a.eval x) (by simp[execOp,ho,hv]) (.refl w) H};{rename_i J k i off hr;rw[hr] at H;cases h;obtain⟨b,C,hL,hv⟩:=Pg H;exact Bi hs hf (v':=a.eval x) (by simp[execOp,ho,hv]) (.refl w) H};{rename_i f cap hr;rw[hr] at H;cases h;obtain⟨us,A,hv,_,_⟩:=Jc H;exact Bi hs hf (v':=a.eval x) (by simp[execOp,ho,hv]) (.refl w) H};{rename_i d hr;rw[hr] at H;cases h;obtain⟨l,hv,_⟩:=Ys H;exact Bi hs hf (v':=a.eval x) (by rcases yv_or l with ⟨U,_⟩ | U<;>rw[U] at hv<;>simp[execOp,ho,hv]) (.refl w) H};{cases h}
theorem op_mkI (hs:SR lp I L V a.tmps.toList fE w) (hf:Fr cx w0 I0 F0 O0 Hd R e ds I F L w) {t:eY} {x:eV} (ho:o.op=.makeInterface t x) (U:rx cx.G x=some r)
  {d:e9} (hu:cx.P.underlying t=some d) (hn:∀ ms,d≠.interface ms):Bb cx w0 I0 F0 O0 Hd R e ds F lp fE o a w (apply V o.dst {v:=.iface t (r.ev V.tmps)}):=by
 refine Bi hs hf (v':=.iface t (a.eval x)) ?_ (.refl w) (.iface t _ _ (A9 hs hf.wd U));have:(Instr.makeInterface t (a.eval x)).run cx.P w=.ok (.iface t (a.eval x)) w:=by simp only[Instr.makeInterface,Sem.run_bind,run_underlying hu,Result.andThen_ok];cases d<;>first | rfl | exact eQ rfl (hn _)
 simp[execOp,ho,this]
theorem op_mkF (hs:SR lp I L V a.tmps.toList fE w) (hf:Fr cx w0 I0 F0 O0 Hd R e ds I F L w) {f k:eU} {first cap:Array eV} (ho:o.op=.makeFunc (.func f) first cap)
  (hk:En k=first.size) (hi:AG k=f) (U:Di cx.G (first.toList++cap.toList)=some rs):Bb cx w0 I0 F0 O0 Hd R e ds F lp fE o a w (apply V o.dst {v:=.fn k (rs.map (RX.ev V.tmps))}):=by
 have hr:Aj w I lp (some L) (.fn k (rs.map (RX.ev V.tmps))) (.func (.func f) (first.map a.eval) (cap.map a.eval)):=by
  have:=Aj.fn (w:=w) (I:=I) (lp:=lp) (L:=some L) k (rs.map (RX.ev V.tmps)) (first.map a.eval) (cap.map a.eval) (by simpa using hk.symm) (by simpa using Pz hs hf.wd U)
  rwa [hi] at this
 refine Bi hs hf (v':=.func (.func f) (first.map a.eval) (cap.map a.eval)) ?_ (.refl w) hr;simp[execOp,ho,Instr.makeFunc]
theorem aA (hs:SR lp I L V a.tmps.toList fE w) (hf:Fr cx w0 I0 F0 O0 Hd R e ds I F L w) {x:eV} (ho:o.op=.extract x j) (U:rx cx.G x=some r)
  (h:exec (o.dst.getD 0) (Aa V.fA) V.tmps (.extract j r)=some out):Bb cx w0 I0 F0 O0 Hd R e ds F lp fE o a w (apply V o.dst out):=by
 have H:=A9 hs hf.wd U;simp only[exec] at h;split at h
 case h_2=>cases h
 rename_i Z hr;rw[hr] at H;obtain⟨A,hv,fX⟩:=Yt H;split at h
 case h_2=>cases h
 rename_i y hy;cases h;obtain⟨u,hu,hru⟩:=fX.get hy;simp only[dl] at hu;exact Bi hs hf (v':=u) (by simp[execOp,ho,hv,Instr.extract,hu]) (.refl w) hru
theorem op_un (hs:SR lp I L V a.tmps.toList fE w) (hf:Fr cx w0 I0 F0 O0 Hd R e ds I F L w) {t:eY} {x:eV} (ho:o.op=.unOp op t x) (U:rx cx.G x=some r)
  (h:exec (o.dst.getD 0) (Aa V.fA) V.tmps (.un op r)=some out):Bb cx w0 I0 F0 O0 Hd R e ds F lp fE o a w (apply V o.dst out):=by
 have H:=A9 hs hf.wd U;simp only[exec] at h;split at h;{rename_i b hb;rw[hb] at H;cases h;exact Bi hs hf (by simp[execOp,ho,Er H,Op.unary]) (.refl w) (.bool _)};{rename_i k n hn;rw[hn] at H;cases h;exact Bi hs hf (by simp[execOp,ho,B5 H,Op.unary,Op.intArith]) (.refl w) (.int _ _)};{cases h}
theorem RQ {d2:e9} (U:P.underlying src=some d1) (O:P.underlying dst=some d2) (x:eT) (w:eS) :
  (convert src dst x).run P w=(match d1,d2,x with
   | _,.int k,.int _ n=>Conv.intToInt k n
   | _,.string,.int _ n=>Conv.intToString n
   | _,.string,.string _=>pure x
   | _,_,_=>convert src dst x).run P w:=by
 split<;>simp[convert,run_underlying U,run_underlying O]
theorem op_conv (hs:SR lp I L V a.tmps.toList fE w) (hf:Fr cx w0 I0 F0 O0 Hd R e ds I F L w) {x:eV} (ho:o.op=.convert src dst x) (U:rx cx.G x=some r)
  {k:eW} (mY:cx.P.underlying src=some d1) (ji:cx.P.underlying dst=some (.int k))
  (h:exec (o.dst.getD 0) (Aa V.fA) V.tmps (.conv k r)=some out):Bb cx w0 I0 F0 O0 Hd R e ds F lp fE o a w (apply V o.dst out):=by
 have H:=A9 hs hf.wd U;simp only[exec] at h;split at h;{rename_i k' n hn;rw[hn] at H;cases h;refine Bi hs hf ?_ (.refl w) (.int _ _);simp[execOp,ho,B5 H,RQ mY ji,Conv.intToInt]};{cases h}
theorem pT (hs:SR lp I L V a.tmps.toList fE w) (hf:Fr cx w0 I0 F0 O0 Hd R e ds I F L w) {x:eV} (ho:o.op=.convert src dst x) (U:rx cx.G x=some r)
  (mY:cx.P.underlying src=some d1) (ji:cx.P.underlying dst=some .string)
  (h:exec (o.dst.getD 0) (Aa V.fA) V.tmps (.iU r)=some out):Bb cx w0 I0 F0 O0 Hd R e ds F lp fE o a w (apply V o.dst out):=by
 have H:=A9 hs hf.wd U;simp only[exec] at h;split at h;{rename_i k' n hn;rw[hn] at H;cases h;refine Bi hs hf (v':=.string (Utf8.encode n)) ?_ (.refl w) ?_;{simp[execOp,ho,B5 H,RQ mY ji,Conv.intToString]};{have:=Aj.str (w:=w) (I:=I) (lp:=lp) (L:=some L) (Utf8.encode n).data.toList;simpa using this}};{cases h}
theorem tw (hs:SR lp I L V a.tmps.toList fE w) (hf:Fr cx w0 I0 F0 O0 Hd R e ds I F L w) {x:eV} (ho:o.op=.convert src dst x) (U:rx cx.G x=some r)
  (mY:cx.P.underlying src=some d1) (ji:cx.P.underlying dst=some .string)
  (h:exec (o.dst.getD 0) (Aa V.fA) V.tmps (.jG r)=some out):Bb cx w0 I0 F0 O0 Hd R e ds F lp fE o a w (apply V o.dst out):=by
 have H:=A9 hs hf.wd U;simp only[exec] at h;split at h;{rename_i s hH;rw[hH] at H;cases h;refine Bi hs hf (v':=a.eval x) ?_ (.refl w) H;simp[execOp,ho,B4 H,RQ mY ji]};{cases h}
end ops
end Go.Ab


namespace Go.Ab
variable{E:Type} {F:Nat->Prop} {Hd:Nat->Option Obj} {O0:Bu} {cx:Cx} {ds:List eZ} {J:Nm} {p:Option (Nat×Nat)} {v:eT} {A:List eT} {w0:eS} {x:PV} {σ:Nm->fe} {RE:Bl E} {e:E}
theorem Oi (f:Nm->Option fe) (Z:fa):(AE f Z).length=Z.length:=by
 induction Z with
 | nil=>rfl
 | cons x Z ih=>simp[AE,ih]
theorem mO (f:Nm->Option fe) (Z:fa) (i:Nat):(AE f Z)[i]?=(Z[i]?).map (PV.sub f):=by
 induction Z generalizing i with
 | nil=>simp[AE]
 | cons x Z ih=>cases i with
  | zero=>simp[AE]
  | succ i=>simp[AE,ih]
theorem MI (R:fh):∀ (σ:List fg) (J:Nm),Aa (R.foldl (fun fA J=>AM fA J AH) σ) J=if J∈R then (Aa σ J).map fun _=>AH else Aa σ J:=by
 induction R with
 | nil=>intro σ J;simp
 | cons r R ih =>
  intro σ J;simp only[cJ,ih,bE];by_cases h:J=r
  ·subst h;cases hl:Aa σ J with
   | none=>simp[(Iy AH).2 hl]
   | some ob=>rw[Ix AH hl];simp
  {simp[h,EG AH h]}
def Cs (I:Nat->Prop) (L:Am) (R:fh):Nat->Prop:=fun b=>I b\/∃ J∈R,∃ C,L J=some (some (b,C))
def DV (L:Am) (R:fh):Am:=fun J=>if J∈R then (L J).map fun _=>none else L J
section
variable {lp:Nat->fb} {I:Nat->Prop} {L:Am} {V:St} {gf fE:List eT} {w:eS} {R:fh}
theorem SR.kf (h:SR lp I L V gf fE w) (hp:L J=some p):∃ ob,Aa V.fA J=some ob/\A5 w I lp L ob p:=by
 cases hl:Aa V.fA J with
 | none=>have:=h.j6 J hl;rw[hp] at this;cases this
 | some ob =>
  obtain⟨q,hq,ha⟩:=h.ob J ob hl;rw[hp] at hq;cases hq;exact⟨ob,rfl,ha⟩
theorem Ol (hR:BJ (Aa V.fA) R=true) (hn:J∈R) {ob:Ob} (hl:Aa V.fA J=some ob):∀ m∈ob.names,m∈R:=by intro m hm;have:=bI.1 hR J hn;rw[hl] at this;simpa using bI.1 this m hm
theorem iO (h:SR lp I L V gf fE w) (hR:BJ (Aa V.fA) R=true):∀ (d:Nat) (J:Nm) (ob:Ob) (b C:Nat),J∈R->Aa V.fA J=some ob->L J=some (some (b,C)) ->
  Ud w (Cs I L R) lp b (EL (Aa V.fA) d ob):=by
 have hI:∀ b,I b->Cs I L R b:=fun b hb=>.inl hb
 have easy:∀ (f:Nm->Option fe),Dg w (Cs I L R) lp L none (·∈R) f->∀ (J:Nm) (ob:Ob) (b C:Nat),J∈R->Aa V.fA J=some ob->L J=some (some (b,C)) ->
   Ud w (Cs I L R) lp b (ob.sub f):=by
  intro f hf J ob b C hn hl hL;obtain⟨p,hp,ha⟩:=h.ob J ob hl;rw[hL] at hp;cases hp;have hb:Cs I L R b:=.inr ⟨J,hn,C,hL⟩;cases ob with
  | cells ty cs =>
   obtain⟨c,E,U,O,h3,h4⟩:=ha;have hlen:=h4.length;simp only[cY] at hlen;refine⟨hb,c,E,(0,0),U,by rw[Oi];omega,h3.1.j5 _,?_⟩;have:=Ae.subst hI hf h4 (Ol hR hn hl)
   rwa [Oi,hlen,cF (by simp)]
  | arr k kt Z =>
   obtain⟨c,E,U,O,h3,h4,h5,h6⟩:=ha;exact⟨hb,c,E,(0,0),U,by omega,h4,h5,Ae.mono hI (fun _ _=>rfl) (fun _ _ h=>h) h6⟩
  | map es=>obtain⟨gD,clock,U,O⟩:=ha;exact⟨hb,gD,clock,U,Ae.subst hI hf O (Ol hR hn hl)⟩
  | fW s p=>trivial
 intro d;induction d with
 | zero=>exact easy _ fun J p _ _=>trivial
 | succ d ih =>
  refine easy _ fun m p hm hp=>?_;obtain⟨ob,hl,ha⟩:=h.kf hp;simp only[hl,bG];cases p with
  | none=>obtain⟨k,kt,rfl⟩:=ha;exact⟨k,kt,by cases d<;>rfl⟩
  | some p=>exact ih m ob p.1 p.2 hm hl hp
theorem MO (h:SR lp I L V gf fE w) (hR:BJ (Aa V.fA) R=true) (L':fm):Dg w (Cs I L R) lp L L' (·∈R) (A3 (Aa V.fA)):=by
 intro m p hm hp;obtain⟨ob,hl,ha⟩:=h.kf hp;simp only[A3,hl,bG];cases p with
 | none=>obtain⟨k,kt,rfl⟩:=ha;exact⟨k,kt,rfl⟩
 | some p=>exact iO h hR _ m ob p.1 p.2 hm hl hp
theorem Vd (h:SR lp I L V gf fE w) (hR:BJ (Aa V.fA) R=true) (H:Aj w I lp (some L) x v) (hn:∀ J∈x.names,J∈R) :
  Aj w (Cs I L R) lp none (x.sub (A3 (Aa V.fA))) v :=
 Aj.subst (fun _ hb=>.inl hb) (MO h hR none) H hn
theorem Oj (h:SR lp I L V gf fE w) (hR:BJ (Aa V.fA) R=true) {Z:fa} (H:Ae w I lp (some L) Z A) (hn:∀ J∈Al Z,J∈R) :
  Ae w (Cs I L R) lp none (AE (A3 (Aa V.fA)) Z) A :=
 Ae.subst (fun _ hb=>.inl hb) (MO h hR none) H hn
theorem SR.freeze (h:SR lp I L V gf fE w) (hR:BJ (Aa V.fA) R=true):SR lp (Cs I L R) (DV L R) (BN (Aa V.fA) R V) gf fE w:=by
 have hs:Dg w (Cs I L R) lp L (some (DV L R)) (fun _=>True) (fun m=>if R.contains m then A3 (Aa V.fA) m else none):=by intro m p _ hp;by_cases hm:m∈R;{have:=MO h hR (some (DV L R)) m p hm hp;simpa[hm] using this};{simp[hm,DV,hp]}
 unfold BN;refine h.subst (fun _ hb=>.inl hb) (fun _ _=>rfl) hs ?_ ?_;{intro J ob hl;simp only[Cd,MI,DA] at hl;split at hl;{rename_i hm;simp only[dH,bB] at hl;obtain⟨jo,hl,rfl⟩:=hl;obtain⟨p,hp,ha⟩:=h.ob J jo hl;exact⟨none,by simp[DV,hm,hp],0,0,rfl⟩};{rename_i hm;simp only[bB] at hl;obtain⟨jo,hl,rfl⟩:=hl;obtain⟨p,hp,ha⟩:=h.ob J jo hl;exact⟨p,by simp[DV,hm,hp],ha.subst (fun _ hb=>.inl hb) (fun _ _=>rfl) hs (fun _ _=>trivial) fun _ _ _=>rfl⟩}}
 ·intro J hl;simp only[Cd,MI,DA] at hl;have:Aa V.fA J=none:=by split at hl<;>simpa using hl
  simp[DV,h.j6 J this]
theorem Fr.freeze {I0 F0:Nat->Prop} (h:Fr cx w0 I0 F0 O0 Hd RE e ds I F L w) (R:fh) :
  Fr cx w0 I0 F0 O0 Hd RE e ds (Cs I L R) F (DV L R) w:=by
 have cut:∀ J b C,DV L R J=some (some (b,C))->J ∉ R/\L J=some (some (b,C)):=by intro J b C hn;unfold DV at hn;split at hn;{simp at hn};{rename_i hm;exact⟨hm,hn⟩}
 refine h.own rfl rfl rfl (bD _) (fun _ _ _=>rfl) (fun _ hb=>.inl hb) ?_ ?_ ?_;{rintro b (hb | ⟨J,_,C,hL⟩);{exact .inl hb};{exact .inr ⟨(h.lB J b C hL).2.1,.inr ⟨J,C,hL⟩⟩}};{intro J b C hn;obtain⟨U,O⟩:=cut J b C hn;refine⟨(h.lB J b C O).2.1,?_,.inr ⟨J,C,O⟩⟩;rintro (hb | ⟨gP,ly,C',nX⟩);{exact (h.lB J b C O).2.2.1 hb};{exact U (h.inj J gP b C C' O nX ▸ ly)}};{intro J gP b C C' hn ik;exact h.inj J gP b C C' (cut J b C hn).2 (cut gP b C' ik).2}
theorem C9:∀ (d:Nat) (l:fh) (J:Nm),J∈l->J∈AA σ d l:=by
 intro d;cases d with
 | zero=>intro l J h;exact h
 | succ d=>intro l J h;exact bO _ h
end
end Go.Ab


namespace Go.Ab
variable{P:eX} {c:Array eT} {cap d k:Nat} {fs:Array Field} {ps:Array (Nat×eV)} {rest:List (Nat×eT)} {rs:List (Nat×Nat×RX)} {v:eT} {w1:eS} {z:fa}
theorem tz (off:Nat):∀ (A:List eT) (k:Nat) (cs:Array eT),off+k+A.length<=cs.size ->
  ((A.zipIdx k).foldl (fun (cs:Array eT) (x:eT×Nat)=>cs.setIfInBounds (off+x.2) x.1) cs).toList=cs.toList.take (off+k)++A++cs.toList.drop (off+k+A.length):=by
 intro A;induction A with
 | nil=>intro k cs _;simp
 | cons v A ih =>
  intro k cs h;simp only[ct] at h;simp only[dI,cJ];rw[ih (k+1) _ (by simp;omega)];have:=list_seg_step cs.toList (off+k) v A (by simp;omega);simpa[dz] using this
theorem pU (off:Nat) (A:Array eT) (cs:Array eT) (h:off+A.size<=cs.size) :
  (A.zipIdx.foldl (fun (cs:Array eT) (x:eT×Nat)=>cs.setIfInBounds (off+x.2) x.1) cs).toList=cs.toList.take off++A.toList++cs.toList.drop (off+A.size):=by
 have:=tz off A.toList 0 cs (by simpa using h);rw[<-Array.foldl_toList];simpa using this
section fill
variable {w:eS} {I:Nat->Prop} {lp:Nat->fb} {L:fm}
theorem WO {place:Nat->Option (Nat×Nat)} {cells:Array eT} {i off n:Nat} (hp:place i=some (off,n)) (U:v.cells.size=n) (O:off+n<=cells.size) :
  ∃ jY,jY.toList=cells.toList.take off++v.cells.toList++cells.toList.drop (off+n)/\Instr.fill place cells ((i,v) :: rest)=Instr.fill place jY rest:=by
 refine⟨_,?_,by simp only[Instr.fill,hp];rw[eG (by simp;omega)]⟩;have:=pU off v.cells cells (by omega);rw[U] at this;exact this
end fill
section ops
variable {E:Type} {cx:Cx} {w0:eS} {I0 F0:Nat->Prop} {O0:Bu} {Hd:Nat->Option Obj} {R:Bl E} {e:E} {ds:List eZ} {F:Nat->Prop} {lp:Nat->fb} {fE:List eT}
variable {I:Nat->Prop} {L:Am} {V:St} {a:Act} {w:eS} {o:Oper} {out:Ai} {mF:Ak}
theorem bc (hs:SR lp I L V a.tmps.toList fE w) (hw:cx.Wd I w) (place:Nat->Option (Nat×Nat)):∀ (ps:List (Nat×eV)) (rs:List (Nat×Nat×RX)) (z cs:fa) (zv:Array eT),
  KN cx.G place ps=some rs->Ae w I lp (some L) z zv.toList->A1 zv.toList->Ew V.tmps z rs=some cs ->
  ∃ cells,Instr.fill place zv (ps.map fun x=>(x.1,a.eval x.2))=some cells/\Ae w I lp (some L) cs cells.toList/\A1 cells.toList:=by
 intro ps;induction ps with
 | nil =>
  intro rs z cs zv hc hz ho hf;simp only[KN,bC] at hc;subst hc;simp only[Ew,bC] at hf;subst hf;exact⟨zv,rfl,hz,ho⟩
 | cons p ps ih =>
  obtain⟨i,x⟩:=p;intro rs z cs zv hc hz ho hf;simp only[KN] at hc;split at hc
  case h_2=>cases hc
  rename_i off n y ys hp hy kX;cases hc;simp only[Ew] at hf;obtain⟨hk,hf⟩:=AK hf;simp only[bz,eI] at hk;obtain⟨⟨k1,k2⟩,k3⟩:=hk;obtain⟨g1,g2⟩:=(A9 hs hw hy).cells k1;have iQ:(a.eval x).cells.size=n:=by have:=g2.length;simp at this;omega
  have hzl:=hz.length;simp only[cY] at hzl;obtain⟨jY,hc',hfill⟩:=WO (place:=place) (rest:=ps.map fun x=>(x.1,a.eval x.2)) hp iQ (cells:=zv) (by omega);have fX:Ae w I lp (some L) (gE z off (y.ev V.tmps).cells) jY.toList:=by rw[hc'];have:=hz.gE g2 off;simpa[iQ] using this
  have gL:A1 jY.toList:=by rw[hc'];exact ho.gE g1 off (off+n)
  obtain⟨cells,U,O,h3⟩:=ih ys _ cs jY kX fX gL hf;exact⟨cells,by simpa[hfill] using U,O,h3⟩
theorem am (fs:Array Field) (hfs:fs.all (fun f=>(P.info? f.type).isSome)=true) (w:eS) :
  (fs.mapM fun (f:Field)=>(do pure (f.offset,<-sizeOf f.type):Sem (Nat×Nat))).run P w=.ok (fs.map fun f=>(f.offset,P.cellsOf f.type)) w:=by
 have key:∀ l:List Field,(∀ f∈l,(P.info? f.type).isSome=true)->(l.mapM fun (f:Field)=>(do pure (f.offset,<-sizeOf f.type):Sem (Nat×Nat))).run P w=.ok (l.map fun f=>(f.offset,P.cellsOf f.type)) w:=by
  intro l;induction l with
  | nil=>intro _;rfl
  | cons f l ih =>
   intro h;obtain⟨i,hi⟩:=df.1 (h f (by simp));simp only[cH,Sem.run_bind,Hf hi,Result.andThen_ok,Sem.run_pure,ih fun g hg=>h g (by simp[hg]),bP];simp[Program.cellsOf,hi]
 rw[ek];simp only[Sem.run_map,key fs.toList (fun f hf=>by simpa using (Array.all_eq_true_iff_forall_mem.1 hfs) f (by simpa using hf)),Result.andThen_ok];congr 1;exact Array.ext' (by simp)
theorem tA (hs:SR lp I L V a.tmps.toList fE w) (hf:Fr cx w0 I0 F0 O0 Hd R e ds I F L w) {t:eY} (ho:o.op=.build t ps) 
  (hu:cx.P.underlying t=some (.struct fs)) (hz:Fd cx.P t=some (.agg z)) (hfs:fs.all (fun f=>(cx.P.info? f.type).isSome)=true) (hc:KN cx.G (Om cx.P fs) ps.toList=some rs)
  (h:exec (o.dst.getD 0) (Aa V.fA) V.tmps (.build z rs)=some out):Bb cx w0 I0 F0 O0 Hd R e ds F lp fE o a w (apply V o.dst out):=by
 obtain⟨i,zv,hi,pS,fX⟩:=Ou hz (w:=w) (I:=I) (lp:=lp) (L:=some L);obtain⟨zs,rfl,gL,pV⟩:=K7 fX;simp only[exec] at h;split at h
 case h_2=>cases h
 rename_i cs pr;cases h;obtain⟨cells,U,O,h3⟩:=bc hs hf.wd _ _ _ _ _ _ hc pV gL pr;refine Bi hs hf (v':=.agg cells) ?_ (.refl w) (.agg _ _ h3 O)
 have hpl:Om cx.P fs=fun j=>(fs.map fun f=>(f.offset,cx.P.cellsOf f.type))[j]?:=by
  funext j;unfold Om;rw[Array.getElem?_map];cases hj:fs[j]? with
  | none=>rfl
  | some f =>
   obtain⟨inf,hinf⟩:=df.1 ((Array.all_eq_true_iff_forall_mem.1 hfs) f (Array.mem_of_getElem? hj));simp[hinf,Program.cellsOf]
 rw[hpl] at U;have gB:(Instr.build t (ps.map fun x=>(x.1,a.eval x.2))).run cx.P w=.ok (.agg cells) w:=by simp only[Instr.build,Sem.run_bind,zeroValue,typeInfo,run_program,Result.andThen_ok,hi,Sem.run_pure,pS,run_underlying hu,am fs hfs w,Value.cells,eo,U]
 simp[execOp,ho,gB]
theorem be (k:Nat):∀ (A:List eT) (j:Nat) (cells:Array eT),(∀ v∈A,v.cells.size=k)->(j+A.length)*k<=cells.size ->
  ∃ jY,Instr.fill (fun i=>some (i*k,k)) cells ((A.zipIdx j).map fun x=>(x.2,x.1))=some jY /\
   jY.toList=cells.toList.take (j*k)++A.flatMap (fun v=>v.cells.toList)++cells.toList.drop ((j+A.length)*k):=by
 intro A;induction A with
 | nil=>intro j cells _ _;exact⟨cells,rfl,by simp⟩
 | cons v A ih =>
  intro j cells hv hle;simp only[ct] at hle;have e1:(j+(A.length+1))*k=j*k+k+A.length*k:=by rw[bU,bU];omega
  have hvk:=hv v (by simp);obtain⟨c1,oQ,jb⟩:=WO (place:=fun i=>some (i*k,k)) (cells:=cells) (i:=j) (v:=v) (rest:=(A.zipIdx (j+1)).map fun x=>(x.2,x.1)) rfl hvk (by omega);have hl:c1.toList.length=cells.size:=by rw[oQ];simp[hvk];omega
  obtain⟨c2,oR,hl2⟩:=ih (j+1) c1 (fun u hu=>hv u (by simp[hu])) (by
   have:c1.size=cells.size:=by simpa using hl
   rw[this,show j+1+A.length=j+(A.length+1) from by omega];exact hle)
  refine⟨c2,?_,?_⟩;{simp only[dI,bP,jb];exact oR}
  ·rw[hl2,oQ];have e2:(j+1)*k=j*k+k:=by rw[bU,de]
   have e3:(j+1+A.length)*k=j*k+k+A.length*k:=by rw[bU,bU];omega
   have t1:(cells.toList.take (j*k)).length=j*k:=by simp;omega
   rw[e2,e3,ct,e1];have a1:(cells.toList.take (j*k)++v.cells.toList).length=j*k+k:=by simp[hvk];omega
   rw[d8 (by omega),cF (l:=cells.toList.take (j*k)++v.cells.toList) (by omega)];rw[List.drop_append,a1,dP (l:=cells.toList.take (j*k)++v.cells.toList) (by omega),dp,dy,dk];simp[cw,dz]
theorem Zd (hs:SR lp I L V a.tmps.toList fE w) (hw:cx.Wd I w):∀ (ps:List (Nat×eV)) (j:Nat) (rs:fu),K8 cx.G j ps=some rs ->
  ∃ A,ps.map (fun x=>(x.1,a.eval x.2))=(A.zipIdx j).map (fun x=>(x.2,x.1))/\Ae w I lp (some L) (rs.map (RX.ev V.tmps)) A:=by
 intro ps;induction ps with
 | nil=>intro j rs h;simp only[K8,bC] at h;subst h;exact⟨[],rfl,.nil⟩
 | cons p ps ih =>
  obtain⟨i,x⟩:=p;intro j rs h;simp only[K8] at h;split at h
  case isFalse=>cases h
  rename_i pW;subst pW;split at h
  case h_2=>cases h
  rename_i y ys hy kX;cases h;obtain⟨A,U,O⟩:=ih (i+1) ys kX;exact⟨a.eval x :: A,by simp[U],.cons _ _ _ _ (A9 hs hw hy) O⟩
theorem R3 {w:eS} {I:Nat->Prop} {lp:Nat->fb} {L:fm}:∀ {Z:fa} {A:List eT},Ae w I lp L Z A->(Z.all fun x=>x.isVal&&x.cells.length==k)=true ->
  (∀ v∈A,v.cells.size=k)/\(∀ x∈Z,x.cells.length=k)/\A1 (A.flatMap fun v=>v.cells.toList)/\Ae w I lp L (fL Z) (A.flatMap fun v=>v.cells.toList):=by
 intro Z;induction Z with
 | nil=>intro A h _;cases h;exact⟨by simp,by simp,by simp[A1],.nil⟩
 | cons x Z ih =>
  intro A h ix;cases h with
  | cons _ v _ A h hs =>
   simp only[dA,bz,eJ] at ix;obtain⟨⟨U,O⟩,h3⟩:=ix;obtain⟨i1,i2,i3,i4⟩:=ih hs (by simpa using h3);obtain⟨c1,c2⟩:=h.cells U;have hl:=c2.length;simp only[cY] at hl;refine⟨?_,?_,?_,?_⟩;{intro u hu;rcases bE.1 hu with rfl | hu;{omega};{exact i1 u hu}};{intro u hu;rcases bE.1 hu with rfl | hu;{exact O};{exact i2 u hu}};{rw[cQ];exact c1.jW i3};{rw[cQ];exact c2.append i4}
theorem Kz {t:eY} {mZ:Nat} {z:PV} (h:Fe P t=some (k,mZ,z)) :
  ∃ e i zv,P.underlying t=some (.slice e)/\P.info? e=some i/\i.size=k/\i.bytes=mZ/\mZ<=65536/\i.zero=some zv/\z.cells.length=k/\z.isVal=true/\z.names=[] /\
   (∀ (w:eS) (I:Nat->Prop) (lp:Nat->fb) (L:fm),Aj w I lp L z zv):=by
 unfold Fe at h;split at h
 case h_2=>cases h
 rename_i e hu;split at h
 case h_2=>cases h
 rename_i i z' hi hz;split at h
 case isFalse=>cases h
 rename_i hb;cases h;have kz:=U1 hz;have hz0:=hz;unfold Fd at hz;simp only[co] at hz;obtain⟨zv,⟨j,hj,hjz⟩,hp⟩:=hz;rw[hi] at hj;cases hj;exact⟨e,i,zv,hu,hi,rfl,rfl,hb.1,hjz,hb.2,kz,YU 3 zv _ hp,fun w I lp L=>RS 3 zv _ hp⟩
theorem MN (hs:SR lp I L V a.tmps.toList fE w) (hf:Fr cx w0 I0 F0 O0 Hd R e ds I F L w) (hd:o.dst=some d) (hc:V.fA[d]?=some [])
  {kt:Nat} {Z:fa} {t:eY} (hkt:kt=0\/t=kt) (hw:JE w w1) (kY:Z.length<=cap) (iQ:cap*k<=c.size) (hk:∀ x∈Z,x.cells.length=k)
  (gL:A1 (c.toList.take (Z.length*k))) (fX:Ae w I lp none (fL Z) (c.toList.take (Z.length*k)))
  (hr:(execOp a.eval o).run cx.P w=.ok (.value (.slice (some ⟨w.heap.size,0,none⟩) Z.length cap)) (w1.alloc (.cells c t))) :
  Bb cx w0 I0 F0 O0 Hd R e ds F lp fE o a w (apply V o.dst {v:=.arr (d,0) k 0 Z.length,new:=[.arr k kt Z]}):=by
 have jU:w1.heap.size=w.heap.size:=by rw[hw.heap]
 have hle:Z.length*k<=cap*k:=cm _ kY;refine Pk hs hf hd hc hw (C:=c.size) hr ?_ ?_;{intro L' hL;refine⟨c,t,by rw[<-jU];exact Iv w1 _,rfl,⟨by omega,hkt⟩,hk,gL,?_⟩;exact Ae.mono (fun _ h=>h) (fun b hb=>by rw[fJ w1 _ (by have:=hf.sep.iB b hb;omega),hw.heap]) (fun _ _ h=>h) fX};{intro L' hL;have:=Aj.arr (w:=w1.alloc (.cells c t)) (I:=I) (lp:=lp) (L:=L') (d,0) k 0 Z.length cap w.heap.size c.size hL (by simpa using iQ) kY;simpa using this}
end ops
end Go.Ab


namespace Go.Ab
variable{P:eX} {Rn:fh} {ag:Bool} {mZ d f k len n:Nat} {fd:Field} {fs:Array Field} {i:TypeInfo} {ps:Array (Nat×eV)} {r r1 r2:RX} {rs:fu} {v:eT} {A:Array eT} {x z:PV} {y:eV}
section ops
variable {E:Type} {cx:Cx} {w0:eS} {I0 F0:Nat->Prop} {O0:Bu} {Hd:Nat->Option Obj} {R:Bl E} {e:E} {ds:List eZ} {F:Nat->Prop} {lp:Nat->fb} {fE:List eT}
variable {I:Nat->Prop} {L:Am} {V:St} {a:Act} {w:eS} {o:Oper} {out:Ai} {mF:Ak}
theorem ZU (hs:SR lp I L V a.tmps.toList fE w) (hf:Fr cx w0 I0 F0 O0 Hd R e ds I F L w) (hR:BJ (Aa V.fA) Rn=true) {o:Oper} {out:Ai} (ni:out.gv=[]) (nj:out.gA=none) (kZ:out.kill=none)
  (h:∀ (L':Am),SR lp (Cs I L Rn) L' (BN (Aa V.fA) Rn V) a.tmps.toList fE w->Fr cx w0 I0 F0 O0 Hd R e ds (Cs I L Rn) F L' w ->
   Bb cx w0 I0 F0 O0 Hd R e ds F lp fE o a w (apply (BN (Aa V.fA) Rn V) o.dst out)) (gj:Rn≠[]) :
  Bb cx w0 I0 F0 O0 Hd R e ds F lp fE o a w (apply V o.dst {out with gv:=Rn}):=by
 have hd:=h _ (hs.freeze hR) (hf.freeze Rn)
 have e1:apply V o.dst {out with gv:=Rn}=apply (BN (Aa V.fA) Rn V) o.dst out:=by
  cases Rn with
  | nil=>exact eQ rfl gj
  | cons r rs=>simp[apply,ni,nj,kZ]
 rw[e1];exact hd
theorem YT (t el:eY) (i:TypeInfo) (zv:eT) (hu:P.underlying t=some (.slice el)) (hi:P.info? el=some i) (hz:i.zero=some zv) (w:eS) (len:Nat) (parts:Array (Nat×eT)) (h:len*i.size<=16777216)
  (A:List eT) (hp:parts.toList=(A.zipIdx 0).map fun x=>(x.2,x.1)) (hl:A.length=len) (hv:∀ v∈A,v.cells.size=i.size) :
  ∃ c:Array eT,c.toList=A.flatMap (fun v=>v.cells.toList)/\(Instr.buildSlice t len parts).run P w=.ok (.slice (some ⟨w.heap.size,0,none⟩) len len) (w.alloc (.cells c el)):=by
 have go:∀ z0:Array eT,∃ c:Array eT,Instr.fill (fun j=>some (j*i.size,i.size)) ((Array.range (len*i.size)).map (z0[·%z0.size]!)) parts.toList=some c/\c.toList=A.flatMap (fun v=>v.cells.toList):=by intro z0;obtain⟨c,U,O⟩:=be i.size A 0 ((Array.range (len*i.size)).map (z0[·%z0.size]!)) hv (by simp[hl]);refine⟨c,by rw[hp];exact U,?_⟩;rw[O,Nat.zero_mul,List.take_zero,dp,dP (by simp[hl]),dv]
 by_cases h0:len*i.size=0;{obtain⟨c,U,O⟩:=go #[];refine⟨c,O,?_⟩;simp only[Instr.buildSlice,Sem.run_bind,run_underlying hu,Result.andThen_ok,Hf hi];rw[eG (by omega),eH h0];rw[Sem.run_bind,Sem.run_pure,Result.andThen_ok,U];simp[newRow]};{obtain⟨c,U,O⟩:=go zv.cells;refine⟨c,O,?_⟩;simp only[Instr.buildSlice,Sem.run_bind,run_underlying hu,Result.andThen_ok,Hf hi];rw[eG (by omega)];rw[eG h0];simp only[Sem.run_pure,Result.andThen_ok,Sem.run_bind,zeroValue,typeInfo,run_program,hi,hz];rw[U];simp[newRow]}
theorem op_mkSl (hs:SR lp I L V a.tmps.toList fE w) (hf:Fr cx w0 I0 F0 O0 Hd R e ds I F L w) {t:eY} (ho:o.op=.buildSlice t len ps) 
  (he:Fe cx.P t=some (k,mZ,z)) (hc:K8 cx.G 0 ps.toList=some rs) (hl:rs.length=len) (hle:len*k<=16777216) (hd:o.dst=some d) (iG:V.fA[d]?=some [])
  (h:exec (o.dst.getD 0) (Aa V.fA) V.tmps (.kr k rs)=some out):Bb cx w0 I0 F0 O0 Hd R e ds F lp fE o a w (apply V o.dst out):=by
 obtain⟨el,i,zv,hu,hi,l8,_,_,hz,_⟩:=Kz he;obtain⟨A,U,O⟩:=Zd hs hf.wd _ _ _ hc;have hlen:=O.length;rw[cf] at hlen;have gB:(∀ v∈A,v.cells.size=k)->∃ c:Array eT,c.toList=A.flatMap (fun v=>v.cells.toList)/\(execOp a.eval o).run cx.P w=.ok (.value (.slice (some ⟨w.heap.size,0,none⟩) len len)) (w.alloc (.cells c el)):=by intro hv;obtain⟨c,g1,g2⟩:=YT t el i zv hu hi hz w len (ps.map fun x=>(x.1,a.eval x.2)) (by rw[l8];exact hle) A (by simpa using U) (by omega) (by rw[l8];exact hv);exact⟨c,g1,by simp[execOp,ho,g2]⟩
 simp only[exec,hd,b7] at h;split at h
 ·rename_i hS;obtain⟨hk,h⟩:=AK h;cases h;obtain⟨v1,v2,v3,v4⟩:=R3 O hk;obtain⟨c,oQ,hr⟩:=gB v1;have hS:Al (rs.map (RX.ev V.tmps))=[]:=by simpa using hS
  have nY:=(R3 (O.shut hS) hk).2.2.2;have lC:=nY.length;rw[JG v2,<-oQ] at lC;have tB:(rs.map (RX.ev V.tmps)).length=len:=by simp[hl]
  rw[tB] at lC
  have:=MN hs hf hd iG (k:=k) (kt:=0) (Z:=rs.map (RX.ev V.tmps)) (c:=c) (t:=el) (.inl rfl) (cap:=len) (.refl w) (by omega) (by simp at lC;omega) v2
   (by rw[tB,lC,d9,oQ];exact v3) (by rw[tB,lC,d9,oQ];exact nY) (by rw[tB];exact hr)
  simpa[hd] using this
 ·rename_i hS;obtain⟨hk,h⟩:=AK h;cases h;simp only[bz] at hk;obtain⟨hk,hR⟩:=hk
  have gj:AA (Aa V.fA) Ax (Al (rs.map (RX.ev V.tmps)))≠[]:=by
   intro e0;cases hn:Al (rs.map (RX.ev V.tmps)) with
   | nil=>rw[hn] at hS;simp at hS
   | cons m ms =>
    have:m∈AA (Aa V.fA) Ax (Al (rs.map (RX.ev V.tmps))):=C9 Ax _ m (by rw[hn];exact bN);rw[e0] at this;cases this
  have hclo0:=Oj hs hR O fun J hn=>C9 _ _ J hn;obtain⟨v1,v2,v3,nY⟩:=R3 hclo0 hk;obtain⟨c,oQ,hr⟩:=gB v1;have lC:=nY.length;rw[JG v2,<-oQ] at lC;have tB:(AE (A3 (Aa V.fA)) (rs.map (RX.ev V.tmps))).length=len:=by simp[Oi,hl]
  rw[tB] at lC;have:=ZU hs hf hR (o:=o) (out:={v:=.arr (d,0) k 0 (AE (A3 (Aa V.fA)) (rs.map (RX.ev V.tmps))).length,new:=[.arr k 0 (AE (A3 (Aa V.fA)) (rs.map (RX.ev V.tmps)))]}) rfl rfl rfl (fun L' im gQ=>?_) gj;{simpa[hd] using this}
  ·have hcl':(BN (Aa V.fA) (AA (Aa V.fA) Ax (Al (rs.map (RX.ev V.tmps)))) V).fA[d]?=some []:=by
    have key:∀ (R:fh) (σ:List fg),σ[d]?=some []->(R.foldl (fun fA J=>AM fA J AH) σ)[d]?=some []:=by
     intro R;induction R with
     | nil=>intro σ h;exact h
     | cons r R ih =>
      intro σ h;refine ih _ ?_;show (AM σ r AH)[d]?=some [];unfold AM;split;{rename_i l hl;by_cases hrd:r.1=d;{rw[hrd] at hl;rw[h] at hl;cases hl;rw[hrd,cB (bH.1 h).1];rfl};{rw[bR hrd];exact h}};{exact h}
    refine key _ _ ?_;simp[Cd,iG]
   exact MN im gQ hd hcl' (k:=k) (kt:=0) (c:=c) (t:=el) (.inl rfl) (cap:=len) (.refl w) (by omega) (by simp at lC;omega) v2
    (by rw[tB,lC,d9,oQ];exact v3) (by rw[tB,lC,d9,oQ];exact nY) (by rw[tB];exact hr)
theorem aD (h:EA x=some n):∃ k,x=.int k (n:Int):=by unfold EA at h;split at h;{rename_i k m;split at h;{rename_i hm;cases h;exact⟨k,by rw[Int.toNat_of_nonneg hm]⟩};·cases h};{cases h}
theorem IT (H:Aj w I lp (some L) x v) (h:EA x=some n):∃ k,v=.int k (n:Int):=by obtain⟨k,hk⟩:=aD h;rw[hk] at H;exact⟨k,B5 H⟩
theorem Y0 {w:eS} {I:Nat->Prop} {lp:Nat->fb} {L:fm} {zs:List eT} (h:Ae w I lp L z.cells zs) (l:Nat) :
  Ae w I lp L (fL (List.replicate l z)) (List.replicate l zs).flatten:=by
 induction l with
 | zero=>exact .nil
 | succ l ih=>rw[List.replicate_succ,List.replicate_succ,fL,List.flatten_cons];exact h.append ih
theorem op_mkS (hs:SR lp I L V a.tmps.toList fE w) (hf:Fr cx w0 I0 F0 O0 Hd R e ds I F L w) {t:eY} {x:eV} (ho:o.op=.makeSlice t x y) 
  (he:Fe cx.P t=some (k,mZ,z)) (U:rx cx.G x=some r1) (O:rx cx.G y=some r2) (hd:o.dst=some d) (iG:V.fA[d]?=some [])
  (h:exec (o.dst.getD 0) (Aa V.fA) V.tmps (.po k z r1 r2)=some out):Bb cx w0 I0 F0 O0 Hd R e ds F lp fE o a w (apply V o.dst out):=by
 obtain⟨el,i,zv,hu,hi,l8,hby,hb6,hz,hzk,hzv,hzn,pV⟩:=Kz he;have H:=A9 hs hf.wd U;have hy:=A9 hs hf.wd O;simp only[exec,hd,b7] at h;split at h
 case h_2=>cases h
 rename_i l c hl hc;obtain⟨hk,h⟩:=AK h;cases h;simp only[bz,eI,eJ] at hk;obtain⟨⟨lC,hcm⟩,_⟩:=hk;unfold Et at hcm;obtain⟨k1,gS⟩:=IT H hl;obtain⟨k2,ka⟩:=IT hy hc
 have hmul:i.bytes*c<=140737488355328:=calc i.bytes*c<=65536*2147483648:=Nat.mul_le_mul (by omega) hcm
  _=140737488355328:=by decide
 have hmulI:(i.bytes:Int)*(c:Int)<=140737488355328:=by
  have:((i.bytes*c:Nat):Int)<=((140737488355328:Nat):Int):=Int.ofNat_le.2 hmul
  rwa [Int.natCast_mul] at this
 have gB:=run_make (P:=cx.P) w t el i zv hu hi hz k1 k2 (l:Int) (c:Int) (by omega) (by omega) (by omega) (by omega);simp only[Int.toNat_natCast] at gB;obtain⟨pS,hz2⟩:=(pV w I lp none).cells hzv;have tC:zv.cells.size=k:=by have:=hz2.length;simp at this;omega
 have hmk:∀ n,n<=c->(madeCells zv.cells (c*k)).toList.take (n*k)=(List.replicate n zv.cells.toList).flatten:=by
  intro n hn;apply cj;intro j;by_cases hj:j < n*k
  ·have hk0:0 < k:=Nat.pos_of_ne_zero fun h0=>by simp[h0] at hj
   have hjc:j < c*k:=cG hj (cm _ hn);rw[dm hj];have hmod:j%k < k:=Nat.mod_lt _ hk0
   have key:∀ (n j:Nat),j < n*k->(List.replicate n zv.cells.toList).flatten[j]?=zv.cells.toList[j%k]?:=by
    intro n;induction n with
    | zero=>intro j hj;simp at hj
    | succ n ih =>
     intro j hj;rw[List.replicate_succ,List.flatten_cons];by_cases hjk:j < k;{rw[ck (by simp[tC,hjk]),Nat.mod_eq_of_lt hjk]};{rw[cD (by simp[tC];omega)];simp only[cY,tC];rw[bU,de] at hj;rw[ih (j - k) (by omega),<-Nat.mod_eq_sub_mod (by omega)]}
   rw[key n j hj];simp[madeCells,hjc,tC,hmod]
  {rw[cg (by simp;omega),cg (by simp[tC];omega)]}
 have hclen:∀ x∈List.replicate l z,x.cells.length=k:=fun x H=>by rw[dQ H];exact hzk
 have gL:A1 (List.replicate l zv.cells.toList).flatten:=by intro v hv;obtain⟨u,mY,ji⟩:=List.mem_flatten.1 hv;rw[dQ mY] at ji;exact pS v ji
 have fX:=Y0 hz2 l
 have:=MN hs hf hd iG (k:=k) (kt:=0) (Z:=List.replicate l z) (c:=madeCells zv.cells (c*k)) (t:=el) (.inl rfl) (cap:=c) (.refl w) (by simpa using lC) (by simp[madeCells]) hclen
  (by rw[dR,hmk l lC];exact gL) (by rw[dR,hmk l lC];exact fX)
  (by simp[execOp,ho,gS,ka,gB,l8])
 simpa[hd] using this
theorem tD (hs:SR lp I L V a.tmps.toList fE w) (hf:Fr cx w0 I0 F0 O0 Hd R e ds I F L w) {t:eY} (ho:o.op=.makeMap t none) (hd:o.dst=some d) (iG:V.fA[d]?=some []) :
  Bb cx w0 I0 F0 O0 Hd R e ds F lp fE o a w (apply V o.dst {v:=.mp (d,0),new:=[.map []]}):=by
 refine Pk hs hf hd iG (.refl w) (C:=0) (v':=.map (some w.heap.size)) (obj:=.map #[] 0) ?_ ?_ ?_;{have:(Instr.makeMap t none).run cx.P w=.ok (.map (some w.heap.size)) (w.alloc (.map #[] 0)):=rfl;simp[execOp,ho,this]};{intro L' hL;exact⟨#[],0,Iv w _,.nil⟩};{intro L' hL;exact .mp _ _ _ hL}
theorem Y7 (hs:SR lp I L V a.tmps.toList fE w) (hf:Fr cx w0 I0 F0 O0 Hd R e ds I F L w) {t:eY} {x:eV} (ho:o.op=.fieldAddr t x f) 
  (hu:cx.P.underlying t=some (.struct fs)) (hfd:fs[f]?=some fd) (hi:cx.P.info? fd.type=some i) (hz:i.size≠0) (U:rx cx.G x=some r)
  (h:exec (o.dst.getD 0) (Aa V.fA) V.tmps (.fieldAddr fd.offset r)=some out):Bb cx w0 I0 F0 O0 Hd R e ds F lp fE o a w (apply V o.dst out):=by
 have H:=A9 hs hf.wd U;have gB:∀ b off,a.eval x=.pointer (some ⟨b,off,none⟩)->(execOp a.eval o).run cx.P w=.ok (.value (.pointer (some ⟨b,off+fd.offset,none⟩))) w:=by intro b off hv;simp[execOp,ho,hv,Instr.fieldAt,run_underlying hu,hfd,Instr.sureAddr,fieldPlace,Hf hi,hz,HS]
 simp only[exec] at h;split at h;{rename_i J off hr;rw[hr] at H;cases h;obtain⟨b,C,hL,hv⟩:=EK H;exact Bi hs hf (gB b off hv) (.refl w) (.ref J _ b C hL)}
 ·rename_i cs off hr;rw[hr] at H;obtain⟨hk,h⟩:=AK h;cases h;obtain⟨b,nU,c,E',fr,hv,g1,g2,g3,g4,g5,g6⟩:=K6 H;have:=Aj.ptr (w:=w) (I:=I) (lp:=lp) (L:=some L) cs (off+fd.offset) b nU c E' fr g1 g2 g3 (eR hk) g5 g6;refine Bi hs hf (gB b _ hv) (.refl w) ?_
  rwa [dz]
 {rename_i J k j off hr;rw[hr] at H;cases h;obtain⟨b,C,hL,hv⟩:=Pg H;refine Bi hs hf (gB b _ hv) (.refl w) ?_;rw[dz];exact .fO J k j _ b C hL};{cases h}
theorem tE {w:eS} {t:eY} (iR:Gf P t=some (n,ag)) {off:Nat} 
  (hv:if ag then off+n<=A.toList.length/\v=.agg ((A.toList.drop off).take n).toArray else A.toList[off]?=some v):(part t A off).run P w=.ok v w:=by
 obtain⟨d,i,U,O,h3,h4⟩:=RI iR;simp only[part,Sem.run_bind,Wg U,Result.andThen_ok,h4];cases ag;{simp only[bL,eE,dl] at hv |-;simp[hv]};{simp only[eF] at hv |-;obtain⟨_,rfl⟩:=hv;simp[Hf O,h3,Mo]}
theorem tF (hs:SR lp I L V a.tmps.toList fE w) (hf:Fr cx w0 I0 F0 O0 Hd R e ds I F L w) {t:eY} {x:eV} (ho:o.op=.field t x f) 
  (hu:cx.P.underlying t=some (.struct fs)) (hfd:fs[f]?=some fd) (iR:Gf cx.P fd.type=some (n,ag)) (U:rx cx.G x=some r)
  (h:exec (o.dst.getD 0) (Aa V.fA) V.tmps (.field fd.offset n ag r)=some out):Bb cx w0 I0 F0 O0 Hd R e ds F lp fE o a w (apply V o.dst out):=by
 have H:=A9 hs hf.wd U;simp only[exec] at h;split at h
 case h_2=>cases h
 rename_i cs hr;rw[hr] at H;obtain⟨A,hv,gL,fX⟩:=K7 H;obtain⟨u,iS,rfl⟩:=bB.1 h;obtain⟨v',hv',nQ⟩:=M8 fX gL iS;refine Bi hs hf (v':=v') ?_ (.refl w) nQ;simp[execOp,ho,hv,Instr.field,run_underlying hu,hfd,asAgg,tE iR hv']
theorem UJ {t el:eY} (hu:P.underlying t=some (.slice el)) (hi:P.info? el=some i) (w:eS) (b off len cap:Nat) (k:eW) (j:Nat) (hj:j < len) :
  (Instr.indexAt t (.slice (some ⟨b,off,none⟩) len cap) (.int k (j:Int))).run P w=.ok (.pointer (some ⟨b,off+j*i.size,none⟩)) w:=by
 have O:(0:Int)<=(j:Int)/\(j:Int) < (len:Int):=⟨by omega,by omega⟩;simp[Instr.indexAt,asIntOf,run_underlying hu,O,Hf hi,HS];intro h;omega
theorem az (hs:SR lp I L V a.tmps.toList fE w) (hf:Fr cx w0 I0 F0 O0 Hd R e ds I F L w) {t:eY} {x:eV} (ho:o.op=.indexAddr t x y) 
  (he:Fe cx.P t=some (k,mZ,z)) (U:rx cx.G x=some r1) (O:rx cx.G y=some r2)
  (h:exec (o.dst.getD 0) (Aa V.fA) V.tmps (.ic k r1 r2)=some out):Bb cx w0 I0 F0 O0 Hd R e ds F lp fE o a w (apply V o.dst out):=by
 obtain⟨el,i,zv,hu,hi,l8,_⟩:=Kz he;have H:=A9 hs hf.wd U;have hy:=A9 hs hf.wd O;simp only[exec] at h;split at h
 ·rename_i j k' Z full hj hr;rw[hr] at H;obtain⟨kk,hky⟩:=IT hy hj;split at h
  case h_2=>cases h
  rename_i ev fG;obtain⟨hk,h⟩:=AK h;cases h;simp only[bz,eJ,eI] at hk;obtain⟨rfl,hk0⟩:=hk;have gI:=(bH.1 fG).1;rcases Hy H with ⟨b,off,cap,c,E',fr,hv,g1,g2,g3,g4,g5,g6,g7,g8⟩ | ⟨rfl,_⟩
  ·have gB:=UJ (P:=cx.P) hu hi w b off Z.length cap kk j gI;rw[l8] at gB;have kq:=g4 ev (bJ fG);have hmul:(j+1)*k<=Z.length*k:=cm _ gI;rw[bU,de] at hmul;have e1:(((c.toList.drop off).take (Z.length*k)).drop (j*k)).take k=(c.toList.drop (off+j*k)).take k:=by rw[cP,cn,dk,cu (by omega)]
   have:=Aj.ptr (w:=w) (I:=I) (lp:=lp) (L:=some L) ev.cells 0 b (off+j*k) c E' fr g1 g2 (by omega) (by omega) (by rw[kq,<-e1];exact (g7.ke _).j5 _)
    (by rw[kq,<-e1,<-Sl g4 fG];exact (g8.drop _).take _)
   exact Bi hs hf (v':=.pointer (some ⟨b,off+j*k,none⟩)) (by simp[execOp,ho,hv,hky,gB]) (.refl w) (by simpa using this)
  {simp at fG}
 ·rename_i j J k' off n hj hr;rw[hr] at H;obtain⟨kk,hky⟩:=IT hy hj;obtain⟨hk,h⟩:=AK h;cases h;simp only[bz,eJ,eI] at hk;obtain⟨rfl,hjn⟩:=hk;rcases Gi H with ⟨b,C,cap,hL,hv,_,_⟩ | ⟨_,_,_,hn0⟩
  {have gB:=UJ (P:=cx.P) hu hi w b (off*k) n cap kk j hjn;rw[l8] at gB;have:=Aj.fO (w:=w) (I:=I) (lp:=lp) J k (off+j) 0 b C hL;refine Bi hs hf (v':=.pointer (some ⟨b,off*k+j*k,none⟩)) (by simp[execOp,ho,hv,hky,gB]) (.refl w) ?_;rw[bU] at this;exact this};{omega}
 {cases h}
theorem pX (hs:SR lp I L V a.tmps.toList fE w) (hf:Fr cx w0 I0 F0 O0 Hd R e ds I F L w) {t:eY} {x:eV} (ho:o.op=.index t x y) 
  (hu:cx.P.underlying t=some .string) (U:rx cx.G x=some r1) (O:rx cx.G y=some r2)
  (h:exec (o.dst.getD 0) (Aa V.fA) V.tmps (.iV r1 r2)=some out):Bb cx w0 I0 F0 O0 Hd R e ds F lp fE o a w (apply V o.dst out):=by
 have H:=A9 hs hf.wd U;have hy:=A9 hs hf.wd O;simp only[exec] at h;split at h
 case h_2=>cases h
 rename_i j s hj hr;rw[hr] at H;obtain⟨kk,hky⟩:=IT hy hj;split at h
 case h_2=>cases h
 rename_i b hb;cases h;have jh:(⟨s.toArray⟩:ByteArray)[j]?=some b:=by obtain⟨U,O⟩:=bH.1 hb;have iQ:j < (⟨s.toArray⟩:ByteArray).size:=U;rw[getElem?_pos (⟨s.toArray⟩:ByteArray) j iQ];exact eM some O
 refine Bi hs hf (v':=.int .u8 b.toNat) ?_ (.refl w) (.int _ _);simp[execOp,ho,B4 H,hky,Instr.index,asIntOf,run_underlying hu,jh]
end ops
end Go.Ab


namespace Go.Ab
variable{P:eX} {el:eY} {hi lo xo:Option eV} {i:TypeInfo} {n:Nat} {r rh rl:fz} {x:eV} {z:PV}
section ops
variable {E:Type} {cx:Cx} {w0:eS} {I0 F0:Nat->Prop} {O0:Bu} {Hd:Nat->Option Obj} {R:Bl E} {e:E} {ds:List eZ} {F:Nat->Prop} {lp:Nat->fb} {fE:List eT}
variable {I:Nat->Prop} {L:Am} {V:St} {a:Act} {w:eS} {o:Oper} {out:Ai} {mF:Ak}
theorem ZC (hs:SR lp I L V a.tmps.toList fE w) (hf:Fr cx w0 I0 F0 O0 Hd R e ds I F L w) {t:eY} {y:eV} (ho:o.op=.indexAddr t x y) {r1 r2:RX}
  (hu:cx.P.underlying t=some (.array n el)) (hi:cx.P.info? el=some i) (U:rx cx.G x=some r1) (O:rx cx.G y=some r2)
  (h:exec (o.dst.getD 0) (Aa V.fA) V.tmps (.hJ i.size n r1 r2)=some out):Bb cx w0 I0 F0 O0 Hd R e ds F lp fE o a w (apply V o.dst out):=by
 have H:=A9 hs hf.wd U;have hy:=A9 hs hf.wd O
 have gB:∀ (b off j:Nat) (kk:eW),a.eval x=.pointer (some ⟨b,off,none⟩)->a.eval y=.int kk (j:Int)->j < n ->
   (execOp a.eval o).run cx.P w=.ok (.value (.pointer (some ⟨b,off+j*i.size,none⟩))) w:=by
  intro b off j kk hv hk hj;have O:(0:Int)<=(j:Int)/\(j:Int) < (n:Int):=⟨by omega,by omega⟩;simp[execOp,ho,hv,hk,Instr.indexAt,asIntOf,run_underlying hu,Instr.sureAddr,O,Hf hi,HS];intro h;omega
 simp only[exec] at h;split at h
 ·rename_i j cs off hj hr;rw[hr] at H;obtain⟨kk,hky⟩:=IT hy hj;obtain⟨hk,h⟩:=AK h;cases h;simp only[bz,eI] at hk;obtain⟨b,nU,c,E',fr,hv,g1,g2,g3,g4,g5,g6⟩:=K6 H;have:=Aj.ptr (w:=w) (I:=I) (lp:=lp) (L:=some L) cs (off+j*i.size) b nU c E' fr g1 g2 g3 hk.2 g5 g6;refine Bi hs hf (gB b _ j kk hv hky hk.1) (.refl w) ?_
  rwa [dz]
 {rename_i j J off hj hr;rw[hr] at H;obtain⟨kk,hky⟩:=IT hy hj;obtain⟨hk,h⟩:=AK h;cases h;obtain⟨b,C,hL,hv⟩:=EK H;exact Bi hs hf (gB b _ j kk hv hky (eR hk)) (.refl w) (.ref J _ b C hL)};{cases h}
theorem HK (w:eS) (k:eW) (n y:Nat) (code:BoundsCode) (h:n<=y):(Instr.sliceBound (.int k (n:Int)) y code).run P w=.ok n w:=by have:(0:Int)<=(n:Int)/\(n:Int)<=(y:Int):=⟨by omega,by omega⟩;simp[Instr.sliceBound,asIntOf,this]
theorem IG (hs:SR lp I L V a.tmps.toList fE w) (hw:cx.Wd I w) (hr:sE cx.G xo=some r) {d top:Nat} (h:Df (Ci V.tmps r) d top=some n) :
  (xo=none/\r=none/\n=d)\/(∃ x k rx',xo=some x/\r=some rx'/\a.eval x=.int k (n:Int)/\n<=top):=by
 cases xo with
 | none =>
  simp only[sE,bC] at hr;subst hr;simp only[Df,Ci,bC] at h;exact .inl ⟨rfl,rfl,h.symm⟩
 | some x =>
  simp only[sE,bB] at hr;obtain⟨y,hy,rfl⟩:=hr;simp only[Df,Ci] at h;split at h;{rename_i m hm;obtain⟨hk,h⟩:=AK h;cases h;obtain⟨k,lf⟩:=IT (A9 hs hw hy) hm;exact .inr ⟨x,k,y,rfl,rfl,lf,eR hk⟩};{cases h}
theorem JF (w:eS) (isS:Bool) (len cap:Nat) (ev:eV->eT) (lo hi mx:Option eV) (l h m:Nat)
  (hm:(mx=none/\m=cap)\/(∃ x k,mx=some x/\ev x=.int k (m:Int)/\m<=cap))
  (hh:(hi=none/\mx=none/\h=len)\/(∃ x k,hi=some x/\ev x=.int k (h:Int)/\h<=m))
  (hl:(lo=none/\l=0)\/(∃ x k,lo=some x/\ev x=.int k (l:Int)/\l<=h)) :
  (Instr.sliceBounds isS len cap (lo.map ev) (hi.map ev) (mx.map ev)).run P w=.ok (l,h,m) w:=by
 unfold Instr.sliceBounds;rcases hm with ⟨rfl,rfl⟩ | ⟨xm,km,rfl,hxm,hmc⟩
 ·rcases hh with ⟨rfl,_,rfl⟩ | ⟨xh,kh,rfl,hxh,hhm⟩
  {rcases hl with ⟨rfl,rfl⟩ | ⟨xl,kl,rfl,hxl,hlh⟩;{simp};{simp[hxl,HK w kl l _ _ hlh]}};{rcases hl with ⟨rfl,rfl⟩ | ⟨xl,kl,rfl,hxl,hlh⟩;{simp[hxh,HK w kh h _ _ hhm]};{simp[hxh,HK w kh h _ _ hhm,hxl,HK w kl l _ _ hlh]}}
 ·rcases hh with ⟨rfl,hn,rfl⟩ | ⟨xh,kh,rfl,hxh,hhm⟩;·cases hn
  {rcases hl with ⟨rfl,rfl⟩ | ⟨xl,kl,rfl,hxl,hlh⟩;{simp[hxm,HK w km m _ _ hmc,hxh,HK w kh h _ _ hhm]};{simp[hxm,HK w km m _ _ hmc,hxh,HK w kh h _ _ hhm,hxl,HK w kl l _ _ hlh]}}
theorem Mw {t:eY} (hu:P.underlying t=some (.slice el)) (hi:P.info? el=some i) (w:eS) (ad:Option Addr) (len cap:Nat) (ev:eV->eT) (lo tG mx:Option eV) (l h m:Nat)
  (hb:(Instr.sliceBounds true len cap (lo.map ev) (tG.map ev) (mx.map ev)).run P w=.ok (l,h,m) w) :
  (Instr.sliceAt t (.slice ad len cap) (lo.map ev) (tG.map ev) (mx.map ev)).run P w=.ok (.slice (if m=l then ad else ad.map (·.add (l*i.size))) (h - l) (m - l)) w:=by
 simp[Instr.sliceAt,Instr.slice,run_underlying hu,hb,Hf hi]
theorem tH (hs:SR lp I L V a.tmps.toList fE w) (hf:Fr cx w0 I0 F0 O0 Hd R e ds I F L w) {t:eY} {mx:Option eV} (ho:o.op=.slice t x lo hi mx) {k mZ:Nat} {r:RX} {rm:fz}
  (he:Fe cx.P t=some (k,mZ,z)) (U:rx cx.G x=some r) (hl:sE cx.G lo=some rl) (hh:sE cx.G hi=some rh) (hm:sE cx.G mx=some rm)
  (h:exec (o.dst.getD 0) (Aa V.fA) V.tmps (.slice k r rl rh rm)=some out):Bb cx w0 I0 F0 O0 Hd R e ds F lp fE o a w (apply V o.dst out):=by
 obtain⟨el,i,zv,hu,tG,l8,_⟩:=Kz he;have H:=A9 hs hf.wd U;simp only[exec] at h;obtain⟨u,iS,rfl⟩:=bB.1 h;clear h
 have tI:∀ {len cap mA hA lA:Nat},len<=cap->Df (Ci V.tmps rm) len len=some mA->Df (Ci V.tmps rh) len mA=some hA->Df (Ci V.tmps rl) 0 hA=some lA ->
   ((Ci V.tmps rm).isNone||(Ci V.tmps rh).isSome)=true ->
   ∃ m,(Instr.sliceBounds true len cap (lo.map a.eval) (hi.map a.eval) (mx.map a.eval)).run cx.P w=.ok (lA,hA,m) w/\m<=cap/\hA<=m/\lA<=hA/\hA<=len/\(rm=none->m=cap)/\(rm≠none->m=mA):=by
  intro len cap mA hA lA lC b1 b2 b3 b4;rcases IG hs hf.wd hm b1 with ⟨e1,e2,e3⟩ | ⟨xm,km,rm',e1,e2,e3,e4⟩
  ·subst e1;subst e2;subst e3;rcases IG hs hf.wd hh b2 with ⟨f1,f2,f3⟩ | ⟨xh,kh,rh',f1,f2,f3,f4⟩
   ·subst f1;subst f3;rcases IG hs hf.wd hl b3 with ⟨g1,g2,g3⟩ | ⟨xl,kl,rl',g1,g2,g3,g4⟩
    {subst g1;subst g3;exact⟨cap,JF w true hA cap a.eval none none none 0 hA cap (.inl ⟨rfl,rfl⟩) (.inl ⟨rfl,rfl,rfl⟩) (.inl ⟨rfl,rfl⟩),bD _,lC,by omega,bD _,fun _=>rfl,fun h=>eQ rfl h⟩};{subst g1;exact⟨cap,JF w true hA cap a.eval (some xl) none none lA hA cap (.inl ⟨rfl,rfl⟩) (.inl ⟨rfl,rfl,rfl⟩) (.inr ⟨xl,kl,rfl,g3,g4⟩),bD _,lC,g4,bD _,fun _=>rfl,fun h=>eQ rfl h⟩}
   ·subst f1;rcases IG hs hf.wd hl b3 with ⟨g1,g2,g3⟩ | ⟨xl,kl,rl',g1,g2,g3,g4⟩
    {subst g1;subst g3;exact⟨cap,JF w true mA cap a.eval none (some xh) none 0 hA cap (.inl ⟨rfl,rfl⟩) (.inr ⟨xh,kh,rfl,f3,by omega⟩) (.inl ⟨rfl,rfl⟩),bD _,by omega,by omega,f4,fun _=>rfl,fun h=>eQ rfl h⟩};{subst g1;exact⟨cap,JF w true mA cap a.eval (some xl) (some xh) none lA hA cap (.inl ⟨rfl,rfl⟩) (.inr ⟨xh,kh,rfl,f3,by omega⟩) (.inr ⟨xl,kl,rfl,g3,g4⟩),bD _,by omega,g4,f4,fun _=>rfl,fun h=>eQ rfl h⟩}
  ·subst e1;subst e2;rcases IG hs hf.wd hh b2 with ⟨f1,f2,f3⟩ | ⟨xh,kh,rh',f1,f2,f3,f4⟩;{subst f2;simp[Ci] at b4}
   ·subst f1;rcases IG hs hf.wd hl b3 with ⟨g1,g2,g3⟩ | ⟨xl,kl,rl',g1,g2,g3,g4⟩
    {subst g1;subst g3;exact⟨mA,JF w true len cap a.eval none (some xh) (some xm) 0 hA mA (.inr ⟨xm,km,rfl,e3,by omega⟩) (.inr ⟨xh,kh,rfl,f3,f4⟩) (.inl ⟨rfl,rfl⟩),by omega,f4,by omega,by omega,fun h=>(by cases h),fun _=>rfl⟩};{subst g1;exact⟨mA,JF w true len cap a.eval (some xl) (some xh) (some xm) lA hA mA (.inr ⟨xm,km,rfl,e3,by omega⟩) (.inr ⟨xh,kh,rfl,f3,f4⟩) (.inr ⟨xl,kl,rfl,g3,g4⟩),by omega,f4,g4,by omega,fun h=>(by cases h),fun _=>rfl⟩}
 have isn:(Ci V.tmps rm).isNone=rm.isNone:=by cases rm<;>rfl
 have iss:(Ci V.tmps rm).isSome=rm.isSome:=by cases rm<;>rfl
 unfold HV at iS;split at iS
 ·rename_i k' Z full hr;rw[hr] at H;split at iS;·cases iS
  rename_i mA b1;split at iS;·cases iS
  rename_i hA b2;split at iS;·cases iS
  rename_i lA b3;obtain⟨hk,ji⟩:=AK iS;clear iS;simp only[bz,eJ] at hk;obtain⟨rfl,b4⟩:=hk;cases ji;rcases Hy H with ⟨b,off,cap,c,E',fr,hv,g1,g2,g3,g4,g5,g6,g7,g8⟩ | ⟨rfl,ad,cap,hv,g6⟩
  ·obtain⟨m,gB,m1,m2,m3,m4,m5,m6⟩:=tI g5 b1 b2 b3 b4;have j7:=Mw (P:=cx.P) hu tG w (some ⟨b,off,none⟩) Z.length cap a.eval lo hi mx lA hA m gB;rw[l8] at j7
   have hfull:(if (Ci V.tmps rm).isSome=true then mA==hA else full&&hA==Z.length)=true->m=hA:=by
    intro hq;rw[iss] at hq;cases hrm:rm with
    | none =>
     rw[hrm] at hq;simp only[ep,bL,eE,bz,eJ] at hq;have:=m5 hrm;have:=g6 hq.1;omega
    | some y =>
     rw[hrm] at hq;simp only[Option.isSome_some,eF,eJ] at hq;have:=m6 (by rw[hrm];simp);omega
   by_cases hlh:hA=lA
   ·have mP:(Z.take hA).drop lA=[]:=by rw[hlh];exact eu (by simp;omega)
    refine Bi hs hf (v':=.slice (if m=lA then some ⟨b,off,none⟩ else (some (⟨b,off,none⟩:Addr)).map (·.add (lA*k))) (hA - lA) (m - lA)) (by simp[execOp,ho,hv,j7]) (.refl w) ?_;rw[mP,show hA - lA=0 from by omega];exact .lx k _ _ _ fun hq=>by have:=hfull hq;omega
   ·have sF:¬ m=lA:=by omega
    refine Bi hs hf (v':=.slice (some ⟨b,off+lA*k,none⟩) (hA - lA) (m - lA)) (by simp[execOp,ho,hv,j7,sF,HS]) (.refl w) ?_;have hlen:((Z.take hA).drop lA).length=hA - lA:=by simp;omega
    have hmul:hA*k<=Z.length*k:=cm _ m4;have tr:hA*k=lA*k+(hA - lA)*k:=by rw[<-bU];congr 1;omega
    have jq:∀ y∈(Z.take hA).drop lA,y.cells.length=k:=fun y hy=>g4 y (cC (cO hy));have e1:((((c.toList.drop off).take (Z.length*k)).take (hA*k)).drop (lA*k))=(c.toList.drop (off+lA*k)).take ((hA - lA)*k):=by rw[cn,cu hmul,cP,dk,show hA*k - lA*k=(hA - lA)*k from by omega]
    have:=Aj.sl (w:=w) (I:=I) (lp:=lp) (L:=some L) k ((Z.take hA).drop lA) (if (Ci V.tmps rm).isSome=true then mA==hA else full&&hA==Z.length) b (off+lA*k) (m - lA) c E' fr g1 g2
     (by rw[hlen];omega) jq (by rw[hlen];omega) (fun hq=>by rw[hlen];have:=hfull hq;omega) (by rw[hlen,<-e1];exact (g7.j5 _).ke _)
     (by rw[hlen,<-e1,KA (fun y hy=>g4 y (cC hy)),IB g4];exact (g8.take _).drop _)
    rwa [hlen] at this
  ·obtain⟨m,gB,m1,m2,m3,m4,m5,m6⟩:=tI (len:=0) (cap:=cap) (by omega) b1 b2 b3 b4;have j7:=Mw (P:=cx.P) hu tG w ad 0 cap a.eval lo hi mx lA hA m gB;have hA0:hA=0:=by simpa using m4
   have lQ:lA=0:=by omega
   refine Bi hs hf (v':=.slice (if m=lA then ad else ad.map (·.add (lA*i.size))) (hA - lA) (m - lA)) (by simp[execOp,ho,hv,j7]) (.refl w) ?_;subst hA0;subst lQ;have mP:((([]:fa).take 0).drop 0)=[]:=rfl;rw[mP];refine .lx k _ _ _ fun hq=>?_;rw[iss] at hq;cases hrm:rm with
   | none =>
    rw[hrm] at hq;simp only[ep,bL,eE,bz] at hq;have:=m5 hrm;have:=g6 hq.1;omega
   | some y =>
    rw[hrm] at hq;simp only[Option.isSome_some,eF,eJ] at hq;have:=m6 (by rw[hrm];simp);omega
 ·rename_i J k' off n hr;rw[hr] at H;split at iS;·cases iS
  rename_i mA b1;split at iS;·cases iS
  rename_i hA b2;split at iS;·cases iS
  rename_i lA b3;obtain⟨hk,ji⟩:=AK iS;clear iS;simp only[bz,eJ] at hk;obtain⟨rfl,b4⟩:=hk;cases ji;rcases Gi H with ⟨b,C,cap,hL,hv,hC,hn⟩ | ⟨hL,hv,rfl,rfl⟩
  ·obtain⟨m,gB,m1,m2,m3,m4,m5,m6⟩:=tI hn b1 b2 b3 b4;have j7:=Mw (P:=cx.P) hu tG w (some ⟨b,off*k,none⟩) n cap a.eval lo hi mx lA hA m gB;rw[l8] at j7;refine Bi hs hf (v':=.slice (if m=lA then some ⟨b,off*k,none⟩ else (some (⟨b,off*k,none⟩:Addr)).map (·.add (lA*k))) (hA - lA) (m - lA)) (by simp[execOp,ho,hv,j7]) (.refl w) ?_;split;{rename_i hz;rw[show hA - lA=0 from by omega];exact .lx k false _ _ (by simp)}
   ·rename_i hz;have hCm:(off+lA+(m - lA))*k<=C:=dD (cm _ (by omega)) hC;have key:=Aj.arr (w:=w) (I:=I) (lp:=lp) J k (off+lA) (hA - lA) (m - lA) b C hL hCm (by omega);by_cases sF:m=lA
    ·have lQ:lA=0:=by omega
     subst lQ;simpa[sF] using key
    {simpa[sF,HS,bU] using key}
  ·obtain⟨m,gB,m1,m2,m3,m4,m5,m6⟩:=tI (len:=0) (cap:=0) (by omega) b1 b2 b3 b4;have j7:=Mw (P:=cx.P) hu tG w none 0 0 a.eval lo hi mx lA hA m gB;have hA0:hA=0:=by omega
   have lQ:lA=0:=by omega
   have tJ:m=0:=by omega
   subst hA0;subst lQ;subst tJ;refine Bi hs hf (v':=.slice none 0 0) (by simp[execOp,ho,hv,j7]) (.refl w) ?_;simpa using Aj.iL J k hL
 ·rename_i hr;rw[hr] at H;split at iS;·cases iS
  rename_i mA b1;split at iS;·cases iS
  rename_i hA b2;split at iS;·cases iS
  rename_i lA b3;obtain⟨b4,iS⟩:=AK iS;cases iS;obtain⟨m,gB,m1,m2,m3,m4,m5,m6⟩:=tI (len:=0) (cap:=0) (by omega) b1 b2 b3 b4;have j7:=Mw (P:=cx.P) hu tG w none 0 0 a.eval lo hi mx lA hA m gB;have hA0:hA=0:=by omega
  have lQ:lA=0:=by omega
  have tJ:m=0:=by omega
  subst hA0;subst lQ;subst tJ;exact Bi hs hf (v':=.slice none 0 0) (by simp[execOp,ho,Fb H,j7]) (.refl w) .fF
 {cases iS}
theorem ZB (hs:SR lp I L V a.tmps.toList fE w) (hf:Fr cx w0 I0 F0 O0 Hd R e ds I F L w) {t:eY} (ho:o.op=.slice t x lo hi none) {r:RX} 
  (hu:cx.P.underlying t=some .string) (U:rx cx.G x=some r) (hl:sE cx.G lo=some rl) (hh:sE cx.G hi=some rh)
  (h:exec (o.dst.getD 0) (Aa V.fA) V.tmps (.gM r rl rh)=some out):Bb cx w0 I0 F0 O0 Hd R e ds F lp fE o a w (apply V o.dst out):=by
 have H:=A9 hs hf.wd U;simp only[exec] at h;split at h
 case h_2=>cases h
 rename_i s hr;rw[hr] at H;split at h;·cases h
 rename_i hA b2;split at h;·cases h
 rename_i lA b3;cases h;have hb:(Instr.sliceBounds false s.length s.length (lo.map a.eval) (hi.map a.eval) none).run cx.P w=.ok (lA,hA,s.length) w:=by refine JF w false s.length s.length a.eval lo hi none lA hA s.length (.inl ⟨rfl,rfl⟩) ?_ ?_;{rcases IG hs hf.wd hh b2 with ⟨f1,f2,f3⟩ | ⟨xh,kh,rh',f1,f2,f3,f4⟩;{exact .inl ⟨f1,rfl,f3⟩};{exact .inr ⟨xh,kh,f1,f3,f4⟩}};{rcases IG hs hf.wd hl b3 with ⟨f1,f2,f3⟩ | ⟨xh,kh,rh',f1,f2,f3,f4⟩;{exact .inl ⟨f1,f3⟩};{exact .inr ⟨xh,kh,f1,f3,f4⟩}}
 have iQ:(⟨s.toArray⟩:ByteArray).size=s.length:=by simp[ByteArray.size]
 refine Bi hs hf (v':=.string ⟨((s.take hA).drop lA).toArray⟩) ?_ (.refl w) (.str _);simp[execOp,ho,B4 H,Instr.sliceAt,Instr.slice,run_underlying hu,iQ,hb,ByteArray.extract_mk,cP]
end ops
end Go.Ab


namespace Go.Ab
variable{P:eX} {ats:Array eY} {base:Option Addr} {c:Array eT} {cap k kt len m sCap sLen size:Nat} {d du:e9} {el ty u:eY} {fr:Nat×Nat} {i:TypeInfo} {olds:List eT} {v zv:eT} {w':eS} {x z:PV} {ys:fa}
structure Src (P:eX) (w:eS) (I:Nat->Prop) (lp:Nat->fb) (size:Nat) (x:eT) (ys:fa) (news:List eT):Prop where
 len:Builtin.lenOf x=pure ys.length
 first:∀ n,n<=ys.length->∀ w':eS,w'.heap=w.heap->(Builtin.firstCells size n x).run P w'=.ok (news.take (n*size)).toArray w'
 me:news.length=ys.length*size
 one:A1 news
 rep:Ae w I lp none (fL ys) news
 each:∀ y∈ys,y.cells.length=size
theorem OU {w:eS} {b off N:Nat} {E:eY} (hb:w.heap[b]?=some (.cells c E fr)) (hle:off+N<=c.size) {n:Nat} (hn:n*size<=N) (hw:w'.heap=w.heap) :
  (Builtin.firstCells size n (.slice (some ⟨b,off,none⟩) len cap)).run P w'=.ok (((c.toList.drop off).take N).take (n*size)).toArray w':=by
 have hl:(((c.toList.drop off).take N).take (n*size)).length=n*size:=by simp;omega
 refine run_firstCells_some w' size n ⟨b,off,none⟩ len cap _ hl ?_;intro j v hj;have hjn:j < n*size:=by have:=(bH.1 hj).1;omega
 rw[HS,M4 (by rw[hw];exact hb)];rw[cn,dm (by omega),dF] at hj;simpa using hj
theorem Sd:(Builtin.firstCells size 0 (.slice none len cap)).run P w'=.ok #[] w':=by simp[Builtin.firstCells]
theorem OG {a:Option Addr}:(Builtin.firstCells size 0 (.slice a len cap)).run P w'=.ok #[] w':=by
 cases a with
 | none=>exact Sd
 | some a =>
  have:=run_firstCells_some (P:=P) w' size 0 a len cap [] (by simp) (by simp);simpa using this
theorem UD {w:eS} {I:Nat->Prop} {lp:Nat->fb} (s:fp):Ae w I lp none (fL (Bz s)) (s.map fun b=>Value.int .u8 (b.toNat:Int)):=by
 induction s with
 | nil=>exact .nil
 | cons b s ih=>exact .cons _ _ _ _ (.int .u8 _) ih
theorem kt_old {E:Nat} (h:kt=0\/E=kt) (el:Nat):(if kt=el then el else 0)=0\/E=(if kt=el then el else 0):=by by_cases O:kt=el;{rw[eH O,<-O];exact h};{rw[eG O];exact .inl rfl}
theorem tK (kt el:Nat):(if kt=el then el else 0)=0\/el=(if kt=el then el else 0):=by by_cases O:kt=el;{rw[eH O];exact .inr rfl};{rw[eG O];exact .inl rfl}
section ops
variable {E:Type} {cx:Cx} {w0:eS} {I0 F0:Nat->Prop} {O0:Bu} {Hd:Nat->Option Obj} {R:Bl E} {e:E} {ds:List eZ} {F:Nat->Prop} {lp:Nat->fb} {fE:List eT}
variable {I:Nat->Prop} {L:Am} {V:St} {a:Act} {w:eS} {o:Oper} {out:Ai} {mF:Ak}
theorem WS (P:eX) (hs:SR lp I L V a.tmps.toList fE w) (H:Aj w I lp (some L) x v) (h:C0 (Aa V.fA) k x=some ys) :
  ∃ news,Src P w I lp k v ys news:=by
 unfold C0 at h;split at h
 ·obtain⟨hk,O⟩:=AK h;cases O;have hk:=beq_iff_eq.1 hk;subst hk;rcases Hy H with ⟨b,off,cap,c,E',fr,rfl,g1,g2,g3,g4,g5,g6,g7,g8⟩ | ⟨rfl,ad,cap,rfl,_⟩;{exact⟨_,rfl,fun n hn w' hw=>OU g2 g3 (cm _ hn) hw,by simp;omega,g7,g8,g4⟩}
  ·refine⟨[],rfl,fun n hn w' _=>?_,by simp,by simp[A1],.nil,by simp⟩;have:n=0:=by simpa using hn
   subst this;simpa using OG (P:=P) (w':=w')
 ·rename_i J k' off n;split at h
  case h_2=>cases h
  rename_i ku kt Z gK;obtain⟨hk,O⟩:=AK h;cases O;simp only[bz,eJ,eI] at hk;obtain⟨⟨rfl,rfl⟩,hle⟩:=hk;obtain⟨p,hp,ha⟩:=hs.ob J _ gK;rcases Gi H with ⟨b,C,cap,hL,rfl,hC,hn⟩ | ⟨hL,rfl,rfl,rfl⟩
  ·rw[hL] at hp;cases hp;obtain⟨c,E',hb,hC',iA,kq,gL,fX⟩:=ha;have hlen:((Z.drop off).take n).length=n:=by simp;omega
   have hmul:(off+n)*k<=Z.length*k:=cm _ hle;rw[bU] at hmul;have e1:((c.toList.take (Z.length*k)).drop (off*k)).take (n*k)=(c.toList.drop (off*k)).take (n*k):=by rw[cP,cn,cu (by omega)]
   refine⟨(c.toList.drop (off*k)).take (n*k),by rw[hlen];rfl,fun m hm w' hw=>?_,by rw[hlen];simp;omega,?_,?_,?_⟩;{rw[hlen] at hm;exact OU hb (by omega) (cm _ hm) hw};{rw[<-e1];exact (gL.ke _).j5 _}
   ·have:=(fX.drop (off*k)).take (n*k)
    rwa [<-KA kq,<-IB (fun x H=>kq x (cO H)),e1] at this
   {exact fun y hy=>kq y (cO (cC hy))}
  ·refine⟨[],rfl,fun n hn w' _=>?_,by simp,by simp[A1],by rw[List.take_zero];exact .nil,by simp⟩;have:n=0:=by simpa using hn
   subst this;simpa using OG (P:=P) (w':=w')
 ·cases h;rw[Fb H];refine⟨[],rfl,fun n hn w' _=>?_,by simp,by simp[A1],.nil,by simp⟩;have:n=0:=by simpa using hn
  subst this;simpa using OG (P:=P) (w':=w')
 {rename_i s;obtain⟨hk,O⟩:=AK h;cases O;have hk:=beq_iff_eq.1 hk;subst hk;rw[B4 H];refine⟨s.map fun b=>Value.int .u8 (b.toNat:Int),by simp[Builtin.lenOf,Bz,ByteArray.size],fun n hn w' _=>?_,by simp[Bz],?_,UD s,?_⟩;{simp[Builtin.firstCells,ByteArray.extract_mk]};{intro v hv;obtain⟨b,_,rfl⟩:=bA.1 hv;rfl};{intro y hy;obtain⟨b,_,rfl⟩:=bA.1 hy;rfl}};{cases h}
theorem Oe {w:eS} {t:eY} (a0:ats[0]?=some t) (a1:ats[1]?=some u) (hu:P.underlying t=some (.slice el)) (hi:P.info? el=some i) (hz:i.zero=some zv)
  (ji:P.underlying u=some d) (hd:d=.string\/∃ e',d=.slice e') (hold:∀ w':eS,w'.heap=w.heap->(Builtin.firstCells i.size sLen (.slice base sLen sCap)).run P w'=.ok olds.toArray w')
  {x:eT} {news:List eT} (hl:Builtin.lenOf x=pure m) (iu:∀ w':eS,w'.heap=w.heap->(Builtin.firstCells i.size m x).run P w'=.ok news.toArray w')
  (hg:sCap < sLen+m) (hle:sLen+m<=Et) (hb:i.bytes<=65536) :
  (Builtin.append_ ats ty #[.slice base sLen sCap,x]).run P w=.ok (.slice (some ⟨w.heap.size,0,none⟩) (sLen+m) (grownCap w (sLen+m) sCap el))
   (w.drew.alloc (.cells (olds.toArray++news.toArray++Builtin.zeroCells zv.cells (grownCap w (sLen+m) sCap el - (sLen+m))) el)):=by
 have hn:¬ (sLen+m<=sCap):=by omega
 unfold Et at hle;have h63':¬ (9223372036854775807 < ((sLen:Int)+(m:Int))):=by omega
 have hmul:(sLen+m)*i.bytes<=140737488355328:=calc (sLen+m)*i.bytes<=2147483648*65536:=Nat.mul_le_mul hle hb
  _=140737488355328:=by decide
 have lg:=growslice_fits hg hmul;have h48':¬ (281474976710656 < Builtin.nextslicecap (sLen+m) sCap*i.bytes):=by omega
 have hf:=iu w.drew rfl;have oL:=hold w.drew rfl;rcases hd with rfl | ⟨e',rfl⟩
 {simp[Builtin.append_,a0,a1,run_underlying hu,run_underlying ji,sizeOf,typeInfo,zeroValue,hi,hz,hl,hn,h63',h48',Question.forced,hf,oL,newRow,grownCap];congr 2;exact Array.ext' (by simp[cw])};{simp[Builtin.append_,a0,a1,run_underlying hu,run_underlying ji,sizeOf,typeInfo,zeroValue,hi,hz,hl,hn,h63',h48',Question.forced,hf,oL,newRow,grownCap];congr 2;exact Array.ext' (by simp[cw])}
theorem Oc {w:eS} {t:eY} (a0:ats[0]?=some t) (a1:ats[1]?=some u) (hu:P.underlying t=some (.slice el)) (hi:P.info? el=some i)
  (ji:P.underlying u=some d) (hd:d=.string\/∃ e',d=.slice e') 
  {x:eT} {news:List eT} (hl:Builtin.lenOf x=pure m) (iu:(Builtin.firstCells i.size m x).run P w=.ok news.toArray w)
  (hn:sLen+m<=sCap) (hH:(match base with | some a=>storeCells (a.add (sLen*i.size)) news | none=>pure ()).run P w=.ok () w') :
  (Builtin.append_ ats ty #[.slice base sLen sCap,x]).run P w=.ok (.slice base (sLen+m) sCap) w':=by
 cases base with
 | none =>
  have hH:w=w':=by simpa using hH
  subst hH;rcases hd with rfl | ⟨e',rfl⟩<;>simp[Builtin.append_,a0,a1,run_underlying hu,run_underlying ji,sizeOf,typeInfo,hi,hl,hn,iu]
 | some a =>
  simp only at hH;rcases hd with rfl | ⟨e',rfl⟩<;>simp[Builtin.append_,a0,a1,run_underlying hu,run_underlying ji,sizeOf,typeInfo,hi,hl,hn,iu,hH]
theorem bi (hs:SR lp I L V a.tmps.toList fE w) (hf:Fr cx w0 I0 F0 O0 Hd R e ds I F L w) {d:Nat} (hd:o.dst=some d) (hc:V.fA[d]?=some []) 
  (hr:(execOp a.eval o).run cx.P w=.ok (.value (.slice none 0 0)) w) :
  Bb cx w0 I0 F0 O0 Hd R e ds F lp fE o a w (apply V o.dst {v:=.arr (d,0) k 0 0,new:=[.arr k kt []]}):=by
 have hn:=hs.news hc [.arr k kt []] [none] rfl (by
  intro j ob p U O;cases j with
  | zero=>simp at U O;subst U;subst O;exact⟨k,_,rfl⟩
  | succ j=>simp at U)
 refine⟨.slice none 0 0,w,I,BO L d [none],.inl hr,?_,?_⟩;{rw[Hi,hd];exact hn.put d (.iL _ k (by simp[BO]))}
 ·refine Fr.news hf hc rfl rfl rfl (bD _) (fun _ _=>rfl) ?_ ?_
  ·intro j b C hj;cases j with
   | zero=>simp at hj
   | succ j=>simp at hj
  ·intro j j' b C C' U _;cases j with
   | zero=>simp at U
   | succ j=>simp at U
theorem OT {w:eS} {I:Nat->Prop} {lp:Nat->fb} {Z:fa} {news:List eT} {zs:Array eT} (U:Ae w I lp none (fL Z) olds) (O:Ae w I lp none (fL ys) news)
  (o1:A1 olds) (o2:A1 news) (k1:∀ x∈Z,x.cells.length=k) (k2:∀ x∈ys,x.cells.length=k) :
  (∀ x∈Z++ys,x.cells.length=k)/\A1 (((olds.toArray++news.toArray++zs).toList).take ((Z++ys).length*k))/\Ae w I lp none (fL (Z++ys)) (((olds.toArray++news.toArray++zs).toList).take ((Z++ys).length*k)):=by
 have l1:=U.length;have l2:=O.length;rw[JG k1] at l1;rw[JG k2] at l2;have e:((olds.toArray++news.toArray++zs).toList).take ((Z++ys).length*k)=olds++news:=by simp only[Array.toList_append];rw[d8 (by simp[bU];omega),cF (by simp[bU];omega)]
 rw[e,JH];refine⟨fun x H=>(bS.1 H).elim (k1 x) (k2 x),o1.jW o2,U.append O⟩
theorem Wp (hs:SR lp I L V a.tmps.toList fE w) (hf:Fr cx w0 I0 F0 O0 Hd R e ds I F L w) {c:Call} (ho:o.op=.call c) {x y:eV} (gN:c.callee=.builtin .append) (a0:c.argTypes[0]?=some ty) (a1:c.argTypes[1]?=some u) (lh:c.args=#[x,y])
  {mZ:Nat} {r1 r2:RX} (he:Fe cx.P ty=some (k,mZ,z)) (lz:cx.P.underlying ty=some (.slice el)) (ji:cx.P.underlying u=some du) (hdu:du=.string\/∃ e',du=.slice e')
  (U:rx cx.G x=some r1) (O:rx cx.G y=some r2) {d:Nat} (hd:o.dst=some d) (iG:V.fA[d]?=some [])
  (h:exec (o.dst.getD 0) (Aa V.fA) V.tmps (.append k el r1 r2)=some out):Bb cx w0 I0 F0 O0 Hd R e ds F lp fE o a w (apply V o.dst out):=by
 obtain⟨el',i,zv,hu,hi,l8,hby,hb6,hz,hzk,hzv,hzn,pV⟩:=Kz he;rw[hu] at lz;cases lz;have H:=A9 hs hf.wd U;have hy:=A9 hs hf.wd O;have gB:∀ {v' w'},(Builtin.append_ c.argTypes o.type #[a.eval x,a.eval y]).run cx.P w=.ok v' w'->(execOp a.eval o).run cx.P w=.ok (.value v') w':=by intro v' w' hr;simp[execOp,ho,resolve,gN,lh,invoke,builtin,hr]
 simp only[exec,hd,b7] at h;split at h;·cases h
 rename_i ys kX;obtain⟨news,gJ⟩:=WS cx.P hs hy kX;have iu:∀ w':eS,w'.heap=w.heap->(Builtin.firstCells i.size ys.length (a.eval y)).run cx.P w'=.ok news.toArray w':=fun w' hw=>by have:=gJ.first ys.length (bD _) w' hw;rw[cF (by rw[gJ.me];exact bD _)] at this;rw[l8];exact this
 have hkm:∀ w':eS,(∀ b,I b->w'.heap[b]?=w.heap[b]?)->Ae w' I lp none (fL ys) news:=fun w' hw=>Ae.mono (fun _ h=>h) hw (fun _ _ h=>h) gJ.rep;split at h
 ·rename_i hr;rw[hr] at H;have kJ:=Fb H;obtain⟨hk,h⟩:=AK h;cases h;have hk:=eR hk;by_cases hy0:ys=[]
  ·subst hy0;have hn0:news=[]:=by have:=gJ.me;simpa using this
   have kg:=Oc (P:=cx.P) (w:=w) (ty:=o.type) a0 a1 hu hi ji hdu (base:=none) (sLen:=0) (sCap:=0) gJ.len (iu w rfl) (by simp) (w':=w) rfl;have:=bi hs hf hd iG (k:=k) (kt:=el) (gB (by rw[kJ];exact kg));simpa[hd] using this
  ·have pY:0 < ys.length:=ew.2 hy0;have kg:=Oe (P:=cx.P) (w:=w) (ty:=o.type) a0 a1 hu hi hz ji hdu (base:=none) (sLen:=0) (sCap:=0) (olds:=[]) (fun w' _=>Sd) gJ.len iu (by omega) (by omega) (by omega);simp only[bX] at kg;have kK:=grownCap_ge w ys.length 0 el;obtain⟨k3,o3,r3⟩:=OT (w:=w) (I:=I) (lp:=lp) (Z:=[]) (olds:=[]) (zs:=Builtin.zeroCells zv.cells (grownCap w ys.length 0 el - ys.length)) .nil gJ.rep (by simp[A1]) gJ.one (by simp) gJ.each;simp only[dp] at k3 o3 r3
   have:=MN hs hf hd iG (k:=k) (kt:=el) (Z:=ys) (t:=el) (.inr rfl) (cap:=grownCap w ys.length 0 el) (w1:=w.drew) ⟨rfl,rfl,rfl,rfl⟩ kK (by
     simp only[dS,ez,size_zeroCells,gJ.me,ec]
     have hzs:zv.cells.size=k:=by have:=((pV w I lp none).cells hzv).2.length;simp at this;omega
     rw[hzs,bX,<-bU,eA kK];exact bD _) k3 o3 r3 (gB (by rw[kJ];exact kg))
   simpa[hd] using this
 ·rename_i J k' off n hr;rw[hr] at H;split at h
  case h_2=>cases h
  rename_i ku kt Z gK;obtain⟨hk,h⟩:=AK h;cases h;simp only[bz,eJ,eI] at hk;obtain⟨⟨⟨⟨rfl,rfl⟩,rfl⟩,hnx⟩,tL⟩:=hk;obtain⟨p,hp,ha⟩:=hs.ob J _ gK;have hzs:zv.cells.size=k:=by have:=((pV w I lp none).cells hzv).2.length;simp at this;omega
  have hold:∀ (b C cap:Nat),L J=some (some (b,C))->(0+cap)*k<=C->n<=cap->∃ c E',w.heap[b]?=some (.cells c E' (0,0))/\c.size=C/\(n*k<=c.size/\(kt=0\/E'=kt))/\A1 (c.toList.take (n*k))/\Ae w I lp none (fL (Z.take n)) (c.toList.take (n*k))/\(∀ x∈Z.take n,x.cells.length=k):=by
   intro b C cap hL hC hn;rw[hL] at hp;cases hp;obtain⟨c,E',hb,hC',iA,kq,gL,fX⟩:=ha;have hmul:n*k<=Z.length*k:=cm _ hnx;have e1:(c.toList.take (Z.length*k)).take (n*k)=c.toList.take (n*k):=by rw[cn,cu hmul]
   refine⟨c,E',hb,hC',⟨by omega,iA.2⟩,?_,?_,fun x H=>kq x (cC H)⟩;{rw[<-e1];exact gL.j5 _};{rw[IB kq,<-e1];exact fX.take _}
  have htl:(Z.take n).length=n:=by simp;omega
  rcases Gi H with ⟨b,C,cap,hL,hv,hC,hn⟩ | ⟨hL,hv,_,rfl⟩
  ·obtain⟨c,E',hb,hcC,⟨hnk,hkt⟩,gL,fX,pt⟩:=hold b C cap hL hC hn;rw[Nat.zero_mul] at hv;by_cases lg:n+ys.length<=cap
   ·
    have hfk:(n+ys.length)*k<=cap*k:=cm _ lg;rw[bU] at hfk;rw[bX] at hC;have hH:=run_storeCells_at cx.P b (n*k) E' news 0 c w hb (by rw[gJ.me];omega) gJ.one;simp only[Nat.add_zero] at hH
    have kg:=Oc (P:=cx.P) (w:=w) (ty:=o.type) a0 a1 hu hi ji hdu (base:=some ⟨b,0,none⟩) (sLen:=n) (sCap:=cap) gJ.len (iu w rfl) lg
     (w':=w.setRow b (c.toList.take (n*k)++news++c.toList.drop (n*k+news.length)).toArray) (by simp only[HS,l8,bX];exact hH)
    have pw:∀ b',I b'->(w.setRow b (c.toList.take (n*k)++news++c.toList.drop (n*k+news.length)).toArray).heap[b']?=w.heap[b']?:=fun b' jh=>Iw w b _ fun e=>(hf.lB J b C hL).2.2.1 (e ▸ jh);have hln:=gJ.me
    have e2:(c.toList.take (n*k)++news++c.toList.drop (n*k+news.length)).take ((Z.take n++ys).length*k)=c.toList.take (n*k)++news:=by
     have gI:(c.toList.take (n*k)++news).length=(Z.take n++ys).length*k:=by rw[ce,ce,htl,bU,dn,cY];omega
     rw[d8 (by rw[gI];exact bD _),cF (by rw[gI];exact bD _)]
    refine OX hs hf hL (w':=w.setRow b (c.toList.take (n*k)++news++c.toList.drop (n*k+news.length)).toArray) (p':=some (b,C)) (v':=.slice (some ⟨b,0,none⟩) (n+ys.length) cap) (k:=k) (kt:=if kt=el then el else 0) (Z:=Z.take n++ys) (gB (by rw[hv];exact kg)) rfl rfl rfl (by simp) (fun b' _ gj=>Iw w b _ fun e=>gj C (by rw[e]))
     (fun b' C' e=>by cases e;exact⟨by simpa using (hf.lB J b C hL).2.1,.inr ⟨C,rfl⟩⟩) (fun L'=>?_) (fun L' nX=>?_)
    {refine⟨_,E',setRow_heap w b c _ E' _ hb,by simp;omega,⟨by simp[htl,bU];omega,kt_old hkt el⟩,fun x H=>(bS.1 H).elim (pt x) (gJ.each x),?_,?_⟩;{simp only[e2];exact gL.jW gJ.one};{simp only[e2,JH];exact (Ae.mono (fun _ h=>h) pw (fun _ _ h=>h) fX).append (hkm _ pw)}};{have:=Aj.arr (w:=w.setRow b (c.toList.take (n*k)++news++c.toList.drop (n*k+news.length)).toArray) (I:=I) (lp:=lp) J k 0 (n+ys.length) cap b C nX (by rw[bX];exact hC) lg;simpa using this}
   ·
    have kg:=Oe (P:=cx.P) (w:=w) (ty:=o.type) a0 a1 hu hi hz ji hdu (base:=some ⟨b,0,none⟩) (sLen:=n) (sCap:=cap) (olds:=c.toList.take (n*k)) (fun w' hw=>by have:=OU (P:=cx.P) (size:=i.size) (n:=n) (len:=n) (cap:=cap) (off:=0) (N:=n*k) hb (by omega) (by rw[l8];exact bD _) hw;simpa[l8,cn] using this) gJ.len iu (by omega) tL (by omega);have kK:=grownCap_ge w (n+ys.length) cap el;obtain⟨k3,o3,r3⟩:=OT (w:=w) (I:=I) (lp:=lp) (zs:=Builtin.zeroCells zv.cells (grownCap w (n+ys.length) cap el - (n+ys.length))) fX gJ.rep gL gJ.one pt gJ.each;have hnk':(c.toList.take (n*k)).length=n*k:=by simp;omega
    have mf:((c.toList.take (n*k)).toArray++news.toArray++Builtin.zeroCells zv.cells (grownCap w (n+ys.length) cap el - (n+ys.length))).size=grownCap w (n+ys.length) cap el*k:=by simp only[dS,ez,size_zeroCells,gJ.me,hnk',hzs];rw[<-bU,<-bU,eA kK]
    generalize ((c.toList.take (n*k)).toArray++news.toArray++Builtin.zeroCells zv.cells (grownCap w (n+ys.length) cap el - (n+ys.length)))=row at *;have sG:∀ b',b' < w.heap.size->(w.drew.alloc (.cells row el)).heap[b']?=w.heap[b']?:=fun b' jh=>by rw[fJ w.drew _ jh];rfl
    refine OX hs hf hL (w':=w.drew.alloc (.cells row el)) (p':=some (w.heap.size,row.size)) (v':=.slice (some ⟨w.heap.size,0,none⟩) (n+ys.length) (grownCap w (n+ys.length) cap el)) (k:=k) (kt:=if kt=el then el else 0) (Z:=Z.take n++ys) (gB (by rw[hv];exact kg))
     rfl rfl rfl (by simp) (fun b' jh _=>sG b' jh) (fun b' C' e=>by cases e;exact⟨by simp,.inl (bD _)⟩) (fun L'=>?_) (fun L' nX=>?_)
    {refine⟨row,el,Iv w.drew _,rfl,⟨?_,tK kt el⟩,k3,o3,Ae.mono (fun _ h=>h) (fun b' jh=>sG b' (hf.sep.iB b' jh)) (fun _ _ h=>h) r3⟩;rw[mf,ce,htl];exact cm _ kK};{have:=Aj.arr (w:=w.drew.alloc (.cells row el)) (I:=I) (lp:=lp) J k 0 (n+ys.length) (grownCap w (n+ys.length) cap el) w.heap.size row.size nX (by rw[mf];simp) kK;simpa using this}
  ·
   by_cases hy0:ys=[]
   ·subst hy0;have hn0:news=[]:=by have:=gJ.me;simpa using this
    have kg:=Oc (P:=cx.P) (w:=w) (ty:=o.type) a0 a1 hu hi ji hdu (base:=none) (sLen:=0) (sCap:=0) gJ.len (iu w rfl) (by simp) (w':=w) rfl;exact OX hs hf hL (p':=none) (v':=.slice none 0 0) (k:=k) (kt:=if kt=el then el else 0) (Z:=Z.take 0++[]) (gB (by rw[hv];exact kg)) rfl rfl rfl (bD _) (fun _ _ _=>rfl) (fun b C e=>by cases e) (fun L'=>⟨k,if kt=el then el else 0,by simp⟩) (fun L' nX=>.iL J k nX)
   ·have pY:0 < ys.length:=ew.2 hy0;have kg:=Oe (P:=cx.P) (w:=w) (ty:=o.type) a0 a1 hu hi hz ji hdu (base:=none) (sLen:=0) (sCap:=0) (olds:=[]) (fun w' _=>Sd) gJ.len iu (by omega) (by omega) (by omega);simp only[bX] at kg;have kK:=grownCap_ge w ys.length 0 el;obtain⟨k3,o3,r3⟩:=OT (w:=w) (I:=I) (lp:=lp) (Z:=[]) (olds:=[]) (zs:=Builtin.zeroCells zv.cells (grownCap w ys.length 0 el - ys.length)) .nil gJ.rep (by simp[A1]) gJ.one (by simp) gJ.each;simp only[dp] at k3 o3 r3;have mf:((#[]:Array eT)++news.toArray++Builtin.zeroCells zv.cells (grownCap w ys.length 0 el - ys.length)).size=grownCap w ys.length 0 el*k:=by simp only[dS,ez,size_zeroCells,gJ.me,hzs];rw[ec,bX,<-bU,eA kK]
    generalize ((#[]:Array eT)++news.toArray++Builtin.zeroCells zv.cells (grownCap w ys.length 0 el - ys.length))=row at *;have sG:∀ b',b' < w.heap.size->(w.drew.alloc (.cells row el)).heap[b']?=w.heap[b']?:=fun b' jh=>by rw[fJ w.drew _ jh];rfl
    have e0:Z.take 0++ys=ys:=by simp
    rw[e0,bX]
    refine OX hs hf hL (w':=w.drew.alloc (.cells row el)) (p':=some (w.heap.size,row.size)) (v':=.slice (some ⟨w.heap.size,0,none⟩) ys.length (grownCap w ys.length 0 el)) (k:=k) (kt:=if kt=el then el else 0) (Z:=ys) (gB (by rw[hv];exact kg))
     rfl rfl rfl (by simp) (fun b' jh _=>sG b' jh) (fun b' C' e=>by cases e;exact⟨by simp,.inl (bD _)⟩) (fun L'=>?_) (fun L' nX=>?_)
    {refine⟨row,el,Iv w.drew _,rfl,⟨?_,tK kt el⟩,k3,o3,Ae.mono (fun _ h=>h) (fun b' jh=>sG b' (hf.sep.iB b' jh)) (fun _ _ h=>h) r3⟩;rw[mf];exact cm _ kK};{have:=Aj.arr (w:=w.drew.alloc (.cells row el)) (I:=I) (lp:=lp) J k 0 ys.length (grownCap w ys.length 0 el) w.heap.size row.size nX (by rw[mf];simp) kK;simpa using this}
 ·rename_i k' Z hr;rw[hr] at H;split at h
  ·obtain⟨hk,h⟩:=AK h;cases h;have hk:=beq_iff_eq.1 hk;subst hk;have hn0:news=[]:=by have:=gJ.me;simpa using this
   subst hn0
   obtain⟨base,hv⟩:∃ base,a.eval x=.slice base Z.length Z.length:=by
    rcases Hy H with ⟨b,off,cap,c,E',fr,hv,g1,g2,g3,g4,g5,g6,g7,g8⟩ | ⟨rfl,ad,cap,hv,g6⟩
    {have:=g6 rfl;subst this;exact⟨_,hv⟩};{have:=g6 rfl;subst this;exact⟨_,hv⟩}
   have hH:(match base with | some a=>storeCells (a.add (Z.length*i.size)) [] | none=>pure ()).run cx.P w=.ok () w:=by cases base<;>simp[storeCells]
   have kg:=Oc (P:=cx.P) (w:=w) (ty:=o.type) a0 a1 hu hi ji hdu (base:=base) (sLen:=Z.length) (sCap:=Z.length) gJ.len (iu w rfl) (by simp) (w':=w) hH;exact Bi hs hf (gB (by rw[hv];exact kg)) ⟨rfl,rfl,rfl,rfl⟩ (by rw[hv] at H;simpa using H)
  rename_i y0 ys0;obtain⟨hk,h⟩:=AK h;cases h;simp only[bz,eJ,eI] at hk;obtain⟨rfl,tL⟩:=hk;have hzs:zv.cells.size=k:=by have:=((pV w I lp none).cells hzv).2.length;simp at this;omega
  obtain⟨base,olds,hv,hold,hlo,o1,fX,pt⟩:∃ base olds,a.eval x=.slice base Z.length Z.length/\(∀ w':eS,w'.heap=w.heap->(Builtin.firstCells i.size Z.length (.slice base Z.length Z.length)).run cx.P w'=.ok olds.toArray w') /\
    olds.length=Z.length*k/\A1 olds/\Ae w I lp none (fL Z) olds/\(∀ x∈Z,x.cells.length=k):=by
   rcases Hy H with ⟨b,off,cap,c,E',fr,hv,g1,g2,g3,g4,g5,g6,g7,g8⟩ | ⟨rfl,ad,cap,hv,g6⟩
   {have:=g6 rfl;subst this;refine⟨_,_,hv,fun w' hw=>?_,by simp;omega,g7,g8,g4⟩;have:=OU (P:=cx.P) (size:=i.size) (n:=Z.length) (len:=Z.length) (cap:=Z.length) (off:=off) (N:=Z.length*k) g2 g3 (by rw[l8];exact bD _) hw;simpa[l8,cn] using this};{have:=g6 rfl;subst this;exact⟨ad,[],hv,fun w' _=>OG,by simp,by simp[A1],.nil,by simp⟩}
  have kg:=Oe (P:=cx.P) (w:=w) (ty:=o.type) a0 a1 hu hi hz ji hdu hold gJ.len iu (by simp only[ct];omega) (by simp only[ct];exact tL) (by omega);have kK:=grownCap_ge w (Z.length+(y0 :: ys0).length) Z.length el;obtain⟨k3,o3,r3⟩:=OT (w:=w) (I:=I) (lp:=lp) (zs:=Builtin.zeroCells zv.cells (grownCap w (Z.length+(y0 :: ys0).length) Z.length el - (Z.length+(y0 :: ys0).length))) fX gJ.rep o1 gJ.one pt gJ.each;have mf:(olds.toArray++news.toArray++Builtin.zeroCells zv.cells (grownCap w (Z.length+(y0 :: ys0).length) Z.length el - (Z.length+(y0 :: ys0).length))).size=grownCap w (Z.length+(y0 :: ys0).length) Z.length el*k:=by simp only[dS,ez,size_zeroCells,gJ.me,hlo,hzs];rw[<-bU,<-bU,eA kK]
  have:=MN hs hf hd iG (k:=k) (kt:=el) (Z:=Z++y0 :: ys0) (t:=el) (.inr rfl) (cap:=grownCap w (Z.length+(y0 :: ys0).length) Z.length el) (w1:=w.drew) ⟨rfl,rfl,rfl,rfl⟩ (by rw[ce];exact kK) (by rw[mf];exact bD _) k3 o3 r3
   (gB (by rw[hv,ce];exact kg))
  simpa[hd] using this
 {cases h}
end ops
end Go.Ab


namespace Go.Ab
variable{P:eX} {ats:Array eY} {base:Option Addr} {c:Call} {d:e9} {i:TypeInfo} {k m:Nat} {mx:Bool} {J:Nm} {r1:RX} {rs:fu} {tc:TC} {ty:eY} {v z:PV} {v' x:eT} {w':eS}
section ops
variable {E:Type} {cx:Cx} {w0:eS} {I0 F0:Nat->Prop} {O0:Bu} {Hd:Nat->Option Obj} {R:Bl E} {e:E} {ds:List eZ} {F:Nat->Prop} {lp:Nat->fb} {fE:List eT}
variable {I:Nat->Prop} {L:Am} {V:St} {a:Act} {w:eS} {o:Oper} {out:Ai} {mF:Ak}
theorem pZ (hs:SR lp I L V a.tmps.toList fE w) (hf:Fr cx w0 I0 F0 O0 Hd R e ds I F L w) (hL:L J=some none)
  {kt:Nat} (hr:(execOp a.eval o).run cx.P w=.ok (.value v') w\/((execOp a.eval o).run cx.P w=.ok .skip w/\v'=undef))
  (hv:Aj w I lp (some L) v v'):Bb cx w0 I0 F0 O0 Hd R e ds F lp fE o a w (apply V o.dst {v,gA:=some (J,.arr k kt [])}):=by
 have hu:=hs.gA (w':=w) (ky:=.arr k kt []) hL (fun _ _=>rfl) (fun _ _ _ _ _=>rfl) ⟨k,_,rfl⟩;refine⟨v',w,I,L,hr,?_,hf⟩;rw[Hi];cases o.dst with
 | none=>exact hu
 | some d=>exact hu.put d hv
theorem O7 {w:eS} {t el:eY} (a0:ats[0]?=some t) (hu:P.underlying t=some (.slice el)) (hi:P.info? el=some i)
  {dLen dCap:Nat} {news:List eT} (hl:Builtin.lenOf x=pure m)
  (iu:(Builtin.firstCells i.size (Nat.min m dLen) x).run P w=.ok news.toArray w)
  (hH:(match base with | some a=>storeCells a news | none=>pure ()).run P w=.ok () w') :
  (Builtin.copy_ ats ty #[.slice base dLen dCap,x]).run P w=.ok (.int .i64 ((Nat.min m dLen:Nat):Int)) w':=by
 cases base with
 | none =>
  have hH:w=w':=by simpa using hH
  subst hH;simp[Builtin.copy_,a0,run_underlying hu,sizeOf,typeInfo,hi,hl,iu,goInt]
 | some a =>
  simp only at hH;simp[Builtin.copy_,a0,run_underlying hu,sizeOf,typeInfo,hi,hl,iu,hH,goInt]
theorem op_copy (hs:SR lp I L V a.tmps.toList fE w) (hf:Fr cx w0 I0 F0 O0 Hd R e ds I F L w) (ho:o.op=.call c) {x y:eV} (gN:c.callee=.builtin .copy) (a0:c.argTypes[0]?=some ty) (lh:c.args=#[x,y])
  {mZ:Nat} {r2:RX} (he:Fe cx.P ty=some (k,mZ,z)) (U:rx cx.G x=some r1) (O:rx cx.G y=some r2)
  (h:exec (o.dst.getD 0) (Aa V.fA) V.tmps (.copy k r1 r2)=some out):Bb cx w0 I0 F0 O0 Hd R e ds F lp fE o a w (apply V o.dst out):=by
 obtain⟨el,i,zv,hu,hi,l8,hby,hb6,hz,hzk,hzv,hzn,pV⟩:=Kz he;have H:=A9 hs hf.wd U;have hy:=A9 hs hf.wd O;have gB:∀ {v' w'},(Builtin.copy_ c.argTypes o.type #[a.eval x,a.eval y]).run cx.P w=.ok v' w'->(execOp a.eval o).run cx.P w=.ok (.value v') w':=by intro v' w' hr;simp[execOp,ho,resolve,gN,lh,invoke,builtin,hr]
 simp only[exec] at h;split at h;·cases h
 rename_i ys kX;obtain⟨news,gJ⟩:=WS cx.P hs hy kX;have iu:∀ n,n<=ys.length->(Builtin.firstCells i.size n (a.eval y)).run cx.P w=.ok (news.take (n*k)).toArray w:=fun n hn=>by rw[l8];exact gJ.first n hn w rfl
 split at h;{rename_i hr;rw[hr] at H;cases h;have kg:=O7 (P:=cx.P) (w:=w) (w':=w) (ty:=o.type) a0 hu hi (base:=none) (dLen:=0) (dCap:=0) gJ.len (by rw[show Nat.min ys.length 0=0 from dT _];exact iu 0 (cX _)) rfl;refine Bi hs hf (gB (by rw[Fb H];exact kg)) (.refl w) ?_;rw[show Nat.min ys.length 0=0 from dT _];exact .int .i64 _}
 ·rename_i k' full hr;rw[hr] at H;cases h;have hb:∃ (p:Option Addr) (cap:Nat),a.eval x=.slice p 0 cap:=by rcases Hy H with ⟨b,off,cap,c,E,fr,h,_⟩ | ⟨_,a',cap,h,_⟩;{exact⟨_,_,h⟩};{exact⟨_,_,h⟩}
  obtain⟨b,cap,hb⟩:=hb;have kg:=O7 (P:=cx.P) (w:=w) (w':=w) (ty:=o.type) a0 hu hi (base:=b) (dLen:=0) (dCap:=cap) (news:=[]) gJ.len (by rw[show Nat.min ys.length 0=0 from dT _];simpa using iu 0 (cX _)) (by cases b<;>rfl);refine Bi hs hf (gB (by rw[hb];exact kg)) (.refl w) ?_;rw[show Nat.min ys.length 0=0 from dT _];exact .int .i64 _
 ·rename_i J k' off n hr;rw[hr] at H;split at h
  case h_2=>cases h
  rename_i ku kt Z gK;obtain⟨hk,h⟩:=AK h;cases h;simp only[bz,eJ,eI] at hk;obtain⟨⟨rfl,rfl⟩,hle⟩:=hk;obtain⟨p,hp,ha⟩:=hs.ob J _ gK;rcases Gi H with ⟨b,C,cap,hL,hv,hC,hn⟩ | ⟨hL,hv,rfl,rfl⟩
  ·rw[hL] at hp;cases hp;obtain⟨c',E',hb,hC',iA,kq,gL,fX⟩:=ha;have hyl:(ys.take n).length=Nat.min ys.length n:=by rw[dn];exact Nat.min_comm _ _
   have hmn:Nat.min ys.length n<=n:=Nat.min_le_right _ _;have hmy:Nat.min ys.length n<=ys.length:=Nat.min_le_left _ _;generalize hmm:Nat.min ys.length n=m at *;have sF:(news.take (m*k)).length=m*k:=by have:m*k<=ys.length*k:=cm _ hmy;simp[gJ.me,this]
   have jL:off*k+m*k<=Z.length*k:=by rw[<-bU];exact cm _ (by omega)
   have hH:=run_storeCells_at cx.P b (off*k) E' (news.take (m*k)) 0 c' w hb (by omega) (gJ.one.j5 _);simp only[Nat.add_zero] at hH;have kg:=O7 (P:=cx.P) (w:=w) (ty:=o.type) a0 hu hi (base:=some ⟨b,off*k,none⟩) (dLen:=n) (dCap:=cap) gJ.len (by rw[hmm];exact iu m hmy) hH;rw[hmm] at kg;have pw:∀ b',I b'->(w.setRow b (c'.toList.take (off*k)++news.take (m*k)++c'.toList.drop (off*k+(news.take (m*k)).length)).toArray).heap[b']?=w.heap[b']?:=fun b' jh=>Iw w b _ fun e=>(hf.lB J b C hL).2.2.1 (e ▸ jh)
   have hysr:Ae w I lp none (fL (ys.take n)) (news.take (m*k)):=by
    have:=gJ.rep.take (m*k);rw[<-IB gJ.each] at this;have e0:ys.take m=ys.take n:=by rw[<-hmm];by_cases hc:ys.length<=n;{rw[show Nat.min ys.length n=ys.length from cu hc,d9,cF hc]};{rw[show Nat.min ys.length n=n from Nat.min_eq_right (by omega)]}
    rwa [e0] at this
   have hyk:∀ y∈ys.take n,y.cells.length=k:=fun y hy=>gJ.each y (cC hy);have hnl:(Z.take off++ys.take n++Z.drop (off+(ys.take n).length)).length=Z.length:=by simp only[ce,dn,List.length_drop];omega
   have mc:fL (Z.take off++ys.take n++Z.drop (off+(ys.take n).length))=gE (fL Z) (off*k) (fL (ys.take n)):=by unfold gE;rw[JH,JH,IB kq,KA kq,JG hyk,bU]
   have e1:=RN c'.toList (news.take (m*k)) (off*k) (Z.length*k) (by omega) (by simp;omega);have tr:=fX.gE hysr (off*k)
   refine MZ hs hf hL (w':=w.setRow b (c'.toList.take (off*k)++news.take (m*k)++c'.toList.drop (off*k+(news.take (m*k)).length)).toArray) (v':=.int .i64 (m:Int)) (.inl (gB (by rw[hv];exact kg))) rfl rfl rfl (by simp)
    (fun b' jh=>Iw w b _ jh) ?_ (by rw[show (min (ys.length:Int) (n:Int))=(m:Int) from by have:min ys.length n=m:=hmm;omega];exact .int .i64 _)
   refine⟨_,E',setRow_heap w b c' _ E' _ hb,?_,by rw[hnl];exact iA,?_,?_,?_⟩;{simp[sF];omega}
   ·intro x H;rcases bS.1 H with H | H
    {rcases bS.1 H with H | H;{exact kq x (cC H)};{exact hyk x H}};{exact kq x (cO H)}
   ·rw[hnl];simp only
    rw[e1];exact gL.gE (gJ.one.j5 _) _ _
   ·rw[hnl,mc];simp only
    rw[e1];exact Ae.mono (fun _ h=>h) pw (fun _ _ h=>h) tr
  ·rw[hL] at hp;cases hp;obtain⟨k2,kt2,ka⟩:=ha;simp only[Ob.arr.injEq] at ka;obtain⟨rfl,rfl,rfl⟩:=ka;have kg:=O7 (P:=cx.P) (w:=w) (w':=w) (ty:=o.type) a0 hu hi (base:=none) (dLen:=0) (dCap:=0) gJ.len (by rw[show Nat.min ys.length 0=0 from dT _];exact iu 0 (cX _)) rfl
   have:=pZ hs hf hL (k:=k) (kt:=kt) (v:=.int .i64 (min (ys.length:Int) ((0:Nat):Int))) (.inl (gB (by rw[hv];exact kg))) (by
    rw[show Nat.min ys.length 0=0 from dT _,show (min (ys.length:Int) ((0:Nat):Int))=((0:Nat):Int) from by omega];exact .int .i64 _)
   simpa using this
 {cases h}
theorem Uy (es:List MapEntry):(EY es).length=2*es.length:=by
 induction es with
 | nil=>rfl
 | cons e es ih=>simp[EY,ih];omega
theorem TN (hs:SR lp I L V a.tmps.toList fE w) (hf:Fr cx w0 I0 F0 O0 Hd R e ds I F L w) (ho:o.op=.call c) {x:eV} (gN:c.callee=.builtin .len) (a0:c.argTypes[0]?=some ty) (lh:c.args=#[x])
  (hu:cx.P.underlying ty=some d) (hd:(d=.string/\tc=.str)\/(∃ e',d=.slice e'/\tc=.slice)\/∃ k' e',d=.map k' e'/\tc=.map) (U:rx cx.G x=some r1)
  (h:exec (o.dst.getD 0) (Aa V.fA) V.tmps (.len tc r1)=some out):Bb cx w0 I0 F0 O0 Hd R e ds F lp fE o a w (apply V o.dst out):=by
 have H:=A9 hs hf.wd U;have gB:∀ {n:Nat},(Builtin.len_ c.argTypes o.type #[a.eval x]).run cx.P w=.ok (.int .i64 (n:Int)) w->Bb cx w0 I0 F0 O0 Hd R e ds F lp fE o a w (apply V o.dst {v:=.int .i64 (n:Int)}):=by intro n hr;exact Bi hs hf (by simp[execOp,ho,resolve,gN,lh,invoke,builtin,hr]) (.refl w) (.int .i64 _)
 simp only[exec] at h;obtain⟨n,hn,rfl⟩:=bB.1 h;refine gB ?_;rcases hd with ⟨rfl,rfl⟩ | ⟨e',rfl,rfl⟩ | ⟨k',e',rfl,rfl⟩
 ·cases hr:r1.ev V.tmps<;>rw[hr] at hn H<;>simp only[If] at hn<;>first | contradiction | skip
  rename_i s;cases hn;have hz:(⟨s.toArray⟩:ByteArray).size=s.length:=by simp[ByteArray.size]
  rw[B4 H];simp only[Builtin.len_,a0,Sem.run_bind,run_underlying hu,Result.andThen_ok,List.getElem?_toArray,List.getElem?_cons_zero,goInt,hz,Sem.run_pure]
 ·cases hr:r1.ev V.tmps<;>rw[hr] at hn H<;>simp only[If] at hn<;>first | contradiction | skip
  {cases hn;simp[Builtin.len_,a0,run_underlying hu,Fb H,goInt]};{cases hn;rcases Hy H with ⟨b,off,cap,c,E',fr,hv,_⟩ | ⟨rfl,ad,cap,hv,_⟩<;>simp[Builtin.len_,a0,run_underlying hu,hv,goInt]};{cases hn;rcases Gi H with ⟨b,C,cap,hL,hv,hC,hn⟩ | ⟨hL,hv,rfl,rfl⟩<;>simp[Builtin.len_,a0,run_underlying hu,hv,goInt]}
 ·cases hr:r1.ev V.tmps<;>rw[hr] at hn H<;>simp only[If] at hn<;>first | contradiction | skip
  {cases hn;simp[Builtin.len_,a0,run_underlying hu,Xy H,goInt]}
  ·rename_i es;cases hn;obtain⟨r,gD,clock,hv,_,hb,fX⟩:=Xz H;have hl:=fX.length;rw[Uy] at hl;have:es.length / 2=gD.size:=by simp at hl;omega
   rw[this];have hg:(getObj r).run cx.P w=.ok (.map gD clock) w:=by simp[getObj,Sem.run,hb]
   simp[Builtin.len_,a0,run_underlying hu,hv,goInt,hg]
  ·rename_i J;split at hn
   case h_2=>cases hn
   rename_i es gK;cases hn;obtain⟨b,C,hL,hv⟩:=PW H;obtain⟨p,hp,ha⟩:=hs.ob J _ gK;rw[hL] at hp;cases hp;obtain⟨gD,clock,hb,fX⟩:=ha;have hl:=fX.length;rw[Uy] at hl;have:es.length / 2=gD.size:=by simp at hl;omega
   rw[this];have hg:(getObj b).run cx.P w=.ok (.map gD clock) w:=by simp[getObj,Sem.run,hb]
   simp[Builtin.len_,a0,run_underlying hu,hv,goInt,hg]
theorem an {w:eS} {I:Nat->Prop} {lp:Nat->fb} {L:fm} (mx:Bool) (k:eW):∀ (Z:fa) (A:List eT) (x n:Int),Ae w I lp L Z A->LF mx k x Z=some n ->
  (A.foldlM (if mx then Builtin.max2 else Builtin.min2) (.int k x)).run P w'=.ok (.int k n) w':=by
 intro Z;induction Z with
 | nil=>intro A x n h hn;cases h;simp only[LF,bC] at hn;subst hn;rfl
 | cons y ys ih =>
  intro A x n h hn;cases h with
  | cons _ v _ A h hs =>
   cases y<;>simp only[LF] at hn<;>first | contradiction | skip
   rename_i k' b;obtain⟨hk,hn2⟩:=AK hn;have hk:=beq_iff_eq.1 hk;subst hk;rw[B5 h];rw[List.foldlM_cons];cases mx;{simp only[bL,eE] at hn2 |-;rw[Sem.run_bind];have:(Builtin.min2 (.int k x) (.int k b)).run P w'=.ok (.int k (if b < x then b else x)) w':=rfl;rw[this,Result.andThen_ok];simpa using ih A _ _ hs hn2};{simp only[eF] at hn2 |-;rw[Sem.run_bind];have:(Builtin.max2 (.int k x) (.int k b)).run P w'=.ok (.int k (if b>x then b else x)) w':=rfl;rw[this,Result.andThen_ok];simpa using ih A _ _ hs hn2}
theorem Wn (hs:SR lp I L V a.tmps.toList fE w) (hf:Fr cx w0 I0 F0 O0 Hd R e ds I F L w) (ho:o.op=.call c) (gN:c.callee=.builtin (if mx then .max else .min))
  (U:Di cx.G c.args.toList=some rs)
  (h:exec (o.dst.getD 0) (Aa V.fA) V.tmps (.ij mx rs)=some out):Bb cx w0 I0 F0 O0 Hd R e ds F lp fE o a w (apply V o.dst out):=by
 have H:=Pz hs hf.wd U;simp only[exec] at h;split at h
 case h_2=>cases h
 rename_i k x rest hr;rw[hr] at H;obtain⟨n,hn,rfl⟩:=bB.1 h;cases hv:c.args.toList.map a.eval with
 | nil=>rw[hv] at H;cases H
 | cons v A =>
  rw[hv] at H;cases H with
  | cons _ _ _ _ mG hx2 =>
   have hm:(c.args.map a.eval).toList=v :: A:=by rw[eo,hv]
   have hfm:=an (P:=cx.P) (w':=w) mx k rest A x n hx2 hn;rw[<-B5 mG] at hfm;refine Bi hs hf (v':=.int k n) ?_ (.refl w) (.int k _);cases mx;{simp only[bL,eE] at gN hfm;simp[execOp,ho,resolve,gN,invoke,builtin,Builtin.min_,hv,hfm]};{simp only[eF] at gN hfm;simp[execOp,ho,resolve,gN,invoke,builtin,Builtin.max_,hv,hfm]}
end ops
end Go.Ab

