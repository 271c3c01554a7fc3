/- Part 1 of a proof: laws of a machine. -/
import GoSem.Step
import Derived.Laws.Sem
import Derived.RangeFuncLeaves
import Derived.RangeFuncSeq
import Derived.RangeFuncCalls
import Derived.Laws.Append
import Derived.OwnWalkIn
import Derived.Laws.MakeOwn
import Derived.Carry
import Derived.Laws.Strings
import Derived.Laws.Strings2
import Derived.Laws.Concat
import Derived.Laws.AppendOwn
set_option linter.all false

def lm:=@if_false
def lq:=@if_true
def lr:=@if_neg
def lu:=@if_pos
def lw:=@decide_eq_true_eq
def ly:=@beq_iff_eq
def lz:=@decide_true
def lC:=@decide_false
def lD:=@congrArg
def lE:=@decide_eq_true_iff
def lF:=@beq_self_eq_true
def lG:=@not_false_eq_true
def lH:=@absurd
def lI:=@of_decide_eq_true
abbrev lJ:=Go.World
abbrev lK:=Go.Value
abbrev lL:=Go.FuncId
abbrev lM:=Go.Operand
abbrev lN:=Go.IntKind
abbrev lO:=Go.Program
abbrev lP:=Go.TypeId
abbrev lQ:=Go.Deferred
abbrev lR:=Go.TypeDesc
abbrev lT:=Option Nat
abbrev lU:=List Nat
abbrev l4:=List UInt8
abbrev l9:=List Int
def ic:=@Option.some.inj
def ie:=@Bool.and_eq_true
def ig:=@Nat.le_of_ble_eq_true
def ii:=@List.mem_map
def ij:=@Option.map_eq_some_iff
def ik:=@Nat.le_refl
def il:=@Option.some.injEq
def im:=@List.mem_cons
def ip:=@List.getD_eq_getElem?_getD
def iq:=@Bool.false_eq_true
def iu:=@Option.map_some
def iw:=@List.mem_cons_self
def ix:=@List.getElem?_eq_some_iff
def iy:=@List.all_eq_true
def iz:=@List.mem_of_getElem?
def iA:=@List.mem_cons_of_mem
def iC:=@List.getElem?_map
def iE:=@List.map_cons
def iF:=@List.mem_append_left
def iG:=@List.getElem?_eq_getElem
def iH:=@List.mem_append
def iI:=@List.getElem?_set_ne
def iJ:=@List.mem_append_right
def iK:=@List.map_map
def iL:=@Nat.add_mul
def iM:=@List.length_cons
def iN:=@Ne.symm
def iO:=@Nat.zero_add
def iP:=@Prod.mk.injEq
def iQ:=@List.length_append
def iR:=@List.getElem?_eq_none_iff
def iS:=@List.isEmpty_iff
def iT:=@Option.getD_some
def iU:=@List.mem_singleton
def iV:=@List.map_congr_left
def iW:=@List.length_map
def iX:=@List.append_assoc
def iY:=@List.mem_zipIdx_iff_getElem?
def iZ:=@Bool.and_self
def i6:=@List.getElem?_eq_none
def i7:=@Nat.eq_of_beq_eq_true
def ja:=@List.mem_of_mem_take
def jb:=@List.take_of_length_le
def jc:=@List.ext_getElem?
def jd:=@List.getElem?_append_left
def je:=@Nat.mul_le_mul_right
def jf:=@Nat.min_eq_left
def jg:=@List.take_take
def jh:=@Option.bind_eq_some_iff
def ji:=@List.mem_flatMap
def jj:=@List.map_nil
def jk:=@Nat.blt_eq
def jl:=@List.contains_iff_mem
def jm:=@List.pairwise_cons
def jn:=@List.all_append
def jo:=@List.getElem?_set_self
def jp:=@List.all_cons
def jq:=@List.length_nil
def jr:=@Bool.true_and
def js:=@List.getElem?_append_right
def jt:=@Bool.not_eq_true'
def ju:=@List.mem_filter
def jv:=@List.mapM_cons
def jx:=@Array.toArray_toList
def jy:=@List.foldl_cons
def jz:=@List.nil_append
def jA:=@List.take_length
def jB:=@Bool.and_eq_true_iff
def jC:=@Bool.not_true
def jD:=@List.getElem?_zipIdx
def jE:=@List.map_append
def jF:=@List.getElem_mem
def jG:=@List.getElem?_range
def jH:=@List.mem_of_mem_drop
def jI:=@List.drop_take
def jJ:=@List.flatMap_cons
def jK:=@List.set_comm
def jL:=@Option.map_none
def jM:=@Bool.false_and
def jN:=@Bool.eq_iff_iff
def jO:=@Nat.lt_of_lt_of_le
def jP:=@Nat.zero_le
def jQ:=@Array.length_toList
def jR:=@Option.isSome_iff_exists
def jS:=@List.mem_range
def jT:=@Option.bind_some
def jU:=@Nat.one_mul
def jV:=@List.isEmpty_nil
def jW:=@Bool.or_eq_true_iff
def jX:=@Bool.or_eq_false_iff
def jY:=@Option.isNone_iff_eq_none
def jZ:=@List.not_mem_nil
def j0:=@List.drop_drop
def j3:=@Array.getElem?_toList
def j4:=@List.getElem?_take_of_lt
def j5:=@List.length_take
def j6:=@List.append_nil
def j7:=@List.drop_eq_nil_of_le
def j8:=@List.drop_zero
def j9:=@Bool.false_or
def ka:=@Nat.lt_or_ge
def kb:=@Classical.byContradiction
def kc:=@Bool.not_false
def kd:=@Nat.add_sub_cancel_left
def ke:=@Nat.add_assoc
def kf:=@List.map_set
def kg:=@Bool.or_eq_true
def ki:=@List.cons_append
def kj:=@List.append_eq_nil_iff
def ko:=@List.drop_eq_getElem_cons
def kq:=@Nat.le_trans
def kr:=@Option.bind_eq_bind
def ku:=@List.getElem?_drop
def kw:=@List.mem_or_eq_of_mem_set
def kx:=@Option.map_map
def ky:=@List.zipIdx_cons
def kz:=@List.mem_filterMap
def kA:=@List.nodup_cons
def kB:=@Array.getElem?_eq_some_iff
def kC:=@Array.getElem?_eq_none
def kD:=@List.getElem_of_mem
def kE:=@Option.pure_def
def kF:=@List.eq_of_mem_replicate
def kG:=@List.length_pos_iff
def kH:=@List.size_toArray
def kI:=@Nat.min_zero
def kJ:=@List.flatMap_def
def kK:=@List.getElem?_set
def kL:=@List.getElem?_replicate
def kM:=@Nat.sub_zero
def kN:=@List.length_eq_zero_iff
def kO:=@List.take_append_of_le_length
def kP:=@List.drop_of_length_le
def kQ:=@List.lookup_cons
def kR:=@Array.toList_setIfInBounds
def kS:=@Nat.ne_of_beq_eq_false
def kT:=@List.set_eq_of_length_le
def kU:=@List.take_append
def kV:=@Array.mapM_eq_mapM_toList
def kW:=@Array.toList_map
def kX:=@Option.isSome_none
def kY:=@Array.size_append
def kZ:=@Nat.add_sub_cancel'
def lc:=@List.flatMap_map
def lf:=@List.drop_length
def lg:=@List.idxOf_lt_length_of_mem
def lh:=@Int.tdiv_eq_ediv_of_nonneg
def lj:=@Int.tmod_eq_emod_of_nonneg
def ll:=@List.take_succ_eq_append_getElem
namespace Go.Ab
variable{E α:Type} {b:Bool} {e1:E} {x:Option α} {y:α}
abbrev Nm:=Nat×Nat
abbrev lW:=List Nm
inductive PV where
 | undef
 | bool (b:Bool)
 | int (k:lN) (n:Int)
 | str (s:l4)
 | mu | mJ | nn | mB | ni
 | sl (k:Nat) (Z:List PV) (full:Bool)
 | ptr (cs:List PV) (o:Nat)
 | agg (cs:List PV)
 | iface (t:lP) (x:PV)
 | fn (f:lL) (cap:List PV)
 | mF (d:Nat)
 | mn (Z:List PV)
 | nb (es:List PV)
 | mY (g:Nat) (t:lP)
 | ref (J:Nm) (o:Nat)
 | my (J:Nm) (k i o:Nat)
 | arr (J:Nm) (k o n:Nat)
 | mp (J:Nm)
 | it (J:Nm)
 deriving Inhabited
abbrev mc:=Option PV
abbrev lS:=List PV
def PV.cells:PV->lS
 | .agg cs=>cs
 | v=>[v]
def PV.isVal:PV->Bool
 | .undef=>false
 | .mn _=>false
 | _=>true
def PV.o5:PV->Bool
 | .undef=>false
 | .mn _=>false
 | .agg _=>false
 | _=>true
def mr:lS->lS
 | []=>[]
 | x :: Z=>x.cells++mr Z
inductive Ob where
 | cells (ty:Nat) (cs:lS)
 | arr (k ty:Nat) (Z:lS)
 | map (es:lS)
 | mD (s:l4) (pos:Nat)
 deriving Inhabited
abbrev lY:=List Ob
abbrev lV:=Option Ob
mutual
def PV.names:PV->lW
 | .agg cs=>Ar cs
 | .iface _ x=>x.names
 | .fn _ cap=>Ar cap
 | .mn Z=>Ar Z
 | .ref J _=>[J]
 | .my J _ _ _=>[J]
 | .arr J _ _ _=>[J]
 | .mp J=>[J]
 | .it J=>[J]
 | .undef | .bool _ | .int _ _ | .str _ | .mu | .mJ | .nn | .mB | .ni | .sl _ _ _ | .ptr _ _ | .mF _ | .nb _ | .mY _ _=>[]
def Ar:lS->lW
 | []=>[]
 | x :: Z=>x.names++Ar Z
end
mutual
def PV.mV:PV->Bool
 | .agg cs=>A5 cs
 | .iface _ x=>x.mV
 | .fn _ cap=>A5 cap
 | .mn Z=>A5 Z
 | .sl _ Z _=>A5 Z
 | .ptr cs _=>A5 cs
 | .nb es=>A5 es
 | .mF _=>true
 | .undef | .bool _ | .int _ _ | .str _ | .mu | .mJ | .nn | .mB | .ni | .ref _ _ | .my _ _ _ _ | .arr _ _ _ _ | .mp _ | .it _ | .mY _ _=>false
def A5:lS->Bool
 | []=>false
 | x :: Z=>x.mV||A5 Z
end
mutual
def PV.free:PV->Bool
 | .agg cs=>FW cs
 | .iface _ x=>x.free
 | .fn _ cap=>FW cap
 | .mn Z=>FW Z
 | .sl _ _ _=>false
 | .ptr _ _=>false
 | .nb _=>false
 | .mY _ _=>false
 | .undef | .bool _ | .int _ _ | .str _ | .mu | .mJ | .nn | .mB | .ni | .mF _ | .ref _ _ | .my _ _ _ _ | .arr _ _ _ _ | .mp _ | .it _=>true
def FW:lS->Bool
 | []=>true
 | x :: Z=>x.free&&FW Z
end
def Ob.free:Ob->Bool
 | .cells _ cs=>FW cs
 | .arr _ _ Z=>FW Z
 | .map es=>FW es
 | .mD _ _=>true
mutual
def PV.sub (f:Nm->Option lV):PV->PV
 | .agg cs=>.agg (AM f cs)
 | .iface t x=>.iface t (x.sub f)
 | .fn g cap=>.fn g (AM f cap)
 | .mn Z=>.mn (AM f Z)
 | .ref J o=>match f J with
  | none=>.ref J o
  | some (some (.cells _ cs))=>if o < cs.length then .ptr cs o else .undef
  | some _=>.undef
 | .my J k i o=>match f J with
  | none=>.my J k i o
  | some (some (.arr k' kt Z))=>if k=k' then (match Z[i]? with | some x=>if o < x.cells.length then .ptr x.cells o else .undef | none=>.undef) else .undef
  | some _=>.undef
 | .arr J k o n=>match f J with
  | none=>.arr J k o n
  | some (some (.arr k' kt Z))=>if k=k'/\o+n<=Z.length then .sl k ((Z.drop o).take n) false else .undef
  | some _=>.undef
 | .mp J=>match f J with
  | none=>.mp J
  | some (some (.map es))=>.nb es
  | some _=>.undef
 | .it J=>match f J with
  | none=>.it J
  | some _=>.undef
 | .undef=>.undef | .bool b=>.bool b | .int k n=>.int k n | .str s=>.str s
 | .mu=>.mu | .mJ=>.mJ | .nn=>.nn | .mB=>.mB | .ni=>.ni
 | .sl k Z b=>.sl k Z b | .ptr cs o=>.ptr cs o | .mF d=>.mF d | .nb es=>.nb es | .mY g t=>.mY g t
def AM (f:Nm->Option lV):lS->lS
 | []=>[]
 | x :: Z=>x.sub f :: AM f Z
end
def Ob.sub (f:Nm->Option lV):Ob->Ob
 | .cells ty cs=>.cells ty (AM f cs)
 | .map es=>.map (AM f es)
 | o=>o
mutual
def PV.mz (f:Nm->Nm):PV->PV
 | .agg cs=>.agg (AY f cs)
 | .iface t x=>.iface t (x.mz f)
 | .fn g cap=>.fn g (AY f cap)
 | .mn Z=>.mn (AY f Z)
 | .ref J o=>.ref (f J) o
 | .my J k i o=>.my (f J) k i o
 | .arr J k o n=>.arr (f J) k o n
 | .mp J=>.mp (f J)
 | .it J=>.it (f J)
 | .undef=>.undef | .bool b=>.bool b | .int k n=>.int k n | .str s=>.str s
 | .mu=>.mu | .mJ=>.mJ | .nn=>.nn | .mB=>.mB | .ni=>.ni
 | .sl k Z b=>.sl k Z b | .ptr cs o=>.ptr cs o | .mF d=>.mF d | .nb es=>.nb es | .mY g t=>.mY g t
def AY (f:Nm->Nm):lS->lS
 | []=>[]
 | x :: Z=>x.mz f :: AY f Z
end
def Ob.mz (f:Nm->Nm):Ob->Ob
 | .cells ty cs=>.cells ty (AY f cs)
 | .map es=>.map (AY f es)
 | o=>o
def Ob.names:Ob->lW
 | .cells _ cs=>Ar cs
 | .map es=>Ar es
 | _=>[]
def FK (σ:Nm->lV):Nat->Ob->Ob
 | 0,o=>o.sub fun _=>some none
 | d+1,o=>o.sub fun J=>some ((σ J).map (FK σ d))
def AI (σ:Nm->lV):Nat->lW->lW
 | 0,l=>l
 | d+1,l=>l++AI σ d (l.flatMap fun J=>((σ J).map Ob.names).getD [])
def AG:Nat:=3
def B3 (σ:Nm->lV) (R:lW):Bool:=R.all fun J=>(((σ J).map Ob.names).getD []).all fun m=>R.contains m
def A7 (σ:Nm->lV) (J:Nm):Option lV:=some ((σ J).map (FK σ AG))
inductive RX where
 | t (i:Nat)
 | c (v:PV)
 deriving Inhabited
abbrev mh:=Option RX
abbrev md:=List RX
inductive TC where
 | num | str | bool | iface | slice | map | func | ptr | other
 | plain (l:lU)
 deriving DecidableEq,Inhabited
inductive An where
 | mov (x:RX)
 | pick (c a b:RX)
 | box (x:RX)
 | alloc (ty:Nat) (z:lS)
 | build (z:lS) (ps:List (Nat×Nat×RX))
 | qf (k:Nat) (ps:md)
 | load (n:Nat) (ag:Bool) (x:RX)
 | store (n:Nat) (x v:RX)
 | nilck (x:RX)
 | bin (op:BinOp) (c:TC) (pU:Bool) (x y:RX)
 | un (op:UnOp) (x:RX)
 | conv (k:lN) (x:RX)
 | nS (x:RX)
 | ofBytes (x:RX)
 | oe (x:RX)
 | pt (x:RX)
 | mkI (t:lP) (x:RX)
 | mkF (f:lL) (cap:md)
 | mkMap
 | insert (c:TC) (x k v:RX)
 | lookup (c:TC) (z:PV) (ok:Bool) (x k:RX)
 | uN (k:Nat) (z:PV) (len cap:RX)
 | slice (k:Nat) (x:RX) (lo hi mx:mh)
 | nB (x:RX) (lo hi:mh)
 | fieldAddr (off:Nat) (x:RX)
 | field (off n:Nat) (ag:Bool) (x:RX)
 | mw (k:Nat) (x i:RX)
 | nL (k len:Nat) (x i:RX)
 | oE (x i:RX)
 | extract (j:Nat) (x:RX)
 | len (c:TC) (x:RX)
 | append (k ty:Nat) (s x:RX)
 | copy (k:Nat) (d s:RX)
 | nQ (mx:Bool) (Z:md)
 | call (f:RX) (args:md)
 | iter (x:RX)
 | next (x:RX)
 | nJ (t:lP) (z:PV) (ok:Bool) (x:RX)
 | bad
 deriving Inhabited
structure AD where
 dst:lT
 op:An
 guard:Option (Nat×Bool)
 deriving Inhabited
abbrev l8:=List AD
inductive A1 where
 | skip
 | region (ops:l8) (draw:Option (List (Nat×Nat))) (live:Option lU)
 | seq (a b:A1)
 | cond (c:RX) (thn els:A1)
 | block (id:Nat) (body:A1)
 | loop (mT:lU) (grow:List (Nat×Nat)) (body:A1)
 | rangeFunc (f:RX) (ps:lU) (assign body:A1)
 | exit (id:Nat)
 | scope (body:A1)
 | ret
 | norm (grow:List (Nat×Nat))
 | pZ (ops:l8) (f:RX) (args:md) (live:Option lU)
 | bad
 deriving Inhabited
def CU:A1->Bool
 | .pZ _ _ _ _=>false
 | .seq a b=>CU a&&CU b
 | .cond _ a b=>CU a&&CU b
 | .block _ b=>CU b
 | .scope b=>CU b
 | _=>true
inductive F7 where
 | tmp (t:Nat)
 | cell (t n:Nat) (ag:Bool)
 deriving Inhabited
structure Ah where
 nt:Nat
 code:A1
 res:List F7
 io:Bool:=false
 shut:Bool:=false
 nC:Bool:=false
 gone:lU:=[]
 mX:Bool:=false
 deriving Inhabited
abbrev l6:=Option Ah
structure St where
 tmps:lS
 mi:List lY
 mj:lS
 deriving Inhabited
def Ac (σ:List lY) (J:Nm):lV :=
 match σ[J.1]? with
 | some l=>l[J.2]?
 | none=>none
def RX.ev (tm:lS):RX->PV
 | .t i=>tm.getD i .undef
 | .c v=>v
def Cz (tm:lS):mh->mc
 | none=>none
 | some x=>some (x.ev tm)
def AR (σ:List lY) (J:Nm) (o:Ob):List lY :=
 match σ[J.1]? with
 | some l=>σ.set J.1 (l.set J.2 o)
 | none=>σ
def AP:Ob:=.arr 0 0 []
structure Al where
 v:PV
 new:lY:=[]
 nf:Option (Nm×Ob):=none
 kill:Option Nm:=none
 mX:lW:=[]
 gone:lW:=[]
 nh:List (Nm×Ob):=[]
 io:Bool:=false
 slot:lT:=none
abbrev l5:=Option Al
def Av (b:Bool) (x:Option α):Option α:=if b then x else none
theorem ND (h:Av b x=some y):b=true/\x=some y:=by
 cases b with
 | true=>exact⟨rfl,h⟩
 | false=>cases h
theorem Rt (x:Option α):Av true x=x:=rfl
def Cd (cs:lS) (o n:Nat) (ag:Bool):mc :=
 if ag then Av (decide (o+n<=cs.length)) (some (.agg ((cs.drop o).take n))) else cs[o]?
def nc (cs:lS) (o:Nat) (A:lS):lS:=cs.take o++A++cs.drop (o+A.length)
def EK (tm:lS):lS->List (Nat×Nat×RX)->Option lS
 | z,[]=>some z
 | z,(off,n,x) :: ps =>
  Av ((x.ev tm).isVal&&decide ((x.ev tm).cells.length=n)&&decide (off+n<=z.length)) (EK tm (nc z off (x.ev tm).cells) ps)
def EH:Nat:=2147483648
def Cm (s:l4):lS:=s.map fun b=>.int .u8 b.toNat
def KW:PV->Option UInt8
 | .int .u8 n=>if 0<=n/\n < 256 then some (UInt8.ofNat n.toNat) else none
 | _=>none
def Ef:lS->Option l4
 | []=>some []
 | x :: Z=>match KW x,Ef Z with
  | some b,some bs=>some (b :: bs)
  | _,_=>none
def DD (σ:Nm->lV) (k:Nat):PV->Option lS
 | .sl k' Z _=>Av (k==k') (some Z)
 | .arr J k' o n=>match σ J with
  | some (.arr qg kt Z)=>Av (k==k'&&k'==qg&&decide (o+n<=Z.length)) (some ((Z.drop o).take n))
  | _=>none
 | .mu=>some []
 | .str s=>Av (k==1) (some (Cm s))
 | _=>none
def Qq:PV->Bool
 | .str _=>true
 | _=>false
def On:PV->PV->Option Bool
 | .int k a,.int k' b=>Av (k==k') (some (a==b))
 | .str a,.str b=>some (a==b)
 | .bool a,.bool b=>some (a==b)
 | _,_=>none
def G8 (k:PV):lS->Option mc
 | a :: v :: es=>match On k a with
  | some true=>some (some v)
  | some false=>G8 k es
  | none=>none
 | []=>some none
 | _=>none
def EP (k v:PV):lS->Option lS
 | a :: u :: es=>match On k a with
  | some true=>some (k :: v :: es)
  | some false=>(EP k v es).map fun l=>a :: u :: l
  | none=>none
 | []=>some [k,v]
 | _=>none
def GN:TC->PV->Bool
 | .num,.int _ _ | .str,.str _ | .bool,.bool _=>true
 | _,_=>false
def KT:BinOp->Int->Int->Option Bool
 | .eql,x,y=>some (x==y)
 | .neq,x,y=>some (x != y)
 | .lss,x,y=>some (decide (x < y))
 | .leq,x,y=>some (decide (x<=y))
 | .gtr,x,y=>some (decide (x>y))
 | .geq,x,y=>some (decide (x≥y))
 | _,_,_=>none
def L6:l4->l4->Bool
 | _,[]=>false
 | [],_ :: _=>true
 | a :: x,b :: y=>a < b||(a==b&&L6 x y)
def PP:Nat:=9223372036854775807
def Fj (op:BinOp) (k:lN) (x y:Int):mc :=
 match op with
 | .add=>some (.int k (k.wrap (x+y)))
 | .sub=>some (.int k (k.wrap (x - y)))
 | .mul=>some (.int k (k.wrap (x*y)))
 | .quo=>Av (y != 0) (some (.int k (k.wrap (x.tdiv y))))
 | .rem=>Av (y != 0) (some (.int k (x.tmod y)))
 | .and=>some (.int k (k.wrap (BitVec.ofInt k.bits x &&& BitVec.ofInt k.bits y).toNat))
 | .or=>some (.int k (k.wrap (BitVec.ofInt k.bits x ||| BitVec.ofInt k.bits y).toNat))
 | .xor=>some (.int k (k.wrap (BitVec.ofInt k.bits x ^^^ BitVec.ofInt k.bits y).toNat))
 | .andNot=>some (.int k (k.wrap (BitVec.ofInt k.bits x &&& ~~~ BitVec.ofInt k.bits y).toNat))
 | op=>(KT op x y).map .bool
def KX (op:BinOp) (x y:l4):mc :=
 match op with
 | .add=>Av (decide (x.length+y.length<=PP)) (some (.str (x++y)))
 | .eql=>some (.bool (x==y))
 | .neq=>some (.bool (!(x==y)))
 | .lss=>some (.bool (L6 x y))
 | .leq=>some (.bool (L6 x y||x==y))
 | .gtr=>some (.bool (!(L6 x y||x==y)))
 | .geq=>some (.bool (!(L6 x y)))
 | _=>none
def Jy:lU->lS->lS->Option Bool
 | [],[],[]=>some true
 | 0 :: l,.int k a :: Z,.int k' b :: ys=>Av (k==k') (match a==b with | true=>Jy l Z ys | false=>some false)
 | 1 :: l,.str a :: Z,.str b :: ys=>match a==b with | true=>Jy l Z ys | false=>some false
 | 2 :: l,.bool a :: Z,.bool b :: ys=>match a==b with | true=>Jy l Z ys | false=>some false
 | _,_,_=>none
def Li:TC->Bool->PV->PV->Option Bool
 | .iface,pU,.mB,.mB=>Av pU (some true)
 | .iface,_,.mB,.iface _ _ | .iface,_,.iface _ _,.mB | .iface,_,.mB,.mY _ _ | .iface,_,.mY _ _,.mB=>some false
 | .func,_,.nn,.nn=>some true
 | .func,_,.nn,.fn _ _ | .func,_,.fn _ _,.nn=>some false
 | .slice,_,.mu,.mu=>some true
 | .slice,_,.mu,.sl _ (_ :: _) _ | .slice,_,.sl _ (_ :: _) _,.mu=>some false
 | .ptr,_,.mJ,.mJ=>some true
 | .ptr,_,.mJ,.ref _ _ | .ptr,_,.mJ,.ptr _ _ | .ptr,_,.ref _ _,.mJ | .ptr,_,.ptr _ _,.mJ=>some false
 | .bool,_,.bool a,.bool b=>some (a==b)
 | .plain l,_,.agg Z,.agg ys=>Jy l Z ys
 | _,_,_,_=>none
def DF (op:BinOp) (c:TC) (pU:Bool) (x y:PV):mc :=
 match x,y with
 | .int k a,.int k' b =>
  match op with
  | .shl=>Av (decide (0<=b)) (some (.int k (k.wrap (a*2 ^ (min b.toNat k.bits)))))
  | .shr=>Av (decide (0<=b)) (some (.int k (a.fdiv (2 ^ (min b.toNat k.bits)))))
  | op=>Av (k==k') (Fj op k a b)
 | .str a,.str b=>KX op a b
 | x,y =>
  match op with
  | .eql=>(Li c pU x y).map .bool
  | .neq=>(Li c pU x y).map fun b=>.bool (!b)
  | _=>none
def Fk:PV->lT
 | .int _ n=>if 0<=n then some n.toNat else none
 | _=>none
def DQ (x:mc) (d top:Nat):lT :=
 match x with
 | none=>some d
 | some v=>match Fk v with
  | some n=>Av (decide (n<=top)) (some n)
  | none=>none
def Hy (k:Nat) (x:PV) (lo hi mx:mc):mc :=
 match x with
 | .sl k' Z full =>
  match DQ mx Z.length Z.length with
  | none=>none
  | some m=>match DQ hi Z.length m with
   | none=>none
   | some h=>match DQ lo 0 h with
    | none=>none
    | some l=>Av (k==k'&&(mx.isNone||hi.isSome)) (some (.sl k ((Z.take h).drop l) (if mx.isSome then m==h else full&&h==Z.length)))
 | .arr J k' o n =>
  match DQ mx n n with
  | none=>none
  | some m=>match DQ hi n m with
   | none=>none
   | some h=>match DQ lo 0 h with
    | none=>none
    | some l=>Av (k==k'&&(mx.isNone||hi.isSome)) (some (if h=l/\0 < l then .sl k [] false else .arr J k (o+l) (h - l)))
 | .mu =>
  match DQ mx 0 0 with
  | none=>none
  | some m=>match DQ hi 0 m with
   | none=>none
   | some h=>match DQ lo 0 h with
    | none=>none
    | some _=>Av (mx.isNone||hi.isSome) (some .mu)
 | _=>none
def JS (σ:Nm->lV):TC->PV->lT
 | .str,.str s=>some s.length
 | .slice,.sl _ Z _=>some Z.length
 | .slice,.arr _ _ _ n=>some n
 | .slice,.mu=>some 0
 | .map,.ni=>some 0
 | .map,.nb es=>some (es.length / 2)
 | .map,.mp J=>match σ J with
  | some (.map es)=>some (es.length / 2)
  | _=>none
 | _,_=>none
def N0 (mx:Bool) (k:lN):Int->lS->Option Int
 | a,[]=>some a
 | a,.int k' b :: rest=>Av (k==k') (N0 mx k (if mx then (if b>a then b else a) else (if b < a then b else a)) rest)
 | _,_=>none
def Dj:Nat:=1000000
def SP:PV->Bool
 | .fn f _=>Nat.ble Dj f
 | _=>false
def exec (dst:Nat) (σ:Nm->lV) (tm:lS) (op:An):l5 :=
 match op with
 | .mov x=>some {v:=x.ev tm}
 | .pick c a b=>match c.ev tm with
  | .bool true=>some {v:=a.ev tm}
  | .bool false=>some {v:=b.ev tm}
  | _=>none
 | .box x=>Av (x.ev tm).isVal (some {v:=.ref (dst,0) 0,new:=[.cells 0 (x.ev tm).cells]})
 | .alloc ty z=>some {v:=.ref (dst,0) 0,new:=[.cells ty z]}
 | .build z ps=>match EK tm z ps with
  | some cs=>some {v:=.agg cs}
  | none=>none
 | .qf k ps =>
  let Z:=ps.map (RX.ev tm)
  let S:=Ar Z
  if S.isEmpty then Av (Z.all fun x=>x.isVal&&x.cells.length==k) (some {v:=.arr (dst,0) k 0 Z.length,new:=[.arr k 0 Z]})
  else
   let ys:=AM (A7 σ) Z
   Av ((ys.all fun x=>x.isVal&&x.cells.length==k)&&B3 σ (AI σ AG S)) (some {v:=.arr (dst,0) k 0 ys.length,new:=[.arr k 0 ys],mX:=AI σ AG S})
 | .load n ag x=>match x.ev tm with
  | .ref J o=>match σ J with
   | some (.cells _ cs)=>(Cd cs o n ag).map fun v=>{v}
   | _=>none
  | .ptr cs o=>(Cd cs o n ag).map fun v=>{v}
  | .my J k i o=>match σ J with
   | some (.arr k' kt Z)=>match Z[i]? with
    | some e=>Av (k==k') ((Cd e.cells o n ag).map fun v=>{v})
    | none=>none
   | _=>none
  | _=>none
 | .store n x v =>
  let A:=(v.ev tm).cells
  match x.ev tm with
  | .ref J o=>match σ J with
   | some (.cells ty cs)=>Av ((v.ev tm).isVal&&decide (A.length=n)&&decide (o+n<=cs.length)) (some {v:=.undef,nf:=some (J,.cells ty (nc cs o A))})
   | _=>none
  | .my J k i o=>match σ J with
   | some (.arr k' kt Z)=>match Z[i]? with
    | some (.agg es)=>Av (k==k'&&(v.ev tm).isVal&&decide (A.length=n)&&decide (o+n<=es.length)&&(Ar A).isEmpty)
      (some {v:=.undef,nf:=some (J,.arr k kt (Z.set i (.agg (nc es o A))))})
    | some _=>Av (k==k'&&k==1&&o==0&&n==1&&(v.ev tm).o5&&(v.ev tm).names.isEmpty)
      (some {v:=.undef,nf:=some (J,.arr k kt (Z.set i (v.ev tm)))})
    | none=>none
   | _=>none
  | _=>none
 | .nilck x=>match x.ev tm with
  | .ref J o=>some {v:=.ref J o}
  | .ptr cs o=>some {v:=.ptr cs o}
  | .my J k i o=>some {v:=.my J k i o}
  | .fn f cap=>some {v:=.fn f cap}
  | .mF d=>some {v:=.mF d}
  | _=>none
 | .bin op c pU x y=>(DF op c pU (x.ev tm) (y.ev tm)).map fun v=>{v}
 | .un op x=>match op,x.ev tm with
  | .not,.bool b=>some {v:=.bool (!b)}
  | .neg,.int k n=>some {v:=.int k (k.wrap (0 - n))}
  | _,_=>none
 | .conv k x=>match x.ev tm with
  | .int _ n=>some {v:=.int k (k.wrap n)}
  | _=>none
 | .nS x=>match x.ev tm with
  | .str s=>Av (decide (s.length<=PP)) (some {v:=.sl 1 (Cm s) false})
  | _=>none
 | .ofBytes x=>match Av (!Qq (x.ev tm)) (DD σ 1 (x.ev tm)) with
  | some Z=>match Ef Z with
   | some s=>some {v:=.str s}
   | none=>none
  | none=>none
 | .oe x=>match x.ev tm with
  | .int _ n=>some {v:=.str (Utf8.encode n).data.toList}
  | _=>none
 | .pt x=>match x.ev tm with
  | .str s=>some {v:=.str s}
  | _=>none
 | .mkI t x=>some {v:=.iface t (x.ev tm)}
 | .mkF f cap=>some {v:=.fn f (cap.map (RX.ev tm))}
 | .mkMap=>some {v:=.mp (dst,0),new:=[.map []]}
 | .insert c x k v=>match x.ev tm with
  | .mp J=>match σ J with
   | some (.map es) =>
    let S:=if SP (v.ev tm) then [] else (v.ev tm).names
    let R:=if S.isEmpty then [] else AI σ AG S
    let u:=if S.isEmpty then v.ev tm else (v.ev tm).sub (A7 σ)
    match EP (k.ev tm) u es with
    | some pq=>Av (GN c (k.ev tm)&&u.isVal&&(S.isEmpty||(B3 σ R&&(!R.contains J&&(Ar es).isEmpty)))) (some {v:=.undef,nf:=some (J,.map pq),mX:=R})
    | none=>none
   | _=>none
  | _=>none
 | .lookup c z ok x k =>
  let es:Option lS:=match x.ev tm with
   | .mp J=>match σ J with
    | some (.map es)=>some es
    | _=>none
   | .nb es=>some es
   | .ni=>some []
   | _=>none
  match es with
  | none=>none
  | some es=>match G8 (k.ev tm) es with
   | none=>none
   | some r=>Av (GN c (k.ev tm)) (some {v:=if ok then .mn [r.getD z,.bool r.isSome] else r.getD z})
 | .uN k z len cap=>match Fk (len.ev tm),Fk (cap.ev tm) with
  | some l,some c=>Av (decide (l<=c)&&decide (c<=EH)&&(z.cells.length==k)) (some {v:=.arr (dst,0) k 0 l,new:=[.arr k 0 (List.replicate l z)]})
  | _,_=>none
 | .slice k x lo hi mx=>(Hy k (x.ev tm) (Cz tm lo) (Cz tm hi) (Cz tm mx)).map fun v=>{v}
 | .nB x lo hi=>match x.ev tm with
  | .str s=>match DQ (Cz tm hi) s.length s.length with
   | none=>none
   | some h=>match DQ (Cz tm lo) 0 h with
    | none=>none
    | some l=>some {v:=.str ((s.take h).drop l)}
  | _=>none
 | .fieldAddr off x=>match x.ev tm with
  | .ref J o=>some {v:=.ref J (o+off)}
  | .ptr cs o=>Av (decide (o+off < cs.length)) (some {v:=.ptr cs (o+off)})
  | .my J k i o=>some {v:=.my J k i (o+off)}
  | _=>none
 | .field off n ag x=>match x.ev tm with
  | .agg cs=>(Cd cs off n ag).map fun v=>{v}
  | _=>none
 | .mw k x i=>match Fk (i.ev tm),x.ev tm with
  | some j,.sl k' Z _=>match Z[j]? with
   | some e=>Av (k==k'&&decide (0 < k)) (some {v:=.ptr e.cells 0})
   | none=>none
  | some j,.arr J k' o n=>Av (k==k'&&decide (j < n)) (some {v:=.my J k (o+j) 0})
  | _,_=>none
 | .nL k len x i=>match Fk (i.ev tm),x.ev tm with
  | some j,.ptr cs o=>Av (decide (j < len)&&decide (o+j*k < cs.length)) (some {v:=.ptr cs (o+j*k)})
  | some j,.ref J o=>Av (decide (j < len)) (some {v:=.ref J (o+j*k)})
  | _,_=>none
 | .oE x i=>match Fk (i.ev tm),x.ev tm with
  | some j,.str s=>match s[j]? with
   | some b=>some {v:=.int .u8 b.toNat}
   | none=>none
  | _,_=>none
 | .extract j x=>match x.ev tm with
  | .mn Z=>match Z[j]? with
   | some v=>some {v}
   | none=>none
  | _=>none
 | .len c x=>(JS σ c (x.ev tm)).map fun (n:Nat)=>{v:=.int .i64 (n:Int)}
 | .append k ty s x=>match DD σ k (x.ev tm) with
  | none=>none
  | some ys=>match s.ev tm with
   | .mu=>Av (decide (ys.length<=EH)) (some {v:=.arr (dst,0) k 0 ys.length,new:=[.arr k ty ys]})
   | .arr J k' o n=>match σ J with
    | some (.arr qg kt Z)=>Av (k==k'&&k'==qg&&o==0&&decide (n<=Z.length)&&decide (n+ys.length<=EH))
      (some {v:=.arr J k 0 (n+ys.length),nf:=some (J,.arr k (if kt=ty then ty else 0) (Z.take n++ys)),kill:=some J})
    | _=>none
   | .sl k' Z true=>match ys with
    | []=>Av (k==k') (some {v:=.sl k' Z true})
    | y :: ys=>Av (k==k'&&decide (Z.length+(ys.length+1)<=EH)) (some {v:=.arr (dst,0) k 0 (Z.length+(ys.length+1)),new:=[.arr k ty (Z++y :: ys)]})
   | _=>none
 | .copy k d s=>match DD σ k (s.ev tm) with
  | none=>none
  | some ys=>match d.ev tm with
   | .mu=>some {v:=.int .i64 0}
   | .sl _ [] _=>some {v:=.int .i64 0}
   | .arr J k' o n=>match σ J with
    | some (.arr qg kt Z)=>Av (k==k'&&k'==qg&&decide (o+n<=Z.length))
      (some {v:=.int .i64 (min ys.length n),nf:=some (J,.arr k kt (Z.take o++ys.take n++Z.drop (o+(ys.take n).length)))})
    | _=>none
   | _=>none
 | .nQ mx Z=>match (Z.map (RX.ev tm):lS) with
  | .int k a :: rest=>(N0 mx k a rest).map fun n=>{v:=.int k n}
  | _=>none
 | .iter x=>match x.ev tm with
  | .str s=>some {v:=.it (dst,0),new:=[.mD s 0]}
  | _=>none
 | .next x=>match x.ev tm with
  | .it J=>match σ J with
   | some (.mD s pos) =>
    if pos < s.length then
     some {v:=.mn [.bool true,.int .i64 pos,.int .i32 (Utf8.decode ⟨s.toArray⟩ pos).1],nf:=some (J,.mD s (pos+(Utf8.decode ⟨s.toArray⟩ pos).2))}
    else some {v:=.mn [.bool false]}
   | _=>none
  | _=>none
 | .nJ t z ok x=>match x.ev tm with
  | .iface u y=>if u=t then some {v:=if ok then .mn [y,.bool true] else y}
   else Av ok (some {v:=.mn [z,.bool false]})
  | .mB=>Av ok (some {v:=.mn [z,.bool false]})
  | _=>none
 | .call _ _=>none
 | .bad=>none
def CF (f:Nm->Option lV) (V:St):St:={tmps:=AM f V.tmps,mi:=V.mi.map (·.map (Ob.sub f)),mj:=AM f V.mj}
def B7 (σ:Nm->lV) (R:lW) (V:St):St :=
 let V:=CF (fun m=>if R.contains m then A7 σ m else none) V
 {V with mi:=R.foldl (fun mi J=>AR mi J AP) V.mi}
def Bp:List (Nm×Ob)->List lY->List lY
 | [],mi=>mi
 |(J,o) :: l,mi=>Bp l (AR mi J o)
def apply (V:St) (dst:lT) (o:Al):St :=
 let σ:=Ac V.mi
 let V:=match o.nf with
  | some (J,ob)=>{V with mi:=AR V.mi J ob}
  | none=>V
 let V:=match o.kill with
  | some J=>CF (fun m=>if m=J then some none else none) V
  | none=>V
 let V:=if o.mX.isEmpty then V else B7 σ o.mX V
 let V:=if o.gone.isEmpty then V else CF (fun m=>if o.gone.contains m then some none else none) V
 let V:=if o.nh.isEmpty then V else {V with mi:=Bp o.nh V.mi}
 let V:=match o.slot with
  | some r=>{V with mi:=V.mi.set r (V.mi.getD r []++o.new)}
  | none=>V
 match dst with
 | some d=>{V with tmps:=V.tmps.set d o.v,mi:=if o.slot.isSome||o.new.isEmpty then V.mi else V.mi.set d o.new}
 | none=>V
abbrev AF (E:Type):=Nat->lS->E->Option (Bool×E)
abbrev Ha:=(E:Type)->AF E->Nat->lL->lS->E->Option (PV×lY×E)
def AO (f:lL):lL:=match Nat.blt f Dj with
 | true=>f
 | false=>f%Dj
def Fa (f:lL):Nat:=match Nat.blt f Dj with
 | true=>0
 | false=>f / Dj
def Qt (f:lL):Nat->lL
 | 0=>f
 | n+1=>f+Dj*(n+1)
def Bc (f:lL) (A cap:lS):lS:=match Nat.blt f Dj with
 | true=>A++cap
 | false=>cap.take (Fa f)++(A++cap.drop (Fa f))
def AL:AF Unit:=fun _ _ _=>none
structure AK where
 sp:lL->(Nm->lV)->lS->l5
 call:Ha
 ow:lL->Bool
 nC:lL->Bool
 io:lL->Nat->(Nm->lV)->lS->l5
 flat:lL->Bool
 tk:(E:Type)->AF E->Nat->lL->lY->lS->E->Option (St×E)
def EW (d:Nat) (J:Nm):Nm:=(d,J.2)
def Cj (M:AK) (h:AF E) (dep dst:Nat) (σ:Nm->lV) (tm:lS) (f:RX) (args:md) (e:E):Option (Al×E) :=
 let A:=args.map (RX.ev tm)
 match f.ev tm with
 | .mF d =>
  let S:=Ar A
  if S.isEmpty then
   Av (!A5 A) (match h d A e with
    | some (b,e)=>some ({v:=.bool b},e)
    | none=>none)
  else
   let yL:=AM (A7 σ) A
   Av (!A5 yL&&B3 σ (AI σ AG S)) (match h d yL e with
    | some (b,e)=>some ({v:=.bool b,mX:=AI σ AG S},e)
    | none=>none)
 | .fn f cap =>
  let g:=AO f
  let A:=Bc f A cap
  match M.sp g σ A with
  | some out=>some ({out with v:=out.v.mz (EW dst)},e)
  | none =>
  if M.ow g then
   match M.io g dst σ A with
   | some out=>some (out,e)
   | none=>none
  else
  let S:=Ar A
  if S.isEmpty then
   if A5 A then
    match M.call E h dep g A e with
    | some (r,obs,e)=>some ({v:=r.mz (EW dst),new:=obs},e)
    | none=>none
   else match M.call Unit AL 0 g A () with
    | some (r,obs,_)=>some ({v:=r.mz (EW dst),new:=obs},e)
    | none=>none
  else
   let yL:=AM (A7 σ) A
   Av (!A5 yL&&B3 σ (AI σ AG S)) (match M.call Unit AL 0 g yL () with
    | some (r,obs,_)=>some ({v:=r.mz (EW dst),new:=obs,mX:=if r.free&&obs.all Ob.free&&!M.nC g then [] else AI σ AG S},e)
    | none=>none)
 | _=>none
def DO:An->Bool
 | .box _ | .alloc _ _ | .qf _ _ | .mkMap | .uN _ _ _ _ | .append _ _ _ _ | .call _ _ | .iter _=>true
 | _=>false
def Ce (o:AD) (V:St):Bool :=
 if DO o.op then
  match o.dst with
  | some d=>match V.mi[d]? with
   | some []=>true
   | _=>false
  | none=>match o.op with
   | .call _ _=>true
   | _=>false
 else true
def Jv (dst:lT) (out:Al):Bool:=!out.io||dst.isSome||out.new.isEmpty||out.slot.isSome
variable{dst:lT}
theorem QF {x:Option (Al×E)} {out:Al} (h:(match x with
   | some (out,e)=>Av (Jv dst out) (some (out,e))
   | none=>none)=some (out,e1)):x=some (out,e1)/\Jv dst out=true:=by
 cases x with
 | none=>cases h
 | some p =>
  simp only[Av] at h;split at h;{rename_i U;cases h;exact⟨rfl,U⟩};{cases h}
def By (M:AK) (h:AF E) (dep:Nat) (o:AD) (V:St) (e:E):Option (Al×E) :=
 Av (Ce o V) (match o.op with
  | .call f args=>match Cj M h dep (o.dst.getD 0) (Ac V.mi) V.tmps f args e with
   | some (out,e)=>Av (Jv o.dst out) (some (out,e))
   | none=>none
  | op=>match exec (o.dst.getD 0) (Ac V.mi) V.tmps op with
   | some out=>some (out,e)
   | none=>none)
def IA (M:AK) (h:AF E) (dep:Nat) (o:AD) (V:St) (e:E):Option (St×E) :=
 match By M h dep o V e with
 | some (out,e)=>some (apply V o.dst out,e)
 | none=>none
def BO (ops:l8) (o:AD) (tm:lS):Option Bool :=
 match o.guard with
 | none=>some true
 | some (j,want) =>
  match ops[j]? with
  | some p=>match p.dst with
   | some d=>match tm.getD d .undef with
    | .bool b=>some (b==want)
    | .mn []=>some false
    | _=>none
   | none=>none
  | none=>none
def stepG (M:AK) (h:AF E) (dep:Nat) (ops:l8) (o:AD) (V:St) (e:E):Option (St×E) :=
 match BO ops o V.tmps with
 | some true=>IA M h dep o V e
 | some false=>some (apply V o.dst {v:=.mn []},e)
 | none=>none
def Dy (M:AK) {E:Type} (h:AF E) (dep:Nat) (ops:l8):l8->St->E->Option (St×E)
 | [],V,e=>some (V,e)
 | o :: rest,V,e=>match stepG M h dep ops o V e with
  | some (V,e)=>Dy M h dep ops rest V e
  | none=>none
def BI (ops:l8):lU:=ops.filterMap fun o=>if DO o.op then o.dst else none
def Cf (ds:lU) (V:St):St :=
 if ds.all fun d=>(V.mi.getD d []).isEmpty then V
 else
  let V:=CF (fun m=>if ds.contains m.1 then some none else none) V
  {V with mi:=V.mi.zipIdx.map fun (l,i)=>if ds.contains i then [] else l}
def B2:PV->Bool
 | .undef=>true
 | _=>false
def mQ (V:St):lU:=(V.tmps.zipIdx.filter fun (v,_)=>B2 v).map (·.2)
def Ma (V:St) (t:Nat):Bool :=
 match V.mi[t]? with
 | some []=>true
 | _=>false
def G3 (t:Nat) (V:St):St :=
 match V.tmps.getD t .undef with
 | .arr J _ _ _ =>
  if J≠(t,0)/\Ma V t=true then
   match Ac V.mi J with
   | some ob =>
    let f:Nm->Nm:=fun m=>if m=J then (t,0) else m
    let mi:=V.mi.map (·.map (Ob.mz f))
    {tmps:=AY f V.tmps,mi:=(AR mi J AP).set t [ob.mz f],mj:=AY f V.mj}
   | none=>V
  else V
 | _=>V
def Fh:Nat:=1000000
def Nn (J:Nm) (ty:Nat) (cs:lS) (i k:Nat) (V:St):St :=
 let l:=V.mi.getD J.1 []
 match cs[i]? with
 | some .mu=>{V with mi:=V.mi.set J.1 (l.set J.2 (.cells ty (cs.set i (.arr (J.1,l.length) k 0 0)))++[.arr k 0 []])}
 | some (.arr m _ _ _) =>
  if m.1≠J.1 then
   match Ac V.mi m with
   | some ob =>
    let f:Nm->Nm:=fun x=>if x=m then (J.1,l.length) else x
    let mi:=AR (V.mi.map (·.map (Ob.mz f))) m AP
    {tmps:=AY f V.tmps,mi:=mi.set J.1 (mi.getD J.1 []++[ob.mz f]),mj:=AY f V.mj}
   | none=>V
  else V
 | _=>V
def Oq (x off k:Nat) (V:St):St :=
 match V.tmps.getD x .undef with
 | .ref J o=>match Ac V.mi J with
  | some (.cells ty cs)=>Nn J ty cs (o+off) k V
  | _=>V
 | _=>V
def GO (t k:Nat) (V:St):St :=
 if Fh<=t then Oq (t%Fh) (t / Fh - 1) k V
 else match V.tmps.getD t .undef with
 | .mu=>if Ma V t then {V with tmps:=V.tmps.set t (.arr (t,0) k 0 0),mi:=V.mi.set t [.arr k 0 []]} else V
 | _=>V
def JR (mT:lU) (grow:List (Nat×Nat)) (V:St):St :=
 grow.foldl (fun V (t,k)=>GO t k V) (mT.foldl (fun V t=>G3 t V) V)
def GG (ds:lU) (V:St):St:={V with tmps:=V.tmps.zipIdx.map fun (v,i)=>if ds.contains i then .undef else v}
def G0 (V:St):lU :=
 let R:=Ar V.tmps++Ar V.mj++V.mi.flatMap fun l=>l.flatMap Ob.names
 (List.range V.mi.length).filter fun d=>!(V.mi.getD d []).isEmpty&&R.all fun J=>J.1 != d
def drop (ds:lU) (V:St):St:=Cf (G0 (GG ds V)) (GG ds V)
def norm (mT:lU) (grow:List (Nat×Nat)) (V:St):St:=drop (mQ (JR mT grow V)) (JR mT grow V)
def GE (ks:lU) (V:St):St:={V with tmps:=V.tmps.zipIdx.map fun (v,i)=>if ks.contains i then v else .undef}
def Fz (live:Option lU) (V:St):St :=
 match live with
 | none=>V
 | some ks=>Cf (G0 (GE ks V)) (GE ks V)
def HU (R:lW) (d:Nat):Nat->Nat
 | 0=>0
 | m+1=>if R.contains (d,m) then m+1 else HU R d m
def trim (V:St):St :=
 let R:=Ar V.tmps++Ar V.mj++V.mi.flatMap fun l=>l.flatMap Ob.names
 {V with mi:=V.mi.zipIdx.map fun (l,d)=>l.take (HU R d l.length)}
inductive Cls where
 | quiet | turns | calls | other | ios
 deriving DecidableEq
structure Bk where
 i:Nat
 cls:Cls
 dst:lT
 reads:lU
 rn:lW
 on:lW:=[]
 tch:lW:=[]
 mX:Bool:=false
 vn:lW:=[]
 rv:lW:=[]
 nw:Bool:=false
 ld:Option (Nm×Nat×Nat×Bool×PV):=none
 pr:List (Nm×lV):=[]
 aft:List (Nm×Ob):=[]
 V:Option Nm:=none
 sl:Option (Nat×Nat):=none
def An.Z:An->md
 | .mov x | .box x | .load _ _ x | .nilck x | .un _ x | .conv _ x | .nS x | .ofBytes x | .oe x | .pt x | .mkI _ x | .fieldAddr _ x | .field _ _ _ x | .extract _ x | .len _ x | .iter x | .next x | .nJ _ _ _ x=>[x]
 | .pick c a b=>[c,a,b]
 | .alloc _ _ | .mkMap | .bad=>[]
 | .build _ ps=>ps.map (·.2.2)
 | .qf _ ps=>ps
 | .store _ x v=>[x,v]
 | .bin _ _ _ x y=>[x,y]
 | .mkF _ cap=>cap
 | .insert _ x k v=>[x,k,v]
 | .lookup _ _ _ x k=>[x,k]
 | .uN _ _ l c=>[l,c]
 | .slice _ x lo hi mx=>x :: (lo.toList++hi.toList++mx.toList)
 | .nB x lo hi=>x :: (lo.toList++hi.toList)
 | .mw _ x i | .oE x i=>[x,i]
 | .nL _ _ x i=>[x,i]
 | .append _ _ s x=>[s,x]
 | .copy _ d s=>[d,s]
 | .nQ _ Z=>Z
 | .call f args=>f :: args
def Jt (Z:md):lU:=Z.filterMap fun | .t i=>some i | .c _=>none
def CB (ops:l8) (o:AD):lU :=
 match o.guard with
 | none=>[]
 | some (j,_)=>match ops[j]? with
  | some p=>p.dst.toList
  | none=>[]
def C4:An->Bool
 | .call _ _=>true
 | _=>false
def D7:An->Bool
 | .mov _ | .extract _ _ | .pick _ _ _ | .fieldAddr _ _ | .nilck _ | .mkI _ _ | .mkF _ _ | .slice _ _ _ _ _=>true
 | _=>false
def Eg:An->Bool
 | .load _ _ _=>true
 | _=>false
def HB:An->Bool
 | .store _ _ _=>true
 | _=>false
def KR (op:An):Bool:=Eg op||HB op
def FG (op:An) (stays:Bool):Nat:=if HB op||(Eg op&&stays) then 0 else AG
def Bb (o:Al):Bool:=o.nf.isNone&&o.kill.isNone&&o.mX.isEmpty&&o.gone.isEmpty&&o.nh.isEmpty&&o.slot.isNone
def CM (o:Al):Bool:=o.gone.isEmpty&&o.nh.isEmpty&&o.slot.isNone&&!o.io
def FR (o:Al):Bool:=o.nf.isNone&&o.kill.isNone&&o.mX.isEmpty&&o.gone.isEmpty
def Hl (op:An) (tm:lS) (v:PV):Option (Nm×Nat×Nat×Bool×PV) :=
 match op with
 | .load n ag x=>match x.ev tm with
  | .ref J k=>some (J,k,n,ag,v)
  | _=>none
 | _=>none
def I5 (dst:lT) (op:An) (tm:lS):Option Nm :=
 match dst,op with
 | none,.store _ x _=>match x.ev tm with
  | .ref J _=>some J
  | .my J _ _ _=>some J
  | _=>none
 | _,_=>none
def yM:PV->PV->Bool
 | .arr J k o n,.arr nr k' o' n'=>decide (J=nr/\k=k'/\o=o'/\n=n')
 | .ref J o,.ref nr o'=>decide (J=nr/\o=o')
 | .int k n,.int k' n'=>decide (k=k'/\n=n')
 | .mu,.mu=>true
 | .mJ,.mJ=>true
 | _,_=>false
def Qs (l:Nm×Nat×Nat×Bool×PV):Ob->Bool
 | .cells _ cs=>match Cd cs l.2.1 l.2.2.1 l.2.2.2.1 with
  | some u=>yM u l.2.2.2.2
  | none=>false
 | _=>false
def EE (o:Al):lW :=
 match o.nf with
 | some (J,_)=>[J]
 | none=>[]
def Gk (σ:Nm->lV) (l:lW):lW:=l.flatMap fun J=>((σ J).map Ob.names).getD []
def CI (o:AD) (V:St) (out:Al):lW :=
 if D7 o.op&&Bb out then [] else AI (Ac V.mi) (FG o.op (Bb out)) (Ar (o.op.Z.map (RX.ev V.tmps))++out.mX)
def FU (op:An) (tm:lS):Bool :=
 match op with
 | .call f args=>match f.ev tm with
  | .mF _=>(Ar (args.map (RX.ev tm))).isEmpty
  | _=>false
 | _=>false
def CN (ops:l8) (i:Nat) (o:AD) (V:St) (out:Al):Bk :=
 let A:=o.op.Z.map (RX.ev V.tmps)
 {i,dst:=o.dst,reads:=Jt o.op.Z++CB ops o,rn:=CI o V out,rv:=if KR o.op then [] else Gk (Ac V.mi) (CI o V out),
  cls:=if C4 o.op&&A5 A then (if FU o.op V.tmps then .calls else .other) else if Bb out then .quiet else if CM out then .turns else if FR out then .ios else .other,
  on:=out.v.names++out.new.flatMap Ob.names,tch:=EE out++(out.mX++out.kill.toList),mX:=!(out.mX++out.kill.toList).isEmpty,
  vn:=(Jt o.op.Z++CB ops o).flatMap fun s=>(V.tmps.getD s .undef).names
  nw:=out.new.isEmpty&&!DO o.op,ld:=Hl o.op V.tmps out.v,pr:=out.nh.map fun p=>(p.1,Ac V.mi p.1),aft:=out.nh,V:=I5 o.dst o.op V.tmps,sl:=out.slot.map fun r=>(r,(V.mi.getD r []).length)}
def Gc (a b:lU):Bool:=a.all fun x=>!b.contains x
def SE (f:Bool) (q t:Bk):Bool :=
 (q.rn.all fun J=>!t.tch.contains J)&&Gc q.dst.toList (t.tch.map (·.1))&&(!t.mX||((if f then q.rv.all fun J=>!t.tch.contains J else q.rn.isEmpty)&&(if f then q.vn.all fun J=>!t.tch.contains J else q.reads.isEmpty)&&q.on.all fun J=>!t.tch.contains J))
def yN (a b:Bk):Bool :=
 match a.cls,b.cls with
 | .quiet,.calls=>true
 | .calls,.quiet=>true
 | _,_=>false
def V8 (a b:Bk):Bool :=
 match a.cls,b.cls with
 | .quiet,.quiet=>true
 | .quiet,.turns=>SE true a b
 | .turns,.quiet=>SE false b a
 | _,_=>false
def SF (a b:Bk):Bool :=
 match a.ld with
 | some l=>b.aft.any (fun p=>decide (p.1=l.1))&&(b.aft.all (fun p=>!decide (p.1=l.1)||Qs l p.2)&&b.pr.all fun p=>!decide (p.1=l.1)||match p.2 with
  | some ob=>Qs l ob
  | none=>false)
 | none=>false
def V5 (a b:Bk):Bool :=
 a.rn.all fun J=>(b.pr.all fun p=>!decide (p.1=J))&&match b.sl with
  | some r=>!decide (J.1=r.1)||decide (J.2 < r.2)
  | none=>true
def PX (a b:Bk):Bool :=
 a.dst.toList.all fun d=>(b.pr.all fun p=>!decide (p.1.1=d))&&match b.sl with
  | some r=>!decide (r.1=d)
  | none=>true
def V7 (a b:Bk):Bool :=
 match a.cls,b.cls with
 | .quiet,.ios=>(a.nw||PX a b)&&(V5 a b||SF a b)
 | .ios,.quiet=>(b.nw||PX b a)&&(V5 b a||SF b a)
 | _,_=>false
def V6 (a b:Bk):Bool :=
 match a.V,b.V with
 | some x,some y=>!decide (x=y)
 | _,_=>false
def HS (a b:Bk):Bool :=
 Gc a.dst.toList (b.reads++b.dst.toList)&&Gc b.dst.toList a.reads &&
 Gc a.dst.toList (b.rn.map (·.1))&&Gc b.dst.toList (a.rn.map (·.1)) &&
 (V8 a b||(yN a b||(V7 a b||V6 a b)))
def A3 (M:AK) (h:AF E) (dep:Nat) (ops:l8) (i:Nat) (o:AD) (V:St) (e:E):Option (Al×E×Bk) :=
 match BO ops o V.tmps with
 | some true=>match By M h dep o V e with
  | some (out,e)=>some (out,e,CN ops i o V out)
  | none=>none
 | some false=>some ({v:=.mn []},e,{i,cls:=.quiet,dst:=o.dst,reads:=CB ops o,rn:=[],vn:=(CB ops o).flatMap fun s=>(V.tmps.getD s .undef).names,nw:=!DO o.op})
 | none=>none
def IL (M:AK) (h:AF E) (dep:Nat) (ops:l8) (i:Nat) (o:AD) (V:St) (e:E):Option (St×E×Bk) :=
 match A3 M h dep ops i o V e with
 | some (out,e,info)=>some (apply V o.dst out,e,info)
 | none=>none
def FA (M:AK) {E:Type} (h:AF E) (dep:Nat) (ops:l8):List (Nat×Nat)->List Bk->St->E->Option (St×E)
 | [],_,V,e=>some (V,e)
 |(i,pr) :: rest,infos,V,e=>match ops[i]? with
  | some o=>match IL M h dep ops i o V e with
   | some (V,e,info)=>Av (infos.all fun j=>pr.testBit j.i||HS j info) (FA M h dep ops rest (info :: infos) V e)
   | none=>none
  | none=>none
inductive Ex where
 | normal
 | exit (id:Nat)
 | ret
 deriving DecidableEq
def B4:Nat:=1000000000
abbrev DU (E:Type):=St×Option Ex×E
def GM:lU->lS->lS->lS
 | p :: ps,v :: A,tm=>GM ps A (tm.set p v)
 | _,_,tm=>tm
def KA (V:St) (v:PV):Option (PV×St) :=
 if v.names.isEmpty then some (v,V)
 else Av (B3 (Ac V.mi) (AI (Ac V.mi) AG v.names))
  (some (v.sub (A7 (Ac V.mi)),B7 (Ac V.mi) (AI (Ac V.mi) AG v.names) V))
def C0:lW->Bool
 | []=>true
 | x :: Z=>!Z.contains x&&C0 Z
def Ob.mV:Ob->Bool
 | .cells _ cs=>A5 cs
 | .arr _ _ Z=>A5 Z
 | .map es=>A5 es
 | .mD _ _=>false
def Bt:lW->lW
 | []=>[]
 | x :: Z=>if Z.contains x then Bt Z else x :: Bt Z
def F4 (g:lU) (nt k:Nat):lS:=(List.range nt).map fun j=>if j < k/\g.contains j=false then .arr (0,j) 1 0 0 else .undef
def CO:PV->Option Nm
 | .arr J 1 0 0=>some J
 | _=>none
def FI (R:lW) (mj:lS):List (Nm×Nm):=R.zipIdx.map fun p=>((CO (mj.getD p.2 .undef)).getD (0,p.2),p.1)
def ID (R:lW) (mj:lS):lW:=(R.zipIdx.filter fun p=>(CO (mj.getD p.2 .undef)).isNone).map (·.1)
def Mh (σ:Nm->lV) (zzc:List (Nm×Nm)) (v:PV):lW :=
 Bt ((AI σ AG (v.names++zzc.flatMap fun p=>((σ p.1).map Ob.names).getD [])).filter fun m=>!(zzc.map (·.1)).contains m)
def GS (σ:Nm->lV) (B:List (Nm×Nm)) (J:Nm):Ob :=
 (((σ J).getD AP).sub fun m=>if (B.map (·.1)).contains m then none else some none).mz fun m=>(B.lookup m).getD m
def Gj (sl:lT) (d0 i0:Nat) (R:lW) (V:St) (v:PV):l5 :=
 let zzc:=FI R V.mj
 let N:=Mh (Ac V.mi) zzc v
 let B:=zzc++N.zipIdx.map fun p=>(p.1,(d0,i0+p.2))
 Av (C0 (B.map (·.1)))
  (some {v:=(v.sub fun m=>if (B.map (·.1)).contains m then none else some none).mz fun m=>(B.lookup m).getD m,new:=N.map (GS (Ac V.mi) B),nh:=zzc.map fun p=>(p.2,GS (Ac V.mi) B p.1),gone:=ID R V.mj,io:=true,slot:=sl})
def EQ (g:lU) (nt:Nat) (ins:lY) (A:lS):St :=
 {tmps:=A++List.replicate (nt - A.length) .undef,mi:=(List.replicate nt []).set 0 ins,mj:=F4 g nt ins.length}
def Hx (σ:Nm->Option α) (d:Nat):lT:=(List.range 64).find? fun j=>(σ (d,j)).isNone
def G4 (σ:Nm->lV) (dst:Nat) (R:lW) (V:St) (v:PV):l5 :=
 match R with
 | []=>Gj none dst 0 R V v
 | r :: _=>match Hx σ r.1 with
  | some i0=>Gj (some r.1) r.1 i0 R V v
  | none=>none
mutual
def J0 (dep:Nat) (R:lW):PV->PV
 | .ref J o=>if R.contains J then (if o=0 then .mF (dep+R.idxOf J) else .undef) else .ref J o
 | .my J k i o=>if R.contains J then .undef else .my J k i o
 | .arr J k o n=>if R.contains J then .undef else .arr J k o n
 | .mp J=>if R.contains J then .undef else .mp J
 | .it J=>if R.contains J then .undef else .it J
 | .agg cs=>.agg (J1 dep R cs)
 | .iface t x=>.iface t (J0 dep R x)
 | .fn f cs=>.fn f (J1 dep R cs)
 | .mn Z=>.mn (J1 dep R Z)
 | .undef=>.undef | .bool b=>.bool b | .int k n=>.int k n | .str s=>.str s | .mu=>.mu | .mJ=>.mJ | .nn=>.nn | .mB=>.mB | .ni=>.ni
 | .sl k Z b=>.sl k Z b | .ptr cs o=>.ptr cs o | .mF d=>.mF d | .nb es=>.nb es | .mY g t=>.mY g t
def J1 (dep:Nat) (R:lW):lS->lS
 | []=>[]
 | x :: Z=>J0 dep R x :: J1 dep R Z
end
mutual
def Gm (dep:Nat) (R:lW):PV->PV
 | .mF d=>if dep<=d/\d < dep+R.length then .ref (R.getD (d - dep) (0,0)) 0 else .mF d
 | .arr J k o n=>if R.contains J then .undef else .arr J k o n
 | .ref J o=>if R.contains J then .undef else .ref J o
 | .my J k i o=>if R.contains J then .undef else .my J k i o
 | .mp J=>if R.contains J then .undef else .mp J
 | .it J=>if R.contains J then .undef else .it J
 | .sl k Z b=>if A5 Z then .undef else .sl k Z b
 | .ptr cs o=>if A5 cs then .undef else .ptr cs o
 | .nb es=>if A5 es then .undef else .nb es
 | .agg cs=>.agg (JZ dep R cs)
 | .iface t x=>.iface t (Gm dep R x)
 | .fn f cs=>.fn f (JZ dep R cs)
 | .mn Z=>.mn (JZ dep R Z)
 | .undef=>.undef | .bool b=>.bool b | .int k n=>.int k n | .str s=>.str s | .mu=>.mu | .mJ=>.mJ | .nn=>.nn | .mB=>.mB | .ni=>.ni
 | .mY g t=>.mY g t
def JZ (dep:Nat) (R:lW):lS->lS
 | []=>[]
 | x :: Z=>Gm dep R x :: JZ dep R Z
end
def Wh (dep:Nat) (R:lW):Ob->Ob
 | .cells ty cs=>.cells ty (J1 dep R cs)
 | .map es=>.map (J1 dep R es)
 | ob=>ob
def SQ (dep:Nat) (R:lW):Ob->Ob
 | .cells ty cs=>.cells ty (JZ dep R cs)
 | .map es=>.map (JZ dep R es)
 | ob=>ob
def P2 (dep:Nat) (R:lW) (V:St):St :=
 {tmps:=J1 dep R V.tmps,mj:=J1 dep R V.mj,mi:=(Bp (R.map fun J=>(J,AP)) V.mi).map (·.map (Wh dep R))}
def P1 (dep:Nat) (R:lW) (V:St):St :=
 {tmps:=JZ dep R V.tmps,mj:=JZ dep R V.mj,mi:=V.mi.map (·.map (SQ dep R))}
def yO:lV->Bool
 | some (.arr _ _ [])=>true
 | _=>false
def RW (R:lW) (V:St):Bool:=R.all (fun J=>yO (Ac V.mi J))&&V.mi.all fun l=>l.all fun ob=>match ob with
 | .cells _ _=>true
 | .map _=>true
 | ob=>!ob.mV
def Ms (J:Nm) (σ:List lY):List lY :=
 match σ[J.1]? with
 | some l=>σ.set J.1 (l++List.replicate (J.2+1 - l.length) AP)
 | none=>σ
def yP:lW->List lY->List lY
 | [],σ=>σ
 | J :: R,σ=>yP R (Ms J σ)
def PL (R:lW) (V:St):St:={V with mi:=yP R V.mi}
def keep1 (R:lW) (o n:PV):PV:=match o with
 | .arr J 1 0 0=>if R.contains J then .arr J 1 0 0 else n
 | _=>n
def U6 (R:lW):lS->lS->lS
 | o :: os,n :: ns=>keep1 R o n :: U6 R os ns
 | _,ns=>ns
def av (R:lW) (qh:lS) (V:St):St:={V with mj:=U6 R qh V.mj}
def Oz (dep k:Nat) (h:AF E):AF E:=fun l args e=>if dep<=l/\l < dep+k then none else h l args e
def JT (M:AK):PV->Bool
 | .fn g cap=>M.ow (AO g)&&!(Ar cap).isEmpty
 | _=>false
def Ju (M:AK) (rnd:AF E->Nat->AF (DU E)) (h:AF E) (dep:Nat) (f:PV) (V:St) (e:E):Option (Ex×St×E) :=
 match f with
 | .fn g cap =>
  let R:=Bt (AI (Ac V.mi) AG (Ar cap))
  match R.mapM (Ac V.mi) with
  | none=>none
  | some ins =>
   Av (!R.isEmpty&&(!A5 cap&&(B3 (Ac V.mi) R&&ins.all fun o=>!o.mV))) (
    match M.tk (DU E) (rnd (Oz dep R.length h) (dep+R.length)) (dep+R.length+1) (AO g) (ins.map (Ob.mz fun m=>(0,R.idxOf m))) (Bc g [.mF (dep+R.length)] (AY (fun m=>(0,R.idxOf m)) cap)) (P2 dep R V,none,e) with
    | some (qi,s,p,e)=>Av (RW R (PL R s)) (match G4 (Ac (PL R s).mi) 0 R qi (.mn []) with
     | some out=>Av (out.gone.isEmpty&&(out.new.all (fun o=>!o.mV)&&out.nh.all fun o=>!o.2.mV)) (some (p.getD .normal,av R V.mj (apply (P1 dep R (PL R s)) none out),e))
     | none=>none)
    | none=>none)
 | _=>none
def Dx {σ:Type} (step:σ->Option (Sum σ (Ex×σ))):Nat->σ->Option (Ex×σ)
 | 0,_=>none
 | m+1,s=>match step s with
  | some (.inl s)=>Dx step m s
  | some (.inr r)=>some r
  | none=>none
def Az (M:AK) (fuel:Nat):A1->{E:Type}->AF E->Nat->St->E->Option (Ex×St×E)
 | .skip,_,_,_,V,e=>some (.normal,V,e)
 | .region ops none AP,_,h,dep,V,e=>match Dy M h dep ops ops (Cf (BI ops) V) e with
  | some (V,e)=>some (.normal,Fz AP V,e)
  | none=>none
 | .region ops (some pr) AP,_,h,dep,V,e=>match FA M h dep ops pr [] (Cf (BI ops) V) e with
  | some (V,e)=>some (.normal,Fz AP V,e)
  | none=>none
 | .seq a b,_,h,dep,V,e=>match Az M fuel a h dep V e with
  | some (.normal,V,e)=>Az M fuel b h dep V e
  | r=>r
 | .cond c a b,_,h,dep,V,e=>match c.ev V.tmps with
  | .bool true=>Az M fuel a h dep V e
  | .bool false=>Az M fuel b h dep V e
  | _=>none
 | .block id body,_,h,dep,V,e=>match Az M fuel body h dep V e with
  | some (.exit pw,V,e)=>if pw=id then some (.normal,V,e) else some (.exit pw,V,e)
  | r=>r
 | .loop mT grow body,E,h,dep,V,e =>
  let V:=norm mT grow V
  let ds:=mQ V
  match Dx (fun (s:St×E)=>match Az M fuel body h dep s.1 s.2 with
   | some (.normal,V,e)=>some (.inl (norm mT grow (drop ds V),e))
   | some (x,V,e)=>some (.inr (x,V,e))
   | none=>none) fuel (V,e) with
  | some (x,V,e)=>some (x,V,e)
  | none=>none
 | .rangeFunc f ps assign body,E,h,dep,V,e =>
  let rnd:AF E->Nat->AF (DU E):=fun h dep l args r =>
   if l=dep then
    match r with
    |(s,none,e) =>
     if args.length=ps.length then
      match Az M fuel assign h (dep+1) {s with tmps:=GM ps args s.tmps,mj:=s.tmps++s.mj} e with
      | some (.normal,s',e)=>match Az M fuel body h (dep+1) s' e with
       | some (x,s',e)=>some (x==.normal,({s' with tmps:=s'.mj.take s.tmps.length,mj:=s'.mj.drop s.tmps.length},(if x=.normal then none else some x),e))
       | none=>none
      | _=>none
     else none
    | _=>none
   else
    match r with
    |(s,p,e)=>match h l args e with
     | some (b,e)=>some (b,(s,p,e))
     | none=>none
  if JT M (f.ev V.tmps) then Ju M rnd h dep (f.ev V.tmps) V e
  else match KA V (f.ev V.tmps) with
  | some (.fn g cap,V) =>
   match M.call (DU E) (rnd h dep) (dep+1) (AO g) (Bc g [.mF dep] cap) (V,none,e) with
   | some (_,_,s,p,e)=>some (p.getD .normal,s,e)
   | none=>none
  | _=>none
 | .exit id,_,_,_,V,e=>some (.exit id,V,e)
 | .scope body,_,h,dep,V,e=>match Az M fuel body h dep V e with
  | some (.exit id,V,e)=>if id < B4 then some (.exit id,V,e) else none
  | r=>r
 | .ret,_,_,_,V,e=>some (.ret,V,e)
 | .norm grow,_,_,_,V,e=>some (.normal,norm [] grow (trim V),e)
 | .pZ _ _ _ _,_,_,_,_,_=>none
 | .bad,_,_,_,_,_=>none
def Oc (nt:Nat) (A:lS) (V:St):St:={V with mj:=A++List.replicate (nt - A.length) .undef++V.mj}
def RG:A1->Bool
 | .seq (.block id _) _=>decide (B4<=id)
 | _=>false
def isFn:PV->Bool
 | .fn _ _=>true
 | _=>false
def FS:Option (Ex×St×Unit)->Option (Ex×St×lU)
 | some (x,V,_)=>some (x,V,[])
 | none=>none
def AX (M:AK) (fuel nt:Nat):A1->St->Option (Ex×St×lU)
 | .pZ ops f args live,V=>match Dy M AL 0 ops ops (Cf (BI ops) V) () with
  | some (V,_)=>Av (decide (args.length+1<=nt)&&isFn (f.ev V.tmps))
    (some (.normal,Fz live (Oc nt (f.ev V.tmps :: args.map (RX.ev V.tmps)) V),[args.length]))
  | none=>none
 | .seq a b,V=>match AX M fuel nt a V with
  | some (.normal,V,l)=>match AX M fuel nt b V with
   | some (x,V,l')=>some (x,V,l'++l)
   | none=>none
  | r=>r
 | .cond c a b,V=>match c.ev V.tmps with
  | .bool true=>AX M fuel nt a V
  | .bool false=>AX M fuel nt b V
  | _=>none
 | .block id body,V=>match AX M fuel nt body V with
  | some (.exit pw,V,l)=>if pw=id then some (.normal,V,l) else some (.exit pw,V,l)
  | r=>r
 | .scope body,V=>if RG body then none else match AX M fuel nt body V with
  | some (.exit id,V,l)=>if id < B4 then some (.exit id,V,l) else none
  | r=>r
 | c,V=>FS (Az M fuel c AL 0 V ())
def Gz (M:AK) (nt:Nat):lU->St->Option St
 | [],V=>some V
 | n :: l,V=>match V.mj.getD 0 .undef with
  | .fn f cap =>
   match M.sp (AO f) (Ac V.mi) (Bc f ((V.mj.drop 1).take n) cap) with
   | some _=>none
   | none=>if M.ow (AO f)&&M.flat (AO f) then match M.io (AO f) 0 (Ac V.mi) (Bc f ((V.mj.drop 1).take n) cap) with
    | some out=>Av (out.new.isEmpty||out.slot.isSome) (Gz M nt l (apply {V with mj:=V.mj.drop nt} none out))
    | none=>none
   else none
  | _=>none
def HW (V:St):F7->mc
 | .tmp t=>some (V.tmps.getD t .undef)
 | .cell t n ag=>match V.tmps.getD t .undef with
  | .ref J o=>match Ac V.mi J with
   | some (.cells _ cs)=>Cd cs o n ag
   | _=>none
  | _=>none
def Dl (V:St):List F7->Option lS
 | []=>some []
 | r :: rs=>match HW V r,Dl V rs with
  | some v,some A=>some (v :: A)
  | _,_=>none
def EL:lS->PV
 | [v]=>v
 | A=>.mn A
def yQ:PV->lW
 | .arr J _ 0 _=>[J]
 | .agg cs=>cs.flatMap fun | .arr J _ 0 _=>[J] | _=>[]
 | .mn Z=>Z.flatMap fun | .arr J _ 0 _=>[J] | .agg cs=>cs.flatMap (fun | .arr J _ 0 _=>[J] | _=>[]) | _=>[]
 | _=>[]
def JM (S:lW) (J:Nm):Nm:=(0,S.idxOf J)
def JU:Ob->Bool
 | .arr _ _ _=>true
 | _=>false
def Ob.bare:Ob->Ob
 | .arr k _ Z=>.arr k 0 Z
 | o=>o
def HF (shut:Bool) (v:PV):lW:=if shut then [] else yQ v
def Jp (shut:Bool) (V:St) (v:PV):Option (PV×lY) :=
 let σ:=Ac V.mi
 let S:=HF shut v
 let R:=AI σ AG (v.names.filter fun J=>!S.contains J)
 let S:=if C0 S&&S.all (fun J=>!R.contains J) then S else []
 let R:=AI σ AG (v.names.filter fun J=>!S.contains J)
 let v:=(v.sub fun J=>if S.contains J then none else A7 σ J).mz (JM S)
 match S.mapM σ with
 | some obs=>Av (B3 σ R&&obs.all JU) (some (v,obs.map Ob.bare))
 | none=>none
def HN (M:AK) (n:Nat) (mq:lL->l6):Ha:=fun _ h dep f args e =>
 match mq f with
 | none=>none
 | some fn =>
  match Az M n fn.code h dep {tmps:=args++List.replicate (fn.nt - args.length) .undef,mi:=List.replicate fn.nt [],mj:=[]} e with
  | some (x,V,e) =>
   match x with
   | .exit _=>none
   | _=>match Dl V fn.res with
    | some A=>match Jp fn.shut V (EL A) with
     | some (v,obs)=>some (v,obs,e)
     | none=>none
    | none=>none
  | none=>none
def Db (M:AK) (n:Nat) (fn:Ah) (ins:lY) (A:lS):Option (St×PV) :=
 if CU fn.code then match Az M n fn.code AL 0 (EQ fn.gone fn.nt ins A) () with
  | some (x,V,_) =>
   match x with
   | .exit _=>none
   | _=>match Dl V fn.res with
    | some rs=>some (V,EL rs)
    | none=>none
  | none=>none
 else match AX M n fn.nt fn.code (EQ fn.gone fn.nt ins A) with
  | some (x,V,l) =>
   match x with
   | .exit _=>none
   | _=>match Gz M fn.nt l V with
    | some V=>match Dl V fn.res with
     | some rs=>some (V,EL rs)
     | none=>none
    | none=>none
  | none=>none
def JC (fn:Ah) (p:St×PV):Option (St×PV) :=
 if fn.shut&&!p.2.names.isEmpty then
  Av (B3 (Ac p.1.mi) (AI (Ac p.1.mi) AG p.2.names))
   (some (B7 (Ac p.1.mi) (AI (Ac p.1.mi) AG p.2.names) p.1,p.2.sub (A7 (Ac p.1.mi))))
 else some p
def F6 (M:AK) (n:Nat) (mq:lL->l6) (f:lL) (dst:Nat) (σ:Nm->lV) (A:lS):l5 :=
 match mq f with
 | none=>none
 | some fn =>
  let R:=Bt (AI σ AG (Ar A))
  match R.mapM σ with
  | none=>none
  | some ins =>
   Av (!A5 A&&B3 σ R&&ins.all (fun o=>!o.mV)&&(decide (A.length<=fn.nt)&&decide (R.length<=fn.nt)&&decide (0 < fn.nt))) (
    match Db M n fn (ins.map (Ob.mz fun m=>(0,R.idxOf m))) (AY (fun m=>(0,R.idxOf m)) A) with
    | some p=>match JC fn p with
     | some (V,v)=>G4 σ dst R V v
     | none=>none
    | none=>none)
def bu (A:lS):lW:=A.flatMap fun v=>match v with
 | .arr J _ _ _=>[J]
 | _=>[]
def LD (σ:Nm->lV) (R:lW) (m:Nm):Option lV:=if R.contains m then A7 σ m else none
def frzS (σ:Nm->lV) (R:lW) (J:Nm):lV:=if J∈R then ((σ J).map (Ob.sub (LD σ R))).map fun _=>AP else (σ J).map (Ob.sub (LD σ R))
def KP (mq:lL->l6) (g:lL) (σ:Nm->lV) (A:lS):lW :=
 match mq g with
 | some fn=>if fn.mX then AI σ AG (bu A) else []
 | none=>[]
def Gx (mq:lL->l6) (io:lL->Nat->(Nm->lV)->lS->l5) (g:lL) (dst:Nat) (σ:Nm->lV) (A:lS):l5 :=
 match KP mq g σ A with
 | []=>io g dst σ A
 | r :: rs=>Av (B3 σ (r :: rs)) (match io g dst (frzS σ (r :: rs)) (AM (LD σ (r :: rs)) A) with
  | some out=>Av (out.io&&out.nf.isNone&&out.kill.isNone&&out.mX.isEmpty) (some {out with mX:=r :: rs})
  | none=>none)
def E0 (mq:lL->l6) (f:lL):Bool :=
 match mq f with
 | some fn=>fn.io
 | none=>false
def Nj (mq:lL->l6) (f:lL):Bool :=
 match mq f with
 | some fn=>fn.nC
 | none=>false
def Kt (mq:lL->l6) (f:lL):Bool :=
 match mq f with
 | some fn=>CU fn.code
 | none=>false
def JO (M:AK) (n:Nat) (mq:lL->l6):(E:Type)->AF E->Nat->lL->lY->lS->E->Option (St×E):=fun _ h dep g ins A e =>
 match mq g with
 | none=>none
 | some fn=>Av (fn.res.isEmpty&&(decide (A.length<=fn.nt)&&decide (ins.length<=fn.nt)&&decide (0 < fn.nt))) (
  match Az M n fn.code h dep (EQ fn.gone fn.nt ins A) e with
  | some (.exit _,_,_)=>none
  | some (.normal,V,e)=>some (V,e)
  | some (.ret,V,e)=>some (V,e)
  | none=>none)
def Cb (sp:lL->(Nm->lV)->lS->l5) (mq:lL->l6):Nat->AK
 | 0=>{sp,call:=fun _ _ _ _ _ _=>none,ow:=E0 mq,nC:=Nj mq,io:=fun _ _ _ _=>none,flat:=Kt mq,tk:=fun _ _ _ _ _ _ _=>none}
 | n+1=>{sp,call:=HN (Cb sp mq n) n mq,ow:=E0 mq,nC:=Nj mq,io:=Gx mq (F6 (Cb sp mq n) n mq),flat:=Kt mq,tk:=JO (Cb sp mq n) n mq}
def Ei (sp:lL->(Nm->lV)->lS->l5) (mq:lL->l6) (n:Nat):Ha:=(Cb sp mq n).call
end Go.Ab


namespace Go.Ab
def MP (d:lR):Bool :=
 match d with
 | .struct _=>true
 | .array _ _=>true
 | _=>false
def Hz:Nat->lK->mc
 | _,.bool b=>some (.bool b)
 | _,.int k n=>some (.int k n)
 | _,.string s=>some (.str s.data.toList)
 | _,.slice none 0 0=>some .mu
 | _,.pointer none=>some .mJ
 | _,.nilFunc=>some .nn
 | _,.nilIface=>some .mB
 | _,.map none=>some .ni
 | n+1,.agg cs=>if cs.toList.all (·.oneCell') then (cs.toList.mapM (Hz n)).map .agg else none
 | _,_=>none
def Gg (P:lO) (t:lP):mc:=((P.info? t).bind (·.zero)).bind (Hz 3)
def G2 (P:lO) (t:lP):Option (Nat×Bool) :=
 match P.underlying t,P.info? t with
 | some d,some i=>some (i.size,MP d)
 | _,_=>none
def Gh (P:lO) (t:lP):Option (Nat×Nat×PV) :=
 match P.underlying t with
 | some (.slice e)=>match P.info? e,Gg P e with
  | some i,some z=>if i.bytes<=65536/\z.cells.length=i.size then some (i.size,i.bytes,z) else none
  | _,_=>none
 | _=>none
def L7 (P:lO) (i:Nat):List Field->Option lU
 | []=>some []
 | f :: fs=>if f.offset=i/\f.name ≠ "_" then
   match P.underlying f.type,L7 P (i+1) fs with
   | some (.int _),some l=>some (0 :: l)
   | some .string,some l=>some (1 :: l)
   | some .bool,some l=>some (2 :: l)
   | _,_=>none
  else none
def DK (P:lO) (t:lP):TC :=
 match P.underlying t with
 | some (.struct fs)=>match L7 P 0 fs.toList with
  | some l=>if P.stoodInHeld t=false/\P.eqGuardType P.depth t=false then .plain l else .other
  | none=>.other
 | some (.int _)=>.num
 | some .string=>.str
 | some .bool=>.bool
 | some (.interface _)=>.iface
 | some (.slice _)=>.slice
 | some (.map _ _)=>.map
 | some (.func _ _ _)=>.func
 | some (.pointer _)=>.ptr
 | _=>.other
abbrev EO:=Nat->Option lS
def rx (G:EO):lM->mh
 | .tmp t=>some (.t t)
 | .const v=>(Hz 3 v).map .c
 | .global g=>(G g).map fun cs=>.c (.ptr cs 0)
 | .func f=>if Nat.blt f Dj=true then some (.c (.fn f [])) else none
def yw (G:EO):Option lM->Option mh
 | none=>some none
 | some x=>(rx G x).map some
def DT (G:EO):List lM->Option md
 | []=>some []
 | x :: Z=>match rx G x,DT G Z with
  | some y,some ys=>some (y :: ys)
  | _,_=>none
def isC:lM->Bool
 | .const _=>true
 | _=>false
def Nb (G:EO) (place:Nat->Option (Nat×Nat)):List (Nat×lM)->Option (List (Nat×Nat×RX))
 | []=>some []
 |(i,x) :: ps=>match place i,rx G x,Nb G place ps with
  | some (off,n),some y,some ys=>some ((off,n,y) :: ys)
  | _,_,_=>none
def Nz (G:EO):Nat->List (Nat×lM)->Option md
 | _,[]=>some []
 | j,(i,x) :: ps=>if i=j then match rx G x,Nz G (j+1) ps with
  | some y,some ys=>some (y :: ys)
  | _,_=>none
  else none
def QJ (P:lO) (fs:Array Field) (i:Nat):Option (Nat×Nat) :=
 match fs[i]? with
 | some f=>match P.info? f.type with
  | some inf=>some (f.offset,inf.size)
  | none=>none
 | none=>none
def yR:Option An->An
 | some o=>o
 | none=>.bad
def US (P:lO) (t:lP):Bool :=
 match P.underlying t with
 | some (.int _)=>true
 | some .string=>true
 | some .bool=>true
 | _=>false
def BH (P:lO) (G:EO) (o:Oper):Option An :=
 match o.op with
 | .move x=>(rx G x).map .mov
 | .assign x=>(rx G x).map .mov
 | .pick c a b=>match rx G c,rx G a,rx G b with
  | some c,some a,some b=>some (.pick c a b)
  | _,_,_=>none
 | .alloc t=>match Gg P t with
  | some z=>some (.alloc t z.cells)
  | none=>none
 | .box _ x=>(rx G x).map .box
 | .build t ps=>match P.underlying t,Gg P t with
  | some (.struct fs),some (.agg z)=>match Nb G (QJ P fs) ps.toList with
   | some ps=>if fs.all (fun f=>(P.info? f.type).isSome) then some (.build z ps) else none
   | none=>none
  | _,_=>none
 | .buildSlice t len ps=>match Gh P t,Nz G 0 ps.toList with
  | some (k,_,_),some Z=>if Z.length=len/\len*k<=16777216 then some (.qf k Z) else none
  | _,_=>none
 | .load t a=>match G2 P t,rx G a with
  | some (n,ag),some x=>some (.load n ag x)
  | _,_=>none
 | .store t a v=>match G2 P t,rx G a,rx G v with
  | some (n,_),some x,some y=>some (.store n x y)
  | _,_,_=>none
 | .nilCheck x=>(rx G x).map .nilck
 | .binOp op t x y _=>match rx G x,rx G y with
  | some a,some b=>some (.bin op (DK P t) (isC x||isC y) a b)
  | _,_=>none
 | .unOp op _ x=>(rx G x).map (.un op)
 | .convert src dst x=>match P.underlying src,P.underlying dst,rx G x with
  | some (.int _),some (.int k),some x=>some (.conv k x)
  | some (.int _),some .string,some x=>some (.oe x)
  | some .string,some .string,some x=>some (.pt x)
  | some .string,some (.slice e),some x=>match P.underlying e with
   | some (.int .u8)=>some (.nS x)
   | _=>none
  | some (.slice e),some .string,some x=>match P.underlying e with
   | some (.int .u8)=>some (.ofBytes x)
   | _=>none
  | _,_,_=>none
 | .makeInterface t x=>match P.underlying t with
  | some (.interface _)=>none
  | some _=>(rx G x).map (.mkI t)
  | none=>none
 | .makeFunc (.func f) first cap=>if Nat.blt f Dj=true then (DT G (first.toList++cap.toList)).map (.mkF (Qt f first.size)) else none
 | .makeMap _ none=>some .mkMap
 | .insert t m k v=>match P.underlying t,rx G m,rx G k,rx G v with
  | some (.map kt _),some m,some k,some v=>if US P kt then some (.insert (DK P kt) m k v) else none
  | _,_,_,_=>none
 | .mapUpdate t m k v=>match P.underlying t,rx G m,rx G k,rx G v with
  | some (.map kt _),some m,some k,some v=>if US P kt then some (.insert (DK P kt) m k v) else none
  | _,_,_,_=>none
 | .lookup t m k ok=>match P.underlying t with
  | some (.map kt et)=>match Gg P et,rx G m,rx G k with
   | some z,some m,some k=>if US P kt then some (.lookup (DK P kt) z ok m k) else none
   | _,_,_=>none
  | _=>none
 | .makeSlice t l c=>match Gh P t,rx G l,rx G c with
  | some (k,_,z),some l,some c=>some (.uN k z l c)
  | _,_,_=>none
 | .slice t x lo hi mx=>match rx G x,yw G lo,yw G hi,yw G mx with
  | some x,some lo,some hi,some mx=>match P.underlying t with
   | some .string=>if mx.isNone then some (.nB x lo hi) else none
   | some (.slice _)=>match Gh P t with
    | some (k,_,_)=>some (.slice k x lo hi mx)
    | none=>none
   | _=>none
  | _,_,_,_=>none
 | .fieldAddr t x f=>match P.underlying t,rx G x with
  | some (.struct fs),some x=>match fs[f]? with
   | some fd=>match P.info? fd.type with
    | some i=>if i.size=0 then none else some (.fieldAddr fd.offset x)
    | none=>none
   | none=>none
  | _,_=>none
 | .field t x f=>match P.underlying t,rx G x with
  | some (.struct fs),some x=>match fs[f]? with
   | some fd=>match G2 P fd.type with
    | some (n,ag)=>some (.field fd.offset n ag x)
    | none=>none
   | none=>none
  | _,_=>none
 | .indexAddr t x i=>match P.underlying t,rx G x,rx G i with
  | some (.slice _),some x,some i=>match Gh P t with
   | some (k,_,_)=>some (.mw k x i)
   | none=>none
  | some (.array n e),some x,some i=>match P.info? e with
   | some inf=>some (.nL inf.size n x i)
   | none=>none
  | _,_,_=>none
 | .index t x i=>match P.underlying t,rx G x,rx G i with
  | some .string,some x,some i=>some (.oE x i)
  | _,_,_=>none
 | .extract x j=>(rx G x).map (.extract j)
 | .call c=>match DT G c.args.toList with
  | none=>none
  | some as=>match c.callee with
   | .value f=>(rx G f).map fun f=>.call f as
   | .builtin .len=>match c.argTypes[0]?,as with
    | some t,[x]=>match P.underlying t with
     | some .string=>some (.len .str x)
     | some (.slice _)=>some (.len .slice x)
     | some (.map _ _)=>some (.len .map x)
     | _=>none
    | _,_=>none
   | .builtin .append=>match c.argTypes[0]?,c.argTypes[1]?,as with
    | some t,some u,[s,x]=>match Gh P t,P.underlying u,P.underlying t with
     | some (k,_,_),some (.slice _),some (.slice el)=>some (.append k el s x)
     | some (k,_,_),some .string,some (.slice el)=>some (.append k el s x)
     | _,_,_=>none
    | _,_,_=>none
   | .builtin .copy=>match c.argTypes[0]?,as with
    | some t,[d,s]=>match Gh P t with
     | some (k,_,_)=>some (.copy k d s)
     | none=>none
    | _,_=>none
   | .builtin .min=>some (.nQ false as)
   | .builtin .max=>some (.nQ true as)
   | _=>none
 | .range t x=>match P.underlying t,rx G x with
  | some .string,some x=>some (.iter x)
  | _,_=>none
 | .next x true=>(rx G x).map .next
 | .typeAssert x _ t ok=>match P.underlying t with
  | some (.interface _)=>none
  | some _=>match Gg P t,rx G x with
   | some z,some x=>some (.nJ t z ok x)
   | _,_=>none
  | none=>none
 | _=>none
def Cw (P:lO) (G:EO) (o:Oper):AD:={dst:=o.dst,op:=yR (BH P G o),guard:=o.guard}
def Lk:A1->lU
 | .region ops _ _=>ops.filterMap fun o=>match o.op with | .mov _=>o.dst | _=>none
 | .seq a b=>Lk a++Lk b
 | .cond _ a b=>Lk a++Lk b
 | .block _ b=>Lk b
 | .loop _ _ b=>Lk b
 | .scope b=>Lk b
 | _=>[]
def growOps (ops:l8):List (Nat×Nat) :=
 ops.filterMap fun o=>match o.dst,o.op with
  | some t,.mov (.t s)=>(ops.findSome? fun p=>match p.op with | .append k _ _ _=>if p.dst=some s then some k else none | _=>none).map fun k=>(t,k)
  | _,_=>none
def Tm (ops:l8):Nat->Nat->Nat->Option (Nat×Nat)
 | 0,_,_=>none
 | n+1,x,off=>match ops.find? fun p=>p.dst==some x with
  | none=>some (x,off)
  | some p=>match p.op with
   | .mov (.t y)=>Tm ops n y off
   | .nilck (.t y)=>Tm ops n y off
   | .fieldAddr o (.t y)=>Tm ops n y (off+o)
   | _=>none
def vj (ops:l8):List (Nat×Nat) :=
 ops.filterMap fun o=>match o.op with
  | .store 1 (.t a) (.t u) =>
   match ops.findSome? (fun p=>match p.op with | .append k _ _ _=>if p.dst=some u then some k else none | _=>none),Tm ops 8 a 0 with
   | some k,some (x,off)=>some (Fh*(off+1)+x,k)
   | _,_=>none
  | _=>none
def HK:A1->List (Nat×Nat)
 | .region ops _ _=>growOps ops++vj ops
 | .seq a b=>HK a++HK b
 | .cond _ a b=>HK a++HK b
 | .block _ b=>HK b
 | .loop _ _ b=>HK b
 | .scope b=>HK b
 | .rangeFunc _ _ _ b=>(HK b).filter fun p=>decide (Fh<=p.1)
 | _=>[]
def My {α:Type} [BEq α]:List α->List α
 | []=>[]
 | x :: Z=>if (My Z).contains x then My Z else x :: My Z
def NE (acc:List (Nat×Nat)):List Edge->Nat
 | []=>0
 | e :: es=>if Region.binds .any e then 2 ^ e.on ||| ((acc.lookup e.on).getD 0) ||| NE acc es else NE acc es
def Oy (ops:Array Oper):lU->List (Nat×Nat)->Option (List (Nat×Nat))
 | [],acc=>if acc.length=ops.size then some acc.reverse else none
 | i :: rest,acc=>match ops[i]? with
  | some o=>if (acc.lookup i).isNone/\o.after.toList.all (fun e=>!Region.binds .any e||(acc.lookup e.on).isSome) then Oy ops rest ((i,NE acc o.after.toList) :: acc) else none
  | none=>none
def JD:Code->lT
 | .goto l=>some l
 | .seq a b=>(JD a).orElse fun _=>JD b
 | .cond _ a b=>(JD a).orElse fun _=>JD b
 | .block _ b=>JD b
 | .loop b=>JD b
 | .rangeFunc _ _ _ b=>JD b
 | _=>none
def DZ (l:Nat):Code->A1->Option (A1×A1)
 | .seq a b,.seq ra rb=>match DZ l a ra with
  | some (x,y)=>some (x,.seq y rb)
  | none=>match DZ l b rb with
   | some (x,y)=>some (.seq ra x,y)
   | none=>none
 | .label l',_=>if l'=l then some (.skip,.skip) else none
 | _,_=>none
def PK (c:Code) (r:A1):A1 :=
 match JD c with
 | none=>.scope r
 | some l=>match DZ l c r with
  | some (x,y)=>.scope (.seq (.block (B4+l) x) y)
  | none=>.scope r
structure Told where
 lv:Option lU:=none
 grow:Option (List (Nat×Nat)):=none
 peel:Bool:=false
 deriving Inhabited
abbrev DH:=Nat->Told
def Od (g:Option (List (Nat×Nat))) (r:A1):A1 :=
 match g with
 | none=>r
 | some g=>.seq r (.norm g)
def KC:Code->lT
 | .region id _ _=>some id
 | .seq a b=>(KC a).orElse fun _=>KC b
 | .cond _ a b=>(KC a).orElse fun _=>KC b
 | .block _ b=>KC b
 | .loop b=>KC b
 | .scope b=>KC b
 | _=>none
def peelOf (D:DH) (c:Code):Bool :=
 match KC c with
 | some id=>(D id).peel
 | none=>false
def S6 (p:Bool) (mT:lU) (grow:List (Nat×Nat)) (b:A1):A1:=if p then .seq b (.loop mT grow b) else .loop mT grow b
def VP (f:RX) (ps:lU) (mT b:A1) (g:List (Nat×Nat)):A1 :=
 if g.isEmpty then .rangeFunc f ps mT b else .seq (.norm g) (.rangeFunc f ps mT (.seq (.seq b (.region [] none (some []))) (.norm g)))
def R8 (G:EO) (o:Oper):Option (RX×md) :=
 match o.op,o.guard,o.dst with
 | .defer c,none,none=>match c.callee with
  | .value f=>match rx G f,DT G c.args.toList with
   | some f,some args=>some (f,args)
   | _,_=>none
  | _=>none
 | _,_,_=>none
def Sq (P:lO) (G:EO) (ops:Array Oper) (lv:Option lU):A1 :=
 match ops.toList.getLast?.bind (R8 G) with
 | some (f,args)=>.pZ (ops.toList.dropLast.map (Cw P G)) f args lv
 | none=>.region (ops.toList.map (Cw P G)) none lv
def Bq (P:lO) (G:EO) (D:DH):Code->A1
 | .skip=>.skip
 | .region id ops draw=>Od (D id).grow (if draw then (match Oy ops (Region.linearise .any ops 0) [] with
   | some l=>.region (ops.toList.map (Cw P G)) (some l) (D id).lv
   | none=>.bad)
  else Sq P G ops (D id).lv)
 | .seq a b=>.seq (Bq P G D a) (Bq P G D b)
 | .cond c a b=>match rx G c with
  | some c=>.cond c (Bq P G D a) (Bq P G D b)
  | none=>.bad
 | .block id b=>if id < B4 then .block id (Bq P G D b) else .bad
 | .loop b=>S6 (peelOf D b&&CU (Bq P G D b)) (My (Lk (Bq P G D b))) (My (HK (Bq P G D b))) (Bq P G D b)
 | .rangeFunc f ps mT b=>match rx G f with
  | some f=>VP f ps.toList (Bq P G D mT) (Bq P G D b) (My (HK (Bq P G D b)))
  | none=>.bad
 | .exit id=>if id < B4 then .exit id else .bad
 | .scope b=>PK b (Bq P G D b)
 | .label _=>.skip
 | .goto l=>.exit (B4+l)
 | .ret=>.ret
 | .refuse _=>.bad
def NC (P:lO):List ResultVar->Option (List F7)
 | []=>some []
 | r :: rs=>match (match r with
   | .tmp t=>some (F7.tmp t)
   | .cell a t=>(G2 P t).map fun (n,ag)=>F7.cell a n ag),NC P rs with
  | some x,some Z=>some (x :: Z)
  | _,_=>none
def Lj (P:lO) (G:EO) (D:DH) (f:lL):l6 :=
 match P.funcs[f]? with
 | some fn=>match fn.body,NC P fn.results.toList with
  | some c,some rs=>if fn.name == "runtime.NumGoroutine" then none else some {nt:=fn.ntmps,code:=Bq P G D c,res:=rs}
  | _,_=>none
 | none=>none
end Go.Ab


namespace Go.Ab
def opT:lM->lU
 | .tmp t=>[t]
 | _=>[]
def opsT (l:List lM):lU:=l.flatMap opT
def MQ (a b:lU):lU:=a.foldl (fun acc x=>if acc.contains x then acc else x :: acc) b
abbrev Ts:=List (Nat×lU)
def F8:Code->lU->Ts->lU->lU×Ts
 | .skip,out,_,_=>(out,[])
 | .region id ops _,out,_,_=>(ops.toList.foldr (fun o l=>MQ (opsT o.op.operands.toList) (match o.dst with | some d=>l.filter (· != d) | none=>l)) out,[(id,out)])
 | .seq a b,out,ends,px =>
  let r2:=F8 b out ends px
  let r1:=F8 a r2.1 ends px
  (r1.1,r1.2++r2.2)
 | .cond c a b,out,ends,px =>
  let r1:=F8 a out ends px
  let r2:=F8 b out ends px
  (MQ (opT c) (MQ r1.1 r2.1),r1.2++r2.2)
 | .block id b,out,ends,px=>F8 b out ((id,out) :: ends) px
 | .loop b,_,ends,px =>
  let x1:=(F8 b [] ends px).1
  let x2:=(F8 b x1 ends px).1
  let x3:=(F8 b x2 ends px).1
  (x3,(F8 b x3 ends px).2)
 | .rangeFunc f ps mT b,out,ends,px =>
  let e0:=ends.map fun p=>(p.1,([]:lU))
  let r2:=F8 b [] e0 []
  let r1:=F8 mT r2.1 e0 []
  (MQ (opT f) (MQ (r1.1.filter fun x=>!ps.contains x) (MQ out (MQ (ends.flatMap (·.2)) px))),r1.2++r2.2)
 | .exit id,_,ends,_=>((ends.lookup id).getD [],[])
 | .scope b,out,ends,px =>
  let l:=(JD b).getD 0
  let x1:=((F8 b out ends px).2.lookup (B4+l)).getD []
  let x2:=((F8 b out ((B4+l,x1) :: ends) px).2.lookup (B4+l)).getD []
  F8 b out ((B4+l,x2) :: ends) px
 | .label l,out,_,_=>(out,[(B4+l,out)])
 | .goto l,_,ends,_=>((ends.lookup (B4+l)).getD [],[])
 | .ret,_,_,px=>(px,[])
 | .refuse _,out,_,_=>(out,[])
def MK:ResultVar->Nat
 | .tmp t=>t
 | .cell a _=>a
def liveOf (P:lO) (f:lL):Ts :=
 match P.funcs[f]? with
 | some fn=>match fn.body with
  | some c=>(F8 c (fn.results.toList.map MK) [] (fn.results.toList.map MK)).2
  | none=>[]
 | none=>[]
def lookD (l:Ts):DH:=fun id=>{lv:=l.lookup id}
def deadOf (P:lO) (f:lL):DH:=lookD (liveOf P f)
abbrev Hint:=List (Nat×Nat×Option (List (Nat×Nat))×Bool)
def hinted (zzb:Hint) (f:lL) (D:DH):DH:=fun id =>
 match zzb.find? fun h=>h.1==f&&h.2.1==id with
 | some h=>{D id with grow:=h.2.2.1,peel:=h.2.2.2}
 | none=>D id
def Ov (zzb:Hint) (P:lO) (f:lL):DH:=hinted zzb f (deadOf P f)
end Go.Ab


namespace Go.Ab
variable{i k:Nat} {p:Option (Nat×Nat)} {us A:List lK} {v:lK} {x:PV} {ys:lS}
abbrev As:=Nm->Option (Option (Nat×Nat))
abbrev l7:=Option As
def FX:List MapEntry->List lK
 | []=>[]
 | e :: es=>e.key :: e.val :: FX es
def A6 (A:List lK):Prop:=∀ v∈A,v.oneCell'=true
theorem A6.pQ (h:A6 A) (n:Nat):A6 (A.take n):=fun v hv=>h v (ja hv)
theorem A6.p6 (h:A6 A) (n:Nat):A6 (A.drop n):=fun v hv=>h v (jH hv)
theorem A6.pK (h:A6 A) (h':A6 us):A6 (A++us):=fun v hv=>(iH.1 hv).elim (h v) (h' v)
def yv (l:Nat):lK:=if l%2=0 then .func (.yield (l / 2)) #[] #[] else .pointer (some ⟨l / 2,0,none⟩)
theorem RR (l:Nat):yv (2*l)=.func (.yield l) #[] #[]:=by unfold yv;rw[lu (by omega),show 2*l / 2=l by omega]
theorem yS (b:Nat):yv (2*b+1)=.pointer (some ⟨b,0,none⟩):=by unfold yv;rw[lr (by omega),show (2*b+1) / 2=b by omega]
theorem yv_or (l:Nat):yv l=.func (.yield (l / 2)) #[] #[]/\l=2*(l / 2)\/yv l=.pointer (some ⟨l / 2,0,none⟩):=by unfold yv;by_cases h:l%2=0;{exact .inl ⟨lu h,by omega⟩};{exact .inr (lr h)}
theorem yT (l:Nat):(yv l).cells=#[yv l]:=by unfold yv;split<;>rfl
theorem yv_one (l:Nat):(yv l).oneCell'=true:=by unfold yv;split<;>rfl
mutual
inductive Am (w:lJ) (I:Nat->Prop) (lp:Nat->lT):l7->PV->lK->Prop
 | undef {L} (v:lK):Am w I lp L .undef v
 | bool {L} (b:Bool):Am w I lp L (.bool b) (.bool b)
 | int {L} (k:lN) (n:Int):Am w I lp L (.int k n) (.int k n)
 | str {L} (s:l4):Am w I lp L (.str s) (.string ⟨s.toArray⟩)
 | mu {L}:Am w I lp L .mu (.slice none 0 0)
 | mJ {L}:Am w I lp L .mJ (.pointer none)
 | nn {L}:Am w I lp L .nn .nilFunc
 | mB {L}:Am w I lp L .mB .nilIface
 | ni {L}:Am w I lp L .ni (.map none)
 | qR {L} (k:Nat) (full:Bool) (a:Option Addr) (cap:Nat) (hf:full=true->cap=0):Am w I lp L (.sl k [] full) (.slice a 0 cap)
 | sl {L} (k:Nat) (Z:lS) (full:Bool) (b off cap:Nat) (c:Array lK) (E:lP) (fr:Nat×Nat)
   (hI:I b) (hb:w.heap[b]?=some (.cells c E fr)) (hs:off+Z.length*k<=c.size) (hk:∀ x∈Z,x.cells.length=k)
   (hc:Z.length<=cap) (hf:full=true->cap=Z.length) (U:A6 ((c.toList.drop off).take (Z.length*k)))
   (hr:Ai w I lp none (mr Z) ((c.toList.drop off).take (Z.length*k))):Am w I lp L (.sl k Z full) (.slice (some ⟨b,off,none⟩) Z.length cap)
 | ptr {L} (cs:lS) (o:Nat) (b off:Nat) (c:Array lK) (E:lP) (fr:Nat×Nat)
   (hI:I b) (hb:w.heap[b]?=some (.cells c E fr)) (hs:off+cs.length<=c.size) (ho:o < cs.length) (U:A6 ((c.toList.drop off).take cs.length))
   (hr:Ai w I lp none cs ((c.toList.drop off).take cs.length)):Am w I lp L (.ptr cs o) (.pointer (some ⟨b,off+o,none⟩))
 | agg {L} (cs:lS) (A:Array lK) (U:A6 A.toList) (h:Ai w I lp L cs A.toList):Am w I lp L (.agg cs) (.agg A)
 | iface {L} (t:lP) (x:PV) (v:lK) (h:Am w I lp L x v):Am w I lp L (.iface t x) (.iface t v)
 | fn {L} (f:lL) (cs:lS) (us A:Array lK) (hk:us.size=Fa f) (h:Ai w I lp L cs (us.toList++A.toList)):Am w I lp L (.fn f cs) (.func (.func (AO f)) us A)
 | mF {L} (d l:Nat) (h:lp d=some l):Am w I lp L (.mF d) (yv l)
 | mn {L} (Z:lS) (A:Array lK) (h:Ai w I lp L Z A.toList):Am w I lp L (.mn Z) (.tuple A)
 | nb {L} (es:lS) (r:Nat) (nj:Array MapEntry) (clock:Nat) (hI:I r) (hb:w.heap[r]?=some (.map nj clock))
   (hr:Ai w I lp none es (FX nj.toList)):Am w I lp L (.nb es) (.map (some r))
 | mY {L} (g:Nat) (t:lP) (x:lK) (c:Array lK) (E:lP) (fr:Nat×Nat) (hI:I g) (hb:w.heap[g]?=some (.cells c E fr)) (hv:c[0]?=some (.iface t x)):Am w I lp L (.mY g t) (.iface t x)
 | ref {L:As} (J:Nm) (o b C:Nat) (h:L J=some (some (b,C))):Am w I lp (some L) (.ref J o) (.pointer (some ⟨b,o,none⟩))
 | my {L:As} (J:Nm) (k i o b C:Nat) (h:L J=some (some (b,C))):Am w I lp (some L) (.my J k i o) (.pointer (some ⟨b,i*k+o,none⟩))
 | arr {L:As} (J:Nm) (k o n cap b C:Nat) (h:L J=some (some (b,C))) (hC:(o+cap)*k<=C) (hn:n<=cap) :
   Am w I lp (some L) (.arr J k o n) (.slice (some ⟨b,o*k,none⟩) n cap)
 | oz {L:As} (J:Nm) (k:Nat) (h:L J=some none):Am w I lp (some L) (.arr J k 0 0) (.slice none 0 0)
 | mp {L:As} (J:Nm) (b C:Nat) (h:L J=some (some (b,C))):Am w I lp (some L) (.mp J) (.map (some b))
 | it {L:As} (J:Nm) (b C:Nat) (h:L J=some (some (b,C))):Am w I lp (some L) (.it J) (.pointer (some ⟨b,0,none⟩))
inductive Ai (w:lJ) (I:Nat->Prop) (lp:Nat->lT):l7->lS->List lK->Prop
 | nil {L}:Ai w I lp L [] []
 | cons {L} (x:PV) (v:lK) (Z:lS) (A:List lK) (h:Am w I lp L x v) (hs:Ai w I lp L Z A):Ai w I lp L (x :: Z) (v :: A)
end
def MD (L L':As):Prop:=∀ J p,L J=some p->L' J=some p
def Ib (lp pH:Nat->lT):Prop:=∀ d l,lp d=some l->pH d=some l
section mono
variable {w w':lJ} {I I':Nat->Prop} {lp pH:Nat->lT}
mutual
theorem Am.mono (hI:∀ b,I b->I' b) (hb:∀ b,I b->w'.heap[b]?=w.heap[b]?) (hl:Ib lp pH) {L:l7} {x:PV} {v:lK}:Am w I lp L x v->Am w' I' pH L x v
 | .undef v=>.undef v
 | .bool b=>.bool b
 | .int k n=>.int k n
 | .str s=>.str s
 | .mu=>.mu
 | .mJ=>.mJ
 | .nn=>.nn
 | .mB=>.mB
 | .ni=>.ni
 | .qR k full a cap hf=>.qR k full a cap hf
 | .sl k Z full b off cap c E fr U H h3 h4 h5 h6 h8 h7=>.sl k Z full b off cap c E fr (hI b U) ((hb b U).trans H) h3 h4 h5 h6 h8 (Ai.mono hI hb hl h7)
 | .ptr cs o b off c E fr U H h3 h4 h8 h5=>.ptr cs o b off c E fr (hI b U) ((hb b U).trans H) h3 h4 h8 (Ai.mono hI hb hl h5)
 | .agg cs A U h=>.agg cs A U (Ai.mono hI hb hl h)
 | .iface t x v h=>.iface t x v (Am.mono hI hb hl h)
 | .fn f cs us A hk h=>.fn f cs us A hk (Ai.mono hI hb hl h)
 | .mF d l h=>.mF d l (hl d l h)
 | .mn Z A h=>.mn Z A (Ai.mono hI hb hl h)
 | .nb es r nj clock U H h3=>.nb es r nj clock (hI r U) ((hb r U).trans H) (Ai.mono hI hb hl h3)
 | .mY g t x c E fr U H h3=>.mY g t x c E fr (hI g U) ((hb g U).trans H) h3
 | .ref J o b C h=>.ref J o b C h
 | .my J k i o b C h=>.my J k i o b C h
 | .arr J k o n cap b C h hC hn=>.arr J k o n cap b C h hC hn
 | .oz J k h=>.oz J k h
 | .mp J b C h=>.mp J b C h
 | .it J b C h=>.it J b C h
theorem Ai.mono (hI:∀ b,I b->I' b) (hb:∀ b,I b->w'.heap[b]?=w.heap[b]?) (hl:Ib lp pH) {L:l7} {Z:lS} {A:List lK}:Ai w I lp L Z A->Ai w' I' pH L Z A
 | .nil=>.nil
 | .cons x v Z A h hs=>.cons x v Z A (Am.mono hI hb hl h) (Ai.mono hI hb hl hs)
end
end mono
section lift
variable {w:lJ} {I:Nat->Prop} {lp:Nat->lT}
mutual
theorem Am.lift {x:PV} {v:lK} (L:l7):Am w I lp none x v->Am w I lp L x v
 | .undef v=>.undef v
 | .bool b=>.bool b
 | .int k n=>.int k n
 | .str s=>.str s
 | .mu=>.mu
 | .mJ=>.mJ
 | .nn=>.nn
 | .mB=>.mB
 | .ni=>.ni
 | .qR k full a cap hf=>.qR k full a cap hf
 | .sl k Z full b off cap c E fr U H h3 h4 h5 h6 h8 h7=>.sl k Z full b off cap c E fr U H h3 h4 h5 h6 h8 h7
 | .ptr cs o b off c E fr U H h3 h4 h8 h5=>.ptr cs o b off c E fr U H h3 h4 h8 h5
 | .agg cs A U h=>.agg cs A U (h.lift L)
 | .iface t x v h=>.iface t x v (h.lift L)
 | .fn f cs us A hk h=>.fn f cs us A hk (h.lift L)
 | .mF d l h=>.mF d l h
 | .mn Z A h=>.mn Z A (h.lift L)
 | .nb es r nj clock U H h3=>.nb es r nj clock U H h3
 | .mY g t x c E fr U H h3=>.mY g t x c E fr U H h3
theorem Ai.lift {Z:lS} {A:List lK} (L:l7):Ai w I lp none Z A->Ai w I lp L Z A
 | .nil=>.nil
 | .cons x v Z A h hs=>.cons x v Z A (h.lift L) (hs.lift L)
end
mutual
theorem Am.shut {L:l7} {x:PV} {v:lK}:Am w I lp L x v->x.names=[]->Am w I lp none x v
 | .undef v,_=>.undef v
 | .bool b,_=>.bool b
 | .int k n,_=>.int k n
 | .str s,_=>.str s
 | .mu,_=>.mu
 | .mJ,_=>.mJ
 | .nn,_=>.nn
 | .mB,_=>.mB
 | .ni,_=>.ni
 | .qR k full a cap hf,_=>.qR k full a cap hf
 | .sl k Z full b off cap c E fr U H h3 h4 h5 h6 h8 h7,_=>.sl k Z full b off cap c E fr U H h3 h4 h5 h6 h8 h7
 | .ptr cs o b off c E fr U H h3 h4 h8 h5,_=>.ptr cs o b off c E fr U H h3 h4 h8 h5
 | .agg cs A U h,e=>.agg cs A U (h.shut (by simpa[PV.names] using e))
 | .iface t x v h,e=>.iface t x v (h.shut (by simpa[PV.names] using e))
 | .fn f cs us A hk h,e=>.fn f cs us A hk (h.shut (by simpa[PV.names] using e))
 | .mF d l h,_=>.mF d l h
 | .mn Z A h,e=>.mn Z A (h.shut (by simpa[PV.names] using e))
 | .nb es r nj clock U H h3,_=>.nb es r nj clock U H h3
 | .mY g t x c E fr U H h3,_=>.mY g t x c E fr U H h3
 | .ref J o b C h,e=>by simp[PV.names] at e
 | .my J k i o b C h,e=>by simp[PV.names] at e
 | .arr J k o n cap b C h hC hn,e=>by simp[PV.names] at e
 | .oz J k h,e=>by simp[PV.names] at e
 | .mp J b C h,e=>by simp[PV.names] at e
 | .it J b C h,e=>by simp[PV.names] at e
theorem Ai.shut {L:l7} {Z:lS} {A:List lK}:Ai w I lp L Z A->Ar Z=[]->Ai w I lp none Z A
 | .nil,_=>.nil
 | .cons x v Z A h hs,e=>.cons x v Z A (h.shut (kj.1 e).1) (hs.shut (kj.1 e).2)
end
mutual
theorem Am.oc {L L':As} {x:PV} {v:lK}:Am w I lp (some L) x v->MD L L'->Am w I lp (some L') x v
 | .undef v,_=>.undef v
 | .bool b,_=>.bool b
 | .int k n,_=>.int k n
 | .str s,_=>.str s
 | .mu,_=>.mu
 | .mJ,_=>.mJ
 | .nn,_=>.nn
 | .mB,_=>.mB
 | .ni,_=>.ni
 | .qR k full a cap hf,_=>.qR k full a cap hf
 | .sl k Z full b off cap c E fr U H h3 h4 h5 h6 h8 h7,_=>.sl k Z full b off cap c E fr U H h3 h4 h5 h6 h8 h7
 | .ptr cs o b off c E fr U H h3 h4 h8 h5,_=>.ptr cs o b off c E fr U H h3 h4 h8 h5
 | .agg cs A U h,e=>.agg cs A U (h.oc e)
 | .iface t x v h,e=>.iface t x v (h.oc e)
 | .fn f cs us A hk h,e=>.fn f cs us A hk (h.oc e)
 | .mF d l h,_=>.mF d l h
 | .mn Z A h,e=>.mn Z A (h.oc e)
 | .nb es r nj clock U H h3,_=>.nb es r nj clock U H h3
 | .mY g t x c E fr U H h3,_=>.mY g t x c E fr U H h3
 | .ref J o b C h,e=>.ref J o b C (e _ _ h)
 | .my J k i o b C h,e=>.my J k i o b C (e _ _ h)
 | .arr J k o n cap b C h hC hn,e=>.arr J k o n cap b C (e _ _ h) hC hn
 | .oz J k h,e=>.oz J k (e _ _ h)
 | .mp J b C h,e=>.mp J b C (e _ _ h)
 | .it J b C h,e=>.it J b C (e _ _ h)
theorem Ai.oc {L L':As} {Z:lS} {A:List lK}:Ai w I lp (some L) Z A->MD L L'->Ai w I lp (some L') Z A
 | .nil,_=>.nil
 | .cons x v Z A h hs,e=>.cons x v Z A (h.oc e) (hs.oc e)
end
end lift
section lists
variable {w:lJ} {I:Nat->Prop} {lp:Nat->lT} {L:l7}
theorem Ai.length {Z:lS} (h:Ai w I lp L Z A):Z.length=A.length:=by
 induction Z generalizing A with
 | nil=>cases h;rfl
 | cons x Z ih=>cases h with | cons _ v _ A h hs=>simp[ih hs]
theorem Ai.get {Z:lS} (h:Ai w I lp L Z A) (O:Z[i]?=some x):∃ v,A[i]?=some v/\Am w I lp L x v:=by
 induction Z generalizing A i with
 | nil=>simp at O
 | cons y Z ih =>
  cases h with
  | cons _ v _ A h hs =>
   cases i with
   | zero=>simp at O;subst O;exact⟨v,rfl,h⟩
   | succ i=>simp at O |-;exact ih hs O
theorem Ai.append {Z:lS} (h:Ai w I lp L Z A) (h':Ai w I lp L ys us):Ai w I lp L (Z++ys) (A++us):=by
 induction Z generalizing A with
 | nil=>cases h;exact h'
 | cons x Z ih=>cases h with | cons _ v _ A h hs=>exact .cons _ _ _ _ h (ih hs)
theorem Ai.take {Z:lS} (h:Ai w I lp L Z A) (n:Nat):Ai w I lp L (Z.take n) (A.take n):=by
 induction Z generalizing A n with
 | nil=>cases h;simp;exact .nil
 | cons x Z ih =>
  cases h with
  | cons _ v _ A h hs =>
   cases n with
   | zero=>exact .nil
   | succ n=>exact .cons _ _ _ _ h (ih hs n)
theorem Ai.drop {Z:lS} (h:Ai w I lp L Z A) (n:Nat):Ai w I lp L (Z.drop n) (A.drop n):=by
 induction Z generalizing A n with
 | nil=>cases h;simp;exact .nil
 | cons x Z ih =>
  cases h with
  | cons _ v _ A h hs =>
   cases n with
   | zero=>exact .cons _ _ _ _ h hs
   | succ n=>exact ih hs n
theorem Ai.set {Z:lS} (h:Ai w I lp L Z A) (i:Nat) (O:Am w I lp L x v):Ai w I lp L (Z.set i x) (A.set i v):=by
 induction Z generalizing A i with
 | nil=>cases h;exact .nil
 | cons y Z ih =>
  cases h with
  | cons _ u _ A h hs =>
   cases i with
   | zero=>exact .cons _ _ _ _ O hs
   | succ i=>exact .cons _ _ _ _ h (ih hs i)
theorem Ai.split {Z:lS} (h:Ai w I lp L (Z++ys) A):∃ us ts,A=us++ts/\Ai w I lp L Z us/\Ai w I lp L ys ts:=by
 induction Z generalizing A with
 | nil=>exact⟨[],A,rfl,.nil,h⟩
 | cons x Z ih =>
  cases h with
  | cons _ v _ A h hs =>
   obtain⟨us,ts,rfl,U,H⟩:=ih hs;exact⟨v :: us,ts,rfl,.cons _ _ _ _ h U,H⟩
theorem Ai.mQ (n:Nat) (A:List lK) (h:A.length=n):Ai w I lp L (List.replicate n .undef) A:=by
 induction n generalizing A with
 | zero=>cases A with | nil=>exact .nil | cons v A=>simp at h
 | succ n ih=>cases A with | nil=>simp at h | cons v A=>exact .cons _ _ _ _ (.undef v) (ih A (by simpa using h))
theorem Ai.getD {Z:lS} (h:Ai w I lp L Z A) (i:Nat) (d:lK):Am w I lp L (Z.getD i .undef) (A.getD i d):=by
 cases O:Z[i]? with
 | none=>rw[ip,O];exact .undef _
 | some x =>
  obtain⟨v,hv,hr⟩:=h.get O;rw[ip,ip,O,hv];exact hr
theorem Am.cells (h:Am w I lp L x v) (hu:x.isVal=true):A6 v.cells.toList/\Ai w I lp L x.cells v.cells.toList:=by
 cases h<;>first
  |(simp[PV.isVal] at hu;done)
  |(simp only[PV.cells,Value.cells];exact⟨by simp[A6,Value.oneCell'],.cons _ _ _ _ (by constructor<;>assumption) .nil⟩)
  |(simp only[PV.cells,Value.cells];exact⟨by assumption,by assumption⟩)
  |(rename_i d l hl;rw[yT];exact⟨by simp[A6,yv_one],.cons _ _ _ _ (.mF d l hl) .nil⟩)
theorem LK (Z ys:lS):mr (Z++ys)=mr Z++mr ys:=by
 induction Z with
 | nil=>rfl
 | cons x Z ih=>simp[mr,ih]
theorem LJ {Z:lS} (h:∀ x∈Z,x.cells.length=k):(mr Z).length=Z.length*k:=by
 induction Z with
 | nil=>simp[mr]
 | cons x Z ih =>
  simp only[mr,iQ,iM,h x (by simp),ih fun y hy=>h y (by simp[hy])];rw[iL,jU,Nat.add_comm]
theorem MT {Z:lS} (h:∀ x∈Z,x.cells.length=k) (i:Nat):mr (Z.drop i)=(mr Z).drop (i*k):=by
 induction Z generalizing i with
 | nil=>simp[mr]
 | cons x Z ih =>
  cases i with
  | zero=>simp
  | succ i =>
   simp only[List.drop_succ_cons,mr];have O:=h x (by simp);rw[ih (fun y hy=>h y (by simp[hy])) i,show (i+1)*k=x.cells.length+i*k from by rw[iL,jU,Nat.add_comm,O],<-j0,List.drop_left]
theorem Ke {Z:lS} (h:∀ x∈Z,x.cells.length=k) (i:Nat):mr (Z.take i)=(mr Z).take (i*k):=by
 induction Z generalizing i with
 | nil=>simp[mr]
 | cons x Z ih =>
  cases i with
  | zero=>simp[mr]
  | succ i =>
   simp only[List.take_succ_cons,mr];rw[ih (fun y hy=>h y (by simp[hy])) i,kU];have O:=h x (by simp);rw[show (i+1)*k=k+i*k from by rw[iL,jU,Nat.add_comm],jb (l:=x.cells) (by omega),O,kd]
theorem Uc {Z:lS} (h:∀ x∈Z,x.cells.length=k) (O:Z[i]?=some x):((mr Z).drop (i*k)).take k=x.cells:=by
 rw[<-MT h];have hd:Z.drop i=x :: Z.drop (i+1):=by obtain⟨hi,rfl⟩:=ix.1 O;exact ko hi
 rw[hd,mr,kU,jb (by have:=h x (iz O);omega)];have:=h x (iz O);simp[this]
end lists
def Tq (w:lJ) (I:Nat->Prop) (lp:Nat->lT) (L:As) (b C:Nat):Ob->Prop
 | .cells ty cs=>∃ c E,w.heap[b]?=some (.cells c E (0,0))/\c.size=C/\(A6 c.toList/\(ty=0\/E=ty))/\Ai w I lp (some L) cs c.toList
 | .arr k kt Z=>∃ c E,w.heap[b]?=some (.cells c E (0,0))/\c.size=C/\(Z.length*k<=C/\(kt=0\/E=kt))/\(∀ x∈Z,x.cells.length=k)/\A6 (c.toList.take (Z.length*k))/\Ai w I lp none (mr Z) (c.toList.take (Z.length*k))
 | .map es=>∃ nj clock,w.heap[b]?=some (.map nj clock)/\Ai w I lp (some L) es (FX nj.toList)
 | .mD s pos=>w.heap[b]?=some (.stringIter ⟨s.toArray⟩ pos)
def Ba (w:lJ) (I:Nat->Prop) (lp:Nat->lT) (L:As) (ob:Ob):Option (Nat×Nat)->Prop
 | some (b,C)=>Tq w I lp L b C ob
 | none=>∃ k kt,ob=.arr k kt []
theorem Ba.mono {w w':lJ} {I I':Nat->Prop} {lp pH:Nat->lT} {L:As} {ob:Ob} (h:Ba w I lp L ob p)
  (hI:∀ b,I b->I' b) (hb:∀ b,I b->w'.heap[b]?=w.heap[b]?) (hl:Ib lp pH) (hw:∀ b C,p=some (b,C)->w'.heap[b]?=w.heap[b]?):Ba w' I' pH L ob p:=by
 cases p with
 | none=>exact h
 | some p =>
  obtain⟨b,C⟩:=p;have hw:=hw b C rfl;cases ob with
  | cells ty cs=>obtain⟨c,E,U,H,h4,h3⟩:=h;exact⟨c,E,hw.trans U,H,h4,Ai.mono hI hb hl h3⟩
  | arr k kt Z=>obtain⟨c,E,U,H,h3,h4,h6,h5⟩:=h;exact⟨c,E,hw.trans U,H,h3,h4,h6,Ai.mono hI hb hl h5⟩
  | map es=>obtain⟨c,E,U,H⟩:=h;exact⟨c,E,hw.trans U,Ai.mono hI hb hl H⟩
  | mD s pos=>exact hw.trans h
theorem Ba.oc {w:lJ} {I:Nat->Prop} {lp:Nat->lT} {L L':As} {ob:Ob} (h:Ba w I lp L ob p) (hL:MD L L'):Ba w I lp L' ob p:=by
 cases p with
 | none=>exact h
 | some p =>
  cases ob with
  | cells ty cs=>obtain⟨c,E,U,H,h4,h3⟩:=h;exact⟨c,E,U,H,h4,h3.oc hL⟩
  | arr k kt Z=>exact h
  | map es=>obtain⟨c,E,U,H⟩:=h;exact⟨c,E,U,H.oc hL⟩
  | mD s pos=>exact h
def Wi (w:lJ) (I:Nat->Prop) (lp:Nat->lT) (b:Nat):Ob->Prop
 | .cells _ cs=>I b/\∃ c E fr,w.heap[b]?=some (.cells c E fr)/\cs.length<=c.size/\A6 (c.toList.take cs.length)/\Ai w I lp none cs (c.toList.take cs.length)
 | .arr k kt Z=>I b/\∃ c E fr,w.heap[b]?=some (.cells c E fr)/\Z.length*k<=c.size/\(∀ x∈Z,x.cells.length=k)/\A6 (c.toList.take (Z.length*k))/\Ai w I lp none (mr Z) (c.toList.take (Z.length*k))
 | .map es=>I b/\∃ nj clock,w.heap[b]?=some (.map nj clock)/\Ai w I lp none es (FX nj.toList)
 | .mD _ _=>True
def DR (w:lJ) (I':Nat->Prop) (lp:Nat->lT) (L:As) (L':l7) (S:Nm->Prop) (f:Nm->Option lV):Prop :=
 ∀ J p,S J->L J=some p->match f J with
  | none=>∃ M,L'=some M/\M J=some p
  | some none=>True
  | some (some ob)=>match p with
   | some (b,_)=>Wi w I' lp b ob
   | none=>∃ k kt,ob=.arr k kt []
section sub
variable {w:lJ} {I I':Nat->Prop} {lp:Nat->lT} {L:As} {L':l7} {S:Nm->Prop} {f:Nm->Option lV}
theorem sub_ref (hs:DR w I' lp L L' S f) (J:Nm) (hS:S J) (o b C:Nat) (h:L J=some (some (b,C))) :
  Am w I' lp L' ((PV.ref J o).sub f) (.pointer (some ⟨b,o,none⟩)):=by
 have:=hs J _ hS h;simp only[PV.sub];split at this;{rename_i hf;obtain⟨M,rfl,hM⟩:=this;rw[hf];exact .ref J o b C hM};{rename_i hf;rw[hf];exact .undef _}
 ·rename_i ob hf;rw[hf];cases ob with
  | cells ty cs =>
   obtain⟨hi,c,E,fr,U,H,h5,h3⟩:=this;simp only
   split;{rename_i ho;have:=Am.ptr (w:=w) (I:=I') (lp:=lp) (L:=L') cs o b 0 c E fr hi U (by omega) ho (by simpa using h5) (by simpa using h3);simpa using this};{exact .undef _}
  | arr k kt Z=>exact .undef _
  | map es=>exact .undef _
  | mD s p=>exact .undef _
theorem yU (hs:DR w I' lp L L' S f) (J:Nm) (hS:S J) (k i o b C:Nat) (h:L J=some (some (b,C))) :
  Am w I' lp L' ((PV.my J k i o).sub f) (.pointer (some ⟨b,i*k+o,none⟩)):=by
 have:=hs J _ hS h;simp only[PV.sub];split at this;{rename_i hf;obtain⟨M,rfl,hM⟩:=this;rw[hf];exact .my J k i o b C hM};{rename_i hf;rw[hf];exact .undef _}
 ·rename_i ob hf;rw[hf];cases ob with
  | arr k' kt Z =>
   obtain⟨hi,c,E,fr,U,H,h3,h5,h4⟩:=this;simp only
   split
   ·rename_i hk;subst hk;split
    ·rename_i x O;split
     ·rename_i ho;have qe:=h3 x (iz O);have mL:=(ix.1 O).1;have hle:(i+1)*k<=Z.length*k:=je _ mL;rw[iL,jU] at hle;have e:((c.toList.take (Z.length*k)).drop (i*k)).take k=(c.toList.drop (i*k)).take k:=by rw[jI,jg,jf (by omega)]
      refine Am.ptr x.cells o b (i*k) c E fr hi U (by omega) ho ?_ ?_;{rw[qe,<-e];exact (h5.p6 _).pQ _}
      ·have:=(h4.drop (i*k)).take k;rw[Uc h3 O] at this;rw[qe]
       rwa [e] at this
     {exact .undef _}
    {exact .undef _}
   {exact .undef _}
  | cells ty cs=>exact .undef _
  | map es=>exact .undef _
  | mD s p=>exact .undef _
theorem sub_arr (hs:DR w I' lp L L' S f) (J:Nm) (hS:S J) (k o n cap b C:Nat) (h:L J=some (some (b,C))) (hC:(o+cap)*k<=C) (hn:n<=cap) :
  Am w I' lp L' ((PV.arr J k o n).sub f) (.slice (some ⟨b,o*k,none⟩) n cap):=by
 have:=hs J _ hS h;simp only[PV.sub];split at this;{rename_i hf;obtain⟨M,rfl,hM⟩:=this;rw[hf];exact .arr J k o n cap b C hM hC hn};{rename_i hf;rw[hf];exact .undef _}
 ·rename_i ob hf;rw[hf];cases ob with
  | arr k' kt Z =>
   obtain⟨hi,c,E,fr,U,H,h3,h5,h4⟩:=this;simp only
   split
   ·rename_i hk;obtain⟨rfl,hon⟩:=hk;have hlen:((Z.drop o).take n).length=n:=by simp;omega
    have hm:∀ x∈(Z.drop o).take n,x.cells.length=k:=fun x O=>h3 x (jH (ja O));have hle:(o+n)*k<=Z.length*k:=je _ hon;rw[iL] at hle;have e:((c.toList.take (Z.length*k)).drop (o*k)).take (n*k)=(c.toList.drop (o*k)).take (n*k):=by rw[jI,jg,jf (by omega)]
    have key:=Am.sl (w:=w) (I:=I') (lp:=lp) (L:=L') k ((Z.drop o).take n) false b (o*k) cap c E fr hi U (by rw[hlen];omega) hm (by rw[hlen];exact hn) (by simp) ?_ ?_
    ·rwa [hlen] at key
    {rw[hlen,<-e];exact (h5.p6 _).pQ _}
    ·rw[hlen];have:=(h4.drop (o*k)).take (n*k);rw[<-MT h3,<-Ke fun x O=>h3 x (jH O)] at this
     rwa [e] at this
   {exact .undef _}
  | cells ty cs=>exact .undef _
  | map es=>exact .undef _
  | mD s p=>exact .undef _
theorem yV (hs:DR w I' lp L L' S f) (J:Nm) (hS:S J) (k:Nat) (h:L J=some none) :
  Am w I' lp L' ((PV.arr J k 0 0).sub f) (.slice none 0 0):=by
 have:=hs J _ hS h;simp only[PV.sub];split at this;{rename_i hf;obtain⟨M,rfl,hM⟩:=this;rw[hf];exact .oz J k hM};{rename_i hf;rw[hf];exact .undef _}
 ·rename_i ob hf;obtain⟨k',kt,rfl⟩:=this;rw[hf];simp only
  split;{rename_i hk;obtain⟨rfl,_⟩:=hk;simpa using Am.qR k false none 0 (by simp)};{exact .undef _}
theorem sub_mp (hs:DR w I' lp L L' S f) (J:Nm) (hS:S J) (b C:Nat) (h:L J=some (some (b,C))):Am w I' lp L' ((PV.mp J).sub f) (.map (some b)):=by
 have:=hs J _ hS h;simp only[PV.sub];split at this;{rename_i hf;obtain⟨M,rfl,hM⟩:=this;rw[hf];exact .mp J b C hM};{rename_i hf;rw[hf];exact .undef _}
 ·rename_i ob hf;rw[hf];cases ob with
  | map es=>obtain⟨hi,nj,clock,U,H⟩:=this;exact .nb es b nj clock hi U H
  | cells ty cs=>exact .undef _
  | arr k kt Z=>exact .undef _
  | mD s p=>exact .undef _
theorem sub_it (hs:DR w I' lp L L' S f) (J:Nm) (hS:S J) (b C:Nat) (h:L J=some (some (b,C))):Am w I' lp L' ((PV.it J).sub f) (.pointer (some ⟨b,0,none⟩)):=by have:=hs J _ hS h;simp only[PV.sub];split at this;{rename_i hf;obtain⟨M,rfl,hM⟩:=this;rw[hf];exact .it J b C hM};{rename_i hf;rw[hf];exact .undef _};{rename_i ob hf;rw[hf];exact .undef _}
mutual
theorem Am.subst (hI:∀ b,I b->I' b) (hs:DR w I' lp L L' S f) {x:PV} {v:lK}:Am w I lp (some L) x v->(∀ J∈x.names,S J)->Am w I' lp L' (x.sub f) v
 | .undef v,_=>.undef v
 | .bool b,_=>.bool b
 | .int k n,_=>.int k n
 | .str s,_=>.str s
 | .mu,_=>.mu
 | .mJ,_=>.mJ
 | .nn,_=>.nn
 | .mB,_=>.mB
 | .ni,_=>.ni
 | .qR k full a cap hf,_=>.qR k full a cap hf
 | .sl k Z full b off cap c E fr U H h3 h4 h5 h6 h8 h7,_=>.sl k Z full b off cap c E fr (hI b U) H h3 h4 h5 h6 h8 (Ai.mono hI (fun _ _=>rfl) (fun _ _ h=>h) h7)
 | .ptr cs o b off c E fr U H h3 h4 h8 h5,_=>.ptr cs o b off c E fr (hI b U) H h3 h4 h8 (Ai.mono hI (fun _ _=>rfl) (fun _ _ h=>h) h5)
 | .agg cs A U h,e=>.agg _ A U (Ai.subst hI hs h fun J hn=>e J (by simpa[PV.names] using hn))
 | .iface t x v h,e=>.iface t _ v (Am.subst hI hs h fun J hn=>e J (by simpa[PV.names] using hn))
 | .fn g cs us A hk h,e=>.fn g _ us A hk (Ai.subst hI hs h fun J hn=>e J (by simpa[PV.names] using hn))
 | .mF d l h,_=>.mF d l h
 | .mn Z A h,e=>.mn _ A (Ai.subst hI hs h fun J hn=>e J (by simpa[PV.names] using hn))
 | .nb es r nj clock U H h3,_=>.nb es r nj clock (hI r U) H (Ai.mono hI (fun _ _=>rfl) (fun _ _ h=>h) h3)
 | .mY g t x c E fr U H h3,_=>.mY g t x c E fr (hI g U) H h3
 | .ref J o b C h,e=>sub_ref hs J (e J (by simp[PV.names])) o b C h
 | .my J k i o b C h,e=>yU hs J (e J (by simp[PV.names])) k i o b C h
 | .arr J k o n cap b C h hC hn,e=>sub_arr hs J (e J (by simp[PV.names])) k o n cap b C h hC hn
 | .oz J k h,e=>yV hs J (e J (by simp[PV.names])) k h
 | .mp J b C h,e=>sub_mp hs J (e J (by simp[PV.names])) b C h
 | .it J b C h,e=>sub_it hs J (e J (by simp[PV.names])) b C h
theorem Ai.subst (hI:∀ b,I b->I' b) (hs:DR w I' lp L L' S f) {Z:lS} {A:List lK}:Ai w I lp (some L) Z A->(∀ J∈Ar Z,S J)->Ai w I' lp L' (AM f Z) A
 | .nil,_=>.nil
 | .cons x v Z A h h',e=>.cons _ v _ A (Am.subst hI hs h fun J hn=>e J (iF _ hn)) (Ai.subst hI hs h' fun J hn=>e J (iJ _ hn))
end
end sub
section mz
variable {w:lJ} {I:Nat->Prop} {lp:Nat->lT} {L L':As} {f:Nm->Nm}
mutual
theorem Am.rename (hf:∀ J p,L J=some p->L' (f J)=some p) {x:PV} {v:lK}:Am w I lp (some L) x v->Am w I lp (some L') (x.mz f) v
 | .undef v=>.undef v
 | .bool b=>.bool b
 | .int k n=>.int k n
 | .str s=>.str s
 | .mu=>.mu
 | .mJ=>.mJ
 | .nn=>.nn
 | .mB=>.mB
 | .ni=>.ni
 | .qR k full a cap hf=>.qR k full a cap hf
 | .sl k Z full b off cap c E fr U H h3 h4 h5 h6 h8 h7=>.sl k Z full b off cap c E fr U H h3 h4 h5 h6 h8 h7
 | .ptr cs o b off c E fr U H h3 h4 h8 h5=>.ptr cs o b off c E fr U H h3 h4 h8 h5
 | .agg cs A U h=>.agg _ A U (Ai.rename hf h)
 | .iface t x v h=>.iface t _ v (Am.rename hf h)
 | .fn g cs us A hk h=>.fn g _ us A hk (Ai.rename hf h)
 | .mF d l h=>.mF d l h
 | .mn Z A h=>.mn _ A (Ai.rename hf h)
 | .nb es r nj clock U H h3=>.nb es r nj clock U H h3
 | .mY g t x c E fr U H h3=>.mY g t x c E fr U H h3
 | .ref J o b C h=>.ref _ o b C (hf _ _ h)
 | .my J k i o b C h=>.my _ k i o b C (hf _ _ h)
 | .arr J k o n cap b C h hC hn=>.arr _ k o n cap b C (hf _ _ h) hC hn
 | .oz J k h=>.oz _ k (hf _ _ h)
 | .mp J b C h=>.mp _ b C (hf _ _ h)
 | .it J b C h=>.it _ b C (hf _ _ h)
theorem Ai.rename (hf:∀ J p,L J=some p->L' (f J)=some p) {Z:lS} {A:List lK}:Ai w I lp (some L) Z A->Ai w I lp (some L') (AY f Z) A
 | .nil=>.nil
 | .cons x v Z A h h'=>.cons _ v _ A (Am.rename hf h) (Ai.rename hf h')
end
end mz
end Go.Ab


namespace Go.Ab
variable{F':Nat->Prop} {S:Nm->Prop} {d lo:Nat} {f:Nm->Option lV} {m J:Nm} {qm:Ob} {rp σ:List lY} {p:Option (Nat×Nat)} {v:PV} {v':lK}
theorem Ee (g:Ob->Ob) (σ:List lY) (J:Nm):Ac (σ.map (·.map g)) J=(Ac σ J).map g:=by
 unfold Ac;rw[iC];cases σ[J.1]? with
 | none=>rfl
 | some l=>simp
theorem Ka {ob:Ob} (o:Ob) (h:Ac σ J=some ob):Ac (AR σ J o) J=some o:=by
 unfold Ac at h;unfold Ac AR;cases hl:σ[J.1]? with
 | none=>rw[hl] at h;cases h
 | some l =>
  rw[hl] at h;have U:=(ix.1 hl).1;have H:=(ix.1 h).1;simp[U,H]
theorem FC (o:Ob) (h:m≠J):Ac (AR σ J o) m=Ac σ m:=by
 unfold Ac AR;cases hl:σ[J.1]? with
 | none=>rfl
 | some l =>
  by_cases U:m.1=J.1;{have H:m.2≠J.2:=fun e=>h (Prod.ext U e);have mL:=(ix.1 hl).1;rw[U,hl,jo mL];simp[iI (iN H)]};{rw[iI (iN U)]}
theorem Kb (o:Ob):Ac (AR σ J o) m=none↔Ac σ m=none:=by
 by_cases h:m=J
 ·subst h;cases hl:Ac σ m with
  | some ob=>rw[Ka o hl];simp
  | none =>
   unfold Ac at hl;unfold Ac AR;cases hs:σ[m.1]? with
   | none=>simp[hs]
   | some l =>
    rw[hs] at hl;have U:=(ix.1 hs).1;simp[U];exact iR.1 hl
 {rw[FC o h]}
theorem Fc (obs:lY) (hd:d < σ.length) (j:Nat):Ac (σ.set d obs) (d,j)=obs[j]?:=by unfold Ac;simp[hd]
theorem EA (obs:lY) (h:m.1≠d):Ac (σ.set d obs) m=Ac σ m:=by unfold Ac;rw[iI (iN h)]
structure SR (lp:Nat->lT) (I:Nat->Prop) (L:As) (V:St) (mN ml:List lK) (w:lJ):Prop where
 tm:Ai w I lp (some L) V.tmps mN
 kp:Ai w I lp (some L) V.mj ml
 ob:∀ J ob,Ac V.mi J=some ob->∃ p,L J=some p/\Ba w I lp L ob p
 pR:∀ J,Ac V.mi J=none->L J=none
section sr
variable {lp:Nat->lT} {I I':Nat->Prop} {L L':As} {V:St} {mN ml:List lK} {w w':lJ}
theorem SR.keeps (h:SR lp I L V mN ml w) (hI:∀ b,I b->I' b) (hb:∀ b,I b->w'.heap[b]?=w.heap[b]?)
  (ho:∀ J b C,L J=some (some (b,C))->w'.heap[b]?=w.heap[b]?):SR lp I' L V mN ml w' where
 tm:=Ai.mono hI hb (fun _ _ h=>h) h.tm
 kp:=Ai.mono hI hb (fun _ _ h=>h) h.kp
 ob J ob hl:=by obtain⟨p,hp,ha⟩:=h.ob J ob hl;exact⟨p,hp,ha.mono hI hb (fun _ _ h=>h) fun b C e=>ho J b C (by rw[hp,e])⟩
 pR:=h.pR
theorem SR.put (h:SR lp I L V mN ml w) (d:Nat) (hv:Am w I lp (some L) v v'):SR lp I L {V with tmps:=V.tmps.set d v} (mN.set d v') ml w :=
 {h with tm:=h.tm.set d hv}
def Ck (L:As) (d:Nat) (ps:List (Option (Nat×Nat))):As:=fun J=>if J.1=d then ps[J.2]? else L J
theorem SR.fresh (h:SR lp I L V mN ml w) (hd:V.mi[d]?=some []) (ps:List (Option (Nat×Nat))):MD L (Ck L d ps):=by intro J p hp;unfold Ck;split;{rename_i hn;exfalso;have:=h.pR J (by unfold Ac;rw[hn,hd];rfl);rw[hp] at this;cases this};{exact hp}
theorem SR.news (h:SR lp I L V mN ml w) (hd:V.mi[d]?=some []) (obs:lY) (ps:List (Option (Nat×Nat))) (hl:ps.length=obs.length)
  (oI:∀ (j:Nat) (ob:Ob) (p:Option (Nat×Nat)),obs[j]?=some ob->ps[j]?=some p->Ba w I lp (Ck L d ps) ob p) :
  SR lp I (Ck L d ps) {V with mi:=V.mi.set d obs} mN ml w where
 tm:=h.tm.oc (h.fresh hd ps)
 kp:=h.kp.oc (h.fresh hd ps)
 ob J ob nq:=by by_cases hn:J.1=d;{obtain⟨a,j⟩:=J;simp only at hn;subst hn;simp only at nq;rw[Fc obs (ix.1 hd).1] at nq;have hj:=(ix.1 nq).1;refine⟨ps[j]'(by omega),by simp[Ck,hl,hj],oI j ob _ nq (by simp[hl,hj])⟩};{simp only at nq;rw[EA obs hn] at nq;obtain⟨p,hp,ha⟩:=h.ob J ob nq;exact⟨p,by simp[Ck,hn,hp],ha.oc (h.fresh hd ps)⟩}
 pR J nq:=by by_cases hn:J.1=d;{obtain⟨a,j⟩:=J;simp only at hn;subst hn;simp only at nq;rw[Fc obs (ix.1 hd).1] at nq;have:=iR.1 nq;simp only[Ck,lq];exact iR.2 (by omega)};{simp only at nq;rw[EA obs hn] at nq;simp only[Ck,hn,lm];exact h.pR J nq}
theorem SR.nf (h:SR lp I L V mN ml w) (hp:L J=some p) (hb:∀ b,I b->w'.heap[b]?=w.heap[b]?)
  (ho:∀ m b C,m≠J->L m=some (some (b,C))->w'.heap[b]?=w.heap[b]?) (oI:Ba w' I lp L qm p) :
  SR lp I L {V with mi:=AR V.mi J qm} mN ml w' where
 tm:=Ai.mono (fun _ h=>h) hb (fun _ _ h=>h) h.tm
 kp:=Ai.mono (fun _ h=>h) hb (fun _ _ h=>h) h.kp
 ob m ob hl:=by
  simp only at hl;by_cases hm:m=J
  ·subst hm
   have oK:∃ o,Ac V.mi m=some o:=by
    cases hk:Ac V.mi m with
    | some o=>exact⟨o,rfl⟩
    | none=>have:=h.pR m hk;rw[hp] at this;cases this
   obtain⟨o,hk⟩:=oK;rw[Ka qm hk] at hl;cases hl;exact⟨p,hp,oI⟩
  {rw[FC qm hm] at hl;obtain⟨q,hq,ha⟩:=h.ob m ob hl;exact⟨q,hq,ha.mono (fun _ h=>h) hb (fun _ _ h=>h) fun b C e=>ho m b C hm (by rw[hq,e])⟩}
 pR m hl:=by simp only at hl;exact h.pR m ((Kb qm).1 hl)
theorem Ba.subst {ob:Ob} (h:Ba w I lp L ob p) (hI:∀ b,I b->I' b) (hb:∀ b,I b->w'.heap[b]?=w.heap[b]?)
  (hs:DR w' I' lp L (some L') S f) (hn:∀ J∈ob.names,S J) (hw:∀ b C,p=some (b,C)->w'.heap[b]?=w.heap[b]?):Ba w' I' lp L' (ob.sub f) p:=by
 cases p with
 | none=>obtain⟨k,kt,rfl⟩:=h;exact⟨k,kt,rfl⟩
 | some p =>
  obtain⟨b,C⟩:=p;have hw:=hw b C rfl;cases ob with
  | cells ty cs =>
   obtain⟨c,E,U,H,h4,h3⟩:=h;exact⟨c,E,hw.trans U,H,h4,Ai.subst hI hs (Ai.mono (fun _ h=>h) hb (fun _ _ h=>h) h3) hn⟩
  | arr k kt Z=>obtain⟨c,E,U,H,h3,h4,h6,h5⟩:=h;exact⟨c,E,hw.trans U,H,h3,h4,h6,Ai.mono hI hb (fun _ _ h=>h) h5⟩
  | map es=>obtain⟨c,E,U,H⟩:=h;exact⟨c,E,hw.trans U,Ai.subst hI hs (Ai.mono (fun _ h=>h) hb (fun _ _ h=>h) H) hn⟩
  | mD s pos=>exact hw.trans h
theorem SR.subst (h:SR lp I L V mN ml w) (hI:∀ b,I b->I' b) (hb:∀ b,I b->w'.heap[b]?=w.heap[b]?)
  (hs:DR w' I' lp L (some L') (fun _=>True) f)
  (oI:∀ J ob,Ac rp J=some ob->∃ p,L' J=some p/\Ba w' I' lp L' ob p) (hdom:∀ J,Ac rp J=none->L' J=none) :
  SR lp I' L' {tmps:=AM f V.tmps,mi:=rp,mj:=AM f V.mj} mN ml w' where
 tm:=Ai.subst hI hs (Ai.mono (fun _ h=>h) hb (fun _ _ h=>h) h.tm) fun _ _=>trivial
 kp:=Ai.subst hI hs (Ai.mono (fun _ h=>h) hb (fun _ _ h=>h) h.kp) fun _ _=>trivial
 ob:=oI
 pR:=hdom
theorem SR.yW (h:SR lp I L V mN ml w) {k kt:Nat} {Z:lS} {p':Option (Nat×Nat)} (hp:L J=some p) (hb:∀ b,I b->w'.heap[b]?=w.heap[b]?)
  (ho:∀ m b C,m≠J->L m=some (some (b,C))->w'.heap[b]?=w.heap[b]?)
  (oI:Ba w' I lp (fun m=>if m=J then some p' else L m) (.arr k kt Z) p') :
  SR lp I (fun m=>if m=J then some p' else L m) (CF (fun m=>if m=J then some none else none) {V with mi:=AR V.mi J (.arr k kt Z)}) mN ml w':=by
 have hs:DR w' I lp L (some fun m=>if m=J then some p' else L m) (fun _=>True) (fun m=>if m=J then some none else none):=by intro m q _ hq;by_cases hm:m=J;{simp[hm]};{simp[hm,hq]}
 obtain⟨o,hk⟩:∃ o,Ac V.mi J=some o:=by
  cases hk:Ac V.mi J with
  | some o=>exact⟨o,rfl⟩
  | none=>have:=h.pR J hk;rw[hp] at this;cases this
 refine h.subst (fun _ h=>h) hb hs ?_ ?_;{intro m ob hl;simp only[Ee,ij] at hl;obtain⟨oZ,hl,rfl⟩:=hl;by_cases hm:m=J;{subst hm;rw[Ka _ hk] at hl;cases hl;exact⟨p',by simp,oI⟩};{rw[FC _ hm] at hl;obtain⟨q,hq,ha⟩:=h.ob m oZ hl;exact⟨q,by simp[hm,hq],ha.subst (fun _ h=>h) hb hs (fun _ _=>trivial) fun b C e=>ho m b C hm (by rw[hq,e])⟩}};{intro m hl;simp only[Ee,Option.map_eq_none_iff] at hl;have si:=(Kb _).1 hl;by_cases hm:m=J;{subst hm;rw[hk] at si;cases si};{simp[hm,h.pR m si]}}
end sr
structure BS (I F:Nat->Prop) (w:lJ) (I' F':Nat->Prop) (w':lJ):Prop where
 os:w'.os=w.os
 tape:w'.tape=w.tape
 output:w'.output=w.output
 size:w.heap.size<=w'.heap.size
 mj:∀ b,b < w.heap.size->¬ F b->w'.heap[b]?=w.heap[b]?
 pV:∀ b,I b->I' b
 py:∀ b,I' b->I b\/F b\/w.heap.size<=b
 pL:∀ b,F' b->F b\/w.heap.size<=b
theorem BS.refl (I F:Nat->Prop) (w:lJ):BS I F w I F w:=⟨rfl,rfl,rfl,ik _,fun _ _ _=>rfl,fun _ h=>h,fun _ h=>.inl h,fun _ h=>.inl h⟩
theorem BS.trans {I F I' I'' F'':Nat->Prop} {w w' w'':lJ} (h:BS I F w I' F' w') (h':BS I' F' w' I'' F'' w''):BS I F w I'' F'' w'' where
 os:=h'.os.trans h.os
 tape:=h'.tape.trans h.tape
 output:=h'.output.trans h.output
 size:=kq h.size h'.size
 mj b hb hF:=(h'.mj b (jO hb h.size) fun hf=>(h.pL b hf).elim hF fun U=>by omega).trans (h.mj b hb hF)
 pV b hb:=h'.pV b (h.pV b hb)
 py b hb:=by rcases h'.py b hb with U | U | U;{exact h.py b U};{exact .inr (h.pL b U)};{exact .inr (.inr (kq h.size U))}
 pL b hb:=(h'.pL b hb).elim (h.pL b) fun U=>.inr (kq h.size U)
structure IF (I F:Nat->Prop) (w:lJ):Prop where
 iB:∀ b,I b->b < w.heap.size
 fB:∀ b,F b->b < w.heap.size/\¬ I b
theorem BS.tz {I F I':Nat->Prop} {w w':lJ} (h:BS I F w I' F' w') (hi:IF I F w) (b:Nat) (hb:I b):w'.heap[b]?=w.heap[b]? :=
 h.mj b (hi.iB b hb) fun hf=>(hi.fB b hf).2 hb
structure Cx where
 P:lO
 mixed:P.follows .mixedOrders=true
 G:EO
 Wd:(Nat->Prop)->lJ->Prop
 pW:∀ (I I':Nat->Prop) (w w':lJ),Wd I w->(∀ b,I b->I' b)->(∀ b,I b->w'.heap[b]?=w.heap[b]?)->w.heap.size<=w'.heap.size->Wd I' w'
 gl:∀ (I:Nat->Prop) (w:lJ) (g:Nat) (cs:lS),Wd I w->G g=some cs->∀ lp L,Am w I lp L (.ptr cs 0) (.pointer (some ⟨g,0,none⟩))
structure Bs (E:Type) where
 rel:E->(Nat->Prop)->(Nat->Prop)->lJ->Prop
 pW:∀ (e:E) (I I' F:Nat->Prop) (w w':lJ),rel e I F w->(∀ b,I b->I' b)->(∀ b,I b\/F b->w'.heap[b]?=w.heap[b]?)->w.heap.size<=w'.heap.size->rel e I' F w'
structure BE where
 own:Nat->Prop
 dfs:List lQ:=[]
instance:CoeFun BE fun _=>Nat->Prop:=⟨BE.own⟩
inductive Cg (lo:Nat) (I F:Nat->Prop) (L:As) (w:lJ):List lQ->List lQ->Prop
 | nil:Cg lo I F L w [] []
 | cons (D:Nat) (ds rs:List lQ) (U:lo<=D) (H:D < w.heap.size) (h3:¬ I D) (h4:¬ F D) (h5:∀ J C,L J≠some (some (D,C)))
   (h6:w.heap[D]?=some (.deferred (some []))) (h7:∀ d∈ds,d.target≠.collected D) (h:Cg lo I F L w ds rs):Cg lo I F L w ({target:=.collected D,args:=#[]} :: ds) rs
 | call (d:lQ) (ds rs:List lQ) (hd:∀ D,d.target≠.collected D) (h:Cg lo I F L w ds rs):Cg lo I F L w (d :: ds) (d :: rs)
structure Fr {E:Type} (cx:Cx) (w0:lJ) (I0 F0:Nat->Prop) (O0:BE) (Hd:Nat->Option Obj) (R:Bs E) (e:E) (ds:List lQ) (I F:Nat->Prop) (L:As) (w:lJ):Prop where
 ext:BS I0 F0 w0 I F w
 sep:IF I F w
 oF:∀ b,O0 b->F0 b
 lB:∀ J b C,L J=some (some (b,C))->(w0.heap.size<=b\/O0 b)/\b < w.heap.size/\¬ I b/\¬ F b
 inj:∀ J nr b C C',L J=some (some (b,C))->L nr=some (some (b,C'))->J=nr
 wd:cx.Wd I w
 re:R.rel e I F w
 rq:Cg w0.heap.size I F L w ds O0.dfs
 ry:∀ b ob,Hd b=some ob->b < w.heap.size/\¬ I b/\¬ F b/\(∀ J C,L J≠some (some (b,C)))/\w.heap[b]?=some ob
theorem Cg.move {I F I':Nat->Prop} {L L':As} {w w':lJ} {ds rs:List lQ} (h:Cg lo I F L w ds rs) (hs:w.heap.size<=w'.heap.size)
  (hk:∀ D,D < w.heap.size->lo<=D->¬ I D->¬ F D->(∀ J C,L J≠some (some (D,C)))->w'.heap[D]?=w.heap[D]?/\¬ I' D/\¬ F' D/\(∀ J C,L' J≠some (some (D,C)))):Cg lo I' F' L' w' ds rs:=by
 induction h with
 | nil=>exact .nil
 | cons D ds rs U H h3 h4 h5 h6 h7 _ ih =>
  obtain⟨a,b,c,d⟩:=hk D H U h3 h4 h5;exact .cons D ds rs U (jO H hs) b c d (a.trans h6) h7 ih
 | call d ds rs hd _ ih=>exact .call d ds rs hd ih
section fr
variable {E:Type} {cx:Cx} {w0:lJ} {I0 F0:Nat->Prop} {O0:BE} {Hd:Nat->Option Obj} {R:Bs E} {e:E} {ds:List lQ} {I F I':Nat->Prop} {L L':As} {w w':lJ}
theorem Fr.tz (h:Fr cx w0 I0 F0 O0 Hd R e ds I F L w) (hk:∀ b,b < w.heap.size->(∀ J C,L J≠some (some (b,C)))->w'.heap[b]?=w.heap[b]?) (b:Nat) (hb:I b):w'.heap[b]?=w.heap[b]? :=
 hk b (h.sep.iB b hb) fun J C hL=>(h.lB J b C hL).2.2.1 hb
theorem Fr.own (h:Fr cx w0 I0 F0 O0 Hd R e ds I F L w) (U:w'.os=w.os) (H:w'.tape=w.tape) (h3:w'.output=w.output) (h4:w.heap.size<=w'.heap.size)
  (hk:∀ b,b < w.heap.size->(∀ J C,L J≠some (some (b,C)))->w'.heap[b]?=w.heap[b]?) (hI:∀ b,I b->I' b)
  (hI':∀ b,I' b->I b\/(b < w'.heap.size/\(w.heap.size<=b\/∃ J C,L J=some (some (b,C)))))
  (hL:∀ J b C,L' J=some (some (b,C))->b < w'.heap.size/\¬ I' b/\(w.heap.size<=b\/∃ nr C',L nr=some (some (b,C'))))
  (hinj:∀ J nr b C C',L' J=some (some (b,C))->L' nr=some (some (b,C'))->J=nr):Fr cx w0 I0 F0 O0 Hd R e ds I' F L' w' where
 ext:=by have oL:=h.ext.size;refine⟨U.trans h.ext.os,H.trans h.ext.tape,h3.trans h.ext.output,kq oL h4,fun b hb hf=>?_,fun b hb=>hI b (h.ext.pV b hb),fun b hb=>?_,h.ext.pL⟩;{exact (hk b (by omega) fun J C hn=>(h.lB J b C hn).1.elim (fun U=>by omega) fun ho=>hf (h.oF b ho)).trans (h.ext.mj b hb hf)};{rcases hI' b hb with h5 | ⟨_,h5 | ⟨J,C,h5⟩⟩;{exact h.ext.py b h5};{exact .inr (.inr (by omega))};{exact .inr ((h.lB J b C h5).1.elim .inr fun ho=>.inl (h.oF b ho))}}
 sep:=⟨fun b hb=>(hI' b hb).elim (fun h5=>jO (h.sep.iB b h5) h4) fun h5=>h5.1,
  fun b hb=>⟨jO (h.sep.fB b hb).1 h4,fun hi=>by
   rcases hI' b hi with h5 | ⟨_,h5 | ⟨J,C,h5⟩⟩;·exact (h.sep.fB b hb).2 h5
   ·have:=(h.sep.fB b hb).1;omega
   ·exact (h.lB J b C h5).2.2.2 hb⟩⟩
 oF:=h.oF
 lB J b C hn:=by obtain⟨a1,a2,a3⟩:=hL J b C hn;have oL:=h.ext.size;refine⟨?_,a1,a2,?_⟩;{rcases a3 with a3 | ⟨nr,C',a3⟩;{exact .inl (by omega)};{exact (h.lB nr b C' a3).1}};{intro hf;rcases a3 with a3 | ⟨nr,C',a3⟩;{have:=(h.sep.fB b hf).1;omega};{exact (h.lB nr b C' a3).2.2.2 hf}}
 inj:=hinj
 wd:=cx.pW I I' w w' h.wd hI (h.tz hk) h4
 re:=R.pW e I I' F w w' h.re hI (fun b hb=>by
  rcases hb with hb | hb;·exact h.tz hk b hb
  ·exact hk b (h.sep.fB b hb).1 fun J C hn=>(h.lB J b C hn).2.2.2 hb) h4
 rq:=h.rq.move h4 fun D d1 d2 d3 d4 d5=>⟨hk D d1 d5,fun hi=>by
   rcases hI' D hi with h5 | ⟨_,h5 | ⟨J,C,h5⟩⟩;·exact d3 h5
   ·omega
   ·exact d5 J C h5,d4,fun J C hn=>by
   rcases (hL J D C hn).2.2 with h5 | ⟨nr,C',h5⟩;·omega
   ·exact d5 nr C' h5⟩
 ry b ob hb:=by obtain⟨d1,d2,d3,d4,d5⟩:=h.ry b ob hb;refine⟨by omega,fun hi=>?_,d3,fun J C hn=>?_,(hk b d1 d4).trans d5⟩;{rcases hI' b hi with h5 | ⟨_,h5 | ⟨J,C,h5⟩⟩;{exact d2 h5};{omega};{exact d4 J C h5}};{rcases (hL J b C hn).2.2 with h5 | ⟨nr,C',h5⟩;{omega};{exact d4 nr C' h5}}
end fr
end Go.Ab


namespace Go.Ab
variable{C b d f g:Nat} {J:Nm} {obj:Obj} {ps:List (Option (Nat×Nat))} {r:RX} {tmps:Array lK} {v v':lK} {w' w1:lJ} {x:lM}
theorem yX (n:Nat):Nat.blt (f+b*(n+1)) b=false:=by
 cases hq:Nat.blt (f+b*(n+1)) b with
 | false=>rfl
 | true =>
  have U:=Nat.blt_eq.mp hq;have H:=Nat.le_mul_of_pos_right b (Nat.succ_pos n);exact lH (jO U (kq H (Nat.le_add_left _ f))) (Nat.lt_irrefl _)
theorem num_div (hb:f < b) (n:Nat):(f+b*(n+1)) / b=n+1:=by rw[Nat.add_mul_div_left _ _ (Nat.lt_of_le_of_lt (jP f) hb),Nat.div_eq_of_lt hb,iO]
theorem num_mod (hb:f < b) (n:Nat):(f+b*(n+1))%b=f:=by rw[Nat.add_mul_mod_self_left,Nat.mod_eq_of_lt hb]
theorem fnK_ge (h:Nat.blt g Dj=false):Fa g=g / Dj:=by unfold Fa;rw[h]
theorem fnId_ge (h:Nat.blt g Dj=false):AO g=g%Dj:=by unfold AO;rw[h]
theorem fnNum_k {f:lL} (hb:Nat.blt f Dj=true):∀ n,Fa (Qt f n)=n
 | 0=>by simp[Qt,Fa,hb]
 | n+1=>(fnK_ge (yX n)).trans (num_div (Nat.blt_eq.mp hb) n)
theorem yY {f:lL} (hb:Nat.blt f Dj=true):∀ n,AO (Qt f n)=f
 | 0=>by simp[Qt,AO,hb]
 | n+1=>(fnId_ge (yX n)).trans (num_mod (Nat.blt_eq.mp hb) n)
theorem TH {w:lJ} {I:Nat->Prop} {lp:Nat->lT} {L:l7}:∀ (n:Nat) (v:lK) (x:PV),Hz n v=some x->Am w I lp L x v:=by
 intro n;induction n with
 | zero =>
  intro v x h;unfold Hz at h;split at h<;>first | contradiction | (cases h;done) | (cases h;constructor)
 | succ n ih =>
  intro v x h;unfold Hz at h;split at h<;>first | (cases h;constructor) | skip
  ·rename_i m cs e;cases e;split at h
   case isFalse=>cases h
   rename_i nk;simp only[ij] at h;obtain⟨Z,O,rfl⟩:=h;refine .agg Z cs (fun v hv=>iy.1 nk v hv) ?_;clear nk;generalize cs.toList=l at O;induction l generalizing Z with
   | nil=>simp at O;subst O;exact .nil
   | cons v l ihl =>
    rw[jv] at O;simp only[kr,jh,kE,il] at O;obtain⟨y,hy,ys,qI,rfl⟩:=O;exact .cons _ _ _ _ (ih v y hy) (ihl ys qI)
  {cases h}
theorem Ve (i:Nat):tmps.getD i undef=tmps.toList.getD i undef:=by simp[ip]
section
variable {cx:Cx} {I:Nat->Prop} {L:As} {V:St} {a:Act} {ml:List lK} {lp:Nat->lT} {w:lJ}
theorem Be (h:SR lp I L V a.tmps.toList ml w) (hw:cx.Wd I w) (O:rx cx.G x=some r):Am w I lp (some L) (r.ev V.tmps) (a.eval x):=by
 cases x with
 | tmp t=>simp only[rx,il] at O;subst O;simp only[RX.ev,Act.eval,Ve];exact h.tm.getD t undef
 | const v =>
  simp only[rx,ij] at O;obtain⟨y,hy,rfl⟩:=O;exact TH 3 v y hy
 | global g =>
  simp only[rx,ij] at O;obtain⟨cs,hc,rfl⟩:=O;exact cx.gl I w g cs hw hc lp _
 | func f =>
  simp only[rx] at O;split at O
  case isFalse=>cases O
  rename_i hb;simp only[il] at O;subst O
  have hr:Am w I lp (some L) (.fn f []) (.func (.func f) #[] #[]):=by
   have:=Am.fn (w:=w) (I:=I) (lp:=lp) (L:=some L) f [] #[] #[] (by simp[Fa,hb]) .nil
   rwa [show AO f=f by simp[AO,hb]] at this
  exact hr
theorem R6 (h:SR lp I L V a.tmps.toList ml w) (hw:cx.Wd I w):∀ {Z:List lM} {rs:md},DT cx.G Z=some rs ->
  Ai w I lp (some L) (rs.map (RX.ev V.tmps)) (Z.map a.eval):=by
 intro Z;induction Z with
 | nil=>intro rs h;simp only[DT,il] at h;subst h;exact .nil
 | cons x Z ih =>
  intro rs hr;simp only[DT] at hr;split at hr;{rename_i y ys U H;cases hr;exact .cons _ _ _ _ (Be h hw U) (ih H)};{cases hr}
end
structure LG (w w':lJ):Prop where
 heap:w'.heap=w.heap
 os:w'.os=w.os
 tape:w'.tape=w.tape
 output:w'.output=w.output
theorem LG.refl (w:lJ):LG w w:=⟨rfl,rfl,rfl,rfl⟩
theorem Ik (a:Act) (dst:lT) (v:lK):(a.put dst v).tmps.toList=(match dst with | some d=>a.tmps.toList.set d v | none=>a.tmps.toList):=by cases dst<;>simp[Act.put]
section done
variable {E:Type} (cx:Cx) (w0:lJ) (I0 F0:Nat->Prop) (O0:BE) (Hd:Nat->Option Obj) (R:Bs E) (e:E) (ds:List lQ) (F:Nat->Prop) (lp:Nat->lT) (ml:List lK)
def Bh (o:Oper) (a:Act) (w:lJ) (st':St):Prop :=
 ∃ v' w' I' L',((execOp a.eval o).run cx.P w=.ok (.value v') w'\/((execOp a.eval o).run cx.P w=.ok .skip w'/\v'=undef)) /\
  SR lp I' L' st' (a.put o.dst v').tmps.toList ml w'/\Fr cx w0 I0 F0 O0 Hd R e ds I' F L' w'
end done
section lemmas
variable {E:Type} {cx:Cx} {w0:lJ} {I0 F0:Nat->Prop} {O0:BE} {Hd:Nat->Option Obj} {R:Bs E} {e:E} {ds:List lQ} {F:Nat->Prop} {lp:Nat->lT} {ml:List lK}
variable {I:Nat->Prop} {L:As} {V:St} {a:Act} {w:lJ} {o:Oper}
theorem Am.same {L:l7} {x:PV} (h:Am w I lp L x v) (hs:LG w w'):Am w' I lp L x v :=
 Am.mono (fun _ h=>h) (fun _ _=>by rw[hs.heap]) (fun _ _ h=>h) h
theorem Fr.same (h:Fr cx w0 I0 F0 O0 Hd R e ds I F L w) (hs:LG w w'):Fr cx w0 I0 F0 O0 Hd R e ds I F L w' :=
 h.own hs.os hs.tape hs.output (by rw[hs.heap];exact ik _) (fun b _ _=>by rw[hs.heap]) (fun _ h=>h) (fun _ h=>.inl h)
  (fun J b C hn=>⟨by rw[hs.heap];exact (h.lB J b C hn).2.1,(h.lB J b C hn).2.2.1,.inr ⟨J,C,hn⟩⟩) h.inj
theorem SR.same (h:SR lp I L V a.tmps.toList ml w) (hs:LG w w'):SR lp I L V a.tmps.toList ml w' :=
 h.keeps (fun _ h=>h) (fun _ _=>by rw[hs.heap]) fun _ _ _ _=>by rw[hs.heap]
theorem SR.yZ (h:SR lp I L V a.tmps.toList ml w) (dst:lT) {v:PV} (hv:Am w I lp (some L) v v') :
  SR lp I L (apply V dst {v}) (a.put dst v').tmps.toList ml w:=by
 rw[Ik];cases dst with
 | none=>exact h
 | some d=>exact h.put d hv
theorem Bo (hs:SR lp I L V a.tmps.toList ml w) (hf:Fr cx w0 I0 F0 O0 Hd R e ds I F L w) {v:PV} 
  (hr:(execOp a.eval o).run cx.P w=.ok (.value v') w') (hw:LG w w') (hv:Am w I lp (some L) v v') :
  Bh cx w0 I0 F0 O0 Hd R e ds F lp ml o a w (apply V o.dst {v}) :=
 ⟨v',w',I,L,.inl hr,(hs.same hw).yZ o.dst (hv.same hw),hf.same hw⟩
theorem mv (w:lJ) (ob:Obj) (h:b < w.heap.size):(w.alloc ob).heap[b]?=w.heap[b]?:=heap_alloc_old w ob b h
theorem Fr.news (h:Fr cx w0 I0 F0 O0 Hd R e ds I F L w) (_hd:V.mi[d]?=some []) 
  (U:w'.os=w.os) (H:w'.tape=w.tape) (h3:w'.output=w.output) (h4:w.heap.size<=w'.heap.size) (hk:∀ b,b < w.heap.size->w'.heap[b]?=w.heap[b]?)
  (hp:∀ (j b C:Nat),ps[j]?=some (some (b,C))->w.heap.size<=b/\b < w'.heap.size)
  (hi:∀ (j j' b C C':Nat),ps[j]?=some (some (b,C))->ps[j']?=some (some (b,C'))->j=j'):Fr cx w0 I0 F0 O0 Hd R e ds I F (Ck L d ps) w':=by
 refine h.own U H h3 h4 (fun b hb _=>hk b hb) (fun _ h=>h) (fun _ h=>.inl h) ?_ ?_;{intro J b C hn;unfold Ck at hn;split at hn;{obtain⟨p1,p2⟩:=hp _ _ _ hn;exact⟨p2,fun hb=>by have:=h.sep.iB b hb;omega,.inl p1⟩};{have:=h.lB J b C hn;exact⟨by omega,this.2.2.1,.inr ⟨J,C,hn⟩⟩}};{intro J nr b C C' hn nO;unfold Ck at hn nO;split at hn<;>split at nO;{rename_i e1 e2;exact Prod.ext (e1.trans e2.symm) (hi _ _ _ _ _ hn nO)};{have:=hp _ _ _ hn;have:=h.lB nr b C' nO;omega};{have:=hp _ _ _ nO;have:=h.lB J b C hn;omega};{exact h.inj J nr b C C' hn nO}}
theorem RO (hs:SR lp I L V a.tmps.toList ml w) (hf:Fr cx w0 I0 F0 O0 Hd R e ds I F L w) (hd:o.dst=some d) (hc:V.mi[d]?=some [])
  {v:PV} {ob:Ob} (hw:LG w w1) (hr:(execOp a.eval o).run cx.P w=.ok (.value v') (w1.alloc obj))
  (oI:∀ L',MD L L'->Tq (w1.alloc obj) I lp L' w.heap.size C ob)
  (hv:∀ L':As,L' (d,0)=some (some (w.heap.size,C))->Am (w1.alloc obj) I lp (some L') v v') :
  Bh cx w0 I0 F0 O0 Hd R e ds F lp ml o a w (apply V o.dst {v,new:=[ob]}):=by
 have oL:w1.heap.size=w.heap.size:=by rw[hw.heap]
 have hk:∀ b,b < w.heap.size->(w1.alloc obj).heap[b]?=w.heap[b]?:=fun b hb=>by rw[mv w1 obj (by omega),hw.heap]
 have pX:SR lp I L V a.tmps.toList ml (w1.alloc obj):=hs.keeps (fun _ h=>h) (fun b hb=>hk b (hf.sep.iB b hb)) fun J b C hn=>hk b (hf.lB J b C hn).2.1
 have hn:=pX.news hc [ob] [some (w.heap.size,C)] rfl (by
  intro j qm p U H;cases j with
  | zero=>simp at U H;subst U;subst H;exact oI _ (pX.fresh hc _)
  | succ j=>simp at U)
 refine⟨v',w1.alloc obj,I,Ck L d [some (w.heap.size,C)],.inl hr,?_,?_⟩;{rw[Ik,hd];exact hn.put d (hv _ (by simp[Ck]))}
 ·refine Fr.news hf hc (by simp[World.alloc,hw.os]) (by simp[hw.tape]) (by simp[World.alloc,hw.output]) (by simp;omega) hk ?_ ?_
  ·intro j b C' hj;cases j with
   | zero=>simp at hj;simp;omega
   | succ j=>simp at hj
  ·intro j j' b C1 C2 U H;cases j with
   | zero=>cases j' with
    | zero=>rfl
    | succ j'=>simp at H
   | succ j=>simp at U
theorem Pk (hs:SR lp I L V a.tmps.toList ml w) (hf:Fr cx w0 I0 F0 O0 Hd R e ds I F L w) (hL:L J=some (some (b,C)))
  {v:PV} {ob:Ob} (hr:(execOp a.eval o).run cx.P w=.ok (.value v') w'\/((execOp a.eval o).run cx.P w=.ok .skip w'/\v'=undef))
  (U:w'.os=w.os) (H:w'.tape=w.tape) (h3:w'.output=w.output) (h4:w'.heap.size=w.heap.size) (hk:∀ b',b'≠b->w'.heap[b']?=w.heap[b']?)
  (oI:Tq w' I lp L b C ob) (hv:Am w' I lp (some L) v v') :
  Bh cx w0 I0 F0 O0 Hd R e ds F lp ml o a w (apply V o.dst {v,nf:=some (J,ob)}):=by
 have hI:∀ b',I b'->w'.heap[b']?=w.heap[b']?:=fun b' oT=>hk b' fun e=>(hf.lB J b C hL).2.2.1 (e ▸ oT);have hu:=hs.nf (w':=w') (qm:=ob) hL hI (fun m b' C' hm hn=>hk b' fun e=>hm (hf.inj m J b' C' C hn (e ▸ hL))) oI;refine⟨v',w',I,L,hr,?_,?_⟩
 ·rw[Ik];cases o.dst with
  | none=>exact hu
  | some d=>exact hu.put d hv
 ·exact hf.own U H h3 (by omega) (fun b' _ hn=>hk b' fun e=>hn J C (e ▸ hL)) (fun _ h=>h) (fun _ h=>.inl h)
   (fun m b' C' hn=>⟨by have:=(hf.lB m b' C' hn).2.1;omega,(hf.lB m b' C' hn).2.2.1,.inr ⟨m,C',hn⟩⟩) hf.inj
theorem Rm (hs:SR lp I L V a.tmps.toList ml w) (hf:Fr cx w0 I0 F0 O0 Hd R e ds I F L w) {p p':Option (Nat×Nat)} (hL:L J=some p)
  {v:PV} {k kt:Nat} {Z:lS} (hr:(execOp a.eval o).run cx.P w=.ok (.value v') w')
  (U:w'.os=w.os) (H:w'.tape=w.tape) (h3:w'.output=w.output) (h4:w.heap.size<=w'.heap.size)
  (hk:∀ b',b' < w.heap.size->(∀ C,p≠some (b',C))->w'.heap[b']?=w.heap[b']?)
  (hp':∀ b C,p'=some (b,C)->b < w'.heap.size/\(w.heap.size<=b\/∃ C',p=some (b,C')))
  (oI:∀ L',Ba w' I lp L' (.arr k kt Z) p') (hv:∀ L':As,L' J=some p'->Am w' I lp (some L') v v') :
  Bh cx w0 I0 F0 O0 Hd R e ds F lp ml o a w (apply V o.dst {v,nf:=some (J,.arr k kt Z),kill:=some J}):=by
 have hI:∀ b',I b'->w'.heap[b']?=w.heap[b']?:=fun b' oT=>hk b' (hf.sep.iB b' oT) fun C e=>(hf.lB J b' C (by rw[hL,e])).2.2.1 oT
 have hu:=hs.yW (w':=w') (k:=k) (kt:=kt) (Z:=Z) (p':=p') hL hI
  (fun m b' C' hm hn=>hk b' (hf.lB m b' C' hn).2.1 fun C e=>hm (hf.inj m J b' C' C hn (by rw[hL,e]))) (oI _)
 refine⟨v',w',I,(fun m=>if m=J then some p' else L m),.inl hr,?_,?_⟩
 ·rw[Ik];cases o.dst with
  | none=>exact hu
  | some d=>exact hu.put d (hv _ (by simp))
 ·refine hf.own U H h3 h4 (fun b' oT hn=>hk b' oT fun C e=>hn J C (by rw[hL,e])) (fun _ h=>h) (fun _ h=>.inl h) ?_ ?_;{intro m b' C' hn;by_cases hm:m=J;{simp only[hm,lq,il] at hn;obtain⟨q1,q2⟩:=hp' b' C' hn;refine⟨q1,fun hb=>?_,?_⟩;{rcases q2 with q2 | ⟨C2,q2⟩;{have:=hf.sep.iB b' hb;omega};{exact (hf.lB J b' C2 (by rw[hL,q2])).2.2.1 hb}};{rcases q2 with q2 | ⟨C2,q2⟩;{exact .inl q2};{exact .inr ⟨J,C2,by rw[hL,q2]⟩}}};{simp only[hm,lm] at hn;exact⟨by have:=(hf.lB m b' C' hn).2.1;omega,(hf.lB m b' C' hn).2.2.1,.inr ⟨m,C',hn⟩⟩}}
  ·intro m m' b' C1 C2 hn nO;have other:∀ m C1 C2,m≠J->L m=some (some (b',C1))->p'=some (b',C2)->False:=fun m C1 C2 hm U H=>by obtain⟨q1,q2⟩:=hp' b' C2 H;rcases q2 with q2 | ⟨C3,q2⟩;{have:=(hf.lB m b' C1 U).2.1;omega};{exact hm (hf.inj m J b' C1 C3 U (by rw[hL,q2]))}
   by_cases hm:m=J<;>by_cases qn:m'=J;{rw[hm,qn]};{simp only[hm,qn,lq,lm,il] at hn nO;exact (other m' C2 C1 qn nO hn).elim};{simp only[hm,qn,lq,lm,il] at hn nO;exact (other m C1 C2 hm hn nO).elim};{simp only[hm,qn,lm] at hn nO;exact hf.inj m m' b' C1 C2 hn nO}
end lemmas
end Go.Ab


namespace Go.Ab
variable{α:Type} {P:lO} {ag b full:Bool} {b' d g:Nat} {c:Array lK} {cs es:lS} {f:lL} {fr:Nat×Nat} {i:TypeInfo} {k:lN} {n:Int} {J:Nm} {r:RX} {s:l4} {A ys:List lK} {x:PV} {y:lM}
section inv
variable {w:lJ} {I:Nat->Prop} {lp:Nat->lT} {L:As} {v:lK}
theorem Fd {L:l7} (h:Am w I lp L (.bool b) v):v=.bool b:=by cases h;rfl
theorem CD {L:l7} (h:Am w I lp L (.int k n) v):v=.int k n:=by cases h;rfl
theorem Cu {L:l7} (h:Am w I lp L (.str s) v):v=.string ⟨s.toArray⟩:=by cases h;rfl
theorem GF {L:l7} (h:Am w I lp L .mu v):v=.slice none 0 0:=by cases h;rfl
theorem L4 {L:l7} (h:Am w I lp L .mJ v):v=.pointer none:=by cases h;rfl
theorem RJ {L:l7} (h:Am w I lp L .nn v):v=.nilFunc:=by cases h;rfl
theorem Is {L:l7} (h:Am w I lp L .mB v):v=.nilIface:=by cases h;rfl
theorem Z0 {L:l7} (h:Am w I lp L .ni v):v=.map none:=by cases h;rfl
theorem Ny {L:l7} (h:Am w I lp L (.agg cs) v):∃ A,v=.agg A/\A6 A.toList/\Ai w I lp L cs A.toList:=by cases h;exact⟨_,rfl,by assumption,by assumption⟩
theorem bn {L:l7} (h:Am w I lp L (.mn cs) v):∃ A,v=.tuple A/\Ai w I lp L cs A.toList:=by cases h;exact⟨_,rfl,by assumption⟩
theorem Z2 {L:l7} {t:lP} (h:Am w I lp L (.mY g t) v):∃ u,v=.iface t u/\I g/\∃ c E fr,w.heap[g]?=some (.cells c E fr)/\c[0]?=some (.iface t u):=by cases h;exact⟨_,rfl,by assumption,_,_,_,by assumption,by assumption⟩
theorem Kj {L:l7} {t:lP} (h:Am w I lp L (.iface t x) v):∃ u,v=.iface t u/\Am w I lp L x u:=by cases h;exact⟨_,rfl,by assumption⟩
theorem KO {L:l7} (h:Am w I lp L (.fn f cs) v):∃ us A,v=.func (.func (AO f)) us A/\us.size=Fa f/\Ai w I lp L cs (us.toList++A.toList):=by cases h;exact⟨_,_,rfl,by assumption,by assumption⟩
theorem Q0 {L:l7} {Z:lS} {us A:Array lK} (hk:us.size=Fa f) (h:Ai w I lp L cs (us.toList++A.toList)) (hv:Ai w I lp L Z ys) :
  Ai w I lp L (Bc f Z cs) (us.toList++(ys++A.toList)):=by
 unfold Bc;have hl:us.toList.length=us.size:=by simp
 split
 ·rename_i hb;have h0:us.size=0:=by rw[hk];simp[Fa,hb]
  have hu:us.toList=[]:=kN.1 (by rw[hl,h0]);rw[hu] at h |-;exact hv.append h
 {have U:=h.take (Fa f);have H:=h.drop (Fa f);rw[List.take_left' (by rw[hl,hk])] at U;rw[List.drop_left' (by rw[hl,hk])] at H;exact U.append (hv.append H)}
theorem bm {L:l7} (h:Am w I lp L (.mF d) v):∃ l,v=yv l/\lp d=some l:=by cases h;exact⟨_,rfl,by assumption⟩
theorem FJ {o:Nat} (h:Am w I lp (some L) (.ref J o) v):∃ b C,L J=some (some (b,C))/\v=.pointer (some ⟨b,o,none⟩):=by cases h;exact⟨_,_,by assumption,rfl⟩
theorem RK {k i o:Nat} (h:Am w I lp (some L) (.my J k i o) v):∃ b C,L J=some (some (b,C))/\v=.pointer (some ⟨b,i*k+o,none⟩):=by cases h;exact⟨_,_,by assumption,rfl⟩
theorem Nx {L:l7} {o:Nat} (h:Am w I lp L (.ptr cs o) v):∃ b off c E fr,v=.pointer (some ⟨b,off+o,none⟩)/\I b/\w.heap[b]?=some (.cells c E fr) /\
  off+cs.length<=c.size/\o < cs.length/\A6 ((c.toList.drop off).take cs.length)/\Ai w I lp none cs ((c.toList.drop off).take cs.length):=by
 cases h;exact⟨_,_,_,_,_,rfl,by assumption,by assumption,by assumption,by assumption,by assumption,by assumption⟩
theorem G5 {k o n:Nat} (h:Am w I lp (some L) (.arr J k o n) v) :
  (∃ b C cap,L J=some (some (b,C))/\v=.slice (some ⟨b,o*k,none⟩) n cap/\(o+cap)*k<=C/\n<=cap)\/(L J=some none/\v=.slice none 0 0/\o=0/\n=0):=by
 cases h;{exact .inl ⟨_,_,_,by assumption,rfl,by assumption,by assumption⟩};{exact .inr ⟨by assumption,rfl,rfl,rfl⟩}
theorem IE {L:l7} {k:Nat} {Z:lS} (h:Am w I lp L (.sl k Z full) v) :
  (∃ b off cap c E fr,v=.slice (some ⟨b,off,none⟩) Z.length cap/\I b/\w.heap[b]?=some (.cells c E fr)/\off+Z.length*k<=c.size/\(∀ x∈Z,x.cells.length=k)/\Z.length<=cap/\(full=true->cap=Z.length) /\
   A6 ((c.toList.drop off).take (Z.length*k))/\Ai w I lp none (mr Z) ((c.toList.drop off).take (Z.length*k)))\/(Z=[]/\∃ a cap,v=.slice a 0 cap/\(full=true->cap=0)):=by
 cases h;{exact .inr ⟨rfl,_,_,rfl,by assumption⟩};{exact .inl ⟨_,_,_,_,_,_,rfl,by assumption,by assumption,by assumption,by assumption,by assumption,by assumption,by assumption,by assumption⟩}
theorem SD (h:Am w I lp (some L) (.mp J) v):∃ b C,L J=some (some (b,C))/\v=.map (some b):=by cases h;exact⟨_,_,by assumption,rfl⟩
theorem inv_it (h:Am w I lp (some L) (.it J) v):∃ b C,L J=some (some (b,C))/\v=.pointer (some ⟨b,0,none⟩):=by cases h;exact⟨_,_,by assumption,rfl⟩
theorem Z1 {L:l7} (h:Am w I lp L (.nb es) v):∃ r nj clock,v=.map (some r)/\I r/\w.heap[r]?=some (.map nj clock)/\Ai w I lp none es (FX nj.toList):=by cases h;exact⟨_,_,_,rfl,by assumption,by assumption,by assumption⟩
end inv
theorem AQ {x:Option α} {y:α} (h:Av b x=some y):b=true/\x=some y:=by cases b;{simp[Av] at h};{exact⟨rfl,by simpa[Av] using h⟩}
variable{n:Nat}
theorem Tv {t:lP} (h:G2 P t=some (n,ag)):∃ d i,P.underlying t=some d/\P.info? t=some i/\i.size=n/\MP d=ag:=by unfold G2 at h;split at h;{rename_i d i U H;simp only[il,iP] at h;exact⟨d,i,U,H,h.1,h.2⟩};{cases h}
theorem Yq {t:lP} {d:lR} (h:P.underlying t=some d) (w:lJ):(isAgg t).run P w=.ok (MP d) w:=by unfold isAgg MP;simp only[Sem.run_bind,run_underlying h,Result.andThen_ok];split<;>split<;>simp_all
theorem Ih {t:lP} (h:P.info? t=some i) (w:lJ):(sizeOf t).run P w=.ok i.size w:=by simp[sizeOf,typeInfo,h]
theorem Jr (b off i:Nat):(⟨b,off,none⟩:Addr).add i=⟨b,off+i,none⟩:=by unfold Addr.add;split<;>simp_all
variable{b:Nat}
theorem Pn {w:lJ} {E:lP} (h:w.heap[b]?=some (.cells c E fr)) (j:Nat):w.cell? ⟨b,j,none⟩=c[j]?:=by simp[World.cell?,h]
theorem QB {w:lJ} {t:lP} (oD:G2 P t=some (n,ag)) {off:Nat} {E:lP} 
  (hb:w.heap[b]?=some (.cells c E fr)) {v:lK} (hv:if ag then off+n<=c.size/\v=.agg (c.extract off (off+n)) else c[off]?=some v) :
  (Instr.loadAt t (.pointer (some ⟨b,off,none⟩))).run P w=.ok v w:=by
 obtain⟨d,i,U,H,h3,h4⟩:=Tv oD;simp only[Instr.loadAt,Instr.sureAddr,loadVar,Sem.run_bind,Sem.run_pure,Result.andThen_ok,Yq U,h4];cases ag;{simp only[iq,lm] at hv |-;simp[run_load,Pn hb,hv]}
 ·simp only[lq] at hv |-;obtain⟨hle,rfl⟩:=hv
  have:=run_loadCells_list (P:=P) (w:=w) ⟨b,off,none⟩ ((c.extract off (off+n)).toList) (fun j v hj=>by
   rw[Jr,Pn hb];simp only[j3,Array.getElem?_extract] at hj;split at hj;·rename_i mL;exact hj
   ·cases hj)
  simp only[jQ,Array.size_extract,jx] at this;rw[jf hle,kd] at this;simp only[Ih H,h3,Result.andThen_ok,Sem.run_bind,this,Sem.run_pure]
theorem Pp {w:lJ} {I:Nat->Prop} {lp:Nat->lT} {L:l7} (hr:Ai w I lp L cs A) (U:A6 A) {o:Nat} 
  (h:Cd cs o n ag=some x):∃ v,(if ag then o+n<=A.length/\v=.agg ((A.drop o).take n).toArray else A[o]?=some v)/\Am w I lp L x v:=by
 unfold Cd at h;cases ag;{simp only[iq,lm] at h |-;exact hr.get h};{simp only[lq] at h |-;obtain⟨H,h3⟩:=AQ h;cases h3;exact⟨_,⟨by rw[<-hr.length];exact lI H,rfl⟩,.agg _ _ (by simpa using (U.p6 o).pQ n) (by simpa using (hr.drop o).take n)⟩}
theorem OF (c:Array lK) (i j:Nat):c.extract i j=((c.toList.drop i).take (j - i)).toArray:=by apply Array.ext';simp[Array.toList_extract,List.take_drop,List.extract]
section ops
variable {E:Type} {cx:Cx} {w0:lJ} {I0 F0:Nat->Prop} {O0:BE} {Hd:Nat->Option Obj} {R:Bs E} {e:E} {ds:List lQ} {F:Nat->Prop} {lp:Nat->lT} {ml:List lK}
variable {I:Nat->Prop} {L:As} {V:St} {a:Act} {w:lJ} {o:Oper} {out:Al} {r9:An}
variable (hs:SR lp I L V a.tmps.toList ml w) (hf:Fr cx w0 I0 F0 O0 Hd R e ds I F L w)
include hs hf
theorem zc {x:lM} (ho:o.op=.move x\/o.op=.assign x) (hr:rx cx.G x=some r) :
  Bh cx w0 I0 F0 O0 Hd R e ds F lp ml o a w (apply V o.dst {v:=r.ev V.tmps}) :=
 Bo hs hf (by rcases ho with ho | ho<;>simp[execOp,ho]) (.refl w) (Be hs hf.wd hr)
theorem op_pick {c x:lM} (ho:o.op=.pick c x y) {rc r1 r2:RX} (h0:rx cx.G c=some rc) (U:rx cx.G x=some r1) (H:rx cx.G y=some r2)
  (h:exec (o.dst.getD 0) (Ac V.mi) V.tmps (.pick rc r1 r2)=some out):Bh cx w0 I0 F0 O0 Hd R e ds F lp ml o a w (apply V o.dst out):=by
 have hc:=Be hs hf.wd h0;have O:=Be hs hf.wd U;have hy:=Be hs hf.wd H;simp only[exec] at h;split at h;{rename_i hb;rw[hb] at hc;cases h;exact Bo hs hf (by simp[execOp,ho,Fd hc,asBool]) (.refl w) O};{rename_i hb;rw[hb] at hc;cases h;exact Bo hs hf (by simp[execOp,ho,Fd hc,asBool]) (.refl w) hy};{cases h}
theorem op_load {t:lP} {x:lM} (ho:o.op=.load t x) (oD:G2 cx.P t=some (n,ag)) (U:rx cx.G x=some r)
  (h:exec (o.dst.getD 0) (Ac V.mi) V.tmps (.load n ag r)=some out):Bh cx w0 I0 F0 O0 Hd R e ds F lp ml o a w (apply V o.dst out):=by
 have O:=Be hs hf.wd U;simp only[exec] at h;split at h
 ·rename_i J off hr;rw[hr] at O;obtain⟨b,C,hL,hv⟩:=FJ O;split at h
  case h_2=>cases h
  rename_i cs nq;obtain⟨u,hu,rfl⟩:=ij.1 h;obtain⟨p,hp,ha⟩:=hs.ob J _ nq;rw[hL] at hp;cases hp;obtain⟨c,E',hb,hC,nk,mG⟩:=ha;obtain⟨u',oC,tl⟩:=Pp mG nk.1 hu;refine Bo hs hf (v':=u') (w':=w) ?_ (.refl w) tl
  have:=QB (P:=cx.P) oD (off:=off) hb (v:=u') (by
   cases ag;·simpa using oC
   ·simp only[lq] at oC |-;refine⟨by simpa using oC.1,?_⟩;rw[oC.2,OF,kd])
  simp[execOp,ho,hv,this]
 ·rename_i cs off hr;rw[hr] at O;obtain⟨b,tA,c,E',fr,hv,hI,hb,hle,mL,nk,mG⟩:=Nx O;obtain⟨u,hu,rfl⟩:=ij.1 h;obtain⟨u',oC,tl⟩:=Pp mG nk hu;refine Bo hs hf (v':=u') (w':=w) ?_ (.refl w) (tl.lift _);have hlen:=mG.length
  have:=QB (P:=cx.P) oD (off:=tA+off) hb (v:=u') (by
   cases ag
   ·simp only[iq,lm] at oC |-;rw[j4 mL,ku] at oC;simpa using oC
   ·simp only[lq] at oC |-;obtain⟨g1,g2⟩:=oC;rw[<-hlen] at g1;refine⟨by omega,?_⟩;rw[g2,OF,kd,jI,j0,jg,jf (by omega)])
  simp[execOp,ho,hv,this]
 ·rename_i J k i off hr;rw[hr] at O;obtain⟨b,C,hL,hv⟩:=RK O;split at h
  case h_2=>cases h
  rename_i k' kt Z nq;split at h
  case h_2=>cases h
  rename_i el qS;obtain⟨hk,h'⟩:=AQ h;clear h;have hk:k=k':=by simpa using hk
  subst hk;obtain⟨u,hu,rfl⟩:=ij.1 h';obtain⟨p,hp,ha⟩:=hs.ob J _ nq;rw[hL] at hp;cases hp;obtain⟨c,E',hb,hC,hle,qe,nk,mG⟩:=ha;have mL:=(ix.1 qS).1;have tB:=qe el (iz qS);have rK:(i+1)*k<=Z.length*k:=je _ mL;rw[iL,jU] at rK
  have uO:Ai w I lp none el.cells ((c.toList.drop (i*k)).take k):=by
   have:=(mG.drop (i*k)).take k
   rwa [Uc qe qS,jI,jg,jf (by omega)] at this
  have hone':A6 ((c.toList.drop (i*k)).take k):=by
   have:=(nk.p6 (i*k)).pQ k
   rwa [jI,jg,jf (by omega)] at this
  obtain⟨u',oC,tl⟩:=Pp uO hone' hu;refine Bo hs hf (v':=u') (w':=w) ?_ (.refl w) (tl.lift _);have hlen:=uO.length
  have:=QB (P:=cx.P) oD (off:=i*k+off) hb (v:=u') (by
   cases ag
   ·simp only[iq,lm] at oC |-;have pM:=(ix.1 oC).1;rw[<-hlen,tB] at pM;rw[j4 pM,ku] at oC;simpa using oC
   ·simp only[lq] at oC |-;obtain⟨g1,g2⟩:=oC;rw[<-hlen,tB] at g1;refine⟨by omega,?_⟩;rw[g2,OF,kd,jI,j0,jg,jf (by omega)])
  simp[execOp,ho,hv,this]
 {cases h}
omit hs hf in
theorem Wl {w:lJ} {t:lP} (oD:G2 P t=some (n,ag)) {off:Nat} {c:Array lK} {E:lP}
  (hb:w.heap[b]?=some (.cells c E (0,0))) {v:lK} (hv:v.cells.size=n) (U:A6 v.cells.toList) (hle:off+n<=c.size) :
  (Instr.storeAt t (.pointer (some ⟨b,off,none⟩)) v).run P w=.ok () (w.setRow b (c.toList.take off++v.cells.toList++c.toList.drop (off+n)).toArray):=by
 obtain⟨d,i,g1,g2,g3,g4⟩:=Tv oD;have nK:=run_storeCells_at P b off E v.cells.toList 0 c w hb (by simp[hv];omega) U;simp only[Nat.add_zero,jQ,hv] at nK;simp[Instr.storeAt,Instr.sureAddr,storeVar,Ih g2,g3,hv,nK]
omit hs hf in
theorem J9 (w:lJ) (b:Nat) (cs:Array lK) (h:b'≠b):(w.setRow b cs).heap[b']?=w.heap[b']?:=setRow_other w b b' cs h
omit hs hf in
theorem A6.nc {us:List lK} (h:A6 A) (h':A6 us) (o n:Nat):A6 (A.take o++us++A.drop n) :=
 ((h.pQ o).pK h').pK (h.p6 n)
omit hs hf in
theorem Ai.nc {w:lJ} {L:l7} {ys:lS} {us:List lK} (h:Ai w I lp L cs A) (h':Ai w I lp L ys us) (o:Nat) :
  Ai w I lp L (nc cs o ys) (A.take o++us++A.drop (o+us.length)):=by
 unfold Go.Ab.nc;rw[h'.length];exact ((h.take o).append h').append (h.drop _)
omit hs hf in
theorem TB (l u:List lK) (p N:Nat) (h:p+u.length<=N) (hN:N<=l.length) :
  (l.take p++u++l.drop (p+u.length)).take N=(l.take N).take p++u++(l.take N).drop (p+u.length):=by
 rw[kU,kU,jg,jg,jI];simp only[j5,iQ];rw[jb (l:=u) (by omega),Nat.min_comm N p,show N - (min p l.length+u.length)=N - (p+u.length) from by omega]
theorem zd {t:lP} {x:lM} (ho:o.op=.store t x y) {s:RX} (oD:G2 cx.P t=some (n,ag)) (U:rx cx.G x=some r) (H:rx cx.G y=some s)
  (h:exec (o.dst.getD 0) (Ac V.mi) V.tmps (.store n r s)=some out):Bh cx w0 I0 F0 O0 Hd R e ds F lp ml o a w (apply V o.dst out):=by
 have O:=Be hs hf.wd U;have hy:=Be hs hf.wd H;simp only[exec] at h;split at h
 ·rename_i J off hr;rw[hr] at O;obtain⟨b,C,hL,hv⟩:=FJ O;split at h
  case h_2=>cases h
  rename_i cs nq;obtain⟨hk,h⟩:=AQ h;cases h;simp only[ie,lw] at hk;obtain⟨⟨k1,k2⟩,k3⟩:=hk;obtain⟨sB,tC⟩:=hy.cells k1;have oL:(a.eval y).cells.size=n:=by have:=tC.length;simp at this;omega
  obtain⟨p,hp,ha⟩:=hs.ob J _ nq;rw[hL] at hp;cases hp;obtain⟨c,E',hb,hC,nk,mG⟩:=ha;have hlen:=mG.length;simp only[jQ] at hlen;have nK:=Wl (P:=cx.P) oD hb oL sB (off:=off) (by omega);refine Pk hs hf hL (w':=w.setRow b (c.toList.take off++(a.eval y).cells.toList++c.toList.drop (off+n)).toArray) (v':=undef) (.inr ⟨?_,rfl⟩) rfl rfl rfl (by simp) (fun b' oT=>J9 w b _ oT) ?_ (.undef _);{simp[execOp,ho,hv,nK]};{refine⟨_,E',setRow_heap w b c _ E' _ hb,?_,?_,?_⟩;{simp[oL];omega};{exact⟨by simpa using nk.1.nc sB off (off+n),nk.2⟩};{have vk:∀ b',I b'->(w.setRow b (c.toList.take off++(a.eval y).cells.toList++c.toList.drop (off+n)).toArray).heap[b']?=w.heap[b']?:=fun b' oT=>J9 w b _ fun e=>(hf.lB J b C hL).2.2.1 (e ▸ oT);have:=Ai.mono (w':=w.setRow b (c.toList.take off++(a.eval y).cells.toList++c.toList.drop (off+n)).toArray) (fun _ h=>h) vk (fun _ _ h=>h) (mG.nc tC off);simpa[oL] using this}}
 ·rename_i J k i off hr;rw[hr] at O;obtain⟨b,C,hL,hv⟩:=RK O;split at h
  case h_2=>cases h
  rename_i k' kt Z nq;obtain⟨p,hp,ha⟩:=hs.ob J _ nq;rw[hL] at hp;cases hp;obtain⟨c,E',hb,hC,hle,qe,nk,mG⟩:=ha
  have key:∀ (el el':PV) (ys:lS),k=k'->Z[i]?=some el->(s.ev V.tmps).isVal=true->(s.ev V.tmps).cells.length=n->(s.ev V.tmps).names=[]->off+n<=k ->
    el'.cells=nc el.cells off (s.ev V.tmps).cells->ys=Z.set i el' ->
    Bh cx w0 I0 F0 O0 Hd R e ds F lp ml o a w (apply V o.dst {v:=.undef,nf:=some (J,.arr k kt ys)}):=by
   intro el el' ys sC qS k1 k2 k4 k3 hcel qI;subst sC;subst qI;obtain⟨sB,tC⟩:=hy.cells k1;have hn4:Ar (s.ev V.tmps).cells=[]:=by generalize s.ev V.tmps=z at k4;cases z<;>simp_all [PV.cells,Ar,PV.names]
   have oL:(a.eval y).cells.size=n:=by have:=tC.length;simp at this;omega
   have mL:=(ix.1 qS).1;have tB:=qe el (iz qS);have rK:(i+1)*k<=Z.length*k:=je _ mL;rw[iL,jU] at rK;have nK:=Wl (P:=cx.P) oD hb oL sB (off:=i*k+off) (by omega);have hvl:(a.eval y).cells.toList.length=n:=by simpa using oL
   refine Pk hs hf hL (w':=w.setRow b (c.toList.take (i*k+off)++(a.eval y).cells.toList++c.toList.drop (i*k+off+n)).toArray) (v':=undef) (.inr ⟨?_,rfl⟩) rfl rfl rfl (by simp) (fun b' oT=>J9 w b _ oT) ?_ (.undef _);{simp[execOp,ho,hv,nK]}
   ·have vk:∀ b',I b'->(w.setRow b (c.toList.take (i*k+off)++(a.eval y).cells.toList++c.toList.drop (i*k+off+n)).toArray).heap[b']?=w.heap[b']?:=fun b' oT=>J9 w b _ fun e=>(hf.lB J b C hL).2.2.1 (e ▸ oT);have ze:=(mG.nc (tC.shut hn4) (i*k+off));have qT:(mr Z).length=Z.length*k:=LJ qe;have hel':el'.cells.length=k:=by rw[hcel];unfold Go.Ab.nc;simp;omega
    have rL:nc (mr Z) (i*k+off) (s.ev V.tmps).cells=mr (Z.set i el'):=by
     have hd:Z.drop i=el :: Z.drop (i+1):=by
      have:=ko mL
      rwa [(ix.1 qS).2] at this
     have U:Z=Z.take i++el :: Z.drop (i+1):=by rw[<-hd,List.take_append_drop]
     have H:Z.set i el'=Z.take i++el' :: Z.drop (i+1):=by rw[List.set_eq_take_append_cons_drop,lu mL]
     have h3:(mr (Z.take i)).length=i*k:=by rw[LJ fun x O=>qe x (ja O)];simp;rw[jf (by omega)]
     rw[H,LK,mr,hcel]
     conv=>lhs;rw[U]
     rw[LK,mr];unfold Go.Ab.nc;rw[show i*k+off=(mr (Z.take i)).length+off from by rw[h3],List.take_length_add_append,kO (by omega)];rw[show (mr (Z.take i)).length+off+(s.ev V.tmps).cells.length=(mr (Z.take i)).length+(off+(s.ev V.tmps).cells.length) from by omega,List.drop_length_add_append,List.drop_append_of_le_length (by omega)];simp[iX]
    refine⟨_,E',setRow_heap w b c _ E' _ hb,?_,by simpa using hle,?_,?_,?_⟩;{simp[oL];omega};{intro x O;rcases kw O with O | rfl;{exact qe x O};{exact hel'}};{simp only[List.length_set];have e1:=TB c.toList (a.eval y).cells.toList (i*k+off) (Z.length*k) (by omega) (by simp;omega);rw[hvl] at e1;rw[e1];exact nk.nc sB _ _};{simp only[List.length_set];have e1:=TB c.toList (a.eval y).cells.toList (i*k+off) (Z.length*k) (by omega) (by simp;omega);rw[hvl] at e1;rw[e1,<-rL];rw[hvl] at ze;exact Ai.mono (fun _ h=>h) vk (fun _ _ h=>h) ze}
  split at h;{rename_i es qS;obtain⟨hk,h'⟩:=AQ h;cases h';simp only[ie,lw,ly,iS] at hk;obtain⟨⟨⟨⟨g1,g2⟩,g3⟩,g4⟩,g5⟩:=hk;have tB:=qe _ (iz qS);refine key (.agg es) (.agg (nc es off (s.ev V.tmps).cells)) _ g1 qS g2 g3 ?_ ?_ rfl rfl;{generalize s.ev V.tmps=z at g5;cases z<;>simp_all [PV.cells,Ar,PV.names]};{simp only[PV.cells] at tB;omega}}
  ·rename_i el qS hna;obtain⟨hk,h'⟩:=AQ h;cases h';simp only[ie,lw,ly,iS] at hk;obtain⟨⟨⟨⟨⟨g1,g2⟩,g3⟩,g4⟩,g5⟩,g6⟩:=hk;subst g2;subst g3;subst g4;have hcz:(s.ev V.tmps).cells=[s.ev V.tmps]:=by generalize s.ev V.tmps=z at g5;cases z<;>first | rfl | (simp[PV.o5] at g5)
   have hiv:(s.ev V.tmps).isVal=true:=by generalize s.ev V.tmps=z at g5;cases z<;>first | rfl | (simp[PV.o5] at g5)
   have tB:=qe el (iz hna);refine key el (s.ev V.tmps) _ g1 hna hiv (by rw[hcz];rfl) g6 (by omega) ?_ rfl;rw[hcz];unfold Go.Ab.nc;rw[<-g1] at tB;simp[kP (l:=el.cells) (i:=1) (by omega)]
  {cases h}
 {cases h}
end ops
end Go.Ab


namespace Go.Ab
variable{P:lO} {d j ty:Nat} {d1:lR} {dst src:lP} {f:lK->mc} {op:UnOp} {r:RX} {rs:md} {v:lK} {x z:PV}
section ops
variable {E:Type} {cx:Cx} {w0:lJ} {I0 F0:Nat->Prop} {O0:BE} {Hd:Nat->Option Obj} {R:Bs E} {e:E} {ds:List lQ} {F:Nat->Prop} {lp:Nat->lT} {ml:List lK}
variable {I:Nat->Prop} {L:As} {V:St} {a:Act} {w:lJ} {o:Oper} {out:Al} {r9:An}
theorem QO {t:lP} (h:Gg P t=some z) {w:lJ} {I:Nat->Prop} {lp:Nat->lT} {L:l7} :
  ∃ i zv,P.info? t=some i/\i.zero=some zv/\Am w I lp L z zv:=by
 unfold Gg at h;simp only[jh] at h;obtain⟨zv,⟨i,hi,hz⟩,hp⟩:=h;exact⟨i,zv,hi,hz,TH 3 zv z hp⟩
theorem ed:∀ (n:Nat) (v:lK) (x:PV),Hz n v=some x->x.isVal=true:=by
 intro n v x h;unfold Hz at h
 split at h<;>first
  |(cases h;done)
  |(cases h;rfl)
  |(split at h<;>first | (cases h;done) | (obtain⟨Z,_,rfl⟩:=ij.1 h;rfl))
theorem W7 {t:lP} (h:Gg P t=some z):z.isVal=true:=by unfold Gg at h;simp only[jh] at h;obtain⟨zv,_,hp⟩:=h;exact ed 3 zv z hp
theorem fM (ih:∀ v x,f v=some x->x.names=[]):∀ (l:List lK) (Z:lS),l.mapM f=some Z->Ar Z=[]:=by
 intro l;induction l with
 | nil=>intro Z O;simp at O;subst O;rfl
 | cons v l ihl =>
  intro Z O;rw[jv] at O;simp only[kr,jh,kE,il] at O;obtain⟨y,hy,ys,qI,rfl⟩:=O;simp[Ar,ih v y hy,ihl ys qI]
theorem df:∀ (n:Nat) (v:lK) (x:PV),Hz n v=some x->x.names=[]:=by
 intro n;induction n with
 | zero=>intro v x h;unfold Hz at h;split at h<;>first | contradiction | (cases h;done) | (cases h;rfl)
 | succ n ih =>
  intro v x h;unfold Hz at h;split at h<;>first | (cases h;done) | (cases h;rfl) | skip
  rename_i m cs e;cases e;split at h
  case isFalse=>cases h
  obtain⟨Z,O,rfl⟩:=ij.1 h;simp only[PV.names];exact fM ih _ _ O
theorem LI (w:lJ) (ob:Obj):(w.alloc ob).heap[w.heap.size]?=some ob:=heap_alloc_new w ob
theorem XZ (hs:SR lp I L V a.tmps.toList ml w) (hf:Fr cx w0 I0 F0 O0 Hd R e ds I F L w) (hd:o.dst=some d) (hc:V.mi[d]?=some [])
  (hv:Am w I lp (some L) x v) (qj:x.isVal=true) {t:lP} (hty:ty=0\/t=ty)
  (hr:(execOp a.eval o).run cx.P w=.ok (.value (.pointer (some ⟨w.heap.size,0,none⟩))) (w.alloc (.cells v.cells t))) :
  Bh cx w0 I0 F0 O0 Hd R e ds F lp ml o a w (apply V o.dst {v:=.ref (d,0) 0,new:=[.cells ty x.cells]}):=by
 obtain⟨U,H⟩:=hv.cells qj;refine RO hs hf hd hc (.refl w) (C:=v.cells.size) hr ?_ ?_;{intro L' hL;refine⟨v.cells,t,LI w _,rfl,⟨U,hty⟩,?_⟩;exact (Ai.mono (fun _ h=>h) (fun b hb=>mv w _ (hf.sep.iB b hb)) (fun _ _ h=>h) H).oc hL};{intro L' hL;exact .ref (d,0) 0 _ _ hL}
theorem op_box (hs:SR lp I L V a.tmps.toList ml w) (hf:Fr cx w0 I0 F0 O0 Hd R e ds I F L w) {t:lP} {x:lM} (ho:o.op=.box t x) (U:rx cx.G x=some r)
  (hd:o.dst=some d) (hc:V.mi[d]?=some [])
  (h:exec (o.dst.getD 0) (Ac V.mi) V.tmps (.box r)=some out):Bh cx w0 I0 F0 O0 Hd R e ds F lp ml o a w (apply V o.dst out):=by
 simp only[exec] at h;obtain⟨hk,h⟩:=AQ h;cases h;have:=XZ hs hf hd hc (Be hs hf.wd U) hk (t:=t) (ty:=0) (.inl rfl) (by simp[execOp,ho,Instr.box,newVar,newRow]);simpa[hd] using this
theorem zf (hs:SR lp I L V a.tmps.toList ml w) (hf:Fr cx w0 I0 F0 O0 Hd R e ds I F L w) {t:lP} (ho:o.op=.alloc t) (hz:Gg cx.P t=some z)
  (hd:o.dst=some d) (hc:V.mi[d]?=some []) :
  Bh cx w0 I0 F0 O0 Hd R e ds F lp ml o a w (apply V o.dst {v:=.ref (d,0) 0,new:=[.cells t z.cells]}):=by
 obtain⟨i,zv,hi,vl,mG⟩:=QO hz (w:=w) (I:=I) (lp:=lp) (L:=some L);exact XZ hs hf hd hc mG (W7 hz) (t:=t) (ty:=t) (.inr rfl) (by simp[execOp,ho,Instr.alloc,zeroValue,typeInfo,hi,vl,newVar,newRow])
theorem zg (hs:SR lp I L V a.tmps.toList ml w) (hf:Fr cx w0 I0 F0 O0 Hd R e ds I F L w) {x:lM} (ho:o.op=.nilCheck x) (U:rx cx.G x=some r)
  (h:exec (o.dst.getD 0) (Ac V.mi) V.tmps (.nilck r)=some out):Bh cx w0 I0 F0 O0 Hd R e ds F lp ml o a w (apply V o.dst out):=by
 have O:=Be hs hf.wd U;simp only[exec] at h;split at h;{rename_i J off hr;rw[hr] at O;cases h;obtain⟨b,C,hL,hv⟩:=FJ O;exact Bo hs hf (v':=a.eval x) (by simp[execOp,ho,hv]) (.refl w) O};{rename_i cs off hr;rw[hr] at O;cases h;obtain⟨b,tA,c,E',fr,hv,_⟩:=Nx O;exact Bo hs hf (v':=a.eval x) (by simp[execOp,ho,hv]) (.refl w) O};{rename_i J k i off hr;rw[hr] at O;cases h;obtain⟨b,C,hL,hv⟩:=RK O;exact Bo hs hf (v':=a.eval x) (by simp[execOp,ho,hv]) (.refl w) O};{rename_i f cap hr;rw[hr] at O;cases h;obtain⟨us,A,hv,_,_⟩:=KO O;exact Bo hs hf (v':=a.eval x) (by simp[execOp,ho,hv]) (.refl w) O};{rename_i d hr;rw[hr] at O;cases h;obtain⟨l,hv,_⟩:=bm O;exact Bo hs hf (v':=a.eval x) (by rcases yv_or l with ⟨U,_⟩ | U<;>rw[U] at hv<;>simp[execOp,ho,hv]) (.refl w) O};{cases h}
theorem op_mkI (hs:SR lp I L V a.tmps.toList ml w) (hf:Fr cx w0 I0 F0 O0 Hd R e ds I F L w) {t:lP} {x:lM} (ho:o.op=.makeInterface t x) (U:rx cx.G x=some r)
  {d:lR} (hu:cx.P.underlying t=some d) (hn:∀ ms,d≠.interface ms):Bh cx w0 I0 F0 O0 Hd R e ds F lp ml o a w (apply V o.dst {v:=.iface t (r.ev V.tmps)}):=by
 refine Bo hs hf (v':=.iface t (a.eval x)) ?_ (.refl w) (.iface t _ _ (Be hs hf.wd U));have:(Instr.makeInterface t (a.eval x)).run cx.P w=.ok (.iface t (a.eval x)) w:=by simp only[Instr.makeInterface,Sem.run_bind,run_underlying hu,Result.andThen_ok];cases d<;>first | rfl | exact lH rfl (hn _)
 simp[execOp,ho,this]
theorem op_mkF (hs:SR lp I L V a.tmps.toList ml w) (hf:Fr cx w0 I0 F0 O0 Hd R e ds I F L w) {f k:lL} {first cap:Array lM} (ho:o.op=.makeFunc (.func f) first cap)
  (hk:Fa k=first.size) (hi:AO k=f) (U:DT cx.G (first.toList++cap.toList)=some rs):Bh cx w0 I0 F0 O0 Hd R e ds F lp ml o a w (apply V o.dst {v:=.fn k (rs.map (RX.ev V.tmps))}):=by
 have hr:Am w I lp (some L) (.fn k (rs.map (RX.ev V.tmps))) (.func (.func f) (first.map a.eval) (cap.map a.eval)):=by
  have:=Am.fn (w:=w) (I:=I) (lp:=lp) (L:=some L) k (rs.map (RX.ev V.tmps)) (first.map a.eval) (cap.map a.eval) (by simpa using hk.symm) (by simpa using R6 hs hf.wd U)
  rwa [hi] at this
 refine Bo hs hf (v':=.func (.func f) (first.map a.eval) (cap.map a.eval)) ?_ (.refl w) hr;simp[execOp,ho,Instr.makeFunc]
theorem fD (hs:SR lp I L V a.tmps.toList ml w) (hf:Fr cx w0 I0 F0 O0 Hd R e ds I F L w) {x:lM} (ho:o.op=.extract x j) (U:rx cx.G x=some r)
  (h:exec (o.dst.getD 0) (Ac V.mi) V.tmps (.extract j r)=some out):Bh cx w0 I0 F0 O0 Hd R e ds F lp ml o a w (apply V o.dst out):=by
 have O:=Be hs hf.wd U;simp only[exec] at h;split at h
 case h_2=>cases h
 rename_i Z hr;rw[hr] at O;obtain⟨A,hv,mG⟩:=bn O;split at h
 case h_2=>cases h
 rename_i y hy;cases h;obtain⟨u,hu,rM⟩:=mG.get hy;simp only[j3] at hu;exact Bo hs hf (v':=u) (by simp[execOp,ho,hv,Instr.extract,hu]) (.refl w) rM
theorem op_un (hs:SR lp I L V a.tmps.toList ml w) (hf:Fr cx w0 I0 F0 O0 Hd R e ds I F L w) {t:lP} {x:lM} (ho:o.op=.unOp op t x) (U:rx cx.G x=some r)
  (h:exec (o.dst.getD 0) (Ac V.mi) V.tmps (.un op r)=some out):Bh cx w0 I0 F0 O0 Hd R e ds F lp ml o a w (apply V o.dst out):=by
 have O:=Be hs hf.wd U;simp only[exec] at h;split at h;{rename_i b hb;rw[hb] at O;cases h;exact Bo hs hf (by simp[execOp,ho,Fd O,Op.unary]) (.refl w) (.bool _)};{rename_i k n hn;rw[hn] at O;cases h;exact Bo hs hf (by simp[execOp,ho,CD O,Op.unary,Op.intArith]) (.refl w) (.int _ _)};{cases h}
theorem TF {d2:lR} (U:P.underlying src=some d1) (H:P.underlying dst=some d2) (x:lK) (w:lJ) :
  (convert src dst x).run P w=(match d1,d2,x with
   | _,.int k,.int _ n=>Conv.intToInt k n
   | _,.string,.int _ n=>Conv.intToString n
   | _,.string,.string _=>pure x
   | _,_,_=>convert src dst x).run P w:=by
 split<;>simp[convert,run_underlying U,run_underlying H]
theorem op_conv (hs:SR lp I L V a.tmps.toList ml w) (hf:Fr cx w0 I0 F0 O0 Hd R e ds I F L w) {x:lM} (ho:o.op=.convert src dst x) (U:rx cx.G x=some r)
  {k:lN} (sD:cx.P.underlying src=some d1) (oU:cx.P.underlying dst=some (.int k))
  (h:exec (o.dst.getD 0) (Ac V.mi) V.tmps (.conv k r)=some out):Bh cx w0 I0 F0 O0 Hd R e ds F lp ml o a w (apply V o.dst out):=by
 have O:=Be hs hf.wd U;simp only[exec] at h;split at h;{rename_i k' n hn;rw[hn] at O;cases h;refine Bo hs hf ?_ (.refl w) (.int _ _);simp[execOp,ho,CD O,TF sD oU,Conv.intToInt]};{cases h}
theorem vm (hs:SR lp I L V a.tmps.toList ml w) (hf:Fr cx w0 I0 F0 O0 Hd R e ds I F L w) {x:lM} (ho:o.op=.convert src dst x) (U:rx cx.G x=some r)
  (sD:cx.P.underlying src=some d1) (oU:cx.P.underlying dst=some .string)
  (h:exec (o.dst.getD 0) (Ac V.mi) V.tmps (.oe r)=some out):Bh cx w0 I0 F0 O0 Hd R e ds F lp ml o a w (apply V o.dst out):=by
 have O:=Be hs hf.wd U;simp only[exec] at h;split at h;{rename_i k' n hn;rw[hn] at O;cases h;refine Bo hs hf (v':=.string (Utf8.encode n)) ?_ (.refl w) ?_;{simp[execOp,ho,CD O,TF sD oU,Conv.intToString]};{have:=Am.str (w:=w) (I:=I) (lp:=lp) (L:=some L) (Utf8.encode n).data.toList;simpa using this}};{cases h}
theorem zh (hs:SR lp I L V a.tmps.toList ml w) (hf:Fr cx w0 I0 F0 O0 Hd R e ds I F L w) {x:lM} (ho:o.op=.convert src dst x) (U:rx cx.G x=some r)
  (sD:cx.P.underlying src=some d1) (oU:cx.P.underlying dst=some .string)
  (h:exec (o.dst.getD 0) (Ac V.mi) V.tmps (.pt r)=some out):Bh cx w0 I0 F0 O0 Hd R e ds F lp ml o a w (apply V o.dst out):=by
 have O:=Be hs hf.wd U;simp only[exec] at h;split at h;{rename_i s nK;rw[nK] at O;cases h;refine Bo hs hf (v':=a.eval x) ?_ (.refl w) O;simp[execOp,ho,Cu O,TF sD oU]};{cases h}
end ops
end Go.Ab


namespace Go.Ab
variable{E:Type} {F:Nat->Prop} {Hd:Nat->Option Obj} {O0:BE} {cx:Cx} {ds:List lQ} {J:Nm} {p:Option (Nat×Nat)} {v:lK} {A:List lK} {w0:lJ} {x:PV} {σ:Nm->lV} {RE:Bs E} {e:E}
theorem QG (f:Nm->Option lV) (Z:lS):(AM f Z).length=Z.length:=by
 induction Z with
 | nil=>rfl
 | cons x Z ih=>simp[AM,ih]
theorem sj (f:Nm->Option lV) (Z:lS) (i:Nat):(AM f Z)[i]?=(Z[i]?).map (PV.sub f):=by
 induction Z generalizing i with
 | nil=>simp[AM]
 | cons x Z ih=>cases i with
  | zero=>simp[AM]
  | succ i=>simp[AM,ih]
theorem OZ (R:lW):∀ (σ:List lY) (J:Nm),Ac (R.foldl (fun mi J=>AR mi J AP) σ) J=if J∈R then (Ac σ J).map fun _=>AP else Ac σ J:=by
 induction R with
 | nil=>intro σ J;simp
 | cons r R ih =>
  intro σ J;simp only[jy,ih,im];by_cases h:J=r
  ·subst h;cases hl:Ac σ J with
   | none=>simp[(Kb AP).2 hl]
   | some ob=>rw[Ka AP hl];simp
  {simp[h,FC AP h]}
def CW (I:Nat->Prop) (L:As) (R:lW):Nat->Prop:=fun b=>I b\/∃ J∈R,∃ C,L J=some (some (b,C))
def EJ (L:As) (R:lW):As:=fun J=>if J∈R then (L J).map fun _=>none else L J
section
variable {lp:Nat->lT} {I:Nat->Prop} {L:As} {V:St} {mN ml:List lK} {w:lJ} {R:lW}
theorem SR.p7 (h:SR lp I L V mN ml w) (hp:L J=some p):∃ ob,Ac V.mi J=some ob/\Ba w I lp L ob p:=by
 cases hl:Ac V.mi J with
 | none=>have:=h.pR J hl;rw[hp] at this;cases this
 | some ob =>
  obtain⟨q,hq,ha⟩:=h.ob J ob hl;rw[hp] at hq;cases hq;exact⟨ob,rfl,ha⟩
theorem QI (hR:B3 (Ac V.mi) R=true) (hn:J∈R) {ob:Ob} (hl:Ac V.mi J=some ob):∀ m∈ob.names,m∈R:=by intro m hm;have:=iy.1 hR J hn;rw[hl] at this;simpa using iy.1 this m hm
theorem oA (h:SR lp I L V mN ml w) (hR:B3 (Ac V.mi) R=true):∀ (d:Nat) (J:Nm) (ob:Ob) (b C:Nat),J∈R->Ac V.mi J=some ob->L J=some (some (b,C)) ->
  Wi w (CW I L R) lp b (FK (Ac V.mi) d ob):=by
 have hI:∀ b,I b->CW I L R b:=fun b hb=>.inl hb
 have easy:∀ (f:Nm->Option lV),DR w (CW I L R) lp L none (·∈R) f->∀ (J:Nm) (ob:Ob) (b C:Nat),J∈R->Ac V.mi J=some ob->L J=some (some (b,C)) ->
   Wi w (CW I L R) lp b (ob.sub f):=by
  intro f hf J ob b C hn hl hL;obtain⟨p,hp,ha⟩:=h.ob J ob hl;rw[hL] at hp;cases hp;have hb:CW I L R b:=.inr ⟨J,hn,C,hL⟩;cases ob with
  | cells ty cs =>
   obtain⟨c,E,U,H,h3,h4⟩:=ha;have hlen:=h4.length;simp only[jQ] at hlen;refine⟨hb,c,E,(0,0),U,by rw[QG];omega,h3.1.pQ _,?_⟩;have:=Ai.subst hI hf h4 (QI hR hn hl)
   rwa [QG,hlen,jb (by simp)]
  | arr k kt Z =>
   obtain⟨c,E,U,H,h3,h4,h5,h6⟩:=ha;exact⟨hb,c,E,(0,0),U,by omega,h4,h5,Ai.mono hI (fun _ _=>rfl) (fun _ _ h=>h) h6⟩
  | map es=>obtain⟨nj,clock,U,H⟩:=ha;exact⟨hb,nj,clock,U,Ai.subst hI hf H (QI hR hn hl)⟩
  | mD s p=>trivial
 intro d;induction d with
 | zero=>exact easy _ fun J p _ _=>trivial
 | succ d ih =>
  refine easy _ fun m p hm hp=>?_;obtain⟨ob,hl,ha⟩:=h.p7 hp;simp only[hl,iu];cases p with
  | none=>obtain⟨k,kt,rfl⟩:=ha;exact⟨k,kt,by cases d<;>rfl⟩
  | some p=>exact ih m ob p.1 p.2 hm hl hp
theorem O6 (h:SR lp I L V mN ml w) (hR:B3 (Ac V.mi) R=true) (L':l7):DR w (CW I L R) lp L L' (·∈R) (A7 (Ac V.mi)):=by
 intro m p hm hp;obtain⟨ob,hl,ha⟩:=h.p7 hp;simp only[A7,hl,iu];cases p with
 | none=>obtain⟨k,kt,rfl⟩:=ha;exact⟨k,kt,rfl⟩
 | some p=>exact oA h hR _ m ob p.1 p.2 hm hl hp
theorem Xj (h:SR lp I L V mN ml w) (hR:B3 (Ac V.mi) R=true) (O:Am w I lp (some L) x v) (hn:∀ J∈x.names,J∈R) :
  Am w (CW I L R) lp none (x.sub (A7 (Ac V.mi))) v :=
 Am.subst (fun _ hb=>.inl hb) (O6 h hR none) O hn
theorem QH (h:SR lp I L V mN ml w) (hR:B3 (Ac V.mi) R=true) {Z:lS} (O:Ai w I lp (some L) Z A) (hn:∀ J∈Ar Z,J∈R) :
  Ai w (CW I L R) lp none (AM (A7 (Ac V.mi)) Z) A :=
 Ai.subst (fun _ hb=>.inl hb) (O6 h hR none) O hn
theorem SR.freeze (h:SR lp I L V mN ml w) (hR:B3 (Ac V.mi) R=true):SR lp (CW I L R) (EJ L R) (B7 (Ac V.mi) R V) mN ml w:=by
 have hs:DR w (CW I L R) lp L (some (EJ L R)) (fun _=>True) (fun m=>if R.contains m then A7 (Ac V.mi) m else none):=by intro m p _ hp;by_cases hm:m∈R;{have:=O6 h hR (some (EJ L R)) m p hm hp;simpa[hm] using this};{simp[hm,EJ,hp]}
 unfold B7;refine h.subst (fun _ hb=>.inl hb) (fun _ _=>rfl) hs ?_ ?_;{intro J ob hl;simp only[CF,OZ,Ee] at hl;split at hl;{rename_i hm;simp only[kx,ij] at hl;obtain⟨oZ,hl,rfl⟩:=hl;obtain⟨p,hp,ha⟩:=h.ob J oZ hl;exact⟨none,by simp[EJ,hm,hp],0,0,rfl⟩};{rename_i hm;simp only[ij] at hl;obtain⟨oZ,hl,rfl⟩:=hl;obtain⟨p,hp,ha⟩:=h.ob J oZ hl;exact⟨p,by simp[EJ,hm,hp],ha.subst (fun _ hb=>.inl hb) (fun _ _=>rfl) hs (fun _ _=>trivial) fun _ _ _=>rfl⟩}}
 ·intro J hl;simp only[CF,OZ,Ee] at hl;have:Ac V.mi J=none:=by split at hl<;>simpa using hl
  simp[EJ,h.pR J this]
theorem Fr.freeze {I0 F0:Nat->Prop} (h:Fr cx w0 I0 F0 O0 Hd RE e ds I F L w) (R:lW) :
  Fr cx w0 I0 F0 O0 Hd RE e ds (CW I L R) F (EJ L R) w:=by
 have cut:∀ J b C,EJ L R J=some (some (b,C))->J ∉ R/\L J=some (some (b,C)):=by intro J b C hn;unfold EJ at hn;split at hn;{simp at hn};{rename_i hm;exact⟨hm,hn⟩}
 refine h.own rfl rfl rfl (ik _) (fun _ _ _=>rfl) (fun _ hb=>.inl hb) ?_ ?_ ?_;{rintro b (hb | ⟨J,_,C,hL⟩);{exact .inl hb};{exact .inr ⟨(h.lB J b C hL).2.1,.inr ⟨J,C,hL⟩⟩}};{intro J b C hn;obtain⟨U,H⟩:=cut J b C hn;refine⟨(h.lB J b C H).2.1,?_,.inr ⟨J,C,H⟩⟩;rintro (hb | ⟨nr,qn,C',tD⟩);{exact (h.lB J b C H).2.2.1 hb};{exact U (h.inj J nr b C C' H tD ▸ qn)}};{intro J nr b C C' hn nO;exact h.inj J nr b C C' (cut J b C hn).2 (cut nr b C' nO).2}
theorem DI:∀ (d:Nat) (l:lW) (J:Nm),J∈l->J∈AI σ d l:=by
 intro d;cases d with
 | zero=>intro l J h;exact h
 | succ d=>intro l J h;exact iF _ h
end
end Go.Ab


namespace Go.Ab
variable{P:lO} {c:Array lK} {cap d k:Nat} {fs:Array Field} {ps:Array (Nat×lM)} {rest:List (Nat×lK)} {rs:List (Nat×Nat×RX)} {v:lK} {w1:lJ} {z:lS}
theorem zj (off:Nat):∀ (A:List lK) (k:Nat) (cs:Array lK),off+k+A.length<=cs.size ->
  ((A.zipIdx k).foldl (fun (cs:Array lK) (x:lK×Nat)=>cs.setIfInBounds (off+x.2) x.1) cs).toList=cs.toList.take (off+k)++A++cs.toList.drop (off+k+A.length):=by
 intro A;induction A with
 | nil=>intro k cs _;simp
 | cons v A ih =>
  intro k cs h;simp only[iM] at h;simp only[ky,jy];rw[ih (k+1) _ (by simp;omega)];have:=list_seg_step cs.toList (off+k) v A (by simp;omega);simpa[ke] using this
theorem vo (off:Nat) (A:Array lK) (cs:Array lK) (h:off+A.size<=cs.size) :
  (A.zipIdx.foldl (fun (cs:Array lK) (x:lK×Nat)=>cs.setIfInBounds (off+x.2) x.1) cs).toList=cs.toList.take off++A.toList++cs.toList.drop (off+A.size):=by
 have:=zj off A.toList 0 cs (by simpa using h);rw[<-Array.foldl_toList];simpa using this
section fill
variable {w:lJ} {I:Nat->Prop} {lp:Nat->lT} {L:l7}
theorem Y4 {place:Nat->Option (Nat×Nat)} {cells:Array lK} {i off n:Nat} (hp:place i=some (off,n)) (U:v.cells.size=n) (H:off+n<=cells.size) :
  ∃ pN,pN.toList=cells.toList.take off++v.cells.toList++cells.toList.drop (off+n)/\Instr.fill place cells ((i,v) :: rest)=Instr.fill place pN rest:=by
 refine⟨_,?_,by simp only[Instr.fill,hp];rw[lr (by simp;omega)]⟩;have:=vo off v.cells cells (by omega);rw[U] at this;exact this
end fill
section ops
variable {E:Type} {cx:Cx} {w0:lJ} {I0 F0:Nat->Prop} {O0:BE} {Hd:Nat->Option Obj} {R:Bs E} {e:E} {ds:List lQ} {F:Nat->Prop} {lp:Nat->lT} {ml:List lK}
variable {I:Nat->Prop} {L:As} {V:St} {a:Act} {w:lJ} {o:Oper} {out:Al} {r9:An}
theorem gR (hs:SR lp I L V a.tmps.toList ml w) (hw:cx.Wd I w) (place:Nat->Option (Nat×Nat)):∀ (ps:List (Nat×lM)) (rs:List (Nat×Nat×RX)) (z cs:lS) (zv:Array lK),
  Nb cx.G place ps=some rs->Ai w I lp (some L) z zv.toList->A6 zv.toList->EK V.tmps z rs=some cs ->
  ∃ cells,Instr.fill place zv (ps.map fun x=>(x.1,a.eval x.2))=some cells/\Ai w I lp (some L) cs cells.toList/\A6 cells.toList:=by
 intro ps;induction ps with
 | nil =>
  intro rs z cs zv hc hz ho hf;simp only[Nb,il] at hc;subst hc;simp only[EK,il] at hf;subst hf;exact⟨zv,rfl,hz,ho⟩
 | cons p ps ih =>
  obtain⟨i,x⟩:=p;intro rs z cs zv hc hz ho hf;simp only[Nb] at hc;split at hc
  case h_2=>cases hc
  rename_i off n y ys hp hy qI;cases hc;simp only[EK] at hf;obtain⟨hk,hf⟩:=AQ hf;simp only[ie,lw] at hk;obtain⟨⟨k1,k2⟩,k3⟩:=hk;obtain⟨g1,g2⟩:=(Be hs hw hy).cells k1;have oL:(a.eval x).cells.size=n:=by have:=g2.length;simp at this;omega
  have hzl:=hz.length;simp only[jQ] at hzl;obtain⟨pN,hc',hfill⟩:=Y4 (place:=place) (rest:=ps.map fun x=>(x.1,a.eval x.2)) hp oL (cells:=zv) (by omega);have mG:Ai w I lp (some L) (nc z off (y.ev V.tmps).cells) pN.toList:=by rw[hc'];have:=hz.nc g2 off;simpa[oL] using this
  have nk:A6 pN.toList:=by rw[hc'];exact ho.nc g1 off (off+n)
  obtain⟨cells,U,H,h3⟩:=ih ys _ cs pN qI mG nk hf;exact⟨cells,by simpa[hfill] using U,H,h3⟩
theorem ff (fs:Array Field) (hfs:fs.all (fun f=>(P.info? f.type).isSome)=true) (w:lJ) :
  (fs.mapM fun (f:Field)=>(do pure (f.offset,<-sizeOf f.type):Sem (Nat×Nat))).run P w=.ok (fs.map fun f=>(f.offset,P.cellsOf f.type)) w:=by
 have key:∀ l:List Field,(∀ f∈l,(P.info? f.type).isSome=true)->(l.mapM fun (f:Field)=>(do pure (f.offset,<-sizeOf f.type):Sem (Nat×Nat))).run P w=.ok (l.map fun f=>(f.offset,P.cellsOf f.type)) w:=by
  intro l;induction l with
  | nil=>intro _;rfl
  | cons f l ih =>
   intro h;obtain⟨i,hi⟩:=jR.1 (h f (by simp));simp only[jv,Sem.run_bind,Ih hi,Result.andThen_ok,Sem.run_pure,ih fun g hg=>h g (by simp[hg]),iE];simp[Program.cellsOf,hi]
 rw[kV];simp only[Sem.run_map,key fs.toList (fun f hf=>by simpa using (Array.all_eq_true_iff_forall_mem.1 hfs) f (by simpa using hf)),Result.andThen_ok];congr 1;exact Array.ext' (by simp)
theorem zk (hs:SR lp I L V a.tmps.toList ml w) (hf:Fr cx w0 I0 F0 O0 Hd R e ds I F L w) {t:lP} (ho:o.op=.build t ps) 
  (hu:cx.P.underlying t=some (.struct fs)) (hz:Gg cx.P t=some (.agg z)) (hfs:fs.all (fun f=>(cx.P.info? f.type).isSome)=true) (hc:Nb cx.G (QJ cx.P fs) ps.toList=some rs)
  (h:exec (o.dst.getD 0) (Ac V.mi) V.tmps (.build z rs)=some out):Bh cx w0 I0 F0 O0 Hd R e ds F lp ml o a w (apply V o.dst out):=by
 obtain⟨i,zv,hi,vl,mG⟩:=QO hz (w:=w) (I:=I) (lp:=lp) (L:=some L);obtain⟨zs,rfl,nk,vp⟩:=Ny mG;simp only[exec] at h;split at h
 case h_2=>cases h
 rename_i cs uP;cases h;obtain⟨cells,U,H,h3⟩:=gR hs hf.wd _ _ _ _ _ _ hc vp nk uP;refine Bo hs hf (v':=.agg cells) ?_ (.refl w) (.agg _ _ h3 H)
 have hpl:QJ cx.P fs=fun j=>(fs.map fun f=>(f.offset,cx.P.cellsOf f.type))[j]?:=by
  funext j;unfold QJ;rw[Array.getElem?_map];cases hj:fs[j]? with
  | none=>rfl
  | some f =>
   obtain⟨inf,hinf⟩:=jR.1 ((Array.all_eq_true_iff_forall_mem.1 hfs) f (Array.mem_of_getElem? hj));simp[hinf,Program.cellsOf]
 rw[hpl] at U;have ng:(Instr.build t (ps.map fun x=>(x.1,a.eval x.2))).run cx.P w=.ok (.agg cells) w:=by simp only[Instr.build,Sem.run_bind,zeroValue,typeInfo,run_program,Result.andThen_ok,hi,Sem.run_pure,vl,run_underlying hu,ff fs hfs w,Value.cells,kW,U]
 simp[execOp,ho,ng]
theorem gS (k:Nat):∀ (A:List lK) (j:Nat) (cells:Array lK),(∀ v∈A,v.cells.size=k)->(j+A.length)*k<=cells.size ->
  ∃ pN,Instr.fill (fun i=>some (i*k,k)) cells ((A.zipIdx j).map fun x=>(x.2,x.1))=some pN /\
   pN.toList=cells.toList.take (j*k)++A.flatMap (fun v=>v.cells.toList)++cells.toList.drop ((j+A.length)*k):=by
 intro A;induction A with
 | nil=>intro j cells _ _;exact⟨cells,rfl,by simp⟩
 | cons v A ih =>
  intro j cells hv hle;simp only[iM] at hle;have e1:(j+(A.length+1))*k=j*k+k+A.length*k:=by rw[iL,iL];omega
  have hvk:=hv v (by simp);obtain⟨c1,uo,oM⟩:=Y4 (place:=fun i=>some (i*k,k)) (cells:=cells) (i:=j) (v:=v) (rest:=(A.zipIdx (j+1)).map fun x=>(x.2,x.1)) rfl hvk (by omega);have hl:c1.toList.length=cells.size:=by rw[uo];simp[hvk];omega
  obtain⟨c2,uq,hl2⟩:=ih (j+1) c1 (fun u hu=>hv u (by simp[hu])) (by
   have:c1.size=cells.size:=by simpa using hl
   rw[this,show j+1+A.length=j+(A.length+1) from by omega];exact hle)
  refine⟨c2,?_,?_⟩;{simp only[ky,iE,oM];exact uq}
  ·rw[hl2,uo];have e2:(j+1)*k=j*k+k:=by rw[iL,jU]
   have e3:(j+1+A.length)*k=j*k+k+A.length*k:=by rw[iL,iL];omega
   have t1:(cells.toList.take (j*k)).length=j*k:=by simp;omega
   rw[e2,e3,iM,e1];have a1:(cells.toList.take (j*k)++v.cells.toList).length=j*k+k:=by simp[hvk];omega
   rw[kO (by omega),jb (l:=cells.toList.take (j*k)++v.cells.toList) (by omega)];rw[List.drop_append,a1,kP (l:=cells.toList.take (j*k)++v.cells.toList) (by omega),jz,kd,j0];simp[iX,ke]
theorem dG (hs:SR lp I L V a.tmps.toList ml w) (hw:cx.Wd I w):∀ (ps:List (Nat×lM)) (j:Nat) (rs:md),Nz cx.G j ps=some rs ->
  ∃ A,ps.map (fun x=>(x.1,a.eval x.2))=(A.zipIdx j).map (fun x=>(x.2,x.1))/\Ai w I lp (some L) (rs.map (RX.ev V.tmps)) A:=by
 intro ps;induction ps with
 | nil=>intro j rs h;simp only[Nz,il] at h;subst h;exact⟨[],rfl,.nil⟩
 | cons p ps ih =>
  obtain⟨i,x⟩:=p;intro j rs h;simp only[Nz] at h;split at h
  case isFalse=>cases h
  rename_i vq;subst vq;split at h
  case h_2=>cases h
  rename_i y ys hy qI;cases h;obtain⟨A,U,H⟩:=ih (i+1) ys qI;exact⟨a.eval x :: A,by simp[U],.cons _ _ _ _ (Be hs hw hy) H⟩
theorem TR {w:lJ} {I:Nat->Prop} {lp:Nat->lT} {L:l7}:∀ {Z:lS} {A:List lK},Ai w I lp L Z A->(Z.all fun x=>x.isVal&&x.cells.length==k)=true ->
  (∀ v∈A,v.cells.size=k)/\(∀ x∈Z,x.cells.length=k)/\A6 (A.flatMap fun v=>v.cells.toList)/\Ai w I lp L (mr Z) (A.flatMap fun v=>v.cells.toList):=by
 intro Z;induction Z with
 | nil=>intro A h _;cases h;exact⟨by simp,by simp,by simp[A6],.nil⟩
 | cons x Z ih =>
  intro A h nX;cases h with
  | cons _ v _ A h hs =>
   simp only[jp,ie,ly] at nX;obtain⟨⟨U,H⟩,h3⟩:=nX;obtain⟨i1,i2,i3,i4⟩:=ih hs (by simpa using h3);obtain⟨c1,c2⟩:=h.cells U;have hl:=c2.length;simp only[jQ] at hl;refine⟨?_,?_,?_,?_⟩;{intro u hu;rcases im.1 hu with rfl | hu;{omega};{exact i1 u hu}};{intro u hu;rcases im.1 hu with rfl | hu;{exact H};{exact i2 u hu}};{rw[jJ];exact c1.pK i3};{rw[jJ];exact c2.append i4}
theorem MS {t:lP} {sE:Nat} {z:PV} (h:Gh P t=some (k,sE,z)) :
  ∃ e i zv,P.underlying t=some (.slice e)/\P.info? e=some i/\i.size=k/\i.bytes=sE/\sE<=65536/\i.zero=some zv/\z.cells.length=k/\z.isVal=true/\z.names=[] /\
   (∀ (w:lJ) (I:Nat->Prop) (lp:Nat->lT) (L:l7),Am w I lp L z zv):=by
 unfold Gh at h;split at h
 case h_2=>cases h
 rename_i e hu;split at h
 case h_2=>cases h
 rename_i i z' hi hz;split at h
 case isFalse=>cases h
 rename_i hb;cases h;have qj:=W7 hz;have hz0:=hz;unfold Gg at hz;simp only[jh] at hz;obtain⟨zv,⟨j,hj,hjz⟩,hp⟩:=hz;rw[hi] at hj;cases hj;exact⟨e,i,zv,hu,hi,rfl,rfl,hb.1,hjz,hb.2,qj,df 3 zv _ hp,fun w I lp L=>TH 3 zv _ hp⟩
theorem O5 (hs:SR lp I L V a.tmps.toList ml w) (hf:Fr cx w0 I0 F0 O0 Hd R e ds I F L w) (hd:o.dst=some d) (hc:V.mi[d]?=some [])
  {kt:Nat} {Z:lS} {t:lP} (hkt:kt=0\/t=kt) (hw:LG w w1) (qJ:Z.length<=cap) (oL:cap*k<=c.size) (hk:∀ x∈Z,x.cells.length=k)
  (nk:A6 (c.toList.take (Z.length*k))) (mG:Ai w I lp none (mr Z) (c.toList.take (Z.length*k)))
  (hr:(execOp a.eval o).run cx.P w=.ok (.value (.slice (some ⟨w.heap.size,0,none⟩) Z.length cap)) (w1.alloc (.cells c t))) :
  Bh cx w0 I0 F0 O0 Hd R e ds F lp ml o a w (apply V o.dst {v:=.arr (d,0) k 0 Z.length,new:=[.arr k kt Z]}):=by
 have pI:w1.heap.size=w.heap.size:=by rw[hw.heap]
 have hle:Z.length*k<=cap*k:=je _ qJ;refine RO hs hf hd hc hw (C:=c.size) hr ?_ ?_;{intro L' hL;refine⟨c,t,by rw[<-pI];exact LI w1 _,rfl,⟨by omega,hkt⟩,hk,nk,?_⟩;exact Ai.mono (fun _ h=>h) (fun b hb=>by rw[mv w1 _ (by have:=hf.sep.iB b hb;omega),hw.heap]) (fun _ _ h=>h) mG};{intro L' hL;have:=Am.arr (w:=w1.alloc (.cells c t)) (I:=I) (lp:=lp) (L:=L') (d,0) k 0 Z.length cap w.heap.size c.size hL (by simpa using oL) qJ;simpa using this}
end ops
end Go.Ab


namespace Go.Ab
variable{P:lO} {Rn:lW} {ag:Bool} {sE d f k n:Nat} {fd:Field} {fs:Array Field} {i:TypeInfo} {ps:Array (Nat×lM)} {r r1 r2:RX} {rs:md} {v:lK} {A:Array lK} {x z:PV} {y:lM}
section ops
variable {E:Type} {cx:Cx} {w0:lJ} {I0 F0:Nat->Prop} {O0:BE} {Hd:Nat->Option Obj} {R:Bs E} {e:E} {ds:List lQ} {F:Nat->Prop} {lp:Nat->lT} {ml:List lK}
variable {I:Nat->Prop} {L:As} {V:St} {a:Act} {w:lJ} {o:Oper} {out:Al} {r9:An}
theorem eH (hs:SR lp I L V a.tmps.toList ml w) (hf:Fr cx w0 I0 F0 O0 Hd R e ds I F L w) (hR:B3 (Ac V.mi) Rn=true) {o:Oper} {out:Al} (sM:out.mX=[]) (sN:out.nf=none) (qK:out.kill=none)
  (h:∀ (L':As),SR lp (CW I L Rn) L' (B7 (Ac V.mi) Rn V) a.tmps.toList ml w->Fr cx w0 I0 F0 O0 Hd R e ds (CW I L Rn) F L' w ->
   Bh cx w0 I0 F0 O0 Hd R e ds F lp ml o a w (apply (B7 (Ac V.mi) Rn V) o.dst out)) (mP:Rn≠[]) :
  Bh cx w0 I0 F0 O0 Hd R e ds F lp ml o a w (apply V o.dst {out with mX:=Rn}):=by
 have hd:=h _ (hs.freeze hR) (hf.freeze Rn)
 have e1:apply V o.dst {out with mX:=Rn}=apply (B7 (Ac V.mi) Rn V) o.dst out:=by
  cases Rn with
  | nil=>exact lH rfl mP
  | cons r rs=>simp[apply,sM,sN,qK]
 rw[e1];exact hd
theorem de (t el:lP) (i:TypeInfo) (zv:lK) (hu:P.underlying t=some (.slice el)) (hi:P.info? el=some i) (hz:i.zero=some zv) (w:lJ) (len:Nat) (parts:Array (Nat×lK)) (h:len*i.size<=16777216)
  (A:List lK) (hp:parts.toList=(A.zipIdx 0).map fun x=>(x.2,x.1)) (hl:A.length=len) (hv:∀ v∈A,v.cells.size=i.size) :
  ∃ c:Array lK,c.toList=A.flatMap (fun v=>v.cells.toList)/\(Instr.buildSlice t len parts).run P w=.ok (.slice (some ⟨w.heap.size,0,none⟩) len len) (w.alloc (.cells c el)):=by
 have go:∀ z0:Array lK,∃ c:Array lK,Instr.fill (fun j=>some (j*i.size,i.size)) ((Array.range (len*i.size)).map (z0[·%z0.size]!)) parts.toList=some c/\c.toList=A.flatMap (fun v=>v.cells.toList):=by intro z0;obtain⟨c,U,H⟩:=gS i.size A 0 ((Array.range (len*i.size)).map (z0[·%z0.size]!)) hv (by simp[hl]);refine⟨c,by rw[hp];exact U,?_⟩;rw[H,Nat.zero_mul,List.take_zero,jz,kP (by simp[hl]),j6]
 by_cases h0:len*i.size=0;{obtain⟨c,U,H⟩:=go #[];refine⟨c,H,?_⟩;simp only[Instr.buildSlice,Sem.run_bind,run_underlying hu,Result.andThen_ok,Ih hi];rw[lr (by omega),lu h0];rw[Sem.run_bind,Sem.run_pure,Result.andThen_ok,U];simp[newRow]};{obtain⟨c,U,H⟩:=go zv.cells;refine⟨c,H,?_⟩;simp only[Instr.buildSlice,Sem.run_bind,run_underlying hu,Result.andThen_ok,Ih hi];rw[lr (by omega)];rw[lr h0];simp only[Sem.run_pure,Result.andThen_ok,Sem.run_bind,zeroValue,typeInfo,run_program,hi,hz];rw[U];simp[newRow]}
theorem op_mkSl (hs:SR lp I L V a.tmps.toList ml w) (hf:Fr cx w0 I0 F0 O0 Hd R e ds I F L w) {t:lP} {len:Nat} (ho:o.op=.buildSlice t len ps) 
  (he:Gh cx.P t=some (k,sE,z)) (hc:Nz cx.G 0 ps.toList=some rs) (hl:rs.length=len) (hle:len*k<=16777216) (hd:o.dst=some d) (oi:V.mi[d]?=some [])
  (h:exec (o.dst.getD 0) (Ac V.mi) V.tmps (.qf k rs)=some out):Bh cx w0 I0 F0 O0 Hd R e ds F lp ml o a w (apply V o.dst out):=by
 obtain⟨el,i,zv,hu,hi,rK,_,_,hz,_⟩:=MS he;obtain⟨A,U,H⟩:=dG hs hf.wd _ _ _ hc;have hlen:=H.length;rw[iW] at hlen;have ng:(∀ v∈A,v.cells.size=k)->∃ c:Array lK,c.toList=A.flatMap (fun v=>v.cells.toList)/\(execOp a.eval o).run cx.P w=.ok (.value (.slice (some ⟨w.heap.size,0,none⟩) len len)) (w.alloc (.cells c el)):=by intro hv;obtain⟨c,g1,g2⟩:=de t el i zv hu hi hz w len (ps.map fun x=>(x.1,a.eval x.2)) (by rw[rK];exact hle) A (by simpa using U) (by omega) (by rw[rK];exact hv);exact⟨c,g1,by simp[execOp,ho,g2]⟩
 simp only[exec,hd,iT] at h;split at h
 ·rename_i hS;obtain⟨hk,h⟩:=AQ h;cases h;obtain⟨v1,v2,v3,v4⟩:=TR H hk;obtain⟨c,uo,hr⟩:=ng v1;have hS:Ar (rs.map (RX.ev V.tmps))=[]:=by simpa using hS
  have tE:=(TR (H.shut hS) hk).2.2.2;have qT:=tE.length;rw[LJ v2,<-uo] at qT;have zl:(rs.map (RX.ev V.tmps)).length=len:=by simp[hl]
  rw[zl] at qT
  have:=O5 hs hf hd oi (k:=k) (kt:=0) (Z:=rs.map (RX.ev V.tmps)) (c:=c) (t:=el) (.inl rfl) (cap:=len) (.refl w) (by omega) (by simp at qT;omega) v2
   (by rw[zl,qT,jA,uo];exact v3) (by rw[zl,qT,jA,uo];exact tE) (by rw[zl];exact hr)
  simpa[hd] using this
 ·rename_i hS;obtain⟨hk,h⟩:=AQ h;cases h;simp only[ie] at hk;obtain⟨hk,hR⟩:=hk
  have mP:AI (Ac V.mi) AG (Ar (rs.map (RX.ev V.tmps)))≠[]:=by
   intro e0;cases hn:Ar (rs.map (RX.ev V.tmps)) with
   | nil=>rw[hn] at hS;simp at hS
   | cons m ms =>
    have:m∈AI (Ac V.mi) AG (Ar (rs.map (RX.ev V.tmps))):=DI AG _ m (by rw[hn];exact iw);rw[e0] at this;cases this
  have hclo0:=QH hs hR H fun J hn=>DI _ _ J hn;obtain⟨v1,v2,v3,tE⟩:=TR hclo0 hk;obtain⟨c,uo,hr⟩:=ng v1;have qT:=tE.length;rw[LJ v2,<-uo] at qT;have zl:(AM (A7 (Ac V.mi)) (rs.map (RX.ev V.tmps))).length=len:=by simp[QG,hl]
  rw[zl] at qT;have:=eH hs hf hR (o:=o) (out:={v:=.arr (d,0) k 0 (AM (A7 (Ac V.mi)) (rs.map (RX.ev V.tmps))).length,new:=[.arr k 0 (AM (A7 (Ac V.mi)) (rs.map (RX.ev V.tmps)))]}) rfl rfl rfl (fun L' nT nx=>?_) mP;{simpa[hd] using this}
  ·have hcl':(B7 (Ac V.mi) (AI (Ac V.mi) AG (Ar (rs.map (RX.ev V.tmps)))) V).mi[d]?=some []:=by
    have key:∀ (R:lW) (σ:List lY),σ[d]?=some []->(R.foldl (fun mi J=>AR mi J AP) σ)[d]?=some []:=by
     intro R;induction R with
     | nil=>intro σ h;exact h
     | cons r R ih =>
      intro σ h;refine ih _ ?_;show (AR σ r AP)[d]?=some [];unfold AR;split;{rename_i l hl;by_cases hrd:r.1=d;{rw[hrd] at hl;rw[h] at hl;cases hl;rw[hrd,jo (ix.1 h).1];rfl};{rw[iI hrd];exact h}};{exact h}
    refine key _ _ ?_;simp[CF,oi]
   exact O5 nT nx hd hcl' (k:=k) (kt:=0) (c:=c) (t:=el) (.inl rfl) (cap:=len) (.refl w) (by omega) (by simp at qT;omega) v2
    (by rw[zl,qT,jA,uo];exact v3) (by rw[zl,qT,jA,uo];exact tE) (by rw[zl];exact hr)
theorem fJ (h:Fk x=some n):∃ k,x=.int k (n:Int):=by unfold Fk at h;split at h;{rename_i k m;split at h;{rename_i hm;cases h;exact⟨k,by rw[Int.toNat_of_nonneg hm]⟩};·cases h};{cases h}
theorem Kw (O:Am w I lp (some L) x v) (h:Fk x=some n):∃ k,v=.int k (n:Int):=by obtain⟨k,hk⟩:=fJ h;rw[hk] at O;exact⟨k,CD O⟩
theorem dl {w:lJ} {I:Nat->Prop} {lp:Nat->lT} {L:l7} {zs:List lK} (h:Ai w I lp L z.cells zs) (l:Nat) :
  Ai w I lp L (mr (List.replicate l z)) (List.replicate l zs).flatten:=by
 induction l with
 | zero=>exact .nil
 | succ l ih=>rw[List.replicate_succ,List.replicate_succ,mr,List.flatten_cons];exact h.append ih
theorem op_mkS (hs:SR lp I L V a.tmps.toList ml w) (hf:Fr cx w0 I0 F0 O0 Hd R e ds I F L w) {t:lP} {x:lM} (ho:o.op=.makeSlice t x y) 
  (he:Gh cx.P t=some (k,sE,z)) (U:rx cx.G x=some r1) (H:rx cx.G y=some r2) (hd:o.dst=some d) (oi:V.mi[d]?=some [])
  (h:exec (o.dst.getD 0) (Ac V.mi) V.tmps (.uN k z r1 r2)=some out):Bh cx w0 I0 F0 O0 Hd R e ds F lp ml o a w (apply V o.dst out):=by
 obtain⟨el,i,zv,hu,hi,rK,hby,hb6,hz,hzk,hzv,hzn,vp⟩:=MS he;have O:=Be hs hf.wd U;have hy:=Be hs hf.wd H;simp only[exec,hd,iT] at h;split at h
 case h_2=>cases h
 rename_i l c hl hc;obtain⟨hk,h⟩:=AQ h;cases h;simp only[ie,lw,ly] at hk;obtain⟨⟨qT,hcm⟩,_⟩:=hk;unfold EH at hcm;obtain⟨k1,nA⟩:=Kw O hl;obtain⟨k2,pX⟩:=Kw hy hc
 have hmul:i.bytes*c<=140737488355328:=calc i.bytes*c<=65536*2147483648:=Nat.mul_le_mul (by omega) hcm
  _=140737488355328:=by decide
 have hmulI:(i.bytes:Int)*(c:Int)<=140737488355328:=by
  have:((i.bytes*c:Nat):Int)<=((140737488355328:Nat):Int):=Int.ofNat_le.2 hmul
  rwa [Int.natCast_mul] at this
 have ng:=run_make (P:=cx.P) w t el i zv hu hi hz k1 k2 (l:Int) (c:Int) (by omega) (by omega) (by omega) (by omega);simp only[Int.toNat_natCast] at ng;obtain⟨vl,hz2⟩:=(vp w I lp none).cells hzv;have zm:zv.cells.size=k:=by have:=hz2.length;simp at this;omega
 have hmk:∀ n,n<=c->(madeCells zv.cells (c*k)).toList.take (n*k)=(List.replicate n zv.cells.toList).flatten:=by
  intro n hn;apply jc;intro j;by_cases hj:j < n*k
  ·have hk0:0 < k:=Nat.pos_of_ne_zero fun h0=>by simp[h0] at hj
   have hjc:j < c*k:=jO hj (je _ hn);rw[j4 hj];have hmod:j%k < k:=Nat.mod_lt _ hk0
   have key:∀ (n j:Nat),j < n*k->(List.replicate n zv.cells.toList).flatten[j]?=zv.cells.toList[j%k]?:=by
    intro n;induction n with
    | zero=>intro j hj;simp at hj
    | succ n ih =>
     intro j hj;rw[List.replicate_succ,List.flatten_cons];by_cases hjk:j < k;{rw[jd (by simp[zm,hjk]),Nat.mod_eq_of_lt hjk]};{rw[js (by simp[zm];omega)];simp only[jQ,zm];rw[iL,jU] at hj;rw[ih (j - k) (by omega),<-Nat.mod_eq_sub_mod (by omega)]}
   rw[key n j hj];simp[madeCells,hjc,zm,hmod]
  {rw[i6 (by simp;omega),i6 (by simp[zm];omega)]}
 have hclen:∀ x∈List.replicate l z,x.cells.length=k:=fun x O=>by rw[kF O];exact hzk
 have nk:A6 (List.replicate l zv.cells.toList).flatten:=by intro v hv;obtain⟨u,sD,oU⟩:=List.mem_flatten.1 hv;rw[kF sD] at oU;exact vl v oU
 have mG:=dl hz2 l
 have:=O5 hs hf hd oi (k:=k) (kt:=0) (Z:=List.replicate l z) (c:=madeCells zv.cells (c*k)) (t:=el) (.inl rfl) (cap:=c) (.refl w) (by simpa using qT) (by simp[madeCells]) hclen
  (by rw[List.length_replicate,hmk l qT];exact nk) (by rw[List.length_replicate,hmk l qT];exact mG)
  (by simp[execOp,ho,nA,pX,ng,rK])
 simpa[hd] using this
theorem zn (hs:SR lp I L V a.tmps.toList ml w) (hf:Fr cx w0 I0 F0 O0 Hd R e ds I F L w) {t:lP} (ho:o.op=.makeMap t none) (hd:o.dst=some d) (oi:V.mi[d]?=some []) :
  Bh cx w0 I0 F0 O0 Hd R e ds F lp ml o a w (apply V o.dst {v:=.mp (d,0),new:=[.map []]}):=by
 refine RO hs hf hd oi (.refl w) (C:=0) (v':=.map (some w.heap.size)) (obj:=.map #[] 0) ?_ ?_ ?_;{have:(Instr.makeMap t none).run cx.P w=.ok (.map (some w.heap.size)) (w.alloc (.map #[] 0)):=rfl;simp[execOp,ho,this]};{intro L' hL;exact⟨#[],0,LI w _,.nil⟩};{intro L' hL;exact .mp _ _ _ hL}
theorem dz (hs:SR lp I L V a.tmps.toList ml w) (hf:Fr cx w0 I0 F0 O0 Hd R e ds I F L w) {t:lP} {x:lM} (ho:o.op=.fieldAddr t x f) 
  (hu:cx.P.underlying t=some (.struct fs)) (hfd:fs[f]?=some fd) (hi:cx.P.info? fd.type=some i) (hz:i.size≠0) (U:rx cx.G x=some r)
  (h:exec (o.dst.getD 0) (Ac V.mi) V.tmps (.fieldAddr fd.offset r)=some out):Bh cx w0 I0 F0 O0 Hd R e ds F lp ml o a w (apply V o.dst out):=by
 have O:=Be hs hf.wd U;have ng:∀ b off,a.eval x=.pointer (some ⟨b,off,none⟩)->(execOp a.eval o).run cx.P w=.ok (.value (.pointer (some ⟨b,off+fd.offset,none⟩))) w:=by intro b off hv;simp[execOp,ho,hv,Instr.fieldAt,run_underlying hu,hfd,Instr.sureAddr,fieldPlace,Ih hi,hz,Jr]
 simp only[exec] at h;split at h;{rename_i J off hr;rw[hr] at O;cases h;obtain⟨b,C,hL,hv⟩:=FJ O;exact Bo hs hf (ng b off hv) (.refl w) (.ref J _ b C hL)}
 ·rename_i cs off hr;rw[hr] at O;obtain⟨hk,h⟩:=AQ h;cases h;obtain⟨b,tA,c,E',fr,hv,g1,g2,g3,g4,g5,g6⟩:=Nx O;have:=Am.ptr (w:=w) (I:=I) (lp:=lp) (L:=some L) cs (off+fd.offset) b tA c E' fr g1 g2 g3 (lI hk) g5 g6;refine Bo hs hf (ng b _ hv) (.refl w) ?_
  rwa [ke]
 {rename_i J k j off hr;rw[hr] at O;cases h;obtain⟨b,C,hL,hv⟩:=RK O;refine Bo hs hf (ng b _ hv) (.refl w) ?_;rw[ke];exact .my J k j _ b C hL};{cases h}
theorem zo {w:lJ} {t:lP} (oD:G2 P t=some (n,ag)) {off:Nat} 
  (hv:if ag then off+n<=A.toList.length/\v=.agg ((A.toList.drop off).take n).toArray else A.toList[off]?=some v):(part t A off).run P w=.ok v w:=by
 obtain⟨d,i,U,H,h3,h4⟩:=Tv oD;simp only[part,Sem.run_bind,Yq U,Result.andThen_ok,h4];cases ag;{simp only[iq,lm,j3] at hv |-;simp[hv]};{simp only[lq] at hv |-;obtain⟨_,rfl⟩:=hv;simp[Ih H,h3,OF]}
theorem zp (hs:SR lp I L V a.tmps.toList ml w) (hf:Fr cx w0 I0 F0 O0 Hd R e ds I F L w) {t:lP} {x:lM} (ho:o.op=.field t x f) 
  (hu:cx.P.underlying t=some (.struct fs)) (hfd:fs[f]?=some fd) (oD:G2 cx.P fd.type=some (n,ag)) (U:rx cx.G x=some r)
  (h:exec (o.dst.getD 0) (Ac V.mi) V.tmps (.field fd.offset n ag r)=some out):Bh cx w0 I0 F0 O0 Hd R e ds F lp ml o a w (apply V o.dst out):=by
 have O:=Be hs hf.wd U;simp only[exec] at h;split at h
 case h_2=>cases h
 rename_i cs hr;rw[hr] at O;obtain⟨A,hv,nk,mG⟩:=Ny O;obtain⟨u,oC,rfl⟩:=ij.1 h;obtain⟨v',hv',tl⟩:=Pp mG nk oC;refine Bo hs hf (v':=v') ?_ (.refl w) tl;simp[execOp,ho,hv,Instr.field,run_underlying hu,hfd,asAgg,zo oD hv']
theorem WP {t el:lP} (hu:P.underlying t=some (.slice el)) (hi:P.info? el=some i) (w:lJ) (b off len cap:Nat) (k:lN) (j:Nat) (hj:j < len) :
  (Instr.indexAt t (.slice (some ⟨b,off,none⟩) len cap) (.int k (j:Int))).run P w=.ok (.pointer (some ⟨b,off+j*i.size,none⟩)) w:=by
 have H:(0:Int)<=(j:Int)/\(j:Int) < (len:Int):=⟨by omega,by omega⟩;simp[Instr.indexAt,asIntOf,run_underlying hu,H,Ih hi,Jr];intro h;omega
theorem fC (hs:SR lp I L V a.tmps.toList ml w) (hf:Fr cx w0 I0 F0 O0 Hd R e ds I F L w) {t:lP} {x:lM} (ho:o.op=.indexAddr t x y) 
  (he:Gh cx.P t=some (k,sE,z)) (U:rx cx.G x=some r1) (H:rx cx.G y=some r2)
  (h:exec (o.dst.getD 0) (Ac V.mi) V.tmps (.mw k r1 r2)=some out):Bh cx w0 I0 F0 O0 Hd R e ds F lp ml o a w (apply V o.dst out):=by
 obtain⟨el,i,zv,hu,hi,rK,_⟩:=MS he;have O:=Be hs hf.wd U;have hy:=Be hs hf.wd H;simp only[exec] at h;split at h
 ·rename_i j k' Z full hj hr;rw[hr] at O;obtain⟨kk,hky⟩:=Kw hy hj;split at h
  case h_2=>cases h
  rename_i ev mo;obtain⟨hk,h⟩:=AQ h;cases h;simp only[ie,ly,lw] at hk;obtain⟨rfl,hk0⟩:=hk;have mL:=(ix.1 mo).1;rcases IE O with ⟨b,off,cap,c,E',fr,hv,g1,g2,g3,g4,g5,g6,g7,g8⟩ | ⟨rfl,_⟩
  ·have ng:=WP (P:=cx.P) hu hi w b off Z.length cap kk j mL;rw[rK] at ng;have qe:=g4 ev (iz mo);have hmul:(j+1)*k<=Z.length*k:=je _ mL;rw[iL,jU] at hmul;have e1:(((c.toList.drop off).take (Z.length*k)).drop (j*k)).take k=(c.toList.drop (off+j*k)).take k:=by rw[jI,jg,j0,jf (by omega)]
   have:=Am.ptr (w:=w) (I:=I) (lp:=lp) (L:=some L) ev.cells 0 b (off+j*k) c E' fr g1 g2 (by omega) (by omega) (by rw[qe,<-e1];exact (g7.p6 _).pQ _)
    (by rw[qe,<-e1,<-Uc g4 mo];exact (g8.drop _).take _)
   exact Bo hs hf (v':=.pointer (some ⟨b,off+j*k,none⟩)) (by simp[execOp,ho,hv,hky,ng]) (.refl w) (by simpa using this)
  {simp at mo}
 ·rename_i j J k' off n hj hr;rw[hr] at O;obtain⟨kk,hky⟩:=Kw hy hj;obtain⟨hk,h⟩:=AQ h;cases h;simp only[ie,ly,lw] at hk;obtain⟨rfl,hjn⟩:=hk;rcases G5 O with ⟨b,C,cap,hL,hv,_,_⟩ | ⟨_,_,_,hn0⟩
  {have ng:=WP (P:=cx.P) hu hi w b (off*k) n cap kk j hjn;rw[rK] at ng;have:=Am.my (w:=w) (I:=I) (lp:=lp) J k (off+j) 0 b C hL;refine Bo hs hf (v':=.pointer (some ⟨b,off*k+j*k,none⟩)) (by simp[execOp,ho,hv,hky,ng]) (.refl w) ?_;rw[iL] at this;exact this};{omega}
 {cases h}
theorem vr (hs:SR lp I L V a.tmps.toList ml w) (hf:Fr cx w0 I0 F0 O0 Hd R e ds I F L w) {t:lP} {x:lM} (ho:o.op=.index t x y) 
  (hu:cx.P.underlying t=some .string) (U:rx cx.G x=some r1) (H:rx cx.G y=some r2)
  (h:exec (o.dst.getD 0) (Ac V.mi) V.tmps (.oE r1 r2)=some out):Bh cx w0 I0 F0 O0 Hd R e ds F lp ml o a w (apply V o.dst out):=by
 have O:=Be hs hf.wd U;have hy:=Be hs hf.wd H;simp only[exec] at h;split at h
 case h_2=>cases h
 rename_i j s hj hr;rw[hr] at O;obtain⟨kk,hky⟩:=Kw hy hj;split at h
 case h_2=>cases h
 rename_i b hb;cases h;have oT:(⟨s.toArray⟩:ByteArray)[j]?=some b:=by obtain⟨U,H⟩:=ix.1 hb;have oL:j < (⟨s.toArray⟩:ByteArray).size:=U;rw[getElem?_pos (⟨s.toArray⟩:ByteArray) j oL];exact lD some H
 refine Bo hs hf (v':=.int .u8 b.toNat) ?_ (.refl w) (.int _ _);simp[execOp,ho,Cu O,hky,Instr.index,asIntOf,run_underlying hu,oT]
end ops
end Go.Ab


namespace Go.Ab
variable{P:lO} {el:lP} {i:TypeInfo} {lo xo:Option lM} {n:Nat} {r rh rl:mh} {x:lM} {z:PV}
section ops
variable {E:Type} {cx:Cx} {w0:lJ} {I0 F0:Nat->Prop} {O0:BE} {Hd:Nat->Option Obj} {R:Bs E} {e:E} {ds:List lQ} {F:Nat->Prop} {lp:Nat->lT} {ml:List lK}
variable {I:Nat->Prop} {L:As} {V:St} {a:Act} {w:lJ} {o:Oper} {out:Al} {r9:An}
theorem eh (hs:SR lp I L V a.tmps.toList ml w) (hf:Fr cx w0 I0 F0 O0 Hd R e ds I F L w) {t:lP} {y:lM} (ho:o.op=.indexAddr t x y) {r1 r2:RX}
  (hu:cx.P.underlying t=some (.array n el)) (hi:cx.P.info? el=some i) (U:rx cx.G x=some r1) (H:rx cx.G y=some r2)
  (h:exec (o.dst.getD 0) (Ac V.mi) V.tmps (.nL i.size n r1 r2)=some out):Bh cx w0 I0 F0 O0 Hd R e ds F lp ml o a w (apply V o.dst out):=by
 have O:=Be hs hf.wd U;have hy:=Be hs hf.wd H
 have ng:∀ (b off j:Nat) (kk:lN),a.eval x=.pointer (some ⟨b,off,none⟩)->a.eval y=.int kk (j:Int)->j < n ->
   (execOp a.eval o).run cx.P w=.ok (.value (.pointer (some ⟨b,off+j*i.size,none⟩))) w:=by
  intro b off j kk hv hk hj;have H:(0:Int)<=(j:Int)/\(j:Int) < (n:Int):=⟨by omega,by omega⟩;simp[execOp,ho,hv,hk,Instr.indexAt,asIntOf,run_underlying hu,Instr.sureAddr,H,Ih hi,Jr];intro h;omega
 simp only[exec] at h;split at h
 ·rename_i j cs off hj hr;rw[hr] at O;obtain⟨kk,hky⟩:=Kw hy hj;obtain⟨hk,h⟩:=AQ h;cases h;simp only[ie,lw] at hk;obtain⟨b,tA,c,E',fr,hv,g1,g2,g3,g4,g5,g6⟩:=Nx O;have:=Am.ptr (w:=w) (I:=I) (lp:=lp) (L:=some L) cs (off+j*i.size) b tA c E' fr g1 g2 g3 hk.2 g5 g6;refine Bo hs hf (ng b _ j kk hv hky hk.1) (.refl w) ?_
  rwa [ke]
 {rename_i j J off hj hr;rw[hr] at O;obtain⟨kk,hky⟩:=Kw hy hj;obtain⟨hk,h⟩:=AQ h;cases h;obtain⟨b,C,hL,hv⟩:=FJ O;exact Bo hs hf (ng b _ j kk hv hky (lI hk)) (.refl w) (.ref J _ b C hL)};{cases h}
theorem Jj (w:lJ) (k:lN) (n y:Nat) (code:BoundsCode) (h:n<=y):(Instr.sliceBound (.int k (n:Int)) y code).run P w=.ok n w:=by have:(0:Int)<=(n:Int)/\(n:Int)<=(y:Int):=⟨by omega,by omega⟩;simp[Instr.sliceBound,asIntOf,this]
theorem Ki (hs:SR lp I L V a.tmps.toList ml w) (hw:cx.Wd I w) (hr:yw cx.G xo=some r) {d top:Nat} (h:DQ (Cz V.tmps r) d top=some n) :
  (xo=none/\r=none/\n=d)\/(∃ x k rx',xo=some x/\r=some rx'/\a.eval x=.int k (n:Int)/\n<=top):=by
 cases xo with
 | none =>
  simp only[yw,il] at hr;subst hr;simp only[DQ,Cz,il] at h;exact .inl ⟨rfl,rfl,h.symm⟩
 | some x =>
  simp only[yw,ij] at hr;obtain⟨y,hy,rfl⟩:=hr;simp only[DQ,Cz] at h;split at h;{rename_i m hm;obtain⟨hk,h⟩:=AQ h;cases h;obtain⟨k,qv⟩:=Kw (Be hs hw hy) hm;exact .inr ⟨x,k,y,rfl,rfl,qv,lI hk⟩};{cases h}
theorem LH (w:lJ) (isS:Bool) (len cap:Nat) (ev:lM->lK) (lo hi mx:Option lM) (l h m:Nat)
  (hm:(mx=none/\m=cap)\/(∃ x k,mx=some x/\ev x=.int k (m:Int)/\m<=cap))
  (hh:(hi=none/\mx=none/\h=len)\/(∃ x k,hi=some x/\ev x=.int k (h:Int)/\h<=m))
  (hl:(lo=none/\l=0)\/(∃ x k,lo=some x/\ev x=.int k (l:Int)/\l<=h)) :
  (Instr.sliceBounds isS len cap (lo.map ev) (hi.map ev) (mx.map ev)).run P w=.ok (l,h,m) w:=by
 unfold Instr.sliceBounds;rcases hm with ⟨rfl,rfl⟩ | ⟨xm,km,rfl,hxm,hmc⟩
 ·rcases hh with ⟨rfl,_,rfl⟩ | ⟨xh,kh,rfl,hxh,hhm⟩
  {rcases hl with ⟨rfl,rfl⟩ | ⟨xl,kl,rfl,hxl,hlh⟩;{simp};{simp[hxl,Jj w kl l _ _ hlh]}};{rcases hl with ⟨rfl,rfl⟩ | ⟨xl,kl,rfl,hxl,hlh⟩;{simp[hxh,Jj w kh h _ _ hhm]};{simp[hxh,Jj w kh h _ _ hhm,hxl,Jj w kl l _ _ hlh]}}
 ·rcases hh with ⟨rfl,hn,rfl⟩ | ⟨xh,kh,rfl,hxh,hhm⟩;·cases hn
  {rcases hl with ⟨rfl,rfl⟩ | ⟨xl,kl,rfl,hxl,hlh⟩;{simp[hxm,Jj w km m _ _ hmc,hxh,Jj w kh h _ _ hhm]};{simp[hxm,Jj w km m _ _ hmc,hxh,Jj w kh h _ _ hhm,hxl,Jj w kl l _ _ hlh]}}
theorem ON {t:lP} (hu:P.underlying t=some (.slice el)) (hi:P.info? el=some i) (w:lJ) (ad:Option Addr) (len cap:Nat) (ev:lM->lK) (lo zq mx:Option lM) (l h m:Nat)
  (hb:(Instr.sliceBounds true len cap (lo.map ev) (zq.map ev) (mx.map ev)).run P w=.ok (l,h,m) w) :
  (Instr.sliceAt t (.slice ad len cap) (lo.map ev) (zq.map ev) (mx.map ev)).run P w=.ok (.slice (if m=l then ad else ad.map (·.add (l*i.size))) (h - l) (m - l)) w:=by
 simp[Instr.sliceAt,Instr.slice,run_underlying hu,hb,Ih hi]
theorem zr (hs:SR lp I L V a.tmps.toList ml w) (hf:Fr cx w0 I0 F0 O0 Hd R e ds I F L w) {t:lP} {hi mx:Option lM} (ho:o.op=.slice t x lo hi mx) {k sE:Nat} {r:RX} {rm:mh}
  (he:Gh cx.P t=some (k,sE,z)) (U:rx cx.G x=some r) (hl:yw cx.G lo=some rl) (hh:yw cx.G hi=some rh) (hm:yw cx.G mx=some rm)
  (h:exec (o.dst.getD 0) (Ac V.mi) V.tmps (.slice k r rl rh rm)=some out):Bh cx w0 I0 F0 O0 Hd R e ds F lp ml o a w (apply V o.dst out):=by
 obtain⟨el,i,zv,hu,zq,rK,_⟩:=MS he;have O:=Be hs hf.wd U;simp only[exec] at h;obtain⟨u,oC,rfl⟩:=ij.1 h;clear h
 have zt:∀ {len cap mA hA lA:Nat},len<=cap->DQ (Cz V.tmps rm) len len=some mA->DQ (Cz V.tmps rh) len mA=some hA->DQ (Cz V.tmps rl) 0 hA=some lA ->
   ((Cz V.tmps rm).isNone||(Cz V.tmps rh).isSome)=true ->
   ∃ m,(Instr.sliceBounds true len cap (lo.map a.eval) (hi.map a.eval) (mx.map a.eval)).run cx.P w=.ok (lA,hA,m) w/\m<=cap/\hA<=m/\lA<=hA/\hA<=len/\(rm=none->m=cap)/\(rm≠none->m=mA):=by
  intro len cap mA hA lA qT b1 b2 b3 b4;rcases Ki hs hf.wd hm b1 with ⟨e1,e2,e3⟩ | ⟨xm,km,rm',e1,e2,e3,e4⟩
  ·subst e1;subst e2;subst e3;rcases Ki hs hf.wd hh b2 with ⟨f1,f2,f3⟩ | ⟨xh,kh,rh',f1,f2,f3,f4⟩
   ·subst f1;subst f3;rcases Ki hs hf.wd hl b3 with ⟨g1,g2,g3⟩ | ⟨xl,kl,rl',g1,g2,g3,g4⟩
    {subst g1;subst g3;exact⟨cap,LH w true hA cap a.eval none none none 0 hA cap (.inl ⟨rfl,rfl⟩) (.inl ⟨rfl,rfl,rfl⟩) (.inl ⟨rfl,rfl⟩),ik _,qT,by omega,ik _,fun _=>rfl,fun h=>lH rfl h⟩};{subst g1;exact⟨cap,LH w true hA cap a.eval (some xl) none none lA hA cap (.inl ⟨rfl,rfl⟩) (.inl ⟨rfl,rfl,rfl⟩) (.inr ⟨xl,kl,rfl,g3,g4⟩),ik _,qT,g4,ik _,fun _=>rfl,fun h=>lH rfl h⟩}
   ·subst f1;rcases Ki hs hf.wd hl b3 with ⟨g1,g2,g3⟩ | ⟨xl,kl,rl',g1,g2,g3,g4⟩
    {subst g1;subst g3;exact⟨cap,LH w true mA cap a.eval none (some xh) none 0 hA cap (.inl ⟨rfl,rfl⟩) (.inr ⟨xh,kh,rfl,f3,by omega⟩) (.inl ⟨rfl,rfl⟩),ik _,by omega,by omega,f4,fun _=>rfl,fun h=>lH rfl h⟩};{subst g1;exact⟨cap,LH w true mA cap a.eval (some xl) (some xh) none lA hA cap (.inl ⟨rfl,rfl⟩) (.inr ⟨xh,kh,rfl,f3,by omega⟩) (.inr ⟨xl,kl,rfl,g3,g4⟩),ik _,by omega,g4,f4,fun _=>rfl,fun h=>lH rfl h⟩}
  ·subst e1;subst e2;rcases Ki hs hf.wd hh b2 with ⟨f1,f2,f3⟩ | ⟨xh,kh,rh',f1,f2,f3,f4⟩;{subst f2;simp[Cz] at b4}
   ·subst f1;rcases Ki hs hf.wd hl b3 with ⟨g1,g2,g3⟩ | ⟨xl,kl,rl',g1,g2,g3,g4⟩
    {subst g1;subst g3;exact⟨mA,LH w true len cap a.eval none (some xh) (some xm) 0 hA mA (.inr ⟨xm,km,rfl,e3,by omega⟩) (.inr ⟨xh,kh,rfl,f3,f4⟩) (.inl ⟨rfl,rfl⟩),by omega,f4,by omega,by omega,fun h=>(by cases h),fun _=>rfl⟩};{subst g1;exact⟨mA,LH w true len cap a.eval (some xl) (some xh) (some xm) lA hA mA (.inr ⟨xm,km,rfl,e3,by omega⟩) (.inr ⟨xh,kh,rfl,f3,f4⟩) (.inr ⟨xl,kl,rfl,g3,g4⟩),by omega,f4,g4,by omega,fun h=>(by cases h),fun _=>rfl⟩}
 have isn:(Cz V.tmps rm).isNone=rm.isNone:=by cases rm<;>rfl
 have iss:(Cz V.tmps rm).isSome=rm.isSome:=by cases rm<;>rfl
 unfold Hy at oC;split at oC
 ·rename_i k' Z full hr;rw[hr] at O;split at oC;·cases oC
  rename_i mA b1;split at oC;·cases oC
  rename_i hA b2;split at oC;·cases oC
  rename_i lA b3;obtain⟨hk,oU⟩:=AQ oC;clear oC;simp only[ie,ly] at hk;obtain⟨rfl,b4⟩:=hk;cases oU;rcases IE O with ⟨b,off,cap,c,E',fr,hv,g1,g2,g3,g4,g5,g6,g7,g8⟩ | ⟨rfl,ad,cap,hv,g6⟩
  ·obtain⟨m,ng,m1,m2,m3,m4,m5,m6⟩:=zt g5 b1 b2 b3 b4;have pS:=ON (P:=cx.P) hu zq w (some ⟨b,off,none⟩) Z.length cap a.eval lo hi mx lA hA m ng;rw[rK] at pS
   have hfull:(if (Cz V.tmps rm).isSome=true then mA==hA else full&&hA==Z.length)=true->m=hA:=by
    intro hq;rw[iss] at hq;cases hrm:rm with
    | none =>
     rw[hrm] at hq;simp only[kX,iq,lm,ie,ly] at hq;have:=m5 hrm;have:=g6 hq.1;omega
    | some y =>
     rw[hrm] at hq;simp only[Option.isSome_some,lq,ly] at hq;have:=m6 (by rw[hrm];simp);omega
   by_cases hlh:hA=lA
   ·have qL:(Z.take hA).drop lA=[]:=by rw[hlh];exact j7 (by simp;omega)
    refine Bo hs hf (v':=.slice (if m=lA then some ⟨b,off,none⟩ else (some (⟨b,off,none⟩:Addr)).map (·.add (lA*k))) (hA - lA) (m - lA)) (by simp[execOp,ho,hv,pS]) (.refl w) ?_;rw[qL,show hA - lA=0 from by omega];exact .qR k _ _ _ fun hq=>by have:=hfull hq;omega
   ·have yx:¬ m=lA:=by omega
    refine Bo hs hf (v':=.slice (some ⟨b,off+lA*k,none⟩) (hA - lA) (m - lA)) (by simp[execOp,ho,hv,pS,yx,Jr]) (.refl w) ?_;have hlen:((Z.take hA).drop lA).length=hA - lA:=by simp;omega
    have hmul:hA*k<=Z.length*k:=je _ m4;have ze:hA*k=lA*k+(hA - lA)*k:=by rw[<-iL];congr 1;omega
    have o6:∀ y∈(Z.take hA).drop lA,y.cells.length=k:=fun y hy=>g4 y (ja (jH hy));have e1:((((c.toList.drop off).take (Z.length*k)).take (hA*k)).drop (lA*k))=(c.toList.drop (off+lA*k)).take ((hA - lA)*k):=by rw[jg,jf hmul,jI,j0,show hA*k - lA*k=(hA - lA)*k from by omega]
    have:=Am.sl (w:=w) (I:=I) (lp:=lp) (L:=some L) k ((Z.take hA).drop lA) (if (Cz V.tmps rm).isSome=true then mA==hA else full&&hA==Z.length) b (off+lA*k) (m - lA) c E' fr g1 g2
     (by rw[hlen];omega) o6 (by rw[hlen];omega) (fun hq=>by rw[hlen];have:=hfull hq;omega) (by rw[hlen,<-e1];exact (g7.pQ _).p6 _)
     (by rw[hlen,<-e1,MT (fun y hy=>g4 y (ja hy)),Ke g4];exact (g8.take _).drop _)
    rwa [hlen] at this
  ·obtain⟨m,ng,m1,m2,m3,m4,m5,m6⟩:=zt (len:=0) (cap:=cap) (by omega) b1 b2 b3 b4;have pS:=ON (P:=cx.P) hu zq w ad 0 cap a.eval lo hi mx lA hA m ng;have hA0:hA=0:=by simpa using m4
   have rG:lA=0:=by omega
   refine Bo hs hf (v':=.slice (if m=lA then ad else ad.map (·.add (lA*i.size))) (hA - lA) (m - lA)) (by simp[execOp,ho,hv,pS]) (.refl w) ?_;subst hA0;subst rG;have qL:((([]:lS).take 0).drop 0)=[]:=rfl;rw[qL];refine .qR k _ _ _ fun hq=>?_;rw[iss] at hq;cases hrm:rm with
   | none =>
    rw[hrm] at hq;simp only[kX,iq,lm,ie] at hq;have:=m5 hrm;have:=g6 hq.1;omega
   | some y =>
    rw[hrm] at hq;simp only[Option.isSome_some,lq,ly] at hq;have:=m6 (by rw[hrm];simp);omega
 ·rename_i J k' off n hr;rw[hr] at O;split at oC;·cases oC
  rename_i mA b1;split at oC;·cases oC
  rename_i hA b2;split at oC;·cases oC
  rename_i lA b3;obtain⟨hk,oU⟩:=AQ oC;clear oC;simp only[ie,ly] at hk;obtain⟨rfl,b4⟩:=hk;cases oU;rcases G5 O with ⟨b,C,cap,hL,hv,hC,hn⟩ | ⟨hL,hv,rfl,rfl⟩
  ·obtain⟨m,ng,m1,m2,m3,m4,m5,m6⟩:=zt hn b1 b2 b3 b4;have pS:=ON (P:=cx.P) hu zq w (some ⟨b,off*k,none⟩) n cap a.eval lo hi mx lA hA m ng;rw[rK] at pS;refine Bo hs hf (v':=.slice (if m=lA then some ⟨b,off*k,none⟩ else (some (⟨b,off*k,none⟩:Addr)).map (·.add (lA*k))) (hA - lA) (m - lA)) (by simp[execOp,ho,hv,pS]) (.refl w) ?_;split;{rename_i hz;rw[show hA - lA=0 from by omega];exact .qR k false _ _ (by simp)}
   ·rename_i hz;have hCm:(off+lA+(m - lA))*k<=C:=kq (je _ (by omega)) hC;have key:=Am.arr (w:=w) (I:=I) (lp:=lp) J k (off+lA) (hA - lA) (m - lA) b C hL hCm (by omega);by_cases yx:m=lA
    ·have rG:lA=0:=by omega
     subst rG;simpa[yx] using key
    {simpa[yx,Jr,iL] using key}
  ·obtain⟨m,ng,m1,m2,m3,m4,m5,m6⟩:=zt (len:=0) (cap:=0) (by omega) b1 b2 b3 b4;have pS:=ON (P:=cx.P) hu zq w none 0 0 a.eval lo hi mx lA hA m ng;have hA0:hA=0:=by omega
   have rG:lA=0:=by omega
   have zu:m=0:=by omega
   subst hA0;subst rG;subst zu;refine Bo hs hf (v':=.slice none 0 0) (by simp[execOp,ho,hv,pS]) (.refl w) ?_;simpa using Am.oz J k hL
 ·rename_i hr;rw[hr] at O;split at oC;·cases oC
  rename_i mA b1;split at oC;·cases oC
  rename_i hA b2;split at oC;·cases oC
  rename_i lA b3;obtain⟨b4,oC⟩:=AQ oC;cases oC;obtain⟨m,ng,m1,m2,m3,m4,m5,m6⟩:=zt (len:=0) (cap:=0) (by omega) b1 b2 b3 b4;have pS:=ON (P:=cx.P) hu zq w none 0 0 a.eval lo hi mx lA hA m ng;have hA0:hA=0:=by omega
  have rG:lA=0:=by omega
  have zu:m=0:=by omega
  subst hA0;subst rG;subst zu;exact Bo hs hf (v':=.slice none 0 0) (by simp[execOp,ho,GF O,pS]) (.refl w) .mu
 {cases oC}
theorem eg (hs:SR lp I L V a.tmps.toList ml w) (hf:Fr cx w0 I0 F0 O0 Hd R e ds I F L w) {t:lP} {hi:Option lM} (ho:o.op=.slice t x lo hi none) {r:RX} 
  (hu:cx.P.underlying t=some .string) (U:rx cx.G x=some r) (hl:yw cx.G lo=some rl) (hh:yw cx.G hi=some rh)
  (h:exec (o.dst.getD 0) (Ac V.mi) V.tmps (.nB r rl rh)=some out):Bh cx w0 I0 F0 O0 Hd R e ds F lp ml o a w (apply V o.dst out):=by
 have O:=Be hs hf.wd U;simp only[exec] at h;split at h
 case h_2=>cases h
 rename_i s hr;rw[hr] at O;split at h;·cases h
 rename_i hA b2;split at h;·cases h
 rename_i lA b3;cases h;have hb:(Instr.sliceBounds false s.length s.length (lo.map a.eval) (hi.map a.eval) none).run cx.P w=.ok (lA,hA,s.length) w:=by refine LH w false s.length s.length a.eval lo hi none lA hA s.length (.inl ⟨rfl,rfl⟩) ?_ ?_;{rcases Ki hs hf.wd hh b2 with ⟨f1,f2,f3⟩ | ⟨xh,kh,rh',f1,f2,f3,f4⟩;{exact .inl ⟨f1,rfl,f3⟩};{exact .inr ⟨xh,kh,f1,f3,f4⟩}};{rcases Ki hs hf.wd hl b3 with ⟨f1,f2,f3⟩ | ⟨xh,kh,rh',f1,f2,f3,f4⟩;{exact .inl ⟨f1,f3⟩};{exact .inr ⟨xh,kh,f1,f3,f4⟩}}
 have oL:(⟨s.toArray⟩:ByteArray).size=s.length:=by simp[ByteArray.size]
 refine Bo hs hf (v':=.string ⟨((s.take hA).drop lA).toArray⟩) ?_ (.refl w) (.str _);simp[execOp,ho,Cu O,Instr.sliceAt,Instr.slice,run_underlying hu,oL,hb,ByteArray.extract_mk,jI]
end ops
end Go.Ab


namespace Go.Ab
variable{P:lO} {ats:Array lP} {base:Option Addr} {c:Array lK} {cap k kt m sCap sLen size:Nat} {d du:lR} {el ty u:lP} {fr:Nat×Nat} {i:TypeInfo} {olds:List lK} {v zv:lK} {w':lJ} {x z:PV} {ys:lS}
structure Src (P:lO) (w:lJ) (I:Nat->Prop) (lp:Nat->lT) (size:Nat) (x:lK) (ys:lS) (news:List lK):Prop where
 len:Builtin.lenOf x=pure ys.length
 first:∀ n,n<=ys.length->∀ w':lJ,w'.heap=w.heap->(Builtin.firstCells size n x).run P w'=.ok (news.take (n*size)).toArray w'
 rN:news.length=ys.length*size
 one:A6 news
 rep:Ai w I lp none (mr ys) news
 each:∀ y∈ys,y.cells.length=size
theorem Rj {w:lJ} {b off N:Nat} {E:lP} (hb:w.heap[b]?=some (.cells c E fr)) (hle:off+N<=c.size) {n len:Nat} (hn:n*size<=N) (hw:w'.heap=w.heap) :
  (Builtin.firstCells size n (.slice (some ⟨b,off,none⟩) len cap)).run P w'=.ok (((c.toList.drop off).take N).take (n*size)).toArray w':=by
 have hl:(((c.toList.drop off).take N).take (n*size)).length=n*size:=by simp;omega
 refine run_firstCells_some w' size n ⟨b,off,none⟩ len cap _ hl ?_;intro j v hj;have hjn:j < n*size:=by have:=(ix.1 hj).1;omega
 rw[Jr,Pn (by rw[hw];exact hb)];rw[jg,j4 (by omega),ku] at hj;simpa using hj
theorem T1 {len:Nat}:(Builtin.firstCells size 0 (.slice none len cap)).run P w'=.ok #[] w':=by simp[Builtin.firstCells]
theorem Q1 {a:Option Addr} {len:Nat}:(Builtin.firstCells size 0 (.slice a len cap)).run P w'=.ok #[] w':=by
 cases a with
 | none=>exact T1
 | some a =>
  have:=run_firstCells_some (P:=P) w' size 0 a len cap [] (by simp) (by simp);simpa using this
theorem WJ {w:lJ} {I:Nat->Prop} {lp:Nat->lT} (s:l4):Ai w I lp none (mr (Cm s)) (s.map fun b=>Value.int .u8 (b.toNat:Int)):=by
 induction s with
 | nil=>exact .nil
 | cons b s ih=>exact .cons _ _ _ _ (.int .u8 _) ih
theorem kt_old {E:Nat} (h:kt=0\/E=kt) (el:Nat):(if kt=el then el else 0)=0\/E=(if kt=el then el else 0):=by by_cases H:kt=el;{rw[lu H,<-H];exact h};{rw[lr H];exact .inl rfl}
theorem zw (kt el:Nat):(if kt=el then el else 0)=0\/el=(if kt=el then el else 0):=by by_cases H:kt=el;{rw[lu H];exact .inr rfl};{rw[lr H];exact .inl rfl}
section ops
variable {E:Type} {cx:Cx} {w0:lJ} {I0 F0:Nat->Prop} {O0:BE} {Hd:Nat->Option Obj} {R:Bs E} {e:E} {ds:List lQ} {F:Nat->Prop} {lp:Nat->lT} {ml:List lK}
variable {I:Nat->Prop} {L:As} {V:St} {a:Act} {w:lJ} {o:Oper} {out:Al} {r9:An}
theorem Y8 (P:lO) (hs:SR lp I L V a.tmps.toList ml w) (O:Am w I lp (some L) x v) (h:DD (Ac V.mi) k x=some ys) :
  ∃ news,Src P w I lp k v ys news:=by
 unfold DD at h;split at h
 ·obtain⟨hk,H⟩:=AQ h;cases H;have hk:=beq_iff_eq.1 hk;subst hk;rcases IE O with ⟨b,off,cap,c,E',fr,rfl,g1,g2,g3,g4,g5,g6,g7,g8⟩ | ⟨rfl,ad,cap,rfl,_⟩;{exact⟨_,rfl,fun n hn w' hw=>Rj g2 g3 (je _ hn) hw,by simp;omega,g7,g8,g4⟩}
  ·refine⟨[],rfl,fun n hn w' _=>?_,by simp,by simp[A6],.nil,by simp⟩;have:n=0:=by simpa using hn
   subst this;simpa using Q1 (P:=P) (w':=w')
 ·rename_i J k' off n;split at h
  case h_2=>cases h
  rename_i qg kt Z nq;obtain⟨hk,H⟩:=AQ h;cases H;simp only[ie,ly,lw] at hk;obtain⟨⟨rfl,rfl⟩,hle⟩:=hk;obtain⟨p,hp,ha⟩:=hs.ob J _ nq;rcases G5 O with ⟨b,C,cap,hL,rfl,hC,hn⟩ | ⟨hL,rfl,rfl,rfl⟩
  ·rw[hL] at hp;cases hp;obtain⟨c,E',hb,hC',n6,qe,nk,mG⟩:=ha;have hlen:((Z.drop off).take n).length=n:=by simp;omega
   have hmul:(off+n)*k<=Z.length*k:=je _ hle;rw[iL] at hmul;have e1:((c.toList.take (Z.length*k)).drop (off*k)).take (n*k)=(c.toList.drop (off*k)).take (n*k):=by rw[jI,jg,jf (by omega)]
   refine⟨(c.toList.drop (off*k)).take (n*k),by rw[hlen];rfl,fun m hm w' hw=>?_,by rw[hlen];simp;omega,?_,?_,?_⟩;{rw[hlen] at hm;exact Rj hb (by omega) (je _ hm) hw};{rw[<-e1];exact (nk.p6 _).pQ _}
   ·have:=(mG.drop (off*k)).take (n*k)
    rwa [<-MT qe,<-Ke (fun x O=>qe x (jH O)),e1] at this
   {exact fun y hy=>qe y (jH (ja hy))}
  ·refine⟨[],rfl,fun n hn w' _=>?_,by simp,by simp[A6],by rw[List.take_zero];exact .nil,by simp⟩;have:n=0:=by simpa using hn
   subst this;simpa using Q1 (P:=P) (w':=w')
 ·cases h;rw[GF O];refine⟨[],rfl,fun n hn w' _=>?_,by simp,by simp[A6],.nil,by simp⟩;have:n=0:=by simpa using hn
  subst this;simpa using Q1 (P:=P) (w':=w')
 {rename_i s;obtain⟨hk,H⟩:=AQ h;cases H;have hk:=beq_iff_eq.1 hk;subst hk;rw[Cu O];refine⟨s.map fun b=>Value.int .u8 (b.toNat:Int),by simp[Builtin.lenOf,Cm,ByteArray.size],fun n hn w' _=>?_,by simp[Cm],?_,WJ s,?_⟩;{simp[Builtin.firstCells,ByteArray.extract_mk]};{intro v hv;obtain⟨b,_,rfl⟩:=ii.1 hv;rfl};{intro y hy;obtain⟨b,_,rfl⟩:=ii.1 hy;rfl}};{cases h}
theorem QC {w:lJ} {t:lP} (a0:ats[0]?=some t) (a1:ats[1]?=some u) (hu:P.underlying t=some (.slice el)) (hi:P.info? el=some i) (hz:i.zero=some zv)
  (oU:P.underlying u=some d) (hd:d=.string\/∃ e',d=.slice e') (hold:∀ w':lJ,w'.heap=w.heap->(Builtin.firstCells i.size sLen (.slice base sLen sCap)).run P w'=.ok olds.toArray w')
  {x:lK} {news:List lK} (hl:Builtin.lenOf x=pure m) (nP:∀ w':lJ,w'.heap=w.heap->(Builtin.firstCells i.size m x).run P w'=.ok news.toArray w')
  (hg:sCap < sLen+m) (hle:sLen+m<=EH) (hb:i.bytes<=65536) :
  (Builtin.append_ ats ty #[.slice base sLen sCap,x]).run P w=.ok (.slice (some ⟨w.heap.size,0,none⟩) (sLen+m) (grownCap w (sLen+m) sCap el))
   (w.drew.alloc (.cells (olds.toArray++news.toArray++Builtin.zeroCells zv.cells (grownCap w (sLen+m) sCap el - (sLen+m))) el)):=by
 have hn:¬ (sLen+m<=sCap):=by omega
 unfold EH at hle;have h63':¬ (9223372036854775807 < ((sLen:Int)+(m:Int))):=by omega
 have hmul:(sLen+m)*i.bytes<=140737488355328:=calc (sLen+m)*i.bytes<=2147483648*65536:=Nat.mul_le_mul hle hb
  _=140737488355328:=by decide
 have qM:=growslice_fits hg hmul;have h48':¬ (281474976710656 < Builtin.nextslicecap (sLen+m) sCap*i.bytes):=by omega
 have hf:=nP w.drew rfl;have ui:=hold w.drew rfl;rcases hd with rfl | ⟨e',rfl⟩
 {simp[Builtin.append_,a0,a1,run_underlying hu,run_underlying oU,sizeOf,typeInfo,zeroValue,hi,hz,hl,hn,h63',h48',Question.forced,hf,ui,newRow,grownCap];congr 2;exact Array.ext' (by simp[iX])};{simp[Builtin.append_,a0,a1,run_underlying hu,run_underlying oU,sizeOf,typeInfo,zeroValue,hi,hz,hl,hn,h63',h48',Question.forced,hf,ui,newRow,grownCap];congr 2;exact Array.ext' (by simp[iX])}
theorem QA {w:lJ} {t:lP} (a0:ats[0]?=some t) (a1:ats[1]?=some u) (hu:P.underlying t=some (.slice el)) (hi:P.info? el=some i)
  (oU:P.underlying u=some d) (hd:d=.string\/∃ e',d=.slice e') 
  {x:lK} {news:List lK} (hl:Builtin.lenOf x=pure m) (nP:(Builtin.firstCells i.size m x).run P w=.ok news.toArray w)
  (hn:sLen+m<=sCap) (nK:(match base with | some a=>storeCells (a.add (sLen*i.size)) news | none=>pure ()).run P w=.ok () w') :
  (Builtin.append_ ats ty #[.slice base sLen sCap,x]).run P w=.ok (.slice base (sLen+m) sCap) w':=by
 cases base with
 | none =>
  have nK:w=w':=by simpa using nK
  subst nK;rcases hd with rfl | ⟨e',rfl⟩<;>simp[Builtin.append_,a0,a1,run_underlying hu,run_underlying oU,sizeOf,typeInfo,hi,hl,hn,nP]
 | some a =>
  simp only at nK;rcases hd with rfl | ⟨e',rfl⟩<;>simp[Builtin.append_,a0,a1,run_underlying hu,run_underlying oU,sizeOf,typeInfo,hi,hl,hn,nP,nK]
theorem gW (hs:SR lp I L V a.tmps.toList ml w) (hf:Fr cx w0 I0 F0 O0 Hd R e ds I F L w) {d:Nat} (hd:o.dst=some d) (hc:V.mi[d]?=some []) 
  (hr:(execOp a.eval o).run cx.P w=.ok (.value (.slice none 0 0)) w) :
  Bh cx w0 I0 F0 O0 Hd R e ds F lp ml o a w (apply V o.dst {v:=.arr (d,0) k 0 0,new:=[.arr k kt []]}):=by
 have hn:=hs.news hc [.arr k kt []] [none] rfl (by
  intro j ob p U H;cases j with
  | zero=>simp at U H;subst U;subst H;exact⟨k,_,rfl⟩
  | succ j=>simp at U)
 refine⟨.slice none 0 0,w,I,Ck L d [none],.inl hr,?_,?_⟩;{rw[Ik,hd];exact hn.put d (.oz _ k (by simp[Ck]))}
 ·refine Fr.news hf hc rfl rfl rfl (ik _) (fun _ _=>rfl) ?_ ?_
  ·intro j b C hj;cases j with
   | zero=>simp at hj
   | succ j=>simp at hj
  ·intro j j' b C C' U _;cases j with
   | zero=>simp at U
   | succ j=>simp at U
theorem Ri {w:lJ} {I:Nat->Prop} {lp:Nat->lT} {Z:lS} {news:List lK} {zs:Array lK} (U:Ai w I lp none (mr Z) olds) (H:Ai w I lp none (mr ys) news)
  (o1:A6 olds) (o2:A6 news) (k1:∀ x∈Z,x.cells.length=k) (k2:∀ x∈ys,x.cells.length=k) :
  (∀ x∈Z++ys,x.cells.length=k)/\A6 (((olds.toArray++news.toArray++zs).toList).take ((Z++ys).length*k))/\Ai w I lp none (mr (Z++ys)) (((olds.toArray++news.toArray++zs).toList).take ((Z++ys).length*k)):=by
 have l1:=U.length;have l2:=H.length;rw[LJ k1] at l1;rw[LJ k2] at l2;have e:((olds.toArray++news.toArray++zs).toList).take ((Z++ys).length*k)=olds++news:=by simp only[Array.toList_append];rw[kO (by simp[iL];omega),jb (by simp[iL];omega)]
 rw[e,LK];refine⟨fun x O=>(iH.1 O).elim (k1 x) (k2 x),o1.pK o2,U.append H⟩
theorem YE (hs:SR lp I L V a.tmps.toList ml w) (hf:Fr cx w0 I0 F0 O0 Hd R e ds I F L w) {c:Call} (ho:o.op=.call c) {x y:lM} (nv:c.callee=.builtin .append) (a0:c.argTypes[0]?=some ty) (a1:c.argTypes[1]?=some u) (qN:c.args=#[x,y])
  {sE:Nat} {r1 r2:RX} (he:Gh cx.P ty=some (k,sE,z)) (qS:cx.P.underlying ty=some (.slice el)) (oU:cx.P.underlying u=some du) (hdu:du=.string\/∃ e',du=.slice e')
  (U:rx cx.G x=some r1) (H:rx cx.G y=some r2) {d:Nat} (hd:o.dst=some d) (oi:V.mi[d]?=some [])
  (h:exec (o.dst.getD 0) (Ac V.mi) V.tmps (.append k el r1 r2)=some out):Bh cx w0 I0 F0 O0 Hd R e ds F lp ml o a w (apply V o.dst out):=by
 obtain⟨el',i,zv,hu,hi,rK,hby,hb6,hz,hzk,hzv,hzn,vp⟩:=MS he;rw[hu] at qS;cases qS;have O:=Be hs hf.wd U;have hy:=Be hs hf.wd H;have ng:∀ {v' w'},(Builtin.append_ c.argTypes o.type #[a.eval x,a.eval y]).run cx.P w=.ok v' w'->(execOp a.eval o).run cx.P w=.ok (.value v') w':=by intro v' w' hr;simp[execOp,ho,resolve,nv,qN,invoke,builtin,hr]
 simp only[exec,hd,iT] at h;split at h;·cases h
 rename_i ys qI;obtain⟨news,np⟩:=Y8 cx.P hs hy qI;have nP:∀ w':lJ,w'.heap=w.heap->(Builtin.firstCells i.size ys.length (a.eval y)).run cx.P w'=.ok news.toArray w':=fun w' hw=>by have:=np.first ys.length (ik _) w' hw;rw[jb (by rw[np.rN];exact ik _)] at this;rw[rK];exact this
 have hkm:∀ w':lJ,(∀ b,I b->w'.heap[b]?=w.heap[b]?)->Ai w' I lp none (mr ys) news:=fun w' hw=>Ai.mono (fun _ h=>h) hw (fun _ _ h=>h) np.rep;split at h
 ·rename_i hr;rw[hr] at O;have qw:=GF O;obtain⟨hk,h⟩:=AQ h;cases h;have hk:=lI hk;by_cases hy0:ys=[]
  ·subst hy0;have hn0:news=[]:=by have:=np.rN;simpa using this
   have p8:=QA (P:=cx.P) (w:=w) (ty:=o.type) a0 a1 hu hi oU hdu (base:=none) (sLen:=0) (sCap:=0) np.len (nP w rfl) (by simp) (w':=w) rfl;have:=gW hs hf hd oi (k:=k) (kt:=el) (ng (by rw[qw];exact p8));simpa[hd] using this
  ·have zx:0 < ys.length:=kG.2 hy0;have p8:=QC (P:=cx.P) (w:=w) (ty:=o.type) a0 a1 hu hi hz oU hdu (base:=none) (sLen:=0) (sCap:=0) (olds:=[]) (fun w' _=>T1) np.len nP (by omega) (by omega) (by omega);simp only[iO] at p8;have qx:=grownCap_ge w ys.length 0 el;obtain⟨k3,o3,r3⟩:=Ri (w:=w) (I:=I) (lp:=lp) (Z:=[]) (olds:=[]) (zs:=Builtin.zeroCells zv.cells (grownCap w ys.length 0 el - ys.length)) .nil np.rep (by simp[A6]) np.one (by simp) np.each;simp only[jz] at k3 o3 r3
   have:=O5 hs hf hd oi (k:=k) (kt:=el) (Z:=ys) (t:=el) (.inr rfl) (cap:=grownCap w ys.length 0 el) (w1:=w.drew) ⟨rfl,rfl,rfl,rfl⟩ qx (by
     simp only[kH,kY,size_zeroCells,np.rN,jq]
     have hzs:zv.cells.size=k:=by have:=((vp w I lp none).cells hzv).2.length;simp at this;omega
     rw[hzs,iO,<-iL,kZ qx];exact ik _) k3 o3 r3 (ng (by rw[qw];exact p8))
   simpa[hd] using this
 ·rename_i J k' off n hr;rw[hr] at O;split at h
  case h_2=>cases h
  rename_i qg kt Z nq;obtain⟨hk,h⟩:=AQ h;cases h;simp only[ie,ly,lw] at hk;obtain⟨⟨⟨⟨rfl,rfl⟩,rfl⟩,hnx⟩,zy⟩:=hk;obtain⟨p,hp,ha⟩:=hs.ob J _ nq;have hzs:zv.cells.size=k:=by have:=((vp w I lp none).cells hzv).2.length;simp at this;omega
  have hold:∀ (b C cap:Nat),L J=some (some (b,C))->(0+cap)*k<=C->n<=cap->∃ c E',w.heap[b]?=some (.cells c E' (0,0))/\c.size=C/\(n*k<=c.size/\(kt=0\/E'=kt))/\A6 (c.toList.take (n*k))/\Ai w I lp none (mr (Z.take n)) (c.toList.take (n*k))/\(∀ x∈Z.take n,x.cells.length=k):=by
   intro b C cap hL hC hn;rw[hL] at hp;cases hp;obtain⟨c,E',hb,hC',n6,qe,nk,mG⟩:=ha;have hmul:n*k<=Z.length*k:=je _ hnx;have e1:(c.toList.take (Z.length*k)).take (n*k)=c.toList.take (n*k):=by rw[jg,jf hmul]
   refine⟨c,E',hb,hC',⟨by omega,n6.2⟩,?_,?_,fun x O=>qe x (ja O)⟩;{rw[<-e1];exact nk.pQ _};{rw[Ke qe,<-e1];exact mG.take _}
  have htl:(Z.take n).length=n:=by simp;omega
  rcases G5 O with ⟨b,C,cap,hL,hv,hC,hn⟩ | ⟨hL,hv,_,rfl⟩
  ·obtain⟨c,E',hb,hcC,⟨hnk,hkt⟩,nk,mG,uQ⟩:=hold b C cap hL hC hn;rw[Nat.zero_mul] at hv;by_cases qM:n+ys.length<=cap
   ·
    have hfk:(n+ys.length)*k<=cap*k:=je _ qM;rw[iL] at hfk;rw[iO] at hC;have nK:=run_storeCells_at cx.P b (n*k) E' news 0 c w hb (by rw[np.rN];omega) np.one;simp only[Nat.add_zero] at nK
    have p8:=QA (P:=cx.P) (w:=w) (ty:=o.type) a0 a1 hu hi oU hdu (base:=some ⟨b,0,none⟩) (sLen:=n) (sCap:=cap) np.len (nP w rfl) qM
     (w':=w.setRow b (c.toList.take (n*k)++news++c.toList.drop (n*k+news.length)).toArray) (by simp only[Jr,rK,iO];exact nK)
    have uR:∀ b',I b'->(w.setRow b (c.toList.take (n*k)++news++c.toList.drop (n*k+news.length)).toArray).heap[b']?=w.heap[b']?:=fun b' oT=>J9 w b _ fun e=>(hf.lB J b C hL).2.2.1 (e ▸ oT);have hln:=np.rN
    have e2:(c.toList.take (n*k)++news++c.toList.drop (n*k+news.length)).take ((Z.take n++ys).length*k)=c.toList.take (n*k)++news:=by
     have mL:(c.toList.take (n*k)++news).length=(Z.take n++ys).length*k:=by rw[iQ,iQ,htl,iL,j5,jQ];omega
     rw[kO (by rw[mL];exact ik _),jb (by rw[mL];exact ik _)]
    refine Rm hs hf hL (w':=w.setRow b (c.toList.take (n*k)++news++c.toList.drop (n*k+news.length)).toArray) (p':=some (b,C)) (v':=.slice (some ⟨b,0,none⟩) (n+ys.length) cap) (k:=k) (kt:=if kt=el then el else 0) (Z:=Z.take n++ys) (ng (by rw[hv];exact p8)) rfl rfl rfl (by simp) (fun b' _ mP=>J9 w b _ fun e=>mP C (by rw[e]))
     (fun b' C' e=>by cases e;exact⟨by simpa using (hf.lB J b C hL).2.1,.inr ⟨C,rfl⟩⟩) (fun L'=>?_) (fun L' tD=>?_)
    {refine⟨_,E',setRow_heap w b c _ E' _ hb,by simp;omega,⟨by simp[htl,iL];omega,kt_old hkt el⟩,fun x O=>(iH.1 O).elim (uQ x) (np.each x),?_,?_⟩;{simp only[e2];exact nk.pK np.one};{simp only[e2,LK];exact (Ai.mono (fun _ h=>h) uR (fun _ _ h=>h) mG).append (hkm _ uR)}};{have:=Am.arr (w:=w.setRow b (c.toList.take (n*k)++news++c.toList.drop (n*k+news.length)).toArray) (I:=I) (lp:=lp) J k 0 (n+ys.length) cap b C tD (by rw[iO];exact hC) qM;simpa using this}
   ·
    have p8:=QC (P:=cx.P) (w:=w) (ty:=o.type) a0 a1 hu hi hz oU hdu (base:=some ⟨b,0,none⟩) (sLen:=n) (sCap:=cap) (olds:=c.toList.take (n*k)) (fun w' hw=>by have:=Rj (P:=cx.P) (size:=i.size) (n:=n) (len:=n) (cap:=cap) (off:=0) (N:=n*k) hb (by omega) (by rw[rK];exact ik _) hw;simpa[rK,jg] using this) np.len nP (by omega) zy (by omega);have qx:=grownCap_ge w (n+ys.length) cap el;obtain⟨k3,o3,r3⟩:=Ri (w:=w) (I:=I) (lp:=lp) (zs:=Builtin.zeroCells zv.cells (grownCap w (n+ys.length) cap el - (n+ys.length))) mG np.rep nk np.one uQ np.each;have hnk':(c.toList.take (n*k)).length=n*k:=by simp;omega
    have rO:((c.toList.take (n*k)).toArray++news.toArray++Builtin.zeroCells zv.cells (grownCap w (n+ys.length) cap el - (n+ys.length))).size=grownCap w (n+ys.length) cap el*k:=by simp only[kH,kY,size_zeroCells,np.rN,hnk',hzs];rw[<-iL,<-iL,kZ qx]
    generalize ((c.toList.take (n*k)).toArray++news.toArray++Builtin.zeroCells zv.cells (grownCap w (n+ys.length) cap el - (n+ys.length)))=row at *;have yy:∀ b',b' < w.heap.size->(w.drew.alloc (.cells row el)).heap[b']?=w.heap[b']?:=fun b' oT=>by rw[mv w.drew _ oT];rfl
    refine Rm hs hf hL (w':=w.drew.alloc (.cells row el)) (p':=some (w.heap.size,row.size)) (v':=.slice (some ⟨w.heap.size,0,none⟩) (n+ys.length) (grownCap w (n+ys.length) cap el)) (k:=k) (kt:=if kt=el then el else 0) (Z:=Z.take n++ys) (ng (by rw[hv];exact p8))
     rfl rfl rfl (by simp) (fun b' oT _=>yy b' oT) (fun b' C' e=>by cases e;exact⟨by simp,.inl (ik _)⟩) (fun L'=>?_) (fun L' tD=>?_)
    {refine⟨row,el,LI w.drew _,rfl,⟨?_,zw kt el⟩,k3,o3,Ai.mono (fun _ h=>h) (fun b' oT=>yy b' (hf.sep.iB b' oT)) (fun _ _ h=>h) r3⟩;rw[rO,iQ,htl];exact je _ qx};{have:=Am.arr (w:=w.drew.alloc (.cells row el)) (I:=I) (lp:=lp) J k 0 (n+ys.length) (grownCap w (n+ys.length) cap el) w.heap.size row.size tD (by rw[rO];simp) qx;simpa using this}
  ·
   by_cases hy0:ys=[]
   ·subst hy0;have hn0:news=[]:=by have:=np.rN;simpa using this
    have p8:=QA (P:=cx.P) (w:=w) (ty:=o.type) a0 a1 hu hi oU hdu (base:=none) (sLen:=0) (sCap:=0) np.len (nP w rfl) (by simp) (w':=w) rfl;exact Rm hs hf hL (p':=none) (v':=.slice none 0 0) (k:=k) (kt:=if kt=el then el else 0) (Z:=Z.take 0++[]) (ng (by rw[hv];exact p8)) rfl rfl rfl (ik _) (fun _ _ _=>rfl) (fun b C e=>by cases e) (fun L'=>⟨k,if kt=el then el else 0,by simp⟩) (fun L' tD=>.oz J k tD)
   ·have zx:0 < ys.length:=kG.2 hy0;have p8:=QC (P:=cx.P) (w:=w) (ty:=o.type) a0 a1 hu hi hz oU hdu (base:=none) (sLen:=0) (sCap:=0) (olds:=[]) (fun w' _=>T1) np.len nP (by omega) (by omega) (by omega);simp only[iO] at p8;have qx:=grownCap_ge w ys.length 0 el;obtain⟨k3,o3,r3⟩:=Ri (w:=w) (I:=I) (lp:=lp) (Z:=[]) (olds:=[]) (zs:=Builtin.zeroCells zv.cells (grownCap w ys.length 0 el - ys.length)) .nil np.rep (by simp[A6]) np.one (by simp) np.each;simp only[jz] at k3 o3 r3;have rO:((#[]:Array lK)++news.toArray++Builtin.zeroCells zv.cells (grownCap w ys.length 0 el - ys.length)).size=grownCap w ys.length 0 el*k:=by simp only[kH,kY,size_zeroCells,np.rN,hzs];rw[jq,iO,<-iL,kZ qx]
    generalize ((#[]:Array lK)++news.toArray++Builtin.zeroCells zv.cells (grownCap w ys.length 0 el - ys.length))=row at *;have yy:∀ b',b' < w.heap.size->(w.drew.alloc (.cells row el)).heap[b']?=w.heap[b']?:=fun b' oT=>by rw[mv w.drew _ oT];rfl
    have e0:Z.take 0++ys=ys:=by simp
    rw[e0,iO]
    refine Rm hs hf hL (w':=w.drew.alloc (.cells row el)) (p':=some (w.heap.size,row.size)) (v':=.slice (some ⟨w.heap.size,0,none⟩) ys.length (grownCap w ys.length 0 el)) (k:=k) (kt:=if kt=el then el else 0) (Z:=ys) (ng (by rw[hv];exact p8))
     rfl rfl rfl (by simp) (fun b' oT _=>yy b' oT) (fun b' C' e=>by cases e;exact⟨by simp,.inl (ik _)⟩) (fun L'=>?_) (fun L' tD=>?_)
    {refine⟨row,el,LI w.drew _,rfl,⟨?_,zw kt el⟩,k3,o3,Ai.mono (fun _ h=>h) (fun b' oT=>yy b' (hf.sep.iB b' oT)) (fun _ _ h=>h) r3⟩;rw[rO];exact je _ qx};{have:=Am.arr (w:=w.drew.alloc (.cells row el)) (I:=I) (lp:=lp) J k 0 ys.length (grownCap w ys.length 0 el) w.heap.size row.size tD (by rw[rO];simp) qx;simpa using this}
 ·rename_i k' Z hr;rw[hr] at O;split at h
  ·obtain⟨hk,h⟩:=AQ h;cases h;have hk:=beq_iff_eq.1 hk;subst hk;have hn0:news=[]:=by have:=np.rN;simpa using this
   subst hn0
   obtain⟨base,hv⟩:∃ base,a.eval x=.slice base Z.length Z.length:=by
    rcases IE O with ⟨b,off,cap,c,E',fr,hv,g1,g2,g3,g4,g5,g6,g7,g8⟩ | ⟨rfl,ad,cap,hv,g6⟩
    {have:=g6 rfl;subst this;exact⟨_,hv⟩};{have:=g6 rfl;subst this;exact⟨_,hv⟩}
   have nK:(match base with | some a=>storeCells (a.add (Z.length*i.size)) [] | none=>pure ()).run cx.P w=.ok () w:=by cases base<;>simp[storeCells]
   have p8:=QA (P:=cx.P) (w:=w) (ty:=o.type) a0 a1 hu hi oU hdu (base:=base) (sLen:=Z.length) (sCap:=Z.length) np.len (nP w rfl) (by simp) (w':=w) nK;exact Bo hs hf (ng (by rw[hv];exact p8)) ⟨rfl,rfl,rfl,rfl⟩ (by rw[hv] at O;simpa using O)
  rename_i y0 ys0;obtain⟨hk,h⟩:=AQ h;cases h;simp only[ie,ly,lw] at hk;obtain⟨rfl,zy⟩:=hk;have hzs:zv.cells.size=k:=by have:=((vp w I lp none).cells hzv).2.length;simp at this;omega
  obtain⟨base,olds,hv,hold,hlo,o1,mG,uQ⟩:∃ base olds,a.eval x=.slice base Z.length Z.length/\(∀ w':lJ,w'.heap=w.heap->(Builtin.firstCells i.size Z.length (.slice base Z.length Z.length)).run cx.P w'=.ok olds.toArray w') /\
    olds.length=Z.length*k/\A6 olds/\Ai w I lp none (mr Z) olds/\(∀ x∈Z,x.cells.length=k):=by
   rcases IE O with ⟨b,off,cap,c,E',fr,hv,g1,g2,g3,g4,g5,g6,g7,g8⟩ | ⟨rfl,ad,cap,hv,g6⟩
   {have:=g6 rfl;subst this;refine⟨_,_,hv,fun w' hw=>?_,by simp;omega,g7,g8,g4⟩;have:=Rj (P:=cx.P) (size:=i.size) (n:=Z.length) (len:=Z.length) (cap:=Z.length) (off:=off) (N:=Z.length*k) g2 g3 (by rw[rK];exact ik _) hw;simpa[rK,jg] using this};{have:=g6 rfl;subst this;exact⟨ad,[],hv,fun w' _=>Q1,by simp,by simp[A6],.nil,by simp⟩}
  have p8:=QC (P:=cx.P) (w:=w) (ty:=o.type) a0 a1 hu hi hz oU hdu hold np.len nP (by simp only[iM];omega) (by simp only[iM];exact zy) (by omega);have qx:=grownCap_ge w (Z.length+(y0 :: ys0).length) Z.length el;obtain⟨k3,o3,r3⟩:=Ri (w:=w) (I:=I) (lp:=lp) (zs:=Builtin.zeroCells zv.cells (grownCap w (Z.length+(y0 :: ys0).length) Z.length el - (Z.length+(y0 :: ys0).length))) mG np.rep o1 np.one uQ np.each;have rO:(olds.toArray++news.toArray++Builtin.zeroCells zv.cells (grownCap w (Z.length+(y0 :: ys0).length) Z.length el - (Z.length+(y0 :: ys0).length))).size=grownCap w (Z.length+(y0 :: ys0).length) Z.length el*k:=by simp only[kH,kY,size_zeroCells,np.rN,hlo,hzs];rw[<-iL,<-iL,kZ qx]
  have:=O5 hs hf hd oi (k:=k) (kt:=el) (Z:=Z++y0 :: ys0) (t:=el) (.inr rfl) (cap:=grownCap w (Z.length+(y0 :: ys0).length) Z.length el) (w1:=w.drew) ⟨rfl,rfl,rfl,rfl⟩ (by rw[iQ];exact qx) (by rw[rO];exact ik _) k3 o3 r3
   (ng (by rw[hv,iQ];exact p8))
  simpa[hd] using this
 {cases h}
end ops
end Go.Ab


namespace Go.Ab
variable{P:lO} {ats:Array lP} {base:Option Addr} {c:Call} {d:lR} {i:TypeInfo} {k m:Nat} {mx:Bool} {J:Nm} {r1:RX} {rs:md} {tc:TC} {ty:lP} {v z:PV} {v' x:lK} {w':lJ}
section ops
variable {E:Type} {cx:Cx} {w0:lJ} {I0 F0:Nat->Prop} {O0:BE} {Hd:Nat->Option Obj} {R:Bs E} {e:E} {ds:List lQ} {F:Nat->Prop} {lp:Nat->lT} {ml:List lK}
variable {I:Nat->Prop} {L:As} {V:St} {a:Act} {w:lJ} {o:Oper} {out:Al} {r9:An}
theorem vt (hs:SR lp I L V a.tmps.toList ml w) (hf:Fr cx w0 I0 F0 O0 Hd R e ds I F L w) (hL:L J=some none)
  {kt:Nat} (hr:(execOp a.eval o).run cx.P w=.ok (.value v') w\/((execOp a.eval o).run cx.P w=.ok .skip w/\v'=undef))
  (hv:Am w I lp (some L) v v'):Bh cx w0 I0 F0 O0 Hd R e ds F lp ml o a w (apply V o.dst {v,nf:=some (J,.arr k kt [])}):=by
 have hu:=hs.nf (w':=w) (qm:=.arr k kt []) hL (fun _ _=>rfl) (fun _ _ _ _ _=>rfl) ⟨k,_,rfl⟩;refine⟨v',w,I,L,hr,?_,hf⟩;rw[Ik];cases o.dst with
 | none=>exact hu
 | some d=>exact hu.put d hv
theorem RA {w:lJ} {t el:lP} (a0:ats[0]?=some t) (hu:P.underlying t=some (.slice el)) (hi:P.info? el=some i)
  {dLen dCap:Nat} {news:List lK} (hl:Builtin.lenOf x=pure m)
  (nP:(Builtin.firstCells i.size (Nat.min m dLen) x).run P w=.ok news.toArray w)
  (nK:(match base with | some a=>storeCells a news | none=>pure ()).run P w=.ok () w') :
  (Builtin.copy_ ats ty #[.slice base dLen dCap,x]).run P w=.ok (.int .i64 ((Nat.min m dLen:Nat):Int)) w':=by
 cases base with
 | none =>
  have nK:w=w':=by simpa using nK
  subst nK;simp[Builtin.copy_,a0,run_underlying hu,sizeOf,typeInfo,hi,hl,nP,goInt]
 | some a =>
  simp only at nK;simp[Builtin.copy_,a0,run_underlying hu,sizeOf,typeInfo,hi,hl,nP,nK,goInt]
theorem op_copy (hs:SR lp I L V a.tmps.toList ml w) (hf:Fr cx w0 I0 F0 O0 Hd R e ds I F L w) (ho:o.op=.call c) {x y:lM} (nv:c.callee=.builtin .copy) (a0:c.argTypes[0]?=some ty) (qN:c.args=#[x,y])
  {sE:Nat} {r2:RX} (he:Gh cx.P ty=some (k,sE,z)) (U:rx cx.G x=some r1) (H:rx cx.G y=some r2)
  (h:exec (o.dst.getD 0) (Ac V.mi) V.tmps (.copy k r1 r2)=some out):Bh cx w0 I0 F0 O0 Hd R e ds F lp ml o a w (apply V o.dst out):=by
 obtain⟨el,i,zv,hu,hi,rK,hby,hb6,hz,hzk,hzv,hzn,vp⟩:=MS he;have O:=Be hs hf.wd U;have hy:=Be hs hf.wd H;have ng:∀ {v' w'},(Builtin.copy_ c.argTypes o.type #[a.eval x,a.eval y]).run cx.P w=.ok v' w'->(execOp a.eval o).run cx.P w=.ok (.value v') w':=by intro v' w' hr;simp[execOp,ho,resolve,nv,qN,invoke,builtin,hr]
 simp only[exec] at h;split at h;·cases h
 rename_i ys qI;obtain⟨news,np⟩:=Y8 cx.P hs hy qI;have nP:∀ n,n<=ys.length->(Builtin.firstCells i.size n (a.eval y)).run cx.P w=.ok (news.take (n*k)).toArray w:=fun n hn=>by rw[rK];exact np.first n hn w rfl
 split at h;{rename_i hr;rw[hr] at O;cases h;have p8:=RA (P:=cx.P) (w:=w) (w':=w) (ty:=o.type) a0 hu hi (base:=none) (dLen:=0) (dCap:=0) np.len (by rw[show Nat.min ys.length 0=0 from kI _];exact nP 0 (jP _)) rfl;refine Bo hs hf (ng (by rw[GF O];exact p8)) (.refl w) ?_;rw[show Nat.min ys.length 0=0 from kI _];exact .int .i64 _}
 ·rename_i k' full hr;rw[hr] at O;cases h;have hb:∃ (p:Option Addr) (cap:Nat),a.eval x=.slice p 0 cap:=by rcases IE O with ⟨b,off,cap,c,E,fr,h,_⟩ | ⟨_,a',cap,h,_⟩;{exact⟨_,_,h⟩};{exact⟨_,_,h⟩}
  obtain⟨b,cap,hb⟩:=hb;have p8:=RA (P:=cx.P) (w:=w) (w':=w) (ty:=o.type) a0 hu hi (base:=b) (dLen:=0) (dCap:=cap) (news:=[]) np.len (by rw[show Nat.min ys.length 0=0 from kI _];simpa using nP 0 (jP _)) (by cases b<;>rfl);refine Bo hs hf (ng (by rw[hb];exact p8)) (.refl w) ?_;rw[show Nat.min ys.length 0=0 from kI _];exact .int .i64 _
 ·rename_i J k' off n hr;rw[hr] at O;split at h
  case h_2=>cases h
  rename_i qg kt Z nq;obtain⟨hk,h⟩:=AQ h;cases h;simp only[ie,ly,lw] at hk;obtain⟨⟨rfl,rfl⟩,hle⟩:=hk;obtain⟨p,hp,ha⟩:=hs.ob J _ nq;rcases G5 O with ⟨b,C,cap,hL,hv,hC,hn⟩ | ⟨hL,hv,rfl,rfl⟩
  ·rw[hL] at hp;cases hp;obtain⟨c',E',hb,hC',n6,qe,nk,mG⟩:=ha;have hyl:(ys.take n).length=Nat.min ys.length n:=by rw[j5];exact Nat.min_comm _ _
   have hmn:Nat.min ys.length n<=n:=Nat.min_le_right _ _;have hmy:Nat.min ys.length n<=ys.length:=Nat.min_le_left _ _;generalize hmm:Nat.min ys.length n=m at *;have yx:(news.take (m*k)).length=m*k:=by have:m*k<=ys.length*k:=je _ hmy;simp[np.rN,this]
   have pz:off*k+m*k<=Z.length*k:=by rw[<-iL];exact je _ (by omega)
   have nK:=run_storeCells_at cx.P b (off*k) E' (news.take (m*k)) 0 c' w hb (by omega) (np.one.pQ _);simp only[Nat.add_zero] at nK;have p8:=RA (P:=cx.P) (w:=w) (ty:=o.type) a0 hu hi (base:=some ⟨b,off*k,none⟩) (dLen:=n) (dCap:=cap) np.len (by rw[hmm];exact nP m hmy) nK;rw[hmm] at p8;have uR:∀ b',I b'->(w.setRow b (c'.toList.take (off*k)++news.take (m*k)++c'.toList.drop (off*k+(news.take (m*k)).length)).toArray).heap[b']?=w.heap[b']?:=fun b' oT=>J9 w b _ fun e=>(hf.lB J b C hL).2.2.1 (e ▸ oT)
   have hysr:Ai w I lp none (mr (ys.take n)) (news.take (m*k)):=by
    have:=np.rep.take (m*k);rw[<-Ke np.each] at this;have e0:ys.take m=ys.take n:=by rw[<-hmm];by_cases hc:ys.length<=n;{rw[show Nat.min ys.length n=ys.length from jf hc,jA,jb hc]};{rw[show Nat.min ys.length n=n from Nat.min_eq_right (by omega)]}
    rwa [e0] at this
   have hyk:∀ y∈ys.take n,y.cells.length=k:=fun y hy=>np.each y (ja hy);have zz:(Z.take off++ys.take n++Z.drop (off+(ys.take n).length)).length=Z.length:=by simp only[iQ,j5,List.length_drop];omega
   have rL:mr (Z.take off++ys.take n++Z.drop (off+(ys.take n).length))=nc (mr Z) (off*k) (mr (ys.take n)):=by unfold nc;rw[LK,LK,Ke qe,MT qe,LJ hyk,iL]
   have e1:=TB c'.toList (news.take (m*k)) (off*k) (Z.length*k) (by omega) (by simp;omega);have ze:=mG.nc hysr (off*k)
   refine Pk hs hf hL (w':=w.setRow b (c'.toList.take (off*k)++news.take (m*k)++c'.toList.drop (off*k+(news.take (m*k)).length)).toArray) (v':=.int .i64 (m:Int)) (.inl (ng (by rw[hv];exact p8))) rfl rfl rfl (by simp)
    (fun b' oT=>J9 w b _ oT) ?_ (by rw[show (min (ys.length:Int) (n:Int))=(m:Int) from by have:min ys.length n=m:=hmm;omega];exact .int .i64 _)
   refine⟨_,E',setRow_heap w b c' _ E' _ hb,?_,by rw[zz];exact n6,?_,?_,?_⟩;{simp[yx];omega}
   ·intro x O;rcases iH.1 O with O | O
    {rcases iH.1 O with O | O;{exact qe x (ja O)};{exact hyk x O}};{exact qe x (jH O)}
   ·rw[zz];simp only
    rw[e1];exact nk.nc (np.one.pQ _) _ _
   ·rw[zz,rL];simp only
    rw[e1];exact Ai.mono (fun _ h=>h) uR (fun _ _ h=>h) ze
  ·rw[hL] at hp;cases hp;obtain⟨k2,kt2,pX⟩:=ha;simp only[Ob.arr.injEq] at pX;obtain⟨rfl,rfl,rfl⟩:=pX;have p8:=RA (P:=cx.P) (w:=w) (w':=w) (ty:=o.type) a0 hu hi (base:=none) (dLen:=0) (dCap:=0) np.len (by rw[show Nat.min ys.length 0=0 from kI _];exact nP 0 (jP _)) rfl
   have:=vt hs hf hL (k:=k) (kt:=kt) (v:=.int .i64 (min (ys.length:Int) ((0:Nat):Int))) (.inl (ng (by rw[hv];exact p8))) (by
    rw[show Nat.min ys.length 0=0 from kI _,show (min (ys.length:Int) ((0:Nat):Int))=((0:Nat):Int) from by omega];exact .int .i64 _)
   simpa using this
 {cases h}
theorem WD (es:List MapEntry):(FX es).length=2*es.length:=by
 induction es with
 | nil=>rfl
 | cons e es ih=>simp[FX,ih];omega
theorem VR (hs:SR lp I L V a.tmps.toList ml w) (hf:Fr cx w0 I0 F0 O0 Hd R e ds I F L w) (ho:o.op=.call c) {x:lM} (nv:c.callee=.builtin .len) (a0:c.argTypes[0]?=some ty) (qN:c.args=#[x])
  (hu:cx.P.underlying ty=some d) (hd:(d=.string/\tc=.str)\/(∃ e',d=.slice e'/\tc=.slice)\/∃ k' e',d=.map k' e'/\tc=.map) (U:rx cx.G x=some r1)
  (h:exec (o.dst.getD 0) (Ac V.mi) V.tmps (.len tc r1)=some out):Bh cx w0 I0 F0 O0 Hd R e ds F lp ml o a w (apply V o.dst out):=by
 have O:=Be hs hf.wd U;have ng:∀ {n:Nat},(Builtin.len_ c.argTypes o.type #[a.eval x]).run cx.P w=.ok (.int .i64 (n:Int)) w->Bh cx w0 I0 F0 O0 Hd R e ds F lp ml o a w (apply V o.dst {v:=.int .i64 (n:Int)}):=by intro n hr;exact Bo hs hf (by simp[execOp,ho,resolve,nv,qN,invoke,builtin,hr]) (.refl w) (.int .i64 _)
 simp only[exec] at h;obtain⟨n,hn,rfl⟩:=ij.1 h;refine ng ?_;rcases hd with ⟨rfl,rfl⟩ | ⟨e',rfl,rfl⟩ | ⟨k',e',rfl,rfl⟩
 ·cases hr:r1.ev V.tmps<;>rw[hr] at hn O<;>simp only[JS] at hn<;>first | contradiction | skip
  rename_i s;cases hn;have hz:(⟨s.toArray⟩:ByteArray).size=s.length:=by simp[ByteArray.size]
  rw[Cu O];simp only[Builtin.len_,a0,Sem.run_bind,run_underlying hu,Result.andThen_ok,List.getElem?_toArray,List.getElem?_cons_zero,goInt,hz,Sem.run_pure]
 ·cases hr:r1.ev V.tmps<;>rw[hr] at hn O<;>simp only[JS] at hn<;>first | contradiction | skip
  {cases hn;simp[Builtin.len_,a0,run_underlying hu,GF O,goInt]};{cases hn;rcases IE O with ⟨b,off,cap,c,E',fr,hv,_⟩ | ⟨rfl,ad,cap,hv,_⟩<;>simp[Builtin.len_,a0,run_underlying hu,hv,goInt]};{cases hn;rcases G5 O with ⟨b,C,cap,hL,hv,hC,hn⟩ | ⟨hL,hv,rfl,rfl⟩<;>simp[Builtin.len_,a0,run_underlying hu,hv,goInt]}
 ·cases hr:r1.ev V.tmps<;>rw[hr] at hn O<;>simp only[JS] at hn<;>first | contradiction | skip
  {cases hn;simp[Builtin.len_,a0,run_underlying hu,Z0 O,goInt]}
  ·rename_i es;cases hn;obtain⟨r,nj,clock,hv,_,hb,mG⟩:=Z1 O;have hl:=mG.length;rw[WD] at hl;have:es.length / 2=nj.size:=by simp at hl;omega
   rw[this];have hg:(getObj r).run cx.P w=.ok (.map nj clock) w:=by simp[getObj,Sem.run,hb]
   simp[Builtin.len_,a0,run_underlying hu,hv,goInt,hg]
  ·rename_i J;split at hn
   case h_2=>cases hn
   rename_i es nq;cases hn;obtain⟨b,C,hL,hv⟩:=SD O;obtain⟨p,hp,ha⟩:=hs.ob J _ nq;rw[hL] at hp;cases hp;obtain⟨nj,clock,hb,mG⟩:=ha;have hl:=mG.length;rw[WD] at hl;have:es.length / 2=nj.size:=by simp at hl;omega
   rw[this];have hg:(getObj b).run cx.P w=.ok (.map nj clock) w:=by simp[getObj,Sem.run,hb]
   simp[Builtin.len_,a0,run_underlying hu,hv,goInt,hg]
theorem fg {w:lJ} {I:Nat->Prop} {lp:Nat->lT} {L:l7} (mx:Bool) (k:lN):∀ (Z:lS) (A:List lK) (x n:Int),Ai w I lp L Z A->N0 mx k x Z=some n ->
  (A.foldlM (if mx then Builtin.max2 else Builtin.min2) (.int k x)).run P w'=.ok (.int k n) w':=by
 intro Z;induction Z with
 | nil=>intro A x n h hn;cases h;simp only[N0,il] at hn;subst hn;rfl
 | cons y ys ih =>
  intro A x n h hn;cases h with
  | cons _ v _ A h hs =>
   cases y<;>simp only[N0] at hn<;>first | contradiction | skip
   rename_i k' b;obtain⟨hk,hn2⟩:=AQ hn;have hk:=beq_iff_eq.1 hk;subst hk;rw[CD h];rw[List.foldlM_cons];cases mx;{simp only[iq,lm] at hn2 |-;rw[Sem.run_bind];have:(Builtin.min2 (.int k x) (.int k b)).run P w'=.ok (.int k (if b < x then b else x)) w':=rfl;rw[this,Result.andThen_ok];simpa using ih A _ _ hs hn2};{simp only[lq] at hn2 |-;rw[Sem.run_bind];have:(Builtin.max2 (.int k x) (.int k b)).run P w'=.ok (.int k (if b>x then b else x)) w':=rfl;rw[this,Result.andThen_ok];simpa using ih A _ _ hs hn2}
theorem YC (hs:SR lp I L V a.tmps.toList ml w) (hf:Fr cx w0 I0 F0 O0 Hd R e ds I F L w) (ho:o.op=.call c) (nv:c.callee=.builtin (if mx then .max else .min))
  (U:DT cx.G c.args.toList=some rs)
  (h:exec (o.dst.getD 0) (Ac V.mi) V.tmps (.nQ mx rs)=some out):Bh cx w0 I0 F0 O0 Hd R e ds F lp ml o a w (apply V o.dst out):=by
 have O:=R6 hs hf.wd U;simp only[exec] at h;split at h
 case h_2=>cases h
 rename_i k x rest hr;rw[hr] at O;obtain⟨n,hn,rfl⟩:=ij.1 h;cases hv:c.args.toList.map a.eval with
 | nil=>rw[hv] at O;cases O
 | cons v A =>
  rw[hv] at O;cases O with
  | cons _ _ _ _ sd hx2 =>
   have hm:(c.args.map a.eval).toList=v :: A:=by rw[kW,hv]
   have hfm:=fg (P:=cx.P) (w':=w) mx k rest A x n hx2 hn;rw[<-CD sd] at hfm;refine Bo hs hf (v':=.int k n) ?_ (.refl w) (.int k _);cases mx;{simp only[iq,lm] at nv hfm;simp[execOp,ho,resolve,nv,invoke,builtin,Builtin.min_,hv,hfm]};{simp only[lq] at nv hfm;simp[execOp,ho,resolve,nv,invoke,builtin,Builtin.max_,hv,hfm]}
end ops
end Go.Ab

