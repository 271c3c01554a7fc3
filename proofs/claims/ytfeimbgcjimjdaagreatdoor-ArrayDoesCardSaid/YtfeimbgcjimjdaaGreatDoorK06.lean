/-
  Part 6 of a proof: a machine of our own for the given program, its laws, and what it says of the program. Nothing here is a claim by itself.
-/
import Derived.Test.YtfeimbgcjimjdaaGreatDoorK05
import Derived.IntWalk
import Derived.Lib.Replace
import Derived.Lib.ItoaNum
set_option linter.all false

namespace Go.Ab.Arrays
open Go Go.Ab
def asT0 (p : Nat) : Nat := if p = 66 then 64 else if p = 117 then 73 else 0
def spAs (σ : Nm → Option Ob) : List PV → Option Out
  | [.nilI, .iface p (.ref _ o)] => if (p = 66 ∨ p = 117) ∧ o = 0 then some { v := .bool false } else none
  | [.iface t x, .iface p (.ref nm o)] => match σ nm with
    | some (.cells ty cs) => if (p = 66 ∨ p = 117) ∧ o = 0 ∧ t = asT0 p ∧ cs.length = 1 ∧ okCells x 1 = true then some { v := .bool true, upd := some (nm, .cells ty x.cells) } else none
    | _ => none
  | _ => none
def spIs : List PV → Option Out
  | [.nilI, .glob g t] => if (g = 1 ∨ g = 2) ∧ t = 175 then some { v := .bool false } else none
  | [.glob g t, .glob g' t'] => if (g = 1 ∨ g = 2) ∧ (g' = 1 ∨ g' = 2) ∧ t = 175 ∧ t' = 175 then some { v := .bool (g == g') } else none
  | [.iface s x, .glob g t] => if (g = 1 ∨ g = 2) ∧ t = 175 ∧ s = 73 ∧ okV x = true then some { v := .bool false } else none
  | _ => none
def countB (c : UInt8) : List UInt8 → Nat
  | [] => 0
  | x :: xs => (if x = c then 1 else 0) + countB c xs
def spCount : List PV → Option Out
  | [.str s, .str [c]] => some { v := .int .i64 (countB c s : Nat) }
  | _ => none
def spIdx : List PV → Option Out
  | [.str s, .int .u8 c] => if 0 ≤ c ∧ c < 256 then some { v := .int .i64 (Lib.indexByte s (UInt8.ofNat c.toNat)) } else none
  | _ => none
def digs : Nat → Nat → List UInt8
  | 0, _ => []
  | k + 1, u => if u < 10 then [UInt8.ofNat (48 + u)] else digs k (u / 10) ++ [UInt8.ofNat (48 + u % 10)]
def itoaF (n : Int) : List UInt8 := if n < 0 then 45 :: digs 20 n.natAbs else digs 20 n.toNat
def spFmt : List PV → Option Out
  | [.int .i64 n, .int .i64 10] => if -9223372036854775808 ≤ n ∧ n ≤ 9223372036854775807 then some { v := .str (itoaF n) } else none
  | _ => none
def spRepl : List PV → Option Out
  | [.str s, .str old, .str new, .int .i64 n] => if s.length ≤ 65536 ∧ new.length ≤ 65536 ∧ 1 ≤ old.length then some { v := .str (Lib.replace s old new n) } else none
  | _ => none
def spCheck (σ : Nm → Option Ob) : List PV → Option Out
  | [.ref n 0] => match σ n with
    | some (.cells 99 [.nilP, x]) => some { v := .tup [], upd := some (n, .cells 99 [.ref n 0, x]) }
    | some (.cells 99 [.ref n' 0, _]) => if n' = n then some { v := .tup [] } else none
    | _ => none
  | _ => none
def spStr (σ : Nm → Option Ob) : List PV → Option Out
  | [.ref n 0] => match σ n with
    | some (.cells 99 [_, .nilS]) => some { v := .str [] }
    | some (.cells 99 [_, .arr n' 1 0 k]) => match σ n' with
      | some (.arr 1 5 xs) => match bytesOf (xs.take k) with
        | some s => if n' ≠ n ∧ 0 < k ∧ k ≤ xs.length ∧ k ≤ mostLen then some { v := .str s, upd := some (n', dead), kill := some n' } else none
        | none => none
      | _ => none
    | _ => none
  | _ => none
def sp0 (g : FuncId) (σ : Nm → Option Ob) (vs : List PV) : Option Out :=
  if g = 43 then spAs σ vs
  else if g = 81 then spIs vs
  else if g = 62 then spCount vs
  else if g = 135 then spIdx vs
  else if g = 99 then spRepl vs
  else if g = 100 then spFmt vs
  else if g = 106 then spCheck σ vs
  else if g = 65 then spStr σ vs
  else none
noncomputable def B0 : KB := { sp := sp0, L := limCall sp0 tab0, I := limIo sp0 tab0, isIo := ioFlag tab0, leans := leanFlag tab0 }
theorem ev_lit1 : evalFn sp0 tab0 40 Unit noHandler 0 19 [.int .i64 1, .str [49, 32, 50, 32, 51]] () = some (.tup [.agg [.bool true, .bool false, .sl 1 [.int .i64 1, .int .i64 2, .int .i64 3] false], .int .i64 0], [], ()) := by kernel_rfl
theorem ev_sum1 : evalFn sp0 tab0 40 Unit noHandler 0 10 [.str [43], .agg [.bool true, .bool false, .sl 1 [.int .i64 1, .int .i64 2, .int .i64 3] false], .agg [.bool false, .bool false, .sl 1 [.int .i64 10] false]] () = some (.tup [.agg [.bool true, .bool false, .sl 1 [.int .i64 11, .int .i64 12, .int .i64 13] false], .int .i64 0], [], ()) := by kernel_rfl
theorem ev_sum2 : evalFn sp0 tab0 40 Unit noHandler 0 10 [.str [43], .agg [.bool true, .bool false, .sl 1 [.int .i64 1, .int .i64 2, .int .i64 3] false], .agg [.bool true, .bool false, .sl 1 [.int .i64 1, .int .i64 2] false]] () = some (.tup [.agg [.bool false, .bool false, .nilS], .int .i64 110], [], ()) := by kernel_rfl
theorem ev_lit2 : evalFn sp0 tab0 40 Unit noHandler 0 19 [.int .i64 2, .str [39, 97, 39, 39, 39]] () = some (.tup [.agg [.bool true, .bool true, .sl 1 [.int .i64 97, .int .i64 39] false], .int .i64 0], [], ()) := by kernel_rfl
theorem ev_pr1 : evalFn sp0 tab0 40 Unit noHandler 0 20 [.agg [.bool true, .bool false, .sl 1 [.int .i64 11, .int .i64 12, .int .i64 13] false]] () = some (.str [49, 49, 32, 49, 50, 32, 49, 51], [], ()) := by kernel_rfl
theorem ev_pr2 : evalFn sp0 tab0 40 Unit noHandler 0 20 [.agg [.bool true, .bool true, .sl 1 [.int .i64 97, .int .i64 39] false]] () = some (.str [39, 97, 39, 39, 39], [], ()) := by kernel_rfl
theorem ev_right : evalFn sp0 tab0 40 Unit noHandler 0 12 [.agg [.bool true, .bool true, .sl 1 [.int .i64 97, .int .i64 39] false]] () = some (.bool true, [], ()) := by kernel_rfl
theorem ev_pr3 : evalFn sp0 tab0 40 Unit noHandler 0 20 [.agg [.bool false, .bool false, .sl 1 [.int .i64 (-5)] false]] () = some (.str [194, 175, 53], [], ()) := by kernel_rfl
end Go.Ab.Arrays

