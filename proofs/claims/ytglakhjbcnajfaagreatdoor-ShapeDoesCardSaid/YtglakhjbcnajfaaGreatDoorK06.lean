/-
  Part 6 of a proof: a machine of our own for the given program, its laws, and what it says of the program. Nothing here is a claim by itself.
-/
import Derived.Test.YtglakhjbcnajfaaGreatDoorK05
import Derived.IntWalk
set_option linter.all false

namespace Go.Ab.Shape
open Go Go.Ab
def spAs (σ : Nm → Option Ob) : List PV → Option Out
  | [.nilI, .iface p (.ref _ o)] => if p = 74 ∧ o = 0 then some { v := .bool false } else none
  | [.iface t x, .iface p (.ref nm o)] => match σ nm with
    | some (.cells ty cs) => if p = 74 ∧ o = 0 ∧ t = 72 ∧ cs.length = 1 ∧ okCells x 1 = true then some { v := .bool true, upd := some (nm, .cells ty x.cells) } else none
    | _ => none
  | _ => none
def countB (c : UInt8) : List UInt8 → Nat
  | [] => 0
  | x :: xs => (if x = c then 1 else 0) + countB c xs
def spCount : List PV → Option Out
  | [.str s, .str [c]] => some { v := .int .i64 (countB c s : Nat) }
  | _ => none
def spGrow : List PV → Option Out
  | [.nilS, .int .i64 n] => if 0 ≤ n ∧ n ≤ 1000000 then some { v := .arr (0, 0) 1 0 0, new := [.arr 1 0 []] } else none
  | _ => none
def spCheck (σ : Nm → Option Ob) : List PV → Option Out
  | [.ref n 0] => match σ n with
    | some (.cells 81 [.nilP, x]) => some { v := .tup [], upd := some (n, .cells 81 [.ref n 0, x]) }
    | some (.cells 81 [.ref n' 0, _]) => if n' = n then some { v := .tup [] } else none
    | _ => none
  | _ => none
def spStr (σ : Nm → Option Ob) : List PV → Option Out
  | [.ref n 0] => match σ n with
    | some (.cells 81 [_, .nilS]) => some { v := .str [] }
    | some (.cells 81 [_, .arr n' 1 0 k]) => match σ n' with
      | some (.arr 1 5 xs) => match bytesOf (xs.take k) with
        | some s => if n' ≠ n ∧ 0 < k ∧ k ≤ xs.length ∧ k ≤ mostLen then some { v := .str s, upd := some (n', dead), kill := some n' } else none
        | none => none
      | _ => none
    | _ => none
  | _ => none
def sp0 (g : FuncId) (σ : Nm → Option Ob) (vs : List PV) : Option Out :=
  if g = 64 then spAs σ vs
  else if g = 95 then spCount vs
  else if g = 90 then spGrow vs
  else if g = 87 then spCheck σ vs
  else if g = 74 then spStr σ vs
  else none
noncomputable def B0 : KB := { sp := sp0, L := limCall sp0 tab0, I := limIo sp0 tab0, isIo := ioFlag tab0, leans := leanFlag tab0 }
theorem shown_eval : evalFn sp0 tab0 60 Unit noHandler 0 11 [] () = some (.bool true, [], ()) := by kernel_rfl
end Go.Ab.Shape

