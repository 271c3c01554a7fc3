/-
  Part 7 of a proof: a machine of our own for the given program, its laws, and what it says of the program. Nothing here is a claim by itself.
-/
import Derived.Test.YtglakhjbcnajfaaGreatDoorK06
import Derived.Test.YtglakhjbcnajfaaGreatDoorProg
import Derived.WalkKit
import Derived.Test.YtglakhjbcnajfaaGreatDoorK02
import Derived.Lib.Builder
import Derived.Lib.UnsafeStr
import Derived.Lib.Bytealg
import Derived.Lib.AppendZerosOnto
import Derived.Lib.Walk
import Derived.Lib.SliceRun
import Derived.Laws.Externs
import Derived.Shelf.RegionOpenPlain
import Derived.LaidEql
import Derived.Stop.Asserts
import Derived.RowKitTokens
import Derived.Test.YtglakhjbcnajfaaGreatDoorK03
import Derived.ChangeArms
import Derived.ChangeSlices
import Derived.ChangeMaps5
import Derived.JoinedOf
import Derived.RowKit
set_option linter.all false

namespace Go.Ab.Shape
open Go Go.Ab
theorem sp_none {g : FuncId} (h : g ≠ 64 ∧ g ≠ 95 ∧ g ≠ 90 ∧ g ≠ 87 ∧ g ≠ 74) (σ : Nm → Option Ob) (vs : List PV) : sp0 g σ vs = none := by
  unfold sp0
  rw [if_neg h.1, if_neg h.2.1, if_neg h.2.2.1, if_neg h.2.2.2.1, if_neg h.2.2.2.2]
theorem no_ref {n : Nm} {o : Nat} {vs : List PV} (hv : okVL vs = true) (hm : .ref n o ∈ vs) : False := by
  have := okVL_iff.1 hv _ hm
  simp [okV] at this
theorem io_flag : ∀ g, (iof0 g).isSome = ioFlag tab0 g := by
  intro g
  unfold iof0 ioFlag
  split
  · rfl
  · rfl
  · rename_i h1 h2
    split
    · rename_i fn ht
      unfold tab0 at ht
      split at ht
      all_goals first | (exact (h1 rfl).elim) | (exact (h2 rfl).elim) | (cases ht; done) | (cases ht; rfl)
    · rfl
theorem cfg_ok (d : Nat → RSh) : CfgOK (cfg0 B0 d) tab0 where
  L := rfl
  I := rfl
  isIo := rfl
  leans := rfl
  ioF g := io_flag g
  ioP g P h := by
    simp only [cfg0, iof0] at h
    split at h
    · cases h; exact ⟨fn71, rfl, by decide, by decide, by decide⟩
    · cases h; exact ⟨fn81, rfl, by decide, by decide, by decide⟩
    · cases h
  spF g h σ vs := by
    simp only [cfg0, Bool.or_eq_false_iff, beq_eq_false_iff_ne] at h
    exact sp_none ⟨h.1.1.1.1, h.1.1.1.2, h.1.1.2, h.1.2, h.2⟩ σ vs
  loc g σ vs hv := by
    show sp0 g σ vs = sp0 g (fun _ => none) vs
    unfold sp0
    split
    · unfold spAs
      split
      · rfl
      · exact absurd (okVL_iff.1 hv _ (List.mem_cons_of_mem _ List.mem_cons_self)) (by simp [okV])
      · rfl
    split
    · rfl
    split
    · rfl
    split
    · unfold spCheck
      split
      · exact (no_ref hv List.mem_cons_self).elim
      · rfl
    split
    · unfold spStr
      split
      · exact (no_ref hv List.mem_cons_self).elim
      · rfl
    rfl
  asOk g p t n h σ nm ty cs h1 h2 := by
    simp only [cfg0] at h
    split at h
    · rename_i hc
      obtain ⟨rfl, rfl⟩ := hc
      cases h
      refine ⟨rfl, fun x hx => ?_⟩
      show sp0 64 σ [.iface 72 x, .iface 74 (.ref nm 0)] = some { v := .bool true, upd := some (nm, .cells ty x.cells) }
      unfold sp0 spAs
      simp only [if_true, h1, h2, hx, and_self]
    · cases h
theorem call {d : Nat → RSh} {g : FuncId} {fn : RFn} {sh : RSh} {args : List PV} {u : PV} (ht : tab0 g = some fn) (hg : g ≠ 64 ∧ g ≠ 95 ∧ g ≠ 90 ∧ g ≠ 87 ∧ g ≠ 74) (ha : okVL args = true) (hl : Nat.ble args.length fn.nt = true)
    (hr : runK (cfg0 B0 d) fn sh noHandler 0 (args.map KV.cv) () = some (u, ())) (hio : fn.io = false := by rfl) : callO B0 sh (.fn g []) args = some u := by
  refine call_of_run (cfg_ok d) ht (cap := []) (by simpa using ha) (by simpa using Nat.le_of_ble_eq_true hl) (sp_none hg (fun _ => none) _) ?_ hio
  simpa using hr
theorem call_eval {g : FuncId} {n : Nat} {u : PV} (hg : g ≠ 64 ∧ g ≠ 95 ∧ g ≠ 90 ∧ g ≠ 87 ∧ g ≠ 74) (h : evalFn sp0 tab0 n Unit noHandler 0 g [] () = some (u, [], ())) (hu : okV u = true) (hio : ioFlag tab0 g = false) : callO B0 .cl (.fn g []) [] = some u := by
  obtain ⟨e2, _, h2⟩ := evalFn_par n Unit Unit (fun _ _ => True) noHandler (fun _ => noHandler) (fun _ _ _ _ _ _ _ h => by cases h) 0 g [] () () trivial _ _ _ h
  have hL : B0.L Unit noHandler 0 g [] () = some (u, [], ()) := lim_of h2
  have hI : B0.isIo g = false := hio
  have hs : B0.sp g (fun _ => none) [] = none := sp_none hg _ _
  unfold callO
  simp [spO, hs, hI, hL, convO, convR, hu, chkO]
theorem shown_run : callO B0 .cl (.fn 11 []) [] = some (.bool true) := call_eval (by decide) shown_eval rfl rfl
end Go.Ab.Shape


namespace Go.Proofs.AbQ
open Go.RowKit Go.Proofs
theorem lies81 : liesAt Tryz.prog Tryz.prog.depth 81 (2 / Tryz.prog.cellsOf 81) 0 81 1 = true := by kernel_rfl
theorem info81' : (Tryz.prog.info? 81).map (·.size) = some 2 := by kernel_rfl
theorem info81 : ∃ j, Tryz.prog.info? 81 = some j ∧ j.size = 2 := Option.map_eq_some_iff.1 info81'
theorem cells5 : Tryz.prog.cellsOf 5 = 1 := by kernel_rfl
theorem info2' : (Tryz.prog.info? 2).map (fun i => (i.zero, i.size, i.bytes)) = some (some (.int .i64 0), 1, 8) := by kernel_rfl
theorem info2 : ∃ i z, Tryz.prog.info? 2 = some i ∧ i.zero = some z ∧ i.size = 1 ∧ i.bytes = 8 ∧ z = .int .i64 0 := by
  obtain ⟨i, h1, h2⟩ := Option.map_eq_some_iff.1 info2'
  simp only [Prod.mk.injEq] at h2
  exact ⟨i, _, h1, h2.1, h2.2.1, h2.2.2, rfl⟩
set_option maxHeartbeats 1000000 in
set_option maxRecDepth 100000 in
theorem check_used (b : Nat) (w : World) (h0 : w.cell? ⟨b, 0, none⟩ = some (.pointer (some ⟨b, 0, none⟩))) :
    Calls Tryz.prog 87 #[.pointer (some ⟨b, 0, none⟩)] w fun e w' => e = .returned (.tuple #[]) ∧ w' = w := by
  obtain ⟨j, hj, _⟩ := info81
  go_enter Tryz.func87, Tryz.ntmps87
  go_wp2
  rw [Lib.run_neq_ptr_same w _ Tryz.underlying78 hj]
  go_wp2
  go_end0
  exact ⟨rfl, rfl⟩
set_option maxHeartbeats 1000000 in
set_option maxRecDepth 100000 in
theorem check_fresh (b : Nat) (w : World) (h0 : w.cell? ⟨b, 0, none⟩ = some (.pointer none)) (hsh : w.shape? b = some (81, 2)) (hfz : w.frozen? ⟨b, 0, none⟩ = false) :
    Calls Tryz.prog 87 #[.pointer (some ⟨b, 0, none⟩)] w fun e w' => e = .returned (.tuple #[]) ∧ w' = w.setCell ⟨b, 0, none⟩ (.pointer (some ⟨b, 0, none⟩)) := by
  obtain ⟨j, hj, hjs⟩ := info81
  go_enter Tryz.func87, Tryz.ntmps87
  go_wp2
  rw [Lib.run_to_unsafe w ⟨b, 0, none⟩ Tryz.underlying78 Tryz.underlying94 hj (by rw [hjs]; decide) hsh (Nat.zero_lt_succ 1)]
  simp only [Result.andThen]
  rw [Oper.upon_value]
  go_wp2
  rw [run_callFunc_extern Tryz.func94 (by kernel_rfl) (by kernel_rfl) (by kernel_rfl) (e := Extern.AbiNoEscape.same) (by kernel_rfl)]
  rw [Lib.run_noEscape]
  simp only [Result.andThen]
  rw [Oper.upon_value]
  go_wp2
  rw [Lib.run_from_unsafe w ⟨b, 0, none⟩ Tryz.underlying94 Tryz.underlying78 hj hsh lies81]
  simp only [Result.andThen]
  rw [Oper.upon_value]
  go_wp2
  go_end0
  exact ⟨rfl, rfl⟩
set_option maxHeartbeats 1000000 in
set_option maxRecDepth 100000 in
theorem count_one (s : ByteArray) (c : UInt8) (w : World) :
    Calls Tryz.prog 95 #[.string s, .string ⟨#[c]⟩] w fun e w' => e = .returned (.int .i64 (Lib.countByte s.data.toList c)) ∧ w' = w := by
  go_enter Tryz.func95, Tryz.ntmps95
  go_wp2
  rw [run_callFunc_extern Tryz.func101 (by kernel_rfl) (by kernel_rfl) (by kernel_rfl) (e := Extern.BytealgCount.count) (by kernel_rfl), Lib.run_countString]
  simp only [Result.andThen]
  rw [Oper.upon_value]
  go_wp2
  go_ret
  exact ⟨rfl, rfl⟩
set_option maxHeartbeats 1000000 in
set_option maxRecDepth 100000 in
theorem string_some (b g cap : Nat) (p : Value) (cur : Array Value) (l : List UInt8) (w : World) (hbk : w.heap[b]? = some (.cells #[p, .slice (some ⟨g, 0, none⟩) l.length cap] 81 (0, 0)))
    (hg : w.heap[g]? = some (.cells cur 5 (0, 0))) (h0 : l ≠ []) (hcap : l.length ≤ cap) (hcs : l.length ≤ cur.size) (h63 : l.length ≤ 9223372036854775807) (hl : ∀ (j : Nat) (x : UInt8), l[j]? = some x → cur[j]? = some (Value.int .u8 (x.toNat : Int))) :
    Calls Tryz.prog 74 #[.pointer (some ⟨b, 0, none⟩)] w fun e w' => e = .returned (.string ⟨l.toArray⟩) ∧ w' = w.drew.freeze ⟨g, 0, none⟩ l.length := by
  have hl0 : l.length ≠ 0 := by simpa using h0
  have c1 : w.drew.cell? ⟨b, 1, none⟩ = some (.slice (some ⟨g, 0, none⟩) l.length cap) := by
    have : w.drew.heap[b]? = some (.cells #[p, .slice (some ⟨g, 0, none⟩) l.length cap] 81 (0, 0)) := hbk
    rw [Lib.cell_of_heap this]; rfl
  have hSD : (Builtin.unsafeSliceData_ #[79] 108 #[.slice (some ⟨g, 0, none⟩) l.length cap]).run Tryz.prog w.drew = .ok (.pointer (some ⟨g, 0, none⟩)) w.drew :=
    Lib.run_unsafeSliceData_row _ _ _ _ _ _ (by omega)
  have hUS : (Builtin.unsafeString_ #[108, 3] 9 #[.pointer (some ⟨g, 0, none⟩), .int .i64 l.length]).run Tryz.prog w.drew = .ok (.string ⟨l.toArray⟩) (w.drew.freeze ⟨g, 0, none⟩ l.length) := by
    refine Lib.run_unsafeString_row w.drew 108 3 9 5 Tryz.underlying108 cells5 g cur.size (by have hg' : w.drew.heap[g]? = some (.cells cur 5 (0, 0)) := hg; simp [World.shape?, hg']) l h0 hcs h63 ?_
    intro j x hx
    have hg' : w.drew.heap[g]? = some (.cells cur 5 (0, 0)) := hg
    have e : ((⟨g, 0, none⟩ : Addr).add j) = ⟨g, j, none⟩ := by cases j <;> simp [Addr.add]
    rw [e, Lib.cell_of_heap hg']
    exact hl j x hx
  have mixed : Tryz.prog.follows .mixedOrders = true := by kernel_rfl
  go_enter Tryz.func74, Tryz.ntmps74
  go_wp2
  go_region_o
  all_goals (go_wp2; go_ret; exact ⟨rfl, rfl⟩)
set_option maxHeartbeats 1000000 in
set_option maxRecDepth 100000 in
theorem string_nil (b : Nat) (p : Value) (w : World) (hbk : w.heap[b]? = some (.cells #[p, .slice none 0 0] 81 (0, 0))) :
    Calls Tryz.prog 74 #[.pointer (some ⟨b, 0, none⟩)] w fun e w' => e = .returned (.string ⟨#[]⟩) ∧ w' = w.drew := by
  have hUS : ∀ W q, (Builtin.unsafeString_ #[108, 3] 9 #[.pointer q, .int .i64 0]).run Tryz.prog W = .ok (.string .empty) W := fun W q => Lib.run_unsafeString_none W _ _ _ q
  have c1 : w.drew.cell? ⟨b, 1, none⟩ = some (.slice none 0 0) := by
    have : w.drew.heap[b]? = some (.cells #[p, .slice none 0 0] 81 (0, 0)) := hbk
    rw [Lib.cell_of_heap this]; rfl
  have hSD : (Builtin.unsafeSliceData_ #[79] 108 #[.slice none 0 0]).run Tryz.prog w.drew = .ok (.pointer none) w.drew := rfl
  have mixed : Tryz.prog.follows .mixedOrders = true := by kernel_rfl
  go_enter Tryz.func74, Tryz.ntmps74
  go_wp2
  go_region_o
  all_goals (go_wp2; go_ret; exact ⟨rfl, rfl⟩)
set_option maxHeartbeats 1000000 in
set_option maxRecDepth 100000 in
theorem grow_zero (w : World) : Calls Tryz.prog 90 #[.slice none 0 0, .int .i64 0] w fun e w' => e = .returned (.slice none 0 0) ∧ w' = w := by
  go_enter Tryz.func90, Tryz.ntmps90
  go_wp2
  go_ret
  exact ⟨rfl, rfl⟩
set_option maxHeartbeats 4000000 in
set_option maxRecDepth 100000 in
theorem grow_some (n : Nat) (w : World) (h0 : 0 < n) (hn : n ≤ 1000000) : Calls Tryz.prog 90 #[.slice none 0 0, .int .i64 n] w fun e w' =>
    ∃ G row, e = .returned (.slice (some ⟨w.heap.size, 0, none⟩) 0 G) ∧ G ≤ row.size ∧ w' = w.drew.alloc (.cells row 2) := by
  obtain ⟨i0, z, hi0, hz0, hs0, hb0, rfl⟩ := info2
  have h1 : ¬ ((n : Int) < 0) := by omega
  have h3 : wrap64 ((n : Int) - 0) = (n : Int) := by unfold wrap64; omega
  have h4 : (n : Int) > 0 := by omega
  have hrz : ∀ ty, (Builtin.append_ #[22, 3] ty #[.slice none 0 0, .int .i64 (n : Int)]).run Tryz.prog w =
      .ok (.slice (some ⟨w.heap.size, 0, none⟩) n (grownCap w n 0 2)) (w.drew.alloc (.cells ((#[] : Array Value) ++ Builtin.zeroCells (Value.int .i64 0).cells n ++ Builtin.zeroCells (Value.int .i64 0).cells (grownCap w n 0 2 - n)) 2)) := fun ty => by
    have h := Lib.run_append_grow_zeros (P := Tryz.prog) w 22 3 ty 2 i0 (.int .i64 0) .i64 .i64 Tryz.underlying22 Tryz.underlying3 hi0 hz0 none 0 0 [] (by rw [hs0]; exact run_firstCells_none w.drew 1 0 0 0) n h0 (by omega) (by omega) (by omega) (by rw [hb0]; omega)
      (growslice_fits (by omega) (by rw [hb0]; omega))
    rw [Nat.zero_add] at h
    exact h
  have hGn : n ≤ grownCap w n 0 2 := grownCap_ge w _ _ _
  have hG63 : grownCap w n 0 2 ≤ 9223372036854775807 := by
    have := grownCap_le_maxLen w n 0 2 (by unfold maxLen; omega)
    unfold maxLen at this
    omega
  obtain ⟨row, hrow⟩ : ∃ row, row = ((#[] : Array Value) ++ Builtin.zeroCells (Value.int .i64 0).cells n ++ Builtin.zeroCells (Value.int .i64 0).cells (grownCap w n 0 2 - n)) := ⟨_, rfl⟩
  have hsz : grownCap w n 0 2 ≤ row.size := by
    rw [hrow]
    simp [size_zeroCells, Value.cells]
    omega
  rw [← hrow] at hrz
  obtain ⟨G, hG⟩ : ∃ G, G = grownCap w n 0 2 := ⟨_, rfl⟩
  rw [← hG] at hrz hGn hG63 hsz
  clear hrow hG
  go_enter Tryz.func90, Tryz.ntmps90
  go_wp2_with (at_builtin; refine Lib.wpList_append_run _ rfl _ _ _ _ rfl _ _ rfl rfl _ _ (hrz _) ?_)
  all_goals (go_ret; exact ⟨G, rfl, row, hsz, rfl⟩)
end Go.Proofs.AbQ


namespace Go.Proofs.AbAsZ
open Go.RowKit Go.Extern.Stop Go.Stop Go.Extern
theorem as_nil (t : Value) (w : World) :
    Calls Tryz.prog 64 #[.nilIface, t] w fun e w' => e = .returned (.bool false) ∧ w' = w := by
  go_enter Tryz.func64, Tryz.ntmps64
  go_wp2
  go_ret
  exact ⟨rfl, rfl⟩
theorem Tryz.valueOf27 (t : Addr) (w : World) : (ReflectliteValue.unpack (.iface 74 (.pointer (some t)))).run Tryz.prog w
    = .ok (.agg #[.pointer (some ⟨7, 74, none⟩), .pointer (some ⟨w.heap.size, 0, none⟩), .int .u64 150]) (w.alloc (.cells #[.pointer (some t)] 74)) := by kernel_rfl
theorem Tryz.type27 (a : Addr) (w : World) : (ReflectliteValue.methodAny (ReflectliteValue.valueError "reflectlite.Value.Type" 0) (fun t _ _ _ => ReflectliteType.toType t) #[.agg #[.pointer (some ⟨7, 74, none⟩), .pointer (some a), .int .u64 150]]).run Tryz.prog w
    = .ok (.iface 112 (.agg #[.pointer (some ⟨7, 74, none⟩)])) w := by kernel_rfl
theorem Tryz.methodKind (h : Value) (w : World) : (Go.method 283 112 (.agg #[h]) "Kind").run Tryz.prog w = .ok (137, h) w := by kernel_rfl
theorem Tryz.kind27 (w : World) : ((ReflectliteType.abiMethod fun t => Functor.map (fun a : Nat => Value.int IntKind.u8 (a : Int)) (Rtype.kind t)) #[.pointer (some ⟨7, 74, none⟩)]).run Tryz.prog w = .ok (.int .u8 22) w := by kernel_rfl
theorem Tryz.kind25 (w : World) : ((ReflectliteType.abiMethod fun t => Functor.map (fun a : Nat => Value.int IntKind.u8 (a : Int)) (Rtype.kind t)) #[.pointer (some ⟨7, 72, none⟩)]).run Tryz.prog w = .ok (.int .u8 25) w := by kernel_rfl
theorem rlm (z : Sem Value) (f : TypeId → Addr → Nat → Nat → Sem Value) (v : Value) :
    ReflectliteValue.method z f #[v] = (do match ← ReflectliteValue.parts v with | none => z | some (t, a, fl) => f t a fl (fl % 32)) := rfl
theorem Tryz.parts27 (a : Addr) (w : World) : (ReflectliteValue.parts (.agg #[.pointer (some ⟨7, 74, none⟩), .pointer (some a), .int .u64 150])).run Tryz.prog w = .ok (some (74, a, 150)) w := by kernel_rfl
theorem Tryz.isNil27 (a p : Addr) (W : World) (ha : W.cell? a = some (.pointer (some p))) :
    (ReflectliteValue.method (ReflectliteValue.valueError "reflectlite.Value.IsNil" 0) ReflectliteValue.isNil #[.agg #[.pointer (some ⟨7, 74, none⟩), .pointer (some a), .int .u64 150]]).run Tryz.prog W = .ok (.bool false) W := by
  rw [rlm]
  simp only [Sem.run_bind, Tryz.parts27, Result.andThen]
  simp [ReflectliteValue.isNil, loadVar, isAgg, underlying, Tryz.underlying74, ha, Result.andThen]
theorem Tryz.methodElem (h : Value) (w : World) : (Go.method 283 112 (.agg #[h]) "Elem").run Tryz.prog w = .ok (148, .agg #[h]) w := by kernel_rfl
theorem Tryz.methodImplements (h : Value) (w : World) : (Go.method 283 112 (.agg #[h]) "Implements").run Tryz.prog w = .ok (149, .agg #[h]) w := by kernel_rfl
theorem Tryz.methodAssignableTo (h : Value) (w : World) : (Go.method 283 112 (.agg #[h]) "AssignableTo").run Tryz.prog w = .ok (146, .agg #[h]) w := by kernel_rfl
theorem Tryz.elem27 (w : World) : (ReflectliteType.method ReflectliteType.elem #[.agg #[.pointer (some ⟨7, 74, none⟩)]]).run Tryz.prog w = .ok (.iface 112 (.agg #[.pointer (some ⟨7, 72, none⟩)])) w := by kernel_rfl
theorem Tryz.implements25 (w : World) : (ReflectliteType.relation "Implements" ReflectliteType.implements_ #[.agg #[.pointer (some ⟨7, 72, none⟩)], .iface 112 (.agg #[.pointer (some ⟨7, 53, none⟩)])]).run Tryz.prog w = .ok (.bool true) w := by kernel_rfl
theorem Tryz.typeOf25 (v : Value) (w : World) : (ReflectliteType.typeOf #[.iface 72 v]).run Tryz.prog w = .ok (.iface 112 (.agg #[.pointer (some ⟨7, 72, none⟩)])) w := by kernel_rfl
theorem Tryz.assignable25 (w : World) : (ReflectliteType.relation "AssignableTo" ReflectliteType.assignableTo #[.agg #[.pointer (some ⟨7, 72, none⟩)], .iface 112 (.agg #[.pointer (some ⟨7, 72, none⟩)])]).run Tryz.prog w = .ok (.bool true) w := by kernel_rfl
theorem Tryz.elemOf27 (w : World) : (Rtype.elem? 74).run Tryz.prog w = .ok (some 72) w := by kernel_rfl
theorem Tryz.mk25 (p : Addr) (w : World) : (ReflectliteValue.mk 72 p ReflectliteValue.flagAddr).run Tryz.prog w = .ok (.agg #[.pointer (some ⟨7, 72, none⟩), .pointer (some p), .int .u64 409]) w := by kernel_rfl
theorem Tryz.elemV27 (a p : Addr) (W : World) (ha : W.cell? a = some (.pointer (some p))) :
    (ReflectliteValue.method (ReflectliteValue.valueError "reflectlite.Value.Elem" 0) ReflectliteValue.elem #[.agg #[.pointer (some ⟨7, 74, none⟩), .pointer (some a), .int .u64 150]]).run Tryz.prog W
      = .ok (.agg #[.pointer (some ⟨7, 72, none⟩), .pointer (some p), .int .u64 409]) W := by
  rw [rlm]
  simp only [Sem.run_bind, Tryz.parts27, Result.andThen]
  simp [ReflectliteValue.elem, loadVar, isAgg, underlying, Tryz.underlying74, ha, Result.andThen, Tryz.elemOf27, Tryz.mk25]
theorem rls (v x : Value) : ReflectliteValue.set #[v, x] = (do
    let (some (dst, a, fl), some (src, b, _)) := (← ReflectliteValue.parts v, ← ReflectliteValue.parts x)
      | unsupported (.noEntry "extern/(internal/reflectlite.Value).Set.zeroValue")
    if fl / ReflectliteValue.flagAddr % 2 == 0 then unsupported (.noEntry "extern/(internal/reflectlite.Value).Set.unaddressable")
    let val ← loadVar src b
    if ← Rtype.directlyAssignable dst src then storeVar dst a val
    else if ← Rtype.implements dst src then
      if (← Rtype.kind src) == 20 then
        match val with
        | .nilIface => unsupported (.noEntry "extern/reflectlite: a nil value of one interface type handed on as a value of another")
        | _ => storeVar dst a val
      else storeVar dst a (.iface src val)
    else panicString ("reflectlite.Set: value of type " ++ (← Rtype.spelt src) ++ " is not assignable to type " ++ (← Rtype.spelt dst))
    pure (.tuple #[])) := rfl
theorem Tryz.parts25a (a : Addr) (w : World) : (ReflectliteValue.parts (.agg #[.pointer (some ⟨7, 72, none⟩), .pointer (some a), .int .u64 409])).run Tryz.prog w = .ok (some (72, a, 409)) w := by kernel_rfl
theorem Tryz.parts25 (a : Addr) (w : World) : (ReflectliteValue.parts (.agg #[.pointer (some ⟨7, 72, none⟩), .pointer (some a), .int .u64 153])).run Tryz.prog w = .ok (some (72, a, 153)) w := by kernel_rfl
theorem Tryz.direct25 (w : World) : (Rtype.directlyAssignable 72 72).run Tryz.prog w = .ok true w := by kernel_rfl
theorem Tryz.set25 (ta b : Addr) (e old : Value) (h1 : e.oneCell' = true) (W : World) (hb : W.cell? b = some e) (ht : W.cell? ta = some old) (hf : W.frozen? ta = false) :
    (ReflectliteValue.set #[.agg #[.pointer (some ⟨7, 72, none⟩), .pointer (some ta), .int .u64 409], .agg #[.pointer (some ⟨7, 72, none⟩), .pointer (some b), .int .u64 153]]).run Tryz.prog W
      = .ok (.tuple #[]) (W.setCell ta e) := by
  rw [rls]
  simp only [Sem.run_bind, Tryz.parts25a, Tryz.parts25, Result.andThen]
  simp [ReflectliteValue.flagAddr, loadVar, Tryz.isAgg72, loadCells, loadCellsFrom, hb, Result.andThen, Tryz.direct25, storeVar, Value.cells, storeCells, Addr.add]
  rw [run_store Tryz.prog W ta _ _ h1]
  simp [ht, hf]
theorem valueOf51g (v : Value) (w : World) : (ReflectliteValue.unpack (.iface 72 v)).run Tryz.prog w
    = .ok (.agg #[.pointer (some ⟨7, 72, none⟩), .pointer (some ⟨w.heap.size, 0, none⟩), .int .u64 153]) (w.alloc (.cells v.cells 72)) := by kernel_rfl
theorem valueOf51 (v n : Value) (hv : v.cells = #[n]) (w : World) : (ReflectliteValue.unpack (.iface 72 v)).run Tryz.prog w
    = .ok (.agg #[.pointer (some ⟨7, 72, none⟩), .pointer (some ⟨w.heap.size, 0, none⟩), .int .u64 153]) (w.alloc (.cells #[n] 72)) := by rw [valueOf51g, hv]
set_option maxHeartbeats 8000000 in
set_option maxRecDepth 100000 in
theorem as_hit (v n : Value) (hv : v.cells = #[n]) (h1 : n.oneCell' = true) (t : Addr) (old : Value) (w : World) (hg : w.cell? ⟨0, 0, none⟩ = some (.iface 112 (.agg #[.pointer (some ⟨7, 53, none⟩)]))) (ht0 : w.cell? t = some old) (hf0 : w.frozen? t = false) :
    Calls Tryz.prog 64 #[.iface 72 v, .iface 74 (.pointer (some t))] w fun ev w' => ev = .returned (.bool true) ∧ w' = ((((w.alloc (.cells #[.pointer (some t)] 74)).alloc (.cells #[.pointer (some ⟨7, 74, none⟩), .pointer (some ⟨w.heap.size, 0, none⟩), .int .u64 150] 97)).alloc (.cells #[.pointer (some ⟨7, 74, none⟩), .pointer (some ⟨w.heap.size, 0, none⟩), .int .u64 150] 97)).alloc (.cells #[n] 72)).setCell t n := by
  have h6 := @run_callFunc_extern Tryz.prog 83 _ (fun args => ReflectliteValue.unpack (args.getD 0 (.tuple #[]))) Tryz.func83 (by kernel_rfl) (by kernel_rfl) (by kernel_rfl) (by kernel_rfl)
  have h7 := @run_callFunc_extern Tryz.prog 84 _ (ReflectliteValue.methodAny (ReflectliteValue.valueError "reflectlite.Value.Type" 0) (fun t _ _ _ => ReflectliteType.toType t)) Tryz.func84 (by kernel_rfl) (by kernel_rfl) (by kernel_rfl) (by kernel_rfl)
  have h8 := @run_callFunc_extern Tryz.prog 85 _ (ReflectliteValue.method (ReflectliteValue.valueError "reflectlite.Value.IsNil" 0) ReflectliteValue.isNil) Tryz.func85 (by kernel_rfl) (by kernel_rfl) (by kernel_rfl) (by kernel_rfl)
  have h27 := @run_callFunc_extern Tryz.prog 137 _ (ReflectliteType.abiMethod fun t => do pure (.int .u8 (← Rtype.kind t))) Tryz.func137 (by kernel_rfl) (by kernel_rfl) (by kernel_rfl) (by kernel_rfl)
  have h37 := @run_callFunc_extern Tryz.prog 148 _ (ReflectliteType.method ReflectliteType.elem) Tryz.func148 (by kernel_rfl) (by kernel_rfl) (by kernel_rfl) (by kernel_rfl)
  have h38 := @run_callFunc_extern Tryz.prog 149 _ (ReflectliteType.relation "Implements" ReflectliteType.implements_) Tryz.func149 (by kernel_rfl) (by kernel_rfl) (by kernel_rfl) (by kernel_rfl)
  have h10 := @run_callFunc_extern Tryz.prog 91 _ ReflectliteType.typeOf Tryz.func91 (by kernel_rfl) (by kernel_rfl) (by kernel_rfl) (by kernel_rfl)
  have h35 := @run_callFunc_extern Tryz.prog 146 _ (ReflectliteType.relation "AssignableTo" ReflectliteType.assignableTo) Tryz.func146 (by kernel_rfl) (by kernel_rfl) (by kernel_rfl) (by kernel_rfl)
  have h11 := @run_callFunc_extern Tryz.prog 92 _ (ReflectliteValue.method (ReflectliteValue.valueError "reflectlite.Value.Elem" 0) ReflectliteValue.elem) Tryz.func92 (by kernel_rfl) (by kernel_rfl) (by kernel_rfl) (by kernel_rfl)
  have h12 := @run_callFunc_extern Tryz.prog 93 _ ReflectliteValue.set Tryz.func93 (by kernel_rfl) (by kernel_rfl) (by kernel_rfl) (by kernel_rfl)
  have tO := Tryz.typeOf25
  have mA := Tryz.methodAssignableTo
  have a25 := Tryz.assignable25
  have v25 := valueOf51 v n hv
  have f6 := Tryz.valueOf27
  have f7 := Tryz.type27
  have mK := Tryz.methodKind
  have mE := Tryz.methodElem
  have mI := Tryz.methodImplements
  have k27 := Tryz.kind27
  have k25 := Tryz.kind25
  have e27 := Tryz.elem27
  have i25 := Tryz.implements25
  have n8 := Tryz.isNil27 ⟨w.heap.size, 0, none⟩ t ((w.alloc (.cells #[.pointer (some t)] 74)).alloc (.cells #[.pointer (some ⟨7, 74, none⟩), .pointer (some ⟨w.heap.size, 0, none⟩), .int .u64 150] 97)) (by simp)
  have hlt : 0 < w.heap.size := by
    rcases Nat.eq_zero_or_pos w.heap.size with h0 | h
    · simp [World.cell?, h0] at hg
    · exact h
  have hg2 : ((w.alloc (.cells #[.pointer (some t)] 74)).alloc (.cells #[.pointer (some ⟨7, 74, none⟩), .pointer (some ⟨w.heap.size, 0, none⟩), .int .u64 150] 97)).cell? ⟨0, 0, none⟩ = some (.iface 112 (.agg #[.pointer (some ⟨7, 53, none⟩)])) := by
    rw [World.cell?_alloc_lt _ _ ⟨0, 0, none⟩ (by simp), World.cell?_alloc_lt _ _ ⟨0, 0, none⟩ hlt]; exact hg
  have htl : t.block < w.heap.size := by
    rcases Nat.lt_or_ge t.block w.heap.size with h | h
    · exact h
    · simp [World.cell?, Array.getElem?_eq_none h] at ht0
  have el := Tryz.elemV27 ⟨w.heap.size, 0, none⟩ t (((w.alloc (.cells #[.pointer (some t)] 74)).alloc (.cells #[.pointer (some ⟨7, 74, none⟩), .pointer (some ⟨w.heap.size, 0, none⟩), .int .u64 150] 97)).alloc (.cells #[.pointer (some ⟨7, 74, none⟩), .pointer (some ⟨w.heap.size, 0, none⟩), .int .u64 150] 97)) (by rw [World.cell?_alloc_lt _ _ ⟨w.heap.size, 0, none⟩ (by simp; omega)]; simp)
  have st := Tryz.set25 t ⟨w.heap.size + 1 + 1 + 1, 0, none⟩ n old h1 ((((w.alloc (.cells #[.pointer (some t)] 74)).alloc (.cells #[.pointer (some ⟨7, 74, none⟩), .pointer (some ⟨w.heap.size, 0, none⟩), .int .u64 150] 97)).alloc (.cells #[.pointer (some ⟨7, 74, none⟩), .pointer (some ⟨w.heap.size, 0, none⟩), .int .u64 150] 97)).alloc (.cells #[n] 72))
    (by rw [World.cell?_alloc_at _ _ _ _ (by simp)]; rfl)
    (by rw [World.cell?_alloc_lt _ _ t (by simp; omega), World.cell?_alloc_lt _ _ t (by simp; omega), World.cell?_alloc_lt _ _ t (by simp; omega), World.cell?_alloc_lt _ _ t htl]; exact ht0)
    (by rw [World.frozen?_alloc_old _ _ t (by simp; omega), World.frozen?_alloc_old _ _ t (by simp; omega), World.frozen?_alloc_old _ _ t (by simp; omega), World.frozen?_alloc_old _ _ t (Nat.ne_of_lt htl)]; exact hf0)
  go_enter Tryz.func64, Tryz.ntmps64
  go_wp2
  refine wp_loop_rounds 1 ?_
  rw [rounds_succ]
  go_wp2
  go_ret
  exact ⟨rfl, rfl⟩
end Go.Proofs.AbAsZ


namespace Go.Ab
section sp
variable {cx : Cx} {E : Type} {w0 : World} {I0 F0 O0 : Nat → Prop} {Hd : Nat → Option Obj} {R : RelE E} {e : E} {ds : List Deferred} {I F : Nat → Prop} {lp : Nat → Option Nat} {L : Loc} {tmv suf : List Value} {st : St} {w w' : World} {dst : Option Nat}
theorem sp_pure (hs : SR lp I L st tmv suf w) (hf : Fr cx w0 I0 F0 O0 Hd R e ds I F L w) (h : LawEnd w w') {u : PV} {v : Value} (hv : RepV w' I lp (some L) u v) :
    ∃ I' L', SR lp I' L' (apply st dst { v := u }) (putV tmv dst v) suf w' ∧ Fr cx w0 I0 F0 O0 Hd R e ds I' F L' w' := by
  have hx : Ext I F w I F w' := ⟨h.os, h.tape, h.output, h.size, fun b hb _ => h.same b hb, fun _ h => h, fun _ h => .inl h, fun _ h => .inl h⟩
  have hi : IF I F w' := ⟨fun b hb => Nat.lt_of_lt_of_le (hf.sep.iB b hb) h.size, fun b hb => ⟨Nat.lt_of_lt_of_le (hf.sep.fB b hb).1 h.size, (hf.sep.fB b hb).2⟩⟩
  have hw : cx.Wd I w' := cx.stab I I w w' hf.wd (fun _ h => h) (fun b hb => h.same b (hf.sep.iB b hb)) h.size
  have hr : R.rel e I F w' := R.stab e I I F w w' hf.re (fun _ h => h) (fun b hb => h.same b (hb.elim (hf.sep.iB b) fun h => (hf.sep.fB b h).1)) h.size
  refine ⟨I, L, ?_, hf.called hx hi hw hr⟩
  have h2 := hs.called hf hx
  cases dst with
  | none => exact h2
  | some d => exact h2.put d hv
theorem lawEnd_refl (w : World) : LawEnd w w := ⟨rfl, rfl, rfl, Nat.le_refl _, fun _ _ => rfl⟩
theorem sp_turn (hs : SR lp I L st tmv suf w) (hf : Fr cx w0 I0 F0 O0 Hd R e ds I F L w) {nm : Nm} {b C : Nat} (hL : L nm = some (some (b, C)))
    (h1 : w'.os = w.os) (h2 : w'.tape = w.tape) (h3 : w'.output = w.output) (h4 : w.heap.size ≤ w'.heap.size) (hk : ∀ k, k < w.heap.size → k ≠ b → w'.heap[k]? = w.heap[k]?)
    {ob : Ob} (hob : ObRep w' I lp L b C ob) {u : PV} {v : Value} (hv : RepV w' I lp (some L) u v) :
    ∃ I' L', SR lp I' L' (apply st dst { v := u, upd := some (nm, ob) }) (putV tmv dst v) suf w' ∧ Fr cx w0 I0 F0 O0 Hd R e ds I' F L' w' := by
  have hI : ∀ k, I k → w'.heap[k]? = w.heap[k]? := fun k hi => hk k (hf.sep.iB k hi) fun e => (hf.lB nm b C hL).2.2.1 (e ▸ hi)
  have hfr : Fr cx w0 I0 F0 O0 Hd R e ds I F L w' := hf.own h1 h2 h3 h4
    (fun k hb hno => hk k hb fun e => hno nm C (e ▸ hL)) (fun _ h => h) (fun _ h => .inl h)
    (fun nm' b' C' h => ⟨Nat.lt_of_lt_of_le (hf.lB nm' b' C' h).2.1 h4, (hf.lB nm' b' C' h).2.2.1, .inr ⟨nm', C', h⟩⟩) hf.inj
  have hsr : SR lp I L { st with objs := putOb st.objs nm ob } tmv suf w' := hs.upd hL hI
    (fun m b' C' hm h => hk b' (hf.lB m b' C' h).2.1 fun e => hm (hf.inj m nm b' C' C h (e ▸ hL))) hob
  refine ⟨I, L, ?_, hfr⟩
  cases dst with
  | none => exact hsr
  | some d => exact hsr.put d hv
theorem sp_gone (hs : SR lp I L st tmv suf w) (hf : Fr cx w0 I0 F0 O0 Hd R e ds I F L w) {nm : Nm} {p : Option (Nat × Nat)} (hL : L nm = some p)
    (h1 : w'.os = w.os) (h2 : w'.tape = w.tape) (h3 : w'.output = w.output) (h4 : w.heap.size ≤ w'.heap.size) (hk : ∀ b', b' < w.heap.size → (∀ C, p ≠ some (b', C)) → w'.heap[b']? = w.heap[b']?)
    {u : PV} {v : Value} (hv : ∀ L' : Loc, RepV w' I lp (some L') u v) :
    ∃ I' L', SR lp I' L' (apply st dst { v := u, upd := some (nm, dead), kill := some nm }) (putV tmv dst v) suf w' ∧ Fr cx w0 I0 F0 O0 Hd R e ds I' F L' w' := by
  have hI : ∀ b', I b' → w'.heap[b']? = w.heap[b']? := fun b' hb' => hk b' (hf.sep.iB b' hb') fun C e => (hf.lB nm b' C (by rw [hL, e])).2.2.1 hb'
  have hu := hs.regrow (w' := w') (k := 0) (kt := 0) (xs := []) (p' := none) hL hI
    (fun m b' C' hm hn => hk b' (hf.lB m b' C' hn).2.1 fun C e => hm (hf.inj m nm b' C' C hn (by rw [hL, e]))) ⟨0, 0, rfl⟩
  refine ⟨I, (fun m => if m = nm then some none else L m), ?_, ?_⟩
  · cases dst with
    | none => exact hu
    | some d => exact hu.put d (hv _)
  · refine hf.own h1 h2 h3 h4 (fun b' hb' hn => hk b' hb' fun C e => hn nm C (by rw [hL, e])) (fun _ h => h) (fun _ h => .inl h) ?_ ?_
    · intro m b' C' hn
      by_cases hm : m = nm
      · simp [hm] at hn
      · simp only [hm, if_false] at hn
        exact ⟨by have := (hf.lB m b' C' hn).2.1; omega, (hf.lB m b' C' hn).2.2.1, .inr ⟨m, C', hn⟩⟩
    · intro m m' b' C1 C2 hn hn'
      by_cases hm : m = nm
      · simp [hm] at hn
      · by_cases hm' : m' = nm
        · simp [hm'] at hn'
        · simp only [hm, hm', if_false] at hn hn'
          exact hf.inj m m' b' C1 C2 hn hn'
theorem sp_new (hs : SR lp I L st tmv suf w) (hf : Fr cx w0 I0 F0 O0 Hd R e ds I F L w) (hd : ∀ d, dst = some d → st.objs[d]? = some []) (h : LawEnd w w') {k : Nat} {v : Value} {p : Option (Nat × Nat)}
    (hp : ∀ b C, p = some (b, C) → w.heap.size ≤ b ∧ b < w'.heap.size) (hob : ∀ L', ObAt w' I lp L' (.arr k 0 []) p) (hv : ∀ (L' : Loc) (nm : Nm), L' nm = some p → RepV w' I lp (some L') (.arr nm k 0 0) v) :
    ∃ I' L', SR lp I' L' (apply st dst { v := .arr (dst.getD 0, 0) k 0 0, new := [.arr k 0 []] }) (putV tmv dst v) suf w' ∧ Fr cx w0 I0 F0 O0 Hd R e ds I' F L' w' := by
  have hkk : SR lp I L st tmv suf w' := hs.keeps (fun _ h => h) (fun b hb => h.same b (hf.sep.iB b hb)) fun nm b C hn => h.same b (hf.lB nm b C hn).2.1
  cases dst with
  | none =>
    refine ⟨I, L, hkk, ?_⟩
    have hx : Ext I F w I F w' := ⟨h.os, h.tape, h.output, h.size, fun b hb _ => h.same b hb, fun _ h => h, fun _ h => .inl h, fun _ h => .inl h⟩
    have hi : IF I F w' := ⟨fun b hb => Nat.lt_of_lt_of_le (hf.sep.iB b hb) h.size, fun b hb => ⟨Nat.lt_of_lt_of_le (hf.sep.fB b hb).1 h.size, (hf.sep.fB b hb).2⟩⟩
    have hw : cx.Wd I w' := cx.stab I I w w' hf.wd (fun _ h => h) (fun b hb => h.same b (hf.sep.iB b hb)) h.size
    have hr : R.rel e I F w' := R.stab e I I F w w' hf.re (fun _ h => h) (fun b hb => h.same b (hb.elim (hf.sep.iB b) fun h => (hf.sep.fB b h).1)) h.size
    exact hf.called hx hi hw hr
  | some d =>
    have hd := hd d rfl
    have hn := hkk.news hd [.arr k 0 []] [p] rfl (by
      intro j ob' q h1 h2
      cases j with
      | zero => simp at h1 h2; subst h1; subst h2; exact hob _
      | succ j => simp at h1)
    refine ⟨I, locNew L d [p], hn.put d (hv _ (d, 0) (by simp [locNew])), Fr.news hf hd h.os h.tape h.output h.size (fun b hb => h.same b hb) ?_ ?_⟩
    · intro j b C hj
      cases j with
      | zero => simp at hj; exact hp b C hj
      | succ j => simp at hj
    · intro j j' b C C' h1 h2
      cases j with
      | zero =>
        cases j' with
        | zero => rfl
        | succ j' => simp at h2
      | succ j => simp at h1
end sp
theorem repL1 {w : World} {I : Nat → Prop} {lp : Nat → Option Nat} {L : Option Loc} {a : PV} {us : List Value} (h : RepL w I lp L [a] us) : ∃ u, us = [u] ∧ RepV w I lp L a u := by
  obtain ⟨u, r, h1, rfl, h2⟩ : ∃ u r, RepV w I lp L a u ∧ us = u :: r ∧ RepL w I lp L [] r := by
    cases h; exact ⟨_, _, by assumption, rfl, by assumption⟩
  cases h2
  exact ⟨u, rfl, h1⟩
theorem repL2 {w : World} {I : Nat → Prop} {lp : Nat → Option Nat} {L : Option Loc} {a b : PV} {us : List Value} (h : RepL w I lp L [a, b] us) : ∃ u v, us = [u, v] ∧ RepV w I lp L a u ∧ RepV w I lp L b v := by
  obtain ⟨u, r, h1, rfl, h2⟩ : ∃ u r, RepV w I lp L a u ∧ us = u :: r ∧ RepL w I lp L [b] r := by
    cases h; exact ⟨_, _, by assumption, rfl, by assumption⟩
  obtain ⟨v, rfl, h3⟩ := repL1 h2
  exact ⟨u, v, rfl, h1, h3⟩
theorem setCell_same {W : World} {b o : Nat} {c : Array Value} {n : Value} {E' : TypeId} {fr : Nat × Nat} (h : W.heap[b]? = some (.cells c E' fr)) : (W.setCell ⟨b, o, none⟩ n).heap[b]? = some (.cells (c.setIfInBounds o n) E' fr) := by
  simp [World.setCell, Array.getElem?_modify, h]
theorem size_setCell (W : World) (a : Addr) (n : Value) : (W.setCell a n).heap.size = W.heap.size := by simp [World.setCell]
theorem cell_of_heap {w w' : World} {b : Nat} (h : w'.heap[b]? = w.heap[b]?) (o : Nat) : w'.cell? ⟨b, o, none⟩ = w.cell? ⟨b, o, none⟩ := by
  simp only [World.cell?, h]
theorem arr_one {c : Array Value} (h : c.size = 1) : ∃ n, c = #[n] := by
  refine ⟨c[0], ?_⟩
  apply Array.ext
  · simp [h]
  · intro i h1 h2
    have : i = 0 := by omega
    subst this; rfl
end Go.Ab


namespace Go.Ab.Shape
open Go Go.Ab Go.Proofs
structure Vars (w : World) : Prop where
  et : w.cell? ⟨0, 0, none⟩ = some (.iface 112 (.agg #[.pointer (some ⟨7, 53, none⟩)]))
noncomputable def cx0 : Cx where
  P := Tryz.prog
  mixed := by kernel_rfl
  G := fun _ => none
  Wd I w := I 0 ∧ Vars w
  stab I I' w w' h h1 h2 _ := by
    obtain ⟨a, et⟩ := h
    exact ⟨h1 0 a, ⟨by rw [cell_of_heap (h2 0 a)]; exact et.et⟩⟩
  gl I w g cs _ h := by cases h
theorem enters64 : Enters cx0.P 64 := ⟨_, Tryz.func64, by rfl, by rfl⟩
theorem enters95 : Enters cx0.P 95 := ⟨_, Tryz.func95, by rfl, by rfl⟩
theorem enters90 : Enters cx0.P 90 := ⟨_, Tryz.func90, by rfl, by rfl⟩
theorem enters87 : Enters cx0.P 87 := ⟨_, Tryz.func87, by rfl, by rfl⟩
theorem enters74 : Enters cx0.P 74 := ⟨_, Tryz.func74, by rfl, by rfl⟩
theorem count_eq (c : UInt8) : ∀ s : List UInt8, countB c s = Lib.countByte s c
  | [] => rfl
  | x :: xs => by
    unfold countB
    rw [count_eq c xs]
    unfold Lib.countByte
    rw [List.count_cons]
    by_cases h : x = c
    · simp [h, Nat.add_comm]
    · simp [h]
theorem repL_bytes {w : World} {I : Nat → Prop} {lp : Nat → Option Nat} {L : Option Loc} : ∀ (xs : List PV) (vs : List Value) (s : List UInt8), RepL w I lp L xs vs → bytesOf xs = some s → ∀ (j : Nat) (x : UInt8), s[j]? = some x → vs[j]? = some (.int .u8 (x.toNat : Int))
  | [], _, s, _, h, j, x, hj => by cases h; simp at hj
  | p :: xs, _, s, h, hb, j, x, hj => by
    cases h with
    | cons _ v _ vs hv hs =>
      simp only [bytesOf] at hb
      split at hb
      · rename_i b bs h1 h2
        cases hb
        have hp : v = .int .u8 (b.toNat : Int) := by
          unfold byteOf at h1
          split at h1
          · rename_i n
            split at h1
            · rename_i hn
              cases h1
              rw [inv_int hv]
              congr 1
              simp
              omega
            · cases h1
          · cases h1
        cases j with
        | zero => simp at hj; subst hj; simp [hp]
        | succ j => simp at hj ⊢; exact repL_bytes xs vs bs hs h2 j x hj
      · cases hb
theorem bytesOf_len : ∀ (xs : List PV) (s : List UInt8), bytesOf xs = some s → s.length = xs.length
  | [], s, h => by cases h; rfl
  | p :: xs, s, h => by
    simp only [bytesOf] at h
    split at h
    · rename_i b bs h1 h2
      cases h
      simp [bytesOf_len xs bs h2]
    · cases h
theorem cells_flat : ∀ (xs : List PV) (s : List UInt8), bytesOf xs = some s → cellsL xs = xs
  | [], _, _ => rfl
  | p :: xs, s, h => by
    simp only [bytesOf] at h
    split at h
    · rename_i b bs h1 h2
      have hp : p.cells = [p] := by
        unfold byteOf at h1
        split at h1
        · rfl
        · cases h1
      simp [cellsL, hp, cells_flat xs bs h2]
    · cases h
theorem arr_two {c : Array Value} {a b : Value} (h : c.toList = [a, b]) : c = #[a, b] := by
  apply Array.toList_inj.1
  simpa using h
theorem freeze_other {W : World} {a : Addr} {n k : Nat} (h : k ≠ a.block) : (W.freeze a n).heap[k]? = W.heap[k]? := by
  unfold World.freeze
  split
  · rfl
  · simp [Array.getElem?_modify, Ne.symm h]
theorem sp_ok : SpOK cx0 sp0 := by
  intro g st vs out h
  unfold sp0 at h
  split at h
  ·
    rename_i hg
    subst hg
    unfold spAs at h
    split at h
    · split at h
      · rename_i hp
        obtain ⟨rfl, rfl⟩ := hp
        cases h
        refine ⟨enters64, ?_⟩
        intro E w0 I0 F0 O0 Hd R e ds I F lp L tmv suf us w dst hs hf hu hd
        obtain ⟨u, v, rfl, h1, h2⟩ := repL2 hu
        rw [inv_nilI h1]
        refine callsIn_wide.2 ((Go.Proofs.AbAsZ.as_nil v w).mono ?_)
        rintro ev w' ⟨rfl, rfl⟩
        exact sp_pure hs hf (lawEnd_refl _) (.bool false)
      · cases h
    · split at h
      · rename_i t x p nm o _ ty cs hlk
        split at h
        · rename_i hp
          obtain ⟨rfl, rfl, rfl, hc1, hx1⟩ := hp
          cases h
          refine ⟨enters64, ?_⟩
          intro E w0 I0 F0 O0 Hd R e ds I F lp L tmv suf us w dst hs hf hu hd
          obtain ⟨u, v, rfl, h1, h2⟩ := repL2 hu
          obtain ⟨u', rfl, hx⟩ := inv_iface h1
          obtain ⟨v', rfl, hr⟩ := inv_iface h2
          obtain ⟨b, C, hL, rfl⟩ := inv_ref hr
          obtain ⟨q, hq, hob⟩ := hs.ob nm _ hlk
          rw [hL] at hq; cases hq
          obtain ⟨c, E', hb, hC, hone, hcs⟩ := hob
          unfold okCells at hx1
          simp only [Bool.and_eq_true, beq_iff_eq] at hx1
          obtain ⟨hu1, hu2⟩ := hx.cells hx1.1
          have len1 : u'.cells.size = 1 := by
            have := hu2.length
            simpa [hx1.2] using this.symm
          have lenc : c.size = 1 := by
            have := hcs.length
            simpa [hc1] using this.symm
          obtain ⟨n, hn⟩ : ∃ n, u'.cells = #[n] := arr_one len1
          obtain ⟨old, rfl⟩ : ∃ n, c = #[n] := arr_one lenc
          have hn1 : n.oneCell' = true := hu1 n (by simp [hn])
          have hbl : b < w.heap.size := (hf.lB nm b C hL).2.1
          refine callsIn_wide.2 ((Go.Proofs.AbAsZ.as_hit u' n hn hn1 ⟨b, 0, none⟩ old w hf.wd.2.et (by simp [World.cell?, hb]) (by simp [World.frozen?, hb])).mono ?_)
          rintro ev w' ⟨rfl, hw'⟩
          have hother : ∀ k, k < w.heap.size → k ≠ b → w'.heap[k]? = w.heap[k]? := fun k hk hkb => by
            subst hw'
            rw [Go.RowKit.Below.heap_setCell _ _ _ _ hkb, heap_alloc_lt _ _ (by simp; omega), heap_alloc_lt _ _ (by simp; omega), heap_alloc_lt _ _ (by simp; omega), heap_alloc_lt _ _ hk]
          have hself : w'.heap[b]? = some (.cells #[n] E' (0, 0)) := by
            subst hw'
            suffices key : ((((w.alloc (.cells #[.pointer (some ⟨b, 0, none⟩)] 74)).alloc (.cells #[.pointer (some ⟨7, 74, none⟩), .pointer (some ⟨w.heap.size, 0, none⟩), .int .u64 150] 97)).alloc (.cells #[.pointer (some ⟨7, 74, none⟩), .pointer (some ⟨w.heap.size, 0, none⟩), .int .u64 150] 97)).alloc (.cells #[n] 72)).heap[b]? = some (.cells #[old] E' (0, 0)) by
              have := setCell_same (o := 0) (n := n) key
              simpa using this
            rw [heap_alloc_lt _ _ (by simp; omega), heap_alloc_lt _ _ (by simp; omega), heap_alloc_lt _ _ (by simp; omega), heap_alloc_lt _ _ hbl]
            exact hb
          have hI : ∀ k, I k → w'.heap[k]? = w.heap[k]? := fun k hk => hother k (hf.sep.iB k hk) fun e => (hf.lB nm b C hL).2.2.1 (e ▸ hk)
          refine sp_turn hs hf hL (by subst hw'; rfl) (by subst hw'; rfl) (by subst hw'; rfl) (by subst hw'; rw [size_setCell]; simp; omega) hother ?_ (.bool true)
          exact ⟨#[n], E', hself, hC, ⟨fun v hv => by simp at hv; subst hv; exact hn1, hone.2⟩, RepL.mono (fun _ h => h) hI (fun _ _ h => h) (by rw [hn] at hu2; exact hu2)⟩
        · cases h
      · cases h
    · cases h
  split at h
  ·
    rename_i hg
    subst hg
    unfold spCount at h
    split at h
    · cases h
      refine ⟨enters95, ?_⟩
      intro E w0 I0 F0 O0 Hd R e ds I F lp L tmv suf us w dst hs hf hu hd
      obtain ⟨u, v, rfl, h1, h2⟩ := repL2 hu
      rw [inv_str h1, inv_str h2]
      refine callsIn_wide.2 ((Go.Proofs.AbQ.count_one _ _ w).mono ?_)
      rintro ev w' ⟨rfl, rfl⟩
      refine sp_pure hs hf (lawEnd_refl _) ?_
      rw [count_eq]
      exact .int _ _
    · cases h
  split at h
  ·
    rename_i hg
    subst hg
    unfold spGrow at h
    split at h
    · rename_i n
      split at h
      · rename_i hn
        cases h
        refine ⟨enters90, ?_⟩
        intro E w0 I0 F0 O0 Hd R e ds I F lp L tmv suf us w dst hs hf hu hd
        obtain ⟨u, v, rfl, h1, h2⟩ := repL2 hu
        rw [inv_nilS h1, inv_int h2]
        obtain ⟨m, rfl⟩ : ∃ m : Nat, n = (m : Int) := ⟨n.toNat, by omega⟩
        have hv : (PV.arr (0, 0) 1 0 0).ren (renNew (dst.getD 0)) = .arr (dst.getD 0, 0) 1 0 0 := rfl
        by_cases hm : m = 0
        · subst hm
          refine callsIn_wide.2 ((Go.Proofs.AbQ.grow_zero w).mono ?_)
          rintro ev w' ⟨rfl, rfl⟩
          simp only [hv]
          exact sp_new hs hf hd (lawEnd_refl _) (p := none) (fun b C h => by cases h) (fun L' => ⟨1, 0, rfl⟩) (fun L' nm h => .arrN nm 1 h)
        · refine callsIn_wide.2 ((Go.Proofs.AbQ.grow_some m w (by omega) (by omega)).mono ?_)
          rintro ev w' ⟨G, row, rfl, hG, rfl⟩
          simp only [hv]
          have hle : LawEnd w (w.drew.alloc (.cells row 2)) := ⟨rfl, rfl, rfl, by simp, fun b hb => heap_alloc_lt w.drew _ hb⟩
          refine sp_new hs hf hd hle (p := some (w.heap.size, row.size)) (fun b C h => by cases h; exact ⟨Nat.le_refl _, by simp⟩)
            (fun L' => ⟨row, 2, alloc_heap_new' w.drew _, rfl, ⟨by simp, .inl rfl⟩, by simp, by simp [One], by simp; exact .nil⟩) (fun L' nm h => ?_)
          have := RepV.arr (w := w.drew.alloc (.cells row 2)) (I := I) (lp := lp) (L := L') nm 1 0 0 G w.heap.size row.size h (by simpa using hG) (Nat.zero_le _)
          simpa using this
      · cases h
    · cases h
  split at h
  ·
    rename_i hg
    subst hg
    unfold spCheck at h
    split at h
    · rename_i n
      split at h
      · rename_i x hlk
        cases h
        refine ⟨enters87, ?_⟩
        intro E w0 I0 F0 O0 Hd R e ds I F lp L tmv suf us w dst hs hf hu hd
        obtain ⟨u, rfl, hr⟩ := repL1 hu
        obtain ⟨b, C, hL, rfl⟩ := inv_ref hr
        obtain ⟨q, hq, hob⟩ := hs.ob n _ hlk
        rw [hL] at hq; cases hq
        obtain ⟨c, E', hb, hC, hone, hcs⟩ := hob
        obtain ⟨v0, v1, hc, r0, r1⟩ := repL2 hcs
        have hc := arr_two hc
        subst hc
        obtain rfl : E' = 81 := hone.2.resolve_left (by decide)
        rw [inv_nilP r0] at hb
        refine callsIn_wide.2 ((Go.Proofs.AbQ.check_fresh b w (by simp [World.cell?, hb]) (by simp [World.shape?, hb]) (by simp [World.frozen?, hb])).mono ?_)
        rintro ev w' ⟨rfl, rfl⟩
        have hself := setCell_same (o := 0) (n := .pointer (some ⟨b, 0, none⟩)) hb
        have hI : ∀ k, I k → (w.setCell ⟨b, 0, none⟩ (.pointer (some ⟨b, 0, none⟩))).heap[k]? = w.heap[k]? := fun k hk => Go.RowKit.Below.heap_setCell _ _ _ _ fun (e : k = b) => (hf.lB n b C hL).2.2.1 (e ▸ hk)
        refine sp_turn (w' := w.setCell ⟨b, 0, none⟩ (.pointer (some ⟨b, 0, none⟩))) hs hf hL rfl rfl rfl (by rw [size_setCell]; exact Nat.le_refl _) (fun k _ hk => Go.RowKit.Below.heap_setCell _ _ _ _ hk) ?_ (.tup [] #[] .nil)
        refine ⟨_, 81, hself, by simpa using hC, ⟨?_, .inr rfl⟩, ?_⟩
        · intro v hv
          simp at hv
          rcases hv with rfl | rfl
          · rfl
          · exact hone.1 _ (by simp)
        · simp
          exact .cons _ _ _ _ (.ref n 0 b C hL) (.cons _ _ _ _ (RepV.mono (fun _ h => h) hI (fun _ _ h => h) r1) .nil)
      · rename_i n' x hlk
        split at h
        · rename_i hn
          subst hn
          cases h
          refine ⟨enters87, ?_⟩
          intro E w0 I0 F0 O0 Hd R e ds I F lp L tmv suf us w dst hs hf hu hd
          obtain ⟨u, rfl, hr⟩ := repL1 hu
          obtain ⟨b, C, hL, rfl⟩ := inv_ref hr
          obtain ⟨q, hq, hob⟩ := hs.ob _ _ hlk
          rw [hL] at hq; cases hq
          obtain ⟨c, E', hb, hC, hone, hcs⟩ := hob
          obtain ⟨v0, v1, hc, r0, r1⟩ := repL2 hcs
          have hc := arr_two hc
          subst hc
          obtain ⟨b', C', hL', rfl⟩ := inv_ref r0
          rw [hL] at hL'; cases hL'
          refine callsIn_wide.2 ((Go.Proofs.AbQ.check_used b w (by simp [World.cell?, hb])).mono ?_)
          rintro ev w' ⟨rfl, rfl⟩
          exact sp_pure hs hf (lawEnd_refl _) (.tup [] #[] .nil)
        · cases h
      · cases h
    · cases h
  split at h
  ·
    rename_i hg
    subst hg
    unfold spStr at h
    split at h
    · rename_i n
      split at h
      · rename_i x hlk
        cases h
        refine ⟨enters74, ?_⟩
        intro E w0 I0 F0 O0 Hd R e ds I F lp L tmv suf us w dst hs hf hu hd
        obtain ⟨u, rfl, hr⟩ := repL1 hu
        obtain ⟨b, C, hL, rfl⟩ := inv_ref hr
        obtain ⟨q, hq, hob⟩ := hs.ob _ _ hlk
        rw [hL] at hq; cases hq
        obtain ⟨c, E', hb, hC, hone, hcs⟩ := hob
        obtain ⟨v0, v1, hc, r0, r1⟩ := repL2 hcs
        have hc := arr_two hc
        subst hc
        obtain rfl : E' = 81 := hone.2.resolve_left (by decide)
        rw [inv_nilS r1] at hb
        refine callsIn_wide.2 ((Go.Proofs.AbQ.string_nil b v0 w hb).mono ?_)
        rintro ev w' ⟨rfl, rfl⟩
        exact sp_pure (w' := w.drew) hs hf ⟨rfl, rfl, rfl, Nat.le_refl _, fun _ _ => rfl⟩ (.str [])
      · rename_i x n' k hlk
        split at h
        · rename_i xs hlk'
          split at h
          · rename_i s hs'
            split at h
            · rename_i hc0
              obtain ⟨hnn, hk0, hkl, hkm⟩ := hc0
              cases h
              refine ⟨enters74, ?_⟩
              intro E w0 I0 F0 O0 Hd R e ds I F lp L tmv suf us w dst hs hf hu hd
              obtain ⟨u, rfl, hr⟩ := repL1 hu
              obtain ⟨b, C, hL, rfl⟩ := inv_ref hr
              obtain ⟨q, hq, hob⟩ := hs.ob _ _ hlk
              rw [hL] at hq; cases hq
              obtain ⟨c, E', hb, hC, hone, hcs⟩ := hob
              obtain ⟨v0, v1, hc, r0, r1⟩ := repL2 hcs
              have hc := arr_two hc
              subst hc
              obtain rfl : E' = 81 := hone.2.resolve_left (by decide)
              obtain ⟨q', hq', hob'⟩ := hs.ob _ _ hlk'
              rcases inv_arr r1 with ⟨g, C', cap, hL', rfl, hC', hn⟩ | ⟨_, _, _, h0⟩
              · rw [hL'] at hq'; cases hq'
                obtain ⟨cur, E2, hg, hCg, hle, hkx, hone2, hrep⟩ := hob'
                obtain rfl : E2 = 5 := hle.2.resolve_left (by decide)
                have hlen := bytesOf_len _ _ hs'
                rw [List.length_take, Nat.min_eq_left hkl] at hlen
                have hrk : RepL w I lp none (xs.take k) (cur.toList.take k) := by
                  have h1 := hrep.take k
                  rw [show k = k * 1 by omega, ← cellsL_take hkx, cells_flat _ _ hs', List.take_take, Nat.min_eq_left (by omega)] at h1
                  simpa using h1
                have hbytes := repL_bytes _ _ _ hrk hs'
                have hcur : k ≤ cur.size := by have := hle.1; omega
                subst hlen
                refine callsIn_wide.2 ((Go.Proofs.AbQ.string_some b g cap v0 cur s w (by simpa using hb) hg (by intro e; subst e; simp at hk0) hn hcur ?_ ?_).mono ?_)
                · unfold mostLen at hkm; omega
                · intro j x hx
                  have hj : j < s.length := (List.getElem?_eq_some_iff.1 hx).1
                  have h1 := hbytes j x hx
                  rw [List.getElem?_take_of_lt hj] at h1
                  simpa using h1
                · rintro ev w' ⟨rfl, rfl⟩
                  have hfz : ∀ (W : World) (a : Addr) (n : Nat), (W.freeze a n).os = W.os ∧ (W.freeze a n).tape = W.tape ∧ (W.freeze a n).output = W.output ∧ (W.freeze a n).heap.size = W.heap.size := fun W a n => by
                    unfold World.freeze
                    split <;> simp
                  obtain ⟨f1, f2, f3, f4⟩ := hfz w.drew ⟨g, 0, none⟩ s.length
                  refine sp_gone (w' := w.drew.freeze ⟨g, 0, none⟩ s.length) hs hf hL' f1 f2 f3 (Nat.le_of_eq f4.symm) (fun k' hk' hne => ?_) (fun L' => .str s)
                  rw [freeze_other (fun e => hne C' (by rw [e]))]
                  rfl
              · omega
            · cases h
          · cases h
        · cases h
      · cases h
    · cases h
  · cases h
end Go.Ab.Shape


namespace Go.Ab
open Go Go.ChangeShapes Go.WideShapes Go.RowKit
inductive DTy where
  | bool
  | int (k : IntKind)
  | str
  | slice (e : DTy)
  | struct (fs : List DTy)
mutual
def DTy.cells : DTy → Nat
  | .struct fs => DTy.cellsL fs
  | .bool | .int _ | .str | .slice _ => 1
def DTy.cellsL : List DTy → Nat
  | [] => 0
  | d :: ds => d.cells + DTy.cellsL ds
end
mutual
def isD (P : Program) : Nat → DTy → TypeId → Bool
  | 0, _, _ => false
  | n + 1, D, t => match D, P.underlying t with
    | .bool, some .bool => true
    | .int k, some (.int k') => k' == k
    | .str, some .string => true
    | .slice e, some (.slice et) => isD P n e et && P.cellsOf et == e.cells && decide (0 < e.cells)
    | .struct fs, some (.struct fields) => P.cellsOf t == DTy.cellsL fs && isFs P n 0 fs fields.toList
    | _, _ => false
def isFs (P : Program) : Nat → Nat → List DTy → List Field → Bool
  | 0, _, _, _ => false
  | _ + 1, _, [], [] => true
  | n + 1, off, D :: ds, f :: fs => f.offset == off && P.cellsOf f.type == D.cells && isD P n D f.type && isFs P n (off + D.cells) ds fs
  | _ + 1, _, _, _ => false
end
mutual
def HasV : DTy → PV → Prop
  | .bool, v => ∃ b, v = .bool b
  | .int k, v => ∃ n, v = .int k n ∧ (Lit.int k n).wf = true
  | .str, v => ∃ s, v = .str s ∧ s.length ≤ maxLen
  | .slice e, v => v = .nilS ∨ ∃ xs, v = .sl e.cells xs false ∧ xs.length ≤ maxLen ∧ ∀ x ∈ xs, HasV e x
  | .struct fs, v => ∃ vs, v = .agg (cellsL vs) ∧ HasVs fs vs
def HasVs : List DTy → List PV → Prop
  | [], vs => vs = []
  | D :: fs, vs => ∃ v r, vs = v :: r ∧ HasV D v ∧ HasVs fs r
end
theorem repL1' {w : World} {I : Nat → Prop} {lp : Nat → Option Nat} {L : Option Loc} {a : PV} {us : List Value} (h : RepL w I lp L [a] us) : ∃ u, us = [u] ∧ RepV w I lp L a u := by
  obtain ⟨u, r, h1, rfl, h2⟩ : ∃ u r, RepV w I lp L a u ∧ us = u :: r ∧ RepL w I lp L [] r := by
    cases h; exact ⟨_, _, by assumption, rfl, by assumption⟩
  cases h2
  exact ⟨u, rfl, h1⟩
section
variable {H : Type} {enc : TypeId × Value → H} {P : Program} {w : World} {I : Nat → Prop} {lp : Nat → Option Nat} {held : Bool} {sp : Nat → Bool}
def RepD (w : World) (I : Nat → Prop) (lp : Nat → Option Nat) (D : DTy) (cs : List Value) : Prop := ∃ v : PV, HasV D v ∧ RepL w I lp none v.cells cs ∧ One cs ∧ v.cells.length = D.cells
theorem cells?_get {base : Nat} {a : Addr} {n : Nat} {l : List Value} (h : w.cells? base a n = some l) : l.length = n ∧ ∀ i, i < n → w.cell? (a.add i) = l[i]? := by
  obtain ⟨_, h1, h2⟩ := World.cells?_some h
  exact ⟨h1, fun i hi => by rw [h2 i hi]⟩
theorem cell?_row {a : Addr} {v : Value} (h : w.cell? a = some v) : ∃ c E fr, w.heap[a.block]? = some (.cells c E fr) ∧ a.spot = none ∧ c[a.off]? = some v := by
  unfold World.cell? at h
  split at h
  · rename_i c E fr hb
    split at h
    · cases h
    · rename_i hs
      exact ⟨c, E, fr, hb, by simpa using hs, h⟩
  · cases h
theorem addr_off (a : Addr) (h : a.spot = none) (i : Nat) : a.add i = ⟨a.block, a.off + i, none⟩ := by
  unfold Addr.add
  split
  · rename_i hi; subst hi; cases a; simp_all
  · rfl
theorem list_rep {e : DTy} (hI : ∀ b, b < w.heap.size → I b) {a : Addr} {len cap : Nat} (hlc : len ≤ cap) (hcm : cap ≤ maxLen) (hpos : 0 < e.cells)
    (hel : ∀ i, i < len → ∃ cs, w.cells? 0 (a.add (i * e.cells)) e.cells = some cs ∧ RepD w I lp e cs) : RepD w I lp (.slice e) [.slice (some a) len cap] := by
  by_cases h0 : len = 0
  · subst h0
    exact ⟨.sl e.cells [] false, .inr ⟨[], rfl, Nat.zero_le _, fun x hx => by cases hx⟩, .cons _ _ _ _ (.slE _ _ _ _ (fun h => by cases h)) .nil, by simp [One, Value.oneCell'], rfl⟩
  · obtain ⟨cs0, hcs0, _⟩ := hel 0 (by omega)
    obtain ⟨hl0, hg0⟩ := cells?_get hcs0
    have hf := hg0 0 hpos
    rw [Nat.zero_mul] at hf
    have e0 : (a.add 0).add 0 = a := by simp [Addr.add]
    rw [e0, List.getElem?_eq_getElem (by omega)] at hf
    obtain ⟨c, E, fr, hb, hs, _⟩ := cell?_row hf
    have hblt : a.block < w.heap.size := (Array.getElem?_eq_some_iff.1 hb).1
    have each : ∀ i, i < len → ∃ v : PV, HasV e v ∧ v.cells.length = e.cells ∧ (a.off + i * e.cells) + e.cells ≤ c.size ∧ One ((c.toList.drop (a.off + i * e.cells)).take e.cells) ∧ RepL w I lp none v.cells ((c.toList.drop (a.off + i * e.cells)).take e.cells) := by
      intro i hi
      obtain ⟨cs, hcs, v, h1, h2, h3, h4⟩ := hel i hi
      obtain ⟨hl, hg⟩ := cells?_get hcs
      have key : ∀ j, j < e.cells → c[a.off + i * e.cells + j]? = cs[j]? := by
        intro j hj
        have := hg j hj
        rw [addr_off a hs, addr_off _ rfl, cell_row hb] at this
        exact this
      have hsz : a.off + i * e.cells + e.cells ≤ c.size := by
        have := key (e.cells - 1) (by omega)
        rw [List.getElem?_eq_getElem (by omega)] at this
        have := (Array.getElem?_eq_some_iff.1 this).1
        omega
      have e1 : (c.toList.drop (a.off + i * e.cells)).take e.cells = cs := by
        apply List.ext_getElem?
        intro j
        by_cases hj : j < e.cells
        · rw [List.getElem?_take_of_lt hj, List.getElem?_drop, ← key j hj]; simp
        · rw [List.getElem?_eq_none (by simp; omega), List.getElem?_eq_none (by omega)]
      exact ⟨v, h1, h4, hsz, by rw [e1]; exact h3, by rw [e1]; exact h2⟩
    have all : ∀ n, n ≤ len → ∃ xs : List PV, xs.length = n ∧ (∀ x ∈ xs, HasV e x) ∧ (∀ x ∈ xs, x.cells.length = e.cells) ∧ a.off + n * e.cells ≤ c.size ∧ One ((c.toList.drop a.off).take (n * e.cells)) ∧ RepL w I lp none (cellsL xs) ((c.toList.drop a.off).take (n * e.cells)) := by
      intro n
      induction n with
      | zero =>
        intro _
        refine ⟨[], rfl, by simp, by simp, ?_, by simp [One], by simp; exact .nil⟩
        obtain ⟨_, _, _, h, _⟩ := each 0 (by omega)
        omega
      | succ n ih =>
        intro hn
        obtain ⟨xs, h1, h2, h3, h4, h5, h6⟩ := ih (by omega)
        obtain ⟨v, g1, g2, g3, g4, g5⟩ := each n (by omega)
        have e2 : (c.toList.drop a.off).take ((n + 1) * e.cells) = (c.toList.drop a.off).take (n * e.cells) ++ (c.toList.drop (a.off + n * e.cells)).take e.cells := by
          rw [Nat.add_mul, Nat.one_mul, List.take_add, List.drop_drop]
        refine ⟨xs ++ [v], by simp [h1], ?_, ?_, by rw [Nat.add_mul]; omega, ?_, ?_⟩
        · intro x hx
          rcases List.mem_append.1 hx with hx | hx
          · exact h2 x hx
          · simp at hx; subst hx; exact g1
        · intro x hx
          rcases List.mem_append.1 hx with hx | hx
          · exact h3 x hx
          · simp at hx; subst hx; exact g2
        · rw [e2]; exact h5.append' g4
        · rw [e2, cellsL_append]
          refine h6.append ?_
          simpa [cellsL] using g5
    obtain ⟨xs, h1, h2, h3, h4, h5, h6⟩ := all len (Nat.le_refl _)
    have ea : a = ⟨a.block, a.off, none⟩ := by cases a; simp_all
    refine ⟨.sl e.cells xs false, .inr ⟨xs, rfl, by omega, h2⟩, ?_, by simp [One, Value.oneCell'], rfl⟩
    rw [ea, ← h1]
    exact .cons _ _ _ _ (.sl e.cells xs false a.block a.off cap c E fr (hI _ hblt) hb (by rw [h1]; exact h4) h3 (by omega) (fun h => by cases h) (by rw [h1]; exact h5) (by rw [h1]; exact h6)) .nil
theorem struct_rep {n : Nat} (ih : ∀ (m : Nat) (D : DTy) (t : TypeId) (cs : List Value) (x : DataW H × List MemPlace), isD P m D t = true → DataW.trod enc P w 0 (fun _ => true) held n t cs = some x → RepD w I lp D cs) :
    ∀ (m : Nat) (ds : List DTy) (fs : List Field) (off : Nat) (cs : List Value) (xs : List (DataW H × List MemPlace)), isFs P m off ds fs = true → xs.length = fs.length → cs.length = off + DTy.cellsL ds →
    (∀ (i : Nat) (f : Field), fs[i]? = some f → DataW.trod enc P w 0 (fun _ => true) held n f.type ((cs.drop f.offset).take (P.cellsOf f.type)) = xs[i]?) →
    ∃ vs : List PV, HasVs ds vs ∧ RepL w I lp none (cellsL vs) (cs.drop off) ∧ One (cs.drop off) ∧ (cellsL vs).length = DTy.cellsL ds := by
  intro m
  induction m with
  | zero => intro ds fs off cs xs h; cases h
  | succ m ihm =>
    intro ds fs off cs xs h hl hc hf
    match ds, fs, h with
    | [], [], _ =>
      refine ⟨[], rfl, ?_, ?_, rfl⟩
      · rw [List.drop_of_length_le (by simp [DTy.cellsL] at hc; omega)]; exact .nil
      · rw [List.drop_of_length_le (by simp [DTy.cellsL] at hc; omega)]; simp [One]
    | D :: ds, f :: fs, h =>
      simp only [isFs, Bool.and_eq_true, beq_iff_eq] at h
      obtain ⟨⟨⟨h1, h2⟩, h3⟩, h4⟩ := h
      match xs, hl with
      | x :: xs, hl =>
        have hx := hf 0 f rfl
        rw [h1, h2] at hx
        obtain ⟨v, g1, g2, g3, g4⟩ := ih m D f.type _ x h3 hx
        simp only [DTy.cellsL] at hc
        obtain ⟨vs, k1, k2, k3, k4⟩ := ihm ds fs (off + D.cells) cs xs h4 (by simpa using hl) (by omega) (fun i f hi => by simpa using hf (i + 1) f (by simpa using hi))
        have e1 : cs.drop off = (cs.drop off).take D.cells ++ cs.drop (off + D.cells) := by rw [← List.drop_drop, List.take_append_drop]
        refine ⟨v :: vs, ⟨v, vs, rfl, g1, k1⟩, ?_, ?_, by simp [cellsL, DTy.cellsL, g4, k4]⟩
        · rw [e1]; exact g2.append k2
        · rw [e1]; exact g3.append' k3
theorem rep_of_trod (hI : ∀ b, b < w.heap.size → I b) : ∀ (fuel m : Nat) (D : DTy) (t : TypeId) (cs : List Value) (x : DataW H × List MemPlace), isD P m D t = true → DataW.trod enc P w 0 (fun _ => true) held fuel t cs = some x → RepD w I lp D cs := by
  intro fuel
  induction fuel with
  | zero => intro m D t cs x _ h; simp [DataW.trod] at h
  | succ fuel ih =>
    intro m D t cs x hD h
    cases m with
    | zero => cases hD
    | succ m =>
      cases hu : P.underlying t with
      | none => cases D <;> simp [isD, hu] at hD
      | some d =>
        cases D with
        | bool =>
          cases d <;> simp [isD, hu] at hD
          obtain ⟨b, rfl, _⟩ := DataW.trod_bool hu h
          exact ⟨.bool b, ⟨b, rfl⟩, .cons _ _ _ _ (.bool b) .nil, by simp [One, Value.oneCell'], rfl⟩
        | int k =>
          cases d <;> simp [isD, hu] at hD
          subst hD
          obtain ⟨n, rfl, _, hw⟩ := DataW.trod_int hu h
          exact ⟨.int _ n, ⟨n, rfl, hw⟩, .cons _ _ _ _ (.int _ n) .nil, by simp [One, Value.oneCell'], rfl⟩
        | str =>
          cases d <;> simp [isD, hu] at hD
          obtain ⟨s, rfl, _, hw⟩ := DataW.trod_string hu h
          obtain ⟨l, rfl⟩ : ∃ l : List UInt8, s = ⟨l.toArray⟩ := ⟨s.data.toList, by cases s; simp⟩
          exact ⟨.str l, ⟨l, rfl, by simpa [ByteArray.size] using hw⟩, .cons _ _ _ _ (.str l) .nil, by simp [One, Value.oneCell'], rfl⟩
        | slice e =>
          cases d <;> simp [isD, hu] at hD
          rename_i et
          obtain ⟨⟨h1, h2⟩, h3⟩ := hD
          rcases DataW.trod_slice hu h with ⟨rfl, _⟩ | ⟨a, len, cap, elems, rest, n, hn, rfl, _, _, hl, hm, hlen, hel, _⟩
          · exact ⟨.nilS, .inl rfl, .cons _ _ _ _ .nilS .nil, by simp [One, Value.oneCell'], rfl⟩
          · cases hn
            refine list_rep hI hl hm h3 fun i hi => ?_
            have := hel i hi
            rw [List.getElem?_eq_getElem (by omega), Option.bind_eq_some_iff, h2] at this
            obtain ⟨cs, hcs, hx⟩ := this
            exact ⟨cs, hcs, ih m e et cs _ h1 hx⟩
        | struct ds =>
          cases d <;> simp [isD, hu] at hD
          rename_i fields
          obtain ⟨h1, h2⟩ := hD
          obtain ⟨xs, n, hn, _, hl, hlen, hf⟩ := DataW.trod_struct hu h
          cases hn
          obtain ⟨vs, k1, k2, k3, k4⟩ := struct_rep ih m ds fields.toList 0 cs xs h2 (by simpa using hlen) (by rw [hl, h1]; omega) (fun i f hi => hf i f (by simpa using hi))
          rw [List.drop_zero] at k2 k3
          exact ⟨.agg (cellsL vs), ⟨vs, rfl, k1⟩, k2, k3, by simpa [PV.cells, DTy.cells] using k4⟩
variable {w' : World} {sp' : Nat → Bool}
theorem cell?_keep (hk : ∀ b, b < w.heap.size → w'.heap[b]? = w.heap[b]?) {a : Addr} {v : Value} (h : w.cell? a = some v) : a.block < w.heap.size ∧ w'.cell? a = some v := by
  obtain ⟨c, E, fr, hb, hs, hv⟩ := cell?_row h
  have hlt : a.block < w.heap.size := (Array.getElem?_eq_some_iff.1 hb).1
  refine ⟨hlt, ?_⟩
  unfold World.cell?
  rw [hk _ hlt, hb]
  simp [hs, hv]
theorem mapM_congr' {α β : Type} {f g : α → Option β} : ∀ (l : List α) {ys : List β}, l.mapM f = some ys → (∀ x ∈ l, ∀ y, f x = some y → g x = some y) → l.mapM g = some ys
  | [], ys, h, _ => by simpa using h
  | x :: l, ys, h, hg => by
    rw [List.mapM_cons] at h ⊢
    simp only [Option.bind_eq_bind, Option.bind_eq_some_iff, Option.pure_def, Option.some.injEq] at h ⊢
    obtain ⟨y, h1, ys', h2, rfl⟩ := h
    exact ⟨y, hg x (by simp) y h1, ys', mapM_congr' l h2 (fun z hz => hg z (by simp [hz])), rfl⟩
theorem cells?_keep (hk : ∀ b, b < w.heap.size → w'.heap[b]? = w.heap[b]?) {a : Addr} {n : Nat} {l : List Value} (h : w.cells? 0 a n = some l) : w'.cells? 0 a n = some l ∧ (0 < n → a.block < w.heap.size) := by
  refine ⟨?_, fun hn => ?_⟩
  · unfold World.cells? at h ⊢
    rw [if_pos (Nat.zero_le _)] at h ⊢
    exact mapM_congr' _ h fun i _ v hv => (cell?_keep hk hv).2
  · obtain ⟨h1, h2⟩ := cells?_get h
    have := h2 0 hn
    rw [List.getElem?_eq_getElem (by omega)] at this
    have := (cell?_keep hk this).1
    rwa [block_add] at this
theorem fields_keep {n : Nat} (ih : ∀ (m : Nat) (D : DTy) (t : TypeId) (cs : List Value) (x : DataW H × List MemPlace), isD P m D t = true → DataW.trod enc P w 0 (fun _ => true) held n t cs = some x → DataW.trod enc P w' 0 sp' held n t cs = some x) :
    ∀ (m : Nat) (ds : List DTy) (fs : List Field) (off : Nat), isFs P m off ds fs = true → ∀ f ∈ fs, ∀ cs x, DataW.trod enc P w 0 (fun _ => true) held n f.type cs = some x → DataW.trod enc P w' 0 sp' held n f.type cs = some x := by
  intro m
  induction m with
  | zero => intro ds fs off h; cases h
  | succ m ihm =>
    intro ds fs off h f hf cs x hx
    match ds, fs, h with
    | [], [], _ => cases hf
    | D :: ds, g :: fs, h =>
      simp only [isFs, Bool.and_eq_true, beq_iff_eq] at h
      rcases List.mem_cons.1 hf with rfl | hf
      · exact ih m D _ cs x h.1.2 hx
      · exact ihm ds fs _ h.2 f hf cs x hx
theorem trod_keep (hk : ∀ b, b < w.heap.size → w'.heap[b]? = w.heap[b]?) (hsp : ∀ b, b < w.heap.size → sp' b = true) : ∀ (fuel m : Nat) (D : DTy) (t : TypeId) (cs : List Value) (x : DataW H × List MemPlace), isD P m D t = true →
    DataW.trod enc P w 0 (fun _ => true) held fuel t cs = some x → DataW.trod enc P w' 0 sp' held fuel t cs = some x := by
  intro fuel
  induction fuel with
  | zero => intro m D t cs x _ h; simp [DataW.trod] at h
  | succ fuel ih =>
    intro m D t cs x hD h
    cases m with
    | zero => cases hD
    | succ m =>
      cases hu : P.underlying t with
      | none => cases D <;> simp [isD, hu] at hD
      | some d =>
        cases D with
        | bool =>
          cases d <;> simp [isD, hu] at hD
          obtain ⟨b, rfl, rfl⟩ := DataW.trod_bool hu h
          simp [DataW.trod, hu]
        | int k =>
          cases d <;> simp [isD, hu] at hD
          subst hD
          obtain ⟨n, rfl, rfl, hw⟩ := DataW.trod_int hu h
          simp [DataW.trod, hu, hw]
        | str =>
          cases d <;> simp [isD, hu] at hD
          obtain ⟨s, rfl, rfl, hw⟩ := DataW.trod_string hu h
          simp [DataW.trod, hu, hw]
        | slice e =>
          cases d <;> simp [isD, hu] at hD
          rename_i et
          obtain ⟨⟨h1, h2⟩, h3⟩ := hD
          rcases DataW.trod_slice hu h with ⟨rfl, rfl⟩ | ⟨a, len, cap, elems, rest, n, hn, rfl, _, _, hl, hm, hlen, _, _⟩
          · simp [DataW.trod, hu]
          · unfold DataW.trod at h ⊢
            simp only [hu] at h ⊢
            rw [if_pos ⟨Nat.zero_le _, hl, hm⟩] at h ⊢
            have el : ∀ i y, (w.cells? 0 (a.add (i * P.cellsOf et)) (P.cellsOf et)).bind (DataW.trod enc P w 0 (fun _ => true) held fuel et) = some y → (w'.cells? 0 (a.add (i * P.cellsOf et)) (P.cellsOf et)).bind (DataW.trod enc P w' 0 sp' held fuel et) = some y ∧ a.block < w.heap.size := by
              intro i y hy
              obtain ⟨cs, hcs, hx⟩ := Option.bind_eq_some_iff.1 hy
              obtain ⟨k1, k2⟩ := cells?_keep hk hcs
              refine ⟨Option.bind_eq_some_iff.2 ⟨cs, k1, ih m e et cs y h1 hx⟩, ?_⟩
              have := k2 (by omega)
              rwa [block_add] at this
            obtain ⟨es, he, h⟩ := Option.bind_eq_some_iff.1 h
            refine Option.bind_eq_some_iff.2 ⟨es, mapM_congr' _ he fun i _ y hy => (el i y hy).1, ?_⟩
            obtain ⟨rs, hr, rfl⟩ := Option.map_eq_some_iff.1 h
            refine Option.map_eq_some_iff.2 ⟨rs, ?_, rfl⟩
            simp only [if_true] at hr
            cases hc : cap - len with
            | zero =>
              rw [hc] at hr
              simp at hr
              subst hr
              split <;> simp
            | succ q =>
              have hlt : a.block < w.heap.size := by
                rw [hc, List.range_succ_eq_map, List.mapM_cons] at hr
                simp only [Option.bind_eq_bind, Option.bind_eq_some_iff] at hr
                obtain ⟨y, hy, _⟩ := hr
                exact (el _ y (Option.bind_eq_some_iff.2 hy)).2
              rw [if_pos (hsp _ hlt), ← hc]
              exact mapM_congr' _ hr fun i _ y hy => (el _ y hy).1
        | struct ds =>
          cases d <;> simp [isD, hu] at hD
          rename_i fields
          obtain ⟨h1, h2⟩ := hD
          have key := fields_keep ih m ds fields.toList 0 h2
          unfold DataW.trod at h ⊢
          simp only [hu] at h ⊢
          split at h
          · rename_i hlc
            rw [if_pos hlc]
            obtain ⟨xs, hx, rfl⟩ := Option.map_eq_some_iff.1 h
            exact Option.map_eq_some_iff.2 ⟨xs, mapM_congr' _ hx fun f hf y hy => key f hf _ y hy, rfl⟩
          · cases h
def isDs (P : Program) (m : Nat) : List DTy → List TypeId → Bool
  | [], [] => true
  | D :: Ds, t :: ts => isD P m D t && isDs P m Ds ts
  | _, _ => false
theorem val_rep (hI : ∀ b, b < w.heap.size → I b) {m : Nat} {D : DTy} {t : TypeId} {v : Value} {d : DataW H} {ps : List MemPlace} {base : Nat} (hD : isD P m D t = true) (hv : Value.okWide P w .any base t v) (h : DataW.Trod enc P w 0 (fun _ => true) held t v d ps) :
    ∃ u : PV, HasV D u ∧ RepV w I lp none u v := by
  obtain ⟨fuel, h⟩ := h
  obtain ⟨u, h1, h2, h3, h4⟩ := rep_of_trod (lp := lp) hI fuel m D t _ _ hD h
  cases m with
  | zero => cases hD
  | succ m =>
    cases hu : P.underlying t with
    | none => cases D <;> simp [isD, hu] at hD
    | some dd =>
      have one : (∀ x, v.cells.toList = [x] → v = x) → (∀ x : PV, u.cells = [x] → u = x) → (∃ x, u.cells = [x]) → ∃ u : PV, HasV D u ∧ RepV w I lp none u v := by
        intro ho hp ⟨x, hx⟩
        have hux := hp x hx
        rw [hx] at h2
        obtain ⟨y, hy, hr⟩ := repL1' h2
        rw [ho y hy]
        exact ⟨u, h1, by rw [hux]; exact hr⟩
      have sc : (∀ vs, v ≠ .agg vs) → ∀ x, v.cells.toList = [x] → v = x := by
        intro hn x hx
        cases v <;> first | (simp [Value.cells] at hx; exact hx) | exact absurd rfl (hn _)
      cases D with
      | struct ds =>
        cases dd <;> simp [isD, hu] at hD
        obtain ⟨cs, rfl, _⟩ := okWide_struct hu hv
        obtain ⟨vs, rfl, hvs⟩ := h1
        exact ⟨_, ⟨vs, rfl, hvs⟩, .agg _ _ h3 h2⟩
      | bool =>
        cases dd <;> simp [isD, hu] at hD
        obtain ⟨b, rfl⟩ := h1
        exact one (sc fun vs e => by subst e; simp [Value.okWide, hu, Cell.okWide, Cell.ok] at hv) (fun x hx => by simpa [PV.cells] using hx) ⟨_, rfl⟩
      | int k =>
        cases dd <;> simp [isD, hu] at hD
        obtain ⟨b, rfl, _⟩ := h1
        exact one (sc fun vs e => by subst e; simp [Value.okWide, hu, Cell.okWide, Cell.ok] at hv) (fun x hx => by simpa [PV.cells] using hx) ⟨_, rfl⟩
      | str =>
        cases dd <;> simp [isD, hu] at hD
        obtain ⟨b, rfl, _⟩ := h1
        exact one (sc fun vs e => by subst e; simp [Value.okWide, hu, Cell.okWide, Cell.ok] at hv) (fun x hx => by simpa [PV.cells] using hx) ⟨_, rfl⟩
      | slice e =>
        cases dd <;> simp [isD, hu] at hD
        have hs := sc fun vs e => by subst e; simp [Value.okWide, hu, Cell.okWide, Cell.ok] at hv
        rcases h1 with rfl | ⟨xs, rfl, _, _⟩
        · exact one hs (fun x hx => by simpa [PV.cells] using hx) ⟨_, rfl⟩
        · exact one hs (fun x hx => by simpa [PV.cells] using hx) ⟨_, rfl⟩
theorem args_rep (hI : ∀ b, b < w.heap.size → I b) {m base : Nat} : ∀ (Ds : List DTy) (ts : List TypeId) (vs : List Value) (ds : List (DataW H)) (p : List MemPlace), isDs P m Ds ts = true →
    (∀ (j : Nat) t v, ts[j]? = some t → vs[j]? = some v → Value.okWide P w .any base t v) → DataW.TrodAll enc P w 0 (fun _ => true) held ts vs ds p → ∃ us : List PV, HasVs Ds us ∧ RepL w I lp none us vs
  | [], [], vs, ds, p, _, _, h => by
    obtain ⟨rfl, rfl, rfl⟩ := trodAll_nil h
    exact ⟨[], rfl, .nil⟩
  | D :: Ds, t :: ts, vs, ds, p, hD, hv, h => by
    obtain ⟨v, vs, d, ds, p, q, rfl, rfl, rfl, h1, h2⟩ := trodAll_cons h
    simp only [isDs, Bool.and_eq_true] at hD
    obtain ⟨u, a, b⟩ := val_rep (lp := lp) hI hD.1 (hv 0 t v rfl rfl) h1
    obtain ⟨us, a', b'⟩ := args_rep hI Ds ts vs ds q hD.2 (fun j t v ht hj => hv (j + 1) t v (by simpa using ht) (by simpa using hj)) h2
    exact ⟨u :: us, ⟨u, us, rfl, a, a'⟩, .cons _ _ _ _ b b'⟩
  | [], _ :: _, _, _, _, hD, _, _ => by cases hD
  | _ :: _, [], _, _, _, hD, _, _ => by cases hD
theorem args_keep (hk : ∀ b, b < w.heap.size → w'.heap[b]? = w.heap[b]?) (hsp : ∀ b, b < w.heap.size → sp' b = true) {m : Nat} : ∀ (Ds : List DTy) (ts : List TypeId) (vs : List Value) (ds : List (DataW H)) (p : List MemPlace), isDs P m Ds ts = true →
    DataW.TrodAll enc P w 0 (fun _ => true) held ts vs ds p → DataW.TrodAll enc P w' 0 sp' held ts vs ds p
  | [], [], vs, ds, p, _, h => by
    obtain ⟨rfl, rfl, rfl⟩ := trodAll_nil h
    exact rfl
  | D :: Ds, t :: ts, vs, ds, p, hD, h => by
    obtain ⟨v, vs, d, ds, p, q, rfl, rfl, rfl, ⟨fuel, h1⟩, h2⟩ := trodAll_cons h
    simp only [isDs, Bool.and_eq_true] at hD
    exact ⟨p, q, ⟨fuel, trod_keep hk hsp fuel m D t _ _ hD.1 h1⟩, args_keep hk hsp Ds ts vs ds q hD.2 h2, rfl⟩
  | [], _ :: _, _, _, _, hD, _ => by cases hD
  | _ :: _, [], _, _, _, hD, _ => by cases hD
end
end Go.Ab


namespace Go.Ab.Shape
open Go Go.Ab
theorem w64 {n : Int} (h1 : -9223372036854775808 ≤ n) (h2 : n ≤ 9223372036854775807) : IntKind.i64.wrap n = n := IntWalk.i64_in _ ⟨h1, h2⟩
def I (n : Int) : PV := .int .i64 n
def ints (l : List Int) : List PV := l.map I
theorem ints_len (l : List Int) : (ints l).length = l.length := by simp [ints]
theorem ints_get {l : List Int} {i : Nat} (h : i < l.length) : (ints l)[i]? = some (I l[i]) := by simp [ints, h]
theorem ints_take (l : List Int) (k : Nat) : (ints l).take k = ints (l.take k) := by simp [ints, List.map_take]
theorem ints_drop (l : List Int) (k : Nat) : (ints l).drop k = ints (l.drop k) := by simp [ints, List.map_drop]
theorem ints_app (l m : List Int) : ints l ++ ints m = ints (l ++ m) := by simp [ints]
theorem okVL_ints (l : List Int) : okVL (ints l) = true := by
  induction l with
  | nil => rfl
  | cons a l ih => simpa [ints, okVL, okV, I] using ih
inductive IsL : PV → List Int → Prop
  | nil : IsL .nilS []
  | sl (l : List Int) (f : Bool) : IsL (.sl 1 (ints l) f) l
theorem IsL.ok {v : PV} {l : List Int} (h : IsL v l) : okV v = true := by
  cases h with
  | nil => rfl
  | sl f => simp [okV, okVL_ints]
theorem IsL.cells {v : PV} {l : List Int} (h : IsL v l) : v.cells = [v] := by cases h <;> rfl
theorem IsL.val {v : PV} {l : List Int} (h : IsL v l) : v.isVal = true := by cases h <;> rfl
theorem IsL.cell {v : PV} {l : List Int} (h : IsL v l) : v.isCell = true := by cases h <;> rfl
theorem IsL.und {v : PV} {l : List Int} (h : IsL v l) : isUndef v = false := by cases h <;> rfl
theorem IsL.len {v : PV} {l : List Int} (h : IsL v l) : pureO (.len .slice (.c v)) = some (I l.length) := by
  cases h with
  | nil => rfl
  | sl f => rw [pure_lenl, ints_len]; rfl
theorem IsL.idx {v : PV} {l : List Int} (h : IsL v l) {i : Nat} (hi : i < l.length) : pureO (.idxAddr 1 (.c v) (.c (I i))) = some (.ptr [I l[i]] 0) := by
  cases h with
  | nil => simp at hi
  | sl f => exact pure_lidx (by omega) (ints_get hi)
theorem IsL.elems {v : PV} {l : List Int} (h : IsL v l) : elemsO 1 v = some (ints l) := by
  cases h with
  | nil => rfl
  | sl f => simp [elemsO, Go.Ab.elems, chk]
theorem IsL.hi {v : PV} {l : List Int} (h : IsL v l) {k : Nat} (hk : k ≤ l.length) : ∃ u, pureO (.slice 1 (.c v) none (some (.c (I k))) none) = some u ∧ IsL u (l.take k) := by
  cases h with
  | nil =>
    have : k = 0 := by simpa using hk
    subst this
    exact ⟨.nilS, by simp [pureO, exec, RX.ev, evO, bound, natOf, chk, I, sliceOf], .nil⟩
  | sl _ f =>
    have hk' : k ≤ (ints l).length := by rw [ints_len]; exact hk
    refine ⟨.sl 1 (ints (l.take k)) (f && k == (ints l).length), ?_, .sl _ _⟩
    simp [pureO, exec, RX.ev, evO, bound, natOf, chk, I, hk', ints_take, sliceOf]
@[simp] theorem load_I (n : Int) : pureO (.load 1 false (.c (.ptr [I n] 0))) = some (I n) := rfl
@[simp] theorem I_lss {c : TC} {b : Bool} (a n : Int) : pureO (.bin .lss c b (.c (I a)) (.c (I n))) = some (.bool (decide (a < n))) := pure_lss a n
@[simp] theorem I_eql {c : TC} {b : Bool} (a n : Int) : pureO (.bin .eql c b (.c (I a)) (.c (I n))) = some (.bool (a == n)) := pure_eql a n
@[simp] theorem I_neq {c : TC} {b : Bool} (a n : Int) : pureO (.bin .neq c b (.c (I a)) (.c (I n))) = some (.bool (a != n)) := pure_neq a n
@[simp] theorem I_add {c : TC} {b : Bool} (a n : Int) : pureO (.bin .add c b (.c (I a)) (.c (I n))) = some (I (IntKind.i64.wrap (a + n))) := pure_add a n
@[simp] theorem I_sub {c : TC} {b : Bool} (a n : Int) : pureO (.bin .sub c b (.c (I a)) (.c (I n))) = some (I (IntKind.i64.wrap (a - n))) := pure_sub a n
@[simp] theorem I_geq {c : TC} {b : Bool} (a n : Int) : pureO (.bin .geq c b (.c (I a)) (.c (I n))) = some (.bool (decide (n ≤ a))) := pure_geq a n
@[simp] theorem I_leq {c : TC} {b : Bool} (a n : Int) : pureO (.bin .leq c b (.c (I a)) (.c (I n))) = some (.bool (decide (a ≤ n))) := pure_leq a n
@[simp] theorem I_gtr {c : TC} {b : Bool} (a n : Int) : pureO (.bin .gtr c b (.c (I a)) (.c (I n))) = some (.bool (decide (n < a))) := pure_gtr a n
theorem I_def (n : Int) : PV.int .i64 n = I n := rfl
@[simp] theorem okV_I (n : Int) : okV (I n) = true := rfl
@[simp] theorem cells_I (n : Int) : (I n).cells = [I n] := rfl
@[simp] theorem isUndef_I (n : Int) : isUndef (I n) = false := rfl
@[simp] theorem isVal_I (n : Int) : (I n).isVal = true := rfl
@[simp] theorem isCell_I (n : Int) : (I n).isCell = true := rfl
@[simp] theorem natP_I (n : Int) : natP (I n) = n.toNat := rfl
theorem wsucc {i : Nat} (h : i < 9223372036854775807) : IntKind.i64.wrap ((i : Int) + 1) = ((i + 1 : Nat) : Int) := by rw [w64 (by omega) (by omega)]; omega
structure Arr where
  li : Bool
  ru : Bool
  n : List Int
inductive IsA : PV → Arr → Prop
  | mk (li ru : Bool) (x : PV) (l : List Int) (h : IsL x l) : IsA (.agg [.bool li, .bool ru, x]) ⟨li, ru, l⟩
theorem IsA.ok {v : PV} {a : Arr} (h : IsA v a) : okV v = true := by
  obtain ⟨li, ru, x, l, h⟩ := h
  simp [okV, okVL, h.ok]
theorem IsA.get {v : PV} {a : Arr} (h : IsA v a) : ∃ x, v = .agg [.bool a.li, .bool a.ru, x] ∧ IsL x a.n := by
  obtain ⟨li, ru, x, l, h⟩ := h
  exact ⟨x, rfl, h⟩
def noArr : Arr := ⟨false, false, []⟩
theorem noArr_is : IsA (.agg [.bool false, .bool false, .nilS]) noArr := .mk _ _ _ _ .nil
@[simp] theorem valO_agg (cs : List PV) : valO (.agg cs) = (PV.agg cs).isVal := rfl
theorem val3 {a b c : PV} (ha : a.isCell = true) (hb : b.isCell = true) (hc : c.isCell = true) : (PV.agg [a, b, c]).isVal = true := by simp [PV.isVal, ha, hb, hc]
theorem sel3_0 (a b c : PV) : sel [a, b, c] 0 1 false = some a := rfl
theorem sel3_1 (a b c : PV) : sel [a, b, c] 1 1 false = some b := rfl
theorem sel3_2 (a b c : PV) : sel [a, b, c] 2 1 false = some c := rfl
theorem sel3_a (a b c : PV) : sel [a, b, c] 0 3 true = some (.agg [a, b, c]) := rfl
theorem build3 {z a b c : PV} (ha : a.cells = [a]) (hb : b.cells = [b]) (hc : c.cells = [c]) (va : a.isVal = true) (vb : b.isVal = true) (vc : c.isVal = true) (x y : PV) :
    pureO (.build [x, y, z] [(0, (1, .c a)), (1, (1, .c b)), (2, (1, .c c))]) = some (.agg [a, b, c]) := by
  simp [pureO, exec, fillPV, RX.ev, ha, hb, hc, va, vb, vc, splice, chk]
theorem okCells3 {a b c : PV} (h : (PV.agg [a, b, c]).isVal = true) : okCells (.agg [a, b, c]) 3 = true := by simp [okCells, h]
@[simp] theorem cellP3_0 (a b c : PV) : cellP (.agg [a, b, c]) 0 = a := rfl
@[simp] theorem cellP3_1 (a b c : PV) : cellP (.agg [a, b, c]) 1 = b := rfl
@[simp] theorem cellP3_2 (a b c : PV) : cellP (.agg [a, b, c]) 2 = c := rfl
theorem min_run {n : Nat} (k : Nat) (c : Int) (hc : c = k) : pureO (.minmax false [.c (I n), .c (.int .i64 c)]) = some (I (min n k : Nat)) := by
  subst hc
  simp only [pureO, exec, List.map_cons, List.map_nil, RX.ev, foldMM, I]
  by_cases h : n ≤ k
  · have : ¬ (k : Int) < (n : Int) := by omega
    simp [this, Nat.min_eq_left h, chk]
  · have : (k : Int) < (n : Int) := by omega
    simp [this, Nat.min_eq_right (by omega : k ≤ n), chk]
def Arr.few (a : Arr) : Arr := ⟨a.li, a.ru, a.n.take 202⟩
theorem few_run {v : PV} {a : Arr} (h : IsA v a) : ∃ u, callO B0 .cl (.fn 12 []) [v] = some u ∧ IsA u a.few := by
  obtain ⟨x, rfl, hx⟩ := h.get
  obtain ⟨y, hy, hl⟩ := hx.hi (k := min a.n.length 202) (by omega)
  have e : a.n.take (min a.n.length 202) = a.n.take 202 := by
    rcases Nat.le_total a.n.length 202 with h | h
    · rw [Nat.min_eq_left h, List.take_length, List.take_of_length_le h]
    · rw [Nat.min_eq_right h]
  rw [e] at hl
  refine ⟨.agg [.bool a.li, .bool a.ru, y], ?_, .mk _ _ _ _ hl⟩
  refine call (d := fun _ => .cl) rfl (by decide) (by simp [okVL, h.ok]) rfl ?_
  rw [List.map_cons, List.map_nil, run12, valO_agg, val3 rfl rfl hx.cell, chkO_true]
  simp only [selO_eq, cells_agg', sel3_0, sel3_1, sel3_2, bindO_val, hx.len]
  rw [min_run 202 202 rfl]
  simp only [bindO_val, hy]
  rw [build3 (a := .bool a.li) (b := .bool a.ru) (c := y) rfl rfl hl.cells rfl rfl hl.val]
  simp only [bindO_val, okCells3 (val3 (a := .bool a.li) (b := .bool a.ru) rfl rfl hl.cell), chkO_true, cellP3_0, cellP3_1, cellP3_2]
theorem short_run (s : List UInt8) : callO B0 .cl (.fn 14 []) [.str s] = some (.str (s.take 20)) := by
  refine call (d := fun _ => .cl) rfl (by decide) rfl rfl ?_
  rw [List.map_cons, List.map_nil, run14]
  simp only [pure_lens, bindO_val]
  rw [I_def, min_run 20 20 rfl]
  simp only [bindO_val, I]
  rw [pure_ssl2 (by omega)]
  simp only [bindO_val]
  congr 3
  rcases Nat.le_total s.length 20 with h | h
  · rw [Nat.min_eq_left h, List.take_length, List.take_of_length_le h]
  · rw [Nat.min_eq_right h]
theorem okSls_I (n : Int) : okSls 1 [I n] = true := rfl
theorem slO_one (n : Int) : slO 1 1 [I n] 0 (lenL [I n]) = .sl 1 (ints [n]) false := rfl
def oneV (n : Int) : PV := .agg [.bool false, .bool false, .sl 1 (ints [n]) false]
def oneA (n : Int) : Arr := ⟨false, false, [n]⟩
theorem one_is (n : Int) : IsA (oneV n) (oneA n) := .mk _ _ _ _ (.sl _ _)
theorem one_run' (n : Int) : callO B0 .cl (.fn 60 []) [I n] = some (oneV n) := by
  refine call (d := fun _ => .cl) rfl (by decide) rfl rfl ?_
  rw [List.map_cons, List.map_nil, run60, okSls_I, slO_one]
  rfl
def fillI (r : Bool) : Int := if r then 32 else 0
theorem fill_run (r : Bool) : callO B0 .cl (.fn 26 []) [.bool r] = some (I (fillI r)) := by
  refine call (d := fun _ => .cl) rfl (by decide) rfl rfl ?_
  rw [List.map_cons, List.map_nil, run26]
  cases r <;> rfl
def rune (n : Int) : Bool := decide (0 ≤ n) && (decide (n ≤ 1114111) && (decide (n < 55296) || decide (57343 < n)))
theorem rune_run (n : Int) : callO B0 .cl (.fn 34 []) [I n] = some (.bool (rune n)) := by
  refine call (d := fun _ => .cl) rfl (by decide) rfl rfl ?_
  rw [List.map_cons, List.map_nil, run34]
  simp only [I_def, I_geq, I_leq, I_lss, I_gtr, bindO_val, iteP_bool]
  unfold rune
  by_cases h1 : 0 ≤ n <;> by_cases h2 : n ≤ 1114111 <;> by_cases h3 : n < 55296 <;> simp [h1, h2, h3]
theorem other_run (n : Int) : callO B0 .cl (.fn 33 []) [I n] = some (.bool (!rune n)) := by
  refine call (d := fun _ => .cl) rfl (by decide) rfl rfl ?_
  rw [List.map_cons, List.map_nil, run33, rune_run]
  simp
def idxP (p : Int → Bool) (i : Nat) : List Int → Int
  | [] => -1
  | x :: l => if p x then (i : Int) else idxP p (i + 1) l
theorem idxP_any (p : Int → Bool) : ∀ (l : List Int) (i : Nat), decide (0 ≤ idxP p i l) = l.any p := by
  intro l
  induction l with
  | nil => intro i; rfl
  | cons x l ih =>
    intro i
    simp only [idxP, List.any_cons]
    by_cases hx : p x = true
    · simp [hx]
    · have := ih (i + 1)
      simp only [hx, Bool.false_eq_true, if_false, this]
      simp [hx]
theorem drop_cons {α : Type} {l : List α} {i : Nat} (h : i < l.length) : l.drop i = l[i] :: l.drop (i + 1) := by rw [List.drop_eq_getElem_cons h]
theorem index_run {v f : PV} {l : List Int} {p : Int → Bool} (hv : IsL v l) (hl : l.length ≤ 1000000) (hf : okV f = true) (hu : isUndef f = false) (hp : ∀ n ∈ l, callO B0 .cl f [I n] = some (.bool (p n))) :
    callO B0 .cl (.fn 65 []) [v, f] = some (I (idxP p 0 l)) := by
  refine call (d := fun _ => .cl) rfl (by decide) (by simp [okVL, hv.ok, hf]) rfl ?_
  rw [List.map_cons, List.map_cons, List.map_nil, run65, hv.len]
  simp only [bindO_val]
  have h0 : noUndef [v, f, I l.length, .int .i64 0] = true := by simp [noUndef, hv.und, hu, I_def]
  rw [h0, chkO_true]
  have key : ∀ m i, i + m = l.length → loopL (fun z2 => bindO (pureO (.bin .lss .num false (.c (nth z2.1 3)) (.c (nth z2.1 2)))) (fun z3 => iteP z3 (bindO (pureO (.idxAddr 1 (.c (nth z2.1 0)) (.c (nth z2.1 3)))) (fun z4 => bindO (pureO (.load 1 false (.c z4))) (fun z5 => bindO (callO B0 .cl (nth z2.1 1) [z5]) (fun z6 => iteP z6 (bindO (some (nth z2.1 3, z2.2)) (fun z7 => some (.inr z7))) (bindO (pureO (.bin .add .num true (.c (nth z2.1 3)) (.c (.int .i64 1)))) (fun z8 => some (.inl ([nth z2.1 0, nth z2.1 1, nth z2.1 2, z8], z2.2)))))))) (bindO (some (.int .i64 (-1), z2.2)) (fun z9 => some (.inr z9))))) (([v, f, I l.length, I i], ()) : List PV × Unit) = some (I (idxP p i (l.drop i)), ()) := by
    intro m
    induction m with
    | zero =>
      intro i hi
      refine loopL_inr ?_
      have : i = l.length := by omega
      subst this
      simp [idxP]; rfl
    | succ m ih =>
      intro i hi
      have hlt : i < l.length := by omega
      rw [drop_cons hlt]
      by_cases hpx : p l[i] = true
      · refine loopL_inr ?_
        simp only [nth_0, nth_1, nth_2, nth_3, I_lss, bindO_val, iteP_bool]
        rw [if_pos (by simpa using hlt), hv.idx hlt]
        simp [hp _ (List.getElem_mem hlt), hpx, idxP]
      · rw [loopL_inl (s' := ([v, f, I l.length, I ((i + 1 : Nat) : Int)], ()))]
        · rw [ih (i + 1) (by omega)]
          simp [idxP, hpx]
        · simp only [nth_0, nth_1, nth_2, nth_3, I_lss, bindO_val, iteP_bool]
          rw [if_pos (by simpa using hlt), hv.idx hlt]
          simp [hp _ (List.getElem_mem hlt), hpx, I_def, wsucc (by omega : i < 9223372036854775807)]
  have := key l.length 0 (by omega)
  simpa [I_def] using this
theorem any_run {v f : PV} {l : List Int} {p : Int → Bool} (hv : IsL v l) (hl : l.length ≤ 1000000) (hf : okV f = true) (hu : isUndef f = false) (hp : ∀ n ∈ l, callO B0 .cl f [I n] = some (.bool (p n))) :
    callO B0 .cl (.fn 35 []) [v, f] = some (.bool (l.any p)) := by
  refine call (d := fun _ => .cl) rfl (by decide) (by simp [okVL, hv.ok, hf]) rfl ?_
  rw [List.map_cons, List.map_cons, List.map_nil, run35, index_run hv hl hf hu hp]
  simp only [bindO_val, I_def, I_geq, idxP_any]
def Arr.right (a : Arr) : Bool := !(a.ru && a.n.any fun n => !rune n) && (if a.li then decide (a.n.length ≤ 200) else decide (a.n.length = 1))
theorem right_run {v : PV} {a : Arr} (h : IsA v a) (hl : a.n.length ≤ 1000000) : callO B0 .cl (.fn 16 []) [v] = some (.bool a.right) := by
  obtain ⟨x, rfl, hx⟩ := h.get
  refine call (d := fun _ => .cl) rfl (by decide) (by simp [okVL, h.ok]) rfl ?_
  rw [List.map_cons, List.map_nil, run16, valO_agg, val3 rfl rfl hx.cell, chkO_true]
  have ha := any_run (f := .fn 33 []) (p := fun n => !rune n) hx hl rfl rfl fun n _ => other_run n
  simp only [selO_eq, cells_agg', sel3_0, sel3_1, sel3_2, bindO_val, hx.len, ha, iteP_bool, I_def, I_leq, I_eql]
  unfold Arr.right
  have e1 : decide ((a.n.length : Int) ≤ 200) = decide (a.n.length ≤ 200) := by
    by_cases h : a.n.length ≤ 200
    · simp [h]; omega
    · have : ¬ (a.n.length : Int) ≤ 200 := by omega
      simp [h, this]
  have e2 : ((a.n.length : Int) == 1) = decide (a.n.length = 1) := by
    by_cases h : a.n.length = 1
    · simp [h]
    · have : ¬ (a.n.length : Int) = 1 := by omega
      simp [h, this]
  rw [e1, e2]
  cases a.ru <;> cases a.li <;> cases a.n.any (fun n => !rune n) <;> simp
def eqL : List Int → List Int → Bool
  | [], [] => true
  | x :: xs, y :: ys => x == y && eqL xs ys
  | _, _ => false
theorem eqL_iff : ∀ (a b : List Int), eqL a b = true ↔ a = b := by
  intro a
  induction a with
  | nil => intro b; cases b <;> simp [eqL]
  | cons x a ih => intro b; cases b <;> simp [eqL, ih]
theorem equal_run {v u : PV} {l m : List Int} (hv : IsL v l) (hu : IsL u m) (hl : l.length ≤ 1000000) (hm : m.length ≤ 1000000) : callO B0 .cl (.fn 36 []) [v, u] = some (.bool (eqL l m)) := by
  refine call (d := fun _ => .cl) rfl (by decide) (by simp [okVL, hv.ok, hu.ok]) rfl ?_
  rw [List.map_cons, List.map_cons, List.map_nil, run36, hv.len, hu.len]
  simp only [bindO_val, I_neq, iteP_bool]
  by_cases hlm : l.length = m.length
  · have h1 : (((l.length : Int) != (m.length : Int)) = true) ↔ False := by simp [hlm]
    simp only [h1, if_false]
    have h0 : noUndef [v, u, I l.length, .int .i64 0] = true := by simp [noUndef, hv.und, hu.und, I_def]
    rw [h0, chkO_true]
    have key : ∀ k i, i + k = l.length → loopL (fun z5 => bindO (pureO (.bin .lss .num false (.c (nth z5.1 3)) (.c (nth z5.1 2)))) (fun z6 => iteP z6 (bindO (pureO (.idxAddr 1 (.c (nth z5.1 0)) (.c (nth z5.1 3)))) (fun z7 => bindO (pureO (.load 1 false (.c z7))) (fun z8 => bindO (pureO (.idxAddr 1 (.c (nth z5.1 1)) (.c (nth z5.1 3)))) (fun z9 => bindO (pureO (.load 1 false (.c z9))) (fun z10 => bindO (pureO (.bin .neq .num false (.c z8) (.c z10))) (fun z11 => iteP z11 (bindO (some (PV.bool false, z5.2)) (fun z12 => some (.inr z12))) (bindO (pureO (.bin .add .num true (.c (nth z5.1 3)) (.c (.int .i64 1)))) (fun z13 => some (.inl ([nth z5.1 0, nth z5.1 1, nth z5.1 2, z13], z5.2)))))))))) (bindO (some (PV.bool true, z5.2)) (fun z14 => some (.inr z14))))) (([v, u, I l.length, I i], ()) : List PV × Unit) = some (.bool (eqL (l.drop i) (m.drop i)), ()) := by
      intro k
      induction k with
      | zero =>
        intro i hi
        refine loopL_inr ?_
        have h2 : l.drop i = [] := List.drop_eq_nil_of_le (by omega)
        have h3 : m.drop i = [] := List.drop_eq_nil_of_le (by omega)
        have : ¬ (i < l.length) := by omega
        simp [h2, h3, eqL, this]
      | succ k ih =>
        intro i hi
        have hlt : i < l.length := by omega
        have hlt' : i < m.length := by omega
        rw [drop_cons hlt, drop_cons hlt']
        by_cases hx : l[i] = m[i]
        · rw [loopL_inl (s' := ([v, u, I l.length, I ((i + 1 : Nat) : Int)], ()))]
          · rw [ih (i + 1) (by omega)]
            simp [eqL, hx]
          · simp only [nth_0, nth_1, nth_2, nth_3, I_lss, bindO_val, iteP_bool]
            rw [if_pos (by simpa using hlt), hv.idx hlt, hu.idx hlt']
            simp [hx, I_def, wsucc (by omega : i < 9223372036854775807)]
        · refine loopL_inr ?_
          simp only [nth_0, nth_1, nth_2, nth_3, I_lss, bindO_val, iteP_bool]
          rw [if_pos (by simpa using hlt), hv.idx hlt, hu.idx hlt']
          simp [hx, eqL]
    have := key l.length 0 (by omega)
    simpa [I_def] using this
  · have : ¬ (l.length : Int) = (m.length : Int) := by omega
    have h2 : eqL l m = false := by
      cases he : eqL l m with
      | false => rfl
      | true => exact absurd (congrArg List.length ((eqL_iff l m).1 he)) hlm
    simp [this, h2]
def Arr.same (a b : Arr) : Bool := a.li == b.li && (a.ru == b.ru && eqL a.n b.n)
theorem same_run {v u : PV} {a b : Arr} (hv : IsA v a) (hu : IsA u b) (ha : a.n.length ≤ 1000000) (hb : b.n.length ≤ 1000000) : callO B0 .cl (.fn 18 []) [v, u] = some (.bool (a.same b)) := by
  obtain ⟨x, rfl, hx⟩ := hv.get
  obtain ⟨y, rfl, hy⟩ := hu.get
  refine call (d := fun _ => .cl) rfl (by decide) (by simp [okVL, hv.ok, hu.ok]) rfl ?_
  rw [List.map_cons, List.map_cons, List.map_nil, run18, valO_agg, valO_agg, val3 rfl rfl hx.cell, val3 rfl rfl hy.cell, chkO_true, chkO_true]
  simp only [selO_eq, cells_agg', sel3_0, sel3_1, sel3_2, bindO_val, pure_eqb, iteP_bool, equal_run hx hy ha hb]
  unfold Arr.same
  cases (a.li == b.li) <;> cases (a.ru == b.ru) <;> simp
end Go.Ab.Shape


namespace Go.Ab.Shape
open Go Go.Ab
theorem call_parts {d : Nat → RSh} {g : FuncId} {fn : RFn} {args : List KV} {u : PV} (ht : tab0 g = some fn) (hg : g ≠ 64 ∧ g ≠ 95 ∧ g ≠ 90 ∧ g ≠ 87 ∧ g ≠ 74) (ha : okKL args) (hu : ∀ x ∈ args, isUnK x = false) (hl : Nat.ble args.length fn.nt = true)
    (hr : runK (cfg0 B0 d) fn .cl noHandler 0 args () = some (u, ())) (hio : fn.io = false := by rfl) : callO B0 .cl (.fn g []) (pvL args) = some u := by
  obtain ⟨r, obs, h1, h2⟩ := runK_ok (cfg_ok d) ht (hn := fun _ => noHandler) noH ha hu (Nat.le_of_ble_eq_true hl) hr
  have hL : B0.L Unit noHandler 0 g (pvL args) () = some (r, obs, ()) := lim_of h2
  have hs : B0.sp g (fun _ => none) (pvL args) = none := sp_none hg _ _
  have hfl : B0.isIo g = false := by show ioFlag tab0 g = false; unfold ioFlag; rw [ht]; exact hio
  unfold callO
  simp only [List.append_nil, spO, hs, hL, hfl, Bool.false_eq_true, if_false]
  exact h1
theorem lend {g : FuncId} {fn : RFn} {fr : Bool} {args : List PV} {u : PV} {d : Nat → RSh} (ht : tab0 g = some fn) (ha : okVL args = true) (hl : Nat.ble args.length fn.nt = true)
    (hr : runK (cfg0 B0 d) fn .cl noHandler 0 (args.map KV.cv) () = some (u, ())) (hfr : u.free = fr) (hle : fn.leans = false := by rfl) : lendO B0 .cl fr g args = some u :=
  lend_of_run (cfg_ok d) ht ha (Nat.le_of_ble_eq_true hl) hr (by unfold leanFlag; rw [ht, hfr]; simp [hle])
theorem freeL_ints (l : List Int) : freeL (ints l) = true := by
  induction l with
  | nil => rfl
  | cons a l ih => simpa [ints, freeL, PV.free, I] using ih
theorem lend_own {g : FuncId} {fn : RFn} {args : List PV} {l : List Int} {d : Nat → RSh} (ht : tab0 g = some fn) (ha : okVL args = true) (hl : Nat.ble args.length fn.nt = true)
    (hr : runK (cfg0 B0 d) fn (.own 1) noHandler 0 (args.map KV.cv) () = some (.sl 1 (ints l) false, ())) (hle : fn.leans = false := by rfl) : lendO B0 (.own 1) true g args = some (.sl 1 (ints l) false) := by
  obtain ⟨r, obs, h1, h2⟩ := runK_ok (cfg_ok d) ht (hn := fun _ => noHandler) noH (cvL_ok ha) cvL_un (by simpa using Nat.le_of_ble_eq_true hl) hr
  rw [cvL_pv] at h2
  have hL : B0.L Unit noHandler 0 g args () = some (r, obs, ()) := lim_of h2
  have hfree : (r.free && obs.all Ob.free) = true := by
    unfold convO at h1
    simp only [convR] at h1
    split at h1
    · rename_i r' j hr'
      split at hr'
      · rename_i nm k' o n k'' xs ho
        obtain ⟨c1, c2⟩ := chkO_some hr'
        cases c2
        obtain ⟨c3, c4⟩ := chkO_some h1
        injection c4 with c4
        injection c4 with _ c4 _
        subst c4
        simp only [beq_iff_eq] at c3
        match obs, ho, c3 with
        | [o], ho, _ =>
          simp at ho; subst ho
          simp [PV.free, Ob.free, freeL_ints]
        | [], ho, _ => simp at ho
        | _ :: _ :: _, _, c3 => simp at c3
      · cases hr'
    · cases h1
  unfold lendO
  rw [(okVL_names ha).2]
  have hl0 : B0.leans g = false := by show leanFlag tab0 g = false; unfold leanFlag; rw [ht]; exact hle
  simp only [Bool.false_eq_true, if_false, hL, hfree, hl0, Bool.not_false, Bool.and_true, beq_self_eq_true, chkO_true]
  exact h1
def errV (c : Int) : PV := if c = 0 then .nilI else .iface 72 (.agg [I c])
theorem errV_0 : errV 0 = .nilI := rfl
theorem errV_ok (c : Int) : okV (errV c) = true := by unfold errV; split <;> rfl
theorem err_neq (c : Int) : pureO (.bin .neq .iface true (.c (errV c)) (.c .nilI)) = some (.bool (decide (c ≠ 0))) := by
  unfold errV
  by_cases h : c = 0
  · simp only [h, if_true]; rfl
  · rw [if_neg h, show decide (c ≠ 0) = true by simp [h]]; rfl
theorem err_eql (c : Int) : pureO (.bin .eql .iface true (.c (errV c)) (.c .nilI)) = some (.bool (decide (c = 0))) := by
  unfold errV
  by_cases h : c = 0
  · simp only [h, if_true]; rfl
  · rw [if_neg h, show decide (c = 0) = false by simp [h]]; rfl
theorem told_run (c : Int) : callO B0 .cl (.fn 32 []) [errV c] = some (I c) := by
  refine call (d := fun _ => .cl) rfl (by decide) (by simp [okVL, errV_ok]) rfl ?_
  rw [List.map_cons, List.map_nil, run32]
  unfold errV
  by_cases h : c = 0
  · subst h; rfl
  · simp only [h, if_false]; rfl
theorem areRight_el {v : PV} {a : Arr} (h : IsA v a) (hl : a.n.length ≤ 1000000) : callO B0 .cl (.fn 63 []) [v] = some (.bool (!a.right)) := by
  obtain ⟨x, rfl, hx⟩ := h.get
  refine call (d := fun _ => .cl) rfl (by decide) (by simp [okVL, h.ok]) rfl ?_
  rw [List.map_cons, List.map_nil, run63, valO_agg, val3 rfl rfl hx.cell, chkO_true]
  simp only [selO_eq, cells_agg', sel3_a, bindO_val, right_run h hl, pure_not]
theorem lidx3 {xs : List PV} {j : Nat} {f : Bool} {a b c : PV} (h : xs[j]? = some (.agg [a, b, c])) : pureO (.idxAddr 3 (.c (.sl 3 xs f)) (.c (I j))) = some (.ptr [a, b, c] 0) := by
  rw [I, pure_lidx (by omega) h]; rfl
theorem load3 (a b c : PV) : pureO (.load 3 true (.c (.ptr [a, b, c] 0))) = some (.agg [a, b, c]) := rfl
theorem right1 {v : PV} {a : Arr} (h : IsA v a) (hl : a.n.length ≤ 1000000) : lendO B0 .cl true 31 [.sl 3 [v] false] = some (.bool a.right) := by
  have hi : callO B0 .cl (.fn 82 []) [.sl 3 [v] false, .fn 63 []] = some (I (if a.right then -1 else 0)) := by
    refine call (d := fun _ => .cl) rfl (by decide) (by simp [okVL, okV, h.ok]) rfl ?_
    rw [List.map_cons, List.map_cons, List.map_nil, run82, pure_lenl]
    simp only [bindO_val]
    rw [show noUndef [.sl 3 [v] false, .fn 63 [], .int .i64 (([v].length : Nat) : Int), .int .i64 0] = true from rfl, chkO_true]
    have he := areRight_el h hl
    obtain ⟨x, rfl, hx⟩ := h.get
    cases hr : a.right with
    | false =>
      refine loopL_inr ?_
      simp only [nth_0, nth_1, nth_2, nth_3, I_def, I_lss, bindO_val, iteP_bool]
      rw [show pureO (.idxAddr 3 (.c (.sl 3 [.agg [.bool a.li, .bool a.ru, x]] false)) (.c (I 0))) = some (.ptr [.bool a.li, .bool a.ru, x] 0) from lidx3 (j := 0) rfl]
      simp only [bindO_val, load3, he, hr, Bool.not_false, iteP_bool]
      rfl
    | true =>
      rw [loopL_inl (s' := ([.sl 3 [.agg [.bool a.li, .bool a.ru, x]] false, .fn 63 [], I 1, I 1], ()))]
      · exact loopL_inr rfl
      · simp only [nth_0, nth_1, nth_2, nth_3, I_def, I_lss, bindO_val, iteP_bool]
        rw [show pureO (.idxAddr 3 (.c (.sl 3 [.agg [.bool a.li, .bool a.ru, x]] false)) (.c (I 0))) = some (.ptr [.bool a.li, .bool a.ru, x] 0) from lidx3 (j := 0) rfl]
        simp only [bindO_val, load3, he, hr, Bool.not_true, iteP_bool]
        rfl
  have hc : callO B0 .cl (.fn 62 []) [.sl 3 [v] false, .fn 63 []] = some (.bool (!a.right)) := by
    refine call (d := fun _ => .cl) rfl (by decide) (by simp [okVL, okV, h.ok]) rfl ?_
    rw [List.map_cons, List.map_cons, List.map_nil, run62, hi]
    simp only [bindO_val, I_def, I_geq]
    cases a.right <;> rfl
  refine lend (d := fun _ => .cl) rfl (by simp [okVL, okV, h.ok]) rfl ?_ rfl
  rw [List.map_cons, List.map_nil, run31, hc]
  cases a.right <;> rfl
theorem right2 {v u : PV} {a b : Arr} (h : IsA v a) (hu : IsA u b) (hl : a.n.length ≤ 1000000) (hm : b.n.length ≤ 1000000) : lendO B0 .cl true 31 [.sl 3 [v, u] false] = some (.bool (a.right && b.right)) := by
  have hi : callO B0 .cl (.fn 82 []) [.sl 3 [v, u] false, .fn 63 []] = some (I (if a.right then (if b.right then -1 else 1) else 0)) := by
    refine call (d := fun _ => .cl) rfl (by decide) (by simp [okVL, okV, h.ok, hu.ok]) rfl ?_
    rw [List.map_cons, List.map_cons, List.map_nil, run82, pure_lenl]
    simp only [bindO_val]
    rw [show noUndef [.sl 3 [v, u] false, .fn 63 [], .int .i64 (([v, u].length : Nat) : Int), .int .i64 0] = true from rfl, chkO_true]
    have he := areRight_el h hl
    have he2 := areRight_el hu hm
    obtain ⟨x, rfl, hx⟩ := h.get
    obtain ⟨y, rfl, hy⟩ := hu.get
    have i0 : pureO (.idxAddr 3 (.c (.sl 3 [.agg [.bool a.li, .bool a.ru, x], .agg [.bool b.li, .bool b.ru, y]] false)) (.c (I 0))) = some (.ptr [.bool a.li, .bool a.ru, x] 0) := lidx3 (j := 0) rfl
    have i1 : pureO (.idxAddr 3 (.c (.sl 3 [.agg [.bool a.li, .bool a.ru, x], .agg [.bool b.li, .bool b.ru, y]] false)) (.c (I 1))) = some (.ptr [.bool b.li, .bool b.ru, y] 0) := lidx3 (j := 1) rfl
    cases hr : a.right with
    | false =>
      refine loopL_inr ?_
      simp only [nth_0, nth_1, nth_2, nth_3, I_def, I_lss, bindO_val, iteP_bool]
      rw [i0]
      simp only [bindO_val, load3, he, hr, Bool.not_false, iteP_bool]
      rfl
    | true =>
      rw [loopL_inl (s' := ([.sl 3 [.agg [.bool a.li, .bool a.ru, x], .agg [.bool b.li, .bool b.ru, y]] false, .fn 63 [], I 2, I 1], ()))]
      · cases hr2 : b.right with
        | false =>
          refine loopL_inr ?_
          simp only [nth_0, nth_1, nth_2, nth_3, I_def, I_lss, bindO_val, iteP_bool]
          rw [i1]
          simp only [bindO_val, load3, he2, hr2, Bool.not_false, iteP_bool]
          rfl
        | true =>
          rw [loopL_inl (s' := ([.sl 3 [.agg [.bool a.li, .bool a.ru, x], .agg [.bool b.li, .bool b.ru, y]] false, .fn 63 [], I 2, I 2], ()))]
          · exact loopL_inr rfl
          · simp only [nth_0, nth_1, nth_2, nth_3, I_def, I_lss, bindO_val, iteP_bool]
            rw [i1]
            simp only [bindO_val, load3, he2, hr2, Bool.not_true, iteP_bool]
            rfl
      · simp only [nth_0, nth_1, nth_2, nth_3, I_def, I_lss, bindO_val, iteP_bool]
        rw [i0]
        simp only [bindO_val, load3, he, hr, Bool.not_true, iteP_bool]
        rfl
  have hc : callO B0 .cl (.fn 62 []) [.sl 3 [v, u] false, .fn 63 []] = some (.bool (!(a.right && b.right))) := by
    refine call (d := fun _ => .cl) rfl (by decide) (by simp [okVL, okV, h.ok, hu.ok]) rfl ?_
    rw [List.map_cons, List.map_cons, List.map_nil, run62, hi]
    simp only [bindO_val, I_def, I_geq]
    cases a.right <;> cases b.right <;> rfl
  refine lend (d := fun _ => .cl) rfl (by simp [okVL, okV, h.ok, hu.ok]) rfl ?_ rfl
  rw [List.map_cons, List.map_nil, run31, hc]
  cases a.right <;> cases b.right <;> rfl
def gR : List UInt8 := [226, 141, 180]
def gI : List UInt8 := [226, 141, 179]
def gC : List UInt8 := [44]
def gT : List UInt8 := [226, 140, 189]
def gU : List UInt8 := [226, 134, 145]
def gD : List UInt8 := [226, 134, 147]
def gN : List UInt8 := [226, 137, 162]
def monF (g : List UInt8) : PV :=
  if g = gR then .fn 46 [] else if g = gI then .fn 48 [] else if g = gC then .fn 50 [] else if g = gT then .fn 54 [] else if g = gU then .fn 56 [] else if g = gN then .fn 59 [] else .nilF
def dyF (g : List UInt8) : PV :=
  if g = gR then .fn 47 [] else if g = gI then .fn 49 [] else if g = gC then .fn 53 [] else if g = gT then .fn 55 [] else if g = gU then .fn 57 [] else if g = gD then .fn 58 [] else if g = gN then .fn 61 [] else .nilF
def funs : PV := .imap [.str gR, .agg [.fn 46 [], .fn 47 []], .str gI, .agg [.fn 48 [], .fn 49 []], .str gC, .agg [.fn 50 [], .fn 53 []], .str gT, .agg [.fn 54 [], .fn 55 []], .str gU, .agg [.fn 56 [], .fn 57 []], .str gD, .agg [.nilF, .fn 58 []], .str gN, .agg [.fn 59 [], .fn 61 []]]
theorem funs_run : callO B0 .cl (.fn 30 []) [] = some funs := by
  refine call (d := fun _ => .cl) rfl (by decide) rfl rfl ?_
  rw [List.map_nil, run30]
  rfl
theorem find_no {g x : List UInt8} {v : PV} {es : List PV} (h : ¬ g = x) : findE (.str g) (.str x :: v :: es) = findE (.str g) es := by
  have : (g == x) = false := by simp [h]
  simp [findE, keyEq, this]
theorem look_run (g : List UInt8) : pureO (.lookup .str (.agg [.nilF, .nilF]) false (.c funs) (.c (.str g))) = some (.agg [monF g, dyF g]) := by
  unfold monF dyF
  by_cases h1 : g = gR
  · subst h1; rfl
  by_cases h2 : g = gI
  · subst h2; rfl
  by_cases h3 : g = gC
  · subst h3; rfl
  by_cases h4 : g = gT
  · subst h4; rfl
  by_cases h5 : g = gU
  · subst h5; rfl
  by_cases h6 : g = gD
  · subst h6; rfl
  by_cases h7 : g = gN
  · subst h7; rfl
  simp only [h1, h2, h3, h4, h5, h6, h7, if_false]
  unfold funs
  simp only [pureO, exec, RX.ev]
  rw [find_no h1, find_no h2, find_no h3, find_no h4, find_no h5, find_no h6, find_no h7]
  rfl
end Go.Ab.Shape


namespace Go.Ab.Shape
open Go Go.Ab
def firstE (a : Arr) : Int := if a.n.length ≠ 1 then 111 else if a.ru then 102 else 0
def firstN (a : Arr) : Int := if firstE a = 0 then a.n.headD 0 else 0
theorem first_run {v : PV} {a : Arr} (h : IsA v a) (hl : a.n.length ≤ 1000000) : callO B0 .cl (.fn 77 []) [v] = some (.tup [I (firstN a), errV (firstE a)]) := by
  obtain ⟨x, rfl, hx⟩ := h.get
  refine call (d := fun _ => .cl) rfl (by decide) (by simp [okVL, h.ok]) rfl ?_
  rw [List.map_cons, List.map_nil, run77, valO_agg, val3 rfl rfl hx.cell, chkO_true]
  simp only [selO_eq, cells_agg', sel3_0, sel3_1, sel3_2, bindO_val, hx.len, I_def, I_neq, iteP_bool]
  unfold firstN firstE
  by_cases h1 : a.n.length = 1
  · have e : (((a.n.length : Int) != 1) = true) ↔ False := by simp [h1]
    have e2 : ¬ (a.n.length ≠ 1) := by simp [h1]
    simp only [e, e2, if_false]
    cases hr : a.ru with
    | true =>
      simp only [if_true]
      rfl
    | false =>
      simp only [Bool.false_eq_true, if_false]
      have hi := hx.idx (i := 0) (by omega)
      rw [show ((0 : Nat) : Int) = 0 from rfl] at hi
      rw [hi]
      simp only [bindO_val, load_I]
      have : a.n.headD 0 = a.n[0]'(by omega) := by
        rw [List.headD_eq_head?_getD, List.head?_eq_getElem?, List.getElem?_eq_getElem (by omega)]; rfl
      rw [this]
      rfl
  · have e : (((a.n.length : Int) != 1) = true) := by simp; omega
    simp only [e, if_true]
    rw [if_pos h1]
    rfl
theorem build3' {b c : PV} {x y z : PV} (hb : b.cells = [b]) (hc : c.cells = [c]) (vb : b.isVal = true) (vc : c.isVal = true) :
    pureO (.build [x, y, z] [(0, (1, .c b)), (2, (1, .c c))]) = some (.agg [b, y, c]) := by
  simp [pureO, exec, fillPV, RX.ev, hb, hc, vb, vc, splice, chk]
def numsV (v : PV) : PV := .agg [.bool true, .bool false, v]
def likeV (r : Bool) (v : PV) : PV := .agg [.bool true, .bool r, v]
theorem numbers_nil : callO B0 .cl (.fn 75 []) [.nilS] = some (numsV .nilS) := by
  refine call (d := fun _ => .cl) rfl (by decide) rfl rfl ?_
  rw [List.map_cons, List.map_nil, run75, build3' rfl rfl rfl rfl]
  rfl
theorem numbers_lend (l : List Int) (f : Bool) : lendO B0 .cl false 75 [.sl 1 (ints l) f] = some (numsV (.sl 1 (ints l) f)) := by
  refine lend (d := fun _ => .cl) rfl (by simp [okVL, okV, okVL_ints]) rfl ?_ rfl
  rw [List.map_cons, List.map_nil, run75, build3' rfl rfl rfl rfl]
  rfl
theorem like_lend {v : PV} {a : Arr} (h : IsA v a) (l : List Int) (f : Bool) : lendO B0 .cl false 51 [v, .sl 1 (ints l) f] = some (likeV a.ru (.sl 1 (ints l) f)) := by
  obtain ⟨x, rfl, hx⟩ := h.get
  refine lend (d := fun _ => .cl) rfl (by simp [okVL, okV, okVL_ints, hx.ok]) rfl ?_ rfl
  rw [List.map_cons, List.map_cons, List.map_nil, run51, valO_agg, val3 rfl rfl hx.cell, chkO_true]
  simp only [selO_eq, cells_agg', sel3_1, bindO_val]
  rw [build3 rfl rfl rfl rfl rfl rfl]
  rfl
theorem like_call {v : PV} {a : Arr} (h : IsA v a) : callO B0 .cl (.fn 51 []) [v, .sl 1 [] false] = some (likeV a.ru (.sl 1 (ints []) false)) := by
  obtain ⟨x, rfl, hx⟩ := h.get
  refine call (d := fun _ => .cl) rfl (by decide) (by simp [okVL, okV, hx.ok]) rfl ?_
  rw [List.map_cons, List.map_cons, List.map_nil, run51, valO_agg, val3 rfl rfl hx.cell, chkO_true]
  simp only [selO_eq, cells_agg', sel3_1, bindO_val]
  rw [build3 rfl rfl rfl rfl rfl rfl]
  rfl
theorem mkSO_I {n : Nat} (h : n ≤ 1000000) : mkSO (I n) (I n) = some n := by
  have : n ≤ mostLen := by unfold mostLen; omega
  simp [mkSO, I, natOf, chkO, this]
theorem own_run {v : PV} {a : Arr} (h : IsA v a) (hl : a.n.length ≤ 1000000) : callO B0 (.own 1) (.fn 52 []) [v] = some (.sl 1 (ints a.n) false) := by
  obtain ⟨x, rfl, hx⟩ := h.get
  refine call (d := fun _ => .cl) rfl (by decide) (by simp [okVL, h.ok]) rfl ?_
  rw [List.map_cons, List.map_nil, run52, valO_agg, val3 rfl rfl hx.cell, chkO_true]
  simp only [selO_eq, cells_agg', sel3_2, bindO_val, hx.len, mkSO_I hl, hx.elems]
  have e : catL (catL (takeL 0 (replL a.n.length (.int .i64 0))) (takeL a.n.length (ints a.n))) (dropL (addN 0 (lenL (takeL a.n.length (ints a.n)))) (replL a.n.length (.int .i64 0))) = ints a.n := by
    simp [ints_len, List.take_of_length_le]
  rw [e]
  simp [ints_len]
def Gives (g : FuncId) (v : PV) (r : Arr) (c : Int) : Prop := ∃ y, callO B0 .cl (.fn g []) [v] = some (.tup [y, errV c]) ∧ IsA y r
theorem okCells_is {y : PV} {a : Arr} (h : IsA y a) : okCells y 3 = true := by
  obtain ⟨x, rfl, hx⟩ := h.get
  exact okCells3 (val3 rfl rfl hx.cell)
theorem cells_is {y : PV} {a : Arr} (h : IsA y a) : PV.agg [cellP y 0, cellP y 1, cellP y 2] = y := by
  obtain ⟨x, rfl, hx⟩ := h.get
  rfl
def sizeA (a : Arr) : Arr := ⟨true, false, if a.li then [(a.n.length : Int)] else []⟩
theorem size_run {v : PV} {a : Arr} (h : IsA v a) (hl : a.n.length ≤ 1000000) : Gives 46 v (sizeA a) 0 := by
  obtain ⟨x, rfl, hx⟩ := h.get
  cases hli : a.li with
  | false =>
    refine ⟨numsV .nilS, ?_, by unfold sizeA; rw [hli]; exact .mk _ _ _ _ .nil⟩
    rw [← hli]
    refine call (d := fun _ => .cl) rfl (by decide) (by simp [okVL, h.ok]) rfl ?_
    rw [List.map_cons, List.map_nil, run46, valO_agg, val3 rfl rfl hx.cell, chkO_true]
    simp only [selO_eq, cells_agg', sel3_0, bindO_val, pure_not, hli, iteP_bool, Bool.not_false, if_true, numbers_nil]
    rfl
  | true =>
    refine ⟨numsV (.sl 1 (ints [(a.n.length : Int)]) false), ?_, by unfold sizeA; rw [hli]; exact .mk _ _ _ _ (.sl _ _)⟩
    rw [← hli]
    refine call (d := fun _ => .cl) rfl (by decide) (by simp [okVL, h.ok]) rfl ?_
    rw [List.map_cons, List.map_nil, run46, valO_agg, val3 rfl rfl hx.cell, chkO_true]
    simp only [selO_eq, cells_agg', sel3_0, sel3_2, bindO_val, pure_not, hli, iteP_bool, Bool.not_true, Bool.false_eq_true, if_false, hx.len, okSls_I, chkO_true, slO_one, numbers_lend]
    rfl
theorem comma_run {v : PV} {a : Arr} (h : IsA v a) (hl : a.n.length ≤ 1000000) : Gives 50 v ⟨true, a.ru, a.n⟩ 0 := by
  obtain ⟨x, rfl, hx⟩ := h.get
  refine ⟨likeV a.ru (.sl 1 (ints a.n) false), ?_, .mk _ _ _ _ (.sl _ _)⟩
  refine call (d := fun _ => .cl) rfl (by decide) (by simp [okVL, h.ok]) rfl ?_
  rw [List.map_cons, List.map_nil, run50, valO_agg, val3 rfl rfl hx.cell, chkO_true]
  simp only [selO_eq, cells_agg', sel3_a, bindO_val, own_run h hl, itemsP_sl]
  have e : slO 1 1 (ints a.n) 0 (lenL (ints a.n)) = .sl 1 (ints a.n) false := by simp [slO]
  rw [e, like_lend h]
  rfl
theorem slO_all (l : List Int) : slO 1 1 (ints l) 0 (lenL (ints l)) = .sl 1 (ints l) false := by simp [slO]
theorem slO_take (l : List Int) {k : Nat} (hk : k ≤ l.length) : slO 1 1 (ints l) 0 k = .sl 1 (ints (l.take k)) false := by
  have : k ≤ (ints l).length := by rw [ints_len]; exact hk
  simp [slO, this, ints_take]
theorem slO_drop (l : List Int) {o n : Nat} (hk : o + n ≤ l.length) : slO 1 1 (ints l) o n = .sl 1 (ints ((l.drop o).take n)) false := by
  have : o + n ≤ (ints l).length := by rw [ints_len]; exact hk
  simp [slO, this, ints_take, ints_drop]
def headA (a : Arr) : Arr := ⟨false, a.ru, (a.n ++ [fillI a.ru]).take 1⟩
theorem head_run {v : PV} {a : Arr} (h : IsA v a) (hl : a.n.length ≤ 1000000) : Gives 56 v (headA a) 0 := by
  obtain ⟨x, rfl, hx⟩ := h.get
  refine ⟨.agg [.bool false, .bool a.ru, .sl 1 (ints ((a.n ++ [fillI a.ru]).take 1)) false], ?_, .mk _ _ _ _ (.sl _ _)⟩
  refine call (d := fun _ => .cl) rfl (by decide) (by simp [okVL, h.ok]) rfl ?_
  rw [List.map_cons, List.map_nil, run56, valO_agg, val3 rfl rfl hx.cell, chkO_true]
  simp only [selO_eq, cells_agg', sel3_a, sel3_1, bindO_val, own_run h hl, fill_run, itemsP_sl, okSls_I, chkO_true]
  have e0 : leN (addN 0 (lenL [I (fillI a.ru)])) (lenL [I (fillI a.ru)]) = true := rfl
  have e1 : andB (leN (lenL (ints a.n)) (lenL (ints a.n))) (leN (addN (lenL (ints a.n)) (lenL (takeL (lenL [I (fillI a.ru)]) (dropL 0 [I (fillI a.ru)])))) 2147483648) = true := by
    have : a.n.length + 1 ≤ 2147483648 := by omega
    simp [ints_len, this]
  have e2 : addN (lenL (ints a.n)) (lenL (takeL (lenL [I (fillI a.ru)]) (dropL 0 [I (fillI a.ru)]))) = a.n.length + 1 := by simp [ints_len]
  have e3 : catL (takeL (lenL (ints a.n)) (ints a.n)) (takeL (lenL [I (fillI a.ru)]) (dropL 0 [I (fillI a.ru)])) = ints (a.n ++ [fillI a.ru]) := by
    rw [show takeL (lenL [I (fillI a.ru)]) (dropL 0 [I (fillI a.ru)]) = [I (fillI a.ru)] from rfl]
    simp [ints, List.take_of_length_le]
  have e4 : ∀ k, 1 ≤ k → boundO (some (.int .i64 1)) (a.n.length + 1) k = some 1 := by intro k hk; simp [boundO, bound, natOf, chk, hk]
  rw [e0, e1, e2, e3, e4 _ (by omega)]
  simp only [chkO_true, bindO_val]
  rw [e4 _ (by omega)]
  simp only [bindO_val]
  rw [slO_take _ (by simp)]
  have e5 : okCells (PV.bool a.ru) 1 = true := rfl
  have e6 : cellP (PV.bool a.ru) 0 = .bool a.ru := rfl
  rw [e5, e6, chkO_true]
  have e7 : okU (.tup [.agg [.bool false, .bool a.ru, .sl 1 (ints ((a.n ++ [fillI a.ru]).take 1)) false], .nilI]) = true := by simp [okU, okV, okVL, okVL_ints]
  rw [e7, chkO_true]
  rfl
theorem len_run {v : PV} {a : Arr} (h : IsA v a) : Gives 59 v (oneA a.n.length) 0 := by
  obtain ⟨x, rfl, hx⟩ := h.get
  refine ⟨oneV a.n.length, ?_, one_is _⟩
  refine call (d := fun _ => .cl) rfl (by decide) (by simp [okVL, h.ok]) rfl ?_
  rw [List.map_cons, List.map_nil, run59, valO_agg, val3 rfl rfl hx.cell, chkO_true]
  simp only [selO_eq, cells_agg', sel3_2, bindO_val, hx.len, one_run']
  rfl
def upto (n : Nat) : List Int := (List.range n).map fun i => ((i + 1 : Nat) : Int)
theorem upto_succ (n : Nat) : upto (n + 1) = upto n ++ [((n + 1 : Nat) : Int)] := by simp [upto, List.range_succ]
theorem upto_len (n : Nat) : (upto n).length = n := by simp [upto]
def countE (a : Arr) : Int := if firstE a ≠ 0 then firstE a else if firstN a < 0 then 102 else if 200 < firstN a then 113 else 0
def countA (a : Arr) : Arr := if countE a = 0 then ⟨true, false, upto (firstN a).toNat⟩ else noArr
theorem count_run {v : PV} {a : Arr} (h : IsA v a) (hl : a.n.length ≤ 1000000) : Gives 48 v (countA a) (countE a) := by
  have hfr := first_run h hl
  obtain ⟨x, rfl, hx⟩ := h.get
  by_cases h0 : countE a = 0
  · refine ⟨numsV (.sl 1 (ints (upto (firstN a).toNat)) false), ?_, by unfold countA; rw [if_pos h0]; exact .mk _ _ _ _ (.sl _ _)⟩
    have h1 : firstE a = 0 := by
      unfold countE at h0
      by_cases h1 : firstE a = 0
      · exact h1
      · rw [if_pos h1] at h0; exact absurd h0 h1
    have h2 : ¬ firstN a < 0 := by
      intro h2
      unfold countE at h0
      rw [if_neg (by simpa using h1), if_pos h2] at h0; cases h0
    have h3 : ¬ 200 < firstN a := by
      intro h3
      unfold countE at h0
      rw [if_neg (by simpa using h1), if_neg h2, if_pos h3] at h0; cases h0
    rw [h0]
    refine call (d := fun _ => .cl) rfl (by decide) (by simp [okVL, h.ok]) rfl ?_
    rw [List.map_cons, List.map_nil, run48, valO_agg, val3 rfl rfl hx.cell, chkO_true]
    simp only [selO_eq, cells_agg', sel3_a, bindO_val, hfr, pure_tup, List.getElem?_cons_zero, List.getElem?_cons_succ, err_neq, iteP_bool, h1]
    simp only [ne_eq, not_true_eq_false, decide_false, Bool.false_eq_true, if_false, I_def, I_lss, I_gtr, bindO_val, iteP_bool, h2, h3, numbers_nil]
    rw [show okCells (numsV .nilS) 3 = true from rfl, show cellP (numsV .nilS) 2 = .nilS from rfl, show cellP (numsV .nilS) 0 = .bool true from rfl, show cellP (numsV .nilS) 1 = .bool false from rfl, chkO_true]
    obtain ⟨N, hN⟩ : ∃ N : Nat, firstN a = N := ⟨(firstN a).toNat, by omega⟩
    rw [hN] at h3 ⊢
    have hN2 : N ≤ 200 := by omega
    rw [show noUndef [I N, I 0] = true from rfl, chkO_true]
    simp only [nilO]
    have := loop_run (step := (fun z14 => bindO (pureO (.bin .lss .num false (.c (nth z14.1 1)) (.c (nth z14.1 0)))) (fun z15 => iteP z15 (bindO (pureO (.bin .add .num true (.c (nth z14.1 1)) (.c (I 1)))) (fun z16 =>
      chkO (okSls 1 [z16]) (chkO (leN (addN 0 (lenL [z16])) (lenL [z16])) (chkO (andB (leN (natP (nth z14.1 7)) (lenL (itemsP (nth z14.1 8)))) (leN (addN (natP (nth z14.1 7)) (lenL
      (takeL (lenL [z16]) (dropL 0 [z16])))) 2147483648)) (bindO (pureO (.bin .add .num true (.c (nth z14.1 1)) (.c (I 1)))) (fun z17 => some (.inl ([nth z14.1 0, z17, nth z14.1
      2, nth z14.1 3, nth z14.1 4, nth z14.1 5, nth z14.1 6, nI (addN (natP (nth z14.1 7)) (lenL (takeL (lenL [z16]) (dropL 0 [z16])))), .sl 1 (catL (takeL (natP (nth z14.1 7)) (itemsP
      (nth z14.1 8))) (takeL (lenL [z16]) (dropL 0 [z16]))) false], z14.2)))))))) (bindO (chkO (okU (PV.tup [.agg [nth z14.1 5, nth z14.1 6, slO 1 1 (itemsP (nth z14.1 8)) 0 (natP (nth
      z14.1 7))], .nilI])) (some (PV.tup [.agg [nth z14.1 5, nth z14.1 6, slO 1 1 (itemsP (nth z14.1 8)) 0 (natP (nth z14.1 7))], .nilI], z14.2))) (fun z18 => some (.inr z18))))))
      (s0 := (([I N, I 0, .bool false, .bool false, .nilS, .bool true, .bool false, nI 0, .sl 1 [] false], ()) : List PV × Unit)) (r := (.tup [numsV (.sl 1 (ints (upto N)) false), .nilI], ()))
      (fun i => ([I N, I i, .bool false, .bool false, .nilS, .bool true, .bool false, I i, .sl 1 (ints (upto i)) false], ())) N rfl (fun i hlt => ?_) ?_
    · exact this
    · simp only [nth_0, nth_1, nth_2, nth_3, nth_4, nth_5, nth_6, nth_7, nth_8, I_lss, bindO_val, iteP_bool]
      rw [if_pos (by simpa using hlt)]
      simp only [I_add, bindO_val, wsucc (by omega : i < 9223372036854775807), okSls_I, chkO_true]
      rw [show leN (addN 0 (lenL [I ((i + 1 : Nat) : Int)])) (lenL [I ((i + 1 : Nat) : Int)]) = true from rfl, chkO_true]
      have e1 : andB (leN (natP (I i)) (lenL (itemsP (.sl 1 (ints (upto i)) false)))) (leN (addN (natP (I i)) (lenL (takeL (lenL [I ((i + 1 : Nat) : Int)]) (dropL 0 [I ((i + 1 : Nat) : Int)])))) 2147483648) = true := by
        have : i + 1 ≤ 2147483648 := by omega
        simp [ints_len, upto_len, this]
      rw [e1, chkO_true]
      have e2 : addN (natP (I i)) (lenL (takeL (lenL [I ((i + 1 : Nat) : Int)]) (dropL 0 [I ((i + 1 : Nat) : Int)]))) = i + 1 := by simp
      have e3 : catL (takeL (natP (I i)) (itemsP (.sl 1 (ints (upto i)) false))) (takeL (lenL [I ((i + 1 : Nat) : Int)]) (dropL 0 [I ((i + 1 : Nat) : Int)])) = ints (upto (i + 1)) := by
        rw [upto_succ]
        have : (ints (upto i)).take i = ints (upto i) := List.take_of_length_le (by simp [ints_len, upto_len])
        simp [ints] at this ⊢
        simpa using this
      rw [e2, e3]
      rfl
    · simp only [nth_0, nth_1, nth_2, nth_3, nth_4, nth_5, nth_6, nth_7, nth_8, I_lss, bindO_val, iteP_bool, itemsP_sl]
      rw [if_neg (by simp)]
      have e1 : slO 1 1 (ints (upto N)) 0 (natP (I N)) = .sl 1 (ints (upto N)) false := by
        have := slO_take (upto N) (k := N) (by rw [upto_len]; exact Nat.le_refl _)
        rw [List.take_of_length_le (by rw [upto_len]; exact Nat.le_refl _)] at this
        simpa using this
      rw [e1]
      have e7 : okU (.tup [.agg [.bool true, .bool false, .sl 1 (ints (upto N)) false], .nilI]) = true := by simp [okU, okV, okVL, okVL_ints]
      rw [e7]
      rfl
  · refine ⟨.agg [.bool false, .bool false, .nilS], ?_, by unfold countA; rw [if_neg h0]; exact noArr_is⟩
    refine call (d := fun _ => .cl) rfl (by decide) (by simp [okVL, h.ok]) rfl ?_
    rw [List.map_cons, List.map_nil, run48, valO_agg, val3 rfl rfl hx.cell, chkO_true]
    simp only [selO_eq, cells_agg', sel3_a, bindO_val, hfr, pure_tup, List.getElem?_cons_zero, List.getElem?_cons_succ, err_neq, iteP_bool]
    unfold countE at h0 ⊢
    by_cases h1 : firstE a = 0
    · simp only [h1, ne_eq, not_true_eq_false, decide_false, Bool.false_eq_true, if_false, I_def, I_lss, I_gtr, bindO_val, iteP_bool] at h0 ⊢
      by_cases h2 : firstN a < 0
      · simp only [h2, decide_true, if_true]; rfl
      · simp only [h2, decide_false, Bool.false_eq_true, if_false] at h0 ⊢
        by_cases h3 : 200 < firstN a
        · simp only [h3, decide_true, if_true]; rfl
        · simp only [h3, if_false] at h0; exact absurd trivial h0
    · simp only [h1, ne_eq, not_false_eq_true, decide_true, if_true]; rfl
end Go.Ab.Shape


namespace Go.Ab.Shape
open Go Go.Ab
def revI (i : Nat) (l : List Int) : List Int := (List.range l.length).map fun k => if k < i ∨ l.length - i ≤ k then l.getD (l.length - 1 - k) 0 else l.getD k 0
theorem revI_len (i : Nat) (l : List Int) : (revI i l).length = l.length := by simp [revI]
theorem revI_get {i : Nat} {l : List Int} {k : Nat} (h : k < l.length) : (revI i l)[k]? = some (if k < i ∨ l.length - i ≤ k then l.getD (l.length - 1 - k) 0 else l.getD k 0) := by
  unfold revI
  rw [List.getElem?_map, List.getElem?_range h]
  rfl
theorem revI_zero (l : List Int) : revI 0 l = l := by
  apply List.ext_getElem?
  intro k
  by_cases h : k < l.length
  · rw [revI_get h]
    have : ¬ (k < 0 ∨ l.length - 0 ≤ k) := by omega
    rw [if_neg this, List.getD_eq_getElem?_getD, List.getElem?_eq_getElem h]; rfl
  · rw [List.getElem?_eq_none (by rw [revI_len]; omega), List.getElem?_eq_none (by omega)]
theorem revI_end (l : List Int) : revI (l.length / 2) l = l.reverse := by
  apply List.ext_getElem?
  intro k
  by_cases h : k < l.length
  · rw [revI_get h, List.getElem?_reverse h]
    have e : ∀ m, m < l.length → l[m]? = some (l.getD m 0) := fun m hm => by rw [List.getD_eq_getElem?_getD, List.getElem?_eq_getElem hm]; rfl
    rw [e _ (by omega)]
    by_cases hc : k < l.length / 2 ∨ l.length - l.length / 2 ≤ k
    · rw [if_pos hc]
    · rw [if_neg hc]
      have : k = l.length - 1 - k := by omega
      rw [← this]
  · rw [List.getElem?_eq_none (by rw [revI_len]; omega), List.getElem?_eq_none (by simp; omega)]
theorem elemO_ints {l : List Int} {k : Nat} {n : Int} (h : l[k]? = some n) : elemO (ints l) (addN 0 k) 0 1 false = some (I n) := by
  have : (ints l)[k]? = some (I n) := by simp [ints, h]
  simp [elemO, this]
theorem setO_ints {l : List Int} {k : Nat} {n : Int} (h : k < l.length) : setO 1 (ints l) (addN 0 k) 0 1 (I n) = some (ints (l.set k n)) := by
  have : (ints l)[k]? = some (I l[k]) := ints_get h
  have e : (ints l).set k (I n) = ints (l.set k n) := by simp [ints, List.map_set]
  simp only [setO, addN_eq, Nat.zero_add, this, I]
  rw [← e]
  rfl
theorem natO_I (n : Nat) : natO (I n) = some n := natO_int .i64 n
theorem revI_step {i : Nat} {l : List Int} (h : 2 * i + 2 ≤ l.length) : ((revI i l).set i (l.getD (l.length - 1 - i) 0)).set (l.length - 1 - i) (l.getD i 0) = revI (i + 1) l := by
  apply List.ext_getElem?
  intro k
  by_cases hk : k < l.length
  · rw [revI_get hk, List.getElem?_set, List.getElem?_set, List.length_set, revI_len, revI_get hk]
    by_cases h1 : l.length - 1 - i = k
    · subst h1
      rw [if_pos rfl, if_pos (by omega), if_pos (by omega)]
      congr 2
      omega
    · rw [if_neg h1]
      by_cases h2 : i = k
      · subst h2
        rw [if_pos rfl, if_pos (by omega), if_pos (by omega)]
      · rw [if_neg h2]
        by_cases h3 : k < i ∨ l.length - i ≤ k
        · rw [if_pos h3, if_pos (by omega)]
        · rw [if_neg h3, if_neg (by omega)]
  · rw [List.getElem?_eq_none (by simp [revI_len]; omega), List.getElem?_eq_none (by rw [revI_len]; omega)]
theorem wsub {a b : Int} (h1 : -9223372036854775808 ≤ a - b) (h2 : a - b ≤ 9223372036854775807) : IntKind.i64.wrap (a - b) = a - b := w64 h1 h2
set_option maxHeartbeats 800000 in
theorem reverse_run (l : List Int) (hl : l.length ≤ 1000000) : ioO B0 sh81 81 [nI (lenL (ints l)), .sl 1 (ints l) false] = some [.sl 1 (ints l.reverse) false] := by
  refine io_of_run (cfg := cfg0 B0 fun _ => .cl) (cfg_ok _) (fn := fn81) rfl rfl rfl (by simp [okVL, okV, okVL_ints]) ?_
  rw [run81]
  have hn : nI (lenL (ints l)) = I l.length := by simp [ints_len, I]
  rw [hn]
  simp only [nth_0, nth_1, natP_I, Int.toNat_natCast, itemsP_sl]
  rw [show nI l.length = I l.length from rfl]
  simp only [I_def, I_sub, bindO_val]
  rw [wsub (by omega) (by omega), show noUndef [I l.length, I 0, I ((l.length : Int) - 1)] = true from rfl, chkO_true]
  refine loop_run (fun i => ([I l.length, I i, I ((l.length : Int) - 1 - i), .sl 1 (ints (revI i l)) false], ())) (l.length / 2) (by rw [revI_zero]; simp) (fun i hlt => ?_) ?_
  · simp only [nth_0, nth_1, nth_2, nth_3, I_lss, bindO_val, iteP_bool, natP_I, Int.toNat_natCast, itemsP_sl, natO_I]
    have hj : (l.length : Int) - 1 - i = ((l.length - 1 - i : Nat) : Int) := by omega
    have e0 : decide ((i : Int) < (l.length : Int) - 1 - i) = true := by simp; omega
    rw [e0]
    simp only [if_true]
    rw [hj, natO_I]
    have g1 : (revI i l)[l.length - 1 - i]? = some (l.getD (l.length - 1 - i) 0) := by
      rw [revI_get (by omega), if_neg (by omega)]
    have g2 : (revI i l)[i]? = some (l.getD i 0) := by
      rw [revI_get (by omega), if_neg (by omega)]
    have c1 : ltN (l.length - 1 - i) l.length = true := by simp; omega
    have c2 : ltN i l.length = true := by simp; omega
    simp only [bindO_val, c1, c2, chkO_true]
    rw [elemO_ints g1]
    simp only [bindO_val]
    rw [elemO_ints g2]
    simp only [bindO_val]
    rw [setO_ints (by rw [revI_len]; omega)]
    simp only [bindO_val]
    rw [setO_ints (by rw [List.length_set, revI_len]; omega), revI_step (by omega)]
    simp only [bindO_val, I_add, I_sub, wsucc (by omega : i < 9223372036854775807)]
    rw [wsub (by omega) (by omega)]
    have e3 : ((l.length - 1 - i : Nat) : Int) - 1 = (l.length : Int) - 1 - ((i + 1 : Nat) : Int) := by omega
    rw [e3]
    rfl
  · simp only [nth_0, nth_1, nth_2, nth_3, I_lss, bindO_val, iteP_bool, itemsP_sl]
    have e0 : decide (((l.length / 2 : Nat) : Int) < (l.length : Int) - 1 - ((l.length / 2 : Nat) : Int)) = false := by simp; omega
    rw [e0, revI_end]
    rfl
theorem reversed_run {v : PV} {a : Arr} (h : IsA v a) (hl : a.n.length ≤ 1000000) : Gives 54 v ⟨a.li, a.ru, a.n.reverse⟩ 0 := by
  have ho := own_run h hl
  obtain ⟨x, rfl, hx⟩ := h.get
  refine ⟨.agg [.bool a.li, .bool a.ru, .sl 1 (ints a.n.reverse) false], ?_, .mk _ _ _ _ (.sl _ _)⟩
  refine call_parts (d := fun _ => .cl) (args := [.agg [.cv (.bool a.li), .cv (.bool a.ru), .cv x]]) (fn := fn54) rfl (by decide) ⟨⟨rfl, rfl, hx.ok, trivial⟩, trivial⟩ (fun y hy => by simp at hy; subst hy; rfl) rfl ?_
  rw [run54, ho]
  simp only [bindO_val, itemsP_sl]
  have := reverse_run a.n hl
  unfold sh81 at this
  rw [this]
  have e : slO 1 1 (itemsP (nth [.sl 1 (ints a.n.reverse) false] 0)) 0 (lenL (ints a.n)) = .sl 1 (ints a.n.reverse) false := by
    simp [slO, ints_len, ints, List.take_of_length_le]
  simp only [bindO_val]
  rw [e]
  have e7 : okU (.tup [.agg [.bool a.li, .bool a.ru, .sl 1 (ints a.n.reverse) false], .nilI]) = true := by simp [okU, okV, okVL, okVL_ints]
  rw [e7]
  rfl
end Go.Ab.Shape


namespace Go.Ab.Shape
open Go Go.Ab
inductive IsP : PV → Arr → Arr → Prop
  | mk (l1 r1 l2 r2 : Bool) (x y : PV) (b a : List Int) (hx : IsL x b) (hy : IsL y a) : IsP (.agg [.bool l1, .bool r1, x, .bool l2, .bool r2, y]) ⟨l1, r1, b⟩ ⟨l2, r2, a⟩
theorem IsP.get {v : PV} {b a : Arr} (h : IsP v b a) : ∃ x y, v = .agg [.bool b.li, .bool b.ru, x, .bool a.li, .bool a.ru, y] ∧ IsL x b.n ∧ IsL y a.n := by
  obtain ⟨_, _, _, _, x, y, _, _, hx, hy⟩ := h
  exact ⟨x, y, rfl, hx, hy⟩
theorem IsP.ok {v : PV} {b a : Arr} (h : IsP v b a) : okV v = true := by
  obtain ⟨x, y, rfl, hx, hy⟩ := h.get
  simp [okV, okVL, hx.ok, hy.ok]
theorem val6 {a b c d e f : PV} (ha : a.isCell = true) (hb : b.isCell = true) (hc : c.isCell = true) (hd : d.isCell = true) (he : e.isCell = true) (hf : f.isCell = true) : (PV.agg [a, b, c, d, e, f]).isVal = true := by simp [PV.isVal, ha, hb, hc, hd, he, hf]
theorem IsP.val {v : PV} {b a : Arr} (h : IsP v b a) : valO v = true := by
  obtain ⟨x, y, rfl, hx, hy⟩ := h.get
  exact val6 rfl rfl hx.cell rfl rfl hy.cell
theorem sel6_1 (a b c d e f : PV) : sel [a, b, c, d, e, f] 1 1 false = some b := rfl
theorem sel6_0 (a b c d e f : PV) : sel [a, b, c, d, e, f] 0 1 false = some a := rfl
theorem sel6_2 (a b c d e f : PV) : sel [a, b, c, d, e, f] 2 1 false = some c := rfl
theorem sel6_3 (a b c d e f : PV) : sel [a, b, c, d, e, f] 3 1 false = some d := rfl
theorem sel6_4 (a b c d e f : PV) : sel [a, b, c, d, e, f] 4 1 false = some e := rfl
theorem sel6_5 (a b c d e f : PV) : sel [a, b, c, d, e, f] 5 1 false = some f := rfl
theorem sel6_a (a b c d e f : PV) : sel [a, b, c, d, e, f] 0 3 true = some (.agg [a, b, c]) := rfl
theorem sel6_b (a b c d e f : PV) : sel [a, b, c, d, e, f] 3 3 true = some (.agg [d, e, f]) := rfl
theorem sel6_w (a b c d e f : PV) : sel [a, b, c, d, e, f] 0 6 true = some (.agg [a, b, c, d, e, f]) := rfl
theorem isA3 (li ru : Bool) {x : PV} {l : List Int} (h : IsL x l) : IsA (.agg [.bool li, .bool ru, x]) ⟨li, ru, l⟩ := .mk _ _ _ _ h
theorem differ_run {v : PV} {b a : Arr} (h : IsP v b a) (hb : b.n.length ≤ 1000000) (ha : a.n.length ≤ 1000000) : Gives 61 v (oneA (if a.same b then 0 else 1)) 0 := by
  obtain ⟨x, y, rfl, hx, hy⟩ := h.get
  refine ⟨oneV (if a.same b then 0 else 1), ?_, one_is _⟩
  refine call (d := fun _ => .cl) rfl (by decide) (by simp [okVL, h.ok]) rfl ?_
  have hs := same_run (isA3 a.li a.ru hy) (isA3 b.li b.ru hx) ha hb
  rw [List.map_cons, List.map_nil, run61, h.val, chkO_true]
  simp only [selO_eq, cells_agg', sel6_a, sel6_b, bindO_val, hs, iteP_bool, I_def, one_run']
  cases hq : a.same b with
  | true => rfl
  | false => rfl
theorem find_run {v : PV} {l : List Int} (hv : IsL v l) (hl : l.length ≤ 1000000) (n : Int) : callO B0 .cl (.fn 78 []) [v, I n] = some (I (idxP (fun x => n == x) 0 l)) := by
  refine call (d := fun _ => .cl) rfl (by decide) (by simp [okVL, hv.ok]) rfl ?_
  rw [List.map_cons, List.map_cons, List.map_nil, run78, hv.len]
  simp only [bindO_val]
  have h0 : noUndef [v, I n, I l.length, .int .i64 0] = true := by simp [noUndef, hv.und, I_def]
  rw [h0, chkO_true]
  have key : ∀ m i, i + m = l.length → loopL (fun z2 => bindO (pureO (.bin .lss .num false (.c (nth z2.1 3)) (.c (nth z2.1 2)))) (fun z3 => iteP z3 (bindO (pureO (.idxAddr 1 (.c (nth z2.1 0)) (.c (nth z2.1 3)))) (fun z4 => bindO (pureO (.load 1 false (.c z4))) (fun z5 => bindO (pureO (.bin .eql .num false (.c (nth z2.1 1)) (.c z5))) (fun z6 => iteP z6 (bindO (some (nth z2.1 3, z2.2)) (fun z7 => some (.inr z7))) (bindO (pureO (.bin .add .num true (.c (nth z2.1 3)) (.c (.int .i64 1)))) (fun z8 => some (.inl ([nth z2.1 0, nth z2.1 1, nth z2.1 2, z8], z2.2)))))))) (bindO (some (.int .i64 (-1), z2.2)) (fun z9 => some (.inr z9))))) (([v, I n, I l.length, I i], ()) : List PV × Unit) = some (I (idxP (fun x => n == x) i (l.drop i)), ()) := by
    intro m
    induction m with
    | zero =>
      intro i hi
      refine loopL_inr ?_
      have : i = l.length := by omega
      subst this
      simp [idxP]; rfl
    | succ m ih =>
      intro i hi
      have hlt : i < l.length := by omega
      rw [drop_cons hlt]
      by_cases hpx : n = l[i]
      · refine loopL_inr ?_
        simp only [nth_0, nth_1, nth_2, nth_3, I_lss, bindO_val, iteP_bool]
        rw [if_pos (by simpa using hlt), hv.idx hlt]
        simp [hpx, idxP]
      · rw [loopL_inl (s' := ([v, I n, I l.length, I ((i + 1 : Nat) : Int)], ()))]
        · rw [ih (i + 1) (by omega)]
          simp [idxP, hpx]
        · simp only [nth_0, nth_1, nth_2, nth_3, I_lss, bindO_val, iteP_bool]
          rw [if_pos (by simpa using hlt), hv.idx hlt]
          simp [hpx, I_def, wsucc (by omega : i < 9223372036854775807)]
  have := key l.length 0 (by omega)
  simpa [I_def] using this
theorem grow_run {n : Int} (h0 : 0 ≤ n) (h1 : n ≤ 1000000) : callO B0 (.own 1) (.fn 90 []) [.nilS, I n] = some (.sl 1 [] false) := by
  unfold callO
  have hs : B0.sp 90 (fun _ => none) ([.nilS, I n] ++ []) = some { v := .arr (0, 0) 1 0 0, new := [.arr 1 0 []] } := by
    have : sp0 90 (fun _ => none) [.nilS, I n] = some { v := .arr (0, 0) 1 0 0, new := [.arr 1 0 []] } := by simp [sp0, spGrow, I, h0, h1]
    exact this
  simp only [spO, hs]
  rfl
theorem concat_run {u v : PV} {l m : List Int} (hu : IsL u l) (hv : IsL v m) (hl : l.length ≤ 400000) (hm : m.length ≤ 400000) : lendO B0 (.own 1) true 80 [.sl 1 [u, v] false] = some (.sl 1 (ints (l ++ m)) false) := by
  refine lend_own (d := fun _ => .cl) rfl (by simp [okVL, okV, hu.ok, hv.ok]) rfl ?_
  rw [List.map_cons, List.map_nil, run80, pure_lenl]
  simp only [bindO_val]
  rw [show noUndef [.sl 1 [u, v] false, .int .i64 0, .sl 1 [u, v] false, .int .i64 (([u, v].length : Nat) : Int), .int .i64 0] = true from rfl, chkO_true]
  have i0 : pureO (.idxAddr 1 (.c (.sl 1 [u, v] false)) (.c (I 0))) = some (.ptr [u] 0) := by
    have := pure_lidx (k := .i64) (xs := [u, v]) (j := 0) (n := 1) (f := false) (v := u) (by omega) rfl
    rw [hu.cells] at this
    exact this
  have i1 : pureO (.idxAddr 1 (.c (.sl 1 [u, v] false)) (.c (I 1))) = some (.ptr [v] 0) := by
    have := pure_lidx (k := .i64) (xs := [u, v]) (j := 1) (n := 1) (f := false) (v := v) (by omega) rfl
    rw [hv.cells] at this
    exact this
  have l1 : ∀ w : PV, pureO (.load 1 false (.c (.ptr [w] 0))) = some w := fun w => by rw [pure_load]; rfl
  rw [loopL_inl (s' := ([.sl 1 [u, v] false, I l.length, .sl 1 [u, v] false, I 2, I 1], ()))]
  · rw [loopL_inl (s' := ([.sl 1 [u, v] false, I ((l.length : Int) + m.length), .sl 1 [u, v] false, I 2, I 2], ()))]
    · refine loopL_inr ?_
      simp only [nth_0, nth_1, nth_2, nth_3, nth_4, I_def, I_lss, bindO_val, iteP_bool]
      rw [if_neg (by decide), grow_run (by omega) (by omega)]
      simp only [bindO_val, pure_lenl, itemsP_sl]
      rw [show noUndef [nI (lenL []), .sl 1 [u, v] false, .int .i64 (([u, v].length : Nat) : Int), I 0] = true from rfl, chkO_true]
      rw [loopL_inl (s' := ([I l.length, .sl 1 [u, v] false, I 2, I 1, .sl 1 (ints l) false], ()))]
      · rw [loopL_inl (s' := ([I ((l.length + m.length : Nat) : Int), .sl 1 [u, v] false, I 2, I 2, .sl 1 (ints (l ++ m)) false], ()))]
        · rw [loopL_inr (r := (.sl 1 (ints (l ++ m)) false, ()))]
          · rfl
          · simp only [nth_0, nth_1, nth_2, nth_3, nth_4, I_def, I_lss, bindO_val, iteP_bool, itemsP_sl]
            rw [if_neg (by decide)]
            have : eqN (natP (I ((l.length + m.length : Nat) : Int))) (lenL (ints (l ++ m))) = true := by simp [ints_len]; omega
            rw [this]
            rfl
        · simp only [nth_0, nth_1, nth_2, nth_3, nth_4, I_def, I_lss, bindO_val, iteP_bool, itemsP_sl]
          rw [if_pos (by decide), i1]
          simp only [bindO_val, l1, hv.elems]
          have e1 : andB (leN (natP (I l.length)) (lenL (ints l))) (leN (addN (natP (I l.length)) (lenL (ints m))) 2147483648) = true := by
            have : l.length + m.length ≤ 2147483648 := by omega
            simp [ints_len, this]
          rw [e1, chkO_true]
          have e2 : catL (takeL (natP (I l.length)) (ints l)) (ints m) = ints (l ++ m) := by
            have : (ints l).take l.length = ints l := List.take_of_length_le (by rw [ints_len]; exact Nat.le_refl _)
            simp [this, ints_app]
          rw [e2]
          have e3 : nI (addN (natP (I l.length)) (lenL (ints m))) = I ((l.length + m.length : Nat) : Int) := by simp [ints_len, I]
          rw [e3]
          rfl
      · simp only [nth_0, nth_1, nth_2, nth_3, nth_4, I_def, bindO_val, iteP_bool, itemsP_sl]
        rw [show nI (lenL []) = I 0 from rfl]
        rw [show I (([u, v].length : Nat) : Int) = I 2 from rfl]
        simp only [I_lss, bindO_val, iteP_bool]
        rw [if_pos (by decide), i0]
        simp only [bindO_val, l1, hu.elems]
        have e1 : andB (leN (natP (I 0)) (lenL [])) (leN (addN (natP (I 0)) (lenL (ints l))) 2147483648) = true := by
          have : l.length ≤ 2147483648 := by omega
          simp [ints_len, this]
        rw [e1, chkO_true]
        have e2 : catL (takeL (natP (I 0)) []) (ints l) = ints l := by simp
        rw [e2]
        have e3 : nI (addN (natP (I 0)) (lenL (ints l))) = I l.length := by simp [ints_len, I]
        rw [e3]
        rfl
    · simp only [nth_0, nth_1, nth_2, nth_3, nth_4, I_def, I_lss, bindO_val, iteP_bool]
      rw [if_pos (by decide), i1]
      simp only [bindO_val, l1, hv.len, I_add, I_lss, iteP_bool]
      rw [w64 (by omega) (by omega), if_neg (by simp; omega)]
      rfl
  · simp only [nth_0, nth_1, nth_2, nth_3, nth_4, I_def]
    rw [show I (([u, v].length : Nat) : Int) = I 2 from rfl]
    simp only [I_lss, bindO_val, iteP_bool]
    rw [if_pos (by decide), i0]
    simp only [bindO_val, l1, hu.len, I_add, I_lss, iteP_bool]
    rw [w64 (by omega) (by omega), if_neg (by simp)]
    simp
    rfl
def isText (a : Arr) : Bool := a.ru && decide (0 < a.n.length)
theorem text_run {v : PV} {a : Arr} (h : IsA v a) : callO B0 .cl (.fn 79 []) [v] = some (.bool (isText a)) := by
  obtain ⟨x, rfl, hx⟩ := h.get
  refine call (d := fun _ => .cl) rfl (by decide) (by simp [okVL, h.ok]) rfl ?_
  rw [List.map_cons, List.map_nil, run79, valO_agg, val3 rfl rfl hx.cell, chkO_true]
  simp only [selO_eq, cells_agg', sel3_1, sel3_2, bindO_val, hx.len, I_def, I_gtr, iteP_bool]
  unfold isText
  have : decide ((0 : Int) < (a.n.length : Int)) = decide (0 < a.n.length) := by
    rw [Bool.eq_iff_iff, decide_eq_true_iff, decide_eq_true_iff]; omega
  rw [this]
  cases a.ru <;> rfl
def joinE (a b : Arr) : Int := if 0 < a.n.length ∧ 0 < b.n.length ∧ a.ru ≠ b.ru then 102 else if 200 < a.n.length + b.n.length then 113 else 0
def joinA (a b : Arr) : Arr := if joinE a b = 0 then ⟨true, isText a || (isText b || (a.ru && b.ru)), a.n ++ b.n⟩ else noArr
theorem join_run {v : PV} {b a : Arr} (h : IsP v b a) (hb : b.n.length ≤ 400000) (ha : a.n.length ≤ 400000) : Gives 53 v (joinA a b) (joinE a b) := by
  obtain ⟨x, y, rfl, hx, hy⟩ := h.get
  have hta := text_run (isA3 a.li a.ru hy)
  have htb := text_run (isA3 b.li b.ru hx)
  have hcc := concat_run hy hx ha hb
  have e1 : ∀ l : List Int, decide ((0 : Int) < (l.length : Int)) = decide (0 < l.length) := by
    intro l
    rw [Bool.eq_iff_iff, decide_eq_true_iff, decide_eq_true_iff]; omega
  have e2 : decide ((200 : Int) < (a.n.length : Int) + (b.n.length : Int)) = decide (200 < a.n.length + b.n.length) := by
    rw [Bool.eq_iff_iff, decide_eq_true_iff, decide_eq_true_iff]; omega
  have oks : okSls 1 [y, x] = true := by simp [okSls, hx.val, hy.val, hx.cells, hy.cells]
  have slO2 : slO 1 1 [y, x] 0 (lenL [y, x]) = .sl 1 [y, x] false := rfl
  have fin : ∀ r : Bool, okU (.tup [.agg [.bool true, .bool r, slO 1 1 (ints (a.n ++ b.n)) 0 (lenL (ints (a.n ++ b.n)))], .nilI]) = true := fun r => by
    rw [slO_all]; simp [okU, okV, okVL, okVL_ints]
  by_cases h0 : joinE a b = 0
  · refine ⟨.agg [.bool true, .bool (isText a || (isText b || (a.ru && b.ru))), .sl 1 (ints (a.n ++ b.n)) false], ?_, by unfold joinA; rw [if_pos h0]; exact .mk _ _ _ _ (.sl _ _)⟩
    have h1 : ¬ (0 < a.n.length ∧ 0 < b.n.length ∧ a.ru ≠ b.ru) := fun h => by unfold joinE at h0; rw [if_pos h] at h0; cases h0
    have h2 : ¬ 200 < a.n.length + b.n.length := fun h => by unfold joinE at h0; rw [if_neg h1, if_pos h] at h0; cases h0
    rw [h0]
    refine call (d := fun _ => .cl) rfl (by decide) (by simp [okVL, h.ok]) rfl ?_
    rw [List.map_cons, List.map_nil, run53, h.val, chkO_true]
    simp only [selO_eq, cells_agg', sel6_1, sel6_2, sel6_4, sel6_5, sel6_a, sel6_b, bindO_val, hx.len, hy.len, I_def, I_gtr, I_add, iteP_bool, pure_neb, e1, hta, htb, oks, chkO_true, slO2, hcc, itemsP_sl, fin]
    have c1 : (if decide (0 < a.n.length) = true then (if decide (0 < b.n.length) = true then some (PV.bool (!(a.ru == b.ru))) else some (.bool false)) else some (.bool false)) = some (.bool false) := by
      by_cases q1 : 0 < a.n.length
      · by_cases q2 : 0 < b.n.length
        · have : a.ru = b.ru := Classical.byContradiction fun q => h1 ⟨q1, q2, q⟩
          simp [q1, q2, this]
        · simp [q1, q2]
      · simp [q1]
    rw [c1]
    simp only [bindO_val, iteP_bool, Bool.false_eq_true, if_false]
    rw [w64 (by omega) (by omega), e2, decide_eq_false h2]
    simp only [iteP_bool, Bool.false_eq_true, if_false]
    rw [slO_all]
    have ta : isText ⟨a.li, a.ru, a.n⟩ = isText a := rfl
    have tb : isText ⟨b.li, b.ru, b.n⟩ = isText b := rfl
    rw [ta, tb]
    have fin2 : ∀ r : Bool, okU (.tup [.agg [.bool true, .bool r, .sl 1 (ints (a.n ++ b.n)) false], .nilI]) = true := fun r => by simp [okU, okV, okVL, okVL_ints]
    have oc : ∀ r : Bool, okCells (PV.bool r) 1 = true := fun _ => rfl
    have cp : ∀ r : Bool, cellP (PV.bool r) 0 = .bool r := fun _ => rfl
    rw [oc, cp, fin2]
    cases isText a <;> cases isText b <;> cases a.ru <;> simp [fin2, errV_0]
  · refine ⟨.agg [.bool false, .bool false, .nilS], ?_, by unfold joinA; rw [if_neg h0]; exact noArr_is⟩
    refine call (d := fun _ => .cl) rfl (by decide) (by simp [okVL, h.ok]) rfl ?_
    rw [List.map_cons, List.map_nil, run53, h.val, chkO_true]
    simp only [selO_eq, cells_agg', sel6_1, sel6_2, sel6_4, sel6_5, bindO_val, hx.len, hy.len, I_def, I_gtr, I_add, iteP_bool, pure_neb, e1]
    unfold joinE at h0 ⊢
    by_cases h1 : 0 < a.n.length ∧ 0 < b.n.length ∧ a.ru ≠ b.ru
    · rw [if_pos h1]
      obtain ⟨q1, q2, q3⟩ := h1
      have : (a.ru == b.ru) = false := by simpa using q3
      simp only [q1, q2, this, decide_true, if_true, bindO_val, iteP_bool, Bool.not_false]
      rfl
    · rw [if_neg h1] at h0 ⊢
      have c1 : (if decide (0 < a.n.length) = true then (if decide (0 < b.n.length) = true then some (PV.bool (!(a.ru == b.ru))) else some (.bool false)) else some (.bool false)) = some (.bool false) := by
        by_cases q1 : 0 < a.n.length
        · by_cases q2 : 0 < b.n.length
          · have : a.ru = b.ru := Classical.byContradiction fun q => h1 ⟨q1, q2, q⟩
            simp [q1, q2, this]
          · simp [q1, q2]
        · simp [q1]
      rw [c1]
      simp only [bindO_val, iteP_bool, Bool.false_eq_true, if_false]
      rw [w64 (by omega) (by omega), e2]
      by_cases h2 : 200 < a.n.length + b.n.length
      · rw [if_pos h2, decide_eq_true h2]
        rfl
      · rw [if_neg h2] at h0; exact absurd rfl h0
end Go.Ab.Shape


namespace Go.Ab.Shape
open Go Go.Ab
theorem IsL.lo {v : PV} {l : List Int} (h : IsL v l) {k : Nat} (hk : k ≤ l.length) : ∃ u, pureO (.slice 1 (.c v) (some (.c (I k))) none none) = some u ∧ IsL u (l.drop k) := by
  cases h with
  | nil =>
    have : k = 0 := by simpa using hk
    subst this
    exact ⟨.nilS, by simp [pureO, exec, RX.ev, evO, bound, natOf, chk, I, sliceOf], .nil⟩
  | sl _ f =>
    have hk' : k ≤ (ints l).length := by rw [ints_len]; exact hk
    refine ⟨.sl 1 (ints (l.drop k)) f, ?_, .sl _ _⟩
    simp [pureO, exec, RX.ev, evO, bound, natOf, chk, I, hk', ints_drop, sliceOf]
theorem IsL.himx {v : PV} {l : List Int} (h : IsL v l) {k : Nat} (hk : k ≤ l.length) : ∃ u, pureO (.slice 1 (.c v) none (some (.c (I k))) (some (.c (I k)))) = some u ∧ IsL u (l.take k) := by
  cases h with
  | nil =>
    have : k = 0 := by simpa using hk
    subst this
    exact ⟨.nilS, by simp [pureO, exec, RX.ev, evO, bound, natOf, chk, I, sliceOf], .nil⟩
  | sl _ f =>
    have hk' : k ≤ (ints l).length := by rw [ints_len]; exact hk
    refine ⟨.sl 1 (ints (l.take k)) true, ?_, .sl _ _⟩
    simp [pureO, exec, RX.ev, evO, bound, natOf, chk, I, hk', ints_take, sliceOf]
def idxAt (a b : Arr) (n : Int) : Int := if idxP (fun x => n == x) 0 a.n < 0 ∨ a.ru ≠ b.ru then (a.n.length : Int) + 1 else idxP (fun x => n == x) 0 a.n + 1
def indexE (a : Arr) : Int := if a.li then 0 else 111
def indexA (a b : Arr) : Arr := if a.li then ⟨b.li, false, b.n.map (idxAt a b)⟩ else noArr
theorem idxP_le (p : Int → Bool) : ∀ (l : List Int) (i : Nat), -1 ≤ idxP p i l ∧ idxP p i l ≤ i + l.length := by
  intro l
  induction l with
  | nil => intro i; simp [idxP]
  | cons x l ih =>
    intro i
    simp only [idxP]
    split
    · simp only [List.length_cons]; omega
    · have := ih (i + 1)
      simp only [List.length_cons]; omega
theorem app_one {l : List Int} {n : Int} {c : Nat} (hc : c = l.length) : catL (takeL c (ints l)) (takeL (lenL [I n]) (dropL 0 [I n])) = ints (l ++ [n]) := by
  subst hc
  rw [show takeL (lenL [I n]) (dropL 0 [I n]) = [I n] from rfl]
  simp [ints, List.take_of_length_le]
theorem app_chk {l : List Int} {n : Int} {c : Nat} (hc : c = l.length) (hl : l.length ≤ 1000000) : andB (leN c (lenL (ints l))) (leN (addN c (lenL (takeL (lenL [I n]) (dropL 0 [I n])))) 2147483648) = true := by
  subst hc
  have : l.length + 1 ≤ 2147483648 := by omega
  simp [ints_len, this]
theorem app_len {n : Int} (c : Nat) : nI (addN c (lenL (takeL (lenL [I n]) (dropL 0 [I n])))) = I ((c + 1 : Nat) : Int) := by simp [I]
theorem take_snoc {l : List Int} {i : Nat} (h : i < l.length) : l.take (i + 1) = l.take i ++ [l[i]] := by rw [List.take_succ_eq_append_getElem h]
set_option maxHeartbeats 1000000 in
theorem index_of_run {v : PV} {b a : Arr} (h : IsP v b a) (hb : b.n.length ≤ 400000) (ha : a.n.length ≤ 400000) : Gives 49 v (indexA a b) (indexE a) := by
  obtain ⟨x, y, rfl, hx, hy⟩ := h.get
  by_cases hli : a.li = true
  case neg =>
    rw [Bool.not_eq_true] at hli
    refine ⟨.agg [.bool false, .bool false, .nilS], ?_, by unfold indexA; rw [hli]; exact noArr_is⟩
    refine call (d := fun _ => .cl) rfl (by decide) (by simp [okVL, h.ok]) rfl ?_
    rw [List.map_cons, List.map_nil, run49, h.val, chkO_true]
    simp only [selO_eq, cells_agg', sel6_3, bindO_val, pure_not, hli, iteP_bool, Bool.not_false, if_true]
    unfold indexE
    rw [hli]
    rfl
  case pos =>
    refine ⟨.agg [.bool b.li, .bool false, .sl 1 (ints (b.n.map (idxAt a b))) false], ?_, by unfold indexA; rw [hli]; exact .mk _ _ _ _ (.sl _ _)⟩
    rw [show indexE a = 0 by unfold indexE; rw [hli]; rfl]
    refine call (d := fun _ => .cl) rfl (by decide) (by simp [okVL, h.ok]) rfl ?_
    rw [List.map_cons, List.map_nil, run49, h.val, chkO_true]
    simp only [selO_eq, cells_agg', sel6_0, sel6_2, sel6_3, bindO_val, pure_not, hli, iteP_bool, Bool.not_true, Bool.false_eq_true, if_false]
    rw [show pureO (.build [.bool false, .bool false, .nilS] [(0, (1, .c (.bool b.li)))]) = some (.agg [.bool b.li, .bool false, .nilS]) from rfl]
    simp only [bindO_val, hx.len, okCells3 (a := .bool b.li) (b := .bool false) (c := .nilS) rfl, chkO_true, cellP3_0, cellP3_1, cellP3_2, nilO]
    rw [show noUndef [x, I b.n.length, .int .i64 0] = true by simp [noUndef, hx.und, I_def], chkO_true]
    refine loop_run (fun i => ([x, I b.n.length, I i, .agg [.bool b.li, .bool b.ru, x, .bool true, .bool a.ru, y], .bool false, .bool false, .nilS, .bool b.li, .bool false, I i, .sl 1 (ints ((b.n.take i).map (idxAt a b))) false], ())) b.n.length (by simp [ints, I]) (fun i hlt => ?_) ?_
    · have n9 : ∀ (a0 a1 a2 a3 a4 a5 a6 a7 a8 a9 : PV) (l : List PV), nth (a0 :: a1 :: a2 :: a3 :: a4 :: a5 :: a6 :: a7 :: a8 :: a9 :: l) 9 = a9 := fun _ _ _ _ _ _ _ _ _ _ _ => rfl
      have n10 : ∀ (a0 a1 a2 a3 a4 a5 a6 a7 a8 a9 a10 : PV) (l : List PV), nth (a0 :: a1 :: a2 :: a3 :: a4 :: a5 :: a6 :: a7 :: a8 :: a9 :: a10 :: l) 10 = a10 := fun _ _ _ _ _ _ _ _ _ _ _ _ => rfl
      simp only [nth_0, nth_1, nth_2, nth_3, nth_4, nth_5, nth_6, nth_7, nth_8, n9, n10, I_lss, bindO_val, iteP_bool, natP_I, Int.toNat_natCast, itemsP_sl]
      rw [if_pos (by simpa using hlt), hx.idx hlt]
      simp only [bindO_val, load_I, cells_agg', sel6_5, find_run hy (by omega), sel6_4, sel6_1, pure_neb, I_def, I_lss, iteP_bool]
      have hle := idxP_le (fun x => b.n[i] == x) a.n 0
      have hln : ((b.n.take i).map (idxAt a b)).length = i := by simp; omega
      have hfin : ((b.n.take i).map (idxAt a b)) ++ [idxAt a b b.n[i]] = (b.n.take (i + 1)).map (idxAt a b) := by rw [take_snoc hlt, List.map_append]; rfl
      by_cases hc : idxP (fun x => b.n[i] == x) 0 a.n < 0 ∨ a.ru ≠ b.ru
      · have e1 : (if decide (idxP (fun x => b.n[i] == x) 0 a.n < 0) = true then some (PV.bool true) else some (PV.bool (!(a.ru == b.ru)))) = some (.bool true) := by
          rcases hc with hc | hc
          · simp [hc]
          · by_cases q : idxP (fun x => b.n[i] == x) 0 a.n < 0 <;> simp [q, hc]
        rw [e1]
        simp only [bindO_val, iteP_bool, if_true, hy.len, I_add]
        have e2 : IntKind.i64.wrap ((a.n.length : Int) + 1) = idxAt a b b.n[i] := by
          rw [w64 (by omega) (by omega)]; unfold idxAt; rw [if_pos hc]
        rw [e2]
        simp only [bindO_val, okSls_I, chkO_true]
        rw [show leN (addN 0 (lenL [I (idxAt a b b.n[i])])) (lenL [I (idxAt a b b.n[i])]) = true from rfl, app_chk hln.symm (by omega), app_one hln.symm, app_len]
        simp only [chkO_true, wsucc (by omega : i < 9223372036854775807), hfin]
      · have e1 : (if decide (idxP (fun x => b.n[i] == x) 0 a.n < 0) = true then some (PV.bool true) else some (PV.bool (!(a.ru == b.ru)))) = some (.bool false) := by
          have q1 : ¬ idxP (fun x => b.n[i] == x) 0 a.n < 0 := fun q => hc (.inl q)
          have q2 : a.ru = b.ru := Classical.byContradiction fun q => hc (.inr q)
          rw [decide_eq_false q1, q2]; simp
        rw [e1]
        simp only [bindO_val, iteP_bool, Bool.false_eq_true, if_false, I_add]
        have e2 : IntKind.i64.wrap (idxP (fun x => b.n[i] == x) 0 a.n + 1) = idxAt a b b.n[i] := by
          rw [w64 (by omega) (by omega)]; unfold idxAt; rw [if_neg hc]
        rw [e2]
        simp only [bindO_val, okSls_I, chkO_true]
        rw [show leN (addN 0 (lenL [I (idxAt a b b.n[i])])) (lenL [I (idxAt a b b.n[i])]) = true from rfl, app_chk hln.symm (by omega), app_one hln.symm, app_len]
        simp only [chkO_true, wsucc (by omega : i < 9223372036854775807), hfin]
    · have n9 : ∀ (a0 a1 a2 a3 a4 a5 a6 a7 a8 a9 : PV) (l : List PV), nth (a0 :: a1 :: a2 :: a3 :: a4 :: a5 :: a6 :: a7 :: a8 :: a9 :: l) 9 = a9 := fun _ _ _ _ _ _ _ _ _ _ _ => rfl
      have n10 : ∀ (a0 a1 a2 a3 a4 a5 a6 a7 a8 a9 a10 : PV) (l : List PV), nth (a0 :: a1 :: a2 :: a3 :: a4 :: a5 :: a6 :: a7 :: a8 :: a9 :: a10 :: l) 10 = a10 := fun _ _ _ _ _ _ _ _ _ _ _ _ => rfl
      simp only [nth_0, nth_1, nth_2, nth_7, nth_8, n9, n10, I_lss, bindO_val, iteP_bool, natP_I, Int.toNat_natCast, itemsP_sl]
      rw [if_neg (by simp), List.take_length]
      have e1 : slO 1 1 (ints (b.n.map (idxAt a b))) 0 b.n.length = .sl 1 (ints (b.n.map (idxAt a b))) false := by
        have := slO_all (b.n.map (idxAt a b))
        simpa [ints_len] using this
      rw [e1]
      have e7 : okU (.tup [.agg [.bool b.li, .bool false, .sl 1 (ints (b.n.map (idxAt a b))) false], .nilI]) = true := by simp [okU, okV, okVL, okVL_ints]
      rw [e7]
      rfl
def amtE (lo hi : Int) (a : Arr) : Int := if firstE a = 0 ∧ (firstN a < lo ∨ hi < firstN a) then 113 else firstE a
theorem amount_run {v : PV} {b a : Arr} (h : IsP v b a) (ha : a.n.length ≤ 1000000) (lo hi : Int) : callO B0 .cl (.fn 76 []) [v, I lo, I hi] = some (.tup [I (firstN a), errV (amtE lo hi a)]) := by
  obtain ⟨x, y, rfl, hx, hy⟩ := h.get
  have hf := first_run (isA3 a.li a.ru hy) ha
  refine call (d := fun _ => .cl) rfl (by decide) (by simp [okVL, h.ok]) rfl ?_
  rw [List.map_cons, List.map_cons, List.map_cons, List.map_nil, run76, h.val, chkO_true]
  simp only [selO_eq, cells_agg', sel6_b, bindO_val, hf, pure_tup, List.getElem?_cons_zero, List.getElem?_cons_succ, err_eql, iteP_bool, I_lss, I_gtr]
  have ef : firstE ⟨a.li, a.ru, a.n⟩ = firstE a := rfl
  have en : firstN ⟨a.li, a.ru, a.n⟩ = firstN a := rfl
  rw [ef, en]
  unfold amtE
  by_cases h1 : firstE a = 0
  · by_cases h2 : firstN a < lo
    · simp only [h1, h2, decide_true, if_true, bindO_val, iteP_bool, true_or, true_and]
      rfl
    · by_cases h3 : hi < firstN a
      · simp only [h1, h2, h3, decide_true, decide_false, if_true, Bool.false_eq_true, if_false, bindO_val, iteP_bool, or_true, true_and]
        rfl
      · simp only [h1, h2, h3, decide_true, decide_false, if_true, Bool.false_eq_true, if_false, bindO_val, iteP_bool, or_false, and_false]
  · simp only [h1, decide_false, Bool.false_eq_true, if_false, bindO_val, iteP_bool, false_and]
def shE (a b : Arr) : Int := if amtE (-9223372036854775808) 200 a ≠ 0 then amtE (-9223372036854775808) 200 a else if firstN a < 0 then 102 else if 0 < firstN a ∧ b.n.length = 0 then 110 else 0
def cyc (b : Arr) (n : Nat) : List Int := (List.range n).map fun i => b.n.getD (i % b.n.length) 0
def shA (a b : Arr) : Arr := if shE a b = 0 then ⟨true, b.ru, cyc b (firstN a).toNat⟩ else noArr
theorem cyc_succ (b : Arr) (n : Nat) : cyc b (n + 1) = cyc b n ++ [b.n.getD (n % b.n.length) 0] := by simp [cyc, List.range_succ]
theorem cyc_len (b : Arr) (n : Nat) : (cyc b n).length = n := by simp [cyc]
set_option maxHeartbeats 1000000 in
theorem reshape_run {v : PV} {b a : Arr} (h : IsP v b a) (hb : b.n.length ≤ 400000) (ha : a.n.length ≤ 400000) : Gives 47 v (shA a b) (shE a b) := by
  have ham := amount_run h (by omega) (-9223372036854775808) 200
  obtain ⟨x, y, rfl, hx, hy⟩ := h.get
  have elen : ((b.n.length : Int) == 0) = decide (b.n.length = 0) := by
    rw [Bool.eq_iff_iff, beq_iff_eq, decide_eq_true_iff]; omega
  by_cases h1 : amtE (-9223372036854775808) 200 a = 0
  · by_cases h2 : firstN a < 0
    · have hE : shE a b = 102 := by unfold shE; rw [if_neg (by simpa using h1), if_pos h2]
      refine ⟨.agg [.bool false, .bool false, .nilS], ?_, by unfold shA; rw [hE, if_neg (by decide)]; exact noArr_is⟩
      rw [hE]
      refine call (d := fun _ => .cl) rfl (by decide) (by simp [okVL, h.ok]) rfl ?_
      rw [List.map_cons, List.map_nil, run47, h.val, chkO_true]
      simp only [selO_eq, cells_agg', sel6_w, bindO_val, I_def, ham, pure_tup, List.getElem?_cons_zero, List.getElem?_cons_succ, err_eql, iteP_bool, I_lss, h1, h2, decide_true, if_true]
      rfl
    · by_cases h3 : 0 < firstN a ∧ b.n.length = 0
      · have hE : shE a b = 110 := by unfold shE; rw [if_neg (by simpa using h1), if_neg h2, if_pos h3]
        refine ⟨.agg [.bool false, .bool false, .nilS], ?_, by unfold shA; rw [hE, if_neg (by decide)]; exact noArr_is⟩
        rw [hE]
        refine call (d := fun _ => .cl) rfl (by decide) (by simp [okVL, h.ok]) rfl ?_
        rw [List.map_cons, List.map_nil, run47, h.val, chkO_true]
        simp only [selO_eq, cells_agg', sel6_w, sel6_2, bindO_val, I_def, ham, pure_tup, List.getElem?_cons_zero, List.getElem?_cons_succ, err_eql, err_neq, iteP_bool, I_lss, I_gtr, I_eql, hx.len, h1, h2, h3.1, h3.2, decide_true, decide_false, if_true, Bool.false_eq_true, if_false, ne_eq, not_true_eq_false]
        rfl
      · have hE : shE a b = 0 := by unfold shE; rw [if_neg (by simpa using h1), if_neg h2, if_neg h3]
        refine ⟨likeV b.ru (.sl 1 (ints (cyc b (firstN a).toNat)) false), ?_, by unfold shA; rw [if_pos hE]; exact .mk _ _ _ _ (.sl _ _)⟩
        rw [hE]
        refine call (d := fun _ => .cl) rfl (by decide) (by simp [okVL, h.ok]) rfl ?_
        rw [List.map_cons, List.map_nil, run47, h.val, chkO_true]
        have h4 : ¬ 200 < firstN a := fun q => by
          unfold amtE at h1
          by_cases q2 : firstE a = 0
          · rw [if_pos ⟨q2, .inr q⟩] at h1; cases h1
          · rw [if_neg (fun q3 => q2 q3.1)] at h1; exact q2 h1
        obtain ⟨N, hN⟩ : ∃ N : Nat, firstN a = N := ⟨(firstN a).toNat, by omega⟩
        simp only [selO_eq, cells_agg', sel6_w, sel6_2, bindO_val, I_def, ham, pure_tup, List.getElem?_cons_zero, List.getElem?_cons_succ, err_eql, err_neq, iteP_bool, I_lss, I_gtr, I_eql, hx.len, h1, h2, elen, decide_true, decide_false, if_true, Bool.false_eq_true, if_false, ne_eq, not_true_eq_false]
        rw [show pureO (.build [I 0] [(0, (1, .c (I 110)))]) = some (.agg [I 110]) from rfl]
        simp only [bindO_val]
        have e0 : (if decide (0 < firstN a) = true then some (PV.bool (decide (b.n.length = 0))) else some (.bool false)) = some (.bool false) := by
          by_cases q : 0 < firstN a
          · have : ¬ b.n.length = 0 := fun q2 => h3 ⟨q, q2⟩
            simp only [q, this, decide_true, decide_false, if_true]
          · simp only [q, decide_false, Bool.false_eq_true, if_false]
        rw [e0]
        simp only [bindO_val, iteP_bool, Bool.false_eq_true, if_false]
        rw [hN] at h3 h4 ⊢
        have hN2 : N ≤ 200 := by omega
        rw [show noUndef [nI 0, I N, I 0] = true from rfl, chkO_true]
        refine loop_run (fun i => ([I i, I N, I i, .agg [.bool b.li, .bool b.ru, x, .bool a.li, .bool a.ru, y], .bool false, .bool false, .nilS, .sl 1 (ints (cyc b i)) false], ())) N rfl (fun i hlt => ?_) ?_
        · have hbl : 0 < b.n.length := by
            rcases Nat.eq_zero_or_pos b.n.length with q | q
            · exact absurd ⟨by omega, q⟩ h3
            · exact q
          have hmod : i % b.n.length < b.n.length := Nat.mod_lt _ hbl
          simp only [nth_0, nth_1, nth_2, nth_3, nth_4, nth_5, nth_6, nth_7, I_lss, bindO_val, iteP_bool, natP_I, Int.toNat_natCast, itemsP_sl]
          rw [if_pos (by simpa using hlt)]
          simp only [cells_agg', sel6_2, bindO_val, hx.len]
          have er : pureO (.bin .rem .num false (.c (I i)) (.c (I b.n.length))) = some (I ((i % b.n.length : Nat) : Int)) := by
            rw [I, I, pure_rem _ _ (by omega)]
            rfl
          rw [er]
          simp only [bindO_val, hx.idx hmod, load_I, okSls_I, chkO_true]
          have ei : b.n[i % b.n.length] = b.n.getD (i % b.n.length) 0 := by rw [List.getD_eq_getElem?_getD, List.getElem?_eq_getElem hmod]; rfl
          rw [ei, show leN (addN 0 (lenL [I (b.n.getD (i % b.n.length) 0)])) (lenL [I (b.n.getD (i % b.n.length) 0)]) = true from rfl, app_chk (cyc_len b i).symm (by rw [cyc_len]; omega), app_one (cyc_len b i).symm, app_len, ← cyc_succ]
          simp only [chkO_true, I_add, bindO_val, wsucc (by omega : i < 9223372036854775807)]
        · simp only [nth_0, nth_1, nth_2, nth_3, nth_7, I_lss, bindO_val, iteP_bool, natP_I, Int.toNat_natCast, itemsP_sl]
          rw [if_neg (by simp)]
          simp only [cells_agg', sel6_a, bindO_val]
          have e1 : slO 1 1 (ints (cyc b N)) 0 N = .sl 1 (ints (cyc b N)) false := by
            have := slO_all (cyc b N)
            simpa [ints_len, cyc_len] using this
          rw [e1, like_lend (isA3 b.li b.ru hx)]
          rfl
  · have hE : shE a b = amtE (-9223372036854775808) 200 a := by unfold shE; rw [if_pos h1]
    refine ⟨.agg [.bool false, .bool false, .nilS], ?_, by unfold shA; rw [hE, if_neg h1]; exact noArr_is⟩
    rw [hE]
    refine call (d := fun _ => .cl) rfl (by decide) (by simp [okVL, h.ok]) rfl ?_
    rw [List.map_cons, List.map_nil, run47, h.val, chkO_true]
    simp only [selO_eq, cells_agg', sel6_w, bindO_val, I_def, ham, pure_tup, List.getElem?_cons_zero, List.getElem?_cons_succ, err_eql, err_neq, iteP_bool, h1, decide_false, Bool.false_eq_true, if_false, ne_eq, not_false_eq_true, decide_true, if_true]
    rfl
end Go.Ab.Shape


namespace Go.Ab.Shape
open Go Go.Ab
def turnAt (n : Int) (k : Nat) : Nat := (n % (k : Int)).toNat
def turn (n : Int) (l : List Int) : List Int := l.drop (turnAt n l.length) ++ l.take (turnAt n l.length)
def rotA (a b : Arr) : Arr := if firstE a = 0 then ⟨b.li, b.ru, if b.n.length = 0 then [] else turn (firstN a) b.n⟩ else noArr
theorem turnAt_lt {n : Int} {k : Nat} (hk : 0 < k) : turnAt n k < k := by
  unfold turnAt
  have h1 := Int.emod_nonneg n (show (k : Int) ≠ 0 by omega)
  have h2 := Int.emod_lt_of_pos n (show (0 : Int) < (k : Int) by omega)
  omega
theorem turn_rem {n : Int} {k : Nat} (hk : 0 < k) (hs : k ≤ 1000000) : IntKind.i64.wrap (n.tmod k + k) = n.tmod k + k ∧ (n.tmod k + k).tmod k = (turnAt n k : Int) := by
  have h2 := Int.tmod_lt_of_pos n (show (0 : Int) < (k : Int) by omega)
  have h1 : -(k : Int) < n.tmod k := by
    have := Int.tmod_lt_of_pos (-n) (show (0 : Int) < (k : Int) by omega)
    rw [Int.neg_tmod] at this
    omega
  refine ⟨w64 (by omega) (by omega), ?_⟩
  rw [Int.tmod_eq_emod_of_nonneg (by omega)]
  unfold turnAt
  rw [Int.toNat_of_nonneg (Int.emod_nonneg n (show (k : Int) ≠ 0 by omega)), Int.add_emod_right]
  have e := Int.tmod_add_mul_tdiv n k
  have : n.tmod k = n + k * (-(n.tdiv k)) := by rw [Int.mul_neg]; omega
  rw [this, Int.add_mul_emod_self_left]
set_option maxHeartbeats 1000000 in
theorem rotate_run {v : PV} {b a : Arr} (h : IsP v b a) (hb : b.n.length ≤ 400000) (ha : a.n.length ≤ 400000) : Gives 55 v (rotA a b) (firstE a) := by
  obtain ⟨x, y, rfl, hx, hy⟩ := h.get
  have hf := first_run (isA3 a.li a.ru hy) (by simpa using (by omega : a.n.length ≤ 1000000))
  have ho := own_run (isA3 b.li b.ru hx) (by simpa using (by omega : b.n.length ≤ 1000000))
  have ef : firstE ⟨a.li, a.ru, a.n⟩ = firstE a := rfl
  have en : firstN ⟨a.li, a.ru, a.n⟩ = firstN a := rfl
  rw [ef, en] at hf
  have oc : okCells (.agg [.bool b.li, .bool b.ru, x]) 3 = true := okCells3 (val3 rfl rfl hx.cell)
  have e0 : ∀ l : List Int, decide ((0 : Int) < (l.length : Int)) = decide (0 < l.length) := by
    intro l
    rw [Bool.eq_iff_iff, decide_eq_true_iff, decide_eq_true_iff]; omega
  by_cases h1 : firstE a = 0
  · have fin : ∀ l : List Int, okU (.tup [.agg [.bool b.li, .bool b.ru, .sl 1 (ints l) false], .nilI]) = true := fun l => by simp [okU, okV, okVL, okVL_ints]
    by_cases h2 : 0 < b.n.length
    · have hk := turnAt_lt (n := firstN a) h2
      obtain ⟨p, hp1, hp2⟩ := hx.lo (k := turnAt (firstN a) b.n.length) (by omega)
      obtain ⟨q, hq1, hq2⟩ := hx.himx (k := turnAt (firstN a) b.n.length) (by omega)
      have hcc := concat_run hp2 hq2 (by simp; omega) (by simp; omega)
      obtain ⟨w1, w2⟩ := turn_rem (n := firstN a) h2 (by omega)
      refine ⟨.agg [.bool b.li, .bool b.ru, .sl 1 (ints (turn (firstN a) b.n)) false], ?_, by unfold rotA; rw [if_pos h1, if_neg (by omega)]; exact .mk _ _ _ _ (.sl _ _)⟩
      rw [h1]
      refine call (d := fun _ => .cl) rfl (by decide) (by simp [okVL, h.ok]) rfl ?_
      rw [List.map_cons, List.map_nil, run55, h.val, chkO_true]
      simp only [selO_eq, cells_agg', sel6_b, sel6_a, sel6_2, bindO_val, hf, pure_tup, List.getElem?_cons_zero, List.getElem?_cons_succ, err_neq, h1, ne_eq, not_true_eq_false, decide_false, iteP_bool, Bool.false_eq_true, if_false, oc, chkO_true, ho, hx.len, I_def, I_gtr, e0, h2, decide_true, if_true]
      have r1 : pureO (.bin .rem .num false (.c (I (firstN a))) (.c (I b.n.length))) = some (I ((firstN a).tmod b.n.length)) := by
        rw [I, I, pure_rem _ _ (by omega)]; rfl
      have r2 : ∀ m : Int, pureO (.bin .rem .num false (.c (I m)) (.c (I b.n.length))) = some (I (m.tmod b.n.length)) := fun m => by
        rw [I, I, pure_rem _ _ (by omega)]; rfl
      rw [r1]
      simp only [bindO_val, I_add, w1, r2, w2, hp1, hq1]
      rw [show okSls 1 [p, q] = true by simp [okSls, hp2.val, hq2.val, hp2.cells, hq2.cells], chkO_true, show slO 1 1 [p, q] 0 (lenL [p, q]) = .sl 1 [p, q] false from rfl, hcc]
      simp only [bindO_val, itemsP_sl, slO_all, cellP3_0, cellP3_1, fin, chkO_true]
      rfl
    · have hnil : b.n = [] := List.length_eq_zero_iff.1 (by omega)
      refine ⟨.agg [.bool b.li, .bool b.ru, .sl 1 (ints b.n) false], ?_, by unfold rotA; rw [if_pos h1, if_pos (by omega), hnil]; exact .mk _ _ _ _ (.sl _ _)⟩
      rw [h1]
      refine call (d := fun _ => .cl) rfl (by decide) (by simp [okVL, h.ok]) rfl ?_
      rw [List.map_cons, List.map_nil, run55, h.val, chkO_true]
      simp only [selO_eq, cells_agg', sel6_b, sel6_a, sel6_2, bindO_val, hf, pure_tup, List.getElem?_cons_zero, List.getElem?_cons_succ, err_neq, h1, ne_eq, not_true_eq_false, decide_false, iteP_bool, Bool.false_eq_true, if_false, oc, chkO_true, ho, hx.len, I_def, I_gtr, e0, h2, itemsP_sl, slO_all, cellP3_0, cellP3_1, fin]
      rfl
  · refine ⟨.agg [.bool false, .bool false, .nilS], ?_, by unfold rotA; rw [if_neg h1]; exact noArr_is⟩
    refine call (d := fun _ => .cl) rfl (by decide) (by simp [okVL, h.ok]) rfl ?_
    rw [List.map_cons, List.map_nil, run55, h.val, chkO_true]
    simp only [selO_eq, cells_agg', sel6_b, bindO_val, hf, pure_tup, List.getElem?_cons_zero, List.getElem?_cons_succ, err_neq, h1, ne_eq, not_false_eq_true, decide_true, iteP_bool, if_true]
    rfl
def dropL' (n : Int) (l : List Int) : List Int := if 0 ≤ n then l.drop (min n l.length).toNat else l.take (max ((l.length : Int) + max n (-(l.length : Int))) 0).toNat
def dropA (a b : Arr) : Arr := if firstE a = 0 then ⟨true, b.ru, dropL' (firstN a) b.n⟩ else noArr
theorem minI (a b : Int) : pureO (.minmax false [.c (I a), .c (I b)]) = some (I (min a b)) := by
  simp only [pureO, exec, List.map_cons, List.map_nil, RX.ev, foldMM, I, chk]
  by_cases h : b < a
  · have : min a b = b := by omega
    simp [h, this]
  · have : min a b = a := by omega
    simp [h, this]
theorem maxI (a b : Int) : pureO (.minmax true [.c (I a), .c (I b)]) = some (I (max a b)) := by
  simp only [pureO, exec, List.map_cons, List.map_nil, RX.ev, foldMM, I, chk]
  by_cases h : a < b
  · have : max a b = b := by omega
    simp [h, this]
  · have : max a b = a := by omega
    simp [h, this]
theorem negI (n : Int) : pureO (.un .neg (.c (I n))) = some (I (IntKind.i64.wrap (0 - n))) := pure_neg n
theorem bound_I {n : Int} {d top : Nat} (h0 : 0 ≤ n) (h1 : n ≤ top) : boundO (some (I n)) d top = some n.toNat := by
  have : n.toNat ≤ top := by omega
  simp [boundO, bound, natOf, chk, I, h0, this]
theorem bound_none (d top : Nat) : boundO none d top = some d := rfl
set_option maxHeartbeats 1000000 in
theorem drop_run {v : PV} {b a : Arr} (h : IsP v b a) (hb : b.n.length ≤ 400000) (ha : a.n.length ≤ 400000) : Gives 58 v (dropA a b) (firstE a) := by
  obtain ⟨x, y, rfl, hx, hy⟩ := h.get
  have hf := first_run (isA3 a.li a.ru hy) (by simpa using (by omega : a.n.length ≤ 1000000))
  have ho := own_run (isA3 b.li b.ru hx) (by simpa using (by omega : b.n.length ≤ 1000000))
  have ef : firstE ⟨a.li, a.ru, a.n⟩ = firstE a := rfl
  have en : firstN ⟨a.li, a.ru, a.n⟩ = firstN a := rfl
  rw [ef, en] at hf
  have fin : ∀ (r : Bool) (l : List Int), okCells (likeV r (.sl 1 (ints l) false)) 3 = true := fun r l => rfl
  by_cases h1 : firstE a = 0
  · by_cases h2 : 0 ≤ firstN a
    · obtain ⟨m, hm⟩ : ∃ m : Nat, min (firstN a) b.n.length = m := ⟨(min (firstN a) b.n.length).toNat, by omega⟩
      have hml : m ≤ b.n.length := by omega
      refine ⟨likeV b.ru (.sl 1 (ints (b.n.drop m)) false), ?_, by
        have e : dropL' (firstN a) b.n = b.n.drop m := by unfold dropL'; rw [if_pos h2, hm]; rfl
        unfold dropA; rw [if_pos h1, e]; exact .mk _ _ _ _ (.sl _ _)⟩
      rw [h1]
      refine call (d := fun _ => .cl) rfl (by decide) (by simp [okVL, h.ok]) rfl ?_
      rw [List.map_cons, List.map_nil, run58, h.val, chkO_true]
      simp only [selO_eq, cells_agg', sel6_b, sel6_a, sel6_2, bindO_val, hf, pure_tup, List.getElem?_cons_zero, List.getElem?_cons_succ, err_neq, h1, ne_eq, not_true_eq_false, decide_false, iteP_bool, Bool.false_eq_true, if_false, ho, hx.len, I_def, I_geq, h2, decide_true, if_true, minI, hm, itemsP_sl, bound_none]
      rw [bound_I (by omega) (by simp [ints_len]; omega)]
      simp only [bindO_val, lenL_eq, ints_len, Int.toNat_natCast, eqN_eq, ltN_eq, andB_eq, iteB_bool, addN_eq, subN_eq, Nat.zero_add]
      by_cases h3 : b.n.length = m ∧ 0 < m
      · rw [if_pos (by simp [h3.1, h3.2])]
        rw [like_call (isA3 b.li b.ru hx)]
        have : b.n.drop m = [] := List.drop_eq_nil_of_le (by omega)
        rw [this]
        rfl
      · rw [if_neg (by simpa using h3)]
        rw [slO_drop _ (by omega), List.take_of_length_le (by simp), like_lend (isA3 b.li b.ru hx)]
        simp only [bindO_val, fin, chkO_true]
        rfl
    · obtain ⟨m, hm⟩ : ∃ m : Nat, max ((b.n.length : Int) + max (firstN a) (-(b.n.length : Int))) 0 = m := ⟨(max ((b.n.length : Int) + max (firstN a) (-(b.n.length : Int))) 0).toNat, by omega⟩
      have hml : m ≤ b.n.length := by omega
      refine ⟨likeV b.ru (.sl 1 (ints (b.n.take m)) false), ?_, by
        have e : dropL' (firstN a) b.n = b.n.take m := by unfold dropL'; rw [if_neg h2, hm]; rfl
        unfold dropA; rw [if_pos h1, e]; exact .mk _ _ _ _ (.sl _ _)⟩
      rw [h1]
      refine call (d := fun _ => .cl) rfl (by decide) (by simp [okVL, h.ok]) rfl ?_
      rw [List.map_cons, List.map_nil, run58, h.val, chkO_true]
      simp only [selO_eq, cells_agg', sel6_b, sel6_a, sel6_2, bindO_val, hf, pure_tup, List.getElem?_cons_zero, List.getElem?_cons_succ, err_neq, h1, ne_eq, not_true_eq_false, decide_false, iteP_bool, Bool.false_eq_true, if_false, ho, hx.len, I_def, I_geq, h2, negI, maxI, itemsP_sl, bound_none, I_add]
      rw [w64 (n := 0 - (b.n.length : Int)) (by omega) (by omega), show (0 : Int) - (b.n.length : Int) = -(b.n.length : Int) by omega, w64 (by omega) (by omega), hm]
      rw [bound_I (by omega) (by simp [ints_len]; omega)]
      simp only [bindO_val, Int.toNat_natCast]
      rw [slO_take _ hml, like_lend (isA3 b.li b.ru hx)]
      simp only [bindO_val, fin, chkO_true]
      rfl
  · refine ⟨.agg [.bool false, .bool false, .nilS], ?_, by unfold dropA; rw [if_neg h1]; exact noArr_is⟩
    refine call (d := fun _ => .cl) rfl (by decide) (by simp [okVL, h.ok]) rfl ?_
    rw [List.map_cons, List.map_nil, run58, h.val, chkO_true]
    simp only [selO_eq, cells_agg', sel6_b, bindO_val, hf, pure_tup, List.getElem?_cons_zero, List.getElem?_cons_succ, err_neq, h1, ne_eq, not_false_eq_true, decide_true, iteP_bool, if_true]
    rfl
end Go.Ab.Shape


namespace Go.Ab.Shape
open Go Go.Ab
def itm (b : Arr) (f : Int) (j : Nat) : Int := if 0 ≤ f + j ∧ f + j < b.n.length then b.n.getD (f + j).toNat 0 else fillI b.ru
def tkL (b : Arr) (f : Int) (k i : Nat) : List Int := (List.range k).map fun j => if j < i then itm b f j else 0
def tkF (b : Arr) (n : Int) : Int := if n < 0 then (b.n.length : Int) + n else 0
def tkN (n : Int) : Nat := if n < 0 then (-n).toNat else n.toNat
def takeL' (b : Arr) (n : Int) : List Int := (List.range (tkN n)).map fun j => itm b (tkF b n) j
def takeE (a : Arr) : Int := amtE (-200) 200 a
def takeA (a b : Arr) : Arr := if takeE a = 0 then ⟨true, b.ru, takeL' b (firstN a)⟩ else noArr
theorem tkL_len (b : Arr) (f : Int) (k i : Nat) : (tkL b f k i).length = k := by simp [tkL]
theorem tkL_get {b : Arr} {f : Int} {k i j : Nat} (h : j < k) : (tkL b f k i)[j]? = some (if j < i then itm b f j else 0) := by
  unfold tkL; rw [List.getElem?_map, List.getElem?_range h]; rfl
theorem tkL_zero (b : Arr) (f : Int) (k : Nat) : ints (tkL b f k 0) = List.replicate k (I 0) := by
  apply List.ext_getElem?
  intro j
  by_cases h : j < k
  · simp [ints, tkL_get h, h]
  · rw [List.getElem?_eq_none (by rw [ints_len, tkL_len]; omega), List.getElem?_eq_none (by simp; omega)]
theorem tkL_end (b : Arr) (f : Int) (k : Nat) : tkL b f k k = (List.range k).map fun j => itm b f j := by
  unfold tkL
  apply List.map_congr_left
  intro j hj
  rw [if_pos (List.mem_range.1 hj)]
theorem tkL_set {b : Arr} {f : Int} {k i : Nat} (h : i < k) : (tkL b f k i).set i (itm b f i) = tkL b f k (i + 1) := by
  apply List.ext_getElem?
  intro j
  by_cases hj : j < k
  · rw [List.getElem?_set, tkL_get hj, tkL_get hj, tkL_len]
    by_cases h1 : i = j
    · subst h1
      rw [if_pos rfl, if_pos h, if_pos (by omega)]
    · rw [if_neg h1]
      by_cases h2 : j < i
      · rw [if_pos h2, if_pos (by omega)]
      · rw [if_neg h2, if_neg (by omega)]
  · rw [List.getElem?_eq_none (by rw [List.length_set, tkL_len]; omega), List.getElem?_eq_none (by rw [tkL_len]; omega)]
set_option maxHeartbeats 2000000 in
theorem take_loop {x y : PV} {b a : Arr} (hx : IsL x b.n) (hy : IsL y a.n) (hb : b.n.length ≤ 400000) (f : Int) (k : Nat) (hk : k ≤ 200) (hf : -1000000 ≤ f ∧ f ≤ 1000000) :
    loopL (fun z13 => bindO (pureO (.bin .lss .num false (.c (nth z13.1 3)) (.c (nth z13.1 2)))) (fun z14 => iteP z14 (bindO (selO (nth z13.1 4) 1 1 false) (fun z15 => bindO (callO B0 .cl (.fn 26 []) [z15]) (fun z16 => bindO (natO (nth z13.1 3)) (fun z17 => chkO (ltN z17 (natP (nth z13.1 1))) (bindO (setO 1 (itemsP (nth z13.1 8)) (addN 0 z17) 0 1 z16) (fun z18 => bindO (pureO (.bin .add .num false (.c (nth z13.1 0)) (.c (nth z13.1 3)))) (fun z19 => bindO (bindO (pureO (.bin .geq .num true (.c z19) (.c (PV.int .i64 0)))) (fun z20 => iteP z20 (bindO (selO (nth z13.1 4) 2 1 false) (fun z21 => bindO (pureO (.len .slice (.c z21))) (fun z22 => bindO (pureO (.bin .lss .num false (.c z19) (.c z22))) (fun z23 => some z23)))) (some (PV.bool false)))) (fun z24 => iteP z24 (bindO (selO (nth z13.1 4) 2 1 false) (fun z25 => bindO (pureO (.idxAddr 1 (.c z25) (.c z19))) (fun z26 => bindO (pureO (.load 1 false (.c z26))) (fun z27 => bindO (natO (nth z13.1 3)) (fun z28 => chkO (ltN z28 (natP (nth z13.1 1))) (bindO (setO 1 z18 (addN 0 z28) 0 1 z27) (fun z29 => bindO (pureO (.bin .add .num true (.c (nth z13.1 3)) (.c (PV.int .i64 1)))) (fun z30 => some (.inl ([nth z13.1 0, nI (natP (nth z13.1 1)), nth z13.1 2, z30, nth z13.1 4, nth z13.1 5, nth z13.1 6, nth z13.1 7, PV.sl 1 z29 false], z13.2)))))))))) (bindO (pureO (.bin .add .num true (.c (nth z13.1 3)) (.c (PV.int .i64 1)))) (fun z31 => some (.inl ([nth z13.1 0, nI (natP (nth z13.1 1)), nth z13.1 2, z31, nth z13.1 4, nth z13.1 5, nth z13.1 6, nth z13.1 7, PV.sl 1 z18 false], z13.2)))))))))))) (bindO (bindO (selO (nth z13.1 4) 0 3 true) (fun z32 => bindO (lendO B0 .cl false 51 [z32, slO 1 1 (itemsP (nth z13.1 8)) 0 (natP (nth z13.1 1))]) (fun z33 => chkO (okCells z33 3) (some (PV.tup [PV.agg [cellP z33 0, cellP z33 1, cellP z33 2], PV.nilI], z13.2))))) (fun z34 => some (.inr z34))))) (([I f, I k, I k, I 0, .agg [.bool b.li, .bool b.ru, x, .bool a.li, .bool a.ru, y], .bool false, .bool false, .nilS, .sl 1 (List.replicate k (I 0)) false], ()) : List PV × Unit) =
      some (.tup [likeV b.ru (.sl 1 (ints (tkL b f k k)) false), .nilI], ()) := by
  refine loop_run (fun i => ([I f, I k, I k, I i, .agg [.bool b.li, .bool b.ru, x, .bool a.li, .bool a.ru, y], .bool false, .bool false, .nilS, .sl 1 (ints (tkL b f k i)) false], ())) k (by rw [tkL_zero]; rfl) (fun i hlt => ?_) ?_
  · simp only [nth_0, nth_1, nth_2, nth_3, nth_4, nth_5, nth_6, nth_7, nth_8, I_lss, bindO_val, iteP_bool, natP_I, Int.toNat_natCast, itemsP_sl, natO_I, selO_eq, cells_agg', sel6_1, sel6_2, fill_run]
    rw [if_pos (by simpa using hlt)]
    have c1 : ltN i k = true := by simpa using hlt
    rw [c1, setO_ints (by rw [tkL_len]; exact hlt)]
    simp only [chkO_true, bindO_val, I_add]
    rw [w64 (n := f + (i : Int)) (by omega) (by omega)]
    simp only [I_def, I_geq, I_lss, bindO_val, iteP_bool, hx.len]
    by_cases h1 : 0 ≤ f + (i : Int)
    · by_cases h2 : f + (i : Int) < b.n.length
      · obtain ⟨m, hm⟩ : ∃ m : Nat, f + (i : Int) = m := ⟨(f + i).toNat, by omega⟩
        have hml : m < b.n.length := by omega
        have e1 : (if decide (0 ≤ f + (i : Int)) = true then some (PV.bool (decide (f + (i : Int) < b.n.length))) else some (.bool false)) = some (.bool true) := by
          simp only [h1, h2, decide_true, if_true]
        rw [e1]
        simp only [bindO_val, iteP_bool, if_true]
        rw [hm, hx.idx hml]
        simp only [bindO_val, load_I]
        rw [setO_ints (by rw [List.length_set, tkL_len]; exact hlt)]
        have e2 : ((tkL b f k i).set i (fillI b.ru)).set i b.n[m] = tkL b f k (i + 1) := by
          rw [List.set_set, ← tkL_set hlt]
          congr 1
          unfold itm
          rw [if_pos ⟨h1, h2⟩, hm, Int.toNat_natCast, List.getD_eq_getElem?_getD, List.getElem?_eq_getElem hml]; rfl
        rw [e2]
        simp only [bindO_val, I_add, wsucc (by omega : i < 9223372036854775807)]
        rfl
      · have e1 : (if decide (0 ≤ f + (i : Int)) = true then some (PV.bool (decide (f + (i : Int) < b.n.length))) else some (.bool false)) = some (.bool false) := by
          simp only [h1, h2, decide_true, decide_false, if_true]
        rw [e1]
        simp only [bindO_val, iteP_bool, Bool.false_eq_true, if_false]
        have e2 : (tkL b f k i).set i (fillI b.ru) = tkL b f k (i + 1) := by
          rw [← tkL_set hlt]; congr 1; unfold itm; rw [if_neg (fun q => h2 q.2)]
        rw [e2]
        simp only [bindO_val, I_add, wsucc (by omega : i < 9223372036854775807)]
        rfl
    · have e1 : (if decide (0 ≤ f + (i : Int)) = true then some (PV.bool (decide (f + (i : Int) < b.n.length))) else some (.bool false)) = some (.bool false) := by
        simp only [h1, decide_false, Bool.false_eq_true, if_false]
      rw [e1]
      simp only [bindO_val, iteP_bool, Bool.false_eq_true, if_false]
      have e2 : (tkL b f k i).set i (fillI b.ru) = tkL b f k (i + 1) := by
        rw [← tkL_set hlt]; congr 1; unfold itm; rw [if_neg (fun q => h1 q.1)]
      rw [e2]
      simp only [bindO_val, I_add, wsucc (by omega : i < 9223372036854775807)]
      rfl
  · simp only [nth_0, nth_1, nth_2, nth_3, nth_4, nth_8, I_lss, bindO_val, iteP_bool, natP_I, Int.toNat_natCast, itemsP_sl]
    rw [if_neg (by simp)]
    simp only [selO_eq, cells_agg', sel6_a, bindO_val]
    have e1 : slO 1 1 (ints (tkL b f k k)) 0 k = .sl 1 (ints (tkL b f k k)) false := by
      have := slO_all (tkL b f k k)
      simpa [ints_len, tkL_len] using this
    rw [e1, like_lend (isA3 b.li b.ru hx)]
    rfl
set_option maxHeartbeats 1000000 in
theorem take_run {v : PV} {b a : Arr} (h : IsP v b a) (hb : b.n.length ≤ 400000) (ha : a.n.length ≤ 400000) : Gives 57 v (takeA a b) (takeE a) := by
  have ham := amount_run h (by omega) (-200) 200
  obtain ⟨x, y, rfl, hx, hy⟩ := h.get
  have ee : takeE a = amtE (-200) 200 a := rfl
  by_cases h1 : amtE (-200) 200 a = 0
  · have h3 : firstE a = 0 ∧ ¬ firstN a < -200 ∧ ¬ 200 < firstN a := by
      unfold amtE at h1
      by_cases q : firstE a = 0 ∧ (firstN a < -200 ∨ 200 < firstN a)
      · rw [if_pos q] at h1; cases h1
      · rw [if_neg q] at h1
        exact ⟨h1, fun q2 => q ⟨h1, .inl q2⟩, fun q2 => q ⟨h1, .inr q2⟩⟩
    have hl := take_loop hx hy hb (tkF b (firstN a)) (tkN (firstN a)) (by unfold tkN; split <;> omega) (by unfold tkF; split <;> omega)
    rw [tkL_end] at hl
    simp only [selO_eq, cells_agg', sel6_w, sel6_2, bindO_val, I_def, ham, pure_tup, List.getElem?_cons_zero, List.getElem?_cons_succ, err_neq, h1, ne_eq, not_true_eq_false, decide_false, iteP_bool, Bool.false_eq_true, if_false, I_lss, hx.len, I_add, negI] at hl
    refine ⟨likeV b.ru (.sl 1 (ints (takeL' b (firstN a))) false), ?_, by unfold takeA; rw [if_pos (ee.trans h1)]; exact .mk _ _ _ _ (.sl _ _)⟩
    rw [ee, h1]
    refine call (d := fun _ => .cl) rfl (by decide) (by simp [okVL, h.ok]) rfl ?_
    rw [List.map_cons, List.map_nil, run57, h.val, chkO_true]
    simp only [selO_eq, cells_agg', sel6_w, sel6_2, bindO_val, I_def, ham, pure_tup, List.getElem?_cons_zero, List.getElem?_cons_succ, err_neq, h1, ne_eq, not_true_eq_false, decide_false, iteP_bool, Bool.false_eq_true, if_false, I_lss, hx.len, I_add, negI]
    by_cases h2 : firstN a < 0
    · have ef : tkF b (firstN a) = (b.n.length : Int) + firstN a := by unfold tkF; rw [if_pos h2]
      have ek : ((tkN (firstN a) : Nat) : Int) = -(firstN a) := by unfold tkN; rw [if_pos h2]; omega
      simp only [h2, decide_true, if_true]
      rw [w64 (n := (b.n.length : Int) + firstN a) (by omega) (by omega), w64 (n := 0 - firstN a) (by omega) (by omega), show (0 : Int) - firstN a = -(firstN a) by omega, ← ef, ← ek, mkSO_I (by unfold tkN; split <;> omega)]
      simp only [bindO_val]
      rw [show noUndef [I (tkF b (firstN a)), nI (tkN (firstN a)), nI (tkN (firstN a)), I 0] = true from rfl, chkO_true]
      exact hl
    · have ef : tkF b (firstN a) = 0 := by unfold tkF; rw [if_neg h2]
      have ek : firstN a = ((tkN (firstN a) : Nat) : Int) := by unfold tkN; rw [if_neg h2]; omega
      simp only [h2, decide_false, Bool.false_eq_true, if_false]
      have em : mkSO (I (firstN a)) (I (firstN a)) = some (tkN (firstN a)) := by
        have := mkSO_I (n := tkN (firstN a)) (by unfold tkN; split <;> omega)
        rwa [← ek] at this
      rw [em]
      simp only [bindO_val]
      rw [show noUndef [I 0, nI (tkN (firstN a)), nI (tkN (firstN a)), I 0] = true from rfl, chkO_true]
      rw [ef] at hl
      have et : takeL' b (firstN a) = (List.range (tkN (firstN a))).map fun j => itm b 0 j := by unfold takeL'; rw [ef]
      rw [et]
      exact hl
  · refine ⟨.agg [.bool false, .bool false, .nilS], ?_, by unfold takeA; rw [if_neg (fun q => h1 (ee.symm.trans q))]; exact noArr_is⟩
    rw [ee]
    refine call (d := fun _ => .cl) rfl (by decide) (by simp [okVL, h.ok]) rfl ?_
    rw [List.map_cons, List.map_nil, run57, h.val, chkO_true]
    simp only [selO_eq, cells_agg', sel6_w, bindO_val, I_def, ham, pure_tup, List.getElem?_cons_zero, List.getElem?_cons_succ, err_neq, h1, ne_eq, not_false_eq_true, decide_true, iteP_bool, if_true]
    rfl
def monE (g : List UInt8) (b : Arr) : Int :=
  if b.right = false then 114
  else if g = gR then 0 else if g = gI then countE b else if g = gC then 0 else if g = gT then 0 else if g = gU then 0 else if g = gN then 0 else 102
def monA (g : List UInt8) (b : Arr) : Arr :=
  if b.right = false then noArr
  else if g = gR then sizeA b else if g = gI then countA b else if g = gC then ⟨true, b.ru, b.n⟩ else if g = gT then ⟨b.li, b.ru, b.n.reverse⟩ else if g = gU then headA b else if g = gN then oneA b.n.length else noArr
theorem func_ne (f : FuncId) : pureO (.bin .eql .func true (.c (.fn f [])) (.c .nilF)) = some (.bool false) := rfl
theorem func_eq : pureO (.bin .eql .func true (.c .nilF) (.c .nilF)) = some (.bool true) := rfl
theorem okSls3 {v : PV} {a : Arr} (h : IsA v a) : okSls 3 [v] = true := by
  obtain ⟨x, rfl, hx⟩ := h.get
  simp [okSls, val3 (a := .bool a.li) (b := .bool a.ru) rfl rfl hx.cell]
theorem okSls33 {v u : PV} {a b : Arr} (h : IsA v a) (hu : IsA u b) : okSls 3 [v, u] = true := by
  obtain ⟨x, rfl, hx⟩ := h.get
  obtain ⟨y, rfl, hy⟩ := hu.get
  simp [okSls, val3 (a := .bool a.li) (b := .bool a.ru) rfl rfl hx.cell, val3 (a := .bool b.li) (b := .bool b.ru) rfl rfl hy.cell]
theorem valO_is {v : PV} {a : Arr} (h : IsA v a) : valO v = true := by
  obtain ⟨x, rfl, hx⟩ := h.get
  exact val3 rfl rfl hx.cell
theorem sel_is {v : PV} {a : Arr} (h : IsA v a) : selO v 0 3 true = some v := by
  obtain ⟨x, rfl, hx⟩ := h.get
  rfl
theorem mon_gives {g : FuncId} {v : PV} {r : Arr} {c : Int} (h : Gives g v r c) : ∃ y, IsA y r ∧ (bindO (callO B0 .cl (.fn g []) [v]) (fun z10 => bindO (pureO (.extract 0 (.c z10))) (fun z11 => bindO (pureO (.extract 1 (.c z10))) (fun z12 => chkO (okCells z11 3) (bindO (callO B0 .cl (.fn 32 []) [z12]) (fun z13 => some (PV.tup [.agg [cellP z11 0, cellP z11 1, cellP z11 2], z13], ()))))))) = some (.tup [y, I c], ()) := by
  obtain ⟨y, h1, h2⟩ := h
  refine ⟨y, h2, ?_⟩
  rw [h1]
  simp only [bindO_val, pure_tup, List.getElem?_cons_zero, List.getElem?_cons_succ, okCells_is h2, chkO_true, told_run, cells_is h2]
theorem mon_run (g : List UInt8) {v : PV} {b : Arr} (h : IsA v b) (hl : b.n.length ≤ 1000000) : ∃ y, callO B0 .cl (.fn 13 []) [.str g, v] = some (.tup [y, I (monE g b)]) ∧ IsA y (monA g b) := by
  have key : ∃ y, IsA y (monA g b) ∧ runK (cfg0 B0 fun _ => .cl) fn13 .cl noHandler 0 [.cv (.str g), .cv v] () = some (.tup [y, I (monE g b)], ()) := by
    rw [run13, valO_is h, chkO_true, funs_run]
    simp only [bindO_val, look_run, sel_is h, okSls3 h, chkO_true]
    rw [show okCells (.agg [monF g, dyF g]) 2 = true by
      unfold monF dyF okCells
      simp only [PV.isVal]
      by_cases h1 : g = gR; · simp [h1, PV.isCell]
      by_cases h2 : g = gI; · simp [h1, h2, PV.isCell]
      by_cases h3 : g = gC; · simp [h1, h2, h3, PV.isCell]
      by_cases h4 : g = gT; · simp [h1, h2, h3, h4, PV.isCell]
      by_cases h5 : g = gU; · simp [h1, h2, h3, h4, h5, PV.isCell]
      by_cases h6 : g = gD; · simp [h1, h2, h3, h4, h5, h6, PV.isCell]
      by_cases h7 : g = gN; · simp [h1, h2, h3, h4, h5, h6, h7, PV.isCell]
      simp [h1, h2, h3, h4, h5, h6, h7, PV.isCell], chkO_true]
    have e0 : slO 3 3 [v] 0 (lenL [v]) = .sl 3 [v] false := rfl
    rw [e0, right1 h hl]
    simp only [bindO_val, pure_not, iteP_bool]
    unfold monE monA
    cases hr : b.right with
    | false => exact ⟨_, noArr_is, rfl⟩
    | true =>
      simp only [Bool.not_true, Bool.false_eq_true, if_false]
      rw [show cellP (.agg [monF g, dyF g]) 0 = monF g from rfl]
      unfold monF
      by_cases h1 : g = gR
      · simp only [h1, if_true, func_ne, bindO_val, iteP_bool, Bool.false_eq_true, if_false]
        exact mon_gives (size_run h hl)
      simp only [h1, if_false]
      by_cases h2 : g = gI
      · simp only [h2, if_true, func_ne, bindO_val, iteP_bool, Bool.false_eq_true, if_false]
        exact mon_gives (count_run h hl)
      simp only [h2, if_false]
      by_cases h3 : g = gC
      · simp only [h3, if_true, func_ne, bindO_val, iteP_bool, Bool.false_eq_true, if_false]
        exact mon_gives (comma_run h hl)
      simp only [h3, if_false]
      by_cases h4 : g = gT
      · simp only [h4, if_true, func_ne, bindO_val, iteP_bool, Bool.false_eq_true, if_false]
        exact mon_gives (reversed_run h hl)
      simp only [h4, if_false]
      by_cases h5 : g = gU
      · simp only [h5, if_true, func_ne, bindO_val, iteP_bool, Bool.false_eq_true, if_false]
        exact mon_gives (head_run h hl)
      simp only [h5, if_false]
      by_cases h6 : g = gN
      · simp only [h6, if_true, func_ne, bindO_val, iteP_bool, Bool.false_eq_true, if_false]
        exact mon_gives (len_run h)
      simp only [h6, if_false, func_eq, bindO_val, iteP_bool, if_true]
      exact ⟨_, noArr_is, rfl⟩
  obtain ⟨y, h1, h2⟩ := key
  refine ⟨y, ?_, h1⟩
  exact call (d := fun _ => .cl) rfl (by decide) (by simp [okVL, okV, h.ok]) rfl h2
def dyE (g : List UInt8) (a b : Arr) : Int :=
  if (a.right && b.right) = false then 114
  else if g = gR then shE a b else if g = gI then indexE a else if g = gC then joinE a b else if g = gT then firstE a else if g = gU then takeE a else if g = gD then firstE a else if g = gN then 0 else 102
def dyA (g : List UInt8) (a b : Arr) : Arr :=
  if (a.right && b.right) = false then noArr
  else if g = gR then shA a b else if g = gI then indexA a b else if g = gC then joinA a b else if g = gT then rotA a b else if g = gU then takeA a b else if g = gD then dropA a b else if g = gN then oneA (if a.same b then 0 else 1) else noArr
theorem pair_build {v u : PV} {a b : Arr} (h : IsA v a) (hu : IsA u b) : ∃ p, pureO (.build [.bool false, .bool false, .nilS, .bool false, .bool false, .nilS] [(0, (3, .c u)), (3, (3, .c v))]) = some p ∧ IsP p b a := by
  obtain ⟨x, rfl, hx⟩ := h.get
  obtain ⟨y, rfl, hy⟩ := hu.get
  refine ⟨.agg [.bool b.li, .bool b.ru, y, .bool a.li, .bool a.ru, x], ?_, .mk _ _ _ _ _ _ _ _ hy hx⟩
  simp [pureO, exec, fillPV, RX.ev, val3 (a := .bool a.li) (b := .bool a.ru) rfl rfl hx.cell, val3 (a := .bool b.li) (b := .bool b.ru) rfl rfl hy.cell, splice, chk]
theorem dy_key (g : List UInt8) {v u : PV} {a b : Arr} (h : IsA v a) (hu : IsA u b) (ha : a.n.length ≤ 400000) (hb : b.n.length ≤ 400000) :
    ∃ y, IsA y (dyA g a b) ∧ runK (cfg0 B0 fun _ => .cl) fn15 .cl noHandler 0 [.cv (.str g), .cv v, .cv u] () = some (.tup [y, I (dyE g a b)], ()) := by
  obtain ⟨p, hp1, hp2⟩ := pair_build h hu
  rw [run15, valO_is h, valO_is hu, chkO_true, chkO_true, funs_run]
  simp only [bindO_val, look_run, sel_is h, sel_is hu, okSls33 h hu, chkO_true, hp1]
  rw [show okCells (.agg [monF g, dyF g]) 2 = true by
    unfold monF dyF okCells
    simp only [PV.isVal]
    by_cases h1 : g = gR; · simp [h1, PV.isCell]
    by_cases h2 : g = gI; · simp [h1, h2, PV.isCell]
    by_cases h3 : g = gC; · simp [h1, h2, h3, PV.isCell]
    by_cases h4 : g = gT; · simp [h1, h2, h3, h4, PV.isCell]
    by_cases h5 : g = gU; · simp [h1, h2, h3, h4, h5, PV.isCell]
    by_cases h6 : g = gD; · simp [h1, h2, h3, h4, h5, h6, PV.isCell]
    by_cases h7 : g = gN; · simp [h1, h2, h3, h4, h5, h6, h7, PV.isCell]
    simp [h1, h2, h3, h4, h5, h6, h7, PV.isCell], chkO_true]
  have e0 : slO 3 3 [v, u] 0 (lenL [v, u]) = .sl 3 [v, u] false := rfl
  rw [e0, right2 h hu (by omega) (by omega)]
  simp only [bindO_val, pure_not, iteP_bool]
  unfold dyE dyA
  cases hr : (a.right && b.right) with
  | false => exact ⟨_, noArr_is, rfl⟩
  | true =>
    simp only [Bool.not_true, Bool.false_eq_true, if_false]
    rw [show cellP (.agg [monF g, dyF g]) 1 = dyF g from rfl]
    unfold dyF
    by_cases h1 : g = gR
    · simp only [h1, if_true, func_ne, bindO_val, iteP_bool, Bool.false_eq_true, if_false]
      exact mon_gives (reshape_run hp2 hb ha)
    simp only [h1, if_false]
    by_cases h2 : g = gI
    · simp only [h2, if_true, func_ne, bindO_val, iteP_bool, Bool.false_eq_true, if_false]
      exact mon_gives (index_of_run hp2 hb ha)
    simp only [h2, if_false]
    by_cases h3 : g = gC
    · simp only [h3, if_true, func_ne, bindO_val, iteP_bool, Bool.false_eq_true, if_false]
      exact mon_gives (join_run hp2 hb ha)
    simp only [h3, if_false]
    by_cases h4 : g = gT
    · simp only [h4, if_true, func_ne, bindO_val, iteP_bool, Bool.false_eq_true, if_false]
      exact mon_gives (rotate_run hp2 hb ha)
    simp only [h4, if_false]
    by_cases h5 : g = gU
    · simp only [h5, if_true, func_ne, bindO_val, iteP_bool, Bool.false_eq_true, if_false]
      exact mon_gives (take_run hp2 hb ha)
    simp only [h5, if_false]
    by_cases h6 : g = gD
    · simp only [h6, if_true, func_ne, bindO_val, iteP_bool, Bool.false_eq_true, if_false]
      exact mon_gives (drop_run hp2 hb ha)
    simp only [h6, if_false]
    by_cases h7 : g = gN
    · simp only [h7, if_true, func_ne, bindO_val, iteP_bool, Bool.false_eq_true, if_false]
      exact mon_gives (differ_run hp2 (by omega) (by omega))
    simp only [h7, if_false, func_eq, bindO_val, iteP_bool, if_true]
    exact ⟨_, noArr_is, rfl⟩
theorem dy_run (g : List UInt8) {v u : PV} {a b : Arr} (h : IsA v a) (hu : IsA u b) (ha : a.n.length ≤ 400000) (hb : b.n.length ≤ 400000) : ∃ y, callO B0 .cl (.fn 15 []) [.str g, v, u] = some (.tup [y, I (dyE g a b)]) ∧ IsA y (dyA g a b) := by
  obtain ⟨y, h1, h2⟩ := dy_key g h hu ha hb
  refine ⟨y, ?_, h1⟩
  exact call (d := fun _ => .cl) rfl (by decide) (by simp [okVL, okV, h.ok, hu.ok]) rfl h2
end Go.Ab.Shape


namespace Go.Ab.Shape
open Go Go.Ab
theorem okSto_is {v u : PV} {a b : Arr} (h : IsA v a) (hu : IsA u b) : okSto v u 0 3 = true := by
  obtain ⟨x, rfl, hx⟩ := h.get
  obtain ⟨y, rfl, hy⟩ := hu.get
  simp [okSto, val3 (a := .bool a.li) (b := .bool a.ru) rfl rfl hx.cell]
theorem stoP_is {v u : PV} {a b : Arr} (h : IsA v a) (hu : IsA u b) : stoP v u 0 = v := by
  obtain ⟨x, rfl, hx⟩ := h.get
  obtain ⟨y, rfl, hy⟩ := hu.get
  rfl
theorem few_len (a : Arr) : a.few.n.length ≤ 202 := by simp [Arr.few]; omega
theorem c2_is {v : PV} {a : Arr} (h : IsA v a) : IsL (cellP v 2) a.n := by obtain ⟨x, rfl, hx⟩ := h.get; exact hx
theorem s0_is {v : PV} {a : Arr} (h : IsA v a) : selO v 0 1 false = some (.bool a.li) := by obtain ⟨x, rfl, hx⟩ := h.get; rfl
theorem s1_is {v : PV} {a : Arr} (h : IsA v a) : selO v 1 1 false = some (.bool a.ru) := by obtain ⟨x, rfl, hx⟩ := h.get; rfl
theorem s2_is {v : PV} {a : Arr} (h : IsA v a) : selO v 2 1 false = some (cellP v 2) := by obtain ⟨x, rfl, hx⟩ := h.get; rfl
theorem idx0 {v : PV} {n : Int} {l : List Int} (h : IsL v (n :: l)) : pureO (.idxAddr 1 (.c v) (.c (.int .i64 0))) = some (.ptr [I n] 0) := h.idx (i := 0) (by simp)
theorem bV {α β : Type} (a : α) (f : α → Option β) : bindO (some a) f = f a := Eq.trans rfl rfl
theorem cT {β : Type} (a : Option β) : chkO true a = a := Eq.trans rfl rfl
theorem iD (n : Int) : PV.int .i64 n = I n := Eq.trans rfl rfl
theorem IsL.at {v : PV} {l : List Int} (h : IsL v l) {i : Nat} {n : Int} (hi : l[i]? = some n) : pureO (.idxAddr 1 (.c v) (.c (I i))) = some (.ptr [I n] 0) := by
  obtain ⟨h1, h2⟩ := List.getElem?_eq_some_iff.1 hi
  rw [h.idx h1, h2]
section
variable {a b : Arr}
theorem mon_R (h : b.right = true) : monE gR b = 0 ∧ monA gR b = sizeA b := by unfold monE monA; simp [h]
theorem mon_I (h : b.right = true) : monE gI b = countE b ∧ monA gI b = countA b := by unfold monE monA; simp [h, show ¬ gI = gR by decide]
theorem mon_C (h : b.right = true) : monE gC b = 0 ∧ monA gC b = ⟨true, b.ru, b.n⟩ := by unfold monE monA; simp [h, show ¬ gC = gR by decide, show ¬ gC = gI by decide]
theorem mon_T (h : b.right = true) : monE gT b = 0 ∧ monA gT b = ⟨b.li, b.ru, b.n.reverse⟩ := by unfold monE monA; simp [h, show ¬ gT = gR by decide, show ¬ gT = gI by decide, show ¬ gT = gC by decide]
theorem mon_U (h : b.right = true) : monE gU b = 0 ∧ monA gU b = headA b := by unfold monE monA; simp [h, show ¬ gU = gR by decide, show ¬ gU = gI by decide, show ¬ gU = gC by decide, show ¬ gU = gT by decide]
theorem mon_N (h : b.right = true) : monE gN b = 0 ∧ monA gN b = oneA b.n.length := by unfold monE monA; simp [h, show ¬ gN = gR by decide, show ¬ gN = gI by decide, show ¬ gN = gC by decide, show ¬ gN = gT by decide, show ¬ gN = gU by decide]
theorem mon_not {g : List UInt8} (h : b.right = false) : monE g b = 114 ∧ monA g b = noArr := by unfold monE monA; simp [h]
theorem dy_not {g : List UInt8} (h : (a.right && b.right) = false) : dyE g a b = 114 ∧ dyA g a b = noArr := by unfold dyE dyA; rw [if_pos h, if_pos h]; exact ⟨rfl, rfl⟩
theorem dy_R (ha : a.right = true) (h : b.right = true) : dyE gR a b = shE a b ∧ dyA gR a b = shA a b := by unfold dyE dyA; simp [h, ha]
theorem dy_I (ha : a.right = true) (h : b.right = true) : dyE gI a b = indexE a ∧ dyA gI a b = indexA a b := by unfold dyE dyA; simp [h, ha, show ¬ gI = gR by decide]
theorem dy_C (ha : a.right = true) (h : b.right = true) : dyE gC a b = joinE a b ∧ dyA gC a b = joinA a b := by unfold dyE dyA; simp [h, ha, show ¬ gC = gR by decide, show ¬ gC = gI by decide]
theorem dy_T (ha : a.right = true) (h : b.right = true) : dyE gT a b = firstE a ∧ dyA gT a b = rotA a b := by unfold dyE dyA; simp [h, ha, show ¬ gT = gR by decide, show ¬ gT = gI by decide, show ¬ gT = gC by decide]
theorem dy_U (ha : a.right = true) (h : b.right = true) : dyE gU a b = takeE a ∧ dyA gU a b = takeA a b := by unfold dyE dyA; simp [h, ha, show ¬ gU = gR by decide, show ¬ gU = gI by decide, show ¬ gU = gC by decide, show ¬ gU = gT by decide]
theorem dy_D (ha : a.right = true) (h : b.right = true) : dyE gD a b = firstE a ∧ dyA gD a b = dropA a b := by unfold dyE dyA; simp [h, ha, show ¬ gD = gR by decide, show ¬ gD = gI by decide, show ¬ gD = gC by decide, show ¬ gD = gT by decide, show ¬ gD = gU by decide]
theorem dy_N (ha : a.right = true) (h : b.right = true) : dyE gN a b = 0 ∧ dyA gN a b = oneA (if a.same b then 0 else 1) := by unfold dyE dyA; simp [h, ha, show ¬ gN = gR by decide, show ¬ gN = gI by decide, show ¬ gN = gC by decide, show ¬ gN = gT by decide, show ¬ gN = gU by decide, show ¬ gN = gD by decide]
end
theorem right_one (n : Int) : (oneA n).right = true := by simp [Arr.right, oneA]
end Go.Ab.Shape


namespace Go.Ab.Shape
open Go Go.Ab
end Go.Ab.Shape


namespace Go.Ab.Shape
open Go Go.Ab
theorem right_len {a : Arr} (h : a.right = true) : a.n.length ≤ 200 := by
  unfold Arr.right at h
  rw [Bool.and_eq_true] at h
  have h2 := h.2
  split at h2
  · simpa using h2
  · have : a.n.length = 1 := by simpa using h2
    omega
theorem right_runes {a : Arr} (h : a.right = true) (hr : a.ru = true) : ∀ n ∈ a.n, rune n = true := by
  unfold Arr.right at h
  rw [Bool.and_eq_true] at h
  have h1 := h.1
  rw [hr] at h1
  simp only [Bool.true_and, Bool.not_eq_true'] at h1
  intro n hn
  cases hq : rune n with
  | true => rfl
  | false =>
    have : (a.n.any fun n => !rune n) = true := List.any_eq_true.2 ⟨n, hn, by simp [hq]⟩
    rw [this] at h1; cases h1
theorem right_mk {li ru : Bool} {l : List Int} (h1 : ru = true → ∀ n ∈ l, rune n = true) (h2 : if li then l.length ≤ 200 else l.length = 1) : (⟨li, ru, l⟩ : Arr).right = true := by
  unfold Arr.right
  rw [Bool.and_eq_true]
  refine ⟨?_, ?_⟩
  · cases ru with
    | false => rfl
    | true =>
      simp only [Bool.true_and, Bool.not_eq_true']
      rw [Bool.eq_false_iff]
      intro ha
      obtain ⟨n, hn, hq⟩ := List.any_eq_true.1 ha
      rw [h1 rfl n hn] at hq; cases hq
  · cases li with
    | true => simpa using h2
    | false => simpa using h2
end Go.Ab.Shape


namespace Go.Ab.Shape
open Go Go.Ab
theorem noArr_wrong : noArr.right = false := by simp [Arr.right, noArr]
theorem rune_32 : rune 32 = true := by decide
theorem firstE_or (a : Arr) : firstE a = 0 ∨ firstE a = 111 ∨ firstE a = 102 := by
  unfold firstE
  split
  · exact .inr (.inl rfl)
  · split
    · exact .inr (.inr rfl)
    · exact .inl rfl
theorem amtE_or (lo hi : Int) (a : Arr) : amtE lo hi a = 0 ∨ amtE lo hi a = 111 ∨ amtE lo hi a = 102 ∨ amtE lo hi a = 113 := by
  unfold amtE
  split
  · exact .inr (.inr (.inr rfl))
  · rcases firstE_or a with h | h | h
    · exact .inl h
    · exact .inr (.inl h)
    · exact .inr (.inr (.inl h))
theorem amtE_zero {lo hi : Int} {a : Arr} (h : amtE lo hi a = 0) : firstE a = 0 ∧ lo ≤ firstN a ∧ firstN a ≤ hi := by
  unfold amtE at h
  by_cases q : firstE a = 0 ∧ (firstN a < lo ∨ hi < firstN a)
  · rw [if_pos q] at h; cases h
  · rw [if_neg q] at h
    refine ⟨h, ?_, ?_⟩
    · exact Int.not_lt.1 fun q2 => q ⟨h, .inl q2⟩
    · exact Int.not_lt.1 fun q2 => q ⟨h, .inr q2⟩
theorem getD_mem {l : List Int} {i : Nat} (h : i < l.length) (d : Int) : l.getD i d ∈ l := by
  rw [List.getD_eq_getElem?_getD, List.getElem?_eq_getElem h]
  exact List.getElem_mem h
theorem fill_rune {r : Bool} (h : r = true) : rune (fillI r) = true := by rw [h]; exact rune_32
theorem mon_right (g : List UInt8) (b : Arr) : (monE g b = 0 ↔ (monA g b).right = true) ∧ (monE g b = 114 → b.right = false) := by
  cases hq : b.right with
  | false =>
    obtain ⟨e1, e2⟩ := mon_not (g := g) hq
    rw [e1, e2, noArr_wrong]
    simp
  | true =>
    have hl := right_len hq
    have hr := right_runes hq
    have fin : ∀ {e : Int} {r : Arr}, (e = 0 → r.right = true) → (e ≠ 0 → r = noArr) → e ≠ 114 → (e = 0 ↔ r.right = true) ∧ (e = 114 → true = false) := by
      intro e r h1 h2 h3
      refine ⟨⟨h1, fun h => ?_⟩, fun h => absurd h h3⟩
      refine Classical.byContradiction fun hne => ?_
      rw [h2 hne, noArr_wrong] at h; cases h
    by_cases h1 : g = gR
    · subst h1
      obtain ⟨e1, e2⟩ := mon_R hq
      rw [e1, e2]
      exact fin (fun _ => right_mk (fun h => by cases h) (by rw [if_pos rfl]; split <;> simp)) (fun h => absurd rfl h) (by decide)
    by_cases h2 : g = gI
    · subst h2
      obtain ⟨e1, e2⟩ := mon_I hq
      rw [e1, e2]
      refine fin (fun h => ?_) (fun h => ?_) ?_
      · unfold countA
        rw [if_pos h]
        refine right_mk (fun h => by cases h) ?_
        rw [if_pos rfl, upto_len]
        unfold countE at h
        by_cases q1 : firstE b ≠ 0
        · rw [if_pos q1] at h; exact absurd h q1
        · rw [if_neg q1] at h
          by_cases q2 : firstN b < 0
          · rw [if_pos q2] at h; cases h
          · rw [if_neg q2] at h
            by_cases q3 : 200 < firstN b
            · rw [if_pos q3] at h; cases h
            · omega
      · unfold countA; rw [if_neg h]
      · unfold countE
        rcases firstE_or b with q | q | q <;> rw [q]
        · rw [if_neg (by simp)]
          split
          · decide
          · split <;> decide
        · rw [if_pos (by decide)]; decide
        · rw [if_pos (by decide)]; decide
    by_cases h3 : g = gC
    · subst h3
      obtain ⟨e1, e2⟩ := mon_C hq
      rw [e1, e2]
      exact fin (fun _ => right_mk hr (by simpa using hl)) (fun h => absurd rfl h) (by decide)
    by_cases h4 : g = gT
    · subst h4
      obtain ⟨e1, e2⟩ := mon_T hq
      rw [e1, e2]
      refine fin (fun _ => right_mk (fun h n hn => hr h n (List.mem_reverse.1 hn)) ?_) (fun h => absurd rfl h) (by decide)
      unfold Arr.right at hq
      rw [Bool.and_eq_true] at hq
      have := hq.2
      rw [List.length_reverse]
      split at this <;> simp_all
    by_cases h5 : g = gU
    · subst h5
      obtain ⟨e1, e2⟩ := mon_U hq
      rw [e1, e2]
      refine fin (fun _ => right_mk (fun h n hn => ?_) (by simp)) (fun h => absurd rfl h) (by decide)
      rcases List.mem_append.1 (List.mem_of_mem_take hn) with hm | hm
      · exact hr h n hm
      · simp only [List.mem_singleton] at hm
        subst hm
        exact fill_rune h
    by_cases h6 : g = gN
    · subst h6
      obtain ⟨e1, e2⟩ := mon_N hq
      rw [e1, e2]
      exact fin (fun _ => right_one _) (fun h => absurd rfl h) (by decide)
    have e1 : monE g b = 102 := by unfold monE; simp [hq, h1, h2, h3, h4, h5, h6]
    have e2 : monA g b = noArr := by unfold monA; simp [hq, h1, h2, h3, h4, h5, h6]
    rw [e1, e2]
    exact fin (fun h => by cases h) (fun _ => rfl) (by decide)
theorem dy_right (g : List UInt8) (a b : Arr) : (dyE g a b = 0 ↔ (dyA g a b).right = true) ∧ (dyE g a b = 114 → (a.right && b.right) = false) := by
  cases hq : (a.right && b.right) with
  | false =>
    obtain ⟨e1, e2⟩ := dy_not (g := g) hq
    rw [e1, e2, noArr_wrong]
    simp
  | true =>
    rw [Bool.and_eq_true] at hq
    obtain ⟨ha, hb⟩ := hq
    have hl := right_len hb
    have hla := right_len ha
    have hr := right_runes hb
    have hli : if b.li then b.n.length ≤ 200 else b.n.length = 1 := by
      have hb2 := hb
      unfold Arr.right at hb2
      rw [Bool.and_eq_true] at hb2
      have := hb2.2
      split at this
      · rename_i q; rw [if_pos q]; simpa using this
      · rename_i q; rw [if_neg q]; simpa using this
    have fin : ∀ {e : Int} {r : Arr}, (e = 0 → r.right = true) → (e ≠ 0 → r = noArr) → e ≠ 114 → (e = 0 ↔ r.right = true) ∧ (e = 114 → true = false) := by
      intro e r h1 h2 h3
      refine ⟨⟨h1, fun h => ?_⟩, fun h => absurd h h3⟩
      refine Classical.byContradiction fun hne => ?_
      rw [h2 hne, noArr_wrong] at h; cases h
    have f114 : firstE a ≠ 114 := by rcases firstE_or a with q | q | q <;> rw [q] <;> decide
    by_cases h1 : g = gR
    · subst h1
      obtain ⟨e1, e2⟩ := dy_R ha hb
      rw [e1, e2]
      refine fin (fun h => ?_) (fun h => ?_) ?_
      · unfold shA
        rw [if_pos h]
        unfold shE at h
        by_cases q1 : amtE (-9223372036854775808) 200 a ≠ 0
        · rw [if_pos q1] at h; exact absurd h q1
        · rw [if_neg q1] at h
          have q0 := amtE_zero (Classical.not_not.1 q1)
          by_cases q2 : firstN a < 0
          · rw [if_pos q2] at h; cases h
          · rw [if_neg q2] at h
            by_cases q3 : 0 < firstN a ∧ b.n.length = 0
            · rw [if_pos q3] at h; cases h
            · refine right_mk (fun hru n hn => ?_) (by rw [if_pos rfl, cyc_len]; omega)
              unfold cyc at hn
              obtain ⟨i, hi, rfl⟩ := List.mem_map.1 hn
              have hi := List.mem_range.1 hi
              exact hr hru _ (getD_mem (Nat.mod_lt _ (by omega)) 0)
      · unfold shA; rw [if_neg h]
      · unfold shE
        rcases amtE_or (-9223372036854775808) 200 a with q | q | q | q <;> rw [q]
        · rw [if_neg (by simp)]
          split
          · decide
          · split <;> decide
        · rw [if_pos (by decide)]; decide
        · rw [if_pos (by decide)]; decide
        · rw [if_pos (by decide)]; decide
    by_cases h2 : g = gI
    · subst h2
      obtain ⟨e1, e2⟩ := dy_I ha hb
      rw [e1, e2]
      unfold indexE indexA
      cases hal : a.li with
      | true => exact fin (fun _ => right_mk (fun h => by cases h) (by rw [List.length_map]; exact hli)) (fun h => absurd rfl h) (by decide)
      | false => exact fin (fun h => by cases h) (fun _ => rfl) (by decide)
    by_cases h3 : g = gC
    · subst h3
      obtain ⟨e1, e2⟩ := dy_C ha hb
      rw [e1, e2]
      refine fin (fun h => ?_) (fun h => ?_) ?_
      · unfold joinA
        rw [if_pos h]
        unfold joinE at h
        by_cases q1 : 0 < a.n.length ∧ 0 < b.n.length ∧ a.ru ≠ b.ru
        · rw [if_pos q1] at h; cases h
        · rw [if_neg q1] at h
          by_cases q2 : 200 < a.n.length + b.n.length
          · rw [if_pos q2] at h; cases h
          · refine right_mk (fun hru n hn => ?_) (by simp; omega)
            have hcase : (a.ru = true ∨ a.n = []) ∧ (b.ru = true ∨ b.n = []) := by
              cases ea : a.ru <;> cases eb : b.ru
              · simp [isText, ea, eb] at hru
              · simp [isText, ea, eb] at hru
                refine ⟨.inr ?_, .inl rfl⟩
                rcases Nat.eq_zero_or_pos a.n.length with q | q
                · exact List.length_eq_zero_iff.1 q
                · exact absurd ⟨q, hru, by rw [ea, eb]; decide⟩ q1
              · simp [isText, ea, eb] at hru
                refine ⟨.inl rfl, .inr ?_⟩
                rcases Nat.eq_zero_or_pos b.n.length with q | q
                · exact List.length_eq_zero_iff.1 q
                · exact absurd ⟨hru, q, by rw [ea, eb]; decide⟩ q1
              · exact ⟨.inl rfl, .inl rfl⟩
            rcases List.mem_append.1 hn with hm | hm
            · rcases hcase.1 with q | q
              · exact right_runes ha q n hm
              · rw [q] at hm; cases hm
            · rcases hcase.2 with q | q
              · exact hr q n hm
              · rw [q] at hm; cases hm
      · unfold joinA; rw [if_neg h]
      · unfold joinE
        split
        · decide
        · split <;> decide
    by_cases h4 : g = gT
    · subst h4
      obtain ⟨e1, e2⟩ := dy_T ha hb
      rw [e1, e2]
      refine fin (fun h => ?_) (fun h => ?_) f114
      · unfold rotA
        rw [if_pos h]
        by_cases q : b.n.length = 0
        · rw [if_pos q]
          refine right_mk (fun _ n hn => by cases hn) ?_
          rw [q] at hli
          exact hli
        · rw [if_neg q]
          refine right_mk (fun hru n hn => ?_) ?_
          · unfold turn at hn
            rcases List.mem_append.1 hn with hm | hm
            · exact hr hru n (List.mem_of_mem_drop hm)
            · exact hr hru n (List.mem_of_mem_take hm)
          · have hk := turnAt_lt (n := firstN a) (k := b.n.length) (by omega)
            have : (turn (firstN a) b.n).length = b.n.length := by
              unfold turn
              rw [List.length_append, List.length_drop, List.length_take]
              omega
            rw [this]; exact hli
      · unfold rotA; rw [if_neg h]
    by_cases h5 : g = gU
    · subst h5
      obtain ⟨e1, e2⟩ := dy_U ha hb
      rw [e1, e2]
      refine fin (fun h => ?_) (fun h => ?_) ?_
      · have q0 := amtE_zero (lo := -200) (hi := 200) (a := a) h
        unfold takeA
        rw [if_pos h]
        refine right_mk (fun hru n hn => ?_) ?_
        · unfold takeL' at hn
          obtain ⟨j, hj, rfl⟩ := List.mem_map.1 hn
          unfold itm
          split
          · rename_i q; exact hr hru _ (getD_mem (by omega) 0)
          · exact fill_rune hru
        · rw [if_pos rfl]
          unfold takeL' tkN
          rw [List.length_map, List.length_range]
          split <;> omega
      · unfold takeA; rw [if_neg h]
      · unfold takeE
        rcases amtE_or (-200) 200 a with q | q | q | q <;> rw [q] <;> decide
    by_cases h6 : g = gD
    · subst h6
      obtain ⟨e1, e2⟩ := dy_D ha hb
      rw [e1, e2]
      refine fin (fun h => ?_) (fun h => ?_) f114
      · unfold dropA
        rw [if_pos h]
        refine right_mk (fun hru n hn => ?_) ?_
        · unfold dropL' at hn
          split at hn
          · exact hr hru n (List.mem_of_mem_drop hn)
          · exact hr hru n (List.mem_of_mem_take hn)
        · rw [if_pos rfl]
          unfold dropL'
          split
          · rw [List.length_drop]; omega
          · rw [List.length_take]; omega
      · unfold dropA; rw [if_neg h]
    by_cases h7 : g = gN
    · subst h7
      obtain ⟨e1, e2⟩ := dy_N ha hb
      rw [e1, e2]
      exact fin (fun _ => right_one _) (fun h => absurd rfl h) (by decide)
    have e1 : dyE g a b = 102 := by unfold dyE; simp [ha, hb, h1, h2, h3, h4, h5, h6, h7]
    have e2 : dyA g a b = noArr := by unfold dyA; simp [ha, hb, h1, h2, h3, h4, h5, h6, h7]
    rw [e1, e2]
    exact fin (fun h => by cases h) (fun _ => rfl) (by decide)
theorem dyA_len (g : List UInt8) {a b : Arr} (hl : a.n.length ≤ 202) (hm : b.n.length ≤ 202) : (dyA g a b).n.length ≤ 1000000 := by
  by_cases h : (dyA g a b).right = true
  · have := right_len h; omega
  · have h2 := (dy_right g a b).1
    have h3 : dyE g a b ≠ 0 := fun q => h (h2.1 q)
    unfold dyE at h3
    unfold dyA
    by_cases q : (a.right && b.right) = false
    · rw [if_pos q]; simp [noArr]
    · rw [if_neg q] at h3 ⊢
      by_cases h1 : g = gR
      · simp only [h1, if_true] at h3 ⊢; unfold shA; rw [if_neg h3]; simp [noArr]
      simp only [h1, if_false] at h3 ⊢
      by_cases h2 : g = gI
      · simp only [h2, if_true] at h3 ⊢
        unfold indexA
        split
        · simp; omega
        · simp [noArr]
      simp only [h2, if_false] at h3 ⊢
      by_cases h4 : g = gC
      · simp only [h4, if_true] at h3 ⊢; unfold joinA; rw [if_neg h3]; simp [noArr]
      simp only [h4, if_false] at h3 ⊢
      by_cases h5 : g = gT
      · simp only [h5, if_true] at h3 ⊢; unfold rotA; rw [if_neg h3]; simp [noArr]
      simp only [h5, if_false] at h3 ⊢
      by_cases h6 : g = gU
      · simp only [h6, if_true] at h3 ⊢; unfold takeA; rw [if_neg h3]; simp [noArr]
      simp only [h6, if_false] at h3 ⊢
      by_cases h7 : g = gD
      · simp only [h7, if_true] at h3 ⊢; unfold dropA; rw [if_neg h3]; simp [noArr]
      simp only [h7, if_false] at h3 ⊢
      split <;> simp [noArr, oneA]
theorem monA_len (g : List UInt8) {b : Arr} (hm : b.n.length ≤ 202) : (monA g b).n.length ≤ 1000000 := by
  by_cases h : (monA g b).right = true
  · have := right_len h; omega
  · have h2 := (mon_right g b).1
    have h3 : monE g b ≠ 0 := fun q => h (h2.1 q)
    unfold monE at h3
    unfold monA
    by_cases q : b.right = false
    · rw [if_pos q]; simp [noArr]
    · rw [if_neg q] at h3 ⊢
      by_cases h1 : g = gR
      · simp [h1] at h3
      simp only [h1, if_false] at h3 ⊢
      by_cases h2 : g = gI
      · simp only [h2, if_true] at h3 ⊢; unfold countA; rw [if_neg h3]; simp [noArr]
      simp only [h2, if_false] at h3 ⊢
      by_cases h4 : g = gC
      · simp [h4] at h3
      simp only [h4, if_false] at h3 ⊢
      by_cases h5 : g = gT
      · simp [h5] at h3
      simp only [h5, if_false] at h3 ⊢
      by_cases h6 : g = gU
      · simp [h6] at h3
      simp only [h6, if_false] at h3 ⊢
      split <;> simp [noArr, oneA]
end Go.Ab.Shape


namespace Go.Ab.Shape
open Go Go.Ab
end Go.Ab.Shape


namespace Go.Ab.Shape
open Go Go.Ab
def fiveA (r : Bool) : Arr := ⟨false, r, [5]⟩
end Go.Ab.Shape


namespace Go.Ab.Shape
open Go Go.Ab Go.Proofs
theorem sp_loc : SpLocal sp0 := by
  intro g σ σ' vs h
  unfold sp0
  split
  · unfold spAs
    split
    · rfl
    · rename_i t x p nm o
      have hm : nm ∈ reach σ deepest (namesL [.iface t x, .iface p (.ref nm o)]) := reach_mem _ _ nm (by simp [namesL, PV.names])
      rw [h nm hm]
    · rfl
  split
  · rfl
  split
  · rfl
  split
  · unfold spCheck
    split
    · rename_i n
      have hm : n ∈ reach σ deepest (namesL [.ref n 0]) := reach_mem _ _ n (by simp [namesL, PV.names])
      rw [h n hm]
    · rfl
  split
  · unfold spStr
    split
    · rename_i n
      have hm : n ∈ reach σ deepest (namesL [.ref n 0]) := reach_mem _ _ n (by simp [namesL, PV.names])
      rw [← h n hm]
      have h2 : ∀ a n' k, σ n = some (.cells 81 [a, .arr n' 1 0 k]) → σ n' = σ' n' := by
        intro a n' k he
        refine h n' ?_
        show n' ∈ reach σ 3 [n]
        unfold reach
        refine List.mem_append_right _ (reach_mem _ _ n' ?_)
        simp [he, Ob.names, namesL, PV.names]
      generalize hx : σ n = o at *
      split
      · rfl
      · rename_i a n' k
        rw [h2 a n' k rfl]
      · rfl
    · rfl
  rfl
theorem tab_ok : TabOK cx0 tab0 (deadOf Tryz.prog) := by
  intro f fn h
  unfold tab0 at h
  split at h
  · cases h; exact mkF_comp (by kernel_rfl)
  · cases h; exact mkF_comp (by kernel_rfl)
  · cases h; exact mkF_comp (by kernel_rfl)
  · cases h; exact mkF_comp (by kernel_rfl)
  · cases h; exact mkF_comp (by kernel_rfl)
  · cases h; exact mkF_comp (by kernel_rfl)
  · cases h; exact mkF_comp (by kernel_rfl)
  · cases h; exact mkF_comp (by kernel_rfl)
  · cases h; exact mkF_comp (by kernel_rfl)
  · cases h; exact mkF_comp (by kernel_rfl)
  · cases h; exact mkF_comp (by kernel_rfl)
  · cases h; exact mkF_comp (by kernel_rfl)
  · cases h; exact mkF_comp (by kernel_rfl)
  · cases h; exact mkF_comp (by kernel_rfl)
  · cases h; exact mkF_comp (by kernel_rfl)
  · cases h; exact mkF_comp (by kernel_rfl)
  · cases h; exact mkF_comp (by kernel_rfl)
  · cases h; exact mkF_comp (by kernel_rfl)
  · cases h; exact mkF_comp (by kernel_rfl)
  · cases h; exact mkF_comp (by kernel_rfl)
  · cases h; exact mkF_comp (by kernel_rfl)
  · cases h; exact mkF_comp (by kernel_rfl)
  · cases h; exact mkF_comp (by kernel_rfl)
  · cases h; exact mkF_comp (by kernel_rfl)
  · cases h; exact mkF_comp (by kernel_rfl)
  · cases h; exact mkF_comp (by kernel_rfl)
  · cases h; exact mkF_comp (by kernel_rfl)
  · cases h; exact mkF_comp (by kernel_rfl)
  · cases h; exact mkF_comp (by kernel_rfl)
  · cases h; exact mkF_comp (by kernel_rfl)
  · cases h; exact mkF_comp (by kernel_rfl)
  · cases h; exact mkF_comp (by kernel_rfl)
  · cases h; exact mkF_comp (by kernel_rfl)
  · cases h; exact mkF_comp (by kernel_rfl)
  · cases h; exact mkF_comp (by kernel_rfl)
  · cases h; exact mkF_comp (by kernel_rfl)
  · cases h; exact mkF_comp (by kernel_rfl)
  · cases h; exact mkF_comp (by kernel_rfl)
  · cases h; exact mkF_comp (by kernel_rfl)
  · cases h; exact mkF_comp (by kernel_rfl)
  · cases h; exact mkF_comp (by kernel_rfl)
  · cases h; exact mkF_comp (by kernel_rfl)
  · cases h; exact mkF_comp (by kernel_rfl)
  · cases h; exact mkF_comp (by kernel_rfl)
  · cases h; exact mkF_comp (by kernel_rfl)
  · cases h; exact mkF_comp (by kernel_rfl)
  · cases h; exact mkF_comp (by kernel_rfl)
  · cases h; exact mkF_comp (by kernel_rfl)
  · cases h; exact mkF_comp (by kernel_rfl)
  · cases h; exact mkF_comp (by kernel_rfl)
  · cases h; exact mkF_comp (by kernel_rfl)
  · cases h; exact mkF_comp (by kernel_rfl)
  · cases h; exact mkF_comp (by kernel_rfl)
  · cases h; exact mkF_comp (by kernel_rfl)
  · cases h; exact mkF_comp (by kernel_rfl)
  · cases h; exact mkF_comp (by kernel_rfl)
  · cases h; exact mkF_comp (by kernel_rfl)
  · cases h; exact mkF_comp (by kernel_rfl)
  · cases h; exact mkF_comp (by kernel_rfl)
  · cases h; exact mkF_comp (by kernel_rfl)
  · cases h; exact mkF_comp (by kernel_rfl)
  · cases h; exact mkF_comp (by kernel_rfl)
  · cases h; exact mkF_comp (by kernel_rfl)
  · cases h; exact mkF_comp (by kernel_rfl)
  · cases h; exact mkF_comp (by kernel_rfl)
  · cases h; exact mkF_comp (by kernel_rfl)
  · cases h; exact mkF_comp (by kernel_rfl)
  · cases h; exact mkF_comp (by kernel_rfl)
  · cases h; exact mkF_comp (by kernel_rfl)
  · cases h; exact mkF_comp (by kernel_rfl)
  · cases h; exact mkF_comp (by kernel_rfl)
  · cases h; exact mkF_comp (by kernel_rfl)
  · cases h; exact mkF_comp (by kernel_rfl)
  · cases h; exact mkF_comp (by kernel_rfl)
  · cases h; exact mkF_comp (by kernel_rfl)
  · cases h; exact mkF_comp (by kernel_rfl)
  · cases h; exact mkF_comp (by kernel_rfl)
  · cases h; exact mkF_comp (by kernel_rfl)
  · cases h; exact mkF_comp (by kernel_rfl)
  · cases h; exact mkF_comp (by kernel_rfl)
  · cases h; exact mkF_comp (by kernel_rfl)
  · cases h; exact mkF_comp (by kernel_rfl)
  · cases h
theorem law_done {g : FuncId} {fn : RFn} (ht : tab0 g = some fn) {args : List PV} (ha : okVL args = true) (hl : args.length ≤ fn.nt)
    (hr : runK (cfg0 B0 fun _ => .cl) fn .cl noHandler 0 (args.map KV.cv) () = some (.bool true, ())) {I : Nat → Prop} {w : World} {vs : List Value}
    (hI : ∀ b, I b → b < w.heap.size) (hw : cx0.Wd I w) (hrep : RepL w I (fun _ => none) none args vs) :
    Calls cx0.P g vs.toArray w fun e w' => e = .returned (.bool true) ∧ LawEnd w w' := by
  obtain ⟨n, hn⟩ := law_of_run (cfg_ok fun _ => .cl) ht ha hl hr
  exact law_calls (fn_ok sp_ok sp_loc tab_ok n) hn hI hw hrep
def arrD : DTy := .struct [.bool, .bool, .slice (.int .i64)]
def Told (fn : RFn) (Ds : List DTy) : Prop := ∀ us, HasVs Ds us → okVL us = true ∧ us.length ≤ fn.nt ∧ runK (cfg0 B0 fun _ => .cl) fn .cl noHandler 0 (us.map KV.cv) () = some (.bool true, ())
end Go.Ab.Shape


namespace Go.Ab.Shape
open Go Go.Ab
theorem rrune_run (n : Int) : callO B0 .cl (.fn 66 []) [I n] = some (.bool (rune n)) := by
  refine call (d := fun _ => .cl) rfl (by decide) rfl rfl ?_
  rw [List.map_cons, List.map_nil, run66]
  simp only [I_def, I_geq, I_leq, I_lss, I_gtr, bindO_val, iteP_bool]
  unfold rune
  by_cases h1 : 0 ≤ n <;> by_cases h2 : n ≤ 1114111 <;> by_cases h3 : n < 55296 <;> simp [h1, h2, h3]
theorem rright_run {v : PV} {a : Arr} (h : IsA v a) (hl : a.n.length ≤ 1000000) : callO B0 .cl (.fn 37 []) [v] = some (.bool a.right) := by
  refine call (d := fun _ => .cl) rfl (by decide) (by simp [okVL, h.ok]) rfl ?_
  rw [List.map_cons, List.map_nil, run37, valO_is h, cT]
  rw [show noUndef [.int .i64 0] = true from rfl, cT]
  have lx := c2_is h
  have tail : (if a.li = true then (if decide ((a.n.length : Int) ≤ 200) = true then some (PV.bool true) else if (!a.li) = true then some (.bool ((a.n.length : Int) == 1)) else some (.bool false)) else if (!a.li) = true then some (.bool ((a.n.length : Int) == 1)) else some (.bool false)) = some (PV.bool (if a.li then decide (a.n.length ≤ 200) else decide (a.n.length = 1))) := by
    have e1 : decide ((a.n.length : Int) ≤ 200) = decide (a.n.length ≤ 200) := by
      by_cases h : a.n.length ≤ 200
      · simp [h]; omega
      · have : ¬ (a.n.length : Int) ≤ 200 := by omega
        simp [h, this]
    have e2 : ((a.n.length : Int) == 1) = decide (a.n.length = 1) := by
      by_cases h : a.n.length = 1
      · simp [h]
      · have : ¬ (a.n.length : Int) = 1 := by omega
        simp [h, this]
    rw [e1, e2]
    cases a.li
    · simp
    · by_cases h : a.n.length ≤ 200 <;> simp [h]
  have key : ∀ m i, i + m = a.n.length → loopL (fun z1 => bindO (bindO (selO (nth z1.1 1) 2 1 false) (fun z2 => bindO (pureO (.len .slice (.c z2))) (fun z3 => bindO (pureO (.bin .lss .num false (.c (nth z1.1 0)) (.c z3))) (fun z4 => iteP z4 (bindO (selO (nth z1.1 1) 1 1 false) (fun z5 => some z5)) (some (PV.bool false)))))) (fun z6 => iteP z6 (bindO (selO (nth z1.1 1) 2 1 false) (fun z7 => bindO (pureO (.idxAddr 1 (.c z7) (.c (nth z1.1 0)))) (fun z8 => bindO (pureO (.load 1 false (.c z8))) (fun z9 => bindO (callO B0 .cl (.fn 66 []) [z9]) (fun z10 => bindO (pureO (.un .not (.c z10))) (fun z11 => iteP z11 (bindO (some (PV.bool false, z1.2)) (fun z12 => some (.inr z12))) (bindO (pureO (.bin .add .num true (.c (nth z1.1 0)) (.c (.int .i64 1)))) (fun z13 => some (.inl ([z13, nth z1.1 1], z1.2)))))))))) (bindO (bindO (bindO (selO (nth z1.1 1) 0 1 false) (fun z14 => iteP z14 (bindO (selO (nth z1.1 1) 2 1 false) (fun z15 => bindO (pureO (.len .slice (.c z15))) (fun z16 => bindO (pureO (.bin .leq .num true (.c z16) (.c (.int .i64 200)))) (fun z17 => iteP z17 (some (PV.bool true)) (bindO (selO (nth z1.1 1) 0 1 false) (fun z18 => bindO (pureO (.un .not (.c z18))) (fun z19 => iteP z19 (bindO (selO (nth z1.1 1) 2 1 false) (fun z20 => bindO (pureO (.len .slice (.c z20))) (fun z21 => bindO (pureO (.bin .eql .num true (.c z21) (.c (.int .i64 1)))) (fun z22 => some z22)))) (some (PV.bool false))))))))) (bindO (selO (nth z1.1 1) 0 1 false) (fun z23 => bindO (pureO (.un .not (.c z23))) (fun z24 => iteP z24 (bindO (selO (nth z1.1 1) 2 1 false) (fun z25 => bindO (pureO (.len .slice (.c z25))) (fun z26 => bindO (pureO (.bin .eql .num true (.c z26) (.c (.int .i64 1)))) (fun z27 => some z27)))) (some (PV.bool false))))))) (fun z28 => some (z28, z1.2))) (fun z29 => some (.inr z29))))) (([I i, v], ()) : List PV × Unit) = some (.bool (!(a.ru && (a.n.drop i).any fun n => !rune n) && (if a.li then decide (a.n.length ≤ 200) else decide (a.n.length = 1))), ()) := by
    intro m
    induction m with
    | zero =>
      intro i hi
      refine loopL_inr ?_
      have hd0 : a.n.drop i = [] := List.drop_eq_nil_of_le (by omega)
      have hlt : ¬ ((i : Int) < (a.n.length : Int)) := by omega
      simp only [nth_0, nth_1, s0_is h, s2_is h, lx.len, bV, I_lss, hlt, decide_false, iteP_false, iteP_bool, pure_not, iD, I_leq, I_eql, hd0, List.any_nil, Bool.and_false, Bool.not_false, Bool.true_and]
      rw [tail]
      rfl
    | succ m ih =>
      intro i hi
      have hlt : i < a.n.length := by omega
      have hlt' : (i : Int) < (a.n.length : Int) := by omega
      cases hru : a.ru with
      | false =>
        refine loopL_inr ?_
        simp only [nth_0, nth_1, s0_is h, s1_is h, s2_is h, lx.len, bV, I_lss, hlt', decide_true, iteP_true, hru, iteP_false, iteP_bool, pure_not, iD, I_leq, I_eql, Bool.false_and, Bool.not_false, Bool.true_and]
        rw [tail]
        rfl
      | true =>
        rw [drop_cons hlt, List.any_cons]
        cases hq : rune a.n[i] with
        | false =>
          refine loopL_inr ?_
          simp only [nth_0, nth_1, s1_is h, s2_is h, lx.len, bV, I_lss, hlt', decide_true, iteP_true, hru, lx.idx hlt, load_I, rrune_run, hq, pure_not, Bool.not_false, Bool.true_or, Bool.and_self, Bool.not_true, Bool.false_and]
        | true =>
          rw [loopL_inl (s' := ([I ((i + 1 : Nat) : Int), v], ()))]
          · rw [ih (i + 1) (by omega), hru]
            simp only [Bool.not_true, Bool.false_or]
          · simp only [nth_0, nth_1, s1_is h, s2_is h, lx.len, bV, I_lss, hlt', decide_true, iteP_true, hru, lx.idx hlt, load_I, rrune_run, hq, pure_not, Bool.not_true, iteP_false, iD, I_add, wsucc (by omega : i < 9223372036854775807)]
  have := key a.n.length 0 (by omega)
  unfold Arr.right
  simpa [I_def] using this
theorem rnums_run {v u : PV} {l m : List Int} (hv : IsL v l) (hu : IsL u m) (hl : l.length ≤ 1000000) (hm : m.length ≤ 1000000) : callO B0 .cl (.fn 44 []) [v, u] = some (.bool (eqL l m)) := by
  refine call (d := fun _ => .cl) rfl (by decide) (by simp [okVL, hv.ok, hu.ok]) rfl ?_
  rw [List.map_cons, List.map_cons, List.map_nil, run44, hv.len, hu.len]
  simp only [bV, I_neq, iteP_bool]
  by_cases hlm : l.length = m.length
  · have h1 : (((l.length : Int) != (m.length : Int)) = true) ↔ False := by simp [hlm]
    simp only [h1, if_false]
    have h0 : noUndef [v, u, .int .i64 0] = true := by simp only [noUndef, List.all_cons, hv.und, hu.und]; rfl
    rw [h0, cT]
    have key : ∀ k i, i + k = l.length → loopL (fun z4 => bindO (pureO (.len .slice (.c (nth z4.1 0)))) (fun z5 => bindO (pureO (.bin .lss .num false (.c (nth z4.1 2)) (.c z5))) (fun z6 => iteP z6 (bindO (pureO (.idxAddr 1 (.c (nth z4.1 0)) (.c (nth z4.1 2)))) (fun z7 => bindO (pureO (.load 1 false (.c z7))) (fun z8 => bindO (pureO (.idxAddr 1 (.c (nth z4.1 1)) (.c (nth z4.1 2)))) (fun z9 => bindO (pureO (.load 1 false (.c z9))) (fun z10 => bindO (pureO (.bin .neq .num false (.c z8) (.c z10))) (fun z11 => iteP z11 (bindO (some (PV.bool false, z4.2)) (fun z12 => some (.inr z12))) (bindO (pureO (.bin .add .num true (.c (nth z4.1 2)) (.c (.int .i64 1)))) (fun z13 => some (.inl ([nth z4.1 0, nth z4.1 1, z13], z4.2)))))))))) (bindO (some (PV.bool true, z4.2)) (fun z14 => some (.inr z14)))))) (([v, u, I i], ()) : List PV × Unit) = some (.bool (eqL (l.drop i) (m.drop i)), ()) := by
      intro k
      induction k with
      | zero =>
        intro i hi
        refine loopL_inr ?_
        have h2 : l.drop i = [] := List.drop_eq_nil_of_le (by omega)
        have h3 : m.drop i = [] := List.drop_eq_nil_of_le (by omega)
        have hlt : ¬ ((i : Int) < (l.length : Int)) := by omega
        simp only [nth_0, nth_1, nth_2, hv.len, bV, I_lss, hlt, decide_false, iteP_false, h2, h3, eqL]
      | succ k ih =>
        intro i hi
        have hlt : i < l.length := by omega
        have hlt2 : i < m.length := by omega
        have hlt' : (i : Int) < (l.length : Int) := by omega
        rw [drop_cons hlt, drop_cons hlt2]
        cases hx : (l[i] == m[i]) with
        | true =>
          have hb : (l[i] != m[i]) = false := by simp [bne, hx]
          rw [loopL_inl (s' := ([v, u, I ((i + 1 : Nat) : Int)], ()))]
          · rw [ih (i + 1) (by omega)]
            simp only [eqL, hx, Bool.true_and]
          · simp only [nth_0, nth_1, nth_2, hv.len, bV, I_lss, hlt', decide_true, iteP_true, hv.idx hlt, hu.idx hlt2, load_I, I_neq, hb, iteP_false, iD, I_add, wsucc (by omega : i < 9223372036854775807)]
        | false =>
          have hb : (l[i] != m[i]) = true := by simp [bne, hx]
          refine loopL_inr ?_
          simp only [nth_0, nth_1, nth_2, hv.len, bV, I_lss, hlt', decide_true, iteP_true, hv.idx hlt, hu.idx hlt2, load_I, I_neq, hb, eqL, hx, Bool.false_and]
    have := key l.length 0 (by omega)
    simpa [I_def] using this
  · have : ¬ (l.length : Int) = (m.length : Int) := by omega
    have h2 : eqL l m = false := by
      cases he : eqL l m with
      | false => rfl
      | true => exact absurd (congrArg List.length ((eqL_iff l m).1 he)) hlm
    simp [this, h2]
theorem rsame_run {v u : PV} {a b : Arr} (hv : IsA v a) (hu : IsA u b) (ha : a.n.length ≤ 1000000) (hb : b.n.length ≤ 1000000) : callO B0 .cl (.fn 21 []) [v, u] = some (.bool (a.same b)) := by
  refine call (d := fun _ => .cl) rfl (by decide) (by simp [okVL, hv.ok, hu.ok]) rfl ?_
  rw [List.map_cons, List.map_cons, List.map_nil, run21, valO_is hv, valO_is hu, cT, cT]
  simp only [s0_is hv, s0_is hu, s1_is hv, s1_is hu, s2_is hv, s2_is hu, bV, pure_eqb, iteP_bool, rnums_run (c2_is hv) (c2_is hu) ha hb]
  unfold Arr.same
  cases (a.li == b.li) <;> cases (a.ru == b.ru) <;> simp
end Go.Ab.Shape


namespace Go.Ab.Shape
open Go Go.Ab
theorem nth_9 (a b c d e f g h i x : PV) (l : List PV) : nth (a :: b :: c :: d :: e :: f :: g :: h :: i :: x :: l) 9 = x := rfl
theorem nth_10 (a b c d e f g h i j x : PV) (l : List PV) : nth (a :: b :: c :: d :: e :: f :: g :: h :: i :: j :: x :: l) 10 = x := rfl
theorem one_chk (n : Int) : leN (addN 0 (lenL [I n])) (lenL [I n]) = true := rfl
theorem eqs_t {c : TC} {s : Bool} (a : List UInt8) : pureO (.bin .eql c s (.c (.str a)) (.c (.str a))) = some (.bool true) := by rw [pure_eqs, beq_self_eq_true]
theorem eqs_f {c : TC} {s : Bool} {a b : List UInt8} (h : ¬ a = b) : pureO (.bin .eql c s (.c (.str a)) (.c (.str b))) = some (.bool false) := by rw [pure_eqs, beq_eq_false_iff_ne.2 h]
theorem slO_n {l : List Int} {k : Nat} (h : k = l.length) : slO 1 1 (ints l) 0 k = .sl 1 (ints l) false := by
  subst h
  rw [slO_take _ (Nat.le_refl _), List.take_length]
theorem okU3 (li ru : Bool) (l : List Int) (f : Bool) : okU (.agg [.bool li, .bool ru, .sl 1 (ints l) f]) = true := by simp [okU, okV, okVL, okVL_ints]
theorem okU3t (li ru : Bool) (l : List Int) (f : Bool) (n : Int) : okU (.tup [.agg [.bool li, .bool ru, .sl 1 (ints l) f], I n]) = true := by simp [okU, okV, okVL, okVL_ints]
theorem okB (b : Bool) : okCells (PV.bool b) 1 = true := rfl
theorem cellB (b : Bool) : cellP (PV.bool b) 0 = .bool b := rfl
theorem okLike (r : Bool) (l : List Int) (f : Bool) : okCells (likeV r (.sl 1 (ints l) f)) 3 = true := rfl
def noV : PV := .agg [.bool false, .bool false, .nilS]
theorem rno (c : Int) : bindO (pureO (.build [.bool false, .bool false, .nilS] [])) (fun z => chkO (okCells z 3) (some (PV.tup [.agg [cellP z 0, cellP z 1, cellP z 2], .int .i64 c], ()))) = some (.tup [noV, I c], ()) := rfl
theorem rno' (c : Int) : bindO (pureO (.build [.bool false, .bool false, .nilS] [])) (fun z => chkO (okCells z 3) (some (PV.tup [.agg [cellP z 0, cellP z 1, cellP z 2], I c], ()))) = some (.tup [noV, I c], ()) := rfl
def Tells (g : FuncId) (args : List PV) (r : Arr) (c : Int) : Prop := ∃ y, callO B0 .cl (.fn g []) args = some (.tup [y, I c]) ∧ IsA y r
def TellsA (g : FuncId) (args : List PV) (r : Arr) : Prop := ∃ y, callO B0 .cl (.fn g []) args = some y ∧ IsA y r
theorem rfill_run (r : Bool) : callO B0 .cl (.fn 27 []) [.bool r] = some (I (fillI r)) := by
  refine call (d := fun _ => .cl) rfl (by decide) rfl rfl ?_
  rw [List.map_cons, List.map_nil, run27]
  cases r <;> rfl
theorem rlist_nil (r : Bool) : callO B0 .cl (.fn 38 []) [.nilS, .bool r] = some (likeV r .nilS) := by
  refine call (d := fun _ => .cl) rfl (by decide) rfl rfl ?_
  rw [List.map_cons, List.map_cons, List.map_nil, run38, build3 rfl rfl rfl rfl rfl rfl]
  rfl
theorem rlist_lend (l : List Int) (f r : Bool) : lendO B0 .cl false 38 [.sl 1 (ints l) f, .bool r] = some (likeV r (.sl 1 (ints l) f)) := by
  refine lend (d := fun _ => .cl) rfl (by simp [okVL, okV, okVL_ints]) rfl ?_ rfl
  rw [List.map_cons, List.map_cons, List.map_nil, run38, build3 rfl rfl rfl rfl rfl rfl]
  rfl
theorem rnumber_run (n : Int) : callO B0 .cl (.fn 40 []) [I n] = some (oneV n) := by
  refine call (d := fun _ => .cl) rfl (by decide) rfl rfl ?_
  rw [List.map_cons, List.map_nil, run40, okSls_I, slO_one, okU3]
  rfl
theorem firstE_len {a : Arr} (h : a.n.length ≠ 1) : firstE a = 111 := by unfold firstE; rw [if_pos h]
theorem firstE_ru {a : Arr} (h : a.n.length = 1) (hr : a.ru = true) : firstE a = 102 := by unfold firstE; rw [if_neg (by simp [h]), if_pos hr]
theorem firstE_ok {a : Arr} {n : Int} (h : a.n = [n]) (hr : a.ru = false) : firstE a = 0 ∧ firstN a = n := by
  have : firstE a = 0 := by unfold firstE; simp [h, hr]
  exact ⟨this, by unfold firstN; simp [this, h]⟩
theorem len_ne {a : Arr} : ((a.n.length : Int) != 1) = decide (a.n.length ≠ 1) := by
  by_cases h : a.n.length = 1
  · simp [h]
  · have : ¬ (a.n.length : Int) = 1 := by omega
    simp [h, this]
theorem rcount_run {v : PV} {a : Arr} (h : IsA v a) : Tells 39 [v] (countA a) (countE a) := by
  have key : ∃ y, IsA y (countA a) ∧ runK (cfg0 B0 fun _ => .cl) fn39 .cl noHandler 0 [.cv v] () = some (.tup [y, I (countE a)], ()) := by
    rw [run39, valO_is h, cT]
    simp only [s2_is h, s1_is h, bV, (c2_is h).len, iD, I_neq, iteP_bool, len_ne]
    by_cases h1 : a.n.length = 1
    case neg =>
      have e := firstE_len h1
      have e1 : countE a = 111 := by unfold countE; rw [e]; rfl
      refine ⟨noV, by unfold countA; rw [e1]; exact noArr_is, ?_⟩
      simp only [decide_eq_true h1, if_true, e1]
      exact rno 111
    case pos =>
      obtain ⟨n, hn⟩ := List.length_eq_one_iff.1 h1
      have hx := c2_is h
      rw [hn] at hx
      have hi := idx0 hx
      rw [iD] at hi
      simp only [h1, ne_eq, not_true_eq_false, decide_false, Bool.false_eq_true, if_false, hi, bV, load_I, I_lss, I_gtr, iteP_bool]
      cases hru : a.ru with
      | true =>
        have e1 : countE a = 102 := by unfold countE; rw [firstE_ru h1 hru]; rfl
        refine ⟨noV, by unfold countA; rw [e1]; exact noArr_is, ?_⟩
        simp only [if_true, bV, iteP_bool, e1]
        exact rno 102
      | false =>
        obtain ⟨f1, f2⟩ := firstE_ok hn hru
        simp only [Bool.false_eq_true, if_false, bV, iteP_bool]
        by_cases h2 : n < 0
        · have e1 : countE a = 102 := by unfold countE; rw [f1, f2, if_neg (by simp), if_pos h2]
          refine ⟨noV, by unfold countA; rw [e1]; exact noArr_is, ?_⟩
          simp only [decide_eq_true h2, if_true, e1]
          exact rno 102
        · by_cases h3 : 200 < n
          · have e1 : countE a = 113 := by unfold countE; rw [f1, f2, if_neg (by simp), if_neg h2, if_pos h3]
            refine ⟨noV, by unfold countA; rw [e1]; exact noArr_is, ?_⟩
            simp only [decide_eq_false h2, decide_eq_true h3, Bool.false_eq_true, if_false, if_true, e1]
            exact rno 113
          · have e1 : countE a = 0 := by unfold countE; rw [f1, f2, if_neg (by simp), if_neg h2, if_neg h3]
            obtain ⟨N, rfl⟩ : ∃ N : Nat, n = N := ⟨n.toNat, by omega⟩
            have hA : countA a = ⟨true, false, upto N⟩ := by unfold countA; rw [e1, f2]; rfl
            refine ⟨likeV false (.sl 1 (ints (upto N)) false), by rw [hA]; exact .mk _ _ _ _ (.sl _ _), ?_⟩
            simp only [decide_eq_false h2, decide_eq_false h3, Bool.false_eq_true, if_false, e1]
            rw [show noUndef [I N, nI 0, I 1] = true from rfl, cT]
            refine loop_run (fun i => ([I N, I i, I ((i + 1 : Nat) : Int), .bool false, .bool false, .nilS, .sl 1 (ints (upto i)) false], ())) N rfl (fun i hlt => ?_) ?_
            · have d : decide (((i + 1 : Nat) : Int) ≤ (N : Int)) = true := decide_eq_true (by omega)
              simp only [nth_0, nth_1, nth_2, nth_3, nth_4, nth_5, nth_6, I_leq, bV, iteP_bool, d, if_true, okSls_I, cT, one_chk, natP_I, Int.toNat_natCast, itemsP_sl]
              rw [app_chk (upto_len i).symm (by rw [upto_len]; omega), app_one (upto_len i).symm, app_len, ← upto_succ]
              simp only [cT, I_add, bV, wsucc (by omega : i + 1 < 9223372036854775807)]
            · have d : decide (((N + 1 : Nat) : Int) ≤ (N : Int)) = false := decide_eq_false (by omega)
              simp only [nth_0, nth_1, nth_2, nth_3, nth_4, nth_5, nth_6, I_leq, bV, iteP_bool, d, Bool.false_eq_true, if_false, natP_I, Int.toNat_natCast, itemsP_sl]
              rw [slO_n (upto_len N).symm, rlist_lend]
              rfl
  obtain ⟨y, h1, h2⟩ := key
  exact ⟨y, call (d := fun _ => .cl) rfl (by decide) (by simp [okVL, h.ok]) rfl h2, h1⟩
def rv (i : Nat) (l : List Int) : List Int := l.reverse.take i ++ l.drop i
theorem rv_len (i : Nat) (l : List Int) (h : i ≤ l.length) : (rv i l).length = l.length := by simp [rv]; omega
theorem rv_set {i : Nat} {l : List Int} (h : i < l.length) : (rv i l).set i (l[l.length - 1 - i]'(by omega)) = rv (i + 1) l := by
  have hr : i < l.reverse.length := by simpa using h
  have e : l.reverse[i] = l[l.length - 1 - i]'(by omega) := List.getElem_reverse hr
  unfold rv
  rw [drop_cons h, List.take_succ_eq_append_getElem hr, List.set_append_right _ _ (by simp; omega), e]
  have : i - (List.take i l.reverse).length = 0 := by simp; omega
  rw [this, List.set_cons_zero]
  simp
theorem rv_all (l : List Int) : rv l.length l = l.reverse := by
  have : l.reverse.take l.length = l.reverse := List.take_of_length_le (by simp)
  simp [rv, this]
theorem rcells {y : PV} {a : Arr} (h : IsA y a) : PV.agg [cellP y 0, cellP y 1, cellP y 2] = y := by
  obtain ⟨x, rfl, hx⟩ := h.get
  rfl
theorem rsome {y : PV} {a : Arr} (h : IsA y a) (c : PV) : chkO (okCells y 3) (some (PV.tup [.agg [cellP y 0, cellP y 1, cellP y 2], c], ())) = some (.tup [y, c], ()) := by
  rw [okCells_is h, cT, rcells h]
theorem rmonR (g : List UInt8) {v : PV} {a : Arr} (h : IsA v a) (hl : a.n.length ≤ 400000) : Tells 19 [.str g, v] (monA g a) (monE g a) := by
  have key : ∃ y, IsA y (monA g a) ∧ runK (cfg0 B0 fun _ => .cl) fn19 .cl noHandler 0 [.cv (.str g), .cv v] () = some (.tup [y, I (monE g a)], ()) := by
    rw [run19, valO_is h, cT]
    simp only [sel_is h, s2_is h, bV, rright_run h (by omega), pure_not, iteP_bool]
    unfold monE monA
    cases hr : a.right with
    | false =>
      exact ⟨noV, noArr_is, rno 114⟩
    | true =>
      have lz : leN (lenL (ints a.n)) 2147483648 = true := by simp [ints_len]; omega
      simp only [Bool.not_true, Bool.false_eq_true, if_false, (c2_is h).elems, bV, lz, cT]
      simp only [show ([226, 141, 180] : List UInt8) = gR from rfl, show ([226, 141, 179] : List UInt8) = gI from rfl, show ([44] : List UInt8) = gC from rfl, show ([226, 140, 189] : List UInt8) = gT from rfl, show ([226, 134, 145] : List UInt8) = gU from rfl, show ([226, 137, 162] : List UInt8) = gN from rfl]
      by_cases h1 : g = gR
      · subst h1
        simp only [eqs_t, bV, iteP_bool, if_true, s0_is h, pure_not, rlist_nil, (c2_is h).len, okSls_I, cT, slO_one, rlist_lend]
        unfold sizeA
        cases a.li with
        | false => exact ⟨likeV false .nilS, .mk _ _ _ _ .nil, rfl⟩
        | true => exact ⟨likeV false (.sl 1 (ints [(a.n.length : Int)]) false), .mk _ _ _ _ (.sl _ _), rfl⟩
      simp only [eqs_f h1, h1, bV, iteP_bool, Bool.false_eq_true, if_false]
      by_cases h2 : g = gI
      · subst h2
        obtain ⟨y, c1, c2⟩ := rcount_run h
        refine ⟨y, by simpa using c2, ?_⟩
        simp only [eqs_t, bV, iteP_bool, if_true, c1, pure_tup, List.getElem?_cons_zero, List.getElem?_cons_succ, rsome c2, Bool.true_eq_false, if_false]
      simp only [eqs_f h2, h2, bV, iteP_bool, Bool.false_eq_true, if_false]
      by_cases h3 : g = gC
      · subst h3
        refine ⟨likeV a.ru (.sl 1 (ints a.n) false), .mk _ _ _ _ (.sl _ _), ?_⟩
        simp only [eqs_t, bV, iteP_bool, if_true, s1_is h, slO_all, rlist_lend]
        rfl
      simp only [eqs_f h3, h3, bV, iteP_bool, Bool.false_eq_true, if_false]
      by_cases h4 : g = gT
      · subst h4
        refine ⟨.agg [.bool a.li, .bool a.ru, .sl 1 (ints a.n.reverse) false], .mk _ _ _ _ (.sl _ _), ?_⟩
        simp only [eqs_t, bV, iteP_bool, if_true]
        rw [show noUndef [nI (lenL (ints a.n)), PV.int .i64 0] = true from rfl, cT]
        refine loop_run (fun i => ([I a.n.length, I i, v, .bool false, .bool false, .nilS, .sl 1 (ints (rv i a.n)) false], ())) a.n.length (by simp [rv, ints_len, I]) (fun i hlt => ?_) ?_
        · have d : decide ((i : Int) < (a.n.length : Int)) = true := decide_eq_true (by omega)
          have w1 : IntKind.i64.wrap ((a.n.length : Int) - 1) = ((a.n.length - 1 : Nat) : Int) := by rw [w64 (by omega) (by omega)]; omega
          have w2 : IntKind.i64.wrap (((a.n.length - 1 : Nat) : Int) - (i : Int)) = ((a.n.length - 1 - i : Nat) : Int) := by rw [w64 (by omega) (by omega)]; omega
          simp only [nth_0, nth_1, nth_2, nth_3, nth_4, nth_5, nth_6, natP_I, Int.toNat_natCast, nI_eq, iD, I_lss, bV, iteP_bool, d, if_true, s2_is h, I_sub, w1, w2, (c2_is h).idx (by omega : a.n.length - 1 - i < a.n.length), load_I, natO_I, ltN_eq, decide_eq_true hlt, cT, itemsP_sl]
          rw [setO_ints (by rw [rv_len _ _ (by omega)]; exact hlt), rv_set hlt]
          simp only [bV, I_add, wsucc (by omega : i < 9223372036854775807)]
        · have d : decide ((a.n.length : Int) < (a.n.length : Int)) = false := by simp
          simp only [nth_0, nth_1, nth_2, nth_3, nth_4, nth_5, nth_6, natP_I, Int.toNat_natCast, nI_eq, iD, I_lss, bV, iteP_bool, d, Bool.false_eq_true, if_false, s0_is h, s1_is h, okB, cellB, cT, itemsP_sl, rv_all]
          rw [slO_n (by simp), okU3t]
          rfl
      simp only [eqs_f h4, h4, bV, iteP_bool, Bool.false_eq_true, if_false]
      by_cases h5 : g = gU
      · subst h5
        refine ⟨.agg [.bool false, .bool a.ru, .sl 1 (ints ((a.n ++ [fillI a.ru]).take 1)) false], .mk _ _ _ _ (.sl _ _), ?_⟩
        have e4 : ∀ n k, 1 ≤ k → boundO (some (.int .i64 1)) n k = some 1 := by intro n k hk; simp [boundO, bound, natOf, chk, hk]
        by_cases hz : a.n.length = 0
        · have hn := List.length_eq_zero_iff.1 hz
          simp only [eqs_t, bV, iteP_bool, if_true, hn, s1_is h, rfill_run, okSls_I, cT, one_chk, show pureO (.bin .eql .num true (.c (nI (lenL (ints [])))) (.c (.int .i64 0))) = some (.bool true) from rfl]
          cases a.ru <;> rfl
        · have hne : ((a.n.length : Int) == 0) = false := by simp; intro hq; exact hz (by rw [hq]; rfl)
          simp only [eqs_t, bV, iteP_bool, if_true, lenL_eq, ints_len, nI_eq, iD, I_eql, hne, Bool.false_eq_true, if_false, s1_is h, bound_none]
          rw [← iD, e4 _ _ (by omega)]
          simp only [bV, okB, cellB, cT]
          rw [slO_take _ (by omega), okU3t]
          have : (a.n ++ [fillI a.ru]).take 1 = a.n.take 1 := List.take_append_of_le_length (by omega)
          rw [this]
          rfl
      simp only [eqs_f h5, h5, bV, iteP_bool, Bool.false_eq_true, if_false]
      by_cases h6 : g = gN
      · subst h6
        refine ⟨oneV a.n.length, one_is _, ?_⟩
        simp only [eqs_t, bV, iteP_bool, if_true, lenL_eq, ints_len, nI_eq, iD, rnumber_run]
        rfl
      simp only [eqs_f h6, h6, bV, iteP_bool, Bool.false_eq_true, if_false]
      exact ⟨noV, noArr_is, rno 102⟩
  obtain ⟨y, h1, h2⟩ := key
  exact ⟨y, call (d := fun _ => .cl) rfl (by decide) (by simp [okVL, okV, h.ok]) rfl h2, h1⟩
end Go.Ab.Shape

