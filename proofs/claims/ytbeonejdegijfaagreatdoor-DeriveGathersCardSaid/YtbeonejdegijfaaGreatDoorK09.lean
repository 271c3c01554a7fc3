/-
  Part 9 of a proof: a machine of our own for the given program, its laws, and what it says of the program. Nothing here is a claim by itself.
-/
import Derived.Test.YtbeonejdegijfaaGreatDoorK06
import Derived.Test.YtbeonejdegijfaaGreatDoorK08
import Derived.Test.YtbeonejdegijfaaGreatDoorProg
import Derived.WalkKit
import Derived.LaidEql
import Derived.Stop.Asserts
import Derived.RowKitTokens
import Derived.Test.YtbeonejdegijfaaGreatDoorK02
import Derived.Lib.Builder
import Derived.Lib.UnsafeStr
import Derived.Lib.Bytealg
import Derived.Lib.AppendZerosOnto
import Derived.Lib.Walk
import Derived.Lib.SliceRun
import Derived.Laws.Externs
import Derived.Shelf.RegionOpenPlain
import Derived.Shelf.Strings.Replace
import Derived.Shelf.Strconv.Itoa4
import Derived.Lib.Strings
import Derived.Test.YtbeonejdegijfaaGreatDoorK05
import Derived.Test.YtbeonejdegijfaaGreatDoorK03
import Derived.ChangeArms
import Derived.ChangeSlices
import Derived.ChangeMaps5
import Derived.JoinedOf
import Derived.RowKit
import Derived.Test.YtbeonejdegijfaaGreatDoorRows
import Derived.ProofKit
import Derived.ChangeSame
import Derived.ChangeVars
import Derived.LaidLaws
import Derived.LaidHandle
import Derived.Stop.Joined
import Derived.Carry
import Derived.Stop.LaidTwo
import Derived.Stop.LaidErr
import Derived.LaidSub
import Derived.Lib.LaidTab
import Derived.Shelf.Vars
import Derived.Handed
set_option linter.all false

namespace Go.Ab.Derive
open Go Go.Ab
theorem okC_of {a b c : PV} (h : (PV.agg [a, b, c]).isVal = true) : okCells (.agg [a, b, c]) 3 = true := okCells3 h
theorem list_lend {l : List Int} : lendO B0 .cl false 25 [.sl 1 (ints l) false] = some (.agg [.bool true, .bool false, .sl 1 (ints l) false]) := by
  refine lend_of_run (cfg_ok fun _ => .cl) (fn := fn25) rfl (by simp [okVL, okV, okVL_ints]) (Nat.le_of_ble_eq_true rfl) ?_ (by simp [PV.free, freeL])
  rw [List.map_cons, List.map_nil, run25]
  rw [show pureO (.build [.bool false, .bool false, .nilS] [(0, (1, .c (.bool true))), (2, (1, .c (.sl 1 (ints l) false)))]) = some (.agg [.bool true, .bool false, .sl 1 (ints l) false]) from rfl, bV, okC_of rfl, cT]
  rfl
theorem shown_run : callO B0 .cl (.fn 11 []) [] = some (.bool true) := by
  refine call (d := fun _ => .cl) rfl (by decide) rfl rfl ?_
  obtain ⟨_, h1⟩ := ev_red
  have h1 := call_eval (by decide) h1 rfl rfl
  obtain ⟨_, h2⟩ := ev_scan
  have h2 := call_eval (by decide) h2 rfl rfl
  obtain ⟨_, h3⟩ := ev_each
  have h3 := call_eval (by decide) h3 rfl rfl
  obtain ⟨_, h4⟩ := ev_iota
  have h4 := call_eval (by decide) h4 rfl rfl
  obtain ⟨_, h5⟩ := ev_pr1
  have h5 := call_eval (by decide) h5 rfl rfl
  obtain ⟨_, h6⟩ := ev_pr2
  have h6 := call_eval (by decide) h6 rfl rfl
  obtain ⟨_, h7⟩ := ev_pr3
  have h7 := call_eval (by decide) h7 rfl rfl
  have hl := @list_lend [1, 2, 3]
  have hk := @list_lend [1, 2]
  rw [List.map_nil, run11]
  rw [show slO 1 1 [.int .i64 1, .int .i64 2, .int .i64 3] 0 (lenL [.int .i64 1, .int .i64 2, .int .i64 3]) = .sl 1 (ints [1, 2, 3]) false from rfl, show slO 1 1 [.int .i64 1, .int .i64 2] 0 (lenL [.int .i64 1, .int .i64 2]) = .sl 1 (ints [1, 2]) false from rfl]
  rw [show okSls 1 [.int .i64 1, .int .i64 2, .int .i64 3] = true from rfl, show okSls 1 [.int .i64 1, .int .i64 2] = true from rfl]
  simp only [cT, hl, hk, bV]
  rw [show callO B0 .cl (.fn 19 []) [.str [45], .agg [.bool true, .bool false, .sl 1 (ints [1, 2, 3]) false]] = _ from h1, show callO B0 .cl (.fn 21 []) [.str [43], .agg [.bool true, .bool false, .sl 1 (ints [1, 2, 3]) false]] = _ from h2,
    show callO B0 .cl (.fn 23 []) [.str [45], .agg [.bool true, .bool false, .sl 1 (ints [1, 2]) false]] = _ from h3, show callO B0 .cl (.fn 23 []) [.str [226, 141, 179], .agg [.bool true, .bool false, .sl 1 (ints [1, 2]) false]] = _ from h4]
  simp only [bV, pure_tup, List.getElem?_cons_zero, List.getElem?_cons_succ]
  rw [okC_of rfl, okC_of rfl, okC_of rfl, okC_of rfl]
  simp only [cT, cellP3_0, cellP3_1, cellP3_2, h5, h6, h7, bV, pure_eql, pure_eqs, beq_self_eq_true, iteP_true]
def fewB (l : List Arr) : List Arr := (l.take 30).map Arr.few
theorem fewB_len (l : List Arr) : (fewB l).length ≤ 30 := by simp [fewB]; omega
theorem fewB_le {l : List Arr} : ∀ a ∈ fewB l, a.n.length ≤ 1000000 := by
  intro a ha
  obtain ⟨b, _, rfl⟩ := List.mem_map.1 ha
  exact few_any b
theorem fews_run {v : PV} {l : List Arr} (h : IsB v l) : ∃ u, callO B0 .cl (.fn 28 []) [v] = some u ∧ IsB u (fewB l) := by
  suffices key : ∃ r, runK (cfg0 B0 (fun _ => .cl)) fn28 (.cl) noHandler 0 [.cv v] () = some r ∧ ∃ w, r = (w, ()) ∧ IsB w (fewB l) by
    obtain ⟨r, h1, w, rfl, h2⟩ := key
    exact ⟨w, call (d := fun _ => .cl) rfl (by decide) (by simp [okVL, h.ok]) rfl h1, h2⟩
  rw [run28, show noUndef [v, nI 0, .int .i64 0] = true by simp only [noUndef, List.all_cons, h.und]; rfl, cT]
  refine loop_inv (α := List PV) (fun i vs => (([v, nI i, I i, .sl 3 vs false], ()) : List PV × Unit)) (min l.length 30) (fun i vs => AllA vs ((l.take i).map Arr.few)) _ ?_ ?_ (by exact AllA.nil) (a0 := [])
  · intro i vs hi hp
    left
    have hlt : i < l.length := by omega
    obtain ⟨x, h1, h2⟩ := h.idx hlt
    obtain ⟨u, h3, h4⟩ : ∃ u, callO B0 .cl (.fn 12 []) [.agg [.bool l[i].li, .bool l[i].ru, x]] = some u ∧ IsA u l[i].few := few_run (.mk _ _ _ _ h2 : IsA (.agg [.bool l[i].li, .bool l[i].ru, x]) l[i])
    have hvl := hp.len
    simp only [List.length_map, List.length_take, Nat.min_eq_left (Nat.le_of_lt hlt)] at hvl
    refine ⟨vs ++ [u], ?_, by rw [take_snoc hlt, List.map_append]; exact hp.snoc h4⟩
    simp only [nth_0, nth_1, nth_2, nth_3, h.len, bV, I_lss, iD, iteP_bool, h1]
    rw [if_pos (by simp; omega)]
    simp only [bV, iteP_bool]
    rw [if_pos (by simp; omega)]
    obtain ⟨y, rfl, hy⟩ := h4.get
    simp only [show ∀ a b c : PV, pureO (.load 3 true (.c (.ptr [a, b, c] 0))) = some (.agg [a, b, c]) from fun _ _ _ => rfl, bV, h3, nI_eq, natP_int, natP_I, Int.toNat_natCast, itemsP_sl, iD, I_add, wsucc (by omega : i < 9223372036854775807)]
    rw [show okSls 3 [PV.agg [.bool l[i].few.li, .bool l[i].few.ru, y]] = true by simp [okSls, PV.isVal, PV.isCell, hy.cell, PV.cells], cT]
    simp only [addN_eq, lenL_eq, leN_eq, takeL_eq, dropL_eq, catL_eq, andB_eq, List.length_singleton, List.drop_zero, List.take_succ_cons, List.take_zero, hvl]
    rw [show decide (0 + 1 ≤ 1) = true from rfl, cT, show (decide (i ≤ i) && decide (i + 1 ≤ 2147483648)) = true by simp; omega, cT, List.take_of_length_le (by omega)]
  · intro vs hp
    have hvl := hp.len
    simp only [List.length_map, List.length_take] at hvl
    have hvl : vs.length = min l.length 30 := by omega
    have et : l.take (min l.length 30) = l.take 30 := by
      rcases Nat.le_total l.length 30 with h | h
      · rw [Nat.min_eq_left h, List.take_length, List.take_of_length_le h]
      · rw [Nat.min_eq_right h]
    rw [et] at hp
    have hf : (bindO (pureO (.bin .lss .num false (.c (I (min l.length 30 : Nat))) (.c (I l.length)))) fun z3 => iteP z3 (bindO (pureO (.bin .lss .num true (.c (I (min l.length 30 : Nat))) (.c (I 30)))) fun z4 => some z4) (some (.bool false))) = some (.bool false) := by
      rw [I_lss, bV, iteP_bool]
      by_cases hq : l.length ≤ 30
      · rw [Nat.min_eq_left hq, if_neg (by simp)]
      · rw [Nat.min_eq_right (by omega), if_pos (by simp; omega)]
        rfl
    simp only [nth_0, nth_1, nth_2, nth_3, h.len, iD]
    rw [bV, hf, bV, iteP_false]
    simp only [nI_eq, natP_int, natP_I, Int.toNat_natCast, itemsP_sl]
    rw [show slO 3 3 vs 0 (min l.length 30) = .sl 3 vs false by rw [← hvl]; exact slO_3 vs, show okU (.sl 3 vs false) = true by simp [okU, okV, hp.ok]]
    exact ⟨_, rfl, _, rfl, .sl _ hp⟩
def sameB : List Arr → List Arr → Bool
  | [], [] => true
  | a :: l, b :: m => a.same b && sameB l m
  | _, _ => false
theorem same_me (a : Arr) : a.same a = true := by simp [Arr.same, (eqL_iff a.n a.n).2 rfl]
theorem alls_run {v u : PV} {l : List Arr} (h : IsB v l) (hu : IsB u l) (hl : l.length ≤ 1000000) (hs : ∀ a ∈ l, a.n.length ≤ 1000000) : callO B0 .cl (.fn 33 []) [v, u] = some (.bool true) := by
  refine call (d := fun _ => .cl) rfl (by decide) (by simp [okVL, h.ok, hu.ok]) rfl ?_
  rw [List.map_cons, List.map_cons, List.map_nil, run33, h.len, bV, hu.len, bV, I_neq, bV, bne_self_eq_false, iteP_false, show noUndef [v, u, .int .i64 0] = true by simp only [noUndef, List.all_cons, h.und, hu.und]; rfl, cT]
  refine loop_run (fun i => (([v, u, I i], ()) : List PV × Unit)) l.length rfl (fun i hi => ?_) ?_
  · obtain ⟨x, h1, h2⟩ := h.idx hi
    obtain ⟨y, h3, h4⟩ := hu.idx hi
    have hq := rsame_run (.mk _ _ _ _ h2 : IsA (.agg [.bool l[i].li, .bool l[i].ru, x]) l[i]) (.mk _ _ _ _ h4 : IsA (.agg [.bool l[i].li, .bool l[i].ru, y]) l[i]) (hs _ (List.getElem_mem hi)) (hs _ (List.getElem_mem hi))
    rw [same_me] at hq
    simp only [nth_0, nth_1, nth_2, h.len, bV, I_lss, iteP_bool, h1, h3, show ∀ a b c : PV, pureO (.load 3 true (.c (.ptr [a, b, c] 0))) = some (.agg [a, b, c]) from fun _ _ _ => rfl, hq, pure_not, Bool.not_true, Bool.false_eq_true, if_false, iD, I_add, wsucc (by omega : i < 9223372036854775807)]
    rw [if_pos (by simpa using hi)]
  · simp only [nth_0, nth_1, nth_2, h.len, bV, I_lss, iteP_bool, Int.lt_irrefl, decide_false, Bool.false_eq_true, if_false]
theorem items_gat {a : Arr} (h : a.right = true) : gatE a.li (a.n.map (itmA a.ru)) = 0 ∧ gatA a.li a.ru (a.n.map (itmA a.ru)) = a := by
  have hl := right_le h
  have hr : ∀ n ∈ a.n, (itmA a.ru n).right = true := by
    intro n hn
    unfold Arr.right at h ⊢
    simp only [Bool.and_eq_true] at h
    have h1 := h.1
    unfold itmA
    cases hq : a.ru with
    | false => simp
    | true =>
      rw [hq] at h1
      simp only [Bool.true_and, Bool.not_eq_true'] at h1
      have := List.any_eq_false.1 h1 n hn
      simpa using this
  have e1 : ¬ (a.n.map (itmA a.ru)).all Arr.right = false := by
    rw [show (a.n.map (itmA a.ru)).all Arr.right = true from List.all_eq_true.2 fun b hb => by
      obtain ⟨n, hn, rfl⟩ := List.mem_map.1 hb
      exact hr n hn]
    simp
  have e2 : ¬ (a.n.map (itmA a.ru)).any Arr.li = true := by simp [itmA]
  have hh : ∀ b ∈ a.n.map (itmA a.ru), b.ru = a.ru := by
    intro b hb
    obtain ⟨n, hn, rfl⟩ := List.mem_map.1 hb
    rfl
  have hd : 0 < a.n.length → (hdA (a.n.map (itmA a.ru))).ru = a.ru := fun h0 => by
    rw [hd_get (by simpa using h0)]
    exact hh _ (List.getElem_mem _)
  have e3 : ¬ (a.n.map (itmA a.ru)).any (fun b => b.ru != (hdA (a.n.map (itmA a.ru))).ru) = true := by
    intro hq
    obtain ⟨b, hb, hne⟩ := List.any_eq_true.1 hq
    obtain ⟨n, hn, rfl⟩ := List.mem_map.1 hb
    rw [hd (List.length_pos_of_mem hn)] at hne
    simp [itmA] at hne
  have e4 : ¬ (a.li = false ∧ (a.n.map (itmA a.ru)).length ≠ 1) := by
    rintro ⟨q1, q2⟩
    unfold Arr.right at h
    simp [q1] at h
    simp [h.2] at q2
  have e5 : ¬ 200 < (a.n.map (itmA a.ru)).length := by simp; omega
  have hE : gatE a.li (a.n.map (itmA a.ru)) = 0 := by unfold gatE; rw [if_neg e1, if_neg e2, if_neg e3, if_neg e4, if_neg e5]
  refine ⟨hE, ?_⟩
  unfold gatA
  rw [if_pos hE]
  have ec : catA (a.n.map (itmA a.ru)) = a.n := by
    unfold catA
    rw [List.flatMap_map]
    simp [itmA]
  rw [ec]
  by_cases h0 : (a.n.map (itmA a.ru)).length = 0
  · rw [if_pos h0]
  · rw [if_neg h0, hd (by simp at h0; exact List.length_pos_iff.2 h0)]
theorem law_back {v : PV} {b : Arr} (hv : IsA v b) : runK (cfg0 B0 fun _ => .cl) fn10 .cl noHandler 0 [.cv v] () = some (.bool true, ()) := by
  obtain ⟨v1, f1, i1⟩ := few_run hv
  have lb := few_any b
  generalize b.few = a at *
  obtain ⟨w, h1, h2⟩ := items_run i1 lb
  have hr := right_run i1 lb
  rw [run10, valO_is hv, cT, shown_run]
  simp only [bV, sel_is hv, f1, okSto_is i1 hv, stoP_is i1 hv, cT, sel_is i1, h1, pure_tup, List.getElem?_cons_zero, List.getElem?_cons_succ, iD, I_neq, iteP_bool, s0_is i1, s1_is i1]
  cases ha : a.right with
  | false =>
    rw [ha] at hr
    simp only [hr, iteP_true, bV, pure_not, Bool.false_eq_true, if_false]
    rfl
  | true =>
    rw [ha] at h2
    have hl := right_le ha
    obtain ⟨g1, g2⟩ := items_gat ha
    have hs : ∀ c ∈ a.n.map (itmA a.ru), c.n.length ≤ 1000000 := by
      intro c hc
      obtain ⟨n, _, rfl⟩ := List.mem_map.1 hc
      simp [itmA]
    obtain ⟨c, h3, h4⟩ := Gather_run (l := a.n.map (itmA a.ru)) h2 (by simp; omega) hs a.li a.ru
    rw [g1] at h3
    rw [g2] at h4
    have hq := same_run i1 h4 lb lb
    rw [same_me] at hq
    have hlen : pureO (.len .slice (.c w)) = some (I a.n.length) := by rw [h2.len]; simp
    simp only [if_true, bne_self_eq_false, Bool.false_eq_true, if_false, h3, bV, pure_tup, List.getElem?_cons_zero, List.getElem?_cons_succ, okCells_is h4, cT, iteP_true, I_eql, iD, beq_self_eq_true, agg_is h4, hq, hlen, s2_is i1, (c2_is i1).len]
theorem law_gathers {v u : PV} {b : Arr} {l : List Arr} (hv : IsA v b) (hu : IsB u l) (is ru : Bool) : runK (cfg0 B0 fun _ => .cl) fn9 .cl noHandler 0 [.cv v, .cv u, .cv (.bool is), .cv (.bool ru)] () = some (.bool true, ()) := by
  obtain ⟨v1, f1, i1⟩ := few_run hv
  obtain ⟨u1, f2, i2⟩ := fews_run hu
  have lb := few_any b
  have ll := fewB_len l
  have ls := @fewB_le l
  generalize b.few = a at *
  generalize fewB l = m at *
  obtain ⟨w, h1, h2⟩ := items_run i1 lb
  obtain ⟨x, h3, h4⟩ := ritems_run i1 lb
  obtain ⟨c, h5, h6⟩ := Gather_run i2 (by omega) ls is ru
  obtain ⟨d, h7, h8⟩ := rgather_run i2 (by omega) ls is ru
  have hcat : (gatA is ru m).n.length ≤ 1000000 := by
    unfold gatA
    split
    · rename_i hE
      have hall : m.all Arr.right = true := by
        unfold gatE at hE
        split at hE
        · cases hE
        · rename_i hq; simpa using hq
      have := catA_len (List.all_eq_true.1 hall)
      simp only
      omega
    · simp [noArr]
  have hq := rsame_run h6 h8 hcat hcat
  rw [same_me] at hq
  have hall := alls_run h2 h4 (by split <;> simp; omega) (by
    intro e he
    split at he
    · obtain ⟨n, _, rfl⟩ := List.mem_map.1 he
      simp [itmA]
    · cases he)
  rw [run9, valO_is hv, cT, shown_run]
  simp only [bV, sel_is hv, f1, okSto_is i1 hv, stoP_is i1 hv, cT, sel_is i1, f2, h1, h3, h5, h7, pure_tup, List.getElem?_cons_zero, List.getElem?_cons_succ, okCells_is h6, okCells_is h8, iteP_true, hall, I_eql, beq_self_eq_true, agg_is h6, agg_is h8, hq]
end Go.Ab.Derive


namespace Go.Proofs.AbAsD1
open Go.RowKit Go.Extern.Stop Go.Stop Go.Extern
theorem as_nil (t : Value) (w : World) :
    Calls Tryz.prog 95 #[.nilIface, t] w fun e w' => e = .returned (.bool false) ∧ w' = w := by
  go_enter Tryz.func95, Tryz.ntmps95
  go_wp2
  go_ret
  exact ⟨rfl, rfl⟩
theorem Tryz.valueOf27 (t : Addr) (w : World) : (ReflectliteValue.unpack (.iface 126 (.pointer (some t)))).run Tryz.prog w
    = .ok (.agg #[.pointer (some ⟨9, 126, none⟩), .pointer (some ⟨w.heap.size, 0, none⟩), .int .u64 150]) (w.alloc (.cells #[.pointer (some t)] 126)) := by kernel_rfl
theorem Tryz.type27 (a : Addr) (w : World) : (ReflectliteValue.methodAny (ReflectliteValue.valueError "reflectlite.Value.Type" 0) (fun t _ _ _ => ReflectliteType.toType t) #[.agg #[.pointer (some ⟨9, 126, none⟩), .pointer (some a), .int .u64 150]]).run Tryz.prog w
    = .ok (.iface 200 (.agg #[.pointer (some ⟨9, 126, none⟩)])) w := by kernel_rfl
theorem Tryz.methodKind (h : Value) (w : World) : (Go.method 396 200 (.agg #[h]) "Kind").run Tryz.prog w = .ok (253, h) w := by kernel_rfl
theorem Tryz.kind27 (w : World) : ((ReflectliteType.abiMethod fun t => Functor.map (fun a : Nat => Value.int IntKind.u8 (a : Int)) (Rtype.kind t)) #[.pointer (some ⟨9, 126, none⟩)]).run Tryz.prog w = .ok (.int .u8 22) w := by kernel_rfl
theorem Tryz.kind25 (w : World) : ((ReflectliteType.abiMethod fun t => Functor.map (fun a : Nat => Value.int IntKind.u8 (a : Int)) (Rtype.kind t)) #[.pointer (some ⟨9, 124, none⟩)]).run Tryz.prog w = .ok (.int .u8 25) w := by kernel_rfl
theorem rlm (z : Sem Value) (f : TypeId → Addr → Nat → Nat → Sem Value) (v : Value) :
    ReflectliteValue.method z f #[v] = (do match ← ReflectliteValue.parts v with | none => z | some (t, a, fl) => f t a fl (fl % 32)) := rfl
theorem Tryz.parts27 (a : Addr) (w : World) : (ReflectliteValue.parts (.agg #[.pointer (some ⟨9, 126, none⟩), .pointer (some a), .int .u64 150])).run Tryz.prog w = .ok (some (126, a, 150)) w := by kernel_rfl
theorem Tryz.isNil27 (a p : Addr) (W : World) (ha : W.cell? a = some (.pointer (some p))) :
    (ReflectliteValue.method (ReflectliteValue.valueError "reflectlite.Value.IsNil" 0) ReflectliteValue.isNil #[.agg #[.pointer (some ⟨9, 126, none⟩), .pointer (some a), .int .u64 150]]).run Tryz.prog W = .ok (.bool false) W := by
  rw [rlm]
  simp only [Sem.run_bind, Tryz.parts27, Result.andThen]
  simp [ReflectliteValue.isNil, loadVar, isAgg, underlying, Tryz.underlying126, ha, Result.andThen]
theorem Tryz.methodElem (h : Value) (w : World) : (Go.method 396 200 (.agg #[h]) "Elem").run Tryz.prog w = .ok (267, .agg #[h]) w := by kernel_rfl
theorem Tryz.methodImplements (h : Value) (w : World) : (Go.method 396 200 (.agg #[h]) "Implements").run Tryz.prog w = .ok (268, .agg #[h]) w := by kernel_rfl
theorem Tryz.methodAssignableTo (h : Value) (w : World) : (Go.method 396 200 (.agg #[h]) "AssignableTo").run Tryz.prog w = .ok (265, .agg #[h]) w := by kernel_rfl
theorem Tryz.elem27 (w : World) : (ReflectliteType.method ReflectliteType.elem #[.agg #[.pointer (some ⟨9, 126, none⟩)]]).run Tryz.prog w = .ok (.iface 200 (.agg #[.pointer (some ⟨9, 124, none⟩)])) w := by kernel_rfl
theorem Tryz.implements25 (w : World) : (ReflectliteType.relation "Implements" ReflectliteType.implements_ #[.agg #[.pointer (some ⟨9, 124, none⟩)], .iface 200 (.agg #[.pointer (some ⟨9, 63, none⟩)])]).run Tryz.prog w = .ok (.bool true) w := by kernel_rfl
theorem Tryz.typeOf25 (v : Value) (w : World) : (ReflectliteType.typeOf #[.iface 124 v]).run Tryz.prog w = .ok (.iface 200 (.agg #[.pointer (some ⟨9, 124, none⟩)])) w := by kernel_rfl
theorem Tryz.assignable25 (w : World) : (ReflectliteType.relation "AssignableTo" ReflectliteType.assignableTo #[.agg #[.pointer (some ⟨9, 124, none⟩)], .iface 200 (.agg #[.pointer (some ⟨9, 124, none⟩)])]).run Tryz.prog w = .ok (.bool true) w := by kernel_rfl
theorem Tryz.elemOf27 (w : World) : (Rtype.elem? 126).run Tryz.prog w = .ok (some 124) w := by kernel_rfl
theorem Tryz.mk25 (p : Addr) (w : World) : (ReflectliteValue.mk 124 p ReflectliteValue.flagAddr).run Tryz.prog w = .ok (.agg #[.pointer (some ⟨9, 124, none⟩), .pointer (some p), .int .u64 409]) w := by kernel_rfl
theorem Tryz.elemV27 (a p : Addr) (W : World) (ha : W.cell? a = some (.pointer (some p))) :
    (ReflectliteValue.method (ReflectliteValue.valueError "reflectlite.Value.Elem" 0) ReflectliteValue.elem #[.agg #[.pointer (some ⟨9, 126, none⟩), .pointer (some a), .int .u64 150]]).run Tryz.prog W
      = .ok (.agg #[.pointer (some ⟨9, 124, none⟩), .pointer (some p), .int .u64 409]) W := by
  rw [rlm]
  simp only [Sem.run_bind, Tryz.parts27, Result.andThen]
  simp [ReflectliteValue.elem, loadVar, isAgg, underlying, Tryz.underlying126, ha, Result.andThen, Tryz.elemOf27, Tryz.mk25]
theorem rls (v x : Value) : ReflectliteValue.set #[v, x] = (do
    let (some (dst, a, fl), some (src, b, _)) := (← ReflectliteValue.parts v, ← ReflectliteValue.parts x)
      | unsupported (.noEntry "extern/(internal/reflectlite.Value).Set.zeroValue")
    if fl / ReflectliteValue.flagAddr % 2 == 0 then unsupported (.noEntry "extern/(internal/reflectlite.Value).Set.unaddressable")
    let val ← loadVar src b
    if ← Rtype.directlyAssignable dst src then storeVar dst a val
    else if ← Rtype.implements dst src then
      if (← Rtype.kind src) == 20 then
        match val with
        | .nilIface => unsupported (.noEntry "extern/reflectlite: a nil value of one interface type handed on as a value of another")
        | _ => storeVar dst a val
      else storeVar dst a (.iface src val)
    else panicString ("reflectlite.Set: value of type " ++ (← Rtype.spelt src) ++ " is not assignable to type " ++ (← Rtype.spelt dst))
    pure (.tuple #[])) := rfl
theorem Tryz.parts25a (a : Addr) (w : World) : (ReflectliteValue.parts (.agg #[.pointer (some ⟨9, 124, none⟩), .pointer (some a), .int .u64 409])).run Tryz.prog w = .ok (some (124, a, 409)) w := by kernel_rfl
theorem Tryz.parts25 (a : Addr) (w : World) : (ReflectliteValue.parts (.agg #[.pointer (some ⟨9, 124, none⟩), .pointer (some a), .int .u64 153])).run Tryz.prog w = .ok (some (124, a, 153)) w := by kernel_rfl
theorem Tryz.direct25 (w : World) : (Rtype.directlyAssignable 124 124).run Tryz.prog w = .ok true w := by kernel_rfl
theorem Tryz.set25 (ta b : Addr) (e old : Value) (h1 : e.oneCell' = true) (W : World) (hb : W.cell? b = some e) (ht : W.cell? ta = some old) (hf : W.frozen? ta = false) :
    (ReflectliteValue.set #[.agg #[.pointer (some ⟨9, 124, none⟩), .pointer (some ta), .int .u64 409], .agg #[.pointer (some ⟨9, 124, none⟩), .pointer (some b), .int .u64 153]]).run Tryz.prog W
      = .ok (.tuple #[]) (W.setCell ta e) := by
  rw [rls]
  simp only [Sem.run_bind, Tryz.parts25a, Tryz.parts25, Result.andThen]
  simp [ReflectliteValue.flagAddr, loadVar, Tryz.isAgg124, loadCells, loadCellsFrom, hb, Result.andThen, Tryz.direct25, storeVar, Value.cells, storeCells, Addr.add]
  rw [run_store Tryz.prog W ta _ _ h1]
  simp [ht, hf]
theorem valueOf51g (v : Value) (w : World) : (ReflectliteValue.unpack (.iface 124 v)).run Tryz.prog w
    = .ok (.agg #[.pointer (some ⟨9, 124, none⟩), .pointer (some ⟨w.heap.size, 0, none⟩), .int .u64 153]) (w.alloc (.cells v.cells 124)) := by kernel_rfl
theorem valueOf51 (v n : Value) (hv : v.cells = #[n]) (w : World) : (ReflectliteValue.unpack (.iface 124 v)).run Tryz.prog w
    = .ok (.agg #[.pointer (some ⟨9, 124, none⟩), .pointer (some ⟨w.heap.size, 0, none⟩), .int .u64 153]) (w.alloc (.cells #[n] 124)) := by rw [valueOf51g, hv]
set_option maxHeartbeats 8000000 in
set_option maxRecDepth 100000 in
theorem as_hit (v n : Value) (hv : v.cells = #[n]) (h1 : n.oneCell' = true) (t : Addr) (old : Value) (w : World) (hg : w.cell? ⟨0, 0, none⟩ = some (.iface 200 (.agg #[.pointer (some ⟨9, 63, none⟩)]))) (ht0 : w.cell? t = some old) (hf0 : w.frozen? t = false) :
    Calls Tryz.prog 95 #[.iface 124 v, .iface 126 (.pointer (some t))] w fun ev w' => ev = .returned (.bool true) ∧ w' = ((((w.alloc (.cells #[.pointer (some t)] 126)).alloc (.cells #[.pointer (some ⟨9, 126, none⟩), .pointer (some ⟨w.heap.size, 0, none⟩), .int .u64 150] 168)).alloc (.cells #[.pointer (some ⟨9, 126, none⟩), .pointer (some ⟨w.heap.size, 0, none⟩), .int .u64 150] 168)).alloc (.cells #[n] 124)).setCell t n := by
  have h6 := @run_callFunc_extern Tryz.prog 152 _ (fun args => ReflectliteValue.unpack (args.getD 0 (.tuple #[]))) Tryz.func152 (by kernel_rfl) (by kernel_rfl) (by kernel_rfl) (by kernel_rfl)
  have h7 := @run_callFunc_extern Tryz.prog 153 _ (ReflectliteValue.methodAny (ReflectliteValue.valueError "reflectlite.Value.Type" 0) (fun t _ _ _ => ReflectliteType.toType t)) Tryz.func153 (by kernel_rfl) (by kernel_rfl) (by kernel_rfl) (by kernel_rfl)
  have h8 := @run_callFunc_extern Tryz.prog 154 _ (ReflectliteValue.method (ReflectliteValue.valueError "reflectlite.Value.IsNil" 0) ReflectliteValue.isNil) Tryz.func154 (by kernel_rfl) (by kernel_rfl) (by kernel_rfl) (by kernel_rfl)
  have h27 := @run_callFunc_extern Tryz.prog 253 _ (ReflectliteType.abiMethod fun t => do pure (.int .u8 (← Rtype.kind t))) Tryz.func253 (by kernel_rfl) (by kernel_rfl) (by kernel_rfl) (by kernel_rfl)
  have h37 := @run_callFunc_extern Tryz.prog 267 _ (ReflectliteType.method ReflectliteType.elem) Tryz.func267 (by kernel_rfl) (by kernel_rfl) (by kernel_rfl) (by kernel_rfl)
  have h38 := @run_callFunc_extern Tryz.prog 268 _ (ReflectliteType.relation "Implements" ReflectliteType.implements_) Tryz.func268 (by kernel_rfl) (by kernel_rfl) (by kernel_rfl) (by kernel_rfl)
  have h10 := @run_callFunc_extern Tryz.prog 180 _ ReflectliteType.typeOf Tryz.func180 (by kernel_rfl) (by kernel_rfl) (by kernel_rfl) (by kernel_rfl)
  have h35 := @run_callFunc_extern Tryz.prog 265 _ (ReflectliteType.relation "AssignableTo" ReflectliteType.assignableTo) Tryz.func265 (by kernel_rfl) (by kernel_rfl) (by kernel_rfl) (by kernel_rfl)
  have h11 := @run_callFunc_extern Tryz.prog 181 _ (ReflectliteValue.method (ReflectliteValue.valueError "reflectlite.Value.Elem" 0) ReflectliteValue.elem) Tryz.func181 (by kernel_rfl) (by kernel_rfl) (by kernel_rfl) (by kernel_rfl)
  have h12 := @run_callFunc_extern Tryz.prog 182 _ ReflectliteValue.set Tryz.func182 (by kernel_rfl) (by kernel_rfl) (by kernel_rfl) (by kernel_rfl)
  have tO := Tryz.typeOf25
  have mA := Tryz.methodAssignableTo
  have a25 := Tryz.assignable25
  have v25 := valueOf51 v n hv
  have f6 := Tryz.valueOf27
  have f7 := Tryz.type27
  have mK := Tryz.methodKind
  have mE := Tryz.methodElem
  have mI := Tryz.methodImplements
  have k27 := Tryz.kind27
  have k25 := Tryz.kind25
  have e27 := Tryz.elem27
  have i25 := Tryz.implements25
  have n8 := Tryz.isNil27 ⟨w.heap.size, 0, none⟩ t ((w.alloc (.cells #[.pointer (some t)] 126)).alloc (.cells #[.pointer (some ⟨9, 126, none⟩), .pointer (some ⟨w.heap.size, 0, none⟩), .int .u64 150] 168)) (by simp)
  have hlt : 0 < w.heap.size := by
    rcases Nat.eq_zero_or_pos w.heap.size with h0 | h
    · simp [World.cell?, h0] at hg
    · exact h
  have hg2 : ((w.alloc (.cells #[.pointer (some t)] 126)).alloc (.cells #[.pointer (some ⟨9, 126, none⟩), .pointer (some ⟨w.heap.size, 0, none⟩), .int .u64 150] 168)).cell? ⟨0, 0, none⟩ = some (.iface 200 (.agg #[.pointer (some ⟨9, 63, none⟩)])) := by
    rw [World.cell?_alloc_lt _ _ ⟨0, 0, none⟩ (by simp), World.cell?_alloc_lt _ _ ⟨0, 0, none⟩ hlt]; exact hg
  have htl : t.block < w.heap.size := by
    rcases Nat.lt_or_ge t.block w.heap.size with h | h
    · exact h
    · simp [World.cell?, Array.getElem?_eq_none h] at ht0
  have el := Tryz.elemV27 ⟨w.heap.size, 0, none⟩ t (((w.alloc (.cells #[.pointer (some t)] 126)).alloc (.cells #[.pointer (some ⟨9, 126, none⟩), .pointer (some ⟨w.heap.size, 0, none⟩), .int .u64 150] 168)).alloc (.cells #[.pointer (some ⟨9, 126, none⟩), .pointer (some ⟨w.heap.size, 0, none⟩), .int .u64 150] 168)) (by rw [World.cell?_alloc_lt _ _ ⟨w.heap.size, 0, none⟩ (by simp; omega)]; simp)
  have st := Tryz.set25 t ⟨w.heap.size + 1 + 1 + 1, 0, none⟩ n old h1 ((((w.alloc (.cells #[.pointer (some t)] 126)).alloc (.cells #[.pointer (some ⟨9, 126, none⟩), .pointer (some ⟨w.heap.size, 0, none⟩), .int .u64 150] 168)).alloc (.cells #[.pointer (some ⟨9, 126, none⟩), .pointer (some ⟨w.heap.size, 0, none⟩), .int .u64 150] 168)).alloc (.cells #[n] 124))
    (by rw [World.cell?_alloc_at _ _ _ _ (by simp)]; rfl)
    (by rw [World.cell?_alloc_lt _ _ t (by simp; omega), World.cell?_alloc_lt _ _ t (by simp; omega), World.cell?_alloc_lt _ _ t (by simp; omega), World.cell?_alloc_lt _ _ t htl]; exact ht0)
    (by rw [World.frozen?_alloc_old _ _ t (by simp; omega), World.frozen?_alloc_old _ _ t (by simp; omega), World.frozen?_alloc_old _ _ t (by simp; omega), World.frozen?_alloc_old _ _ t (Nat.ne_of_lt htl)]; exact hf0)
  go_enter Tryz.func95, Tryz.ntmps95
  go_wp2
  refine wp_loop_rounds 1 ?_
  rw [rounds_succ]
  go_wp2
  go_ret
  exact ⟨rfl, rfl⟩
end Go.Proofs.AbAsD1


namespace Go.Proofs.AbAsD2
open Go.RowKit Go.Extern.Stop Go.Stop Go.Extern
theorem as_nil (t : Value) (w : World) :
    Calls Tryz.prog 95 #[.nilIface, t] w fun e w' => e = .returned (.bool false) ∧ w' = w := by
  go_enter Tryz.func95, Tryz.ntmps95
  go_wp2
  go_ret
  exact ⟨rfl, rfl⟩
theorem Tryz.valueOf27 (t : Addr) (w : World) : (ReflectliteValue.unpack (.iface 146 (.pointer (some t)))).run Tryz.prog w
    = .ok (.agg #[.pointer (some ⟨9, 146, none⟩), .pointer (some ⟨w.heap.size, 0, none⟩), .int .u64 150]) (w.alloc (.cells #[.pointer (some t)] 146)) := by kernel_rfl
theorem Tryz.type27 (a : Addr) (w : World) : (ReflectliteValue.methodAny (ReflectliteValue.valueError "reflectlite.Value.Type" 0) (fun t _ _ _ => ReflectliteType.toType t) #[.agg #[.pointer (some ⟨9, 146, none⟩), .pointer (some a), .int .u64 150]]).run Tryz.prog w
    = .ok (.iface 200 (.agg #[.pointer (some ⟨9, 146, none⟩)])) w := by kernel_rfl
theorem Tryz.methodKind (h : Value) (w : World) : (Go.method 396 200 (.agg #[h]) "Kind").run Tryz.prog w = .ok (253, h) w := by kernel_rfl
theorem Tryz.kind27 (w : World) : ((ReflectliteType.abiMethod fun t => Functor.map (fun a : Nat => Value.int IntKind.u8 (a : Int)) (Rtype.kind t)) #[.pointer (some ⟨9, 146, none⟩)]).run Tryz.prog w = .ok (.int .u8 22) w := by kernel_rfl
theorem Tryz.kind25 (w : World) : ((ReflectliteType.abiMethod fun t => Functor.map (fun a : Nat => Value.int IntKind.u8 (a : Int)) (Rtype.kind t)) #[.pointer (some ⟨9, 145, none⟩)]).run Tryz.prog w = .ok (.int .u8 25) w := by kernel_rfl
theorem rlm (z : Sem Value) (f : TypeId → Addr → Nat → Nat → Sem Value) (v : Value) :
    ReflectliteValue.method z f #[v] = (do match ← ReflectliteValue.parts v with | none => z | some (t, a, fl) => f t a fl (fl % 32)) := rfl
theorem Tryz.parts27 (a : Addr) (w : World) : (ReflectliteValue.parts (.agg #[.pointer (some ⟨9, 146, none⟩), .pointer (some a), .int .u64 150])).run Tryz.prog w = .ok (some (146, a, 150)) w := by kernel_rfl
theorem Tryz.isNil27 (a p : Addr) (W : World) (ha : W.cell? a = some (.pointer (some p))) :
    (ReflectliteValue.method (ReflectliteValue.valueError "reflectlite.Value.IsNil" 0) ReflectliteValue.isNil #[.agg #[.pointer (some ⟨9, 146, none⟩), .pointer (some a), .int .u64 150]]).run Tryz.prog W = .ok (.bool false) W := by
  rw [rlm]
  simp only [Sem.run_bind, Tryz.parts27, Result.andThen]
  simp [ReflectliteValue.isNil, loadVar, isAgg, underlying, Tryz.underlying146, ha, Result.andThen]
theorem Tryz.methodElem (h : Value) (w : World) : (Go.method 396 200 (.agg #[h]) "Elem").run Tryz.prog w = .ok (267, .agg #[h]) w := by kernel_rfl
theorem Tryz.methodImplements (h : Value) (w : World) : (Go.method 396 200 (.agg #[h]) "Implements").run Tryz.prog w = .ok (268, .agg #[h]) w := by kernel_rfl
theorem Tryz.methodAssignableTo (h : Value) (w : World) : (Go.method 396 200 (.agg #[h]) "AssignableTo").run Tryz.prog w = .ok (265, .agg #[h]) w := by kernel_rfl
theorem Tryz.elem27 (w : World) : (ReflectliteType.method ReflectliteType.elem #[.agg #[.pointer (some ⟨9, 146, none⟩)]]).run Tryz.prog w = .ok (.iface 200 (.agg #[.pointer (some ⟨9, 145, none⟩)])) w := by kernel_rfl
theorem Tryz.implements25 (w : World) : (ReflectliteType.relation "Implements" ReflectliteType.implements_ #[.agg #[.pointer (some ⟨9, 145, none⟩)], .iface 200 (.agg #[.pointer (some ⟨9, 63, none⟩)])]).run Tryz.prog w = .ok (.bool true) w := by kernel_rfl
theorem Tryz.typeOf25 (v : Value) (w : World) : (ReflectliteType.typeOf #[.iface 145 v]).run Tryz.prog w = .ok (.iface 200 (.agg #[.pointer (some ⟨9, 145, none⟩)])) w := by kernel_rfl
theorem Tryz.assignable25 (w : World) : (ReflectliteType.relation "AssignableTo" ReflectliteType.assignableTo #[.agg #[.pointer (some ⟨9, 145, none⟩)], .iface 200 (.agg #[.pointer (some ⟨9, 145, none⟩)])]).run Tryz.prog w = .ok (.bool true) w := by kernel_rfl
theorem Tryz.elemOf27 (w : World) : (Rtype.elem? 146).run Tryz.prog w = .ok (some 145) w := by kernel_rfl
theorem Tryz.mk25 (p : Addr) (w : World) : (ReflectliteValue.mk 145 p ReflectliteValue.flagAddr).run Tryz.prog w = .ok (.agg #[.pointer (some ⟨9, 145, none⟩), .pointer (some p), .int .u64 409]) w := by kernel_rfl
theorem Tryz.elemV27 (a p : Addr) (W : World) (ha : W.cell? a = some (.pointer (some p))) :
    (ReflectliteValue.method (ReflectliteValue.valueError "reflectlite.Value.Elem" 0) ReflectliteValue.elem #[.agg #[.pointer (some ⟨9, 146, none⟩), .pointer (some a), .int .u64 150]]).run Tryz.prog W
      = .ok (.agg #[.pointer (some ⟨9, 145, none⟩), .pointer (some p), .int .u64 409]) W := by
  rw [rlm]
  simp only [Sem.run_bind, Tryz.parts27, Result.andThen]
  simp [ReflectliteValue.elem, loadVar, isAgg, underlying, Tryz.underlying146, ha, Result.andThen, Tryz.elemOf27, Tryz.mk25]
theorem rls (v x : Value) : ReflectliteValue.set #[v, x] = (do
    let (some (dst, a, fl), some (src, b, _)) := (← ReflectliteValue.parts v, ← ReflectliteValue.parts x)
      | unsupported (.noEntry "extern/(internal/reflectlite.Value).Set.zeroValue")
    if fl / ReflectliteValue.flagAddr % 2 == 0 then unsupported (.noEntry "extern/(internal/reflectlite.Value).Set.unaddressable")
    let val ← loadVar src b
    if ← Rtype.directlyAssignable dst src then storeVar dst a val
    else if ← Rtype.implements dst src then
      if (← Rtype.kind src) == 20 then
        match val with
        | .nilIface => unsupported (.noEntry "extern/reflectlite: a nil value of one interface type handed on as a value of another")
        | _ => storeVar dst a val
      else storeVar dst a (.iface src val)
    else panicString ("reflectlite.Set: value of type " ++ (← Rtype.spelt src) ++ " is not assignable to type " ++ (← Rtype.spelt dst))
    pure (.tuple #[])) := rfl
theorem Tryz.parts25a (a : Addr) (w : World) : (ReflectliteValue.parts (.agg #[.pointer (some ⟨9, 145, none⟩), .pointer (some a), .int .u64 409])).run Tryz.prog w = .ok (some (145, a, 409)) w := by kernel_rfl
theorem Tryz.parts25 (a : Addr) (w : World) : (ReflectliteValue.parts (.agg #[.pointer (some ⟨9, 145, none⟩), .pointer (some a), .int .u64 153])).run Tryz.prog w = .ok (some (145, a, 153)) w := by kernel_rfl
theorem Tryz.direct25 (w : World) : (Rtype.directlyAssignable 145 145).run Tryz.prog w = .ok true w := by kernel_rfl
theorem Tryz.set25 (ta b : Addr) (e old : Value) (h1 : e.oneCell' = true) (W : World) (hb : W.cell? b = some e) (ht : W.cell? ta = some old) (hf : W.frozen? ta = false) :
    (ReflectliteValue.set #[.agg #[.pointer (some ⟨9, 145, none⟩), .pointer (some ta), .int .u64 409], .agg #[.pointer (some ⟨9, 145, none⟩), .pointer (some b), .int .u64 153]]).run Tryz.prog W
      = .ok (.tuple #[]) (W.setCell ta e) := by
  rw [rls]
  simp only [Sem.run_bind, Tryz.parts25a, Tryz.parts25, Result.andThen]
  simp [ReflectliteValue.flagAddr, loadVar, Tryz.isAgg145, loadCells, loadCellsFrom, hb, Result.andThen, Tryz.direct25, storeVar, Value.cells, storeCells, Addr.add]
  rw [run_store Tryz.prog W ta _ _ h1]
  simp [ht, hf]
theorem valueOf51g (v : Value) (w : World) : (ReflectliteValue.unpack (.iface 145 v)).run Tryz.prog w
    = .ok (.agg #[.pointer (some ⟨9, 145, none⟩), .pointer (some ⟨w.heap.size, 0, none⟩), .int .u64 153]) (w.alloc (.cells v.cells 145)) := by kernel_rfl
theorem valueOf51 (v n : Value) (hv : v.cells = #[n]) (w : World) : (ReflectliteValue.unpack (.iface 145 v)).run Tryz.prog w
    = .ok (.agg #[.pointer (some ⟨9, 145, none⟩), .pointer (some ⟨w.heap.size, 0, none⟩), .int .u64 153]) (w.alloc (.cells #[n] 145)) := by rw [valueOf51g, hv]
set_option maxHeartbeats 8000000 in
set_option maxRecDepth 100000 in
theorem as_hit (v n : Value) (hv : v.cells = #[n]) (h1 : n.oneCell' = true) (t : Addr) (old : Value) (w : World) (hg : w.cell? ⟨0, 0, none⟩ = some (.iface 200 (.agg #[.pointer (some ⟨9, 63, none⟩)]))) (ht0 : w.cell? t = some old) (hf0 : w.frozen? t = false) :
    Calls Tryz.prog 95 #[.iface 145 v, .iface 146 (.pointer (some t))] w fun ev w' => ev = .returned (.bool true) ∧ w' = ((((w.alloc (.cells #[.pointer (some t)] 146)).alloc (.cells #[.pointer (some ⟨9, 146, none⟩), .pointer (some ⟨w.heap.size, 0, none⟩), .int .u64 150] 168)).alloc (.cells #[.pointer (some ⟨9, 146, none⟩), .pointer (some ⟨w.heap.size, 0, none⟩), .int .u64 150] 168)).alloc (.cells #[n] 145)).setCell t n := by
  have h6 := @run_callFunc_extern Tryz.prog 152 _ (fun args => ReflectliteValue.unpack (args.getD 0 (.tuple #[]))) Tryz.func152 (by kernel_rfl) (by kernel_rfl) (by kernel_rfl) (by kernel_rfl)
  have h7 := @run_callFunc_extern Tryz.prog 153 _ (ReflectliteValue.methodAny (ReflectliteValue.valueError "reflectlite.Value.Type" 0) (fun t _ _ _ => ReflectliteType.toType t)) Tryz.func153 (by kernel_rfl) (by kernel_rfl) (by kernel_rfl) (by kernel_rfl)
  have h8 := @run_callFunc_extern Tryz.prog 154 _ (ReflectliteValue.method (ReflectliteValue.valueError "reflectlite.Value.IsNil" 0) ReflectliteValue.isNil) Tryz.func154 (by kernel_rfl) (by kernel_rfl) (by kernel_rfl) (by kernel_rfl)
  have h27 := @run_callFunc_extern Tryz.prog 253 _ (ReflectliteType.abiMethod fun t => do pure (.int .u8 (← Rtype.kind t))) Tryz.func253 (by kernel_rfl) (by kernel_rfl) (by kernel_rfl) (by kernel_rfl)
  have h37 := @run_callFunc_extern Tryz.prog 267 _ (ReflectliteType.method ReflectliteType.elem) Tryz.func267 (by kernel_rfl) (by kernel_rfl) (by kernel_rfl) (by kernel_rfl)
  have h38 := @run_callFunc_extern Tryz.prog 268 _ (ReflectliteType.relation "Implements" ReflectliteType.implements_) Tryz.func268 (by kernel_rfl) (by kernel_rfl) (by kernel_rfl) (by kernel_rfl)
  have h10 := @run_callFunc_extern Tryz.prog 180 _ ReflectliteType.typeOf Tryz.func180 (by kernel_rfl) (by kernel_rfl) (by kernel_rfl) (by kernel_rfl)
  have h35 := @run_callFunc_extern Tryz.prog 265 _ (ReflectliteType.relation "AssignableTo" ReflectliteType.assignableTo) Tryz.func265 (by kernel_rfl) (by kernel_rfl) (by kernel_rfl) (by kernel_rfl)
  have h11 := @run_callFunc_extern Tryz.prog 181 _ (ReflectliteValue.method (ReflectliteValue.valueError "reflectlite.Value.Elem" 0) ReflectliteValue.elem) Tryz.func181 (by kernel_rfl) (by kernel_rfl) (by kernel_rfl) (by kernel_rfl)
  have h12 := @run_callFunc_extern Tryz.prog 182 _ ReflectliteValue.set Tryz.func182 (by kernel_rfl) (by kernel_rfl) (by kernel_rfl) (by kernel_rfl)
  have tO := Tryz.typeOf25
  have mA := Tryz.methodAssignableTo
  have a25 := Tryz.assignable25
  have v25 := valueOf51 v n hv
  have f6 := Tryz.valueOf27
  have f7 := Tryz.type27
  have mK := Tryz.methodKind
  have mE := Tryz.methodElem
  have mI := Tryz.methodImplements
  have k27 := Tryz.kind27
  have k25 := Tryz.kind25
  have e27 := Tryz.elem27
  have i25 := Tryz.implements25
  have n8 := Tryz.isNil27 ⟨w.heap.size, 0, none⟩ t ((w.alloc (.cells #[.pointer (some t)] 146)).alloc (.cells #[.pointer (some ⟨9, 146, none⟩), .pointer (some ⟨w.heap.size, 0, none⟩), .int .u64 150] 168)) (by simp)
  have hlt : 0 < w.heap.size := by
    rcases Nat.eq_zero_or_pos w.heap.size with h0 | h
    · simp [World.cell?, h0] at hg
    · exact h
  have hg2 : ((w.alloc (.cells #[.pointer (some t)] 146)).alloc (.cells #[.pointer (some ⟨9, 146, none⟩), .pointer (some ⟨w.heap.size, 0, none⟩), .int .u64 150] 168)).cell? ⟨0, 0, none⟩ = some (.iface 200 (.agg #[.pointer (some ⟨9, 63, none⟩)])) := by
    rw [World.cell?_alloc_lt _ _ ⟨0, 0, none⟩ (by simp), World.cell?_alloc_lt _ _ ⟨0, 0, none⟩ hlt]; exact hg
  have htl : t.block < w.heap.size := by
    rcases Nat.lt_or_ge t.block w.heap.size with h | h
    · exact h
    · simp [World.cell?, Array.getElem?_eq_none h] at ht0
  have el := Tryz.elemV27 ⟨w.heap.size, 0, none⟩ t (((w.alloc (.cells #[.pointer (some t)] 146)).alloc (.cells #[.pointer (some ⟨9, 146, none⟩), .pointer (some ⟨w.heap.size, 0, none⟩), .int .u64 150] 168)).alloc (.cells #[.pointer (some ⟨9, 146, none⟩), .pointer (some ⟨w.heap.size, 0, none⟩), .int .u64 150] 168)) (by rw [World.cell?_alloc_lt _ _ ⟨w.heap.size, 0, none⟩ (by simp; omega)]; simp)
  have st := Tryz.set25 t ⟨w.heap.size + 1 + 1 + 1, 0, none⟩ n old h1 ((((w.alloc (.cells #[.pointer (some t)] 146)).alloc (.cells #[.pointer (some ⟨9, 146, none⟩), .pointer (some ⟨w.heap.size, 0, none⟩), .int .u64 150] 168)).alloc (.cells #[.pointer (some ⟨9, 146, none⟩), .pointer (some ⟨w.heap.size, 0, none⟩), .int .u64 150] 168)).alloc (.cells #[n] 145))
    (by rw [World.cell?_alloc_at _ _ _ _ (by simp)]; rfl)
    (by rw [World.cell?_alloc_lt _ _ t (by simp; omega), World.cell?_alloc_lt _ _ t (by simp; omega), World.cell?_alloc_lt _ _ t (by simp; omega), World.cell?_alloc_lt _ _ t htl]; exact ht0)
    (by rw [World.frozen?_alloc_old _ _ t (by simp; omega), World.frozen?_alloc_old _ _ t (by simp; omega), World.frozen?_alloc_old _ _ t (by simp; omega), World.frozen?_alloc_old _ _ t (Nat.ne_of_lt htl)]; exact hf0)
  go_enter Tryz.func95, Tryz.ntmps95
  go_wp2
  refine wp_loop_rounds 1 ?_
  rw [rounds_succ]
  go_wp2
  go_ret
  exact ⟨rfl, rfl⟩
end Go.Proofs.AbAsD2


namespace Go.Proofs.AbAsD3
open Go.RowKit Go.Extern.Stop Go.Stop Go.Extern
theorem as_nil (t : Value) (w : World) :
    Calls Tryz.prog 95 #[.nilIface, t] w fun e w' => e = .returned (.bool false) ∧ w' = w := by
  go_enter Tryz.func95, Tryz.ntmps95
  go_wp2
  go_ret
  exact ⟨rfl, rfl⟩
theorem Tryz.valueOf27 (t : Addr) (w : World) : (ReflectliteValue.unpack (.iface 154 (.pointer (some t)))).run Tryz.prog w
    = .ok (.agg #[.pointer (some ⟨9, 154, none⟩), .pointer (some ⟨w.heap.size, 0, none⟩), .int .u64 150]) (w.alloc (.cells #[.pointer (some t)] 154)) := by kernel_rfl
theorem Tryz.type27 (a : Addr) (w : World) : (ReflectliteValue.methodAny (ReflectliteValue.valueError "reflectlite.Value.Type" 0) (fun t _ _ _ => ReflectliteType.toType t) #[.agg #[.pointer (some ⟨9, 154, none⟩), .pointer (some a), .int .u64 150]]).run Tryz.prog w
    = .ok (.iface 200 (.agg #[.pointer (some ⟨9, 154, none⟩)])) w := by kernel_rfl
theorem Tryz.methodKind (h : Value) (w : World) : (Go.method 396 200 (.agg #[h]) "Kind").run Tryz.prog w = .ok (253, h) w := by kernel_rfl
theorem Tryz.kind27 (w : World) : ((ReflectliteType.abiMethod fun t => Functor.map (fun a : Nat => Value.int IntKind.u8 (a : Int)) (Rtype.kind t)) #[.pointer (some ⟨9, 154, none⟩)]).run Tryz.prog w = .ok (.int .u8 22) w := by kernel_rfl
theorem Tryz.kind25 (w : World) : ((ReflectliteType.abiMethod fun t => Functor.map (fun a : Nat => Value.int IntKind.u8 (a : Int)) (Rtype.kind t)) #[.pointer (some ⟨9, 153, none⟩)]).run Tryz.prog w = .ok (.int .u8 25) w := by kernel_rfl
theorem rlm (z : Sem Value) (f : TypeId → Addr → Nat → Nat → Sem Value) (v : Value) :
    ReflectliteValue.method z f #[v] = (do match ← ReflectliteValue.parts v with | none => z | some (t, a, fl) => f t a fl (fl % 32)) := rfl
theorem Tryz.parts27 (a : Addr) (w : World) : (ReflectliteValue.parts (.agg #[.pointer (some ⟨9, 154, none⟩), .pointer (some a), .int .u64 150])).run Tryz.prog w = .ok (some (154, a, 150)) w := by kernel_rfl
theorem Tryz.isNil27 (a p : Addr) (W : World) (ha : W.cell? a = some (.pointer (some p))) :
    (ReflectliteValue.method (ReflectliteValue.valueError "reflectlite.Value.IsNil" 0) ReflectliteValue.isNil #[.agg #[.pointer (some ⟨9, 154, none⟩), .pointer (some a), .int .u64 150]]).run Tryz.prog W = .ok (.bool false) W := by
  rw [rlm]
  simp only [Sem.run_bind, Tryz.parts27, Result.andThen]
  simp [ReflectliteValue.isNil, loadVar, isAgg, underlying, Tryz.underlying154, ha, Result.andThen]
theorem Tryz.methodElem (h : Value) (w : World) : (Go.method 396 200 (.agg #[h]) "Elem").run Tryz.prog w = .ok (267, .agg #[h]) w := by kernel_rfl
theorem Tryz.methodImplements (h : Value) (w : World) : (Go.method 396 200 (.agg #[h]) "Implements").run Tryz.prog w = .ok (268, .agg #[h]) w := by kernel_rfl
theorem Tryz.methodAssignableTo (h : Value) (w : World) : (Go.method 396 200 (.agg #[h]) "AssignableTo").run Tryz.prog w = .ok (265, .agg #[h]) w := by kernel_rfl
theorem Tryz.elem27 (w : World) : (ReflectliteType.method ReflectliteType.elem #[.agg #[.pointer (some ⟨9, 154, none⟩)]]).run Tryz.prog w = .ok (.iface 200 (.agg #[.pointer (some ⟨9, 153, none⟩)])) w := by kernel_rfl
theorem Tryz.implements25 (w : World) : (ReflectliteType.relation "Implements" ReflectliteType.implements_ #[.agg #[.pointer (some ⟨9, 153, none⟩)], .iface 200 (.agg #[.pointer (some ⟨9, 63, none⟩)])]).run Tryz.prog w = .ok (.bool true) w := by kernel_rfl
theorem Tryz.typeOf25 (v : Value) (w : World) : (ReflectliteType.typeOf #[.iface 153 v]).run Tryz.prog w = .ok (.iface 200 (.agg #[.pointer (some ⟨9, 153, none⟩)])) w := by kernel_rfl
theorem Tryz.assignable25 (w : World) : (ReflectliteType.relation "AssignableTo" ReflectliteType.assignableTo #[.agg #[.pointer (some ⟨9, 153, none⟩)], .iface 200 (.agg #[.pointer (some ⟨9, 153, none⟩)])]).run Tryz.prog w = .ok (.bool true) w := by kernel_rfl
theorem Tryz.elemOf27 (w : World) : (Rtype.elem? 154).run Tryz.prog w = .ok (some 153) w := by kernel_rfl
theorem Tryz.mk25 (p : Addr) (w : World) : (ReflectliteValue.mk 153 p ReflectliteValue.flagAddr).run Tryz.prog w = .ok (.agg #[.pointer (some ⟨9, 153, none⟩), .pointer (some p), .int .u64 409]) w := by kernel_rfl
theorem Tryz.elemV27 (a p : Addr) (W : World) (ha : W.cell? a = some (.pointer (some p))) :
    (ReflectliteValue.method (ReflectliteValue.valueError "reflectlite.Value.Elem" 0) ReflectliteValue.elem #[.agg #[.pointer (some ⟨9, 154, none⟩), .pointer (some a), .int .u64 150]]).run Tryz.prog W
      = .ok (.agg #[.pointer (some ⟨9, 153, none⟩), .pointer (some p), .int .u64 409]) W := by
  rw [rlm]
  simp only [Sem.run_bind, Tryz.parts27, Result.andThen]
  simp [ReflectliteValue.elem, loadVar, isAgg, underlying, Tryz.underlying154, ha, Result.andThen, Tryz.elemOf27, Tryz.mk25]
theorem rls (v x : Value) : ReflectliteValue.set #[v, x] = (do
    let (some (dst, a, fl), some (src, b, _)) := (← ReflectliteValue.parts v, ← ReflectliteValue.parts x)
      | unsupported (.noEntry "extern/(internal/reflectlite.Value).Set.zeroValue")
    if fl / ReflectliteValue.flagAddr % 2 == 0 then unsupported (.noEntry "extern/(internal/reflectlite.Value).Set.unaddressable")
    let val ← loadVar src b
    if ← Rtype.directlyAssignable dst src then storeVar dst a val
    else if ← Rtype.implements dst src then
      if (← Rtype.kind src) == 20 then
        match val with
        | .nilIface => unsupported (.noEntry "extern/reflectlite: a nil value of one interface type handed on as a value of another")
        | _ => storeVar dst a val
      else storeVar dst a (.iface src val)
    else panicString ("reflectlite.Set: value of type " ++ (← Rtype.spelt src) ++ " is not assignable to type " ++ (← Rtype.spelt dst))
    pure (.tuple #[])) := rfl
theorem Tryz.parts25a (a : Addr) (w : World) : (ReflectliteValue.parts (.agg #[.pointer (some ⟨9, 153, none⟩), .pointer (some a), .int .u64 409])).run Tryz.prog w = .ok (some (153, a, 409)) w := by kernel_rfl
theorem Tryz.parts25 (a : Addr) (w : World) : (ReflectliteValue.parts (.agg #[.pointer (some ⟨9, 153, none⟩), .pointer (some a), .int .u64 153])).run Tryz.prog w = .ok (some (153, a, 153)) w := by kernel_rfl
theorem Tryz.direct25 (w : World) : (Rtype.directlyAssignable 153 153).run Tryz.prog w = .ok true w := by kernel_rfl
theorem Tryz.set25 (ta b : Addr) (e old : Value) (h1 : e.oneCell' = true) (W : World) (hb : W.cell? b = some e) (ht : W.cell? ta = some old) (hf : W.frozen? ta = false) :
    (ReflectliteValue.set #[.agg #[.pointer (some ⟨9, 153, none⟩), .pointer (some ta), .int .u64 409], .agg #[.pointer (some ⟨9, 153, none⟩), .pointer (some b), .int .u64 153]]).run Tryz.prog W
      = .ok (.tuple #[]) (W.setCell ta e) := by
  rw [rls]
  simp only [Sem.run_bind, Tryz.parts25a, Tryz.parts25, Result.andThen]
  simp [ReflectliteValue.flagAddr, loadVar, Tryz.isAgg153, loadCells, loadCellsFrom, hb, Result.andThen, Tryz.direct25, storeVar, Value.cells, storeCells, Addr.add]
  rw [run_store Tryz.prog W ta _ _ h1]
  simp [ht, hf]
theorem valueOf51g (v : Value) (w : World) : (ReflectliteValue.unpack (.iface 153 v)).run Tryz.prog w
    = .ok (.agg #[.pointer (some ⟨9, 153, none⟩), .pointer (some ⟨w.heap.size, 0, none⟩), .int .u64 153]) (w.alloc (.cells v.cells 153)) := by kernel_rfl
theorem valueOf51 (v n : Value) (hv : v.cells = #[n]) (w : World) : (ReflectliteValue.unpack (.iface 153 v)).run Tryz.prog w
    = .ok (.agg #[.pointer (some ⟨9, 153, none⟩), .pointer (some ⟨w.heap.size, 0, none⟩), .int .u64 153]) (w.alloc (.cells #[n] 153)) := by rw [valueOf51g, hv]
set_option maxHeartbeats 8000000 in
set_option maxRecDepth 100000 in
theorem as_hit (v n : Value) (hv : v.cells = #[n]) (h1 : n.oneCell' = true) (t : Addr) (old : Value) (w : World) (hg : w.cell? ⟨0, 0, none⟩ = some (.iface 200 (.agg #[.pointer (some ⟨9, 63, none⟩)]))) (ht0 : w.cell? t = some old) (hf0 : w.frozen? t = false) :
    Calls Tryz.prog 95 #[.iface 153 v, .iface 154 (.pointer (some t))] w fun ev w' => ev = .returned (.bool true) ∧ w' = ((((w.alloc (.cells #[.pointer (some t)] 154)).alloc (.cells #[.pointer (some ⟨9, 154, none⟩), .pointer (some ⟨w.heap.size, 0, none⟩), .int .u64 150] 168)).alloc (.cells #[.pointer (some ⟨9, 154, none⟩), .pointer (some ⟨w.heap.size, 0, none⟩), .int .u64 150] 168)).alloc (.cells #[n] 153)).setCell t n := by
  have h6 := @run_callFunc_extern Tryz.prog 152 _ (fun args => ReflectliteValue.unpack (args.getD 0 (.tuple #[]))) Tryz.func152 (by kernel_rfl) (by kernel_rfl) (by kernel_rfl) (by kernel_rfl)
  have h7 := @run_callFunc_extern Tryz.prog 153 _ (ReflectliteValue.methodAny (ReflectliteValue.valueError "reflectlite.Value.Type" 0) (fun t _ _ _ => ReflectliteType.toType t)) Tryz.func153 (by kernel_rfl) (by kernel_rfl) (by kernel_rfl) (by kernel_rfl)
  have h8 := @run_callFunc_extern Tryz.prog 154 _ (ReflectliteValue.method (ReflectliteValue.valueError "reflectlite.Value.IsNil" 0) ReflectliteValue.isNil) Tryz.func154 (by kernel_rfl) (by kernel_rfl) (by kernel_rfl) (by kernel_rfl)
  have h27 := @run_callFunc_extern Tryz.prog 253 _ (ReflectliteType.abiMethod fun t => do pure (.int .u8 (← Rtype.kind t))) Tryz.func253 (by kernel_rfl) (by kernel_rfl) (by kernel_rfl) (by kernel_rfl)
  have h37 := @run_callFunc_extern Tryz.prog 267 _ (ReflectliteType.method ReflectliteType.elem) Tryz.func267 (by kernel_rfl) (by kernel_rfl) (by kernel_rfl) (by kernel_rfl)
  have h38 := @run_callFunc_extern Tryz.prog 268 _ (ReflectliteType.relation "Implements" ReflectliteType.implements_) Tryz.func268 (by kernel_rfl) (by kernel_rfl) (by kernel_rfl) (by kernel_rfl)
  have h10 := @run_callFunc_extern Tryz.prog 180 _ ReflectliteType.typeOf Tryz.func180 (by kernel_rfl) (by kernel_rfl) (by kernel_rfl) (by kernel_rfl)
  have h35 := @run_callFunc_extern Tryz.prog 265 _ (ReflectliteType.relation "AssignableTo" ReflectliteType.assignableTo) Tryz.func265 (by kernel_rfl) (by kernel_rfl) (by kernel_rfl) (by kernel_rfl)
  have h11 := @run_callFunc_extern Tryz.prog 181 _ (ReflectliteValue.method (ReflectliteValue.valueError "reflectlite.Value.Elem" 0) ReflectliteValue.elem) Tryz.func181 (by kernel_rfl) (by kernel_rfl) (by kernel_rfl) (by kernel_rfl)
  have h12 := @run_callFunc_extern Tryz.prog 182 _ ReflectliteValue.set Tryz.func182 (by kernel_rfl) (by kernel_rfl) (by kernel_rfl) (by kernel_rfl)
  have tO := Tryz.typeOf25
  have mA := Tryz.methodAssignableTo
  have a25 := Tryz.assignable25
  have v25 := valueOf51 v n hv
  have f6 := Tryz.valueOf27
  have f7 := Tryz.type27
  have mK := Tryz.methodKind
  have mE := Tryz.methodElem
  have mI := Tryz.methodImplements
  have k27 := Tryz.kind27
  have k25 := Tryz.kind25
  have e27 := Tryz.elem27
  have i25 := Tryz.implements25
  have n8 := Tryz.isNil27 ⟨w.heap.size, 0, none⟩ t ((w.alloc (.cells #[.pointer (some t)] 154)).alloc (.cells #[.pointer (some ⟨9, 154, none⟩), .pointer (some ⟨w.heap.size, 0, none⟩), .int .u64 150] 168)) (by simp)
  have hlt : 0 < w.heap.size := by
    rcases Nat.eq_zero_or_pos w.heap.size with h0 | h
    · simp [World.cell?, h0] at hg
    · exact h
  have hg2 : ((w.alloc (.cells #[.pointer (some t)] 154)).alloc (.cells #[.pointer (some ⟨9, 154, none⟩), .pointer (some ⟨w.heap.size, 0, none⟩), .int .u64 150] 168)).cell? ⟨0, 0, none⟩ = some (.iface 200 (.agg #[.pointer (some ⟨9, 63, none⟩)])) := by
    rw [World.cell?_alloc_lt _ _ ⟨0, 0, none⟩ (by simp), World.cell?_alloc_lt _ _ ⟨0, 0, none⟩ hlt]; exact hg
  have htl : t.block < w.heap.size := by
    rcases Nat.lt_or_ge t.block w.heap.size with h | h
    · exact h
    · simp [World.cell?, Array.getElem?_eq_none h] at ht0
  have el := Tryz.elemV27 ⟨w.heap.size, 0, none⟩ t (((w.alloc (.cells #[.pointer (some t)] 154)).alloc (.cells #[.pointer (some ⟨9, 154, none⟩), .pointer (some ⟨w.heap.size, 0, none⟩), .int .u64 150] 168)).alloc (.cells #[.pointer (some ⟨9, 154, none⟩), .pointer (some ⟨w.heap.size, 0, none⟩), .int .u64 150] 168)) (by rw [World.cell?_alloc_lt _ _ ⟨w.heap.size, 0, none⟩ (by simp; omega)]; simp)
  have st := Tryz.set25 t ⟨w.heap.size + 1 + 1 + 1, 0, none⟩ n old h1 ((((w.alloc (.cells #[.pointer (some t)] 154)).alloc (.cells #[.pointer (some ⟨9, 154, none⟩), .pointer (some ⟨w.heap.size, 0, none⟩), .int .u64 150] 168)).alloc (.cells #[.pointer (some ⟨9, 154, none⟩), .pointer (some ⟨w.heap.size, 0, none⟩), .int .u64 150] 168)).alloc (.cells #[n] 153))
    (by rw [World.cell?_alloc_at _ _ _ _ (by simp)]; rfl)
    (by rw [World.cell?_alloc_lt _ _ t (by simp; omega), World.cell?_alloc_lt _ _ t (by simp; omega), World.cell?_alloc_lt _ _ t (by simp; omega), World.cell?_alloc_lt _ _ t htl]; exact ht0)
    (by rw [World.frozen?_alloc_old _ _ t (by simp; omega), World.frozen?_alloc_old _ _ t (by simp; omega), World.frozen?_alloc_old _ _ t (by simp; omega), World.frozen?_alloc_old _ _ t (Nat.ne_of_lt htl)]; exact hf0)
  go_enter Tryz.func95, Tryz.ntmps95
  go_wp2
  refine wp_loop_rounds 1 ?_
  rw [rounds_succ]
  go_wp2
  go_ret
  exact ⟨rfl, rfl⟩
end Go.Proofs.AbAsD3


namespace Go.Proofs.AbAsD4
open Go.RowKit Go.Extern.Stop Go.Stop Go.Extern
theorem as_nil (t : Value) (w : World) :
    Calls Tryz.prog 95 #[.nilIface, t] w fun e w' => e = .returned (.bool false) ∧ w' = w := by
  go_enter Tryz.func95, Tryz.ntmps95
  go_wp2
  go_ret
  exact ⟨rfl, rfl⟩
theorem Tryz.valueOf27 (t : Addr) (w : World) : (ReflectliteValue.unpack (.iface 182 (.pointer (some t)))).run Tryz.prog w
    = .ok (.agg #[.pointer (some ⟨9, 182, none⟩), .pointer (some ⟨w.heap.size, 0, none⟩), .int .u64 150]) (w.alloc (.cells #[.pointer (some t)] 182)) := by kernel_rfl
theorem Tryz.type27 (a : Addr) (w : World) : (ReflectliteValue.methodAny (ReflectliteValue.valueError "reflectlite.Value.Type" 0) (fun t _ _ _ => ReflectliteType.toType t) #[.agg #[.pointer (some ⟨9, 182, none⟩), .pointer (some a), .int .u64 150]]).run Tryz.prog w
    = .ok (.iface 200 (.agg #[.pointer (some ⟨9, 182, none⟩)])) w := by kernel_rfl
theorem Tryz.methodKind (h : Value) (w : World) : (Go.method 396 200 (.agg #[h]) "Kind").run Tryz.prog w = .ok (253, h) w := by kernel_rfl
theorem Tryz.kind27 (w : World) : ((ReflectliteType.abiMethod fun t => Functor.map (fun a : Nat => Value.int IntKind.u8 (a : Int)) (Rtype.kind t)) #[.pointer (some ⟨9, 182, none⟩)]).run Tryz.prog w = .ok (.int .u8 22) w := by kernel_rfl
theorem Tryz.kind25 (w : World) : ((ReflectliteType.abiMethod fun t => Functor.map (fun a : Nat => Value.int IntKind.u8 (a : Int)) (Rtype.kind t)) #[.pointer (some ⟨9, 143, none⟩)]).run Tryz.prog w = .ok (.int .u8 25) w := by kernel_rfl
theorem rlm (z : Sem Value) (f : TypeId → Addr → Nat → Nat → Sem Value) (v : Value) :
    ReflectliteValue.method z f #[v] = (do match ← ReflectliteValue.parts v with | none => z | some (t, a, fl) => f t a fl (fl % 32)) := rfl
theorem Tryz.parts27 (a : Addr) (w : World) : (ReflectliteValue.parts (.agg #[.pointer (some ⟨9, 182, none⟩), .pointer (some a), .int .u64 150])).run Tryz.prog w = .ok (some (182, a, 150)) w := by kernel_rfl
theorem Tryz.isNil27 (a p : Addr) (W : World) (ha : W.cell? a = some (.pointer (some p))) :
    (ReflectliteValue.method (ReflectliteValue.valueError "reflectlite.Value.IsNil" 0) ReflectliteValue.isNil #[.agg #[.pointer (some ⟨9, 182, none⟩), .pointer (some a), .int .u64 150]]).run Tryz.prog W = .ok (.bool false) W := by
  rw [rlm]
  simp only [Sem.run_bind, Tryz.parts27, Result.andThen]
  simp [ReflectliteValue.isNil, loadVar, isAgg, underlying, Tryz.underlying182, ha, Result.andThen]
theorem Tryz.methodElem (h : Value) (w : World) : (Go.method 396 200 (.agg #[h]) "Elem").run Tryz.prog w = .ok (267, .agg #[h]) w := by kernel_rfl
theorem Tryz.methodImplements (h : Value) (w : World) : (Go.method 396 200 (.agg #[h]) "Implements").run Tryz.prog w = .ok (268, .agg #[h]) w := by kernel_rfl
theorem Tryz.methodAssignableTo (h : Value) (w : World) : (Go.method 396 200 (.agg #[h]) "AssignableTo").run Tryz.prog w = .ok (265, .agg #[h]) w := by kernel_rfl
theorem Tryz.elem27 (w : World) : (ReflectliteType.method ReflectliteType.elem #[.agg #[.pointer (some ⟨9, 182, none⟩)]]).run Tryz.prog w = .ok (.iface 200 (.agg #[.pointer (some ⟨9, 143, none⟩)])) w := by kernel_rfl
theorem Tryz.implements25 (w : World) : (ReflectliteType.relation "Implements" ReflectliteType.implements_ #[.agg #[.pointer (some ⟨9, 143, none⟩)], .iface 200 (.agg #[.pointer (some ⟨9, 63, none⟩)])]).run Tryz.prog w = .ok (.bool true) w := by kernel_rfl
theorem Tryz.typeOf25 (v : Value) (w : World) : (ReflectliteType.typeOf #[.iface 143 v]).run Tryz.prog w = .ok (.iface 200 (.agg #[.pointer (some ⟨9, 143, none⟩)])) w := by kernel_rfl
theorem Tryz.assignable25 (w : World) : (ReflectliteType.relation "AssignableTo" ReflectliteType.assignableTo #[.agg #[.pointer (some ⟨9, 143, none⟩)], .iface 200 (.agg #[.pointer (some ⟨9, 143, none⟩)])]).run Tryz.prog w = .ok (.bool true) w := by kernel_rfl
theorem Tryz.elemOf27 (w : World) : (Rtype.elem? 182).run Tryz.prog w = .ok (some 143) w := by kernel_rfl
theorem Tryz.mk25 (p : Addr) (w : World) : (ReflectliteValue.mk 143 p ReflectliteValue.flagAddr).run Tryz.prog w = .ok (.agg #[.pointer (some ⟨9, 143, none⟩), .pointer (some p), .int .u64 409]) w := by kernel_rfl
theorem Tryz.elemV27 (a p : Addr) (W : World) (ha : W.cell? a = some (.pointer (some p))) :
    (ReflectliteValue.method (ReflectliteValue.valueError "reflectlite.Value.Elem" 0) ReflectliteValue.elem #[.agg #[.pointer (some ⟨9, 182, none⟩), .pointer (some a), .int .u64 150]]).run Tryz.prog W
      = .ok (.agg #[.pointer (some ⟨9, 143, none⟩), .pointer (some p), .int .u64 409]) W := by
  rw [rlm]
  simp only [Sem.run_bind, Tryz.parts27, Result.andThen]
  simp [ReflectliteValue.elem, loadVar, isAgg, underlying, Tryz.underlying182, ha, Result.andThen, Tryz.elemOf27, Tryz.mk25]
theorem rls (v x : Value) : ReflectliteValue.set #[v, x] = (do
    let (some (dst, a, fl), some (src, b, _)) := (← ReflectliteValue.parts v, ← ReflectliteValue.parts x)
      | unsupported (.noEntry "extern/(internal/reflectlite.Value).Set.zeroValue")
    if fl / ReflectliteValue.flagAddr % 2 == 0 then unsupported (.noEntry "extern/(internal/reflectlite.Value).Set.unaddressable")
    let val ← loadVar src b
    if ← Rtype.directlyAssignable dst src then storeVar dst a val
    else if ← Rtype.implements dst src then
      if (← Rtype.kind src) == 20 then
        match val with
        | .nilIface => unsupported (.noEntry "extern/reflectlite: a nil value of one interface type handed on as a value of another")
        | _ => storeVar dst a val
      else storeVar dst a (.iface src val)
    else panicString ("reflectlite.Set: value of type " ++ (← Rtype.spelt src) ++ " is not assignable to type " ++ (← Rtype.spelt dst))
    pure (.tuple #[])) := rfl
theorem Tryz.parts25a (a : Addr) (w : World) : (ReflectliteValue.parts (.agg #[.pointer (some ⟨9, 143, none⟩), .pointer (some a), .int .u64 409])).run Tryz.prog w = .ok (some (143, a, 409)) w := by kernel_rfl
theorem Tryz.parts25 (a : Addr) (w : World) : (ReflectliteValue.parts (.agg #[.pointer (some ⟨9, 143, none⟩), .pointer (some a), .int .u64 153])).run Tryz.prog w = .ok (some (143, a, 153)) w := by kernel_rfl
theorem Tryz.direct25 (w : World) : (Rtype.directlyAssignable 143 143).run Tryz.prog w = .ok true w := by kernel_rfl
theorem Tryz.set25 (ta b : Addr) (e old : Value) (h1 : e.oneCell' = true) (W : World) (hb : W.cell? b = some e) (ht : W.cell? ta = some old) (hf : W.frozen? ta = false) :
    (ReflectliteValue.set #[.agg #[.pointer (some ⟨9, 143, none⟩), .pointer (some ta), .int .u64 409], .agg #[.pointer (some ⟨9, 143, none⟩), .pointer (some b), .int .u64 153]]).run Tryz.prog W
      = .ok (.tuple #[]) (W.setCell ta e) := by
  rw [rls]
  simp only [Sem.run_bind, Tryz.parts25a, Tryz.parts25, Result.andThen]
  simp [ReflectliteValue.flagAddr, loadVar, Tryz.isAgg143, loadCells, loadCellsFrom, hb, Result.andThen, Tryz.direct25, storeVar, Value.cells, storeCells, Addr.add]
  rw [run_store Tryz.prog W ta _ _ h1]
  simp [ht, hf]
theorem valueOf51g (v : Value) (w : World) : (ReflectliteValue.unpack (.iface 143 v)).run Tryz.prog w
    = .ok (.agg #[.pointer (some ⟨9, 143, none⟩), .pointer (some ⟨w.heap.size, 0, none⟩), .int .u64 153]) (w.alloc (.cells v.cells 143)) := by kernel_rfl
theorem valueOf51 (v n : Value) (hv : v.cells = #[n]) (w : World) : (ReflectliteValue.unpack (.iface 143 v)).run Tryz.prog w
    = .ok (.agg #[.pointer (some ⟨9, 143, none⟩), .pointer (some ⟨w.heap.size, 0, none⟩), .int .u64 153]) (w.alloc (.cells #[n] 143)) := by rw [valueOf51g, hv]
set_option maxHeartbeats 8000000 in
set_option maxRecDepth 100000 in
theorem as_hit (v n : Value) (hv : v.cells = #[n]) (h1 : n.oneCell' = true) (t : Addr) (old : Value) (w : World) (hg : w.cell? ⟨0, 0, none⟩ = some (.iface 200 (.agg #[.pointer (some ⟨9, 63, none⟩)]))) (ht0 : w.cell? t = some old) (hf0 : w.frozen? t = false) :
    Calls Tryz.prog 95 #[.iface 143 v, .iface 182 (.pointer (some t))] w fun ev w' => ev = .returned (.bool true) ∧ w' = ((((w.alloc (.cells #[.pointer (some t)] 182)).alloc (.cells #[.pointer (some ⟨9, 182, none⟩), .pointer (some ⟨w.heap.size, 0, none⟩), .int .u64 150] 168)).alloc (.cells #[.pointer (some ⟨9, 182, none⟩), .pointer (some ⟨w.heap.size, 0, none⟩), .int .u64 150] 168)).alloc (.cells #[n] 143)).setCell t n := by
  have h6 := @run_callFunc_extern Tryz.prog 152 _ (fun args => ReflectliteValue.unpack (args.getD 0 (.tuple #[]))) Tryz.func152 (by kernel_rfl) (by kernel_rfl) (by kernel_rfl) (by kernel_rfl)
  have h7 := @run_callFunc_extern Tryz.prog 153 _ (ReflectliteValue.methodAny (ReflectliteValue.valueError "reflectlite.Value.Type" 0) (fun t _ _ _ => ReflectliteType.toType t)) Tryz.func153 (by kernel_rfl) (by kernel_rfl) (by kernel_rfl) (by kernel_rfl)
  have h8 := @run_callFunc_extern Tryz.prog 154 _ (ReflectliteValue.method (ReflectliteValue.valueError "reflectlite.Value.IsNil" 0) ReflectliteValue.isNil) Tryz.func154 (by kernel_rfl) (by kernel_rfl) (by kernel_rfl) (by kernel_rfl)
  have h27 := @run_callFunc_extern Tryz.prog 253 _ (ReflectliteType.abiMethod fun t => do pure (.int .u8 (← Rtype.kind t))) Tryz.func253 (by kernel_rfl) (by kernel_rfl) (by kernel_rfl) (by kernel_rfl)
  have h37 := @run_callFunc_extern Tryz.prog 267 _ (ReflectliteType.method ReflectliteType.elem) Tryz.func267 (by kernel_rfl) (by kernel_rfl) (by kernel_rfl) (by kernel_rfl)
  have h38 := @run_callFunc_extern Tryz.prog 268 _ (ReflectliteType.relation "Implements" ReflectliteType.implements_) Tryz.func268 (by kernel_rfl) (by kernel_rfl) (by kernel_rfl) (by kernel_rfl)
  have h10 := @run_callFunc_extern Tryz.prog 180 _ ReflectliteType.typeOf Tryz.func180 (by kernel_rfl) (by kernel_rfl) (by kernel_rfl) (by kernel_rfl)
  have h35 := @run_callFunc_extern Tryz.prog 265 _ (ReflectliteType.relation "AssignableTo" ReflectliteType.assignableTo) Tryz.func265 (by kernel_rfl) (by kernel_rfl) (by kernel_rfl) (by kernel_rfl)
  have h11 := @run_callFunc_extern Tryz.prog 181 _ (ReflectliteValue.method (ReflectliteValue.valueError "reflectlite.Value.Elem" 0) ReflectliteValue.elem) Tryz.func181 (by kernel_rfl) (by kernel_rfl) (by kernel_rfl) (by kernel_rfl)
  have h12 := @run_callFunc_extern Tryz.prog 182 _ ReflectliteValue.set Tryz.func182 (by kernel_rfl) (by kernel_rfl) (by kernel_rfl) (by kernel_rfl)
  have tO := Tryz.typeOf25
  have mA := Tryz.methodAssignableTo
  have a25 := Tryz.assignable25
  have v25 := valueOf51 v n hv
  have f6 := Tryz.valueOf27
  have f7 := Tryz.type27
  have mK := Tryz.methodKind
  have mE := Tryz.methodElem
  have mI := Tryz.methodImplements
  have k27 := Tryz.kind27
  have k25 := Tryz.kind25
  have e27 := Tryz.elem27
  have i25 := Tryz.implements25
  have n8 := Tryz.isNil27 ⟨w.heap.size, 0, none⟩ t ((w.alloc (.cells #[.pointer (some t)] 182)).alloc (.cells #[.pointer (some ⟨9, 182, none⟩), .pointer (some ⟨w.heap.size, 0, none⟩), .int .u64 150] 168)) (by simp)
  have hlt : 0 < w.heap.size := by
    rcases Nat.eq_zero_or_pos w.heap.size with h0 | h
    · simp [World.cell?, h0] at hg
    · exact h
  have hg2 : ((w.alloc (.cells #[.pointer (some t)] 182)).alloc (.cells #[.pointer (some ⟨9, 182, none⟩), .pointer (some ⟨w.heap.size, 0, none⟩), .int .u64 150] 168)).cell? ⟨0, 0, none⟩ = some (.iface 200 (.agg #[.pointer (some ⟨9, 63, none⟩)])) := by
    rw [World.cell?_alloc_lt _ _ ⟨0, 0, none⟩ (by simp), World.cell?_alloc_lt _ _ ⟨0, 0, none⟩ hlt]; exact hg
  have htl : t.block < w.heap.size := by
    rcases Nat.lt_or_ge t.block w.heap.size with h | h
    · exact h
    · simp [World.cell?, Array.getElem?_eq_none h] at ht0
  have el := Tryz.elemV27 ⟨w.heap.size, 0, none⟩ t (((w.alloc (.cells #[.pointer (some t)] 182)).alloc (.cells #[.pointer (some ⟨9, 182, none⟩), .pointer (some ⟨w.heap.size, 0, none⟩), .int .u64 150] 168)).alloc (.cells #[.pointer (some ⟨9, 182, none⟩), .pointer (some ⟨w.heap.size, 0, none⟩), .int .u64 150] 168)) (by rw [World.cell?_alloc_lt _ _ ⟨w.heap.size, 0, none⟩ (by simp; omega)]; simp)
  have st := Tryz.set25 t ⟨w.heap.size + 1 + 1 + 1, 0, none⟩ n old h1 ((((w.alloc (.cells #[.pointer (some t)] 182)).alloc (.cells #[.pointer (some ⟨9, 182, none⟩), .pointer (some ⟨w.heap.size, 0, none⟩), .int .u64 150] 168)).alloc (.cells #[.pointer (some ⟨9, 182, none⟩), .pointer (some ⟨w.heap.size, 0, none⟩), .int .u64 150] 168)).alloc (.cells #[n] 143))
    (by rw [World.cell?_alloc_at _ _ _ _ (by simp)]; rfl)
    (by rw [World.cell?_alloc_lt _ _ t (by simp; omega), World.cell?_alloc_lt _ _ t (by simp; omega), World.cell?_alloc_lt _ _ t (by simp; omega), World.cell?_alloc_lt _ _ t htl]; exact ht0)
    (by rw [World.frozen?_alloc_old _ _ t (by simp; omega), World.frozen?_alloc_old _ _ t (by simp; omega), World.frozen?_alloc_old _ _ t (by simp; omega), World.frozen?_alloc_old _ _ t (Nat.ne_of_lt htl)]; exact hf0)
  go_enter Tryz.func95, Tryz.ntmps95
  go_wp2
  refine wp_loop_rounds 1 ?_
  rw [rounds_succ]
  go_wp2
  go_ret
  exact ⟨rfl, rfl⟩
end Go.Proofs.AbAsD4


namespace Go.Proofs.AbIsD
open Go.RowKit Go.Extern.Stop Go.Stop Go.Extern Go.Proofs
theorem isTypeOf (v : Value) (w : World) : (Extern.ReflectliteType.typeOf #[.iface 265 v]).run Tryz.prog w = .ok (.iface 200 (.agg #[.pointer (some ⟨9, 265, none⟩)])) w := by kernel_rfl
theorem isComparable (w : World) : ((Extern.ReflectliteType.method fun t => do Extern.Rtype.noPackHeld "Comparable" t; (fun a => Value.bool a.comparable) <$> typeInfo t) #[.agg #[.pointer (some ⟨9, 265, none⟩)]]).run Tryz.prog w = .ok (.bool true) w := by kernel_rfl
theorem isMethodComparable (v : Value) (w : World) : (Go.method 396 200 v "Comparable").run Tryz.prog w = .ok (266, v) w := by kernel_rfl
theorem isComp : (Tryz.prog.info? 265).map (·.comparable) = some true := by kernel_rfl
theorem isSize : (Tryz.prog.info? 284).map (·.size) = some 1 := by kernel_rfl
theorem noIs265 (v : Value) (xT : TypeId) (w : World) : (Instr.typeAssert (.iface 265 v) xT 231 true).run Tryz.prog w = .ok (.tuple #[.nilIface, .bool false]) w := run_typeAssert_lacksB Tryz.underlying231 (by kernel_rfl) (by kernel_rfl) v xT w
theorem noUn265 (v : Value) (xT : TypeId) (w : World) : (Instr.typeAssert (.iface 265 v) xT 208 true).run Tryz.prog w = .ok (.tuple #[.nilIface, .bool false]) w := run_typeAssert_lacksB Tryz.underlying208 (by kernel_rfl) (by kernel_rfl) v xT w
theorem noUs265 (v : Value) (xT : TypeId) (w : World) : (Instr.typeAssert (.iface 265 v) xT 210 true).run Tryz.prog w = .ok (.tuple #[.nilIface, .bool false]) w := run_typeAssert_lacksB Tryz.underlying210 (by kernel_rfl) (by kernel_rfl) v xT w
theorem noIs143 (v : Value) (xT : TypeId) (w : World) : (Instr.typeAssert (.iface 143 v) xT 231 true).run Tryz.prog w = .ok (.tuple #[.nilIface, .bool false]) w := run_typeAssert_lacksB Tryz.underlying231 (by kernel_rfl) (by kernel_rfl) v xT w
theorem noUn143 (v : Value) (xT : TypeId) (w : World) : (Instr.typeAssert (.iface 143 v) xT 208 true).run Tryz.prog w = .ok (.tuple #[.nilIface, .bool false]) w := run_typeAssert_lacksB Tryz.underlying208 (by kernel_rfl) (by kernel_rfl) v xT w
theorem noUs143 (v : Value) (xT : TypeId) (w : World) : (Instr.typeAssert (.iface 143 v) xT 210 true).run Tryz.prog w = .ok (.tuple #[.nilIface, .bool false]) w := run_typeAssert_lacksB Tryz.underlying210 (by kernel_rfl) (by kernel_rfl) v xT w
set_option maxHeartbeats 1000000 in
set_option maxRecDepth 100000 in
theorem is_same (a : Addr) (w : World) :
    Calls Tryz.prog 159 #[.iface 265 (.pointer (some a)), .iface 265 (.pointer (some a))] w fun e w' => e = .returned (.bool true) ∧ w' = w := by
  obtain ⟨i, hi, hcmp⟩ := Option.map_eq_some_iff.1 isComp
  obtain ⟨j, hj, hjs⟩ := Option.map_eq_some_iff.1 isSize
  have h8 := @run_callFunc_extern Tryz.prog 180 _ Extern.ReflectliteType.typeOf Tryz.func180 (by kernel_rfl) (by kernel_rfl) (by kernel_rfl) (by kernel_rfl)
  have h32 := @run_callFunc_extern Tryz.prog 266 _ (Extern.ReflectliteType.method fun t => do Extern.Rtype.noPackHeld "Comparable" t; pure (.bool (← typeInfo t).comparable)) Tryz.func266 (by kernel_rfl) (by kernel_rfl) (by kernel_rfl) (by kernel_rfl)
  have tT := isTypeOf
  have cT := isComparable
  have mR := isMethodComparable
  have heq := run_eql_iface_ptr_same (P := Tryz.prog) w a Tryz.underlying63 Tryz.underlying265 hi hcmp hj
  go_enter Tryz.func159, Tryz.ntmps159
  go_wp2
  refine wp_loop_rounds 1 ?_
  rw [rounds_succ]
  go_wp2
  go_ret
  exact ⟨rfl, rfl⟩
set_option maxHeartbeats 1000000 in
set_option maxRecDepth 100000 in
theorem is_nil (b : Addr) (w : World) :
    Calls Tryz.prog 159 #[.nilIface, .iface 265 (.pointer (some b))] w fun e w' => e = .returned (.bool false) ∧ w' = w := by
  have hn := run_eql_iface_nil_left (P := Tryz.prog) w 265 (.pointer (some b)) Tryz.underlying63
  go_enter Tryz.func159, Tryz.ntmps159
  go_wp2
  go_ret
  exact ⟨rfl, rfl⟩
set_option maxHeartbeats 1000000 in
set_option maxRecDepth 100000 in
theorem is_other (a b : Addr) (ca cb : Array Value) (ta tb : TypeId) (w : World) (hne : a ≠ b) (ha : w.heap[a.block]? = some (.cells ca ta (0, 0))) (hb : w.heap[b.block]? = some (.cells cb tb (0, 0))) :
    Calls Tryz.prog 159 #[.iface 265 (.pointer (some a)), .iface 265 (.pointer (some b))] w fun e w' => e = .returned (.bool false) ∧ w' = w := by
  obtain ⟨i, hi, hcmp⟩ := Option.map_eq_some_iff.1 isComp
  obtain ⟨j, hj, hjs⟩ := Option.map_eq_some_iff.1 isSize
  have h8 := @run_callFunc_extern Tryz.prog 180 _ Extern.ReflectliteType.typeOf Tryz.func180 (by kernel_rfl) (by kernel_rfl) (by kernel_rfl) (by kernel_rfl)
  have h32 := @run_callFunc_extern Tryz.prog 266 _ (Extern.ReflectliteType.method fun t => do Extern.Rtype.noPackHeld "Comparable" t; pure (.bool (← typeInfo t).comparable)) Tryz.func266 (by kernel_rfl) (by kernel_rfl) (by kernel_rfl) (by kernel_rfl)
  have tT := isTypeOf
  have cT := isComparable
  have mR := isMethodComparable
  have nE := noIs265
  have uE := noUn265
  have vE := noUs265
  have heq := run_eql_iface_ptr_other (P := Tryz.prog) w Tryz.underlying63 Tryz.underlying265 hi hcmp hj (by rw [hjs]; decide) hne ha hb
  go_enter Tryz.func159, Tryz.ntmps159
  go_wp2
  refine wp_loop_rounds 1 ?_
  rw [rounds_succ]
  go_wp2
  go_ret
  exact ⟨rfl, rfl⟩
set_option maxHeartbeats 1000000 in
set_option maxRecDepth 100000 in
theorem is_type143 (v : Value) (b : Addr) (w : World) :
    Calls Tryz.prog 159 #[.iface 143 v, .iface 265 (.pointer (some b))] w fun e w' => e = .returned (.bool false) ∧ w' = w := by
  have h8 := @run_callFunc_extern Tryz.prog 180 _ Extern.ReflectliteType.typeOf Tryz.func180 (by kernel_rfl) (by kernel_rfl) (by kernel_rfl) (by kernel_rfl)
  have h32 := @run_callFunc_extern Tryz.prog 266 _ (Extern.ReflectliteType.method fun t => do Extern.Rtype.noPackHeld "Comparable" t; pure (.bool (← typeInfo t).comparable)) Tryz.func266 (by kernel_rfl) (by kernel_rfl) (by kernel_rfl) (by kernel_rfl)
  have tT := isTypeOf
  have cT := isComparable
  have mR := isMethodComparable
  have nE := noIs143
  have uE := noUn143
  have vE := noUs143
  have hty := run_eql_iface_types (P := Tryz.prog) 143 265 v (.pointer (some b)) Tryz.underlying63 (by decide) w
  go_enter Tryz.func159, Tryz.ntmps159
  go_wp2
  refine wp_loop_rounds 1 ?_
  rw [rounds_succ]
  go_wp2
  go_ret
  exact ⟨rfl, rfl⟩
end Go.Proofs.AbIsD


namespace Go.Proofs.AbDS
open Go.RowKit Go.Proofs
theorem lies_b : liesAt Tryz.prog Tryz.prog.depth 130 (2 / Tryz.prog.cellsOf 130) 0 130 1 = true := by kernel_rfl
theorem info_b' : (Tryz.prog.info? 130).map (·.size) = some 2 := by kernel_rfl
theorem info_b : ∃ j, Tryz.prog.info? 130 = some j ∧ j.size = 2 := Option.map_eq_some_iff.1 info_b'
theorem cells5 : Tryz.prog.cellsOf 5 = 1 := by kernel_rfl
set_option maxHeartbeats 1000000 in
set_option maxRecDepth 100000 in
theorem check_used (b : Nat) (w : World) (h0 : w.cell? ⟨b, 0, none⟩ = some (.pointer (some ⟨b, 0, none⟩))) :
    Calls Tryz.prog 156 #[.pointer (some ⟨b, 0, none⟩)] w fun e w' => e = .returned (.tuple #[]) ∧ w' = w := by
  obtain ⟨j, hj, _⟩ := info_b
  go_enter Tryz.func156, Tryz.ntmps156
  go_wp2
  rw [Lib.run_neq_ptr_same w _ Tryz.underlying127 hj]
  go_wp2
  go_end0
  exact ⟨rfl, rfl⟩
set_option maxHeartbeats 1000000 in
set_option maxRecDepth 100000 in
theorem check_fresh (b : Nat) (w : World) (h0 : w.cell? ⟨b, 0, none⟩ = some (.pointer none)) (hsh : w.shape? b = some (130, 2)) (hfz : w.frozen? ⟨b, 0, none⟩ = false) :
    Calls Tryz.prog 156 #[.pointer (some ⟨b, 0, none⟩)] w fun e w' => e = .returned (.tuple #[]) ∧ w' = w.setCell ⟨b, 0, none⟩ (.pointer (some ⟨b, 0, none⟩)) := by
  obtain ⟨j, hj, hjs⟩ := info_b
  go_enter Tryz.func156, Tryz.ntmps156
  go_wp2
  rw [Lib.run_to_unsafe w ⟨b, 0, none⟩ Tryz.underlying127 Tryz.underlying165 hj (by rw [hjs]; decide) hsh (Nat.zero_lt_succ 1)]
  simp only [Result.andThen]
  rw [Oper.upon_value]
  go_wp2
  rw [run_callFunc_extern Tryz.func183 (by kernel_rfl) (by kernel_rfl) (by kernel_rfl) (e := Extern.AbiNoEscape.same) (by kernel_rfl)]
  rw [Lib.run_noEscape]
  simp only [Result.andThen]
  rw [Oper.upon_value]
  go_wp2
  rw [Lib.run_from_unsafe w ⟨b, 0, none⟩ Tryz.underlying165 Tryz.underlying127 hj hsh lies_b]
  simp only [Result.andThen]
  rw [Oper.upon_value]
  go_wp2
  go_end0
  exact ⟨rfl, rfl⟩
set_option maxHeartbeats 1000000 in
set_option maxRecDepth 100000 in
theorem string_some (b g cap : Nat) (p : Value) (cur : Array Value) (l : List UInt8) (w : World) (hbk : w.heap[b]? = some (.cells #[p, .slice (some ⟨g, 0, none⟩) l.length cap] 130 (0, 0)))
    (hg : w.heap[g]? = some (.cells cur 5 (0, 0))) (h0 : l ≠ []) (hcap : l.length ≤ cap) (hcs : l.length ≤ cur.size) (h63 : l.length ≤ 9223372036854775807) (hl : ∀ (j : Nat) (x : UInt8), l[j]? = some x → cur[j]? = some (Value.int .u8 (x.toNat : Int))) :
    Calls Tryz.prog 99 #[.pointer (some ⟨b, 0, none⟩)] w fun e w' => e = .returned (.string ⟨l.toArray⟩) ∧ w' = w.drew.freeze ⟨g, 0, none⟩ l.length := by
  have hl0 : l.length ≠ 0 := by simpa using h0
  have c1 : w.drew.cell? ⟨b, 1, none⟩ = some (.slice (some ⟨g, 0, none⟩) l.length cap) := by
    have : w.drew.heap[b]? = some (.cells #[p, .slice (some ⟨g, 0, none⟩) l.length cap] 130 (0, 0)) := hbk
    rw [Lib.cell_of_heap this]; rfl
  have hSD : (Builtin.unsafeSliceData_ #[128] 179 #[.slice (some ⟨g, 0, none⟩) l.length cap]).run Tryz.prog w.drew = .ok (.pointer (some ⟨g, 0, none⟩)) w.drew :=
    Lib.run_unsafeSliceData_row _ _ _ _ _ _ (by omega)
  have hUS : (Builtin.unsafeString_ #[179, 3] 9 #[.pointer (some ⟨g, 0, none⟩), .int .i64 l.length]).run Tryz.prog w.drew = .ok (.string ⟨l.toArray⟩) (w.drew.freeze ⟨g, 0, none⟩ l.length) := by
    refine Lib.run_unsafeString_row w.drew 179 3 9 5 Tryz.underlying179 cells5 g cur.size (by have hg' : w.drew.heap[g]? = some (.cells cur 5 (0, 0)) := hg; simp [World.shape?, hg']) l h0 hcs h63 ?_
    intro j x hx
    have hg' : w.drew.heap[g]? = some (.cells cur 5 (0, 0)) := hg
    have e : ((⟨g, 0, none⟩ : Addr).add j) = ⟨g, j, none⟩ := by cases j <;> simp [Addr.add]
    rw [e, Lib.cell_of_heap hg']
    exact hl j x hx
  have mixed : Tryz.prog.follows .mixedOrders = true := by kernel_rfl
  go_enter Tryz.func99, Tryz.ntmps99
  go_wp2
  go_region_o
  all_goals (go_wp2; go_ret; exact ⟨rfl, rfl⟩)
set_option maxHeartbeats 1000000 in
set_option maxRecDepth 100000 in
theorem string_nil (b : Nat) (p : Value) (w : World) (hbk : w.heap[b]? = some (.cells #[p, .slice none 0 0] 130 (0, 0))) :
    Calls Tryz.prog 99 #[.pointer (some ⟨b, 0, none⟩)] w fun e w' => e = .returned (.string ⟨#[]⟩) ∧ w' = w.drew := by
  have hUS : ∀ W q, (Builtin.unsafeString_ #[179, 3] 9 #[.pointer q, .int .i64 0]).run Tryz.prog W = .ok (.string .empty) W := fun W q => Lib.run_unsafeString_none W _ _ _ q
  have c1 : w.drew.cell? ⟨b, 1, none⟩ = some (.slice none 0 0) := by
    have : w.drew.heap[b]? = some (.cells #[p, .slice none 0 0] 130 (0, 0)) := hbk
    rw [Lib.cell_of_heap this]; rfl
  have hSD : (Builtin.unsafeSliceData_ #[128] 179 #[.slice none 0 0]).run Tryz.prog w.drew = .ok (.pointer none) w.drew := rfl
  have mixed : Tryz.prog.follows .mixedOrders = true := by kernel_rfl
  go_enter Tryz.func99, Tryz.ntmps99
  go_wp2
  go_region_o
  all_goals (go_wp2; go_ret; exact ⟨rfl, rfl⟩)
end Go.Proofs.AbDS


namespace Go.Proofs
open Go.Shelf Go.RowKit Go.Sort Go.Lib
def Tryz.lays154_ren : Go.Shelf.Ren := ⟨fun | 154 => 157 | 138 => 184 | 165 => 185 | 143 => 186 | 166 => 96 | 197 => 187 | 169 => 99 | 195 => 193 | 218 => 194 | 240 => 156 | 241 => 195 | 219 => 196 | 260 => 197 | 276 => 183 | 277 => 206 | 217 => 207 | 225 => 208 | 224 => 209 | 267 => 210 | 266 => 220 | 314 => 221 | n => n, fun | 9 => 9 | 3 => 3 | 4 => 4 | 72 => 130 | 0 => 0 | 76 => 92 | 105 => 216 | 21 => 21 | 5 => 5 | 70 => 127 | 20 => 20 | 37 => 128 | 75 => 63 | 127 => 179 | 164 => 165 | 46 => 194 | 119 => 240 | 139 => 243 | 138 => 242 | 146 => 252 | 51 => 108 | 80 => 134 | n => n, fun | 1 => 3 | 3 => 4 | 4 => 5 | n => n⟩
theorem Tryz.lays154 : Go.Proofs.Lays.n154 Tryz.prog Tryz.lays154_ren := {
  mixed := by kernel_rfl
  f138 := Tryz.func184.trans (congrArg some (by kernel_rfl))
  f143 := Tryz.func186.trans (congrArg some (by kernel_rfl))
  f154 := Tryz.func157.trans (congrArg some (by kernel_rfl))
  f165 := Tryz.func185.trans (congrArg some (by kernel_rfl))
  f166 := Tryz.func96.trans (congrArg some (by kernel_rfl))
  f169 := Tryz.func99.trans (congrArg some (by kernel_rfl))
  f195 := Tryz.func193.trans (congrArg some (by kernel_rfl))
  f197 := Tryz.func187.trans (congrArg some (by kernel_rfl))
  f217 := Tryz.func207.trans (congrArg some (by kernel_rfl))
  f218 := Tryz.func194.trans (congrArg some (by kernel_rfl))
  f219 := Tryz.func196.trans (congrArg some (by kernel_rfl))
  f224 := Tryz.func209.trans (congrArg some (by kernel_rfl))
  f225 := Tryz.func208.trans (congrArg some (by kernel_rfl))
  f240 := Tryz.func156.trans (congrArg some (by kernel_rfl))
  f241 := Tryz.func195.trans (congrArg some (by kernel_rfl))
  f260 := Tryz.func197.trans (congrArg some (by kernel_rfl))
  f266 := Tryz.func220.trans (congrArg some (by kernel_rfl))
  f267 := Tryz.func210.trans (congrArg some (by kernel_rfl))
  f276 := Tryz.func183.trans (congrArg some (by kernel_rfl))
  f277 := Tryz.func206.trans (congrArg some (by kernel_rfl))
  f314 := Tryz.func221.trans (congrArg some (by kernel_rfl))
  t0 := Tryz.underlying0
  a0 := Tryz.isAgg0
  z0 := Tryz.sizeOf0
  v0 := Tryz.zeroValue0
  t3 := Tryz.underlying3
  a3 := Tryz.isAgg3
  z3 := Tryz.sizeOf3
  v3 := Tryz.zeroValue3
  t4 := Tryz.underlying4
  a4 := Tryz.isAgg4
  z4 := Tryz.sizeOf4
  v4 := Tryz.zeroValue4
  t5 := Tryz.underlying5
  a5 := Tryz.isAgg5
  z5 := Tryz.sizeOf5
  v5 := Tryz.zeroValue5
  t9 := Tryz.underlying9
  a9 := Tryz.isAgg9
  z9 := Tryz.sizeOf9
  v9 := Tryz.zeroValue9
  t20 := Tryz.underlying20
  a20 := Tryz.isAgg20
  z20 := Tryz.sizeOf20
  v20 := Tryz.zeroValue20
  t21 := Tryz.underlying21
  a21 := Tryz.isAgg21
  z21 := Tryz.sizeOf21
  v21 := Tryz.zeroValue21
  t37 := Tryz.underlying128
  a37 := Tryz.isAgg128
  z37 := Tryz.sizeOf128
  v37 := Tryz.zeroValue128
  t46 := Tryz.underlying194
  a46 := Tryz.isAgg194
  z46 := Tryz.sizeOf194
  v46 := Tryz.zeroValue194
  t51 := Tryz.underlying108
  a51 := Tryz.isAgg108
  z51 := Tryz.sizeOf108
  v51 := Tryz.zeroValue108
  t70 := Tryz.underlying127
  a70 := Tryz.isAgg127
  z70 := Tryz.sizeOf127
  v70 := Tryz.zeroValue127
  t72 := Tryz.underlying130
  a72 := Tryz.isAgg130
  z72 := Tryz.sizeOf130
  v72 := Tryz.zeroValue130
  t75 := Tryz.underlying63
  a75 := Tryz.isAgg63
  z75 := Tryz.sizeOf63
  v75 := Tryz.zeroValue63
  t76 := Tryz.underlying92
  a76 := Tryz.isAgg92
  z76 := Tryz.sizeOf92
  v76 := Tryz.zeroValue92
  t105 := Tryz.underlying216
  a105 := Tryz.isAgg216
  z105 := Tryz.sizeOf216
  v105 := Tryz.zeroValue216
  t119 := Tryz.underlying240
  a119 := Tryz.isAgg240
  z119 := Tryz.sizeOf240
  t127 := Tryz.underlying179
  a127 := Tryz.isAgg179
  z127 := Tryz.sizeOf179
  v127 := Tryz.zeroValue179
  t138 := Tryz.underlying242
  a138 := Tryz.isAgg242
  z138 := Tryz.sizeOf242
  v138 := Tryz.zeroValue242
  t139 := Tryz.underlying243
  a139 := Tryz.isAgg243
  z139 := Tryz.sizeOf243
  v139 := Tryz.zeroValue243
  t146 := Tryz.underlying252
  a146 := Tryz.isAgg252
  z146 := Tryz.sizeOf252
  v146 := Tryz.zeroValue252
  t164 := Tryz.underlying165
  a164 := Tryz.isAgg165
  z164 := Tryz.sizeOf165
  v164 := Tryz.zeroValue165
  g1 := by kernel_rfl
  g3 := by kernel_rfl
  g4 := by kernel_rfl }
theorem Tryz.extra : Builder.Extra Tryz.prog Tryz.lays154_ren where
  sizeBuilder := by kernel_rfl
  liesBuilder := by kernel_rfl
  t5 := Tryz.lays154.t5
  a5 := Tryz.lays154.a5
  z5 := Tryz.lays154.z5
  v5 := Tryz.lays154.v5
  infoByte := by kernel_rfl
  cellsByte := by kernel_rfl
  sizeByte := by kernel_rfl
  neB5 := by decide
def Tryz.lays173_ren : Go.Shelf.Ren := ⟨fun | 173 => 158 | 246 => 188 | 283 => 198 | 284 => 199 | 285 => 200 | 286 => 201 | 129 => 212 | 317 => 211 | 318 => 213 | 319 => 214 | 320 => 215 | 337 => 222 | 338 => 223 | n => n, fun | 2 => 2 | 3 => 3 | 9 => 9 | 4 => 4 | 171 => 226 | 0 => 0 | 53 => 190 | 37 => 128 | 5 => 5 | 173 => 229 | 212 => 245 | 51 => 108 | 20 => 20 | 213 => 246 | 46 => 194 | 232 => 261 | 233 => 262 | n => n, fun | 17 => 6 | 18 => 7 | 19 => 8 | n => n⟩
theorem Tryz.lays173 : Go.Proofs.LaysM.n173 Tryz.prog Tryz.lays173_ren := {
  mixed := by kernel_rfl
  f129 := Tryz.func212.trans (congrArg some (by kernel_rfl))
  f173 := Tryz.func158.trans (congrArg some (by kernel_rfl))
  f246 := Tryz.func188.trans (congrArg some (by kernel_rfl))
  f283 := Tryz.func198.trans (congrArg some (by kernel_rfl))
  f284 := Tryz.func199.trans (congrArg some (by kernel_rfl))
  f285 := Tryz.func200.trans (congrArg some (by kernel_rfl))
  f286 := Tryz.func201.trans (congrArg some (by kernel_rfl))
  f317 := Tryz.func211.trans (congrArg some (by kernel_rfl))
  f318 := Tryz.func213.trans (congrArg some (by kernel_rfl))
  f319 := Tryz.func214.trans (congrArg some (by kernel_rfl))
  f320 := Tryz.func215.trans (congrArg some (by kernel_rfl))
  f337 := Tryz.func222.trans (congrArg some (by kernel_rfl))
  f338 := Tryz.func223.trans (congrArg some (by kernel_rfl))
  t0 := Tryz.underlying0
  a0 := Tryz.isAgg0
  z0 := Tryz.sizeOf0
  v0 := Tryz.zeroValue0
  t2 := Tryz.underlying2
  a2 := Tryz.isAgg2
  z2 := Tryz.sizeOf2
  v2 := Tryz.zeroValue2
  t3 := Tryz.underlying3
  a3 := Tryz.isAgg3
  z3 := Tryz.sizeOf3
  v3 := Tryz.zeroValue3
  t4 := Tryz.underlying4
  a4 := Tryz.isAgg4
  z4 := Tryz.sizeOf4
  v4 := Tryz.zeroValue4
  t5 := Tryz.underlying5
  a5 := Tryz.isAgg5
  z5 := Tryz.sizeOf5
  v5 := Tryz.zeroValue5
  t9 := Tryz.underlying9
  a9 := Tryz.isAgg9
  z9 := Tryz.sizeOf9
  v9 := Tryz.zeroValue9
  t20 := Tryz.underlying20
  a20 := Tryz.isAgg20
  z20 := Tryz.sizeOf20
  v20 := Tryz.zeroValue20
  t37 := Tryz.underlying128
  a37 := Tryz.isAgg128
  z37 := Tryz.sizeOf128
  v37 := Tryz.zeroValue128
  t46 := Tryz.underlying194
  a46 := Tryz.isAgg194
  z46 := Tryz.sizeOf194
  v46 := Tryz.zeroValue194
  t51 := Tryz.underlying108
  a51 := Tryz.isAgg108
  z51 := Tryz.sizeOf108
  v51 := Tryz.zeroValue108
  t53 := Tryz.underlying190
  a53 := Tryz.isAgg190
  z53 := Tryz.sizeOf190
  v53 := Tryz.zeroValue190
  t171 := Tryz.underlying226
  a171 := Tryz.isAgg226
  z171 := Tryz.sizeOf226
  v171 := Tryz.zeroValue226
  t173 := Tryz.underlying229
  a173 := Tryz.isAgg229
  z173 := Tryz.sizeOf229
  v173 := Tryz.zeroValue229
  t212 := Tryz.underlying245
  a212 := Tryz.isAgg245
  z212 := Tryz.sizeOf245
  v212 := Tryz.zeroValue245
  t213 := Tryz.underlying246
  a213 := Tryz.isAgg246
  z213 := Tryz.sizeOf246
  t232 := Tryz.underlying261
  a232 := Tryz.isAgg261
  z232 := Tryz.sizeOf261
  v232 := Tryz.zeroValue261
  t233 := Tryz.underlying262
  a233 := Tryz.isAgg262
  z233 := Tryz.sizeOf262
  v233 := Tryz.zeroValue262
  g17 := by kernel_rfl
  g18 := by kernel_rfl
  g19 := by kernel_rfl
  i0 := by kernel_rfl
  i2 := by kernel_rfl
  i3 := by kernel_rfl
  i4 := by kernel_rfl
  i5 := by kernel_rfl
  i9 := by kernel_rfl
  i20 := by kernel_rfl
  i37 := by kernel_rfl
  i46 := by kernel_rfl
  i51 := by kernel_rfl
  i53 := by kernel_rfl
  i171 := by kernel_rfl
  i173 := by kernel_rfl
  i212 := by kernel_rfl
  i232 := by kernel_rfl
  i233 := by kernel_rfl
  m17 := by kernel_rfl
  m18 := by kernel_rfl
  m19 := by kernel_rfl }
namespace AbShD
theorem repl_run (s old new : ByteArray) (n m : Int) (w : World) (hs : s.size < 4294967281) (hm : w.cell? ⟨3, 0, none⟩ = some (.int .i64 m)) (h1 : 1 ≤ old.size) (hlen : s.size + Lib.countB s old * new.size ≤ 140737488355328) :
    Calls Tryz.prog 157 #[.string s, .string old, .string new, .int .i64 n] w fun e w' => e = .returned (.string ⟨(Lib.replace s.data.toList old.data.toList new.data.toList n).toArray⟩) ∧ Below w.heap.size w w' :=
  Any.strings_Replace Tryz.lays154 Tryz.extra s old new n m w hs hm h1 hlen
theorem fmt_run (n : Int) (h0 : -9223372036854775808 ≤ n) (h1 : n ≤ 9223372036854775807) (w : World) (ht : Lib.TabIs Tryz.prog w "internal/strconv.uint64pow10" .u64 Lib.pow10Tab) :
    Calls Tryz.prog 158 #[.int .i64 n, .int .i64 10] w fun e w' => e = .returned (.string ⟨(Lib.itoa n).toArray⟩) ∧ ∃ k os, w' = grow (w.drewN k) os :=
  Any.strconv_FormatInt_10 Tryz.lays173 n h0 h1 w ht
end AbShD
end Go.Proofs


namespace Go.Ab.Derive
open Go Go.Ab Go.Proofs
def et0 : Value := .iface 200 (.agg #[.pointer (some ⟨9, 63, none⟩)])
def tabs0 : List (Nat × Array Value) := [(6, (Lib.pow10Tab.map fun z => Value.int .u64 z).toArray)]
noncomputable def cx0 : Cx := cxOf Tryz.prog (by kernel_rfl) [1, 2] 265 et0 tabs0 [3]
theorem enters95 : Enters Tryz.prog 95 := ⟨_, Tryz.func95, by rfl, by rfl⟩
theorem enters159 : Enters Tryz.prog 159 := ⟨_, Tryz.func159, by rfl, by rfl⟩
theorem enters157 : Enters Tryz.prog 157 := ⟨_, Tryz.func157, by rfl, by rfl⟩
theorem enters158 : Enters Tryz.prog 158 := ⟨_, Tryz.func158, by rfl, by rfl⟩
theorem enters156 : Enters Tryz.prog 156 := ⟨_, Tryz.func156, by rfl, by rfl⟩
theorem enters99 : Enters Tryz.prog 99 := ⟨_, Tryz.func99, by rfl, by rfl⟩
theorem as_ok : AsOK Tryz.prog 95 et0 ps0 where
  enters := enters95
  none v w := Go.Proofs.AbAsD1.as_nil v w
  hit p t h v n hv h1 a old w hg h0 hf := by
    simp only [ps0, List.lookup] at h
    split at h
    · rename_i hp
      obtain rfl : p = 126 := by simpa using hp
      cases h
      refine (Go.Proofs.AbAsD1.as_hit v n hv h1 a old w hg h0 hf).mono ?_
      rintro ev w' ⟨rfl, rfl⟩
      exact ⟨rfl, _, _, _, _, rfl⟩
    split at h
    · rename_i hp
      obtain rfl : p = 146 := by simpa using hp
      cases h
      refine (Go.Proofs.AbAsD2.as_hit v n hv h1 a old w hg h0 hf).mono ?_
      rintro ev w' ⟨rfl, rfl⟩
      exact ⟨rfl, _, _, _, _, rfl⟩
    split at h
    · rename_i hp
      obtain rfl : p = 154 := by simpa using hp
      cases h
      refine (Go.Proofs.AbAsD3.as_hit v n hv h1 a old w hg h0 hf).mono ?_
      rintro ev w' ⟨rfl, rfl⟩
      exact ⟨rfl, _, _, _, _, rfl⟩
    split at h
    · rename_i hp
      obtain rfl : p = 182 := by simpa using hp
      cases h
      refine (Go.Proofs.AbAsD4.as_hit v n hv h1 a old w hg h0 hf).mono ?_
      rintro ev w' ⟨rfl, rfl⟩
      exact ⟨rfl, _, _, _, _, rfl⟩
    cases h
theorem is_ok : IsOK Tryz.prog 159 265 [143] where
  enters := enters159
  none a w := Go.Proofs.AbIsD.is_nil a w
  same a w := Go.Proofs.AbIsD.is_same a w
  other a b ca cb ta tb w h h1 h2 := Go.Proofs.AbIsD.is_other a b ca cb ta tb w h h1 h2
  type s hs v b w := by
    simp only [List.mem_cons, List.not_mem_nil, or_false] at hs
    subst hs
    exact Go.Proofs.AbIsD.is_type143 v b w
theorem bld_ok : BldOK Tryz.prog 156 99 130 5 where
  entersC := enters156
  entersS := enters99
  nzT := by decide
  nzU := by decide
  used := Go.Proofs.AbDS.check_used
  fresh b w h0 h1 h2 := Go.Proofs.AbDS.check_fresh b w h0 h1 h2
  strNil b p w h := Go.Proofs.AbDS.string_nil b p w h
  strSome b g cap p cur l w h1 h2 h3 h4 h5 h6 h7 := Go.Proofs.AbDS.string_some b g cap p cur l w h1 h2 h3 h4 h5 h6 h7
theorem sp_ok : SpOK cx0 sp0 := by
  intro g st vs out h
  unfold sp0 at h
  split at h
  · rename_i hg
    subst hg
    exact as_at as_ok h
  split at h
  · rename_i hg
    subst hg
    exact is_at is_ok h
  split at h
  · rename_i hg
    subst hg
    exact repl_at enters157 (gm := 3) (by decide) (fun s old new n m w hs hm h1 hl => Go.Proofs.AbShD.repl_run s old new n m w hs hm h1 hl) h
  split at h
  · rename_i hg
    subst hg
    exact fmt_at enters158 (gt := 6) (List.mem_singleton.2 rfl) (by kernel_rfl) (fun n h0 h1 w ht => Go.Proofs.AbShD.fmt_run n h0 h1 w ht) h
  split at h
  · rename_i hg
    subst hg
    exact check_at bld_ok h
  split at h
  · rename_i hg
    subst hg
    exact str_at bld_ok h
  cases h
end Go.Ab.Derive


namespace Go.Ab
open Go Go.ChangeShapes Go.WideShapes Go.RowKit
inductive DTy where
  | bool
  | int (k : IntKind)
  | str
  | slice (e : DTy)
  | struct (fs : List DTy)
mutual
def DTy.cells : DTy → Nat
  | .struct fs => DTy.cellsL fs
  | .bool | .int _ | .str | .slice _ => 1
def DTy.cellsL : List DTy → Nat
  | [] => 0
  | d :: ds => d.cells + DTy.cellsL ds
end
mutual
def isD (P : Program) : Nat → DTy → TypeId → Bool
  | 0, _, _ => false
  | n + 1, D, t => match D, P.underlying t with
    | .bool, some .bool => true
    | .int k, some (.int k') => k' == k
    | .str, some .string => true
    | .slice e, some (.slice et) => isD P n e et && P.cellsOf et == e.cells && decide (0 < e.cells)
    | .struct fs, some (.struct fields) => P.cellsOf t == DTy.cellsL fs && isFs P n 0 fs fields.toList
    | _, _ => false
def isFs (P : Program) : Nat → Nat → List DTy → List Field → Bool
  | 0, _, _, _ => false
  | _ + 1, _, [], [] => true
  | n + 1, off, D :: ds, f :: fs => f.offset == off && P.cellsOf f.type == D.cells && isD P n D f.type && isFs P n (off + D.cells) ds fs
  | _ + 1, _, _, _ => false
end
mutual
def HasV : DTy → PV → Prop
  | .bool, v => ∃ b, v = .bool b
  | .int k, v => ∃ n, v = .int k n ∧ (Lit.int k n).wf = true
  | .str, v => ∃ s, v = .str s ∧ s.length ≤ maxLen
  | .slice e, v => v = .nilS ∨ ∃ xs, v = .sl e.cells xs false ∧ xs.length ≤ maxLen ∧ ∀ x ∈ xs, HasV e x
  | .struct fs, v => ∃ vs, v = .agg (cellsL vs) ∧ HasVs fs vs
def HasVs : List DTy → List PV → Prop
  | [], vs => vs = []
  | D :: fs, vs => ∃ v r, vs = v :: r ∧ HasV D v ∧ HasVs fs r
end
theorem repL1' {w : World} {I : Nat → Prop} {lp : Nat → Option Nat} {L : Option Loc} {a : PV} {us : List Value} (h : RepL w I lp L [a] us) : ∃ u, us = [u] ∧ RepV w I lp L a u := by
  obtain ⟨u, r, h1, rfl, h2⟩ : ∃ u r, RepV w I lp L a u ∧ us = u :: r ∧ RepL w I lp L [] r := by
    cases h; exact ⟨_, _, by assumption, rfl, by assumption⟩
  cases h2
  exact ⟨u, rfl, h1⟩
section
variable {H : Type} {enc : TypeId × Value → H} {P : Program} {w : World} {I : Nat → Prop} {lp : Nat → Option Nat} {held : Bool} {sp : Nat → Bool}
def RepD (w : World) (I : Nat → Prop) (lp : Nat → Option Nat) (D : DTy) (cs : List Value) : Prop := ∃ v : PV, HasV D v ∧ RepL w I lp none v.cells cs ∧ One cs ∧ v.cells.length = D.cells
theorem cells?_get {base : Nat} {a : Addr} {n : Nat} {l : List Value} (h : w.cells? base a n = some l) : l.length = n ∧ ∀ i, i < n → w.cell? (a.add i) = l[i]? := by
  obtain ⟨_, h1, h2⟩ := World.cells?_some h
  exact ⟨h1, fun i hi => by rw [h2 i hi]⟩
theorem cell?_row {a : Addr} {v : Value} (h : w.cell? a = some v) : ∃ c E fr, w.heap[a.block]? = some (.cells c E fr) ∧ a.spot = none ∧ c[a.off]? = some v := by
  unfold World.cell? at h
  split at h
  · rename_i c E fr hb
    split at h
    · cases h
    · rename_i hs
      exact ⟨c, E, fr, hb, by simpa using hs, h⟩
  · cases h
theorem addr_off (a : Addr) (h : a.spot = none) (i : Nat) : a.add i = ⟨a.block, a.off + i, none⟩ := by
  unfold Addr.add
  split
  · rename_i hi; subst hi; cases a; simp_all
  · rfl
theorem list_rep {e : DTy} (hI : ∀ b, b < w.heap.size → I b) {a : Addr} {len cap : Nat} (hlc : len ≤ cap) (hcm : cap ≤ maxLen) (hpos : 0 < e.cells)
    (hel : ∀ i, i < len → ∃ cs, w.cells? 0 (a.add (i * e.cells)) e.cells = some cs ∧ RepD w I lp e cs) : RepD w I lp (.slice e) [.slice (some a) len cap] := by
  by_cases h0 : len = 0
  · subst h0
    exact ⟨.sl e.cells [] false, .inr ⟨[], rfl, Nat.zero_le _, fun x hx => by cases hx⟩, .cons _ _ _ _ (.slE _ _ _ _ (fun h => by cases h)) .nil, by simp [One, Value.oneCell'], rfl⟩
  · obtain ⟨cs0, hcs0, _⟩ := hel 0 (by omega)
    obtain ⟨hl0, hg0⟩ := cells?_get hcs0
    have hf := hg0 0 hpos
    rw [Nat.zero_mul] at hf
    have e0 : (a.add 0).add 0 = a := by simp [Addr.add]
    rw [e0, List.getElem?_eq_getElem (by omega)] at hf
    obtain ⟨c, E, fr, hb, hs, _⟩ := cell?_row hf
    have hblt : a.block < w.heap.size := (Array.getElem?_eq_some_iff.1 hb).1
    have each : ∀ i, i < len → ∃ v : PV, HasV e v ∧ v.cells.length = e.cells ∧ (a.off + i * e.cells) + e.cells ≤ c.size ∧ One ((c.toList.drop (a.off + i * e.cells)).take e.cells) ∧ RepL w I lp none v.cells ((c.toList.drop (a.off + i * e.cells)).take e.cells) := by
      intro i hi
      obtain ⟨cs, hcs, v, h1, h2, h3, h4⟩ := hel i hi
      obtain ⟨hl, hg⟩ := cells?_get hcs
      have key : ∀ j, j < e.cells → c[a.off + i * e.cells + j]? = cs[j]? := by
        intro j hj
        have := hg j hj
        rw [addr_off a hs, addr_off _ rfl, cell_row hb] at this
        exact this
      have hsz : a.off + i * e.cells + e.cells ≤ c.size := by
        have := key (e.cells - 1) (by omega)
        rw [List.getElem?_eq_getElem (by omega)] at this
        have := (Array.getElem?_eq_some_iff.1 this).1
        omega
      have e1 : (c.toList.drop (a.off + i * e.cells)).take e.cells = cs := by
        apply List.ext_getElem?
        intro j
        by_cases hj : j < e.cells
        · rw [List.getElem?_take_of_lt hj, List.getElem?_drop, ← key j hj]; simp
        · rw [List.getElem?_eq_none (by simp; omega), List.getElem?_eq_none (by omega)]
      exact ⟨v, h1, h4, hsz, by rw [e1]; exact h3, by rw [e1]; exact h2⟩
    have all : ∀ n, n ≤ len → ∃ xs : List PV, xs.length = n ∧ (∀ x ∈ xs, HasV e x) ∧ (∀ x ∈ xs, x.cells.length = e.cells) ∧ a.off + n * e.cells ≤ c.size ∧ One ((c.toList.drop a.off).take (n * e.cells)) ∧ RepL w I lp none (cellsL xs) ((c.toList.drop a.off).take (n * e.cells)) := by
      intro n
      induction n with
      | zero =>
        intro _
        refine ⟨[], rfl, by simp, by simp, ?_, by simp [One], by simp; exact .nil⟩
        obtain ⟨_, _, _, h, _⟩ := each 0 (by omega)
        omega
      | succ n ih =>
        intro hn
        obtain ⟨xs, h1, h2, h3, h4, h5, h6⟩ := ih (by omega)
        obtain ⟨v, g1, g2, g3, g4, g5⟩ := each n (by omega)
        have e2 : (c.toList.drop a.off).take ((n + 1) * e.cells) = (c.toList.drop a.off).take (n * e.cells) ++ (c.toList.drop (a.off + n * e.cells)).take e.cells := by
          rw [Nat.add_mul, Nat.one_mul, List.take_add, List.drop_drop]
        refine ⟨xs ++ [v], by simp [h1], ?_, ?_, by rw [Nat.add_mul]; omega, ?_, ?_⟩
        · intro x hx
          rcases List.mem_append.1 hx with hx | hx
          · exact h2 x hx
          · simp at hx; subst hx; exact g1
        · intro x hx
          rcases List.mem_append.1 hx with hx | hx
          · exact h3 x hx
          · simp at hx; subst hx; exact g2
        · rw [e2]; exact h5.append' g4
        · rw [e2, cellsL_append]
          refine h6.append ?_
          simpa [cellsL] using g5
    obtain ⟨xs, h1, h2, h3, h4, h5, h6⟩ := all len (Nat.le_refl _)
    have ea : a = ⟨a.block, a.off, none⟩ := by cases a; simp_all
    refine ⟨.sl e.cells xs false, .inr ⟨xs, rfl, by omega, h2⟩, ?_, by simp [One, Value.oneCell'], rfl⟩
    rw [ea, ← h1]
    exact .cons _ _ _ _ (.sl e.cells xs false a.block a.off cap c E fr (hI _ hblt) hb (by rw [h1]; exact h4) h3 (by omega) (fun h => by cases h) (by rw [h1]; exact h5) (by rw [h1]; exact h6)) .nil
theorem struct_rep {n : Nat} (ih : ∀ (m : Nat) (D : DTy) (t : TypeId) (cs : List Value) (x : DataW H × List MemPlace), isD P m D t = true → DataW.trod enc P w 0 (fun _ => true) held n t cs = some x → RepD w I lp D cs) :
    ∀ (m : Nat) (ds : List DTy) (fs : List Field) (off : Nat) (cs : List Value) (xs : List (DataW H × List MemPlace)), isFs P m off ds fs = true → xs.length = fs.length → cs.length = off + DTy.cellsL ds →
    (∀ (i : Nat) (f : Field), fs[i]? = some f → DataW.trod enc P w 0 (fun _ => true) held n f.type ((cs.drop f.offset).take (P.cellsOf f.type)) = xs[i]?) →
    ∃ vs : List PV, HasVs ds vs ∧ RepL w I lp none (cellsL vs) (cs.drop off) ∧ One (cs.drop off) ∧ (cellsL vs).length = DTy.cellsL ds := by
  intro m
  induction m with
  | zero => intro ds fs off cs xs h; cases h
  | succ m ihm =>
    intro ds fs off cs xs h hl hc hf
    match ds, fs, h with
    | [], [], _ =>
      refine ⟨[], rfl, ?_, ?_, rfl⟩
      · rw [List.drop_of_length_le (by simp [DTy.cellsL] at hc; omega)]; exact .nil
      · rw [List.drop_of_length_le (by simp [DTy.cellsL] at hc; omega)]; simp [One]
    | D :: ds, f :: fs, h =>
      simp only [isFs, Bool.and_eq_true, beq_iff_eq] at h
      obtain ⟨⟨⟨h1, h2⟩, h3⟩, h4⟩ := h
      match xs, hl with
      | x :: xs, hl =>
        have hx := hf 0 f rfl
        rw [h1, h2] at hx
        obtain ⟨v, g1, g2, g3, g4⟩ := ih m D f.type _ x h3 hx
        simp only [DTy.cellsL] at hc
        obtain ⟨vs, k1, k2, k3, k4⟩ := ihm ds fs (off + D.cells) cs xs h4 (by simpa using hl) (by omega) (fun i f hi => by simpa using hf (i + 1) f (by simpa using hi))
        have e1 : cs.drop off = (cs.drop off).take D.cells ++ cs.drop (off + D.cells) := by rw [← List.drop_drop, List.take_append_drop]
        refine ⟨v :: vs, ⟨v, vs, rfl, g1, k1⟩, ?_, ?_, by simp [cellsL, DTy.cellsL, g4, k4]⟩
        · rw [e1]; exact g2.append k2
        · rw [e1]; exact g3.append' k3
theorem rep_of_trod (hI : ∀ b, b < w.heap.size → I b) : ∀ (fuel m : Nat) (D : DTy) (t : TypeId) (cs : List Value) (x : DataW H × List MemPlace), isD P m D t = true → DataW.trod enc P w 0 (fun _ => true) held fuel t cs = some x → RepD w I lp D cs := by
  intro fuel
  induction fuel with
  | zero => intro m D t cs x _ h; simp [DataW.trod] at h
  | succ fuel ih =>
    intro m D t cs x hD h
    cases m with
    | zero => cases hD
    | succ m =>
      cases hu : P.underlying t with
      | none => cases D <;> simp [isD, hu] at hD
      | some d =>
        cases D with
        | bool =>
          cases d <;> simp [isD, hu] at hD
          obtain ⟨b, rfl, _⟩ := DataW.trod_bool hu h
          exact ⟨.bool b, ⟨b, rfl⟩, .cons _ _ _ _ (.bool b) .nil, by simp [One, Value.oneCell'], rfl⟩
        | int k =>
          cases d <;> simp [isD, hu] at hD
          subst hD
          obtain ⟨n, rfl, _, hw⟩ := DataW.trod_int hu h
          exact ⟨.int _ n, ⟨n, rfl, hw⟩, .cons _ _ _ _ (.int _ n) .nil, by simp [One, Value.oneCell'], rfl⟩
        | str =>
          cases d <;> simp [isD, hu] at hD
          obtain ⟨s, rfl, _, hw⟩ := DataW.trod_string hu h
          obtain ⟨l, rfl⟩ : ∃ l : List UInt8, s = ⟨l.toArray⟩ := ⟨s.data.toList, by cases s; simp⟩
          exact ⟨.str l, ⟨l, rfl, by simpa [ByteArray.size] using hw⟩, .cons _ _ _ _ (.str l) .nil, by simp [One, Value.oneCell'], rfl⟩
        | slice e =>
          cases d <;> simp [isD, hu] at hD
          rename_i et
          obtain ⟨⟨h1, h2⟩, h3⟩ := hD
          rcases DataW.trod_slice hu h with ⟨rfl, _⟩ | ⟨a, len, cap, elems, rest, n, hn, rfl, _, _, hl, hm, hlen, hel, _⟩
          · exact ⟨.nilS, .inl rfl, .cons _ _ _ _ .nilS .nil, by simp [One, Value.oneCell'], rfl⟩
          · cases hn
            refine list_rep hI hl hm h3 fun i hi => ?_
            have := hel i hi
            rw [List.getElem?_eq_getElem (by omega), Option.bind_eq_some_iff, h2] at this
            obtain ⟨cs, hcs, hx⟩ := this
            exact ⟨cs, hcs, ih m e et cs _ h1 hx⟩
        | struct ds =>
          cases d <;> simp [isD, hu] at hD
          rename_i fields
          obtain ⟨h1, h2⟩ := hD
          obtain ⟨xs, n, hn, _, hl, hlen, hf⟩ := DataW.trod_struct hu h
          cases hn
          obtain ⟨vs, k1, k2, k3, k4⟩ := struct_rep ih m ds fields.toList 0 cs xs h2 (by simpa using hlen) (by rw [hl, h1]; omega) (fun i f hi => hf i f (by simpa using hi))
          rw [List.drop_zero] at k2 k3
          exact ⟨.agg (cellsL vs), ⟨vs, rfl, k1⟩, k2, k3, by simpa [PV.cells, DTy.cells] using k4⟩
variable {w' : World} {sp' : Nat → Bool}
theorem cell?_keep (hk : ∀ b, b < w.heap.size → w'.heap[b]? = w.heap[b]?) {a : Addr} {v : Value} (h : w.cell? a = some v) : a.block < w.heap.size ∧ w'.cell? a = some v := by
  obtain ⟨c, E, fr, hb, hs, hv⟩ := cell?_row h
  have hlt : a.block < w.heap.size := (Array.getElem?_eq_some_iff.1 hb).1
  refine ⟨hlt, ?_⟩
  unfold World.cell?
  rw [hk _ hlt, hb]
  simp [hs, hv]
theorem mapM_congr' {α β : Type} {f g : α → Option β} : ∀ (l : List α) {ys : List β}, l.mapM f = some ys → (∀ x ∈ l, ∀ y, f x = some y → g x = some y) → l.mapM g = some ys
  | [], ys, h, _ => by simpa using h
  | x :: l, ys, h, hg => by
    rw [List.mapM_cons] at h ⊢
    simp only [Option.bind_eq_bind, Option.bind_eq_some_iff, Option.pure_def, Option.some.injEq] at h ⊢
    obtain ⟨y, h1, ys', h2, rfl⟩ := h
    exact ⟨y, hg x (by simp) y h1, ys', mapM_congr' l h2 (fun z hz => hg z (by simp [hz])), rfl⟩
theorem cells?_keep (hk : ∀ b, b < w.heap.size → w'.heap[b]? = w.heap[b]?) {a : Addr} {n : Nat} {l : List Value} (h : w.cells? 0 a n = some l) : w'.cells? 0 a n = some l ∧ (0 < n → a.block < w.heap.size) := by
  refine ⟨?_, fun hn => ?_⟩
  · unfold World.cells? at h ⊢
    rw [if_pos (Nat.zero_le _)] at h ⊢
    exact mapM_congr' _ h fun i _ v hv => (cell?_keep hk hv).2
  · obtain ⟨h1, h2⟩ := cells?_get h
    have := h2 0 hn
    rw [List.getElem?_eq_getElem (by omega)] at this
    have := (cell?_keep hk this).1
    rwa [block_add] at this
theorem fields_keep {n : Nat} (ih : ∀ (m : Nat) (D : DTy) (t : TypeId) (cs : List Value) (x : DataW H × List MemPlace), isD P m D t = true → DataW.trod enc P w 0 (fun _ => true) held n t cs = some x → DataW.trod enc P w' 0 sp' held n t cs = some x) :
    ∀ (m : Nat) (ds : List DTy) (fs : List Field) (off : Nat), isFs P m off ds fs = true → ∀ f ∈ fs, ∀ cs x, DataW.trod enc P w 0 (fun _ => true) held n f.type cs = some x → DataW.trod enc P w' 0 sp' held n f.type cs = some x := by
  intro m
  induction m with
  | zero => intro ds fs off h; cases h
  | succ m ihm =>
    intro ds fs off h f hf cs x hx
    match ds, fs, h with
    | [], [], _ => cases hf
    | D :: ds, g :: fs, h =>
      simp only [isFs, Bool.and_eq_true, beq_iff_eq] at h
      rcases List.mem_cons.1 hf with rfl | hf
      · exact ih m D _ cs x h.1.2 hx
      · exact ihm ds fs _ h.2 f hf cs x hx
theorem trod_keep (hk : ∀ b, b < w.heap.size → w'.heap[b]? = w.heap[b]?) (hsp : ∀ b, b < w.heap.size → sp' b = true) : ∀ (fuel m : Nat) (D : DTy) (t : TypeId) (cs : List Value) (x : DataW H × List MemPlace), isD P m D t = true →
    DataW.trod enc P w 0 (fun _ => true) held fuel t cs = some x → DataW.trod enc P w' 0 sp' held fuel t cs = some x := by
  intro fuel
  induction fuel with
  | zero => intro m D t cs x _ h; simp [DataW.trod] at h
  | succ fuel ih =>
    intro m D t cs x hD h
    cases m with
    | zero => cases hD
    | succ m =>
      cases hu : P.underlying t with
      | none => cases D <;> simp [isD, hu] at hD
      | some d =>
        cases D with
        | bool =>
          cases d <;> simp [isD, hu] at hD
          obtain ⟨b, rfl, rfl⟩ := DataW.trod_bool hu h
          simp [DataW.trod, hu]
        | int k =>
          cases d <;> simp [isD, hu] at hD
          subst hD
          obtain ⟨n, rfl, rfl, hw⟩ := DataW.trod_int hu h
          simp [DataW.trod, hu, hw]
        | str =>
          cases d <;> simp [isD, hu] at hD
          obtain ⟨s, rfl, rfl, hw⟩ := DataW.trod_string hu h
          simp [DataW.trod, hu, hw]
        | slice e =>
          cases d <;> simp [isD, hu] at hD
          rename_i et
          obtain ⟨⟨h1, h2⟩, h3⟩ := hD
          rcases DataW.trod_slice hu h with ⟨rfl, rfl⟩ | ⟨a, len, cap, elems, rest, n, hn, rfl, _, _, hl, hm, hlen, _, _⟩
          · simp [DataW.trod, hu]
          · unfold DataW.trod at h ⊢
            simp only [hu] at h ⊢
            rw [if_pos ⟨Nat.zero_le _, hl, hm⟩] at h ⊢
            have el : ∀ i y, (w.cells? 0 (a.add (i * P.cellsOf et)) (P.cellsOf et)).bind (DataW.trod enc P w 0 (fun _ => true) held fuel et) = some y → (w'.cells? 0 (a.add (i * P.cellsOf et)) (P.cellsOf et)).bind (DataW.trod enc P w' 0 sp' held fuel et) = some y ∧ a.block < w.heap.size := by
              intro i y hy
              obtain ⟨cs, hcs, hx⟩ := Option.bind_eq_some_iff.1 hy
              obtain ⟨k1, k2⟩ := cells?_keep hk hcs
              refine ⟨Option.bind_eq_some_iff.2 ⟨cs, k1, ih m e et cs y h1 hx⟩, ?_⟩
              have := k2 (by omega)
              rwa [block_add] at this
            obtain ⟨es, he, h⟩ := Option.bind_eq_some_iff.1 h
            refine Option.bind_eq_some_iff.2 ⟨es, mapM_congr' _ he fun i _ y hy => (el i y hy).1, ?_⟩
            obtain ⟨rs, hr, rfl⟩ := Option.map_eq_some_iff.1 h
            refine Option.map_eq_some_iff.2 ⟨rs, ?_, rfl⟩
            simp only [if_true] at hr
            cases hc : cap - len with
            | zero =>
              rw [hc] at hr
              simp at hr
              subst hr
              split <;> simp
            | succ q =>
              have hlt : a.block < w.heap.size := by
                rw [hc, List.range_succ_eq_map, List.mapM_cons] at hr
                simp only [Option.bind_eq_bind, Option.bind_eq_some_iff] at hr
                obtain ⟨y, hy, _⟩ := hr
                exact (el _ y (Option.bind_eq_some_iff.2 hy)).2
              rw [if_pos (hsp _ hlt), ← hc]
              exact mapM_congr' _ hr fun i _ y hy => (el _ y hy).1
        | struct ds =>
          cases d <;> simp [isD, hu] at hD
          rename_i fields
          obtain ⟨h1, h2⟩ := hD
          have key := fields_keep ih m ds fields.toList 0 h2
          unfold DataW.trod at h ⊢
          simp only [hu] at h ⊢
          split at h
          · rename_i hlc
            rw [if_pos hlc]
            obtain ⟨xs, hx, rfl⟩ := Option.map_eq_some_iff.1 h
            exact Option.map_eq_some_iff.2 ⟨xs, mapM_congr' _ hx fun f hf y hy => key f hf _ y hy, rfl⟩
          · cases h
def isDs (P : Program) (m : Nat) : List DTy → List TypeId → Bool
  | [], [] => true
  | D :: Ds, t :: ts => isD P m D t && isDs P m Ds ts
  | _, _ => false
theorem val_rep (hI : ∀ b, b < w.heap.size → I b) {m : Nat} {D : DTy} {t : TypeId} {v : Value} {d : DataW H} {ps : List MemPlace} {base : Nat} (hD : isD P m D t = true) (hv : Value.okWide P w .any base t v) (h : DataW.Trod enc P w 0 (fun _ => true) held t v d ps) :
    ∃ u : PV, HasV D u ∧ RepV w I lp none u v := by
  obtain ⟨fuel, h⟩ := h
  obtain ⟨u, h1, h2, h3, h4⟩ := rep_of_trod (lp := lp) hI fuel m D t _ _ hD h
  cases m with
  | zero => cases hD
  | succ m =>
    cases hu : P.underlying t with
    | none => cases D <;> simp [isD, hu] at hD
    | some dd =>
      have one : (∀ x, v.cells.toList = [x] → v = x) → (∀ x : PV, u.cells = [x] → u = x) → (∃ x, u.cells = [x]) → ∃ u : PV, HasV D u ∧ RepV w I lp none u v := by
        intro ho hp ⟨x, hx⟩
        have hux := hp x hx
        rw [hx] at h2
        obtain ⟨y, hy, hr⟩ := repL1' h2
        rw [ho y hy]
        exact ⟨u, h1, by rw [hux]; exact hr⟩
      have sc : (∀ vs, v ≠ .agg vs) → ∀ x, v.cells.toList = [x] → v = x := by
        intro hn x hx
        cases v <;> first | (simp [Value.cells] at hx; exact hx) | exact absurd rfl (hn _)
      cases D with
      | struct ds =>
        cases dd <;> simp [isD, hu] at hD
        obtain ⟨cs, rfl, _⟩ := okWide_struct hu hv
        obtain ⟨vs, rfl, hvs⟩ := h1
        exact ⟨_, ⟨vs, rfl, hvs⟩, .agg _ _ h3 h2⟩
      | bool =>
        cases dd <;> simp [isD, hu] at hD
        obtain ⟨b, rfl⟩ := h1
        exact one (sc fun vs e => by subst e; simp [Value.okWide, hu, Cell.okWide, Cell.ok] at hv) (fun x hx => by simpa [PV.cells] using hx) ⟨_, rfl⟩
      | int k =>
        cases dd <;> simp [isD, hu] at hD
        obtain ⟨b, rfl, _⟩ := h1
        exact one (sc fun vs e => by subst e; simp [Value.okWide, hu, Cell.okWide, Cell.ok] at hv) (fun x hx => by simpa [PV.cells] using hx) ⟨_, rfl⟩
      | str =>
        cases dd <;> simp [isD, hu] at hD
        obtain ⟨b, rfl, _⟩ := h1
        exact one (sc fun vs e => by subst e; simp [Value.okWide, hu, Cell.okWide, Cell.ok] at hv) (fun x hx => by simpa [PV.cells] using hx) ⟨_, rfl⟩
      | slice e =>
        cases dd <;> simp [isD, hu] at hD
        have hs := sc fun vs e => by subst e; simp [Value.okWide, hu, Cell.okWide, Cell.ok] at hv
        rcases h1 with rfl | ⟨xs, rfl, _, _⟩
        · exact one hs (fun x hx => by simpa [PV.cells] using hx) ⟨_, rfl⟩
        · exact one hs (fun x hx => by simpa [PV.cells] using hx) ⟨_, rfl⟩
theorem args_rep (hI : ∀ b, b < w.heap.size → I b) {m base : Nat} : ∀ (Ds : List DTy) (ts : List TypeId) (vs : List Value) (ds : List (DataW H)) (p : List MemPlace), isDs P m Ds ts = true →
    (∀ (j : Nat) t v, ts[j]? = some t → vs[j]? = some v → Value.okWide P w .any base t v) → DataW.TrodAll enc P w 0 (fun _ => true) held ts vs ds p → ∃ us : List PV, HasVs Ds us ∧ RepL w I lp none us vs
  | [], [], vs, ds, p, _, _, h => by
    obtain ⟨rfl, rfl, rfl⟩ := trodAll_nil h
    exact ⟨[], rfl, .nil⟩
  | D :: Ds, t :: ts, vs, ds, p, hD, hv, h => by
    obtain ⟨v, vs, d, ds, p, q, rfl, rfl, rfl, h1, h2⟩ := trodAll_cons h
    simp only [isDs, Bool.and_eq_true] at hD
    obtain ⟨u, a, b⟩ := val_rep (lp := lp) hI hD.1 (hv 0 t v rfl rfl) h1
    obtain ⟨us, a', b'⟩ := args_rep hI Ds ts vs ds q hD.2 (fun j t v ht hj => hv (j + 1) t v (by simpa using ht) (by simpa using hj)) h2
    exact ⟨u :: us, ⟨u, us, rfl, a, a'⟩, .cons _ _ _ _ b b'⟩
  | [], _ :: _, _, _, _, hD, _, _ => by cases hD
  | _ :: _, [], _, _, _, hD, _, _ => by cases hD
theorem args_keep (hk : ∀ b, b < w.heap.size → w'.heap[b]? = w.heap[b]?) (hsp : ∀ b, b < w.heap.size → sp' b = true) {m : Nat} : ∀ (Ds : List DTy) (ts : List TypeId) (vs : List Value) (ds : List (DataW H)) (p : List MemPlace), isDs P m Ds ts = true →
    DataW.TrodAll enc P w 0 (fun _ => true) held ts vs ds p → DataW.TrodAll enc P w' 0 sp' held ts vs ds p
  | [], [], vs, ds, p, _, h => by
    obtain ⟨rfl, rfl, rfl⟩ := trodAll_nil h
    exact rfl
  | D :: Ds, t :: ts, vs, ds, p, hD, h => by
    obtain ⟨v, vs, d, ds, p, q, rfl, rfl, rfl, ⟨fuel, h1⟩, h2⟩ := trodAll_cons h
    simp only [isDs, Bool.and_eq_true] at hD
    exact ⟨p, q, ⟨fuel, trod_keep hk hsp fuel m D t _ _ hD.1 h1⟩, args_keep hk hsp Ds ts vs ds q hD.2 h2, rfl⟩
  | [], _ :: _, _, _, _, hD, _ => by cases hD
  | _ :: _, [], _, _, _, hD, _ => by cases hD
end
end Go.Ab


namespace Go.Ab.Derive
open Go Go.Ab Go.Proofs
theorem sp_loc : SpLocal sp0 := fun g => sp_here g
theorem tab_ok : TabOK cx0 tab0 (deadOf Tryz.prog) := by
  intro f fn h
  unfold tab0 at h
  split at h
  · cases h; exact mkF_comp (by kernel_rfl)
  · cases h; exact mkF_comp (by kernel_rfl)
  · cases h; exact mkF_comp (by kernel_rfl)
  · cases h; exact mkF_comp (by kernel_rfl)
  · cases h; exact mkF_comp (by kernel_rfl)
  · cases h; exact mkF_comp (by kernel_rfl)
  · cases h; exact mkF_comp (by kernel_rfl)
  · cases h; exact mkF_comp (by kernel_rfl)
  · cases h; exact mkF_comp (by kernel_rfl)
  · cases h; exact mkF_comp (by kernel_rfl)
  · cases h; exact mkF_comp (by kernel_rfl)
  · cases h; exact mkF_comp (by kernel_rfl)
  · cases h; exact mkF_comp (by kernel_rfl)
  · cases h; exact mkF_comp (by kernel_rfl)
  · cases h; exact mkF_comp (by kernel_rfl)
  · cases h; exact mkF_comp (by kernel_rfl)
  · cases h; exact mkF_comp (by kernel_rfl)
  · cases h; exact mkF_comp (by kernel_rfl)
  · cases h; exact mkF_comp (by kernel_rfl)
  · cases h; exact mkF_comp (by kernel_rfl)
  · cases h; exact mkF_comp (by kernel_rfl)
  · cases h; exact mkF_comp (by kernel_rfl)
  · cases h; exact mkF_comp (by kernel_rfl)
  · cases h; exact mkF_comp (by kernel_rfl)
  · cases h; exact mkF_comp (by kernel_rfl)
  · cases h; exact mkF_comp (by kernel_rfl)
  · cases h; exact mkF_comp (by kernel_rfl)
  · cases h; exact mkF_comp (by kernel_rfl)
  · cases h; exact mkF_comp (by kernel_rfl)
  · cases h; exact mkF_comp (by kernel_rfl)
  · cases h; exact mkF_comp (by kernel_rfl)
  · cases h; exact mkF_comp (by kernel_rfl)
  · cases h; exact mkF_comp (by kernel_rfl)
  · cases h; exact mkF_comp (by kernel_rfl)
  · cases h; exact mkF_comp (by kernel_rfl)
  · cases h; exact mkF_comp (by kernel_rfl)
  · cases h; exact mkF_comp (by kernel_rfl)
  · cases h; exact mkF_comp (by kernel_rfl)
  · cases h; exact mkF_comp (by kernel_rfl)
  · cases h; exact mkF_comp (by kernel_rfl)
  · cases h; exact mkF_comp (by kernel_rfl)
  · cases h; exact mkF_comp (by kernel_rfl)
  · cases h; exact mkF_comp (by kernel_rfl)
  · cases h; exact mkF_comp (by kernel_rfl)
  · cases h; exact mkF_comp (by kernel_rfl)
  · cases h; exact mkF_comp (by kernel_rfl)
  · cases h; exact mkF_comp (by kernel_rfl)
  · cases h; exact mkF_comp (by kernel_rfl)
  · cases h; exact mkF_comp (by kernel_rfl)
  · cases h; exact mkF_comp (by kernel_rfl)
  · cases h; exact mkF_comp (by kernel_rfl)
  · cases h; exact mkF_comp (by kernel_rfl)
  · cases h; exact mkF_comp (by kernel_rfl)
  · cases h; exact mkF_comp (by kernel_rfl)
  · cases h; exact mkF_comp (by kernel_rfl)
  · cases h; exact mkF_comp (by kernel_rfl)
  · cases h; exact mkF_comp (by kernel_rfl)
  · cases h; exact mkF_comp (by kernel_rfl)
  · cases h; exact mkF_comp (by kernel_rfl)
  · cases h; exact mkF_comp (by kernel_rfl)
  · cases h; exact mkF_comp (by kernel_rfl)
  · cases h; exact mkF_comp (by kernel_rfl)
  · cases h; exact mkF_comp (by kernel_rfl)
  · cases h; exact mkF_comp (by kernel_rfl)
  · cases h; exact mkF_comp (by kernel_rfl)
  · cases h; exact mkF_comp (by kernel_rfl)
  · cases h; exact mkF_comp (by kernel_rfl)
  · cases h; exact mkF_comp (by kernel_rfl)
  · cases h; exact mkF_comp (by kernel_rfl)
  · cases h; exact mkF_comp (by kernel_rfl)
  · cases h; exact mkF_comp (by kernel_rfl)
  · cases h; exact mkF_comp (by kernel_rfl)
  · cases h; exact mkF_comp (by kernel_rfl)
  · cases h; exact mkF_comp (by kernel_rfl)
  · cases h; exact mkF_comp (by kernel_rfl)
  · cases h; exact mkF_comp (by kernel_rfl)
  · cases h; exact mkF_comp (by kernel_rfl)
  · cases h; exact mkF_comp (by kernel_rfl)
  · cases h; exact mkF_comp (by kernel_rfl)
  · cases h; exact mkF_comp (by kernel_rfl)
  · cases h; exact mkF_comp (by kernel_rfl)
  · cases h; exact mkF_comp (by kernel_rfl)
  · cases h; exact mkF_comp (by kernel_rfl)
  · cases h; exact mkF_comp (by kernel_rfl)
  · cases h; exact mkF_comp (by kernel_rfl)
  · cases h; exact mkF_comp (by kernel_rfl)
  · cases h; exact mkF_comp (by kernel_rfl)
  · cases h; exact mkF_comp (by kernel_rfl)
  · cases h; exact mkF_comp (by kernel_rfl)
  · cases h; exact mkF_comp (by kernel_rfl)
  · cases h; exact mkF_comp (by kernel_rfl)
  · cases h; exact mkF_comp (by kernel_rfl)
  · cases h; exact mkF_comp (by kernel_rfl)
  · cases h; exact mkF_comp (by kernel_rfl)
  · cases h; exact mkF_comp (by kernel_rfl)
  · cases h; exact mkF_comp (by kernel_rfl)
  · cases h; exact mkF_comp (by kernel_rfl)
  · cases h; exact mkF_comp (by kernel_rfl)
  · cases h; exact mkF_comp (by kernel_rfl)
  · cases h; exact mkF_comp (by kernel_rfl)
  · cases h; exact mkF_comp (by kernel_rfl)
  · cases h; exact mkF_comp (by kernel_rfl)
  · cases h; exact mkF_comp (by kernel_rfl)
  · cases h; exact mkF_comp (by kernel_rfl)
  · cases h; exact mkF_comp (by kernel_rfl)
  · cases h; exact mkF_comp (by kernel_rfl)
  · cases h; exact mkF_comp (by kernel_rfl)
  · cases h; exact mkF_comp (by kernel_rfl)
  · cases h; exact mkF_comp (by kernel_rfl)
  · cases h; exact mkF_comp (by kernel_rfl)
  · cases h; exact mkF_comp (by kernel_rfl)
  · cases h; exact mkF_comp (by kernel_rfl)
  · cases h; exact mkF_comp (by kernel_rfl)
  · cases h; exact mkF_comp (by kernel_rfl)
  · cases h; exact mkF_comp (by kernel_rfl)
  · cases h; exact mkF_comp (by kernel_rfl)
  · cases h; exact mkF_comp (by kernel_rfl)
  · cases h; exact mkF_comp (by kernel_rfl)
  · cases h; exact mkF_comp (by kernel_rfl)
  · cases h; exact mkF_comp (by kernel_rfl)
  · cases h; exact mkF_comp (by kernel_rfl)
  · cases h; exact mkF_comp (by kernel_rfl)
  · cases h; exact mkF_comp (by kernel_rfl)
  · cases h; exact mkF_comp (by kernel_rfl)
  · cases h; exact mkF_comp (by kernel_rfl)
  · cases h
theorem law_done {g : FuncId} {fn : RFn} (ht : tab0 g = some fn) {args : List PV} (ha : okVL args = true) (hl : args.length ≤ fn.nt)
    (hr : runK (cfg0 B0 fun _ => .cl) fn .cl noHandler 0 (args.map KV.cv) () = some (.bool true, ())) {I : Nat → Prop} {w : World} {vs : List Value}
    (hI : ∀ b, I b → b < w.heap.size) (hw : cx0.Wd I w) (hrep : RepL w I (fun _ => none) none args vs) :
    Calls cx0.P g vs.toArray w fun e w' => e = .returned (.bool true) ∧ LawEnd w w' := by
  obtain ⟨n, hn⟩ := law_of_run (cfg_ok fun _ => .cl) ht ha hl hr
  exact law_calls (fn_ok sp_ok sp_loc tab_ok n) hn hI hw hrep
def Told (fn : RFn) (Ds : List DTy) : Prop := ∀ us, HasVs Ds us → okVL us = true ∧ us.length ≤ fn.nt ∧ runK (cfg0 B0 fun _ => .cl) fn .cl noHandler 0 (us.map KV.cv) () = some (.bool true, ())
end Go.Ab.Derive


namespace Go.Ab.Derive
open Go Go.Ab
def arrD : DTy := .struct [.bool, .bool, .slice (.int .i64)]
theorem ints_of : ∀ (xs : List PV), (∀ x ∈ xs, HasV (.int .i64) x) → ∃ l, xs = ints l
  | [], _ => ⟨[], rfl⟩
  | x :: xs, h => by
    obtain ⟨n, rfl, _⟩ := h x List.mem_cons_self
    obtain ⟨l, rfl⟩ := ints_of xs fun y hy => h y (List.mem_cons_of_mem _ hy)
    exact ⟨n :: l, rfl⟩
theorem arr_of {v : PV} (h : HasV arrD v) : ∃ a, IsA v a := by
  obtain ⟨vs, rfl, b, r, rfl, ⟨b, rfl⟩, c, r, rfl, ⟨c, rfl⟩, x, r, rfl, hx, rfl⟩ := h
  have key : ∃ l, IsL x l ∧ x.cells = [x] := by
    rcases hx with rfl | ⟨xs, rfl, _, hx⟩
    · exact ⟨[], .nil, rfl⟩
    · obtain ⟨l, rfl⟩ := ints_of xs hx
      exact ⟨l, .sl l false, rfl⟩
  obtain ⟨l, h1, h2⟩ := key
  refine ⟨⟨b, c, l⟩, ?_⟩
  rw [show cellsL [PV.bool b, PV.bool c, x] = [.bool b, .bool c, x] by simp only [cellsL, h2]; rfl]
  exact .mk _ _ _ _ h1
theorem arrs_of : ∀ (xs : List PV), (∀ x ∈ xs, HasV arrD x) → ∃ l, AllA xs l
  | [], _ => ⟨[], .nil⟩
  | x :: xs, h => by
    obtain ⟨a, ha⟩ := arr_of (h x List.mem_cons_self)
    obtain ⟨l, hl⟩ := arrs_of xs fun y hy => h y (List.mem_cons_of_mem _ hy)
    exact ⟨a :: l, .cons ha hl⟩
theorem told_back : Told fn10 [arrD] := by
  rintro us ⟨_, _, rfl, ha, rfl⟩
  obtain ⟨a, ha⟩ := arr_of ha
  exact ⟨by simp [okVL, ha.ok], Nat.le_of_ble_eq_true rfl, law_back ha⟩
theorem told_gathers : Told fn9 [arrD, .slice arrD, .bool, .bool] := by
  rintro us ⟨_, _, rfl, ha, x, _, rfl, hx, _, _, rfl, ⟨b, rfl⟩, _, _, rfl, ⟨c, rfl⟩, rfl⟩
  obtain ⟨a, ha⟩ := arr_of ha
  have : ∃ l, IsB x l := by
    rcases hx with rfl | ⟨xs, rfl, _, hx⟩
    · exact ⟨[], .nil⟩
    · obtain ⟨l, hl⟩ := arrs_of xs hx
      exact ⟨l, .sl _ hl⟩
  obtain ⟨l, hl⟩ := this
  exact ⟨by simp [okVL, okV, ha.ok, hl.ok], Nat.le_of_ble_eq_true rfl, law_gathers ha hl b c⟩
end Go.Ab.Derive


namespace Go.Ab.Derive
open Go Go.Ab Go.Proofs Go.Proofs.YtbeonejdegijfaaGreatDoor Go.ChangeShapes Go.WideShapes Go.RowKit
theorem p_own : ownKnob Tryz.prog.godebug = none := by kernel_rfl
theorem p_et : Tryz.prog.globalNamed "errors.errorType" = some 0 := by kernel_rfl
theorem p_p : Tryz.prog.globalNamed "internal/strconv.uint64pow10" = some 6 := by kernel_rfl
theorem p_pt : (Tryz.prog.globals[6]?).map (·.type) = some 245 := by kernel_rfl
theorem p_rt : (Tryz.prog.cutTypes.find? (·.1 == "internal/reflectlite.rtype")).map (·.2) = some 200 := by kernel_rfl
theorem p_oneRow : ((List.range 296).filter fun t => Tryz.prog.rowNamed t [101, 114, 114, 111, 114]) = [63] := by kernel_rfl
theorem p_size : Tryz.prog.types.size = 296 := by kernel_rfl
theorem p_cS : Tryz.prog.cellsOf 284 = 1 := by kernel_rfl
theorem p_cs : Tryz.prog.cellsOf 9 = 1 := by kernel_rfl
theorem p_star : "*" ++ "errors.errorString" = "*errors.errorString" := by decide
theorem p_row (u : TypeId) (h : Tryz.prog.typeName? 3 u = some "*errors.errorString") : u = 265 :=
  typeName_ptr_named (nm := "errors.errorString") (by rw [p_star]; kernel_rfl) (by kernel_rfl) (by decide) u (by rw [p_star]; exact h)
theorem row_of_var {W : World} {n : String} {g : Nat} {cs : Array Value} (hg : Tryz.prog.globalNamed n = some g) (h : W.var? Tryz.prog n = some cs) : ∃ E fr, W.heap[g]? = some (.cells cs E fr) := by
  unfold World.var? at h
  rw [hg] at h
  simp only [Option.bind_some] at h
  split at h
  · rename_i cs' E fr hh
    cases h
    exact ⟨E, fr, hh⟩
  · cases h
theorem in_heap {W : World} {b : Nat} {o : Obj} (h : W.heap[b]? = some o) : b < W.heap.size := (Array.getElem?_eq_some_iff.1 h).1
theorem p_e0 : Tryz.prog.globalNamed "diaeresis/number.errOver" = some 1 := by kernel_rfl
theorem p_t0 : (Tryz.prog.globals[1]?).map (·.type) = some 63 := by kernel_rfl
theorem p_e1 : Tryz.prog.globalNamed "diaeresis/number.errDivide" = some 2 := by kernel_rfl
theorem p_t1 : (Tryz.prog.globals[2]?).map (·.type) = some 63 := by kernel_rfl
set_option maxRecDepth 100000 in
theorem wd_of_laid {W : World} (hsh : W.ShapedOpen Tryz.prog) (h : laidMetH Tryz.prog Rows.deriveBackRow.laid W) : cx0.Wd (fun b => b < W.heap.size) W := by
  have h' : handlesMet Tryz.prog [("errors.errorType", Rows.laid_errors_errorType)] W := h.2
  have hd : laidMet Tryz.prog [("math/bits.deBruijn32tab", Rows.laid_math_bits_deBruijn32tab), ("math/bits.deBruijn64tab", Rows.laid_math_bits_deBruijn64tab), ("internal/strconv.uint64pow10", Rows.laid_internal_strconv_uint64pow10), ("unicode/utf8.acceptRanges", Rows.laid_unicode_utf8_acceptRanges), ("diaeresis/number.errOver", Rows.laid_diaeresis_number_errOver), ("diaeresis/number.errDivide", Rows.laid_diaeresis_number_errDivide), ("unicode/utf8.first", Rows.laid_unicode_utf8_first)] W := h.1
  have hs := hd.filter fun x => x.1 == "diaeresis/number.errOver" || x.1 == "diaeresis/number.errDivide"
  have hp := hd.filter fun x => x.1 == "internal/strconv.uint64pow10"
  have hs : laidMet Tryz.prog [("diaeresis/number.errOver", Rows.laid_diaeresis_number_errOver), ("diaeresis/number.errDivide", Rows.laid_diaeresis_number_errDivide)] W := hs
  have hp : laidMet Tryz.prog [("internal/strconv.uint64pow10", Lib.tabData .u64 Lib.pow10Tab)] W := hp
  obtain ⟨name, u, ty, e1, e2, e3, e4, e5⟩ := h' _ (List.mem_singleton.2 rfl)
  have en : name = [101, 114, 114, 111, 114] := (Option.some.inj e1).symm
  subst en
  obtain rfl := Option.some.inj (p_rt.symm.trans e2)
  have hm : ty ∈ (List.range 296).filter fun t => Tryz.prog.rowNamed t [101, 114, 114, 111, 114] := List.mem_filter.2 ⟨List.mem_range.2 (by rw [← p_size]; exact e3), e4⟩
  rw [p_oneRow] at hm
  obtain rfl := List.mem_singleton.1 hm
  have hh : typeHandle Tryz.prog 63 = .pointer (some ⟨9, 63, none⟩) := by kernel_rfl
  rw [hh] at e5
  have h0 : W.cell? ⟨0, 0, none⟩ = some et0 := by simpa [et0] using World.var?_cell p_et e5 0
  have i0 : 0 < W.heap.size := by
    rcases Nat.lt_or_ge 0 W.heap.size with h | h
    · exact h
    · simp [World.cell?, Array.getElem?_eq_none h] at h0
  have hpw : Lib.TabIs Tryz.prog W "internal/strconv.uint64pow10" .u64 Lib.pow10Tab := Lib.tabIs_of_head p_p p_pt Tryz.underlying245 Tryz.underlying190 (by kernel_rfl) (by kernel_rfl) hp
  obtain ⟨E3, f3, r3⟩ := row_of_var p_p hpw
  obtain ⟨a0, a1, s0, s1, c0, c1, t0, t1, hv0, hv1, hc0, hs0, hz0, hc1, hs1, hz1, hne, hb0, hb1⟩ := laid_sentinels2 hs p_e0 p_t0 p_e1 p_t1 Tryz.underlying63 p_row Tryz.underlying265 Tryz.underlying284 rfl rfl Tryz.underlying9 p_cS p_cs
  obtain ⟨E1, f1, r1⟩ := row_of_var p_e0 hv0
  obtain ⟨E2, f2, r2⟩ := row_of_var p_e1 hv1
  have hml : ∃ m, W.cell? ⟨3, 0, none⟩ = some (.int .i64 m) := cell_of_shapedOpen_int hsh (g := 3) (t := 3) (zero := #[.int .i64 0]) (of_decide_eq_true (by kernel_rfl)) (by kernel_rfl) rfl (by kernel_rfl) (by kernel_rfl) Tryz.underlying3
  exact ⟨⟨fun g => if g = 1 then a0 else a1, fun g hg => by
      rcases List.mem_cons.1 hg with rfl | hg
      · exact ⟨in_heap r1, in_heap hb0, ⟨E1, f1, r1⟩, c0, t0, hb0⟩
      · obtain rfl := List.mem_singleton.1 hg
        exact ⟨in_heap r2, in_heap hb1, ⟨E2, f2, r2⟩, c1, t1, hb1⟩, fun g hg g' hg' hn => by
      simp only [List.mem_cons, List.not_mem_nil, or_false] at hg hg'
      rcases hg with rfl | rfl <;> rcases hg' with rfl | rfl
      · exact absurd rfl hn
      · exact hne
      · exact hne.symm
      · exact absurd rfl hn⟩, ⟨i0, h0⟩, fun p hp => by
    obtain rfl := List.mem_singleton.1 hp
    exact ⟨in_heap r3, E3, f3, r3⟩, fun g hg => by
    obtain rfl := List.mem_singleton.1 hg
    refine ⟨?_, hml⟩
    obtain ⟨m, hm⟩ := hml
    rcases Nat.lt_or_ge 3 W.heap.size with h | h
    · exact h
    · simp [World.cell?, Array.getElem?_eq_none h] at hm⟩
theorem change_and_shaped {H : Type} {enc : TypeId × Value → H} {C : Checked} {os : Os} {f : FuncId} {fn : Func} {s : ChangeSpec} {conds : List PathCond} {apart fresh handsOn again : Bool} {X : World → Array Value → Prop}
    (hX : ∀ (w w' : World) (args : Array Value), w.heap = w'.heap → X w args → X w' args)
    (own : ownKnob C.prog.godebug = none) (started : os.Started) (noInit : C.prog.inits.idxOf? f = none) (hfn : C.prog.funcs[f]? = some fn)
    (witness : ∃ (w : World) (tape : Tape) (i : Input), w.os = os ∧ (w.forCall tape i).Shaped C.prog ∧ i.vars = [] ∧ Input.okWide C.prog (w.forCall tape i) .any w.heap.size f i ∧
      ((s.pre enc C.prog fn conds apart (w.forCall tape i).memory i.args ∧ X (w.forCall tape i).memory i.args) ∧ sizedMet enc C.prog fn (OpenSpec.ofChange s) apart (w.forCall tape i).memory i.args) ∧ ({} : Assume).holds C.prog (lone (Frame.enter C.prog f i.args .normal) [] (w.forCall tape i)))
    (contract : ∀ (W : World) (base : Nat) (args : Array Value) (ds gs : List (DataW H)) (before : List MemPlace),
      (∀ (j : Nat) t v, fn.params[j]? = some t → args[j]? = some v → Value.okWide C.prog W .any base t v) →
      DataW.Whole enc C.prog fn.params.toList s.vars apart W args.toList ds gs before → X W args → W.ShapedOpen C.prog →
      Calls C.prog f args W fun e W' => ∃ v, e = .returned v ∧ s.post enc C.prog fn apart fresh handsOn again W args v W') :
    ReturnsInHanded {} C os f .any (fun w args => (s.pre enc C.prog fn conds apart w args ∧ X w args) ∧ sizedMet enc C.prog fn (OpenSpec.ofChange s) apart w args) (s.post enc C.prog fn apart fresh handsOn again) := by
  refine returnsInHanded_of_calls own started noInit witness ?_
  intro w tape i _ hsh _ hok hpre _
  obtain ⟨_, _, _, fn', hfn', _, _, _, _, hval⟩ := hok
  have e : fn' = fn := Option.some.inj (hfn'.symm.trans hfn)
  subst e
  obtain ⟨⟨⟨ds, gs, before, hw, hc⟩, hx⟩, hz⟩ := hpre
  have hw' := DataW.Whole.of_heap (w' := w.forCall tape i) (by rfl) hw
  refine (contract (w.forCall tape i) w.heap.size i.args ds gs before hval hw' (hX _ _ _ (by rfl) hx) hsh).mono fun e W' ⟨v, he, hp⟩ => ?_
  subst he
  exact ChangeSpec.post_blind hp
mutual
def tabCells : DataW Unit → List Value
  | .lit (.int k n) => [.int k n]
  | .agg ds => tabCellsL ds
  | _ => []
def tabCellsL : List (DataW Unit) → List Value
  | [] => []
  | d :: ds => tabCells d ++ tabCellsL ds
end
def textOf : DataW Unit → ByteArray
  | .iface _ (.ptr (.agg [.lit (.string s)])) => ⟨s.toArray⟩
  | _ => ⟨#[]⟩
def putTab (h : Array Obj) (i : Nat) (d : DataW Unit) : Array Obj := h.modify i fun
  | .cells _ t frozen => .cells (tabCells d).toArray t frozen
  | o => o
def putCell (h : Array Obj) (i : Nat) (v : Value) : Array Obj := h.modify i fun
  | .cells _ t frozen => .cells #[v] t frozen
  | o => o
noncomputable def low : Nat := (World.holding Tryz.prog default ⟨#[], #[], []⟩).heap.size
noncomputable def laidWorld (os : Os) : World :=
  let w0 := World.holding Tryz.prog os ⟨#[.cells #[.string (textOf Rows.laid_diaeresis_number_errOver)] 284, .cells #[.string (textOf Rows.laid_diaeresis_number_errDivide)] 284], #[], []⟩
  let h0 := putCell w0.heap 0 (.iface 200 (.agg #[.pointer (some ⟨9, 63, none⟩)]))
  let h1 := putCell (putCell (h0) 1 (.iface 265 (.pointer (some ⟨low + 0, 0, none⟩)))) 2 (.iface 265 (.pointer (some ⟨low + 1, 0, none⟩)))
  { w0 with heap := putTab (putTab (putTab (putTab (putTab (h1) 7 Rows.laid_math_bits_deBruijn32tab) 8 Rows.laid_math_bits_deBruijn64tab) 6 Rows.laid_internal_strconv_uint64pow10) 5 Rows.laid_unicode_utf8_acceptRanges) 4 Rows.laid_unicode_utf8_first }
theorem laidWorld_met (os : Os) (args : Array Value) : laidMetH Tryz.prog Rows.deriveBackRow.laid ((laidWorld os).forCall (fun _ _ => 0) ⟨#[], args, []⟩).memory :=
  laidMetH_of_parts (laidMet_of_run' 8 (by kernel_rfl) (by kernel_rfl)) (by kernel_rfl)
end Go.Ab.Derive

