/-
  Part 8 of a proof: a machine of our own for the given program, its laws, and what it says of the program. Nothing here is a claim by itself.
-/
import Derived.Test.YtfeimbgcjimjdaaGreatDoorK07
import Derived.Test.YtfeimbgcjimjdaaGreatDoorRows
import Derived.ProofKit
import Derived.ChangeMaps5
import Derived.ChangeSame
import Derived.ChangeVars
import Derived.JoinedOf
import Derived.RowKit
import Derived.RowKitTokens
import Derived.LaidLaws
import Derived.LaidHandle
import Derived.Stop.Joined
import Derived.Carry
import Derived.Stop.LaidTwo
import Derived.Stop.LaidErr
import Derived.LaidSub
import Derived.Lib.LaidTab
import Derived.Shelf.Vars
import Derived.Handed
set_option linter.all false

namespace Go.Ab.Arrays
open Go Go.Ab
theorem rbit_run (b : Bool) : callO B0 .cl (.fn 53 []) [.bool b] = some (I (bitI b)) := by
  refine call (d := fun _ => .cl) rfl (by decide) rfl rfl ?_
  rw [List.map_cons, List.map_nil, run53]
  cases b <;> rfl
theorem rcmp_gEq (x y : Int) : callO B0 .cl (.fn 94 []) [.str gEq, I x, I y] = some (I (bitI (nCmp gEq x y))) := by
  refine call (d := fun _ => .cl) rfl (by decide) rfl rfl ?_
  rw [List.map_cons, List.map_cons, List.map_cons, List.map_nil, run94]
  simp only [show pureO (.bin .eql .str true (.c (.str gEq)) (.c (.str [61]))) = some (.bool true) from rfl, bV, iteP_true, iteP_false, I_eql, I_neq, I_lss, I_gtr, I_leq, I_geq, rbit_run]
  rfl
theorem rcmp_gNe (x y : Int) : callO B0 .cl (.fn 94 []) [.str gNe, I x, I y] = some (I (bitI (nCmp gNe x y))) := by
  refine call (d := fun _ => .cl) rfl (by decide) rfl rfl ?_
  rw [List.map_cons, List.map_cons, List.map_cons, List.map_nil, run94]
  simp only [show pureO (.bin .eql .str true (.c (.str gNe)) (.c (.str [61]))) = some (.bool false) from rfl, show pureO (.bin .eql .str true (.c (.str gNe)) (.c (.str [226, 137, 160]))) = some (.bool true) from rfl, bV, iteP_true, iteP_false, I_eql, I_neq, I_lss, I_gtr, I_leq, I_geq, rbit_run]
  rfl
theorem rcmp_gLt (x y : Int) : callO B0 .cl (.fn 94 []) [.str gLt, I x, I y] = some (I (bitI (nCmp gLt x y))) := by
  refine call (d := fun _ => .cl) rfl (by decide) rfl rfl ?_
  rw [List.map_cons, List.map_cons, List.map_cons, List.map_nil, run94]
  simp only [show pureO (.bin .eql .str true (.c (.str gLt)) (.c (.str [61]))) = some (.bool false) from rfl, show pureO (.bin .eql .str true (.c (.str gLt)) (.c (.str [226, 137, 160]))) = some (.bool false) from rfl, show pureO (.bin .eql .str true (.c (.str gLt)) (.c (.str [60]))) = some (.bool true) from rfl, bV, iteP_true, iteP_false, I_eql, I_neq, I_lss, I_gtr, I_leq, I_geq, rbit_run]
  rfl
theorem rcmp_gGt (x y : Int) : callO B0 .cl (.fn 94 []) [.str gGt, I x, I y] = some (I (bitI (nCmp gGt x y))) := by
  refine call (d := fun _ => .cl) rfl (by decide) rfl rfl ?_
  rw [List.map_cons, List.map_cons, List.map_cons, List.map_nil, run94]
  simp only [show pureO (.bin .eql .str true (.c (.str gGt)) (.c (.str [61]))) = some (.bool false) from rfl, show pureO (.bin .eql .str true (.c (.str gGt)) (.c (.str [226, 137, 160]))) = some (.bool false) from rfl, show pureO (.bin .eql .str true (.c (.str gGt)) (.c (.str [60]))) = some (.bool false) from rfl, show pureO (.bin .eql .str true (.c (.str gGt)) (.c (.str [62]))) = some (.bool true) from rfl, bV, iteP_true, iteP_false, I_eql, I_neq, I_lss, I_gtr, I_leq, I_geq, rbit_run]
  rfl
theorem rcmp_gLe (x y : Int) : callO B0 .cl (.fn 94 []) [.str gLe, I x, I y] = some (I (bitI (nCmp gLe x y))) := by
  refine call (d := fun _ => .cl) rfl (by decide) rfl rfl ?_
  rw [List.map_cons, List.map_cons, List.map_cons, List.map_nil, run94]
  simp only [show pureO (.bin .eql .str true (.c (.str gLe)) (.c (.str [61]))) = some (.bool false) from rfl, show pureO (.bin .eql .str true (.c (.str gLe)) (.c (.str [226, 137, 160]))) = some (.bool false) from rfl, show pureO (.bin .eql .str true (.c (.str gLe)) (.c (.str [60]))) = some (.bool false) from rfl, show pureO (.bin .eql .str true (.c (.str gLe)) (.c (.str [62]))) = some (.bool false) from rfl, show pureO (.bin .eql .str true (.c (.str gLe)) (.c (.str [226, 137, 164]))) = some (.bool true) from rfl, bV, iteP_true, iteP_false, I_eql, I_neq, I_lss, I_gtr, I_leq, I_geq, rbit_run]
  have e : decide (x ≤ y) = nCmp gLe x y := by
    rw [show nCmp gLe x y = (x == y || decide (x < y)) from rfl]
    by_cases h : x = y
    · subst h; simp
    · by_cases h2 : x < y
      · have h3 : x ≤ y := by omega
        simp [h2, h3]
      · have h3 : ¬ x ≤ y := by omega
        simp [h, h2, h3]
  rw [e]
theorem rcmp_gGe (x y : Int) : callO B0 .cl (.fn 94 []) [.str gGe, I x, I y] = some (I (bitI (nCmp gGe x y))) := by
  refine call (d := fun _ => .cl) rfl (by decide) rfl rfl ?_
  rw [List.map_cons, List.map_cons, List.map_cons, List.map_nil, run94]
  simp only [show pureO (.bin .eql .str true (.c (.str gGe)) (.c (.str [61]))) = some (.bool false) from rfl, show pureO (.bin .eql .str true (.c (.str gGe)) (.c (.str [226, 137, 160]))) = some (.bool false) from rfl, show pureO (.bin .eql .str true (.c (.str gGe)) (.c (.str [60]))) = some (.bool false) from rfl, show pureO (.bin .eql .str true (.c (.str gGe)) (.c (.str [62]))) = some (.bool false) from rfl, show pureO (.bin .eql .str true (.c (.str gGe)) (.c (.str [226, 137, 164]))) = some (.bool false) from rfl, bV, iteP_true, iteP_false, I_eql, I_neq, I_lss, I_gtr, I_leq, I_geq, rbit_run]
  have e : decide (y ≤ x) = nCmp gGe x y := by
    rw [show nCmp gGe x y = (x == y || decide (y < x)) from rfl]
    by_cases h : x = y
    · subst h; simp
    · by_cases h2 : y < x
      · have h3 : y ≤ x := by omega
        simp [h2, h3]
      · have h3 : ¬ y ≤ x := by omega
        simp [h, h2, h3]
  rw [e]
theorem max_pv (x y : Int) : pureO (.minmax true [.c (I x), .c (I y)]) = some (I (max x y)) := by
  simp only [pureO, exec, List.map_cons, List.map_nil, RX.ev, foldMM, I]
  by_cases h : y > x
  · simp [h, Int.max_eq_right (by omega : x ≤ y)]; rfl
  · simp [h, Int.max_eq_left (by omega : y ≤ x)]; rfl
theorem min_pv (x y : Int) : pureO (.minmax false [.c (I x), .c (I y)]) = some (I (min x y)) := by
  simp only [pureO, exec, List.map_cons, List.map_nil, RX.ev, foldMM, I]
  by_cases h : y < x
  · simp [h, Int.min_eq_right (by omega : y ≤ x)]; rfl
  · simp [h, Int.min_eq_left (by omega : x ≤ y)]; rfl
def bits (x y : Int) : Bool := decide (0 ≤ x) && (decide (x ≤ 1) && (decide (0 ≤ y) && decide (y ≤ 1)))
theorem bits_fdiv (x y : Int) : ((x.fdiv 2 == 0) && (y.fdiv 2 == 0)) = bits x y := by
  have h : ∀ z : Int, (z.fdiv 2 == 0) = (decide (0 ≤ z) && decide (z ≤ 1)) := fun z => by
    rw [Int.fdiv_eq_ediv_of_nonneg _ (by decide)]
    by_cases h1 : 0 ≤ z <;> by_cases h2 : z ≤ 1 <;> simp [h1, h2] <;> omega
  rw [h, h]
  unfold bits
  cases decide (0 ≤ x) <;> cases decide (x ≤ 1) <;> rfl
theorem bits_vals {x y : Int} (h : bits x y = true) : (x = 0 ∨ x = 1) ∧ (y = 0 ∨ y = 1) := by
  unfold bits at h
  simp only [Bool.and_eq_true, decide_eq_true_eq] at h
  omega
theorem and_min {x y : Int} (h : bits x y = true) : andI x y = min x y := by
  obtain ⟨h1, h2⟩ := bits_vals h
  rcases h1 with rfl | rfl <;> rcases h2 with rfl | rfl <;> decide
theorem or_max {x y : Int} (h : bits x y = true) : orI x y = max x y := by
  obtain ⟨h1, h2⟩ := bits_vals h
  rcases h1 with rfl | rfl <;> rcases h2 with rfl | rfl <;> decide
theorem nres_0 (r : Int × NE) : pureO (.extract 0 (.c (nres r))) = some (I r.1) := rfl
theorem nres_1 (r : Int × NE) : pureO (.extract 1 (.c (nres r))) = some (I r.2.no) := rfl
theorem bits_run (x y : Int) : bindO (pureO (.bin .geq .num true (.c (I x)) (.c (I 0)))) (fun z3 => iteP z3 (bindO (pureO (.bin .leq .num true (.c (I x)) (.c (I 1)))) (fun z4 => iteP z4 (bindO (pureO (.bin .geq .num true (.c (I y)) (.c (I 0)))) (fun z5 => iteP z5 (bindO (pureO (.bin .leq .num true (.c (I y)) (.c (I 1)))) (fun z6 => some z6)) (some (.bool false)))) (some (.bool false)))) (some (.bool false))) = some (.bool (bits x y)) := by
  simp only [I_geq, I_leq, bV, iteP_bool]
  unfold bits
  cases decide (0 ≤ x) <;> cases decide (x ≤ 1) <;> cases decide (0 ≤ y) <;> simp
theorem rdy_run (g : List UInt8) {x y : Int} (hx : inR x) (hy : inR y) : callO B0 .cl (.fn 55 []) [.str g, I x, I y] = some (nres (nDy g x y)) := by
  refine call (d := fun _ => .cl) rfl (by decide) rfl rfl ?_
  rw [List.map_cons, List.map_cons, List.map_cons, List.map_nil, run55, rIsDy_run]
  simp only [bV, pure_not, iteP_bool, iD]
  rw [bits_run]
  simp only [bV]
  by_cases h0 : g = gAdd
  · subst h0
    simp only [show isDyad gAdd = true from rfl, Bool.not_true, Bool.false_eq_true, if_false, show pureO (.bin .eql .str true (.c (.str gAdd)) (.c (.str [43]))) = some (.bool true) from rfl, bV, iteP_true, iteP_false, radd_run hx hy, nres_0, nres_1]
    rfl
  by_cases h1 : g = gSub
  · subst h1
    simp only [show isDyad gSub = true from rfl, Bool.not_true, Bool.false_eq_true, if_false, show pureO (.bin .eql .str true (.c (.str gSub)) (.c (.str [43]))) = some (.bool false) from rfl, show pureO (.bin .eql .str true (.c (.str gSub)) (.c (.str [45]))) = some (.bool true) from rfl, bV, iteP_true, iteP_false, rtake_run hx hy, nres_0, nres_1]
    rfl
  by_cases h2 : g = gMul
  · subst h2
    simp only [show isDyad gMul = true from rfl, Bool.not_true, Bool.false_eq_true, if_false, show pureO (.bin .eql .str true (.c (.str gMul)) (.c (.str [43]))) = some (.bool false) from rfl, show pureO (.bin .eql .str true (.c (.str gMul)) (.c (.str [45]))) = some (.bool false) from rfl, show pureO (.bin .eql .str true (.c (.str gMul)) (.c (.str [195, 151]))) = some (.bool true) from rfl, bV, iteP_true, iteP_false, rtimes_run hx hy, nres_0, nres_1]
    rfl
  by_cases h3 : g = gDiv
  · subst h3
    simp only [show isDyad gDiv = true from rfl, Bool.not_true, Bool.false_eq_true, if_false, show pureO (.bin .eql .str true (.c (.str gDiv)) (.c (.str [43]))) = some (.bool false) from rfl, show pureO (.bin .eql .str true (.c (.str gDiv)) (.c (.str [45]))) = some (.bool false) from rfl, show pureO (.bin .eql .str true (.c (.str gDiv)) (.c (.str [195, 151]))) = some (.bool false) from rfl, show pureO (.bin .eql .str true (.c (.str gDiv)) (.c (.str [195, 183]))) = some (.bool true) from rfl, bV, iteP_true, iteP_false, rdivide_run hx, nres_0, nres_1]
    rfl
  by_cases h4 : g = gMax
  · subst h4
    simp only [show isDyad gMax = true from rfl, Bool.not_true, Bool.false_eq_true, if_false, show pureO (.bin .eql .str true (.c (.str gMax)) (.c (.str [43]))) = some (.bool false) from rfl, show pureO (.bin .eql .str true (.c (.str gMax)) (.c (.str [45]))) = some (.bool false) from rfl, show pureO (.bin .eql .str true (.c (.str gMax)) (.c (.str [195, 151]))) = some (.bool false) from rfl, show pureO (.bin .eql .str true (.c (.str gMax)) (.c (.str [195, 183]))) = some (.bool false) from rfl, show pureO (.bin .eql .str true (.c (.str gMax)) (.c (.str [226, 140, 136]))) = some (.bool true) from rfl, bV, iteP_true, iteP_false, max_pv]
    rfl
  by_cases h5 : g = gMin
  · subst h5
    simp only [show isDyad gMin = true from rfl, Bool.not_true, Bool.false_eq_true, if_false, show pureO (.bin .eql .str true (.c (.str gMin)) (.c (.str [43]))) = some (.bool false) from rfl, show pureO (.bin .eql .str true (.c (.str gMin)) (.c (.str [45]))) = some (.bool false) from rfl, show pureO (.bin .eql .str true (.c (.str gMin)) (.c (.str [195, 151]))) = some (.bool false) from rfl, show pureO (.bin .eql .str true (.c (.str gMin)) (.c (.str [195, 183]))) = some (.bool false) from rfl, show pureO (.bin .eql .str true (.c (.str gMin)) (.c (.str [226, 140, 136]))) = some (.bool false) from rfl, show pureO (.bin .eql .str true (.c (.str gMin)) (.c (.str [226, 140, 138]))) = some (.bool true) from rfl, bV, iteP_true, iteP_false, min_pv]
    rfl
  by_cases h6 : g = gRes
  · subst h6
    simp only [show isDyad gRes = true from rfl, Bool.not_true, Bool.false_eq_true, if_false, show pureO (.bin .eql .str true (.c (.str gRes)) (.c (.str [43]))) = some (.bool false) from rfl, show pureO (.bin .eql .str true (.c (.str gRes)) (.c (.str [45]))) = some (.bool false) from rfl, show pureO (.bin .eql .str true (.c (.str gRes)) (.c (.str [195, 151]))) = some (.bool false) from rfl, show pureO (.bin .eql .str true (.c (.str gRes)) (.c (.str [195, 183]))) = some (.bool false) from rfl, show pureO (.bin .eql .str true (.c (.str gRes)) (.c (.str [226, 140, 136]))) = some (.bool false) from rfl, show pureO (.bin .eql .str true (.c (.str gRes)) (.c (.str [226, 140, 138]))) = some (.bool false) from rfl, show pureO (.bin .eql .str true (.c (.str gRes)) (.c (.str [124]))) = some (.bool true) from rfl, bV, iteP_true, iteP_false, rresidue_run]
    rfl
  by_cases h7 : g = gAnd
  · subst h7
    have e : nDy gAnd x y = nLogic gAnd x y := rfl
    rw [e]
    unfold nLogic
    rw [bits_fdiv]
    simp only [show isDyad gAnd = true from rfl, Bool.not_true, Bool.false_eq_true, if_false, show pureO (.bin .eql .str true (.c (.str gAnd)) (.c (.str [43]))) = some (.bool false) from rfl, show pureO (.bin .eql .str true (.c (.str gAnd)) (.c (.str [45]))) = some (.bool false) from rfl, show pureO (.bin .eql .str true (.c (.str gAnd)) (.c (.str [195, 151]))) = some (.bool false) from rfl, show pureO (.bin .eql .str true (.c (.str gAnd)) (.c (.str [195, 183]))) = some (.bool false) from rfl, show pureO (.bin .eql .str true (.c (.str gAnd)) (.c (.str [226, 140, 136]))) = some (.bool false) from rfl, show pureO (.bin .eql .str true (.c (.str gAnd)) (.c (.str [226, 140, 138]))) = some (.bool false) from rfl, show pureO (.bin .eql .str true (.c (.str gAnd)) (.c (.str [124]))) = some (.bool false) from rfl, show pureO (.bin .eql .str true (.c (.str gAnd)) (.c (.str [226, 136, 167]))) = some (.bool true) from rfl, bV, iteP_true, iteP_false, pure_not, iteP_bool, min_pv, max_pv]
    cases hb : bits x y with
    | false => rfl
    | true =>
      simp only [and_min hb]
      rfl
  by_cases h8 : g = gOr
  · subst h8
    have e : nDy gOr x y = nLogic gOr x y := rfl
    rw [e]
    unfold nLogic
    rw [bits_fdiv]
    simp only [show isDyad gOr = true from rfl, Bool.not_true, Bool.false_eq_true, if_false, show pureO (.bin .eql .str true (.c (.str gOr)) (.c (.str [43]))) = some (.bool false) from rfl, show pureO (.bin .eql .str true (.c (.str gOr)) (.c (.str [45]))) = some (.bool false) from rfl, show pureO (.bin .eql .str true (.c (.str gOr)) (.c (.str [195, 151]))) = some (.bool false) from rfl, show pureO (.bin .eql .str true (.c (.str gOr)) (.c (.str [195, 183]))) = some (.bool false) from rfl, show pureO (.bin .eql .str true (.c (.str gOr)) (.c (.str [226, 140, 136]))) = some (.bool false) from rfl, show pureO (.bin .eql .str true (.c (.str gOr)) (.c (.str [226, 140, 138]))) = some (.bool false) from rfl, show pureO (.bin .eql .str true (.c (.str gOr)) (.c (.str [124]))) = some (.bool false) from rfl, show pureO (.bin .eql .str true (.c (.str gOr)) (.c (.str [226, 136, 167]))) = some (.bool false) from rfl, show pureO (.bin .eql .str true (.c (.str gOr)) (.c (.str [226, 136, 168]))) = some (.bool true) from rfl, show pureO (.bin .eql .str true (.c (.str gOr)) (.c (.str [226, 136, 167]))) = some (.bool false) from rfl, bV, iteP_true, iteP_false, pure_not, iteP_bool, min_pv, max_pv]
    cases hb : bits x y with
    | false => rfl
    | true =>
      simp only [or_max hb]
      rfl
  by_cases k0 : g = gEq
  · subst k0
    simp only [show isDyad gEq = true from rfl, Bool.not_true, Bool.false_eq_true, if_false, show pureO (.bin .eql .str true (.c (.str gEq)) (.c (.str [43]))) = some (.bool false) from rfl, show pureO (.bin .eql .str true (.c (.str gEq)) (.c (.str [45]))) = some (.bool false) from rfl, show pureO (.bin .eql .str true (.c (.str gEq)) (.c (.str [195, 151]))) = some (.bool false) from rfl, show pureO (.bin .eql .str true (.c (.str gEq)) (.c (.str [195, 183]))) = some (.bool false) from rfl, show pureO (.bin .eql .str true (.c (.str gEq)) (.c (.str [226, 140, 136]))) = some (.bool false) from rfl, show pureO (.bin .eql .str true (.c (.str gEq)) (.c (.str [226, 140, 138]))) = some (.bool false) from rfl, show pureO (.bin .eql .str true (.c (.str gEq)) (.c (.str [124]))) = some (.bool false) from rfl, show pureO (.bin .eql .str true (.c (.str gEq)) (.c (.str [226, 136, 167]))) = some (.bool false) from rfl, show pureO (.bin .eql .str true (.c (.str gEq)) (.c (.str [226, 136, 168]))) = some (.bool false) from rfl, bV, iteP_false, rcmp_gEq]
    rfl
  by_cases k1 : g = gNe
  · subst k1
    simp only [show isDyad gNe = true from rfl, Bool.not_true, Bool.false_eq_true, if_false, show pureO (.bin .eql .str true (.c (.str gNe)) (.c (.str [43]))) = some (.bool false) from rfl, show pureO (.bin .eql .str true (.c (.str gNe)) (.c (.str [45]))) = some (.bool false) from rfl, show pureO (.bin .eql .str true (.c (.str gNe)) (.c (.str [195, 151]))) = some (.bool false) from rfl, show pureO (.bin .eql .str true (.c (.str gNe)) (.c (.str [195, 183]))) = some (.bool false) from rfl, show pureO (.bin .eql .str true (.c (.str gNe)) (.c (.str [226, 140, 136]))) = some (.bool false) from rfl, show pureO (.bin .eql .str true (.c (.str gNe)) (.c (.str [226, 140, 138]))) = some (.bool false) from rfl, show pureO (.bin .eql .str true (.c (.str gNe)) (.c (.str [124]))) = some (.bool false) from rfl, show pureO (.bin .eql .str true (.c (.str gNe)) (.c (.str [226, 136, 167]))) = some (.bool false) from rfl, show pureO (.bin .eql .str true (.c (.str gNe)) (.c (.str [226, 136, 168]))) = some (.bool false) from rfl, bV, iteP_false, rcmp_gNe]
    rfl
  by_cases k2 : g = gLt
  · subst k2
    simp only [show isDyad gLt = true from rfl, Bool.not_true, Bool.false_eq_true, if_false, show pureO (.bin .eql .str true (.c (.str gLt)) (.c (.str [43]))) = some (.bool false) from rfl, show pureO (.bin .eql .str true (.c (.str gLt)) (.c (.str [45]))) = some (.bool false) from rfl, show pureO (.bin .eql .str true (.c (.str gLt)) (.c (.str [195, 151]))) = some (.bool false) from rfl, show pureO (.bin .eql .str true (.c (.str gLt)) (.c (.str [195, 183]))) = some (.bool false) from rfl, show pureO (.bin .eql .str true (.c (.str gLt)) (.c (.str [226, 140, 136]))) = some (.bool false) from rfl, show pureO (.bin .eql .str true (.c (.str gLt)) (.c (.str [226, 140, 138]))) = some (.bool false) from rfl, show pureO (.bin .eql .str true (.c (.str gLt)) (.c (.str [124]))) = some (.bool false) from rfl, show pureO (.bin .eql .str true (.c (.str gLt)) (.c (.str [226, 136, 167]))) = some (.bool false) from rfl, show pureO (.bin .eql .str true (.c (.str gLt)) (.c (.str [226, 136, 168]))) = some (.bool false) from rfl, bV, iteP_false, rcmp_gLt]
    rfl
  by_cases k3 : g = gGt
  · subst k3
    simp only [show isDyad gGt = true from rfl, Bool.not_true, Bool.false_eq_true, if_false, show pureO (.bin .eql .str true (.c (.str gGt)) (.c (.str [43]))) = some (.bool false) from rfl, show pureO (.bin .eql .str true (.c (.str gGt)) (.c (.str [45]))) = some (.bool false) from rfl, show pureO (.bin .eql .str true (.c (.str gGt)) (.c (.str [195, 151]))) = some (.bool false) from rfl, show pureO (.bin .eql .str true (.c (.str gGt)) (.c (.str [195, 183]))) = some (.bool false) from rfl, show pureO (.bin .eql .str true (.c (.str gGt)) (.c (.str [226, 140, 136]))) = some (.bool false) from rfl, show pureO (.bin .eql .str true (.c (.str gGt)) (.c (.str [226, 140, 138]))) = some (.bool false) from rfl, show pureO (.bin .eql .str true (.c (.str gGt)) (.c (.str [124]))) = some (.bool false) from rfl, show pureO (.bin .eql .str true (.c (.str gGt)) (.c (.str [226, 136, 167]))) = some (.bool false) from rfl, show pureO (.bin .eql .str true (.c (.str gGt)) (.c (.str [226, 136, 168]))) = some (.bool false) from rfl, bV, iteP_false, rcmp_gGt]
    rfl
  by_cases k4 : g = gLe
  · subst k4
    simp only [show isDyad gLe = true from rfl, Bool.not_true, Bool.false_eq_true, if_false, show pureO (.bin .eql .str true (.c (.str gLe)) (.c (.str [43]))) = some (.bool false) from rfl, show pureO (.bin .eql .str true (.c (.str gLe)) (.c (.str [45]))) = some (.bool false) from rfl, show pureO (.bin .eql .str true (.c (.str gLe)) (.c (.str [195, 151]))) = some (.bool false) from rfl, show pureO (.bin .eql .str true (.c (.str gLe)) (.c (.str [195, 183]))) = some (.bool false) from rfl, show pureO (.bin .eql .str true (.c (.str gLe)) (.c (.str [226, 140, 136]))) = some (.bool false) from rfl, show pureO (.bin .eql .str true (.c (.str gLe)) (.c (.str [226, 140, 138]))) = some (.bool false) from rfl, show pureO (.bin .eql .str true (.c (.str gLe)) (.c (.str [124]))) = some (.bool false) from rfl, show pureO (.bin .eql .str true (.c (.str gLe)) (.c (.str [226, 136, 167]))) = some (.bool false) from rfl, show pureO (.bin .eql .str true (.c (.str gLe)) (.c (.str [226, 136, 168]))) = some (.bool false) from rfl, bV, iteP_false, rcmp_gLe]
    rfl
  by_cases k5 : g = gGe
  · subst k5
    simp only [show isDyad gGe = true from rfl, Bool.not_true, Bool.false_eq_true, if_false, show pureO (.bin .eql .str true (.c (.str gGe)) (.c (.str [43]))) = some (.bool false) from rfl, show pureO (.bin .eql .str true (.c (.str gGe)) (.c (.str [45]))) = some (.bool false) from rfl, show pureO (.bin .eql .str true (.c (.str gGe)) (.c (.str [195, 151]))) = some (.bool false) from rfl, show pureO (.bin .eql .str true (.c (.str gGe)) (.c (.str [195, 183]))) = some (.bool false) from rfl, show pureO (.bin .eql .str true (.c (.str gGe)) (.c (.str [226, 140, 136]))) = some (.bool false) from rfl, show pureO (.bin .eql .str true (.c (.str gGe)) (.c (.str [226, 140, 138]))) = some (.bool false) from rfl, show pureO (.bin .eql .str true (.c (.str gGe)) (.c (.str [124]))) = some (.bool false) from rfl, show pureO (.bin .eql .str true (.c (.str gGe)) (.c (.str [226, 136, 167]))) = some (.bool false) from rfl, show pureO (.bin .eql .str true (.c (.str gGe)) (.c (.str [226, 136, 168]))) = some (.bool false) from rfl, bV, iteP_false, rcmp_gGe]
    rfl
  have e : isDyad g = false := by simp [isDyad, h0, h1, h2, h3, h4, h5, h6, h7, h8, k0, k1, k2, k3, k4, k5]
  have e2 : nDy g x y = (0, .dom g) := by simp [nDy, h0, h1, h2, h3, h4, h5, h6, h7, h8, k0, k1, k2, k3, k4, k5]
  rw [e, e2]
  rfl
theorem sub_bits (a b : Bool) : pureO (.bin .sub .num false (.c (I (bitI a))) (.c (I (bitI b)))) = some (I (i64 (bitI a - bitI b))) := rfl
theorem inR0 : inR 0 := by unfold inR; omega
theorem inR1 : inR 1 := by unfold inR; omega
theorem rmon_run (g : List UInt8) {y : Int} (hy : inR y) : callO B0 .cl (.fn 36 []) [.str g, I y] = some (nres (nMon g y)) := by
  refine call (d := fun _ => .cl) rfl (by decide) rfl rfl ?_
  rw [List.map_cons, List.map_cons, List.map_nil, run36, rIsMon_run]
  simp only [bV, pure_not, iteP_bool, iD]
  by_cases h0 : g = gAdd
  · subst h0
    simp only [show isMonad gAdd = true from rfl, Bool.not_true, Bool.false_eq_true, if_false, show pureO (.bin .eql .str true (.c (.str gAdd)) (.c (.str [126]))) = some (.bool false) from rfl, show pureO (.bin .eql .str true (.c (.str gAdd)) (.c (.str [45]))) = some (.bool false) from rfl, show pureO (.bin .eql .str true (.c (.str gAdd)) (.c (.str [195, 151]))) = some (.bool false) from rfl, show pureO (.bin .eql .str true (.c (.str gAdd)) (.c (.str [195, 183]))) = some (.bool false) from rfl, show pureO (.bin .eql .str true (.c (.str gAdd)) (.c (.str [124]))) = some (.bool false) from rfl, bV, iteP_true, iteP_false]
    rfl
  by_cases h1 : g = gMax
  · subst h1
    simp only [show isMonad gMax = true from rfl, Bool.not_true, Bool.false_eq_true, if_false, show pureO (.bin .eql .str true (.c (.str gMax)) (.c (.str [126]))) = some (.bool false) from rfl, show pureO (.bin .eql .str true (.c (.str gMax)) (.c (.str [45]))) = some (.bool false) from rfl, show pureO (.bin .eql .str true (.c (.str gMax)) (.c (.str [195, 151]))) = some (.bool false) from rfl, show pureO (.bin .eql .str true (.c (.str gMax)) (.c (.str [195, 183]))) = some (.bool false) from rfl, show pureO (.bin .eql .str true (.c (.str gMax)) (.c (.str [124]))) = some (.bool false) from rfl, bV, iteP_true, iteP_false]
    rfl
  by_cases h2 : g = gMin
  · subst h2
    simp only [show isMonad gMin = true from rfl, Bool.not_true, Bool.false_eq_true, if_false, show pureO (.bin .eql .str true (.c (.str gMin)) (.c (.str [126]))) = some (.bool false) from rfl, show pureO (.bin .eql .str true (.c (.str gMin)) (.c (.str [45]))) = some (.bool false) from rfl, show pureO (.bin .eql .str true (.c (.str gMin)) (.c (.str [195, 151]))) = some (.bool false) from rfl, show pureO (.bin .eql .str true (.c (.str gMin)) (.c (.str [195, 183]))) = some (.bool false) from rfl, show pureO (.bin .eql .str true (.c (.str gMin)) (.c (.str [124]))) = some (.bool false) from rfl, bV, iteP_true, iteP_false]
    rfl
  by_cases h3 : g = gSub
  · subst h3
    simp only [show isMonad gSub = true from rfl, Bool.not_true, Bool.false_eq_true, if_false, show pureO (.bin .eql .str true (.c (.str gSub)) (.c (.str [126]))) = some (.bool false) from rfl, show pureO (.bin .eql .str true (.c (.str gSub)) (.c (.str [45]))) = some (.bool true) from rfl, show pureO (.bin .eql .str true (.c (.str gSub)) (.c (.str [195, 151]))) = some (.bool false) from rfl, show pureO (.bin .eql .str true (.c (.str gSub)) (.c (.str [195, 183]))) = some (.bool false) from rfl, show pureO (.bin .eql .str true (.c (.str gSub)) (.c (.str [124]))) = some (.bool false) from rfl, bV, iteP_true, iteP_false, rtake_run inR0 hy, nres_0, nres_1]
    rfl
  by_cases h4 : g = gMul
  · subst h4
    simp only [show isMonad gMul = true from rfl, Bool.not_true, Bool.false_eq_true, if_false, show pureO (.bin .eql .str true (.c (.str gMul)) (.c (.str [126]))) = some (.bool false) from rfl, show pureO (.bin .eql .str true (.c (.str gMul)) (.c (.str [45]))) = some (.bool false) from rfl, show pureO (.bin .eql .str true (.c (.str gMul)) (.c (.str [195, 151]))) = some (.bool true) from rfl, show pureO (.bin .eql .str true (.c (.str gMul)) (.c (.str [195, 183]))) = some (.bool false) from rfl, show pureO (.bin .eql .str true (.c (.str gMul)) (.c (.str [124]))) = some (.bool false) from rfl, bV, iteP_true, iteP_false, I_gtr, I_lss, rbit_run, sub_bits]
    rfl
  by_cases h5 : g = gDiv
  · subst h5
    simp only [show isMonad gDiv = true from rfl, Bool.not_true, Bool.false_eq_true, if_false, show pureO (.bin .eql .str true (.c (.str gDiv)) (.c (.str [126]))) = some (.bool false) from rfl, show pureO (.bin .eql .str true (.c (.str gDiv)) (.c (.str [45]))) = some (.bool false) from rfl, show pureO (.bin .eql .str true (.c (.str gDiv)) (.c (.str [195, 151]))) = some (.bool false) from rfl, show pureO (.bin .eql .str true (.c (.str gDiv)) (.c (.str [195, 183]))) = some (.bool true) from rfl, show pureO (.bin .eql .str true (.c (.str gDiv)) (.c (.str [124]))) = some (.bool false) from rfl, bV, iteP_true, iteP_false, rdivide_run inR1, nres_0, nres_1]
    rfl
  by_cases h6 : g = gRes
  · subst h6
    simp only [show isMonad gRes = true from rfl, Bool.not_true, Bool.false_eq_true, if_false, show pureO (.bin .eql .str true (.c (.str gRes)) (.c (.str [126]))) = some (.bool false) from rfl, show pureO (.bin .eql .str true (.c (.str gRes)) (.c (.str [45]))) = some (.bool false) from rfl, show pureO (.bin .eql .str true (.c (.str gRes)) (.c (.str [195, 151]))) = some (.bool false) from rfl, show pureO (.bin .eql .str true (.c (.str gRes)) (.c (.str [195, 183]))) = some (.bool false) from rfl, show pureO (.bin .eql .str true (.c (.str gRes)) (.c (.str [124]))) = some (.bool true) from rfl, bV, iteP_true, iteP_false, I_lss, rtake_run inR0 hy, nres_0, nres_1, iteP_bool]
    have e : nMon gRes y = nAbs y := rfl
    rw [e]
    unfold nAbs
    by_cases hn : y < 0 <;> simp [hn] <;> rfl
  by_cases h7 : g = gNot
  · subst h7
    have e : nMon gNot y = nNot y := rfl
    rw [e]
    unfold nNot chk1
    simp only [show isMonad gNot = true from rfl, Bool.not_true, Bool.false_eq_true, if_false, show pureO (.bin .eql .str true (.c (.str gNot)) (.c (.str [126]))) = some (.bool true) from rfl, show pureO (.bin .eql .str true (.c (.str gNot)) (.c (.str [45]))) = some (.bool false) from rfl, show pureO (.bin .eql .str true (.c (.str gNot)) (.c (.str [195, 151]))) = some (.bool false) from rfl, show pureO (.bin .eql .str true (.c (.str gNot)) (.c (.str [195, 183]))) = some (.bool false) from rfl, show pureO (.bin .eql .str true (.c (.str gNot)) (.c (.str [124]))) = some (.bool false) from rfl, bV, iteP_true, iteP_false, I_neq, iteP_bool, I_sub]
    by_cases k0 : y = 0
    · subst k0; rfl
    · by_cases k1 : y = 1
      · subst k1; rfl
      · have e0 : (y != 0) = true := by simp [k0]
        have e1 : (y != 1) = true := by simp [k1]
        have e2 : (y == 0) = false := by simp [k0]
        have e3 : (y == 1) = false := by simp [k1]
        simp only [e0, e1, e2, e3, if_true, Bool.or_self, Bool.false_eq_true, if_false]
        rfl
  have e : isMonad g = false := by simp [isMonad, h0, h1, h2, h3, h4, h5, h6, h7]
  have e2 : nMon g y = (0, .dom g) := by simp [nMon, h0, h1, h2, h3, h4, h5, h6, h7]
  rw [e, e2]
  rfl
end Go.Ab.Arrays


namespace Go.Ab.Arrays
open Go Go.Ab
theorem rrune_run (n : Int) : callO B0 .cl (.fn 50 []) [I n] = some (.bool (rune n)) := by
  refine call (d := fun _ => .cl) rfl (by decide) rfl rfl ?_
  rw [List.map_cons, List.map_nil, run50]
  simp only [I_def, I_geq, I_leq, I_lss, I_gtr, bindO_val, iteP_bool]
  unfold rune
  by_cases h1 : 0 ≤ n <;> by_cases h2 : n ≤ 1114111 <;> by_cases h3 : n < 55296 <;> simp [h1, h2, h3]
theorem rright_run {v : PV} {a : Arr} (h : IsA v a) (hl : a.n.length ≤ 1000000) : callO B0 .cl (.fn 34 []) [v] = some (.bool a.right) := by
  refine call (d := fun _ => .cl) rfl (by decide) (by simp [okVL, h.ok]) rfl ?_
  rw [List.map_cons, List.map_nil, run34, valO_is h, cT]
  rw [show noUndef [.int .i64 0] = true from rfl, cT]
  have lx := c2_is h
  have tail : (if a.li = true then (if decide ((a.n.length : Int) ≤ 200) = true then some (PV.bool true) else if (!a.li) = true then some (.bool ((a.n.length : Int) == 1)) else some (.bool false)) else if (!a.li) = true then some (.bool ((a.n.length : Int) == 1)) else some (.bool false)) = some (PV.bool (if a.li then decide (a.n.length ≤ 200) else decide (a.n.length = 1))) := by
    have e1 : decide ((a.n.length : Int) ≤ 200) = decide (a.n.length ≤ 200) := by
      by_cases h : a.n.length ≤ 200
      · simp [h]; omega
      · have : ¬ (a.n.length : Int) ≤ 200 := by omega
        simp [h, this]
    have e2 : ((a.n.length : Int) == 1) = decide (a.n.length = 1) := by
      by_cases h : a.n.length = 1
      · simp [h]
      · have : ¬ (a.n.length : Int) = 1 := by omega
        simp [h, this]
    rw [e1, e2]
    cases a.li
    · simp
    · by_cases h : a.n.length ≤ 200 <;> simp [h]
  have key : ∀ m i, i + m = a.n.length → loopL (fun z1 => bindO (bindO (selO (nth z1.1 1) 2 1 false) (fun z2 => bindO (pureO (.len .slice (.c z2))) (fun z3 => bindO (pureO (.bin .lss .num false (.c (nth z1.1 0)) (.c z3))) (fun z4 => iteP z4 (bindO (selO (nth z1.1 1) 1 1 false) (fun z5 => some z5)) (some (PV.bool false)))))) (fun z6 => iteP z6 (bindO (selO (nth z1.1 1) 2 1 false) (fun z7 => bindO (pureO (.idxAddr 1 (.c z7) (.c (nth z1.1 0)))) (fun z8 => bindO (pureO (.load 1 false (.c z8))) (fun z9 => bindO (callO B0 .cl (.fn 50 []) [z9]) (fun z10 => bindO (pureO (.un .not (.c z10))) (fun z11 => iteP z11 (bindO (some (PV.bool false, z1.2)) (fun z12 => some (.inr z12))) (bindO (pureO (.bin .add .num true (.c (nth z1.1 0)) (.c (.int .i64 1)))) (fun z13 => some (.inl ([z13, nth z1.1 1], z1.2)))))))))) (bindO (bindO (bindO (selO (nth z1.1 1) 0 1 false) (fun z14 => iteP z14 (bindO (selO (nth z1.1 1) 2 1 false) (fun z15 => bindO (pureO (.len .slice (.c z15))) (fun z16 => bindO (pureO (.bin .leq .num true (.c z16) (.c (.int .i64 200)))) (fun z17 => iteP z17 (some (PV.bool true)) (bindO (selO (nth z1.1 1) 0 1 false) (fun z18 => bindO (pureO (.un .not (.c z18))) (fun z19 => iteP z19 (bindO (selO (nth z1.1 1) 2 1 false) (fun z20 => bindO (pureO (.len .slice (.c z20))) (fun z21 => bindO (pureO (.bin .eql .num true (.c z21) (.c (.int .i64 1)))) (fun z22 => some z22)))) (some (PV.bool false))))))))) (bindO (selO (nth z1.1 1) 0 1 false) (fun z23 => bindO (pureO (.un .not (.c z23))) (fun z24 => iteP z24 (bindO (selO (nth z1.1 1) 2 1 false) (fun z25 => bindO (pureO (.len .slice (.c z25))) (fun z26 => bindO (pureO (.bin .eql .num true (.c z26) (.c (.int .i64 1)))) (fun z27 => some z27)))) (some (PV.bool false))))))) (fun z28 => some (z28, z1.2))) (fun z29 => some (.inr z29))))) (([I i, v], ()) : List PV × Unit) = some (.bool (!(a.ru && (a.n.drop i).any fun n => !rune n) && (if a.li then decide (a.n.length ≤ 200) else decide (a.n.length = 1))), ()) := by
    intro m
    induction m with
    | zero =>
      intro i hi
      refine loopL_inr ?_
      have hd0 : a.n.drop i = [] := List.drop_eq_nil_of_le (by omega)
      have hlt : ¬ ((i : Int) < (a.n.length : Int)) := by omega
      simp only [nth_0, nth_1, s0_is h, s2_is h, lx.len, bV, I_lss, hlt, decide_false, iteP_false, iteP_bool, pure_not, iD, I_leq, I_eql, hd0, List.any_nil, Bool.and_false, Bool.not_false, Bool.true_and]
      rw [tail]
      rfl
    | succ m ih =>
      intro i hi
      have hlt : i < a.n.length := by omega
      have hlt' : (i : Int) < (a.n.length : Int) := by omega
      cases hru : a.ru with
      | false =>
        refine loopL_inr ?_
        simp only [nth_0, nth_1, s0_is h, s1_is h, s2_is h, lx.len, bV, I_lss, hlt', decide_true, iteP_true, hru, iteP_false, iteP_bool, pure_not, iD, I_leq, I_eql, Bool.false_and, Bool.not_false, Bool.true_and]
        rw [tail]
        rfl
      | true =>
        rw [drop_cons hlt, List.any_cons]
        cases hq : rune a.n[i] with
        | false =>
          refine loopL_inr ?_
          simp only [nth_0, nth_1, s1_is h, s2_is h, lx.len, bV, I_lss, hlt', decide_true, iteP_true, hru, lx.idx hlt, load_I, rrune_run, hq, pure_not, Bool.not_false, Bool.true_or, Bool.and_self, Bool.not_true, Bool.false_and]
        | true =>
          rw [loopL_inl (s' := ([I ((i + 1 : Nat) : Int), v], ()))]
          · rw [ih (i + 1) (by omega), hru]
            simp only [Bool.not_true, Bool.false_or]
          · simp only [nth_0, nth_1, s1_is h, s2_is h, lx.len, bV, I_lss, hlt', decide_true, iteP_true, hru, lx.idx hlt, load_I, rrune_run, hq, pure_not, Bool.not_true, iteP_false, iD, I_add, wsucc (by omega : i < 9223372036854775807)]
  have := key a.n.length 0 (by omega)
  unfold Arr.right
  simpa [I_def] using this
theorem rnums_run {v u : PV} {l m : List Int} (hv : IsL v l) (hu : IsL u m) (hl : l.length ≤ 1000000) (hm : m.length ≤ 1000000) : callO B0 .cl (.fn 18 []) [v, u] = some (.bool (eqL l m)) := by
  refine call (d := fun _ => .cl) rfl (by decide) (by simp [okVL, hv.ok, hu.ok]) rfl ?_
  rw [List.map_cons, List.map_cons, List.map_nil, run18, hv.len, hu.len]
  simp only [bV, I_neq, iteP_bool]
  by_cases hlm : l.length = m.length
  · have h1 : (((l.length : Int) != (m.length : Int)) = true) ↔ False := by simp [hlm]
    simp only [h1, if_false]
    have h0 : noUndef [v, u, .int .i64 0] = true := by simp only [noUndef, List.all_cons, hv.und, hu.und]; rfl
    rw [h0, cT]
    have key : ∀ k i, i + k = l.length → loopL (fun z4 => bindO (pureO (.len .slice (.c (nth z4.1 0)))) (fun z5 => bindO (pureO (.bin .lss .num false (.c (nth z4.1 2)) (.c z5))) (fun z6 => iteP z6 (bindO (pureO (.idxAddr 1 (.c (nth z4.1 0)) (.c (nth z4.1 2)))) (fun z7 => bindO (pureO (.load 1 false (.c z7))) (fun z8 => bindO (pureO (.idxAddr 1 (.c (nth z4.1 1)) (.c (nth z4.1 2)))) (fun z9 => bindO (pureO (.load 1 false (.c z9))) (fun z10 => bindO (pureO (.bin .neq .num false (.c z8) (.c z10))) (fun z11 => iteP z11 (bindO (some (PV.bool false, z4.2)) (fun z12 => some (.inr z12))) (bindO (pureO (.bin .add .num true (.c (nth z4.1 2)) (.c (.int .i64 1)))) (fun z13 => some (.inl ([nth z4.1 0, nth z4.1 1, z13], z4.2)))))))))) (bindO (some (PV.bool true, z4.2)) (fun z14 => some (.inr z14)))))) (([v, u, I i], ()) : List PV × Unit) = some (.bool (eqL (l.drop i) (m.drop i)), ()) := by
      intro k
      induction k with
      | zero =>
        intro i hi
        refine loopL_inr ?_
        have h2 : l.drop i = [] := List.drop_eq_nil_of_le (by omega)
        have h3 : m.drop i = [] := List.drop_eq_nil_of_le (by omega)
        have hlt : ¬ ((i : Int) < (l.length : Int)) := by omega
        simp only [nth_0, nth_1, nth_2, hv.len, bV, I_lss, hlt, decide_false, iteP_false, h2, h3, eqL]
      | succ k ih =>
        intro i hi
        have hlt : i < l.length := by omega
        have hlt2 : i < m.length := by omega
        have hlt' : (i : Int) < (l.length : Int) := by omega
        rw [drop_cons hlt, drop_cons hlt2]
        cases hx : (l[i] == m[i]) with
        | true =>
          have hb : (l[i] != m[i]) = false := by simp [bne, hx]
          rw [loopL_inl (s' := ([v, u, I ((i + 1 : Nat) : Int)], ()))]
          · rw [ih (i + 1) (by omega)]
            simp only [eqL, hx, Bool.true_and]
          · simp only [nth_0, nth_1, nth_2, hv.len, bV, I_lss, hlt', decide_true, iteP_true, hv.idx hlt, hu.idx hlt2, load_I, I_neq, hb, iteP_false, iD, I_add, wsucc (by omega : i < 9223372036854775807)]
        | false =>
          have hb : (l[i] != m[i]) = true := by simp [bne, hx]
          refine loopL_inr ?_
          simp only [nth_0, nth_1, nth_2, hv.len, bV, I_lss, hlt', decide_true, iteP_true, hv.idx hlt, hu.idx hlt2, load_I, I_neq, hb, eqL, hx, Bool.false_and]
    have := key l.length 0 (by omega)
    simpa [I_def] using this
  · have : ¬ (l.length : Int) = (m.length : Int) := by omega
    have h2 : eqL l m = false := by
      cases he : eqL l m with
      | false => rfl
      | true => exact absurd (congrArg List.length ((eqL_iff l m).1 he)) hlm
    simp [this, h2]
theorem rsame_run {v u : PV} {a b : Arr} (hv : IsA v a) (hu : IsA u b) (ha : a.n.length ≤ 1000000) (hb : b.n.length ≤ 1000000) : callO B0 .cl (.fn 17 []) [v, u] = some (.bool (a.same b)) := by
  refine call (d := fun _ => .cl) rfl (by decide) (by simp [okVL, hv.ok, hu.ok]) rfl ?_
  rw [List.map_cons, List.map_cons, List.map_nil, run17, valO_is hv, valO_is hu, cT, cT]
  simp only [s0_is hv, s0_is hu, s1_is hv, s1_is hu, s2_is hv, s2_is hu, bV, pure_eqb, iteP_bool, rnums_run (c2_is hv) (c2_is hu) ha hb]
  unfold Arr.same
  cases (a.li == b.li) <;> cases (a.ru == b.ru) <;> simp
theorem ritem_run {v : PV} {a : Arr} (h : IsA v a) {i : Nat} (hi : a.fits i) : callO B0 .cl (.fn 39 []) [v, I i] = some (I (a.at i)) := by
  obtain ⟨x, rfl, hx⟩ := h.get
  refine call (d := fun _ => .cl) rfl (by decide) (by simp [okVL, h.ok]) rfl ?_
  rw [List.map_cons, List.map_cons, List.map_nil, run39, valO_agg, val3 rfl rfl hx.cell, chkO_true]
  simp only [selO_eq, cells_agg', sel3_0, sel3_1, sel3_2, bindO_val, iteP_bool, pure_not]
  unfold Arr.at
  unfold Arr.fits at hi
  cases hli : a.li with
  | true =>
    simp only [hli, if_true] at hi
    simp only [if_true, Bool.not_true, Bool.false_eq_true, if_false, hx.idx hi, bindO_val, load_I]
    rw [List.getD_eq_getElem?_getD, List.getElem?_eq_getElem hi]
    rfl
  | false =>
    simp only [hli, Bool.false_eq_true, if_false] at hi
    simp only [Bool.false_eq_true, if_false, Bool.not_false, if_true]
    rw [show (PV.int .i64 0) = I ((0 : Nat) : Int) from rfl, hx.idx hi]
    simp only [bindO_val, load_I]
    rw [List.getD_eq_getElem?_getD, List.getElem?_eq_getElem hi]
    rfl
theorem rone_run (g : List UInt8) {x y : Int} (hx : inR x) (hy : inR y) (al : Bool) : callO B0 .cl (.fn 38 []) [.str g, I x, I y, .bool al] = some (nres (dyF g (!al) x y)) := by
  refine call (d := fun _ => .cl) rfl (by decide) rfl rfl ?_
  rw [List.map_cons, List.map_cons, List.map_cons, List.map_cons, List.map_nil, run38]
  simp only [pure_not, bV, iteP_bool, iD, rdy_run g inR0 inR1, rdy_run g hx hy, nres_0, nres_1]
  unfold dyF
  cases al <;> rfl
def Arr.inr (a : Arr) : Prop := ∀ n ∈ a.n, inR n
theorem rmonL_run {v : PV} {a : Arr} (h : IsA v a) (hl : a.n.length ≤ 1000000) (hin : a.inr) (g : List UInt8) : ∀ (m i : Nat) (acc : List Int), i + m = a.n.length → acc.length = i → ∃ w, loopL (fun z15 => bindO (selO (nth z15.1 2) 2 1 false) (fun z16 => bindO (pureO (.len .slice (.c z16))) (fun z17 => bindO (pureO (.bin .lss .num false (.c (nth z15.1 1)) (.c z17))) (fun z18 => iteP z18 (bindO (selO (nth z15.1 2) 2 1 false) (fun z19 => bindO (pureO (.idxAddr 1 (.c z19) (.c (nth z15.1 1)))) (fun z20 => bindO (pureO (.load 1 false (.c z20))) (fun z21 => bindO (callO B0 .cl (.fn 36 []) [nth z15.1 0, z21]) (fun z22 => bindO (pureO (.extract 0 (.c z22))) (fun z23 => bindO (pureO (.extract 1 (.c z22))) (fun z24 => bindO (pureO (.bin .neq .num true (.c z24) (.c (.int .i64 0)))) (fun z25 => iteP z25 (bindO (pureO (.build [.bool false, .bool false, .nilS] [])) (fun z26 => chkO (okCells z26 3) (bindO (some (PV.tup [.agg [cellP z26 0, cellP z26 1, cellP z26 2], z24], z15.2)) (fun z27 => some (.inr z27))))) (chkO (okSls 1 [z23]) (chkO (leN (addN 0 (lenL [z23])) (lenL [z23])) (chkO (andB (leN (natP (nth z15.1 8)) (lenL (itemsP (nth z15.1 9)))) (leN (addN (natP (nth z15.1 8)) (lenL (takeL (lenL [z23]) (dropL 0 [z23])))) 2147483648)) (bindO (pureO (.bin .add .num true (.c (nth z15.1 1)) (.c (.int .i64 1)))) (fun z28 => some (.inl ([nth z15.1 0, z28, nth z15.1 2, nth z15.1 3, nth z15.1 4, nth z15.1 5, nth z15.1 6, nth z15.1 7, nI (addN (natP (nth z15.1 8)) (lenL (takeL (lenL [z23]) (dropL 0 [z23])))), .sl 1 (catL (takeL (natP (nth z15.1 8)) (itemsP (nth z15.1 9))) (takeL (lenL [z23]) (dropL 0 [z23]))) false], z15.2))))))))))))))) (bindO (chkO (okU (PV.tup [.agg [nth z15.1 6, nth z15.1 7, slO 1 1 (itemsP (nth z15.1 9)) 0 (natP (nth z15.1 8))], .int .i64 0])) (some (PV.tup [.agg [nth z15.1 6, nth z15.1 7, slO 1 1 (itemsP (nth z15.1 9)) 0 (natP (nth z15.1 8))], .int .i64 0], z15.2))) (fun z29 => some (.inr z29))))))) (([.str g, I i, v, .bool false, .bool false, .nilS, .bool a.li, .bool false, nI acc.length, .sl 1 (ints acc) false], ()) : List PV × Unit) =
    some (.tup [w, I (match monL (nMon g) (a.n.drop i) with | .inl c => (noArr, c) | .inr r => ((⟨a.li, false, acc ++ r⟩ : Arr), 0)).2], ()) ∧ IsA w (match monL (nMon g) (a.n.drop i) with | .inl c => (noArr, c) | .inr r => ((⟨a.li, false, acc ++ r⟩ : Arr), 0)).1 := by
  have lx := c2_is h
  intro m
  induction m with
  | zero =>
    intro i acc hi ha
    have hd0 : a.n.drop i = [] := List.drop_eq_nil_of_le (by omega)
    rw [hd0]
    have es : slO 1 1 (ints acc) 0 (natP (nI acc.length)) = .sl 1 (ints acc) false := by
      rw [nI_eq, natP_int, Int.toNat_natCast]
      unfold slO
      rw [if_pos ⟨rfl, by rw [ints_len]; omega⟩, List.drop_zero, List.take_of_length_le (by rw [ints_len]; exact Nat.le_refl _)]
    refine ⟨.agg [.bool a.li, .bool false, .sl 1 (ints acc) false], loopL_inr ?_, ?_⟩
    · have hlt : ¬ ((i : Int) < (a.n.length : Int)) := by omega
      simp only [nth_1, nth_2, s2_is h, lx.len, I_lss, bV, hlt, decide_false, iteP_false]
      show bindO (chkO (okU (PV.tup [.agg [.bool a.li, .bool false, slO 1 1 (ints acc) 0 (natP (nI acc.length))], .int .i64 0])) (some (PV.tup [.agg [.bool a.li, .bool false, slO 1 1 (ints acc) 0 (natP (nI acc.length))], .int .i64 0], ()))) (fun z27 => some (Sum.inr z27)) = _
      rw [es, show okU (PV.tup [.agg [.bool a.li, .bool false, .sl 1 (ints acc) false], .int .i64 0]) = true by
        show okV _ = true
        simp [okV, okVL, okVL_ints], chkO_true]
      rfl
    · simp only [monL, List.append_nil]
      exact .mk _ _ _ _ (.sl _ _)
  | succ m ih =>
    intro i acc hi ha
    have hlt : i < a.n.length := by omega
    have hlt' : (i : Int) < (a.n.length : Int) := by omega
    have hir := hin _ (List.getElem_mem hlt)
    rw [drop_cons hlt]
    unfold monL
    by_cases hno : (nMon g a.n[i]).2.no = 0
    · simp only [hno, ne_eq, not_true_eq_false, if_false]
      rw [loopL_inl (s' := ([.str g, I ((i + 1 : Nat) : Int), v, .bool false, .bool false, .nilS, .bool a.li, .bool false, nI (acc ++ [(nMon g a.n[i]).1]).length, .sl 1 (ints (acc ++ [(nMon g a.n[i]).1])) false], ()))]
      · obtain ⟨w, h1, h2⟩ := ih (i + 1) (acc ++ [(nMon g a.n[i]).1]) (by omega) (by simp [ha])
        cases hm : monL (nMon g) (a.n.drop (i + 1)) with
        | inl c => rw [hm] at h1 h2; exact ⟨w, h1, h2⟩
        | inr r =>
          rw [hm] at h1 h2
          simp only [List.append_assoc, List.cons_append, List.nil_append] at h1 h2
          exact ⟨w, h1, h2⟩
      · simp only [nth_0, nth_1, nth_2, s2_is h, lx.len, I_lss, bV, hlt', decide_true, iteP_true, lx.idx hlt, load_I, rmon_run g hir, nres_0, nres_1, iD, I_neq, hno, bne_self_eq_false, iteP_false, okSls_one, cT]
        show chkO (leN (0 + 1) 1) (chkO (andB (leN (natP (nI acc.length)) (ints acc).length) (leN (natP (nI acc.length) + 1) 2147483648)) _) = _
        have e1 : natP (nI acc.length) = acc.length := by simp
        simp only [leN_eq, andB_eq, e1, ints_len]
        rw [show (decide (0 + 1 ≤ 1)) = true from rfl, chkO_true, show (decide (acc.length ≤ acc.length) && decide (acc.length + 1 ≤ 2147483648)) = true by simp; omega, chkO_true]
        simp only [I_add, bV, wsucc (by omega : i < 9223372036854775807)]
        show some (Sum.inl ([.str g, I ((i + 1 : Nat) : Int), v, .bool false, .bool false, .nilS, .bool a.li, .bool false, nI (natP (nI acc.length) + 1), .sl 1 ((ints acc).take (natP (nI acc.length)) ++ [I (nMon g a.n[i]).1]) false], ())) = _
        rw [e1, List.take_of_length_le (by rw [ints_len]; exact Nat.le_refl _), List.length_append, show ints (acc ++ [(nMon g a.n[i]).1]) = ints acc ++ [I (nMon g a.n[i]).1] by simp [ints]]
        rfl
    · simp only [hno, ne_eq, not_false_eq_true, if_true]
      refine ⟨none3, loopL_inr ?_, noArr_is⟩
      have hb : ((nMon g a.n[i]).2.no != 0) = true := by simpa using hno
      simp only [nth_0, nth_1, nth_2, s2_is h, lx.len, I_lss, bV, hlt', decide_true, iteP_true, lx.idx hlt, load_I, rmon_run g hir, nres_0, nres_1, iD, I_neq, hb, build0]
      rfl
theorem rmonR {v : PV} {a : Arr} (hv : IsA v a) (hla : a.n.length ≤ 1000000) (hin : a.inr) (g : List UInt8) :
    ∃ w, callO B0 .cl (.fn 15 []) [.str g, v] = some (.tup [w, I (Arr.mon g a).2]) ∧ IsA w (Arr.mon g a).1 := by
  have hok : okVL [.str g, v] = true := by simp [okVL, okV, hv.ok]
  suffices key : ∃ w, runK (cfg0 B0 (fun _ => .cl)) fn15 (.cl) noHandler 0 [.cv (.str g), .cv v] () = some (.tup [w, I (Arr.mon g a).2], ()) ∧ IsA w (Arr.mon g a).1 by
    obtain ⟨w, h1, h2⟩ := key
    exact ⟨w, call (d := fun _ => .cl) rfl (by decide) hok rfl h1, h2⟩
  have lx := c2_is hv
  rw [run15, valO_is hv, cT]
  simp only [sel_is hv, rright_run hv hla, rIsMon_run, s0_is hv, s1_is hv, s2_is hv, lx.len, bV, pure_not, iteP_bool, build0, iD, I_gtr]
  unfold Arr.mon
  cases hr : a.right with
  | false =>
    simp only [Bool.not_false, if_true]
    exact ⟨none3, rfl, noArr_is⟩
  | true =>
    simp only [Bool.not_true, Bool.false_eq_true, if_false, Bool.true_eq_false]
    cases hd : isMonad g with
    | false =>
      simp only [Bool.not_false, if_true]
      exact ⟨none3, rfl, noArr_is⟩
    | true =>
      simp only [Bool.not_true, Bool.false_eq_true, if_false, Bool.true_eq_false]
      have fin := rmonL_run hv hla hin g a.n.length 0 [] (by omega) rfl
      simp only [List.drop_zero, List.nil_append, List.length_nil, show ints [] = [] from rfl] at fin
      have bl : pureO (.build [.bool false, .bool false, .nilS] [(0, (1, .c (.bool a.li)))]) = some (.agg [.bool a.li, .bool false, .nilS]) := rfl
      have e0 : decide ((0 : Int) < (a.n.length : Int)) = decide (0 < a.n.length) := by by_cases h : 0 < a.n.length <;> simp [h]
      unfold Arr.text
      rw [e0]
      simp only [bl, bV]
      rw [show okCells (.agg [.bool a.li, .bool false, .nilS]) 3 = true from rfl]
      simp only [cT]
      unfold nilO
      dsimp only [cellP3_2]
      rw [show noUndef [.str g, I 0] = true from rfl]
      simp only [cT]
      cases hru : a.ru with
      | false =>
        simp only [Bool.false_and, Bool.false_eq_true, if_false]
        exact fin
      | true =>
        simp only [Bool.true_and, if_true]
        by_cases h0 : 0 < a.n.length
        · simp only [h0, decide_true, if_true]
          exact ⟨none3, rfl, noArr_is⟩
        · simp only [h0, decide_false, Bool.false_eq_true, if_false]
          exact fin
end Go.Ab.Arrays


namespace Go.Ab.Arrays
open Go Go.Ab
theorem at_inr {a : Arr} (h : a.inr) {i : Nat} (hf : a.fits i) : inR (a.at i) := by
  unfold Arr.at
  unfold Arr.fits at hf
  cases hl : a.li with
  | true =>
    simp only [hl, if_true] at hf ⊢
    rw [List.getD_eq_getElem?_getD, List.getElem?_eq_getElem hf]
    exact h _ (List.getElem_mem hf)
  | false =>
    simp only [hl, if_false, Bool.false_eq_true] at hf ⊢
    rw [List.getD_eq_getElem?_getD, List.getElem?_eq_getElem hf]
    exact h _ (List.getElem_mem hf)
theorem rdyL_run {v u : PV} {a b : Arr} (hv : IsA v a) (hu : IsA u b) (ha : a.inr) (hb : b.inr) (g : List UInt8) (li : Bool) (n : Nat) (hn : n ≤ 1000000) (hf : ∀ i, i < n → a.fits i ∧ b.fits i) : ∀ (m i : Nat) (acc : List Int), i + m = n → acc.length = i →
    ∃ w, loopL (fun z44 => bindO (pureO (.bin .lss .num false (.c (nth z44.1 2)) (.c (nth z44.1 1)))) (fun z45 => iteP z45 (bindO (selO (nth z44.1 3) 0 3 true) (fun z46 => bindO (callO B0 .cl (.fn 39 []) [z46, nth z44.1 2]) (fun z47 => bindO (selO (nth z44.1 4) 0 3 true) (fun z48 => bindO (callO B0 .cl (.fn 39 []) [z48, nth z44.1 2]) (fun z49 => bindO (selO (nth z44.1 3) 1 1 false) (fun z50 => bindO (selO (nth z44.1 4) 1 1 false) (fun z51 => bindO (pureO (.bin .eql .bool false (.c z50) (.c z51))) (fun z52 => bindO (callO B0 .cl (.fn 38 []) [nth z44.1 0, z47, z49, z52]) (fun z53 => bindO (pureO (.extract 0 (.c z53))) (fun z54 => bindO (pureO (.extract 1 (.c z53))) (fun z55 => bindO (pureO (.bin .neq .num true (.c z55) (.c (.int .i64 0)))) (fun z56 => iteP z56 (bindO (pureO (.build [.bool false, .bool false, .nilS] [])) (fun z57 => chkO (okCells z57 3) (bindO (some (PV.tup [.agg [cellP z57 0, cellP z57 1, cellP z57 2], z55], z44.2)) (fun z58 => some (.inr z58))))) (chkO (okSls 1 [z54]) (chkO (leN (addN 0 (lenL [z54])) (lenL [z54])) (chkO (andB (leN (natP (nth z44.1 10)) (lenL (itemsP (nth z44.1 11)))) (leN (addN (natP (nth z44.1 10)) (lenL (takeL (lenL [z54]) (dropL 0 [z54])))) 2147483648)) (bindO (pureO (.bin .add .num true (.c (nth z44.1 2)) (.c (.int .i64 1)))) (fun z59 => some (.inl ([nth z44.1 0, nth z44.1 1, z59, nth z44.1 3, nth z44.1 4, nth z44.1 5, nth z44.1 6, nth z44.1 7, nth z44.1 8, nth z44.1 9, nI (addN (natP (nth z44.1 10)) (lenL (takeL (lenL [z54]) (dropL 0 [z54])))), .sl 1 (catL (takeL (natP (nth z44.1 10)) (itemsP (nth z44.1 11))) (takeL (lenL [z54]) (dropL 0 [z54]))) false], z44.2))))))))))))))))))) (bindO (chkO (okU (PV.tup [.agg [nth z44.1 8, nth z44.1 9, slO 1 1 (itemsP (nth z44.1 11)) 0 (natP (nth z44.1 10))], .int .i64 0])) (some (PV.tup [.agg [nth z44.1 8, nth z44.1 9, slO 1 1 (itemsP (nth z44.1 11)) 0 (natP (nth z44.1 10))], .int .i64 0], z44.2))) (fun z60 => some (.inr z60))))) (([.str g, I n, I i, v, u, .bool false, .bool false, .nilS, .bool li, .bool false, nI acc.length, .sl 1 (ints acc) false], ()) : List PV × Unit) =
    some (.tup [w, I (match dyL (dyF g (a.ru != b.ru)) (pairsFrom a b i m) with | .inl c => (noArr, c) | .inr r => ((⟨li, false, acc ++ r⟩ : Arr), 0)).2], ()) ∧ IsA w (match dyL (dyF g (a.ru != b.ru)) (pairsFrom a b i m) with | .inl c => (noArr, c) | .inr r => ((⟨li, false, acc ++ r⟩ : Arr), 0)).1 := by
  intro m
  induction m with
  | zero =>
    intro i acc hi hacc
    have es : slO 1 1 (ints acc) 0 (natP (nI acc.length)) = .sl 1 (ints acc) false := by
      rw [nI_eq, natP_int, Int.toNat_natCast]
      unfold slO
      rw [if_pos ⟨rfl, by rw [ints_len]; omega⟩, List.drop_zero, List.take_of_length_le (by rw [ints_len]; exact Nat.le_refl _)]
    refine ⟨.agg [.bool li, .bool false, .sl 1 (ints acc) false], loopL_inr ?_, ?_⟩
    · have hlt : ¬ ((i : Int) < (n : Int)) := by omega
      simp only [nth_1, nth_2, I_lss, bV, hlt, decide_false, iteP_false]
      show bindO (chkO (okU (PV.tup [.agg [.bool li, .bool false, slO 1 1 (ints acc) 0 (natP (nI acc.length))], .int .i64 0])) (some (PV.tup [.agg [.bool li, .bool false, slO 1 1 (ints acc) 0 (natP (nI acc.length))], .int .i64 0], ()))) (fun z27 => some (Sum.inr z27)) = _
      rw [es, show okU (PV.tup [.agg [.bool li, .bool false, .sl 1 (ints acc) false], .int .i64 0]) = true by
        show okV _ = true
        simp [okV, okVL, okVL_ints], chkO_true]
      simp only [pairsFrom, dyL]
      rfl
    · simp only [pairsFrom, dyL, List.append_nil]
      exact .mk _ _ _ _ (.sl _ _)
  | succ m ih =>
    intro i acc hi hacc
    have hlt' : (i : Int) < (n : Int) := by omega
    obtain ⟨fa, fb⟩ := hf i (by omega)
    have hr := rone_run g (at_inr ha fa) (at_inr hb fb) (a.ru == b.ru)
    have en : (!(a.ru == b.ru)) = (a.ru != b.ru) := rfl
    rw [en] at hr
    unfold pairsFrom dyL
    by_cases hno : (dyF g (a.ru != b.ru) (a.at i) (b.at i)).2.no = 0
    · simp only [hno, ne_eq, not_true_eq_false, if_false]
      rw [loopL_inl (s' := ([.str g, I n, I ((i + 1 : Nat) : Int), v, u, .bool false, .bool false, .nilS, .bool li, .bool false, nI (acc ++ [(dyF g (a.ru != b.ru) (a.at i) (b.at i)).1]).length, .sl 1 (ints (acc ++ [(dyF g (a.ru != b.ru) (a.at i) (b.at i)).1])) false], ()))]
      · obtain ⟨w, h1, h2⟩ := ih (i + 1) (acc ++ [(dyF g (a.ru != b.ru) (a.at i) (b.at i)).1]) (by omega) (by simp [hacc])
        cases hm : dyL (dyF g (a.ru != b.ru)) (pairsFrom a b (i + 1) m) with
        | inl c => rw [hm] at h1 h2; exact ⟨w, h1, h2⟩
        | inr r =>
          rw [hm] at h1 h2
          simp only [List.append_assoc, List.cons_append, List.nil_append] at h1 h2
          exact ⟨w, h1, h2⟩
      · simp only [nth_0, nth_1, nth_2, nth_3, nth_4, I_lss, bV, hlt', decide_true, iteP_true, sel_is hv, sel_is hu, s1_is hv, s1_is hu, ritem_run hv fa, ritem_run hu fb, pure_eqb, hr, nres_0, nres_1, iD, I_neq, hno, bne_self_eq_false, iteP_false, okSls_one, cT]
        show chkO (leN (0 + 1) 1) (chkO (andB (leN (natP (nI acc.length)) (ints acc).length) (leN (natP (nI acc.length) + 1) 2147483648)) _) = _
        have e1 : natP (nI acc.length) = acc.length := by simp
        simp only [leN_eq, andB_eq, e1, ints_len]
        rw [show (decide (0 + 1 ≤ 1)) = true from rfl, chkO_true, show (decide (acc.length ≤ acc.length) && decide (acc.length + 1 ≤ 2147483648)) = true by simp; omega, chkO_true]
        simp only [I_add, bV, wsucc (by omega : i < 9223372036854775807)]
        show some (Sum.inl ([.str g, I n, I ((i + 1 : Nat) : Int), v, u, .bool false, .bool false, .nilS, .bool li, .bool false, nI (natP (nI acc.length) + 1), .sl 1 ((ints acc).take (natP (nI acc.length)) ++ [I (dyF g (a.ru != b.ru) (a.at i) (b.at i)).1]) false], ())) = _
        rw [e1, List.take_of_length_le (by rw [ints_len]; exact Nat.le_refl _), List.length_append, show ints (acc ++ [(dyF g (a.ru != b.ru) (a.at i) (b.at i)).1]) = ints acc ++ [I (dyF g (a.ru != b.ru) (a.at i) (b.at i)).1] by simp [ints]]
        rfl
    · simp only [hno, ne_eq, not_false_eq_true, if_true]
      refine ⟨none3, loopL_inr ?_, noArr_is⟩
      have hb' : ((dyF g (a.ru != b.ru) (a.at i) (b.at i)).2.no != 0) = true := by simpa using hno
      simp only [nth_0, nth_1, nth_2, nth_3, nth_4, I_lss, bV, hlt', decide_true, iteP_true, sel_is hv, sel_is hu, s1_is hv, s1_is hu, ritem_run hv fa, ritem_run hu fb, pure_eqb, hr, nres_0, nres_1, iD, I_neq, hb', build0]
      rfl
theorem rlen_run {v u : PV} {a b : Arr} (hv : IsA v a) (hu : IsA u b) : bindO (selO v 0 1 false) (fun z12 => iteP z12 (bindO (selO u 0 1 false) (fun z13 => iteP z13 (bindO (selO v 2 1 false) (fun z14 => bindO (pureO (.len .slice (.c z14))) (fun z15 => bindO (selO u 2 1 false) (fun z16 => bindO (pureO (.len .slice (.c z16))) (fun z17 => bindO (pureO (.bin .neq .num false (.c z15) (.c z17))) (fun z18 => some z18)))))) (some (PV.bool false)))) (some (PV.bool false))) = some (.bool (decide ((a.sz b).2 ≠ 0))) := by
  have lx := c2_is hv
  have ly := c2_is hu
  simp only [s0_is hv, s0_is hu, s2_is hv, s2_is hu, lx.len, ly.len, bV, I_neq, iteP_bool]
  have e : ((a.n.length : Int) != (b.n.length : Int)) = decide (a.n.length ≠ b.n.length) := by
    by_cases h : a.n.length = b.n.length
    · simp [h]
    · have : ¬ (a.n.length : Int) = (b.n.length : Int) := by omega
      simp [h, this]
  rw [e]
  unfold Arr.sz
  cases a.li <;> cases b.li <;> simp
  by_cases h : a.n.length = b.n.length <;> simp [h]
theorem rtext_run (g : List UInt8) {v u : PV} {a b : Arr} (hv : IsA v a) (hu : IsA u b) : bindO (pureO (.bin .neq .str true (.c (.str g)) (.c (.str [61])))) (fun z21 => iteP z21 (bindO (pureO (.bin .neq .str true (.c (.str g)) (.c (.str [226, 137, 160])))) (fun z22 => iteP z22 (bindO (selO v 1 1 false) (fun z23 => iteP z23 (bindO (selO v 2 1 false) (fun z24 => bindO (pureO (.len .slice (.c z24))) (fun z25 => bindO (pureO (.bin .gtr .num true (.c z25) (.c (.int .i64 0)))) (fun z26 => iteP z26 (some (PV.bool true)) (bindO (selO u 1 1 false) (fun z27 => iteP z27 (bindO (selO u 2 1 false) (fun z28 => bindO (pureO (.len .slice (.c z28))) (fun z29 => bindO (pureO (.bin .gtr .num true (.c z29) (.c (.int .i64 0)))) (fun z30 => some z30)))) (some (PV.bool false)))))))) (bindO (selO u 1 1 false) (fun z31 => iteP z31 (bindO (selO u 2 1 false) (fun z32 => bindO (pureO (.len .slice (.c z32))) (fun z33 => bindO (pureO (.bin .gtr .num true (.c z33) (.c (.int .i64 0)))) (fun z34 => some z34)))) (some (PV.bool false)))))) (some (PV.bool false)))) (some (PV.bool false))) = some (.bool (!Arr.isEq g && (a.text || b.text))) := by
  have lx := c2_is hv
  have ly := c2_is hu
  simp only [s1_is hv, s1_is hu, s2_is hv, s2_is hu, lx.len, ly.len, bV, pure_nes, iteP_bool, iD, I_gtr]
  have e0 : decide ((0 : Int) < (a.n.length : Int)) = decide (0 < a.n.length) := by by_cases h : 0 < a.n.length <;> simp [h]
  have e1 : decide ((0 : Int) < (b.n.length : Int)) = decide (0 < b.n.length) := by by_cases h : 0 < b.n.length <;> simp [h]
  rw [e0, e1]
  unfold Arr.text Arr.isEq
  rw [show (g == gEq) = (g == [61]) from rfl, show (g == gNe) = (g == [226, 137, 160]) from rfl]
  cases g == [61] <;> cases g == [226, 137, 160] <;> cases a.ru <;> cases b.ru <;> cases decide (0 < a.n.length) <;> simp
theorem dyL_sub {g : List UInt8} {a b : Arr} {n : Nat} (hf : ∀ i, i < n → a.fits i ∧ b.fits i) (ht : (!Arr.isEq g && (a.text || b.text)) = false) :
    dyL (dyF g (Arr.isEq g && (a.ru != b.ru))) (pairsFrom a b 0 n) = dyL (dyF g (a.ru != b.ru)) (pairsFrom a b 0 n) := by
  cases he : Arr.isEq g with
  | true => rw [Bool.true_and]
  | false =>
    simp only [he, Bool.not_false, Bool.true_and, Bool.or_eq_false_iff] at ht
    cases n with
    | zero => rfl
    | succ n =>
      obtain ⟨fa, fb⟩ := hf 0 (by omega)
      have pos : ∀ c : Arr, c.fits 0 → c.text = false → c.ru = false := by
        intro c hc htx
        unfold Arr.text at htx
        unfold Arr.fits at hc
        have : 0 < c.n.length := by
          cases hl : c.li with
          | true => simpa [hl] using hc
          | false => simpa [hl] using hc
        simpa [this] using htx
      rw [pos a fa ht.1, pos b fb ht.2]
      rfl
theorem sz_110 {a b : Arr} (h : (a.sz b).2 ≠ 0) : (a.sz b).2 = 110 := by
  unfold Arr.sz at h ⊢
  by_cases c : (a.li && (b.li && decide (a.n.length ≠ b.n.length))) = true
  · rw [if_pos c]
  · rw [if_neg c] at h
    exfalso
    apply h
    cases a.li <;> rfl
set_option maxHeartbeats 2000000 in
theorem rdyR {v u : PV} {a b : Arr} (hv : IsA v a) (hu : IsA u b) (hla : a.n.length ≤ 1000000) (hlb : b.n.length ≤ 1000000) (ha : a.inr) (hb : b.inr) (g : List UInt8) :
    ∃ w, callO B0 .cl (.fn 16 []) [.str g, v, u] = some (.tup [w, I (Arr.dy g a b).2]) ∧ IsA w (Arr.dy g a b).1 := by
  have hok : okVL [.str g, v, u] = true := by simp [okVL, okV, hv.ok, hu.ok]
  suffices key : ∃ w, runK (cfg0 B0 (fun _ => .cl)) fn16 (.cl) noHandler 0 [.cv (.str g), .cv v, .cv u] () = some (.tup [w, I (Arr.dy g a b).2], ()) ∧ IsA w (Arr.dy g a b).1 by
    obtain ⟨w, h1, h2⟩ := key
    exact ⟨w, call (d := fun _ => .cl) rfl (by decide) hok rfl h1, h2⟩
  have lx := c2_is hv
  have ly := c2_is hu
  rw [run16, valO_is hv, valO_is hu, cT, cT, rlen_run hv hu, rtext_run g hv hu]
  simp only [sel_is hv, sel_is hu, rright_run hv hla, rright_run hu hlb, rIsDy_run, s0_is hv, s0_is hu, s2_is hv, s2_is hu, lx.len, ly.len, bV, pure_not, iteP_bool, build0, iD]
  unfold Arr.dy
  cases hr : a.right with
  | false =>
    simp only [Bool.not_false, if_true, Bool.false_and]
    exact ⟨none3, rfl, noArr_is⟩
  | true =>
    simp only [Bool.not_true, Bool.false_eq_true, if_false, Bool.true_and]
    cases hr2 : b.right with
    | false =>
      simp only [Bool.not_false, if_true]
      exact ⟨none3, rfl, noArr_is⟩
    | true =>
      simp only [Bool.not_true, Bool.false_eq_true, if_false, Bool.true_eq_false]
      cases hd : isDyad g with
      | false =>
        simp only [Bool.not_false, if_true]
        exact ⟨none3, rfl, noArr_is⟩
      | true =>
        simp only [Bool.not_true, Bool.false_eq_true, if_false, Bool.true_eq_false]
        by_cases hs : (a.sz b).2 = 0
        · simp only [hs, ne_eq, not_true_eq_false, decide_false, Bool.false_eq_true, if_false]
          cases ht : (!Arr.isEq g && (a.text || b.text)) with
          | true =>
            simp only [if_true]
            exact ⟨none3, rfl, noArr_is⟩
          | false =>
            simp only [Bool.false_eq_true, if_false]
            obtain ⟨z1, z2, z3⟩ := sz_fits hr hr2 hs
            rw [dyL_sub z3 ht]
            have hsz := sz_1 hs
            have fin := fun li => rdyL_run hv hu ha hb g li (a.sz b).1.toNat (by omega) z3 (a.sz b).1.toNat 0 [] (by omega) rfl
            rw [hsz] at fin ⊢
            simp only [List.nil_append, List.length_nil, show ints [] = [] from rfl] at fin
            have bl : ∀ li : Bool, pureO (.build [.bool false, .bool false, .nilS] [(0, (1, .c (.bool li)))]) = some (.agg [.bool li, .bool false, .nilS]) := fun li => rfl
            have ok3 : ∀ li : Bool, okCells (.agg [.bool li, .bool false, .nilS]) 3 = true := fun li => rfl
            have nu : ∀ k : Int, noUndef [.str g, I k, I 0] = true := fun k => rfl
            simp only [bl, bV, ok3, cT]
            unfold nilO
            dsimp only [cellP3_2]
            simp only [nu, cT]
            cases hli : a.li with
            | true =>
              simp only [hli, if_true, Bool.true_or] at fin ⊢
              exact fin true
            | false =>
              simp only [hli, if_false, Bool.false_or, Bool.false_eq_true] at fin ⊢
              exact fin b.li
        · simp only [hs, ne_eq, not_false_eq_true, decide_true, if_true]
          have e : (a.sz b).2 = 110 := sz_110 hs
          rw [e]
          exact ⟨none3, rfl, noArr_is⟩
theorem few_inr {a : Arr} (h : a.inr) : a.few.inr := fun n hn => h n (List.mem_of_mem_take hn)
theorem mon_any {g : List UInt8} {a : Arr} : (Arr.mon g a).1.n.length ≤ 200 := by
  by_cases h : (Arr.mon g a).2 = 0
  · obtain ⟨r, e, hr, hl⟩ := mon_ok h
    rw [e]
    have := right_len hr
    simp only
    omega
  · rw [mon_err h]
    simp [noArr]
theorem law_does (s : List UInt8) {v u : PV} {a b : Arr} (hv : IsA v a) (hu : IsA u b) (ha : a.inr) (hb : b.inr) : runK (cfg0 B0 fun _ => .cl) fn5 .cl noHandler 0 [.cv (.str s), .cv v, .cv u] () = some (.bool true, ()) := by
  obtain ⟨v1, f1, i1⟩ := few_run hv
  obtain ⟨u1, f2, i2⟩ := few_run hu
  have la := few_len a
  have lb := few_len b
  have na := few_inr ha
  have nb := few_inr hb
  generalize a.few = a' at *
  generalize b.few = b' at *
  obtain ⟨c, hc, ic⟩ := amonR i2 (by omega) (s.take 20)
  obtain ⟨d, hd, id⟩ := rmonR i2 (by omega) nb (s.take 20)
  obtain ⟨e, hE, ie⟩ := adyR i1 i2 (by omega) (by omega) (s.take 20)
  obtain ⟨f, hF, jf⟩ := rdyR i1 i2 (by omega) (by omega) na nb (s.take 20)
  have s1 := rsame_run ic id (Nat.le_trans mon_any (by decide)) (Nat.le_trans mon_any (by decide))
  have s2 := rsame_run ie jf (Nat.le_trans dy_any (by decide)) (Nat.le_trans dy_any (by decide))
  rw [same_self] at s1 s2
  rw [run5, valO_is hv, valO_is hu, cT, cT, shown_run]
  simp only [bV, sel_is hv, sel_is hu, f1, f2, okSto_is i1 hv, okSto_is i2 hu, stoP_is i1 hv, stoP_is i2 hu, cT, sel_is i1, sel_is i2, short_run, hc, hd, hE, hF, pure_tup, List.getElem?_cons_zero, List.getElem?_cons_succ, okCells_is ic, okCells_is id, okCells_is ie, okCells_is jf, iteP_true, agg_is ic, agg_is id, agg_is ie, agg_is jf, s1, s2, I_eql, beq_self_eq_true]
end Go.Ab.Arrays


namespace Go.Ab.Arrays
open Go Go.Ab Go.Proofs
theorem sp_loc : SpLocal sp0 := by
  intro g σ σ' vs h
  unfold sp0
  split
  · unfold spAs
    split
    · rfl
    · rename_i t x p nm o
      have hm : nm ∈ reach σ deepest (namesL [.iface t x, .iface p (.ref nm o)]) := reach_mem _ _ nm (by simp [namesL, PV.names])
      rw [h nm hm]
    · rfl
  iterate 5
    split
    · rfl
  split
  · unfold spCheck
    split
    · rename_i n
      have hm : n ∈ reach σ deepest (namesL [.ref n 0]) := reach_mem _ _ n (by simp [namesL, PV.names])
      rw [h n hm]
    · rfl
  split
  · unfold spStr
    split
    · rename_i n
      have hm : n ∈ reach σ deepest (namesL [.ref n 0]) := reach_mem _ _ n (by simp [namesL, PV.names])
      rw [← h n hm]
      have h2 : ∀ a n' k, σ n = some (.cells 99 [a, .arr n' 1 0 k]) → σ n' = σ' n' := by
        intro a n' k he
        refine h n' ?_
        show n' ∈ reach σ 3 [n]
        unfold reach
        refine List.mem_append_right _ (reach_mem _ _ n' ?_)
        simp [he, Ob.names, namesL, PV.names]
      generalize hx : σ n = o at *
      split
      · rfl
      · rename_i a n' k
        rw [h2 a n' k rfl]
      · rfl
    · rfl
  rfl
theorem tab_ok : TabOK cx0 tab0 (deadOf Tryz.prog) := by
  intro f fn h
  unfold tab0 at h
  split at h
  · cases h; exact mkF_comp (by kernel_rfl)
  · cases h; exact mkF_comp (by kernel_rfl)
  · cases h; exact mkF_comp (by kernel_rfl)
  · cases h; exact mkF_comp (by kernel_rfl)
  · cases h; exact mkF_comp (by kernel_rfl)
  · cases h; exact mkF_comp (by kernel_rfl)
  · cases h; exact mkF_comp (by kernel_rfl)
  · cases h; exact mkF_comp (by kernel_rfl)
  · cases h; exact mkF_comp (by kernel_rfl)
  · cases h; exact mkF_comp (by kernel_rfl)
  · cases h; exact mkF_comp (by kernel_rfl)
  · cases h; exact mkF_comp (by kernel_rfl)
  · cases h; exact mkF_comp (by kernel_rfl)
  · cases h; exact mkF_comp (by kernel_rfl)
  · cases h; exact mkF_comp (by kernel_rfl)
  · cases h; exact mkF_comp (by kernel_rfl)
  · cases h; exact mkF_comp (by kernel_rfl)
  · cases h; exact mkF_comp (by kernel_rfl)
  · cases h; exact mkF_comp (by kernel_rfl)
  · cases h; exact mkF_comp (by kernel_rfl)
  · cases h; exact mkF_comp (by kernel_rfl)
  · cases h; exact mkF_comp (by kernel_rfl)
  · cases h; exact mkF_comp (by kernel_rfl)
  · cases h; exact mkF_comp (by kernel_rfl)
  · cases h; exact mkF_comp (by kernel_rfl)
  · cases h; exact mkF_comp (by kernel_rfl)
  · cases h; exact mkF_comp (by kernel_rfl)
  · cases h; exact mkF_comp (by kernel_rfl)
  · cases h; exact mkF_comp (by kernel_rfl)
  · cases h; exact mkF_comp (by kernel_rfl)
  · cases h; exact mkF_comp (by kernel_rfl)
  · cases h; exact mkF_comp (by kernel_rfl)
  · cases h; exact mkF_comp (by kernel_rfl)
  · cases h; exact mkF_comp (by kernel_rfl)
  · cases h; exact mkF_comp (by kernel_rfl)
  · cases h; exact mkF_comp (by kernel_rfl)
  · cases h; exact mkF_comp (by kernel_rfl)
  · cases h; exact mkF_comp (by kernel_rfl)
  · cases h; exact mkF_comp (by kernel_rfl)
  · cases h; exact mkF_comp (by kernel_rfl)
  · cases h; exact mkF_comp (by kernel_rfl)
  · cases h; exact mkF_comp (by kernel_rfl)
  · cases h; exact mkF_comp (by kernel_rfl)
  · cases h; exact mkF_comp (by kernel_rfl)
  · cases h; exact mkF_comp (by kernel_rfl)
  · cases h; exact mkF_comp (by kernel_rfl)
  · cases h; exact mkF_comp (by kernel_rfl)
  · cases h; exact mkF_comp (by kernel_rfl)
  · cases h; exact mkF_comp (by kernel_rfl)
  · cases h; exact mkF_comp (by kernel_rfl)
  · cases h; exact mkF_comp (by kernel_rfl)
  · cases h; exact mkF_comp (by kernel_rfl)
  · cases h; exact mkF_comp (by kernel_rfl)
  · cases h; exact mkF_comp (by kernel_rfl)
  · cases h; exact mkF_comp (by kernel_rfl)
  · cases h; exact mkF_comp (by kernel_rfl)
  · cases h; exact mkF_comp (by kernel_rfl)
  · cases h; exact mkF_comp (by kernel_rfl)
  · cases h; exact mkF_comp (by kernel_rfl)
  · cases h; exact mkF_comp (by kernel_rfl)
  · cases h; exact mkF_comp (by kernel_rfl)
  · cases h; exact mkF_comp (by kernel_rfl)
  · cases h; exact mkF_comp (by kernel_rfl)
  · cases h; exact mkF_comp (by kernel_rfl)
  · cases h; exact mkF_comp (by kernel_rfl)
  · cases h; exact mkF_comp (by kernel_rfl)
  · cases h; exact mkF_comp (by kernel_rfl)
  · cases h; exact mkF_comp (by kernel_rfl)
  · cases h; exact mkF_comp (by kernel_rfl)
  · cases h; exact mkF_comp (by kernel_rfl)
  · cases h; exact mkF_comp (by kernel_rfl)
  · cases h; exact mkF_comp (by kernel_rfl)
  · cases h; exact mkF_comp (by kernel_rfl)
  · cases h; exact mkF_comp (by kernel_rfl)
  · cases h; exact mkF_comp (by kernel_rfl)
  · cases h; exact mkF_comp (by kernel_rfl)
  · cases h; exact mkF_comp (by kernel_rfl)
  · cases h; exact mkF_comp (by kernel_rfl)
  · cases h; exact mkF_comp (by kernel_rfl)
  · cases h; exact mkF_comp (by kernel_rfl)
  · cases h; exact mkF_comp (by kernel_rfl)
  · cases h; exact mkF_comp (by kernel_rfl)
  · cases h; exact mkF_comp (by kernel_rfl)
  · cases h; exact mkF_comp (by kernel_rfl)
  · cases h; exact mkF_comp (by kernel_rfl)
  · cases h; exact mkF_comp (by kernel_rfl)
  · cases h; exact mkF_comp (by kernel_rfl)
  · cases h; exact mkF_comp (by kernel_rfl)
  · cases h; exact mkF_comp (by kernel_rfl)
  · cases h; exact mkF_comp (by kernel_rfl)
  · cases h; exact mkF_comp (by kernel_rfl)
  · cases h; exact mkF_comp (by kernel_rfl)
  · cases h; exact mkF_comp (by kernel_rfl)
  · cases h; exact mkF_comp (by kernel_rfl)
  · cases h; exact mkF_comp (by kernel_rfl)
  · cases h; exact mkF_comp (by kernel_rfl)
  · cases h
theorem law_done {g : FuncId} {fn : RFn} (ht : tab0 g = some fn) {args : List PV} (ha : okVL args = true) (hl : args.length ≤ fn.nt)
    (hr : runK (cfg0 B0 fun _ => .cl) fn .cl noHandler 0 (args.map KV.cv) () = some (.bool true, ())) {I : Nat → Prop} {w : World} {vs : List Value}
    (hI : ∀ b, I b → b < w.heap.size) (hw : cx0.Wd I w) (hrep : RepL w I (fun _ => none) none args vs) :
    Calls cx0.P g vs.toArray w fun e w' => e = .returned (.bool true) ∧ LawEnd w w' := by
  obtain ⟨n, hn⟩ := law_of_run (cfg_ok fun _ => .cl) ht ha hl hr
  exact law_calls (fn_ok sp_ok sp_loc tab_ok n) hn hI hw hrep
def arrD : DTy := .struct [.bool, .bool, .slice (.int .i64)]
def Told (fn : RFn) (Ds : List DTy) : Prop := ∀ us, HasVs Ds us → okVL us = true ∧ us.length ≤ fn.nt ∧ runK (cfg0 B0 fun _ => .cl) fn .cl noHandler 0 (us.map KV.cv) () = some (.bool true, ())
theorem wf_in {n : Int} (h : (Lit.int .i64 n).wf = true) : inR n := by
  unfold Lit.wf at h
  rw [Bool.and_eq_true, decide_eq_true_eq, decide_eq_true_eq] at h
  exact h
theorem ints_in : ∀ (xs : List PV), (∀ x ∈ xs, HasV (.int .i64) x) → ∃ l, xs = ints l ∧ ∀ n ∈ l, inR n
  | [], _ => ⟨[], rfl, by simp⟩
  | x :: xs, h => by
    obtain ⟨n, rfl, hn⟩ := h x List.mem_cons_self
    obtain ⟨l, rfl, hl⟩ := ints_in xs fun y hy => h y (List.mem_cons_of_mem _ hy)
    exact ⟨n :: l, rfl, fun m hm => by
      rcases List.mem_cons.1 hm with rfl | hm
      · exact wf_in hn
      · exact hl m hm⟩
theorem arr_in {v : PV} (h : HasV arrD v) : ∃ a, IsA v a ∧ a.inr := by
  obtain ⟨vs, rfl, b, r, rfl, ⟨b, rfl⟩, c, r, rfl, ⟨c, rfl⟩, x, r, rfl, hx, rfl⟩ := h
  have key : ∃ l, IsL x l ∧ x.cells = [x] ∧ ∀ n ∈ l, inR n := by
    rcases hx with rfl | ⟨xs, rfl, _, hx⟩
    · exact ⟨[], .nil, rfl, by simp⟩
    · obtain ⟨l, rfl, hl⟩ := ints_in xs hx
      exact ⟨l, .sl l false, rfl, hl⟩
  obtain ⟨l, h1, h2, h3⟩ := key
  refine ⟨⟨b, c, l⟩, ?_, h3⟩
  rw [show cellsL [PV.bool b, PV.bool c, x] = [.bool b, .bool c, x] by simp only [cellsL, h2]; rfl]
  exact .mk _ _ _ _ h1
theorem told_does : Told fn5 [.str, arrD, arrD] := by
  rintro us ⟨_, _, rfl, ⟨s, rfl, _⟩, _, _, rfl, ha, _, _, rfl, hb, rfl⟩
  obtain ⟨a, ha, ia⟩ := arr_in ha
  obtain ⟨b, hb, ib⟩ := arr_in hb
  exact ⟨by simp [okVL, okV, ha.ok, hb.ok], Nat.le_of_ble_eq_true rfl, law_does s ha hb ia ib⟩
end Go.Ab.Arrays


namespace Go.Ab.Arrays
open Go Go.Ab Go.Proofs Go.Proofs.YtfeimbgcjimjdaaGreatDoor Go.ChangeShapes Go.WideShapes Go.RowKit
theorem p_own : ownKnob Tryz.prog.godebug = none := by kernel_rfl
theorem p_et : Tryz.prog.globalNamed "errors.errorType" = some 0 := by kernel_rfl
theorem p_e1 : Tryz.prog.globalNamed "diaeresis/number.errOver" = some 1 := by kernel_rfl
theorem p_e2 : Tryz.prog.globalNamed "diaeresis/number.errDivide" = some 2 := by kernel_rfl
theorem p_t1 : (Tryz.prog.globals[1]?).map (·.type) = some 42 := by kernel_rfl
theorem p_t2 : (Tryz.prog.globals[2]?).map (·.type) = some 42 := by kernel_rfl
theorem p_p : Tryz.prog.globalNamed "internal/strconv.uint64pow10" = some 8 := by kernel_rfl
theorem p_pt : (Tryz.prog.globals[8]?).map (·.type) = some 184 := by kernel_rfl
theorem p_rt : (Tryz.prog.cutTypes.find? (·.1 == "internal/reflectlite.rtype")).map (·.2) = some 130 := by kernel_rfl
theorem p_oneRow : ((List.range 221).filter fun t => Tryz.prog.rowNamed t [101, 114, 114, 111, 114]) = [42] := by kernel_rfl
theorem p_size : Tryz.prog.types.size = 221 := by kernel_rfl
theorem p_c177 : Tryz.prog.cellsOf 177 = 1 := by kernel_rfl
theorem p_c9 : Tryz.prog.cellsOf 9 = 1 := by kernel_rfl
theorem p_star : "*" ++ "errors.errorString" = "*errors.errorString" := by decide
theorem p_row (u : TypeId) (h : Tryz.prog.typeName? 3 u = some "*errors.errorString") : u = 175 :=
  typeName_ptr_named (nm := "errors.errorString") (by rw [p_star]; kernel_rfl) (by kernel_rfl) (by decide) u (by rw [p_star]; exact h)
theorem row_of_var {W : World} {n : String} {g : Nat} {cs : Array Value} (hg : Tryz.prog.globalNamed n = some g) (h : W.var? Tryz.prog n = some cs) : ∃ E fr, W.heap[g]? = some (.cells cs E fr) := by
  unfold World.var? at h
  rw [hg] at h
  simp only [Option.bind_some] at h
  split at h
  · rename_i cs' E fr hh
    cases h
    exact ⟨E, fr, hh⟩
  · cases h
theorem in_heap {W : World} {b : Nat} {o : Obj} (h : W.heap[b]? = some o) : b < W.heap.size := (Array.getElem?_eq_some_iff.1 h).1
set_option maxRecDepth 100000 in
theorem vars_of_laid {W : World} (hsh : W.ShapedOpen Tryz.prog) (h : laidMetH Tryz.prog Rows.arrayRightsRow.laid W) : Vars (fun b => b < W.heap.size) W := by
  have h' : handlesMet Tryz.prog [("errors.errorType", Rows.laid_errors_errorType)] W := h.2
  have hd : laidMet Tryz.prog [("math/bits.deBruijn32tab", Rows.laid_math_bits_deBruijn32tab), ("math/bits.deBruijn64tab", Rows.laid_math_bits_deBruijn64tab), ("internal/strconv.uint64pow10", Rows.laid_internal_strconv_uint64pow10), ("unicode/utf8.acceptRanges", Rows.laid_unicode_utf8_acceptRanges), ("diaeresis/number.errOver", Rows.laid_diaeresis_number_errOver), ("diaeresis/number.errDivide", Rows.laid_diaeresis_number_errDivide), ("strconv.ErrRange", Rows.laid_strconv_ErrRange), ("strconv.ErrSyntax", Rows.laid_strconv_ErrSyntax), ("unicode/utf8.first", Rows.laid_unicode_utf8_first)] W := h.1
  have hs := hd.filter fun x => x.1 == "diaeresis/number.errOver" || x.1 == "diaeresis/number.errDivide"
  have hp := hd.filter fun x => x.1 == "internal/strconv.uint64pow10"
  have hs : laidMet Tryz.prog [("diaeresis/number.errOver", Rows.laid_diaeresis_number_errOver), ("diaeresis/number.errDivide", Rows.laid_diaeresis_number_errDivide)] W := hs
  have hp : laidMet Tryz.prog [("internal/strconv.uint64pow10", Lib.tabData .u64 Lib.pow10Tab)] W := hp
  obtain ⟨name, u, ty, e1, e2, e3, e4, e5⟩ := h' _ (List.mem_singleton.2 rfl)
  have en : name = [101, 114, 114, 111, 114] := (Option.some.inj e1).symm
  subst en
  obtain rfl := Option.some.inj (p_rt.symm.trans e2)
  have hm : ty ∈ (List.range 221).filter fun t => Tryz.prog.rowNamed t [101, 114, 114, 111, 114] := List.mem_filter.2 ⟨List.mem_range.2 (by rw [← p_size]; exact e3), e4⟩
  rw [p_oneRow] at hm
  obtain rfl := List.mem_singleton.1 hm
  have hh : typeHandle Tryz.prog 42 = .pointer (some ⟨11, 42, none⟩) := by kernel_rfl
  rw [hh] at e5
  obtain ⟨a0, a1, s0, s1, c0, c1, t0, t1, hv0, hv1, hc0, hs0, hz0, hc1, hs1, hz1, hne, hb0, hb1⟩ := laid_sentinels2 hs p_e1 p_t1 p_e2 p_t2 Tryz.underlying42 p_row Tryz.underlying175 Tryz.underlying177 rfl rfl Tryz.underlying9 p_c177 p_c9
  obtain ⟨E1, f1, r1⟩ := row_of_var p_e1 hv0
  obtain ⟨E2, f2, r2⟩ := row_of_var p_e2 hv1
  have hpw : Lib.TabIs Tryz.prog W "internal/strconv.uint64pow10" .u64 Lib.pow10Tab := Lib.tabIs_of_head p_p p_pt Tryz.underlying184 Tryz.underlying143 (by kernel_rfl) (by kernel_rfl) hp
  obtain ⟨E3, f3, r3⟩ := row_of_var p_p hpw
  have hml : ∃ m, W.cell? ⟨3, 0, none⟩ = some (.int .i64 m) := cell_of_shapedOpen_int hsh (g := 3) (t := 3) (zero := #[.int .i64 0]) (of_decide_eq_true (by kernel_rfl)) (by kernel_rfl) rfl (by kernel_rfl) (by kernel_rfl) Tryz.underlying3
  exact ⟨by simpa using World.var?_cell p_et e5 0, ⟨a0, a1, c0, c1, t0, t1, E1, E2, f1, f2, r1, r2, hne, in_heap hb0, in_heap hb1, hb0, hb1⟩, hml, ⟨E3, f3, r3⟩⟩
theorem wd_of_laid {W : World} (hsh : W.ShapedOpen Tryz.prog) (h : laidMetH Tryz.prog Rows.arrayRightsRow.laid W) : cx0.Wd (fun b => b < W.heap.size) W := by
  have hv := vars_of_laid hsh h
  refine ⟨?_, hv⟩
  have h8 : 8 < W.heap.size := by
    obtain ⟨E, fr, r⟩ := hv.pw
    exact in_heap r
  exact ⟨by omega, by omega, by omega, by omega, h8⟩
theorem change_and_shaped {H : Type} {enc : TypeId × Value → H} {C : Checked} {os : Os} {f : FuncId} {fn : Func} {s : ChangeSpec} {conds : List PathCond} {apart fresh handsOn again : Bool} {X : World → Array Value → Prop}
    (hX : ∀ (w w' : World) (args : Array Value), w.heap = w'.heap → X w args → X w' args)
    (own : ownKnob C.prog.godebug = none) (started : os.Started) (noInit : C.prog.inits.idxOf? f = none) (hfn : C.prog.funcs[f]? = some fn)
    (witness : ∃ (w : World) (tape : Tape) (i : Input), w.os = os ∧ (w.forCall tape i).Shaped C.prog ∧ i.vars = [] ∧ Input.okWide C.prog (w.forCall tape i) .any w.heap.size f i ∧
      ((s.pre enc C.prog fn conds apart (w.forCall tape i).memory i.args ∧ X (w.forCall tape i).memory i.args) ∧ sizedMet enc C.prog fn (OpenSpec.ofChange s) apart (w.forCall tape i).memory i.args) ∧ ({} : Assume).holds C.prog (lone (Frame.enter C.prog f i.args .normal) [] (w.forCall tape i)))
    (contract : ∀ (W : World) (base : Nat) (args : Array Value) (ds gs : List (DataW H)) (before : List MemPlace),
      (∀ (j : Nat) t v, fn.params[j]? = some t → args[j]? = some v → Value.okWide C.prog W .any base t v) →
      DataW.Whole enc C.prog fn.params.toList s.vars apart W args.toList ds gs before → X W args → W.ShapedOpen C.prog →
      Calls C.prog f args W fun e W' => ∃ v, e = .returned v ∧ s.post enc C.prog fn apart fresh handsOn again W args v W') :
    ReturnsInHanded {} C os f .any (fun w args => (s.pre enc C.prog fn conds apart w args ∧ X w args) ∧ sizedMet enc C.prog fn (OpenSpec.ofChange s) apart w args) (s.post enc C.prog fn apart fresh handsOn again) := by
  refine returnsInHanded_of_calls own started noInit witness ?_
  intro w tape i _ hsh _ hok hpre _
  obtain ⟨_, _, _, fn', hfn', _, _, _, _, hval⟩ := hok
  have e : fn' = fn := Option.some.inj (hfn'.symm.trans hfn)
  subst e
  obtain ⟨⟨⟨ds, gs, before, hw, hc⟩, hx⟩, hz⟩ := hpre
  have hw' := DataW.Whole.of_heap (w' := w.forCall tape i) (by rfl) hw
  refine (contract (w.forCall tape i) w.heap.size i.args ds gs before hval hw' (hX _ _ _ (by rfl) hx) hsh).mono fun e W' ⟨v, he, hp⟩ => ?_
  subst he
  exact ChangeSpec.post_blind hp
mutual
def tabCells : DataW Unit → List Value
  | .lit (.int k n) => [.int k n]
  | .agg ds => tabCellsL ds
  | _ => []
def tabCellsL : List (DataW Unit) → List Value
  | [] => []
  | d :: ds => tabCells d ++ tabCellsL ds
end
def textOf : DataW Unit → ByteArray
  | .iface _ (.ptr (.agg [.lit (.string s)])) => ⟨s.toArray⟩
  | _ => ⟨#[]⟩
def putTab (h : Array Obj) (i : Nat) (d : DataW Unit) : Array Obj := h.modify i fun
  | .cells _ t frozen => .cells (tabCells d).toArray t frozen
  | o => o
def putCell (h : Array Obj) (i : Nat) (v : Value) : Array Obj := h.modify i fun
  | .cells _ t frozen => .cells #[v] t frozen
  | o => o
noncomputable def low : Nat := (World.holding Tryz.prog default ⟨#[], #[], []⟩).heap.size
noncomputable def laidWorld (os : Os) : World :=
  let w0 := World.holding Tryz.prog os ⟨#[.cells #[.string (textOf Rows.laid_diaeresis_number_errOver)] 177, .cells #[.string (textOf Rows.laid_diaeresis_number_errDivide)] 177, .cells #[.string (textOf Rows.laid_strconv_ErrSyntax)] 177, .cells #[.string (textOf Rows.laid_strconv_ErrRange)] 177], #[], []⟩
  let h0 := putCell w0.heap 0 (.iface 130 (.agg #[.pointer (some ⟨11, 42, none⟩)]))
  let h1 := putCell (putCell (putCell (putCell h0 1 (.iface 175 (.pointer (some ⟨low, 0, none⟩)))) 2 (.iface 175 (.pointer (some ⟨low + 1, 0, none⟩)))) 4 (.iface 175 (.pointer (some ⟨low + 2, 0, none⟩)))) 5 (.iface 175 (.pointer (some ⟨low + 3, 0, none⟩)))
  { w0 with heap := putTab (putTab (putTab (putTab (putTab h1 6 Rows.laid_unicode_utf8_first) 7 Rows.laid_unicode_utf8_acceptRanges) 8 Rows.laid_internal_strconv_uint64pow10) 9 Rows.laid_math_bits_deBruijn32tab) 10 Rows.laid_math_bits_deBruijn64tab }
theorem laidWorld_met (os : Os) (args : Array Value) : laidMetH Tryz.prog Rows.arrayRightsRow.laid ((laidWorld os).forCall (fun _ _ => 0) ⟨#[], args, []⟩).memory :=
  laidMetH_of_parts (laidMet_of_run' 8 (by kernel_rfl) (by kernel_rfl)) (by kernel_rfl)
end Go.Ab.Arrays

