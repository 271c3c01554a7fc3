/-
  DeriveBack: items gathered are the array.
  For every input the law returns true, and leaves its arguments as they were. Conditions: the package variables of the library that the row lists hold at the start what the text of the library lays (the card ties them).
-/
import Derived.Test.YtbeonejdegijfaaGreatDoorK09
import Derived.Test.YtbeonejdegijfaaGreatDoorCards
import Derived.Test.YtbeonejdegijfaaGreatDoorTie
import Derived.SevenTiedAt
set_option linter.all false
namespace Go.Proofs.YtbeonejdegijfaaGreatDoor
open Go Go.Ab Go.Ab.Derive Go.Proofs Go.ChangeShapes Go.WideShapes Go.RowKit

set_option maxRecDepth 100000 in
theorem back_lifted (os : Os) (started : os.Started) (H : Type) (enc : TypeId × Value → H) :
    ReturnsInHanded {} Tryz.checked os 10 .any (fun w args => (Rows.deriveBackSpec.pre enc Tryz.prog Tryz.f10 [] false w args ∧ laidMetH Tryz.prog Rows.deriveBackRow.laid w) ∧ sizedMet enc Tryz.prog Tryz.f10 (OpenSpec.ofChange Rows.deriveBackSpec) false w args)
      (Rows.deriveBackSpec.post enc Tryz.prog Tryz.f10 false true false false) := by
  refine change_and_shaped (C := Tryz.checked) (X := fun w _ => laidMetH Tryz.prog Rows.deriveBackRow.laid w) (fun _ _ _ hh h => h.of_heap hh) p_own started (by kernel_rfl) Tryz.func10
    (ChangeSpec.witness_at (enc := enc) (C := Tryz.checked) (os := os) (X := fun w _ => laidMetH Tryz.prog Rows.deriveBackRow.laid w) false (laidWorld os) #[.agg #[.bool false, .bool false, .slice none 0 0]] 8 rfl (by kernel_rfl) (by kernel_rfl) (by kernel_rfl) (by kernel_rfl) (by kernel_rfl) (laidWorld_met os _)) ?_
  intro W base args ds gs before hval0 hW hL hSh
  have hval : ∀ (j : Nat) t v, Tryz.f10.params[j]? = some t → args[j]? = some v → Value.okWide Tryz.prog W .any base t v := hval0
  have hW' := hW
  obtain ⟨p, q, hA0, hV, rfl, hfz, hnd⟩ := hW
  have hA : DataW.TrodAll enc Tryz.prog W 0 (fun _ => true) true Tryz.f10.params.toList args.toList ds p := hA0
  rw [Tryz.params10] at hA hval
  have hA2 := hA
  obtain ⟨v0, d0, rfl, rfl, g0⟩ := trodAll_one hA
  obtain ⟨rfl, rfl⟩ := trodVars_none hV
  clear hA0 hval0
  simp only [List.append_nil] at hW'
  obtain ⟨us, hus, hrep⟩ := args_rep (lp := fun _ => none) (I := fun b => b < W.heap.size) (fun _ h => h) (m := 12) (base := base) [arrD] [24] _ _ _ (by kernel_rfl) (fun j t v h1 h2 => hval j t v (by simpa using h1) (by simpa using h2)) hA2
  obtain ⟨ha, hl, hr⟩ := told_back us hus
  have hc := law_done (g := 10) rfl ha hl hr (w := W) (fun _ h => h) (wd_of_laid hSh hL) hrep
  refine hc.mono fun e W' ⟨he, hw⟩ => ?_
  subst he
  refine ⟨_, rfl, _, _, _, [], _, [], hW', trodAll_mk1 (shut_bool Tryz.underlying4 true), args_keep hw.same (fun b hb => by simpa using hb) (m := 12) [arrD] [24] _ _ _ (by kernel_rfl) hA2, rfl, keptBut_of_same hw.os hw.output hw.same, fun h => by cases h⟩
set_option maxRecDepth 100000 in
theorem back_row : Rows.DeriveBackSaid :=
  OpenClaim.holds_of_wide 10 Tryz.f10 rfl rfl rfl rfl rfl rfl rfl ⟨rfl, rfl, rfl, rfl, rfl⟩ rfl rfl rfl rfl rfl (by kernel_rfl) Tryz.func10 (by kernel_rfl)
    (of_decide_eq_true (by kernel_rfl)) (by unfold Func.isWrapper; rw [if_neg (of_decide_eq_false (by kernel_rfl))]; exact ⟨rfl, rfl⟩)
    (fun os started H enc _ => back_lifted os started H enc)
set_option maxRecDepth 100000 in
theorem back_holds : Rows.DeriveBackCardSaid :=
  Claim7.holds_tied_plain_at .later [] [.data, .data, .data, .data, .handle, .sentinel, .sentinel, .pinned] true (true, "a956305c45f591150464d50169e74aa4066da4b801df29c6506d537ce770211f") true
    back_row (fun _ h => by cases h) (by kernel_rfl) (fun _ h => by cases h) deriveBack_row_tie rfl ⟨rfl, rfl⟩ (by kernel_rfl) rfl
    (fun f fn hf hfn => by
      obtain rfl : f = 10 := Option.some.inj ((show Tryz.prog.funcNamed Tryz.f10.name = some 10 by kernel_rfl).symm.trans hf) |>.symm
      obtain rfl : fn = Tryz.f10 := (Option.some.inj (Tryz.func10.symm.trans hfn)).symm
      exact ⟨by kernel_rfl, fun j t ht => by
        rw [Tryz.params10] at ht
        match j, ht with
        | 0, ht =>
          obtain rfl : t = 24 := by simpa using ht.symm
          exact (show Tryz.prog.wantsStandIn 24 = false by kernel_rfl)
        | i + 1, ht => simp at ht⟩)
    (by kernel_rfl)
#print axioms back_holds
end Go.Proofs.YtbeonejdegijfaaGreatDoor
