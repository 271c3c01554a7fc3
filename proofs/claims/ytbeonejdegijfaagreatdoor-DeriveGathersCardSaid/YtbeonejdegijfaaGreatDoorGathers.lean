/-
  DeriveGathers: items, and what is gathered, are as the document has them.
  For every input the law returns true, and leaves its arguments as they were. Conditions: the package variables of the library that the row lists hold at the start what the text of the library lays (the card ties them).
-/
import Derived.Test.YtbeonejdegijfaaGreatDoorK09
import Derived.Test.YtbeonejdegijfaaGreatDoorCards
import Derived.Test.YtbeonejdegijfaaGreatDoorTie
import Derived.SevenTiedAt
set_option linter.all false
namespace Go.Proofs.YtbeonejdegijfaaGreatDoor
open Go Go.Ab Go.Ab.Derive Go.Proofs Go.ChangeShapes Go.WideShapes Go.RowKit

set_option maxRecDepth 100000 in
theorem gathers_lifted (os : Os) (started : os.Started) (H : Type) (enc : TypeId × Value → H) :
    ReturnsInHanded {} Tryz.checked os 9 .any (fun w args => (Rows.deriveGathersSpec.pre enc Tryz.prog Tryz.f9 [] false w args ∧ laidMetH Tryz.prog Rows.deriveGathersRow.laid w) ∧ sizedMet enc Tryz.prog Tryz.f9 (OpenSpec.ofChange Rows.deriveGathersSpec) false w args)
      (Rows.deriveGathersSpec.post enc Tryz.prog Tryz.f9 false true false false) := by
  refine change_and_shaped (C := Tryz.checked) (X := fun w _ => laidMetH Tryz.prog Rows.deriveGathersRow.laid w) (fun _ _ _ hh h => h.of_heap hh) p_own started (by kernel_rfl) Tryz.func9
    (ChangeSpec.witness_at (enc := enc) (C := Tryz.checked) (os := os) (X := fun w _ => laidMetH Tryz.prog Rows.deriveGathersRow.laid w) false (laidWorld os) #[.agg #[.bool false, .bool false, .slice none 0 0], .slice none 0 0, .bool false, .bool false] 8 rfl (by kernel_rfl) (by kernel_rfl) (by kernel_rfl) (by kernel_rfl) (by kernel_rfl) (laidWorld_met os _)) ?_
  intro W base args ds gs before hval0 hW hL hSh
  have hval : ∀ (j : Nat) t v, Tryz.f9.params[j]? = some t → args[j]? = some v → Value.okWide Tryz.prog W .any base t v := hval0
  have hW' := hW
  obtain ⟨p, q, hA0, hV, rfl, hfz, hnd⟩ := hW
  have hA : DataW.TrodAll enc Tryz.prog W 0 (fun _ => true) true Tryz.f9.params.toList args.toList ds p := hA0
  rw [Tryz.params9] at hA hval
  have hA2 := hA
  obtain ⟨v0, v1, v2, v3, d0, d1, d2, d3, p0, p1, p2, p3, rfl, rfl, rfl, g0, g1, g2, g3⟩ := trodAll_four hA
  obtain ⟨rfl, rfl⟩ := trodVars_none hV
  clear hA0 hval0
  simp only [List.append_nil] at hW'
  obtain ⟨us, hus, hrep⟩ := args_rep (lp := fun _ => none) (I := fun b => b < W.heap.size) (fun _ h => h) (m := 12) (base := base) [arrD, .slice arrD, .bool, .bool] [24, 37, 4, 4] _ _ _ (by kernel_rfl) (fun j t v h1 h2 => hval j t v (by simpa using h1) (by simpa using h2)) hA2
  obtain ⟨ha, hl, hr⟩ := told_gathers us hus
  have hc := law_done (g := 9) rfl ha hl hr (w := W) (fun _ h => h) (wd_of_laid hSh hL) hrep
  refine hc.mono fun e W' ⟨he, hw⟩ => ?_
  subst he
  refine ⟨_, rfl, _, _, _, [], _, [], hW', trodAll_mk1 (shut_bool Tryz.underlying4 true), args_keep hw.same (fun b hb => by simpa using hb) (m := 12) [arrD, .slice arrD, .bool, .bool] [24, 37, 4, 4] _ _ _ (by kernel_rfl) hA2, rfl, keptBut_of_same hw.os hw.output hw.same, fun h => by cases h⟩
set_option maxRecDepth 100000 in
theorem gathers_row : Rows.DeriveGathersSaid :=
  OpenClaim.holds_of_wide 9 Tryz.f9 rfl rfl rfl rfl rfl rfl rfl ⟨rfl, rfl, rfl, rfl, rfl⟩ rfl rfl rfl rfl rfl (by kernel_rfl) Tryz.func9 (by kernel_rfl)
    (of_decide_eq_true (by kernel_rfl)) (by unfold Func.isWrapper; rw [if_neg (of_decide_eq_false (by kernel_rfl))]; exact ⟨rfl, rfl⟩)
    (fun os started H enc _ => gathers_lifted os started H enc)
set_option maxRecDepth 100000 in
theorem gathers_holds : Rows.DeriveGathersCardSaid :=
  Claim7.holds_tied_plain_at .later [] [.data, .data, .data, .data, .handle, .sentinel, .sentinel, .pinned] true (true, "a956305c45f591150464d50169e74aa4066da4b801df29c6506d537ce770211f") true
    gathers_row (fun _ h => by cases h) (by kernel_rfl) (fun _ h => by cases h) deriveGathers_row_tie rfl ⟨rfl, rfl⟩ (by kernel_rfl) rfl
    (fun f fn hf hfn => by
      obtain rfl : f = 9 := Option.some.inj ((show Tryz.prog.funcNamed Tryz.f9.name = some 9 by kernel_rfl).symm.trans hf) |>.symm
      obtain rfl : fn = Tryz.f9 := (Option.some.inj (Tryz.func9.symm.trans hfn)).symm
      exact ⟨by kernel_rfl, fun j t ht => by
        rw [Tryz.params9] at ht
        match j, ht with
        | 0, ht =>
          obtain rfl : t = 24 := by simpa using ht.symm
          exact (show Tryz.prog.wantsStandIn 24 = false by kernel_rfl)
        | 1, ht =>
          obtain rfl : t = 37 := by simpa using ht.symm
          exact (show Tryz.prog.wantsStandIn 37 = false by kernel_rfl)
        | 2, ht =>
          obtain rfl : t = 4 := by simpa using ht.symm
          exact (show Tryz.prog.wantsStandIn 4 = false by kernel_rfl)
        | 3, ht =>
          obtain rfl : t = 4 := by simpa using ht.symm
          exact (show Tryz.prog.wantsStandIn 4 = false by kernel_rfl)
        | i + 4, ht => simp at ht⟩)
    (by kernel_rfl)
#print axioms gathers_holds
end Go.Proofs.YtbeonejdegijfaaGreatDoor
