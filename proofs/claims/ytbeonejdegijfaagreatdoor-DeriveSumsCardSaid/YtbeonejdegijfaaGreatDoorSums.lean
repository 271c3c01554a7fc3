/-
  DeriveSums: a sum of a list joined of two is the sum of their sums; the last item of a scan is the whole reduction.
  For every input the law returns true, and leaves its arguments as they were. Conditions: the package variables of the library that the row lists hold at the start what the text of the library lays (the card ties them).
-/
import Derived.Test.YtbeonejdegijfaaGreatDoorK11
import Derived.Test.YtbeonejdegijfaaGreatDoorCards
import Derived.Test.YtbeonejdegijfaaGreatDoorTie
import Derived.SevenTiedAt
set_option linter.all false
namespace Go.Proofs.YtbeonejdegijfaaGreatDoor
open Go Go.Ab Go.Ab.Derive2 Go.Proofs Go.ChangeShapes Go.WideShapes Go.RowKit

set_option maxRecDepth 100000 in
theorem sums_lifted (os : Os) (started : os.Started) (H : Type) (enc : TypeId × Value → H) :
    ReturnsInHanded {} Tryz.checked os 5 .any (fun w args => (Rows.deriveSumsSpec.pre enc Tryz.prog Tryz.f5 [] false w args ∧ laidMetH Tryz.prog Rows.deriveSumsRow.laid w) ∧ sizedMet enc Tryz.prog Tryz.f5 (OpenSpec.ofChange Rows.deriveSumsSpec) false w args)
      (Rows.deriveSumsSpec.post enc Tryz.prog Tryz.f5 false true false false) := by
  refine qt7 (C := Tryz.checked) (X := fun w _ => laidMetH Tryz.prog Rows.deriveSumsRow.laid w) (fun _ _ _ hh h => h.of_heap hh) p_own started (by kernel_rfl) Tryz.func5
    (ChangeSpec.witness_at (enc := enc) (C := Tryz.checked) (os := os) (X := fun w _ => laidMetH Tryz.prog Rows.deriveSumsRow.laid w) false (Qgs os) #[.agg #[.bool false, .bool false, .slice none 0 0], .agg #[.bool false, .bool false, .slice none 0 0]] 8 rfl (by kernel_rfl) (by kernel_rfl) (by kernel_rfl) (by kernel_rfl) (by kernel_rfl) (Qdd os _)) ?_
  intro W base args ds gs before hval0 hW hL hSh
  have hval : ∀ (j : Nat) t v, Tryz.f5.params[j]? = some t → args[j]? = some v → Value.okWide Tryz.prog W .any base t v := hval0
  have hW' := hW
  obtain ⟨p, q, hA0, hV, rfl, hfz, hnd⟩ := hW
  have hA : DataW.TrodAll enc Tryz.prog W 0 (fun _ => true) true Tryz.f5.params.toList args.toList ds p := hA0
  rw [Tryz.params5] at hA hval
  have hA2 := hA
  obtain ⟨v0, v1, d0, d1, p0, p1, rfl, rfl, rfl, g0, g1⟩ := trodAll_two hA
  obtain ⟨rfl, rfl⟩ := trodVars_none hV
  clear hA0 hval0
  simp only [List.append_nil] at hW'
  obtain ⟨us, hus, hrep⟩ := Qpg (lp := fun _ => none) (I := fun b => b < W.heap.size) (fun _ h => h) (m := 12) (base := base) [arrD, arrD] [24, 24] _ _ _ (by kernel_rfl) (fun j t v h1 h2 => hval j t v (by simpa using h1) (by simpa using h2)) hA2
  obtain ⟨ha, hl, hr⟩ := told_sums us hus
  have hc := law_done (g := 5) rfl ha hl hr (w := W) (fun _ h => h) (wd_of_laid hSh hL) hrep
  refine hc.mono fun e W' ⟨he, hw⟩ => ?_
  subst he
  refine ⟨_, rfl, _, _, _, [], _, [], hW', trodAll_mk1 (shut_bool Tryz.underlying4 true), Qjq hw.same (fun b hb => by simpa using hb) (m := 12) [arrD, arrD] [24, 24] _ _ _ (by kernel_rfl) hA2, rfl, qx6 hw.os hw.output hw.same, fun h => by cases h⟩
set_option maxRecDepth 100000
theorem jsums_0 : (Rows.deriveSumsRow.wf (OpenSpec.ofChange Rows.deriveSumsSpec)) = true := by kernel_rfl
theorem jsums_3 : (Tryz.f5.params.all (Tryz.prog.readableRec ·)) = true := by kernel_rfl
theorem jsums_4 : (namedTie Tryz.prog Rows.deriveSumsRow.named Rows.deriveSumsSpec.vars) = true := by kernel_rfl
theorem jsums_5 : ((Rows.deriveSumsRow.stops == [])) = true := by kernel_rfl
theorem jsums_7 : ((Rows.deriveSumsRow.knobs == [])) = true := by kernel_rfl
theorem jsums_9 : ((Rows.deriveSumsRow.inPlace == Tryz.prog.inPlace 5)) = true := by kernel_rfl
theorem jsums_10 : ((Rows.deriveSumsRow.unfollowed == Tryz.prog.unfollowed 5)) = true := by kernel_rfl
theorem jsums_11 : ((Rows.deriveSumsRow.recurses == Tryz.prog.recurses 5)) = true := by kernel_rfl
theorem jsums_12 : ((Rows.deriveSumsRow.named == Tryz.prog.varsNamed 5)) = true := by kernel_rfl
theorem jsums_13 : ((Rows.deriveSumsRow.maps == (Tryz.f5.params.toList ++ Rows.deriveSumsSpec.plain.varTypes Tryz.prog).any (Tryz.prog.mapsRec ·))) = true := by kernel_rfl
theorem jsums_14 : ((Rows.deriveSumsRow.ifaces == (Tryz.f5.params.toList ++ Rows.deriveSumsSpec.plain.varTypes Tryz.prog).any (Tryz.prog.ifacesRec ·))) = true := by kernel_rfl
theorem jsums_15 : ((Rows.deriveSumsRow.mapsOut == Tryz.prog.mapsAmong Tryz.f5.resultTypes.toList)) = true := by kernel_rfl
theorem jsums_16 : ((Rows.deriveSumsRow.loops == (Tryz.f5.params.toList ++ Rows.deriveSumsSpec.plain.varTypes Tryz.prog).any (Tryz.prog.loopsFrom ·))) = true := by kernel_rfl
theorem jsums_17 : ((Rows.deriveSumsRow.wideKeys == (Tryz.f5.params.toList ++ Rows.deriveSumsSpec.plain.varTypes Tryz.prog ++ Tryz.f5.resultTypes.toList).any (Tryz.prog.wideKeysFrom ·))) = true := by kernel_rfl
theorem jsums_18 : (Rows.deriveSumsSpec.vars.all (Tryz.prog.varReadable ·)) = true := by kernel_rfl
theorem jsums_19 : (Tryz.f5.resultTypes.all (fun t => Tryz.prog.readableRec t && decide (t < Tryz.prog.types.size))) = true := by kernel_rfl
theorem jsums_20 : ((Rows.deriveSumsRow.ifacesOut == Tryz.f5.resultTypes.toList.any (Tryz.prog.ifacesRec ·))) = true := by kernel_rfl
theorem jsums_21 : ((Rows.deriveSumsRow.loopsOut == Tryz.f5.resultTypes.toList.any (Tryz.prog.loopsFrom ·))) = true := by kernel_rfl
theorem jsums_22 : ((Rows.deriveSumsRow.plainKeys == Tryz.prog.plainKeys)) = true := by kernel_rfl
theorem jsums_23 : (Rows.deriveSumsRow.shortTexts.isNone) = true := by kernel_rfl
theorem jsums_26 : ((Rows.deriveSumsRow.lifted == Tryz.prog.liftsFinal)) = true := by kernel_rfl
theorem jsums_27 : ((Tryz.prog.make == some Rows.deriveSumsRow.make)) = true := by kernel_rfl
theorem jsums_28 : ((Rows.deriveSumsRow.kinds == (if Rows.deriveSumsRow.domain.isEmpty then [] else Tryz.f5.params.toList.map fun t => match Tryz.prog.underlying t with | some (.int k) => some k | _ => none))) = true := by kernel_rfl
theorem jsums_29 : ((Rows.deriveSumsRow.pinned == Rows.deriveSumsRow.pinnedBy)) = true := by kernel_rfl
theorem jsums_30 : ((Rows.deriveSumsRow.veiled == (Tryz.f5.params.toList ++ Rows.deriveSumsSpec.plain.varTypes Tryz.prog ++ Tryz.f5.resultTypes.toList).any (Tryz.prog.veiledRec ·))) = true := by kernel_rfl
theorem jsums_31 : (Rows.deriveSumsRow.veiledFits Tryz.prog Tryz.f5.params.toList (Tryz.f5.params.toList ++ Rows.deriveSumsSpec.plain.varTypes Tryz.prog ++ Tryz.f5.resultTypes.toList)) = true := by kernel_rfl
theorem joined_sums : joinedFacts Tryz.prog 5 Tryz.f5 Rows.deriveSumsSpec Rows.deriveSumsRow = true := by
  unfold joinedFacts
  exact qcf (qcf (qcf (qcf (qcf (qcf (qcf (qcf (qcf (qcf (qcf (qcf (qcf (qcf (qcf (qcf (qcf (qcf (qcf (qcf (qcf (qcf (qcf (qcf (qcf (qcf (qcf (qcf (qcf (qcf (qcf jsums_0 jp_1) jp_2) jsums_3) jsums_4) jsums_5) jp_6) jsums_7) jp_8) jsums_9) jsums_10) jsums_11) jsums_12) jsums_13) jsums_14) jsums_15) jsums_16) jsums_17) jsums_18) jsums_19) jsums_20) jsums_21) jsums_22) jsums_23) jp_24) jp_25) jsums_26) jsums_27) jsums_28) jsums_29) jsums_30) jsums_31
set_option maxRecDepth 100000 in
theorem sums_row : Rows.DeriveSumsSaid :=
  OpenClaim.holds_of_wide 5 Tryz.f5 rfl rfl rfl rfl rfl rfl rfl ⟨rfl, rfl, rfl, rfl, rfl⟩ rfl rfl rfl rfl rfl (by kernel_rfl) Tryz.func5 joined_sums
    (of_decide_eq_true (by kernel_rfl)) (by unfold Func.isWrapper; rw [if_neg (of_decide_eq_false (by kernel_rfl))]; exact ⟨rfl, rfl⟩)
    (fun os started H enc _ => sums_lifted os started H enc)
set_option maxRecDepth 100000 in
theorem sums_holds : Rows.DeriveSumsCardSaid :=
  Claim7.holds_tied_plain_at .later [] [.data, .data, .data, .data, .handle, .sentinel, .sentinel, .pinned] true (true, "a956305c45f591150464d50169e74aa4066da4b801df29c6506d537ce770211f") true
    sums_row (fun _ h => by cases h) (by kernel_rfl) (fun _ h => by cases h) deriveSums_row_tie rfl ⟨rfl, rfl⟩ (by kernel_rfl) rfl
    (fun f fn hf hfn => by
      obtain rfl : f = 5 := Option.some.inj ((show Tryz.prog.funcNamed Tryz.f5.name = some 5 by kernel_rfl).symm.trans hf) |>.symm
      obtain rfl : fn = Tryz.f5 := (Option.some.inj (Tryz.func5.symm.trans hfn)).symm
      exact ⟨by kernel_rfl, fun j t ht => by
        rw [Tryz.params5] at ht
        match j, ht with
        | 0, ht =>
          obtain rfl : t = 24 := by simpa using ht.symm
          exact (show Tryz.prog.wantsStandIn 24 = false by kernel_rfl)
        | 1, ht =>
          obtain rfl : t = 24 := by simpa using ht.symm
          exact (show Tryz.prog.wantsStandIn 24 = false by kernel_rfl)
        | i + 2, ht => simp at ht⟩)
    (by kernel_rfl)
#print axioms sums_holds
end Go.Proofs.YtbeonejdegijfaaGreatDoor
