/-
  DeriveSame: each number as it is, is the array; the first and the last item of a scan are the first one, and the reduction.
  For every input the law returns true, and leaves its arguments as they were. Conditions: the package variables of the library that the row lists hold at the start what the text of the library lays (the card ties them).
-/
import Derived.Test.YtbeonejdegijfaaGreatDoorK11
import Derived.Test.YtbeonejdegijfaaGreatDoorCards
import Derived.Test.YtbeonejdegijfaaGreatDoorTie
import Derived.SevenTiedAt
set_option linter.all false
namespace Go.Proofs.YtbeonejdegijfaaGreatDoor
open Go Go.Ab Go.Ab.Derive2 Go.Proofs Go.ChangeShapes Go.WideShapes Go.RowKit

set_option maxRecDepth 100000 in
theorem same_lifted (os : Os) (started : os.Started) (H : Type) (enc : TypeId × Value → H) :
    ReturnsInHanded {} Tryz.checked os 8 .any (fun w args => (Rows.deriveSameSpec.pre enc Tryz.prog Tryz.f8 [] false w args ∧ laidMetH Tryz.prog Rows.deriveSameRow.laid w) ∧ sizedMet enc Tryz.prog Tryz.f8 (OpenSpec.ofChange Rows.deriveSameSpec) false w args)
      (Rows.deriveSameSpec.post enc Tryz.prog Tryz.f8 false true false false) := by
  refine qm0 (C := Tryz.checked) (X := fun w _ => laidMetH Tryz.prog Rows.deriveSameRow.laid w) (fun _ _ _ hh h => h.of_heap hh) p_own started (by kernel_rfl) Tryz.func8
    (ChangeSpec.witness_at (enc := enc) (C := Tryz.checked) (os := os) (X := fun w _ => laidMetH Tryz.prog Rows.deriveSameRow.laid w) false (qym os) #[.agg #[.bool false, .bool false, .slice none 0 0]] 8 rfl (by kernel_rfl) (by kernel_rfl) (by kernel_rfl) (by kernel_rfl) (by kernel_rfl) (qsl os _)) ?_
  intro W base args ds gs before hval0 hW hL hSh
  have hval : ∀ (j : Nat) t v, Tryz.f8.params[j]? = some t → args[j]? = some v → Value.okWide Tryz.prog W .any base t v := hval0
  have hW' := hW
  obtain ⟨p, q, hA0, hV, rfl, hfz, hnd⟩ := hW
  have hA : DataW.TrodAll enc Tryz.prog W 0 (fun _ => true) true Tryz.f8.params.toList args.toList ds p := hA0
  rw [Tryz.params8] at hA hval
  have hA2 := hA
  obtain ⟨v0, d0, rfl, rfl, g0⟩ := trodAll_one hA
  obtain ⟨rfl, rfl⟩ := trodVars_none hV
  clear hA0 hval0
  simp only [List.append_nil] at hW'
  obtain ⟨us, hus, hrep⟩ := Qf7 (lp := fun _ => none) (I := fun b => b < W.heap.size) (fun _ h => h) (m := 12) (base := base) [arrD] [24] _ _ _ (by kernel_rfl) (fun j t v h1 h2 => hval j t v (by simpa using h1) (by simpa using h2)) hA2
  obtain ⟨ha, hl, hr⟩ := told_same us hus
  have hc := Qn2 (g := 8) rfl ha hl hr (w := W) (fun _ h => h) (Qbt hSh hL) hrep
  refine hc.mono fun e W' ⟨he, hw⟩ => ?_
  subst he
  refine ⟨_, rfl, _, _, _, [], _, [], hW', trodAll_mk1 (shut_bool Tryz.underlying4 true), qz4 hw.same (fun b hb => by simpa using hb) (m := 12) [arrD] [24] _ _ _ (by kernel_rfl) hA2, rfl, qpd hw.os hw.output hw.same, fun h => by cases h⟩
set_option maxRecDepth 100000
theorem jsame_0 : (Rows.deriveSameRow.wf (OpenSpec.ofChange Rows.deriveSameSpec)) = true := by kernel_rfl
theorem jsame_3 : (Tryz.f8.params.all (Tryz.prog.readableRec ·)) = true := by kernel_rfl
theorem jsame_4 : (namedTie Tryz.prog Rows.deriveSameRow.named Rows.deriveSameSpec.vars) = true := by kernel_rfl
theorem jsame_5 : ((Rows.deriveSameRow.stops == [])) = true := by kernel_rfl
theorem jsame_7 : ((Rows.deriveSameRow.knobs == [])) = true := by kernel_rfl
theorem jsame_9 : ((Rows.deriveSameRow.inPlace == Tryz.prog.inPlace 8)) = true := by kernel_rfl
theorem jsame_10 : ((Rows.deriveSameRow.unfollowed == Tryz.prog.unfollowed 8)) = true := by kernel_rfl
theorem jsame_11 : ((Rows.deriveSameRow.recurses == Tryz.prog.recurses 8)) = true := by kernel_rfl
theorem jsame_12 : ((Rows.deriveSameRow.named == Tryz.prog.varsNamed 8)) = true := by kernel_rfl
theorem jsame_13 : ((Rows.deriveSameRow.maps == (Tryz.f8.params.toList ++ Rows.deriveSameSpec.plain.varTypes Tryz.prog).any (Tryz.prog.mapsRec ·))) = true := by kernel_rfl
theorem jsame_14 : ((Rows.deriveSameRow.ifaces == (Tryz.f8.params.toList ++ Rows.deriveSameSpec.plain.varTypes Tryz.prog).any (Tryz.prog.ifacesRec ·))) = true := by kernel_rfl
theorem jsame_15 : ((Rows.deriveSameRow.mapsOut == Tryz.prog.mapsAmong Tryz.f8.resultTypes.toList)) = true := by kernel_rfl
theorem jsame_16 : ((Rows.deriveSameRow.loops == (Tryz.f8.params.toList ++ Rows.deriveSameSpec.plain.varTypes Tryz.prog).any (Tryz.prog.loopsFrom ·))) = true := by kernel_rfl
theorem jsame_17 : ((Rows.deriveSameRow.wideKeys == (Tryz.f8.params.toList ++ Rows.deriveSameSpec.plain.varTypes Tryz.prog ++ Tryz.f8.resultTypes.toList).any (Tryz.prog.wideKeysFrom ·))) = true := by kernel_rfl
theorem jsame_18 : (Rows.deriveSameSpec.vars.all (Tryz.prog.varReadable ·)) = true := by kernel_rfl
theorem jsame_19 : (Tryz.f8.resultTypes.all (fun t => Tryz.prog.readableRec t && decide (t < Tryz.prog.types.size))) = true := by kernel_rfl
theorem jsame_20 : ((Rows.deriveSameRow.ifacesOut == Tryz.f8.resultTypes.toList.any (Tryz.prog.ifacesRec ·))) = true := by kernel_rfl
theorem jsame_21 : ((Rows.deriveSameRow.loopsOut == Tryz.f8.resultTypes.toList.any (Tryz.prog.loopsFrom ·))) = true := by kernel_rfl
theorem jsame_22 : ((Rows.deriveSameRow.plainKeys == Tryz.prog.plainKeys)) = true := by kernel_rfl
theorem jsame_23 : (Rows.deriveSameRow.shortTexts.isNone) = true := by kernel_rfl
theorem jsame_26 : ((Rows.deriveSameRow.lifted == Tryz.prog.liftsFinal)) = true := by kernel_rfl
theorem jsame_27 : ((Tryz.prog.make == some Rows.deriveSameRow.make)) = true := by kernel_rfl
theorem jsame_28 : ((Rows.deriveSameRow.kinds == (if Rows.deriveSameRow.domain.isEmpty then [] else Tryz.f8.params.toList.map fun t => match Tryz.prog.underlying t with | some (.int k) => some k | _ => none))) = true := by kernel_rfl
theorem jsame_29 : ((Rows.deriveSameRow.pinned == Rows.deriveSameRow.pinnedBy)) = true := by kernel_rfl
theorem jsame_30 : ((Rows.deriveSameRow.veiled == (Tryz.f8.params.toList ++ Rows.deriveSameSpec.plain.varTypes Tryz.prog ++ Tryz.f8.resultTypes.toList).any (Tryz.prog.veiledRec ·))) = true := by kernel_rfl
theorem jsame_31 : (Rows.deriveSameRow.veiledFits Tryz.prog Tryz.f8.params.toList (Tryz.f8.params.toList ++ Rows.deriveSameSpec.plain.varTypes Tryz.prog ++ Tryz.f8.resultTypes.toList)) = true := by kernel_rfl
theorem joined_same : joinedFacts Tryz.prog 8 Tryz.f8 Rows.deriveSameSpec Rows.deriveSameRow = true := by
  unfold joinedFacts
  exact qbr (qbr (qbr (qbr (qbr (qbr (qbr (qbr (qbr (qbr (qbr (qbr (qbr (qbr (qbr (qbr (qbr (qbr (qbr (qbr (qbr (qbr (qbr (qbr (qbr (qbr (qbr (qbr (qbr (qbr (qbr jsame_0 jp_1) jp_2) jsame_3) jsame_4) jsame_5) jp_6) jsame_7) jp_8) jsame_9) jsame_10) jsame_11) jsame_12) jsame_13) jsame_14) jsame_15) jsame_16) jsame_17) jsame_18) jsame_19) jsame_20) jsame_21) jsame_22) jsame_23) jp_24) jp_25) jsame_26) jsame_27) jsame_28) jsame_29) jsame_30) jsame_31
set_option maxRecDepth 100000 in
theorem same_row : Rows.DeriveSameSaid :=
  OpenClaim.holds_of_wide 8 Tryz.f8 rfl rfl rfl rfl rfl rfl rfl ⟨rfl, rfl, rfl, rfl, rfl⟩ rfl rfl rfl rfl rfl (by kernel_rfl) Tryz.func8 joined_same
    (of_decide_eq_true (by kernel_rfl)) (by unfold Func.isWrapper; rw [if_neg (of_decide_eq_false (by kernel_rfl))]; exact ⟨rfl, rfl⟩)
    (fun os started H enc _ => same_lifted os started H enc)
set_option maxRecDepth 100000 in
theorem same_holds : Rows.DeriveSameCardSaid :=
  Claim7.holds_tied_plain_at .later [] [.data, .data, .data, .data, .handle, .sentinel, .sentinel, .pinned] true (true, "a956305c45f591150464d50169e74aa4066da4b801df29c6506d537ce770211f") true
    same_row (fun _ h => by cases h) (by kernel_rfl) (fun _ h => by cases h) deriveSame_row_tie rfl ⟨rfl, rfl⟩ (by kernel_rfl) rfl
    (fun f fn hf hfn => by
      obtain rfl : f = 8 := Option.some.inj ((show Tryz.prog.funcNamed Tryz.f8.name = some 8 by kernel_rfl).symm.trans hf) |>.symm
      obtain rfl : fn = Tryz.f8 := (Option.some.inj (Tryz.func8.symm.trans hfn)).symm
      exact ⟨by kernel_rfl, fun j t ht => by
        rw [Tryz.params8] at ht
        match j, ht with
        | 0, ht =>
          obtain rfl : t = 24 := by simpa using ht.symm
          exact (show Tryz.prog.wantsStandIn 24 = false by kernel_rfl)
        | i + 1, ht => simp at ht⟩)
    (by kernel_rfl)
#print axioms same_holds
end Go.Proofs.YtbeonejdegijfaaGreatDoor
