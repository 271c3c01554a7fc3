/-
  DeriveGreatest: the greatest of a list is one of it, and none is greater.
  For every input the law returns true, and leaves its arguments as they were. Conditions: the package variables of the library that the row lists hold at the start what the text of the library lays (the card ties them).
-/
import Derived.Test.YtbeonejdegijfaaGreatDoorK11
import Derived.Test.YtbeonejdegijfaaGreatDoorCards
import Derived.Test.YtbeonejdegijfaaGreatDoorTie
import Derived.SevenTiedAt
set_option linter.all false
namespace Go.Proofs.YtbeonejdegijfaaGreatDoor
open Go Go.Ab Go.Ab.Derive2 Go.Proofs Go.ChangeShapes Go.WideShapes Go.RowKit

set_option maxRecDepth 100000 in
theorem greatest_lifted (os : Os) (started : os.Started) (H : Type) (enc : TypeId × Value → H) :
    ReturnsInHanded {} Tryz.checked os 7 .any (fun w args => (Rows.deriveGreatestSpec.pre enc Tryz.prog Tryz.f7 [] false w args ∧ laidMetH Tryz.prog Rows.deriveGreatestRow.laid w) ∧ sizedMet enc Tryz.prog Tryz.f7 (OpenSpec.ofChange Rows.deriveGreatestSpec) false w args)
      (Rows.deriveGreatestSpec.post enc Tryz.prog Tryz.f7 false true false false) := by
  refine qm0 (C := Tryz.checked) (X := fun w _ => laidMetH Tryz.prog Rows.deriveGreatestRow.laid w) (fun _ _ _ hh h => h.of_heap hh) p_own started (by kernel_rfl) Tryz.func7
    (ChangeSpec.witness_at (enc := enc) (C := Tryz.checked) (os := os) (X := fun w _ => laidMetH Tryz.prog Rows.deriveGreatestRow.laid w) false (qym os) #[.agg #[.bool false, .bool false, .slice none 0 0]] 8 rfl (by kernel_rfl) (by kernel_rfl) (by kernel_rfl) (by kernel_rfl) (by kernel_rfl) (qsl os _)) ?_
  intro W base args ds gs before hval0 hW hL hSh
  have hval : ∀ (j : Nat) t v, Tryz.f7.params[j]? = some t → args[j]? = some v → Value.okWide Tryz.prog W .any base t v := hval0
  have hW' := hW
  obtain ⟨p, q, hA0, hV, rfl, hfz, hnd⟩ := hW
  have hA : DataW.TrodAll enc Tryz.prog W 0 (fun _ => true) true Tryz.f7.params.toList args.toList ds p := hA0
  rw [Tryz.params7] at hA hval
  have hA2 := hA
  obtain ⟨v0, d0, rfl, rfl, g0⟩ := trodAll_one hA
  obtain ⟨rfl, rfl⟩ := trodVars_none hV
  clear hA0 hval0
  simp only [List.append_nil] at hW'
  obtain ⟨us, hus, hrep⟩ := Qf7 (lp := fun _ => none) (I := fun b => b < W.heap.size) (fun _ h => h) (m := 12) (base := base) [arrD] [24] _ _ _ (by kernel_rfl) (fun j t v h1 h2 => hval j t v (by simpa using h1) (by simpa using h2)) hA2
  obtain ⟨ha, hl, hr⟩ := Qdo us hus
  have hc := Qn2 (g := 7) rfl ha hl hr (w := W) (fun _ h => h) (Qbt hSh hL) hrep
  refine hc.mono fun e W' ⟨he, hw⟩ => ?_
  subst he
  refine ⟨_, rfl, _, _, _, [], _, [], hW', trodAll_mk1 (shut_bool Tryz.underlying4 true), qz4 hw.same (fun b hb => by simpa using hb) (m := 12) [arrD] [24] _ _ _ (by kernel_rfl) hA2, rfl, qpd hw.os hw.output hw.same, fun h => by cases h⟩
set_option maxRecDepth 100000
theorem jgreatest_0 : (Rows.deriveGreatestRow.wf (OpenSpec.ofChange Rows.deriveGreatestSpec)) = true := by kernel_rfl
theorem jgreatest_3 : (Tryz.f7.params.all (Tryz.prog.readableRec ·)) = true := by kernel_rfl
theorem jgreatest_4 : (namedTie Tryz.prog Rows.deriveGreatestRow.named Rows.deriveGreatestSpec.vars) = true := by kernel_rfl
theorem jgreatest_5 : ((Rows.deriveGreatestRow.stops == [])) = true := by kernel_rfl
theorem jgreatest_7 : ((Rows.deriveGreatestRow.knobs == [])) = true := by kernel_rfl
theorem jgreatest_9 : ((Rows.deriveGreatestRow.inPlace == Tryz.prog.inPlace 7)) = true := by kernel_rfl
theorem jgreatest_10 : ((Rows.deriveGreatestRow.unfollowed == Tryz.prog.unfollowed 7)) = true := by kernel_rfl
theorem jgreatest_11 : ((Rows.deriveGreatestRow.recurses == Tryz.prog.recurses 7)) = true := by kernel_rfl
theorem jgreatest_12 : ((Rows.deriveGreatestRow.named == Tryz.prog.varsNamed 7)) = true := by kernel_rfl
theorem jgreatest_13 : ((Rows.deriveGreatestRow.maps == (Tryz.f7.params.toList ++ Rows.deriveGreatestSpec.plain.varTypes Tryz.prog).any (Tryz.prog.mapsRec ·))) = true := by kernel_rfl
theorem jgreatest_14 : ((Rows.deriveGreatestRow.ifaces == (Tryz.f7.params.toList ++ Rows.deriveGreatestSpec.plain.varTypes Tryz.prog).any (Tryz.prog.ifacesRec ·))) = true := by kernel_rfl
theorem jgreatest_15 : ((Rows.deriveGreatestRow.mapsOut == Tryz.prog.mapsAmong Tryz.f7.resultTypes.toList)) = true := by kernel_rfl
theorem jgreatest_16 : ((Rows.deriveGreatestRow.loops == (Tryz.f7.params.toList ++ Rows.deriveGreatestSpec.plain.varTypes Tryz.prog).any (Tryz.prog.loopsFrom ·))) = true := by kernel_rfl
theorem jgreatest_17 : ((Rows.deriveGreatestRow.wideKeys == (Tryz.f7.params.toList ++ Rows.deriveGreatestSpec.plain.varTypes Tryz.prog ++ Tryz.f7.resultTypes.toList).any (Tryz.prog.wideKeysFrom ·))) = true := by kernel_rfl
theorem jgreatest_18 : (Rows.deriveGreatestSpec.vars.all (Tryz.prog.varReadable ·)) = true := by kernel_rfl
theorem jgreatest_19 : (Tryz.f7.resultTypes.all (fun t => Tryz.prog.readableRec t && decide (t < Tryz.prog.types.size))) = true := by kernel_rfl
theorem jgreatest_20 : ((Rows.deriveGreatestRow.ifacesOut == Tryz.f7.resultTypes.toList.any (Tryz.prog.ifacesRec ·))) = true := by kernel_rfl
theorem jgreatest_21 : ((Rows.deriveGreatestRow.loopsOut == Tryz.f7.resultTypes.toList.any (Tryz.prog.loopsFrom ·))) = true := by kernel_rfl
theorem jgreatest_22 : ((Rows.deriveGreatestRow.plainKeys == Tryz.prog.plainKeys)) = true := by kernel_rfl
theorem jgreatest_23 : (Rows.deriveGreatestRow.shortTexts.isNone) = true := by kernel_rfl
theorem jgreatest_26 : ((Rows.deriveGreatestRow.lifted == Tryz.prog.liftsFinal)) = true := by kernel_rfl
theorem jgreatest_27 : ((Tryz.prog.make == some Rows.deriveGreatestRow.make)) = true := by kernel_rfl
theorem jgreatest_28 : ((Rows.deriveGreatestRow.kinds == (if Rows.deriveGreatestRow.domain.isEmpty then [] else Tryz.f7.params.toList.map fun t => match Tryz.prog.underlying t with | some (.int k) => some k | _ => none))) = true := by kernel_rfl
theorem jgreatest_29 : ((Rows.deriveGreatestRow.pinned == Rows.deriveGreatestRow.pinnedBy)) = true := by kernel_rfl
theorem jgreatest_30 : ((Rows.deriveGreatestRow.veiled == (Tryz.f7.params.toList ++ Rows.deriveGreatestSpec.plain.varTypes Tryz.prog ++ Tryz.f7.resultTypes.toList).any (Tryz.prog.veiledRec ·))) = true := by kernel_rfl
theorem jgreatest_31 : (Rows.deriveGreatestRow.veiledFits Tryz.prog Tryz.f7.params.toList (Tryz.f7.params.toList ++ Rows.deriveGreatestSpec.plain.varTypes Tryz.prog ++ Tryz.f7.resultTypes.toList)) = true := by kernel_rfl
theorem joined_greatest : joinedFacts Tryz.prog 7 Tryz.f7 Rows.deriveGreatestSpec Rows.deriveGreatestRow = true := by
  unfold joinedFacts
  exact qbr (qbr (qbr (qbr (qbr (qbr (qbr (qbr (qbr (qbr (qbr (qbr (qbr (qbr (qbr (qbr (qbr (qbr (qbr (qbr (qbr (qbr (qbr (qbr (qbr (qbr (qbr (qbr (qbr (qbr (qbr jgreatest_0 jp_1) jp_2) jgreatest_3) jgreatest_4) jgreatest_5) jp_6) jgreatest_7) jp_8) jgreatest_9) jgreatest_10) jgreatest_11) jgreatest_12) jgreatest_13) jgreatest_14) jgreatest_15) jgreatest_16) jgreatest_17) jgreatest_18) jgreatest_19) jgreatest_20) jgreatest_21) jgreatest_22) jgreatest_23) jp_24) jp_25) jgreatest_26) jgreatest_27) jgreatest_28) jgreatest_29) jgreatest_30) jgreatest_31
set_option maxRecDepth 100000 in
theorem greatest_row : Rows.DeriveGreatestSaid :=
  OpenClaim.holds_of_wide 7 Tryz.f7 rfl rfl rfl rfl rfl rfl rfl ⟨rfl, rfl, rfl, rfl, rfl⟩ rfl rfl rfl rfl rfl (by kernel_rfl) Tryz.func7 joined_greatest
    (of_decide_eq_true (by kernel_rfl)) (by unfold Func.isWrapper; rw [if_neg (of_decide_eq_false (by kernel_rfl))]; exact ⟨rfl, rfl⟩)
    (fun os started H enc _ => greatest_lifted os started H enc)
set_option maxRecDepth 100000 in
theorem greatest_holds : Rows.DeriveGreatestCardSaid :=
  Claim7.holds_tied_plain_at .later [] [.data, .data, .data, .data, .handle, .sentinel, .sentinel, .pinned] true (true, "a956305c45f591150464d50169e74aa4066da4b801df29c6506d537ce770211f") true
    greatest_row (fun _ h => by cases h) (by kernel_rfl) (fun _ h => by cases h) deriveGreatest_row_tie rfl ⟨rfl, rfl⟩ (by kernel_rfl) rfl
    (fun f fn hf hfn => by
      obtain rfl : f = 7 := Option.some.inj ((show Tryz.prog.funcNamed Tryz.f7.name = some 7 by kernel_rfl).symm.trans hf) |>.symm
      obtain rfl : fn = Tryz.f7 := (Option.some.inj (Tryz.func7.symm.trans hfn)).symm
      exact ⟨by kernel_rfl, fun j t ht => by
        rw [Tryz.params7] at ht
        match j, ht with
        | 0, ht =>
          obtain rfl : t = 24 := by simpa using ht.symm
          exact (show Tryz.prog.wantsStandIn 24 = false by kernel_rfl)
        | i + 1, ht => simp at ht⟩)
    (by kernel_rfl)
#print axioms greatest_holds
end Go.Proofs.YtbeonejdegijfaaGreatDoor
