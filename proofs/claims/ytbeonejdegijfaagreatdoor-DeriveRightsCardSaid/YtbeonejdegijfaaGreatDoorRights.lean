/-
  DeriveRights: what is told of right arrays is right.
  For every input the law returns true, and leaves its arguments as they were. Conditions: the package variables of the library that the row lists hold at the start what the text of the library lays (the card ties them).
-/
import Derived.Test.YtbeonejdegijfaaGreatDoorK14
import Derived.Test.YtbeonejdegijfaaGreatDoorCards
import Derived.Test.YtbeonejdegijfaaGreatDoorTie
import Derived.SevenTiedAt
set_option linter.all false
namespace Go.Proofs.YtbeonejdegijfaaGreatDoor
open Go Go.Ab Go.Ab.Derive2 Go.Proofs Go.ChangeShapes Go.WideShapes Go.RowKit

set_option maxRecDepth 100000 in
theorem rights_lifted (os : Os) (started : os.Started) (H : Type) (enc : TypeId × Value → H) :
    ReturnsInHanded {} Tryz.checked os 6 .any (fun w args => (Rows.deriveRightsSpec.pre enc Tryz.prog Tryz.f6 [] false w args ∧ laidMetH Tryz.prog Rows.deriveRightsRow.laid w) ∧ sizedMet enc Tryz.prog Tryz.f6 (OpenSpec.ofChange Rows.deriveRightsSpec) false w args)
      (Rows.deriveRightsSpec.post enc Tryz.prog Tryz.f6 false true false false) := by
  refine Ye (C := Tryz.checked) (X := fun w _ => laidMetH Tryz.prog Rows.deriveRightsRow.laid w) (fun _ _ _ hh h => h.of_heap hh) p_own started (by kernel_rfl) Tryz.func6
    (ChangeSpec.witness_at (enc := enc) (C := Tryz.checked) (os := os) (X := fun w _ => laidMetH Tryz.prog Rows.deriveRightsRow.laid w) false (V8 os) #[.string ⟨#[]⟩, .agg #[.bool false, .bool false, .slice none 0 0]] 8 rfl (by kernel_rfl) (by kernel_rfl) (by kernel_rfl) (by kernel_rfl) (by kernel_rfl) (Ys os _)) ?_
  intro W base args ds gs before hval0 hW hL hSh
  have hval : ∀ (j : Nat) t v, Tryz.f6.params[j]? = some t → args[j]? = some v → Value.okWide Tryz.prog W .any base t v := hval0
  have hW' := hW
  obtain ⟨p, q, hA0, hV, rfl, hfz, hnd⟩ := hW
  have hA : DataW.TrodAll enc Tryz.prog W 0 (fun _ => true) true Tryz.f6.params.toList args.toList ds p := hA0
  rw [Tryz.params6] at hA hval
  have hA2 := hA
  obtain ⟨v0, v1, d0, d1, p0, p1, rfl, rfl, rfl, g0, g1⟩ := trodAll_two hA
  obtain ⟨rfl, rfl⟩ := trodVars_none hV
  clear hA0 hval0
  simp only [List.append_nil] at hW'
  obtain ⟨us, hus, hrep⟩ := Xr (lp := fun _ => none) (I := fun b => b < W.heap.size) (fun _ h => h) (m := 12) (base := base) [.str, arrD] [9, 24] _ _ _ (by kernel_rfl) (fun j t v h1 h2 => hval j t v (by simpa using h1) (by simpa using h2)) hA2
  obtain ⟨ha, hl, hr⟩ := YS us hus
  have hc := law_done (g := 6) rfl ha hl hr (w := W) (fun _ h => h) (Zy hSh hL) hrep
  refine hc.mono fun e W' ⟨he, hw⟩ => ?_
  subst he
  refine ⟨_, rfl, _, _, _, [], _, [], hW', trodAll_mk1 (shut_bool Tryz.underlying4 true), Wy hw.same (fun b hb => by simpa using hb) (m := 12) [.str, arrD] [9, 24] _ _ _ (by kernel_rfl) hA2, rfl, Yg hw.os hw.output hw.same, fun h => by cases h⟩
set_option maxRecDepth 100000
theorem jrights_0 : (Rows.deriveRightsRow.wf (OpenSpec.ofChange Rows.deriveRightsSpec)) = true := by kernel_rfl
theorem jrights_3 : (Tryz.f6.params.all (Tryz.prog.readableRec ·)) = true := by kernel_rfl
theorem jrights_4 : (namedTie Tryz.prog Rows.deriveRightsRow.named Rows.deriveRightsSpec.vars) = true := by kernel_rfl
theorem jrights_5 : ((Rows.deriveRightsRow.stops == [])) = true := by kernel_rfl
theorem jrights_7 : ((Rows.deriveRightsRow.knobs == [])) = true := by kernel_rfl
theorem jrights_9 : ((Rows.deriveRightsRow.inPlace == Tryz.prog.inPlace 6)) = true := by kernel_rfl
theorem jrights_10 : ((Rows.deriveRightsRow.unfollowed == Tryz.prog.unfollowed 6)) = true := by kernel_rfl
theorem jrights_11 : ((Rows.deriveRightsRow.recurses == Tryz.prog.recurses 6)) = true := by kernel_rfl
theorem jrights_12 : ((Rows.deriveRightsRow.named == Tryz.prog.varsNamed 6)) = true := by kernel_rfl
theorem jrights_13 : ((Rows.deriveRightsRow.maps == (Tryz.f6.params.toList ++ Rows.deriveRightsSpec.plain.varTypes Tryz.prog).any (Tryz.prog.mapsRec ·))) = true := by kernel_rfl
theorem jrights_14 : ((Rows.deriveRightsRow.ifaces == (Tryz.f6.params.toList ++ Rows.deriveRightsSpec.plain.varTypes Tryz.prog).any (Tryz.prog.ifacesRec ·))) = true := by kernel_rfl
theorem jrights_15 : ((Rows.deriveRightsRow.mapsOut == Tryz.prog.mapsAmong Tryz.f6.resultTypes.toList)) = true := by kernel_rfl
theorem jrights_16 : ((Rows.deriveRightsRow.loops == (Tryz.f6.params.toList ++ Rows.deriveRightsSpec.plain.varTypes Tryz.prog).any (Tryz.prog.loopsFrom ·))) = true := by kernel_rfl
theorem jrights_17 : ((Rows.deriveRightsRow.wideKeys == (Tryz.f6.params.toList ++ Rows.deriveRightsSpec.plain.varTypes Tryz.prog ++ Tryz.f6.resultTypes.toList).any (Tryz.prog.wideKeysFrom ·))) = true := by kernel_rfl
theorem jrights_18 : (Rows.deriveRightsSpec.vars.all (Tryz.prog.varReadable ·)) = true := by kernel_rfl
theorem jrights_19 : (Tryz.f6.resultTypes.all (fun t => Tryz.prog.readableRec t && decide (t < Tryz.prog.types.size))) = true := by kernel_rfl
theorem jrights_20 : ((Rows.deriveRightsRow.ifacesOut == Tryz.f6.resultTypes.toList.any (Tryz.prog.ifacesRec ·))) = true := by kernel_rfl
theorem jrights_21 : ((Rows.deriveRightsRow.loopsOut == Tryz.f6.resultTypes.toList.any (Tryz.prog.loopsFrom ·))) = true := by kernel_rfl
theorem jrights_22 : ((Rows.deriveRightsRow.plainKeys == Tryz.prog.plainKeys)) = true := by kernel_rfl
theorem jrights_23 : (Rows.deriveRightsRow.shortTexts.isNone) = true := by kernel_rfl
theorem jrights_26 : ((Rows.deriveRightsRow.lifted == Tryz.prog.liftsFinal)) = true := by kernel_rfl
theorem jrights_27 : ((Tryz.prog.make == some Rows.deriveRightsRow.make)) = true := by kernel_rfl
theorem jrights_28 : ((Rows.deriveRightsRow.kinds == (if Rows.deriveRightsRow.domain.isEmpty then [] else Tryz.f6.params.toList.map fun t => match Tryz.prog.underlying t with | some (.int k) => some k | _ => none))) = true := by kernel_rfl
theorem jrights_29 : ((Rows.deriveRightsRow.pinned == Rows.deriveRightsRow.pinnedBy)) = true := by kernel_rfl
theorem jrights_30 : ((Rows.deriveRightsRow.veiled == (Tryz.f6.params.toList ++ Rows.deriveRightsSpec.plain.varTypes Tryz.prog ++ Tryz.f6.resultTypes.toList).any (Tryz.prog.veiledRec ·))) = true := by kernel_rfl
theorem jrights_31 : (Rows.deriveRightsRow.veiledFits Tryz.prog Tryz.f6.params.toList (Tryz.f6.params.toList ++ Rows.deriveRightsSpec.plain.varTypes Tryz.prog ++ Tryz.f6.resultTypes.toList)) = true := by kernel_rfl
theorem joined_rights : joinedFacts Tryz.prog 6 Tryz.f6 Rows.deriveRightsSpec Rows.deriveRightsRow = true := by
  unfold joinedFacts
  exact Ck (Ck (Ck (Ck (Ck (Ck (Ck (Ck (Ck (Ck (Ck (Ck (Ck (Ck (Ck (Ck (Ck (Ck (Ck (Ck (Ck (Ck (Ck (Ck (Ck (Ck (Ck (Ck (Ck (Ck (Ck jrights_0 jp_1) jp_2) jrights_3) jrights_4) jrights_5) jp_6) jrights_7) jp_8) jrights_9) jrights_10) jrights_11) jrights_12) jrights_13) jrights_14) jrights_15) jrights_16) jrights_17) jrights_18) jrights_19) jrights_20) jrights_21) jrights_22) jrights_23) jp_24) jp_25) jrights_26) jrights_27) jrights_28) jrights_29) jrights_30) jrights_31
set_option maxRecDepth 100000 in
theorem rights_row : Rows.DeriveRightsSaid :=
  OpenClaim.holds_of_wide 6 Tryz.f6 rfl rfl rfl rfl rfl rfl rfl ⟨rfl, rfl, rfl, rfl, rfl⟩ rfl rfl rfl rfl rfl (by kernel_rfl) Tryz.func6 joined_rights
    (of_decide_eq_true (by kernel_rfl)) (by unfold Func.isWrapper; rw [if_neg (of_decide_eq_false (by kernel_rfl))]; exact ⟨rfl, rfl⟩)
    (fun os started H enc _ => rights_lifted os started H enc)
set_option maxRecDepth 100000 in
theorem rights_holds : Rows.DeriveRightsCardSaid :=
  Claim7.holds_tied_plain_at .later [] [.data, .data, .data, .data, .handle, .sentinel, .sentinel, .pinned] true (true, "a956305c45f591150464d50169e74aa4066da4b801df29c6506d537ce770211f") true
    rights_row (fun _ h => by cases h) (by kernel_rfl) (fun _ h => by cases h) deriveRights_row_tie rfl ⟨rfl, rfl⟩ (by kernel_rfl) rfl
    (fun f fn hf hfn => by
      obtain rfl : f = 6 := Option.some.inj ((show Tryz.prog.funcNamed Tryz.f6.name = some 6 by kernel_rfl).symm.trans hf) |>.symm
      obtain rfl : fn = Tryz.f6 := (Option.some.inj (Tryz.func6.symm.trans hfn)).symm
      exact ⟨by kernel_rfl, fun j t ht => by
        rw [Tryz.params6] at ht
        match j, ht with
        | 0, ht =>
          obtain rfl : t = 9 := by simpa using ht.symm
          exact (show Tryz.prog.wantsStandIn 9 = false by kernel_rfl)
        | 1, ht =>
          obtain rfl : t = 24 := by simpa using ht.symm
          exact (show Tryz.prog.wantsStandIn 24 = false by kernel_rfl)
        | i + 2, ht => simp at ht⟩)
    (by kernel_rfl)
#print axioms rights_holds
end Go.Proofs.YtbeonejdegijfaaGreatDoor
