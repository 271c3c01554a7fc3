/-
  DeriveFunctions: primitive functions are as the document has them.
  For every input the law returns true, and leaves its arguments as they were. Conditions: the package variables of the library that the row lists hold at the start what the text of the library lays (the card ties them).
-/
import Derived.Test.YtmcmnpjjnebfcaaGreatDoorK11
import Derived.Test.YtmcmnpjjnebfcaaGreatDoorCards
import Derived.Test.YtmcmnpjjnebfcaaGreatDoorTie
import Derived.SevenTiedAt
set_option linter.all false
namespace Go.Proofs.YtmcmnpjjnebfcaaGreatDoor
open Go Go.Ab Go.Ab.Derive2 Go.Proofs Go.ChangeShapes Go.WideShapes Go.RowKit

set_option maxRecDepth 100000 in
theorem functions_lifted (os : Os) (started : os.Started) (H : Type) (enc : TypeId × Value → H) :
    ReturnsInHanded {} Tryz.checked os 3 .any (fun w args => (Rows.deriveFunctionsSpec.pre enc Tryz.prog Tryz.f3 [] false w args ∧ laidMetH Tryz.prog Rows.deriveFunctionsRow.laid w) ∧ sizedMet enc Tryz.prog Tryz.f3 (OpenSpec.ofChange Rows.deriveFunctionsSpec) false w args)
      (Rows.deriveFunctionsSpec.post enc Tryz.prog Tryz.f3 false true false false) := by
  refine Xp (C := Tryz.checked) (X := fun w _ => laidMetH Tryz.prog Rows.deriveFunctionsRow.laid w) (fun _ _ _ hh h => h.of_heap hh) p_own started (by kernel_rfl) Tryz.func3
    (ChangeSpec.witness_at (enc := enc) (C := Tryz.checked) (os := os) (X := fun w _ => laidMetH Tryz.prog Rows.deriveFunctionsRow.laid w) false (Vm os) #[.string ⟨#[]⟩, .agg #[.bool false, .bool false, .slice none 0 0], .agg #[.bool false, .bool false, .slice none 0 0]] 8 rfl (by kernel_rfl) (by kernel_rfl) (by kernel_rfl) (by kernel_rfl) (by kernel_rfl) (XF os _)) ?_
  intro W base args ds gs before hval0 hW hL hSh
  have hval : ∀ (j : Nat) t v, Tryz.f3.params[j]? = some t → args[j]? = some v → Value.okWide Tryz.prog W .any base t v := hval0
  have hW' := hW
  obtain ⟨p, q, hA0, hV, rfl, hfz, hnd⟩ := hW
  have hA : DataW.TrodAll enc Tryz.prog W 0 (fun _ => true) true Tryz.f3.params.toList args.toList ds p := hA0
  rw [Tryz.params3] at hA hval
  have hA2 := hA
  obtain ⟨v0, v1, v2, d0, d1, d2, p0, p1, p2, rfl, rfl, rfl, g0, g1, g2⟩ := trodAll_three hA
  obtain ⟨rfl, rfl⟩ := trodVars_none hV
  clear hA0 hval0
  simp only [List.append_nil] at hW'
  obtain ⟨us, hus, hrep⟩ := WE (lp := fun _ => none) (I := fun b => b < W.heap.size) (fun _ h => h) (m := 12) (base := base) [.str, Lx, Lx] [9, 24, 24] _ _ _ (by kernel_rfl) (fun j t v h1 h2 => hval j t v (by simpa using h1) (by simpa using h2)) hA2
  obtain ⟨ha, hl, hr⟩ := Xu us hus
  have hc := law_done (g := 3) rfl ha hl hr (w := W) (fun _ h => h) (YI hSh hL) hrep
  refine hc.mono fun e W' ⟨he, hw⟩ => ?_
  subst he
  refine ⟨_, rfl, _, _, _, [], _, [], hW', trodAll_mk1 (shut_bool Tryz.underlying4 true), VO hw.same (fun b hb => by simpa using hb) (m := 12) [.str, Lx, Lx] [9, 24, 24] _ _ _ (by kernel_rfl) hA2, rfl, Xr hw.os hw.output hw.same, fun h => by cases h⟩
set_option maxRecDepth 100000
theorem jfunctions_0 : (Rows.deriveFunctionsRow.wf (OpenSpec.ofChange Rows.deriveFunctionsSpec)) = true := by kernel_rfl
theorem jfunctions_3 : (Tryz.f3.params.all (Tryz.prog.readableRec ·)) = true := by kernel_rfl
theorem jfunctions_4 : (namedTie Tryz.prog Rows.deriveFunctionsRow.named Rows.deriveFunctionsSpec.vars) = true := by kernel_rfl
theorem jfunctions_5 : ((Rows.deriveFunctionsRow.stops == [])) = true := by kernel_rfl
theorem jfunctions_7 : ((Rows.deriveFunctionsRow.knobs == [])) = true := by kernel_rfl
theorem jfunctions_9 : ((Rows.deriveFunctionsRow.inPlace == Tryz.prog.inPlace 3)) = true := by kernel_rfl
theorem jfunctions_10 : ((Rows.deriveFunctionsRow.unfollowed == Tryz.prog.unfollowed 3)) = true := by kernel_rfl
theorem jfunctions_11 : ((Rows.deriveFunctionsRow.recurses == Tryz.prog.recurses 3)) = true := by kernel_rfl
theorem jfunctions_12 : ((Rows.deriveFunctionsRow.named == Tryz.prog.varsNamed 3)) = true := by kernel_rfl
theorem jfunctions_13 : ((Rows.deriveFunctionsRow.maps == (Tryz.f3.params.toList ++ Rows.deriveFunctionsSpec.plain.varTypes Tryz.prog).any (Tryz.prog.mapsRec ·))) = true := by kernel_rfl
theorem jfunctions_14 : ((Rows.deriveFunctionsRow.ifaces == (Tryz.f3.params.toList ++ Rows.deriveFunctionsSpec.plain.varTypes Tryz.prog).any (Tryz.prog.ifacesRec ·))) = true := by kernel_rfl
theorem jfunctions_15 : ((Rows.deriveFunctionsRow.mapsOut == Tryz.prog.mapsAmong Tryz.f3.resultTypes.toList)) = true := by kernel_rfl
theorem jfunctions_16 : ((Rows.deriveFunctionsRow.loops == (Tryz.f3.params.toList ++ Rows.deriveFunctionsSpec.plain.varTypes Tryz.prog).any (Tryz.prog.loopsFrom ·))) = true := by kernel_rfl
theorem jfunctions_17 : ((Rows.deriveFunctionsRow.wideKeys == (Tryz.f3.params.toList ++ Rows.deriveFunctionsSpec.plain.varTypes Tryz.prog ++ Tryz.f3.resultTypes.toList).any (Tryz.prog.wideKeysFrom ·))) = true := by kernel_rfl
theorem jfunctions_18 : (Rows.deriveFunctionsSpec.vars.all (Tryz.prog.varReadable ·)) = true := by kernel_rfl
theorem jfunctions_19 : (Tryz.f3.resultTypes.all (fun t => Tryz.prog.readableRec t && decide (t < Tryz.prog.types.size))) = true := by kernel_rfl
theorem jfunctions_20 : ((Rows.deriveFunctionsRow.ifacesOut == Tryz.f3.resultTypes.toList.any (Tryz.prog.ifacesRec ·))) = true := by kernel_rfl
theorem jfunctions_21 : ((Rows.deriveFunctionsRow.loopsOut == Tryz.f3.resultTypes.toList.any (Tryz.prog.loopsFrom ·))) = true := by kernel_rfl
theorem jfunctions_22 : ((Rows.deriveFunctionsRow.plainKeys == Tryz.prog.plainKeys)) = true := by kernel_rfl
theorem jfunctions_23 : (Rows.deriveFunctionsRow.shortTexts.isNone) = true := by kernel_rfl
theorem jfunctions_26 : ((Rows.deriveFunctionsRow.lifted == Tryz.prog.liftsFinal)) = true := by kernel_rfl
theorem jfunctions_27 : ((Tryz.prog.make == some Rows.deriveFunctionsRow.make)) = true := by kernel_rfl
theorem jfunctions_28 : ((Rows.deriveFunctionsRow.kinds == (if Rows.deriveFunctionsRow.domain.isEmpty then [] else Tryz.f3.params.toList.map fun t => match Tryz.prog.underlying t with | some (.int k) => some k | _ => none))) = true := by kernel_rfl
theorem jfunctions_29 : ((Rows.deriveFunctionsRow.pinned == Rows.deriveFunctionsRow.pinnedBy)) = true := by kernel_rfl
theorem jfunctions_30 : ((Rows.deriveFunctionsRow.veiled == (Tryz.f3.params.toList ++ Rows.deriveFunctionsSpec.plain.varTypes Tryz.prog ++ Tryz.f3.resultTypes.toList).any (Tryz.prog.veiledRec ·))) = true := by kernel_rfl
theorem jfunctions_31 : (Rows.deriveFunctionsRow.veiledFits Tryz.prog Tryz.f3.params.toList (Tryz.f3.params.toList ++ Rows.deriveFunctionsSpec.plain.varTypes Tryz.prog ++ Tryz.f3.resultTypes.toList)) = true := by kernel_rfl
theorem joined_functions : joinedFacts Tryz.prog 3 Tryz.f3 Rows.deriveFunctionsSpec Rows.deriveFunctionsRow = true := by
  unfold joinedFacts
  exact Cv (Cv (Cv (Cv (Cv (Cv (Cv (Cv (Cv (Cv (Cv (Cv (Cv (Cv (Cv (Cv (Cv (Cv (Cv (Cv (Cv (Cv (Cv (Cv (Cv (Cv (Cv (Cv (Cv (Cv (Cv jfunctions_0 jp_1) jp_2) jfunctions_3) jfunctions_4) jfunctions_5) jp_6) jfunctions_7) jp_8) jfunctions_9) jfunctions_10) jfunctions_11) jfunctions_12) jfunctions_13) jfunctions_14) jfunctions_15) jfunctions_16) jfunctions_17) jfunctions_18) jfunctions_19) jfunctions_20) jfunctions_21) jfunctions_22) jfunctions_23) jp_24) jp_25) jfunctions_26) jfunctions_27) jfunctions_28) jfunctions_29) jfunctions_30) jfunctions_31
set_option maxRecDepth 100000 in
theorem functions_row : Rows.DeriveFunctionsSaid :=
  OpenClaim.holds_of_wide 3 Tryz.f3 rfl rfl rfl rfl rfl rfl rfl ⟨rfl, rfl, rfl, rfl, rfl⟩ rfl rfl rfl rfl rfl (by kernel_rfl) Tryz.func3 joined_functions
    (of_decide_eq_true (by kernel_rfl)) (by unfold Func.isWrapper; rw [if_neg (of_decide_eq_false (by kernel_rfl))]; exact ⟨rfl, rfl⟩)
    (fun os started H enc _ => functions_lifted os started H enc)
set_option maxRecDepth 100000 in
theorem functions_holds : Rows.DeriveFunctionsCardSaid :=
  Claim7.holds_tied_plain_at .later [] [.data, .data, .data, .data, .handle, .sentinel, .sentinel, .pinned] true (true, "f8f29b3f0d0c8778bb6bb570e33dc21e65d04672a79d2c53e58f8b6fca510d03") true
    functions_row (fun _ h => by cases h) (by kernel_rfl) (fun _ h => by cases h) deriveFunctions_row_tie rfl ⟨rfl, rfl⟩ (by kernel_rfl) rfl
    (fun f fn hf hfn => by
      obtain rfl : f = 3 := Option.some.inj ((show Tryz.prog.funcNamed Tryz.f3.name = some 3 by kernel_rfl).symm.trans hf) |>.symm
      obtain rfl : fn = Tryz.f3 := (Option.some.inj (Tryz.func3.symm.trans hfn)).symm
      exact ⟨by kernel_rfl, fun j t ht => by
        rw [Tryz.params3] at ht
        match j, ht with
        | 0, ht =>
          obtain rfl : t = 9 := by simpa using ht.symm
          exact (show Tryz.prog.wantsStandIn 9 = false by kernel_rfl)
        | 1, ht =>
          obtain rfl : t = 24 := by simpa using ht.symm
          exact (show Tryz.prog.wantsStandIn 24 = false by kernel_rfl)
        | 2, ht =>
          obtain rfl : t = 24 := by simpa using ht.symm
          exact (show Tryz.prog.wantsStandIn 24 = false by kernel_rfl)
        | i + 3, ht => simp at ht⟩)
    (by kernel_rfl)
#print axioms functions_holds
end Go.Proofs.YtmcmnpjjnebfcaaGreatDoor
