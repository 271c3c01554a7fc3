/-
  CoreAhead: the cores of some statements are those of the first ones of more.
  For every input the law returns true, and leaves its arguments as they were. Conditions: the package variables of the library that the row lists hold at the start what the text of the library lays (the card ties them).
-/
import Derived.Test.YtgoedlagdbgcbaaGreatDoorK18
import Derived.Test.YtgoedlagdbgcbaaGreatDoorCards
import Derived.Test.YtgoedlagdbgcbaaGreatDoorTie
import Derived.SevenTiedAt
set_option linter.all false
namespace Go.Proofs.YtgoedlagdbgcbaaGreatDoor
open Go Go.Ab Go.Ab.Core Go.Proofs Go.ChangeShapes Go.WideShapes Go.RowKit

set_option maxRecDepth 100000 in
theorem ahead_lifted (os : Os) (started : os.Started) (H : Type) (enc : TypeId × Value → H) :
    ReturnsInHanded {} Tryz.checked os 5 .any (fun w args => (Rows.coreAheadSpec.pre enc Tryz.prog Tryz.f5 [] false w args ∧ laidMetH Tryz.prog Rows.coreAheadRow.laid w) ∧ sizedMet enc Tryz.prog Tryz.f5 (OpenSpec.ofChange Rows.coreAheadSpec) false w args)
      (Rows.coreAheadSpec.post enc Tryz.prog Tryz.f5 false true false false) := by
  refine qn1 (C := Tryz.checked) (X := fun w _ => laidMetH Tryz.prog Rows.coreAheadRow.laid w) (fun _ _ _ hh h => h.of_heap hh) p_own started (by kernel_rfl) Tryz.func5
    (ChangeSpec.witness_at (enc := enc) (C := Tryz.checked) (os := os) (X := fun w _ => laidMetH Tryz.prog Rows.coreAheadRow.laid w) false (qzh os) #[.slice none 0 0, .int .i64 0] 8 rfl (by kernel_rfl) (by kernel_rfl) (by kernel_rfl) (by kernel_rfl) (by kernel_rfl) (qtk os _)) ?_
  intro W base args ds gs before hval0 hW hL hSh
  have hval : ∀ (j : Nat) t v, Tryz.f5.params[j]? = some t → args[j]? = some v → Value.okWide Tryz.prog W .any base t v := hval0
  have hW' := hW
  obtain ⟨p, q, hA0, hV, rfl, hfz, hnd⟩ := hW
  have hA : DataW.TrodAll enc Tryz.prog W 0 (fun _ => true) true Tryz.f5.params.toList args.toList ds p := hA0
  rw [Tryz.params5] at hA hval
  have hA2 := hA
  obtain ⟨v0, v1, d0, d1, p0, p1, rfl, rfl, rfl, g0, g1⟩ := trodAll_two hA
  obtain ⟨rfl, rfl⟩ := trodVars_none hV
  clear hA0 hval0
  simp only [List.append_nil] at hW'
  obtain ⟨us, hus, hrep⟩ := Qhk (lp := fun _ => none) (I := fun b => b < W.heap.size) (fun _ h => h) (m := 12) (base := base) [.slice Qhz, .int .i64] [22, 3] _ _ _ (by kernel_rfl) (fun j t v h1 h2 => hval j t v (by simpa using h1) (by simpa using h2)) hA2
  obtain ⟨ha, hl, hr⟩ := told_ahead us hus
  have hc := Qql (g := 5) rfl ha hl hr (w := W) (fun _ h => h) (Qck hSh hL) hrep
  refine hc.mono fun e W' ⟨he, hw⟩ => ?_
  subst he
  refine ⟨_, rfl, _, _, _, [], _, [], hW', trodAll_mk1 (shut_bool Tryz.underlying4 true), Qbz hw.same (fun b hb => by simpa using hb) (m := 12) [.slice Qhz, .int .i64] [22, 3] _ _ _ (by kernel_rfl) hA2, rfl, qqi hw.os hw.output hw.same, fun h => by cases h⟩
set_option maxRecDepth 100000
theorem jahead_0 : (Rows.coreAheadRow.wf (OpenSpec.ofChange Rows.coreAheadSpec)) = true := by kernel_rfl
theorem jahead_3 : (Tryz.f5.params.all (Tryz.prog.readableRec ·)) = true := by kernel_rfl
theorem jahead_4 : (namedTie Tryz.prog Rows.coreAheadRow.named Rows.coreAheadSpec.vars) = true := by kernel_rfl
theorem jahead_5 : ((Rows.coreAheadRow.stops == [])) = true := by kernel_rfl
theorem jahead_7 : ((Rows.coreAheadRow.knobs == [])) = true := by kernel_rfl
theorem jahead_9 : ((Rows.coreAheadRow.inPlace == Tryz.prog.inPlace 5)) = true := by kernel_rfl
theorem jahead_10 : ((Rows.coreAheadRow.unfollowed == Tryz.prog.unfollowed 5)) = true := by kernel_rfl
theorem jahead_11 : ((Rows.coreAheadRow.recurses == Tryz.prog.recurses 5)) = true := by kernel_rfl
theorem jahead_12 : ((Rows.coreAheadRow.named == Tryz.prog.varsNamed 5)) = true := by kernel_rfl
theorem jahead_13 : ((Rows.coreAheadRow.maps == (Tryz.f5.params.toList ++ Rows.coreAheadSpec.plain.varTypes Tryz.prog).any (Tryz.prog.mapsRec ·))) = true := by kernel_rfl
theorem jahead_14 : ((Rows.coreAheadRow.ifaces == (Tryz.f5.params.toList ++ Rows.coreAheadSpec.plain.varTypes Tryz.prog).any (Tryz.prog.ifacesRec ·))) = true := by kernel_rfl
theorem jahead_15 : ((Rows.coreAheadRow.mapsOut == Tryz.prog.mapsAmong Tryz.f5.resultTypes.toList)) = true := by kernel_rfl
theorem jahead_16 : ((Rows.coreAheadRow.loops == (Tryz.f5.params.toList ++ Rows.coreAheadSpec.plain.varTypes Tryz.prog).any (Tryz.prog.loopsFrom ·))) = true := by kernel_rfl
theorem jahead_17 : ((Rows.coreAheadRow.wideKeys == (Tryz.f5.params.toList ++ Rows.coreAheadSpec.plain.varTypes Tryz.prog ++ Tryz.f5.resultTypes.toList).any (Tryz.prog.wideKeysFrom ·))) = true := by kernel_rfl
theorem jahead_18 : (Rows.coreAheadSpec.vars.all (Tryz.prog.varReadable ·)) = true := by kernel_rfl
theorem jahead_19 : (Tryz.f5.resultTypes.all (fun t => Tryz.prog.readableRec t && decide (t < Tryz.prog.types.size))) = true := by kernel_rfl
theorem jahead_20 : ((Rows.coreAheadRow.ifacesOut == Tryz.f5.resultTypes.toList.any (Tryz.prog.ifacesRec ·))) = true := by kernel_rfl
theorem jahead_21 : ((Rows.coreAheadRow.loopsOut == Tryz.f5.resultTypes.toList.any (Tryz.prog.loopsFrom ·))) = true := by kernel_rfl
theorem jahead_22 : ((Rows.coreAheadRow.plainKeys == Tryz.prog.plainKeys)) = true := by kernel_rfl
theorem jahead_23 : (Rows.coreAheadRow.shortTexts.isNone) = true := by kernel_rfl
theorem jahead_26 : ((Rows.coreAheadRow.lifted == Tryz.prog.liftsFinal)) = true := by kernel_rfl
theorem jahead_27 : ((Tryz.prog.make == some Rows.coreAheadRow.make)) = true := by kernel_rfl
theorem jahead_28 : ((Rows.coreAheadRow.kinds == (if Rows.coreAheadRow.domain.isEmpty then [] else Tryz.f5.params.toList.map fun t => match Tryz.prog.underlying t with | some (.int k) => some k | _ => none))) = true := by kernel_rfl
theorem jahead_29 : ((Rows.coreAheadRow.pinned == Rows.coreAheadRow.pinnedBy)) = true := by kernel_rfl
theorem jahead_30 : ((Rows.coreAheadRow.veiled == (Tryz.f5.params.toList ++ Rows.coreAheadSpec.plain.varTypes Tryz.prog ++ Tryz.f5.resultTypes.toList).any (Tryz.prog.veiledRec ·))) = true := by kernel_rfl
theorem jahead_31 : (Rows.coreAheadRow.veiledFits Tryz.prog Tryz.f5.params.toList (Tryz.f5.params.toList ++ Rows.coreAheadSpec.plain.varTypes Tryz.prog ++ Tryz.f5.resultTypes.toList)) = true := by kernel_rfl
theorem joined_ahead : joinedFacts Tryz.prog 5 Tryz.f5 Rows.coreAheadSpec Rows.coreAheadRow = true := by
  unfold joinedFacts
  exact qbu (qbu (qbu (qbu (qbu (qbu (qbu (qbu (qbu (qbu (qbu (qbu (qbu (qbu (qbu (qbu (qbu (qbu (qbu (qbu (qbu (qbu (qbu (qbu (qbu (qbu (qbu (qbu (qbu (qbu (qbu jahead_0 jp_1) jp_2) jahead_3) jahead_4) jahead_5) jp_6) jahead_7) jp_8) jahead_9) jahead_10) jahead_11) jahead_12) jahead_13) jahead_14) jahead_15) jahead_16) jahead_17) jahead_18) jahead_19) jahead_20) jahead_21) jahead_22) jahead_23) jp_24) jp_25) jahead_26) jahead_27) jahead_28) jahead_29) jahead_30) jahead_31
set_option maxRecDepth 100000 in
theorem ahead_row : Rows.CoreAheadSaid :=
  OpenClaim.holds_of_wide 5 Tryz.f5 rfl rfl rfl rfl rfl rfl rfl ⟨rfl, rfl, rfl, rfl, rfl⟩ rfl rfl rfl rfl rfl (by kernel_rfl) Tryz.func5 joined_ahead
    (of_decide_eq_true (by kernel_rfl)) (by unfold Func.isWrapper; rw [if_neg (of_decide_eq_false (by kernel_rfl))]; exact ⟨rfl, rfl⟩)
    (fun os started H enc _ => ahead_lifted os started H enc)
set_option maxRecDepth 100000 in
theorem ahead_holds : Rows.CoreAheadCardSaid :=
  Claim7.holds_tied_plain_at .later [] [.data, .data, .data, .sentinel] true (true, "18995f68f6560fd214c994a02204b59b9428f2edfd34da2264ab90a05641e128") true
    ahead_row (fun _ h => by cases h) (by kernel_rfl) (fun _ h => by cases h) coreAhead_row_tie rfl ⟨rfl, rfl⟩ (by kernel_rfl) rfl
    (fun f fn hf hfn => by
      obtain rfl : f = 5 := Option.some.inj ((show Tryz.prog.funcNamed Tryz.f5.name = some 5 by kernel_rfl).symm.trans hf) |>.symm
      obtain rfl : fn = Tryz.f5 := (Option.some.inj (Tryz.func5.symm.trans hfn)).symm
      exact ⟨by kernel_rfl, fun j t ht => by
        rw [Tryz.params5] at ht
        match j, ht with
        | 0, ht =>
          obtain rfl : t = 22 := by simpa using ht.symm
          exact (show Tryz.prog.wantsStandIn 22 = false by kernel_rfl)
        | 1, ht =>
          obtain rfl : t = 3 := by simpa using ht.symm
          exact (show Tryz.prog.wantsStandIn 3 = false by kernel_rfl)
        | i + 2, ht => simp at ht⟩)
    (by kernel_rfl)
#print axioms ahead_holds
end Go.Proofs.YtgoedlagdbgcbaaGreatDoor
