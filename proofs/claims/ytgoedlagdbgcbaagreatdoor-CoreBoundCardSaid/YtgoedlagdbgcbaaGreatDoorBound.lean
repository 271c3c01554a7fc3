/-
  CoreBound: what a name means is -1, or a binder of that name; binders are as many as the NodeSets of right trees.
  For every input the law returns true, and leaves its arguments as they were. Conditions: the package variables of the library that the row lists hold at the start what the text of the library lays (the card ties them).
-/
import Derived.Test.YtgoedlagdbgcbaaGreatDoorK18
import Derived.Test.YtgoedlagdbgcbaaGreatDoorCards
import Derived.Test.YtgoedlagdbgcbaaGreatDoorTie
import Derived.SevenTiedAt
set_option linter.all false
namespace Go.Proofs.YtgoedlagdbgcbaaGreatDoor
open Go Go.Ab Go.Ab.Core Go.Proofs Go.ChangeShapes Go.WideShapes Go.RowKit

set_option maxRecDepth 100000 in
theorem bound_lifted (os : Os) (started : os.Started) (H : Type) (enc : TypeId × Value → H) :
    ReturnsInHanded {} Tryz.checked os 6 .any (fun w args => (Rows.coreBoundSpec.pre enc Tryz.prog Tryz.f6 [] false w args ∧ laidMetH Tryz.prog Rows.coreBoundRow.laid w) ∧ sizedMet enc Tryz.prog Tryz.f6 (OpenSpec.ofChange Rows.coreBoundSpec) false w args)
      (Rows.coreBoundSpec.post enc Tryz.prog Tryz.f6 false true false false) := by
  refine qn1 (C := Tryz.checked) (X := fun w _ => laidMetH Tryz.prog Rows.coreBoundRow.laid w) (fun _ _ _ hh h => h.of_heap hh) p_own started (by kernel_rfl) Tryz.func6
    (ChangeSpec.witness_at (enc := enc) (C := Tryz.checked) (os := os) (X := fun w _ => laidMetH Tryz.prog Rows.coreBoundRow.laid w) false (qzh os) #[.slice none 0 0] 8 rfl (by kernel_rfl) (by kernel_rfl) (by kernel_rfl) (by kernel_rfl) (by kernel_rfl) (qtk os _)) ?_
  intro W base args ds gs before hval0 hW hL hSh
  have hval : ∀ (j : Nat) t v, Tryz.f6.params[j]? = some t → args[j]? = some v → Value.okWide Tryz.prog W .any base t v := hval0
  have hW' := hW
  obtain ⟨p, q, hA0, hV, rfl, hfz, hnd⟩ := hW
  have hA : DataW.TrodAll enc Tryz.prog W 0 (fun _ => true) true Tryz.f6.params.toList args.toList ds p := hA0
  rw [Tryz.params6] at hA hval
  have hA2 := hA
  obtain ⟨v0, d0, rfl, rfl, g0⟩ := trodAll_one hA
  obtain ⟨rfl, rfl⟩ := trodVars_none hV
  clear hA0 hval0
  simp only [List.append_nil] at hW'
  obtain ⟨us, hus, hrep⟩ := Qhk (lp := fun _ => none) (I := fun b => b < W.heap.size) (fun _ h => h) (m := 12) (base := base) [.slice Qhz] [22] _ _ _ (by kernel_rfl) (fun j t v h1 h2 => hval j t v (by simpa using h1) (by simpa using h2)) hA2
  obtain ⟨ha, hl, hr⟩ := told_bound us hus
  have hc := Qql (g := 6) rfl ha hl hr (w := W) (fun _ h => h) (Qck hSh hL) hrep
  refine hc.mono fun e W' ⟨he, hw⟩ => ?_
  subst he
  refine ⟨_, rfl, _, _, _, [], _, [], hW', trodAll_mk1 (shut_bool Tryz.underlying4 true), Qbz hw.same (fun b hb => by simpa using hb) (m := 12) [.slice Qhz] [22] _ _ _ (by kernel_rfl) hA2, rfl, qqi hw.os hw.output hw.same, fun h => by cases h⟩
set_option maxRecDepth 100000
theorem jbound_0 : (Rows.coreBoundRow.wf (OpenSpec.ofChange Rows.coreBoundSpec)) = true := by kernel_rfl
theorem jbound_3 : (Tryz.f6.params.all (Tryz.prog.readableRec ·)) = true := by kernel_rfl
theorem jbound_4 : (namedTie Tryz.prog Rows.coreBoundRow.named Rows.coreBoundSpec.vars) = true := by kernel_rfl
theorem jbound_5 : ((Rows.coreBoundRow.stops == [])) = true := by kernel_rfl
theorem jbound_7 : ((Rows.coreBoundRow.knobs == [])) = true := by kernel_rfl
theorem jbound_9 : ((Rows.coreBoundRow.inPlace == Tryz.prog.inPlace 6)) = true := by kernel_rfl
theorem jbound_10 : ((Rows.coreBoundRow.unfollowed == Tryz.prog.unfollowed 6)) = true := by kernel_rfl
theorem jbound_11 : ((Rows.coreBoundRow.recurses == Tryz.prog.recurses 6)) = true := by kernel_rfl
theorem jbound_12 : ((Rows.coreBoundRow.named == Tryz.prog.varsNamed 6)) = true := by kernel_rfl
theorem jbound_13 : ((Rows.coreBoundRow.maps == (Tryz.f6.params.toList ++ Rows.coreBoundSpec.plain.varTypes Tryz.prog).any (Tryz.prog.mapsRec ·))) = true := by kernel_rfl
theorem jbound_14 : ((Rows.coreBoundRow.ifaces == (Tryz.f6.params.toList ++ Rows.coreBoundSpec.plain.varTypes Tryz.prog).any (Tryz.prog.ifacesRec ·))) = true := by kernel_rfl
theorem jbound_15 : ((Rows.coreBoundRow.mapsOut == Tryz.prog.mapsAmong Tryz.f6.resultTypes.toList)) = true := by kernel_rfl
theorem jbound_16 : ((Rows.coreBoundRow.loops == (Tryz.f6.params.toList ++ Rows.coreBoundSpec.plain.varTypes Tryz.prog).any (Tryz.prog.loopsFrom ·))) = true := by kernel_rfl
theorem jbound_17 : ((Rows.coreBoundRow.wideKeys == (Tryz.f6.params.toList ++ Rows.coreBoundSpec.plain.varTypes Tryz.prog ++ Tryz.f6.resultTypes.toList).any (Tryz.prog.wideKeysFrom ·))) = true := by kernel_rfl
theorem jbound_18 : (Rows.coreBoundSpec.vars.all (Tryz.prog.varReadable ·)) = true := by kernel_rfl
theorem jbound_19 : (Tryz.f6.resultTypes.all (fun t => Tryz.prog.readableRec t && decide (t < Tryz.prog.types.size))) = true := by kernel_rfl
theorem jbound_20 : ((Rows.coreBoundRow.ifacesOut == Tryz.f6.resultTypes.toList.any (Tryz.prog.ifacesRec ·))) = true := by kernel_rfl
theorem jbound_21 : ((Rows.coreBoundRow.loopsOut == Tryz.f6.resultTypes.toList.any (Tryz.prog.loopsFrom ·))) = true := by kernel_rfl
theorem jbound_22 : ((Rows.coreBoundRow.plainKeys == Tryz.prog.plainKeys)) = true := by kernel_rfl
theorem jbound_23 : (Rows.coreBoundRow.shortTexts.isNone) = true := by kernel_rfl
theorem jbound_26 : ((Rows.coreBoundRow.lifted == Tryz.prog.liftsFinal)) = true := by kernel_rfl
theorem jbound_27 : ((Tryz.prog.make == some Rows.coreBoundRow.make)) = true := by kernel_rfl
theorem jbound_28 : ((Rows.coreBoundRow.kinds == (if Rows.coreBoundRow.domain.isEmpty then [] else Tryz.f6.params.toList.map fun t => match Tryz.prog.underlying t with | some (.int k) => some k | _ => none))) = true := by kernel_rfl
theorem jbound_29 : ((Rows.coreBoundRow.pinned == Rows.coreBoundRow.pinnedBy)) = true := by kernel_rfl
theorem jbound_30 : ((Rows.coreBoundRow.veiled == (Tryz.f6.params.toList ++ Rows.coreBoundSpec.plain.varTypes Tryz.prog ++ Tryz.f6.resultTypes.toList).any (Tryz.prog.veiledRec ·))) = true := by kernel_rfl
theorem jbound_31 : (Rows.coreBoundRow.veiledFits Tryz.prog Tryz.f6.params.toList (Tryz.f6.params.toList ++ Rows.coreBoundSpec.plain.varTypes Tryz.prog ++ Tryz.f6.resultTypes.toList)) = true := by kernel_rfl
theorem joined_bound : joinedFacts Tryz.prog 6 Tryz.f6 Rows.coreBoundSpec Rows.coreBoundRow = true := by
  unfold joinedFacts
  exact qbu (qbu (qbu (qbu (qbu (qbu (qbu (qbu (qbu (qbu (qbu (qbu (qbu (qbu (qbu (qbu (qbu (qbu (qbu (qbu (qbu (qbu (qbu (qbu (qbu (qbu (qbu (qbu (qbu (qbu (qbu jbound_0 jp_1) jp_2) jbound_3) jbound_4) jbound_5) jp_6) jbound_7) jp_8) jbound_9) jbound_10) jbound_11) jbound_12) jbound_13) jbound_14) jbound_15) jbound_16) jbound_17) jbound_18) jbound_19) jbound_20) jbound_21) jbound_22) jbound_23) jp_24) jp_25) jbound_26) jbound_27) jbound_28) jbound_29) jbound_30) jbound_31
set_option maxRecDepth 100000 in
theorem bound_row : Rows.CoreBoundSaid :=
  OpenClaim.holds_of_wide 6 Tryz.f6 rfl rfl rfl rfl rfl rfl rfl ⟨rfl, rfl, rfl, rfl, rfl⟩ rfl rfl rfl rfl rfl (by kernel_rfl) Tryz.func6 joined_bound
    (of_decide_eq_true (by kernel_rfl)) (by unfold Func.isWrapper; rw [if_neg (of_decide_eq_false (by kernel_rfl))]; exact ⟨rfl, rfl⟩)
    (fun os started H enc _ => bound_lifted os started H enc)
set_option maxRecDepth 100000 in
theorem bound_holds : Rows.CoreBoundCardSaid :=
  Claim7.holds_tied_plain_at .later [] [.data, .data, .data, .sentinel] true (true, "18995f68f6560fd214c994a02204b59b9428f2edfd34da2264ab90a05641e128") true
    bound_row (fun _ h => by cases h) (by kernel_rfl) (fun _ h => by cases h) coreBound_row_tie rfl ⟨rfl, rfl⟩ (by kernel_rfl) rfl
    (fun f fn hf hfn => by
      obtain rfl : f = 6 := Option.some.inj ((show Tryz.prog.funcNamed Tryz.f6.name = some 6 by kernel_rfl).symm.trans hf) |>.symm
      obtain rfl : fn = Tryz.f6 := (Option.some.inj (Tryz.func6.symm.trans hfn)).symm
      exact ⟨by kernel_rfl, fun j t ht => by
        rw [Tryz.params6] at ht
        match j, ht with
        | 0, ht =>
          obtain rfl : t = 22 := by simpa using ht.symm
          exact (show Tryz.prog.wantsStandIn 22 = false by kernel_rfl)
        | i + 1, ht => simp at ht⟩)
    (by kernel_rfl)
#print axioms bound_holds
end Go.Proofs.YtgoedlagdbgcbaaGreatDoor
