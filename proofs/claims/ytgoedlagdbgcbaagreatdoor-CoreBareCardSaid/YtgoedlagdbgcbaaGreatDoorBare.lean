/-
  CoreBare: trees that are the same but for parentheses (around what is no NodeSet) have the same core.
  For every input the law returns true, and leaves its arguments as they were. Conditions: the package variables of the library that the row lists hold at the start what the text of the library lays (the card ties them).
-/
import Derived.Test.YtgoedlagdbgcbaaGreatDoorK18
import Derived.Test.YtgoedlagdbgcbaaGreatDoorCards
import Derived.Test.YtgoedlagdbgcbaaGreatDoorTie
import Derived.SevenTiedAt
set_option linter.all false
namespace Go.Proofs.YtgoedlagdbgcbaaGreatDoor
open Go Go.Ab Go.Ab.Core Go.Proofs Go.ChangeShapes Go.WideShapes Go.RowKit

set_option maxRecDepth 100000 in
theorem bare_lifted (os : Os) (started : os.Started) (H : Type) (enc : TypeId × Value → H) :
    ReturnsInHanded {} Tryz.checked os 3 .any (fun w args => (Rows.coreBareSpec.pre enc Tryz.prog Tryz.f3 [] false w args ∧ laidMetH Tryz.prog Rows.coreBareRow.laid w) ∧ sizedMet enc Tryz.prog Tryz.f3 (OpenSpec.ofChange Rows.coreBareSpec) false w args)
      (Rows.coreBareSpec.post enc Tryz.prog Tryz.f3 false true false false) := by
  refine qwz (C := Tryz.checked) (X := fun w _ => laidMetH Tryz.prog Rows.coreBareRow.laid w) (fun _ _ _ hh h => h.of_heap hh) p_own started (by kernel_rfl) Tryz.func3
    (ChangeSpec.witness_at (enc := enc) (C := Tryz.checked) (os := os) (X := fun w _ => laidMetH Tryz.prog Rows.coreBareRow.laid w) false (Qkp os) #[.slice none 0 0] 8 rfl (by kernel_rfl) (by kernel_rfl) (by kernel_rfl) (by kernel_rfl) (by kernel_rfl) (Qg2 os _)) ?_
  intro W base args ds gs before hval0 hW hL hSh
  have hval : ∀ (j : Nat) t v, Tryz.f3.params[j]? = some t → args[j]? = some v → Value.okWide Tryz.prog W .any base t v := hval0
  have hW' := hW
  obtain ⟨p, q, hA0, hV, rfl, hfz, hnd⟩ := hW
  have hA : DataW.TrodAll enc Tryz.prog W 0 (fun _ => true) true Tryz.f3.params.toList args.toList ds p := hA0
  rw [Tryz.params3] at hA hval
  have hA2 := hA
  obtain ⟨v0, d0, rfl, rfl, g0⟩ := trodAll_one hA
  obtain ⟨rfl, rfl⟩ := trodVars_none hV
  clear hA0 hval0
  simp only [List.append_nil] at hW'
  obtain ⟨us, hus, hrep⟩ := Qt9 (lp := fun _ => none) (I := fun b => b < W.heap.size) (fun _ h => h) (m := 12) (base := base) [.slice stmtD] [22] _ _ _ (by kernel_rfl) (fun j t v h1 h2 => hval j t v (by simpa using h1) (by simpa using h2)) hA2
  obtain ⟨ha, hl, hr⟩ := told_bare us hus
  have hc := law_done (g := 3) rfl ha hl hr (w := W) (fun _ h => h) (wd_of_laid hSh hL) hrep
  refine hc.mono fun e W' ⟨he, hw⟩ => ?_
  subst he
  refine ⟨_, rfl, _, _, _, [], _, [], hW', trodAll_mk1 (shut_bool Tryz.underlying4 true), Qmq hw.same (fun b hb => by simpa using hb) (m := 12) [.slice stmtD] [22] _ _ _ (by kernel_rfl) hA2, rfl, qz6 hw.os hw.output hw.same, fun h => by cases h⟩
set_option maxRecDepth 100000
theorem jbare_0 : (Rows.coreBareRow.wf (OpenSpec.ofChange Rows.coreBareSpec)) = true := by kernel_rfl
theorem jbare_3 : (Tryz.f3.params.all (Tryz.prog.readableRec ·)) = true := by kernel_rfl
theorem jbare_4 : (namedTie Tryz.prog Rows.coreBareRow.named Rows.coreBareSpec.vars) = true := by kernel_rfl
theorem jbare_5 : ((Rows.coreBareRow.stops == [])) = true := by kernel_rfl
theorem jbare_7 : ((Rows.coreBareRow.knobs == [])) = true := by kernel_rfl
theorem jbare_9 : ((Rows.coreBareRow.inPlace == Tryz.prog.inPlace 3)) = true := by kernel_rfl
theorem jbare_10 : ((Rows.coreBareRow.unfollowed == Tryz.prog.unfollowed 3)) = true := by kernel_rfl
theorem jbare_11 : ((Rows.coreBareRow.recurses == Tryz.prog.recurses 3)) = true := by kernel_rfl
theorem jbare_12 : ((Rows.coreBareRow.named == Tryz.prog.varsNamed 3)) = true := by kernel_rfl
theorem jbare_13 : ((Rows.coreBareRow.maps == (Tryz.f3.params.toList ++ Rows.coreBareSpec.plain.varTypes Tryz.prog).any (Tryz.prog.mapsRec ·))) = true := by kernel_rfl
theorem jbare_14 : ((Rows.coreBareRow.ifaces == (Tryz.f3.params.toList ++ Rows.coreBareSpec.plain.varTypes Tryz.prog).any (Tryz.prog.ifacesRec ·))) = true := by kernel_rfl
theorem jbare_15 : ((Rows.coreBareRow.mapsOut == Tryz.prog.mapsAmong Tryz.f3.resultTypes.toList)) = true := by kernel_rfl
theorem jbare_16 : ((Rows.coreBareRow.loops == (Tryz.f3.params.toList ++ Rows.coreBareSpec.plain.varTypes Tryz.prog).any (Tryz.prog.loopsFrom ·))) = true := by kernel_rfl
theorem jbare_17 : ((Rows.coreBareRow.wideKeys == (Tryz.f3.params.toList ++ Rows.coreBareSpec.plain.varTypes Tryz.prog ++ Tryz.f3.resultTypes.toList).any (Tryz.prog.wideKeysFrom ·))) = true := by kernel_rfl
theorem jbare_18 : (Rows.coreBareSpec.vars.all (Tryz.prog.varReadable ·)) = true := by kernel_rfl
theorem jbare_19 : (Tryz.f3.resultTypes.all (fun t => Tryz.prog.readableRec t && decide (t < Tryz.prog.types.size))) = true := by kernel_rfl
theorem jbare_20 : ((Rows.coreBareRow.ifacesOut == Tryz.f3.resultTypes.toList.any (Tryz.prog.ifacesRec ·))) = true := by kernel_rfl
theorem jbare_21 : ((Rows.coreBareRow.loopsOut == Tryz.f3.resultTypes.toList.any (Tryz.prog.loopsFrom ·))) = true := by kernel_rfl
theorem jbare_22 : ((Rows.coreBareRow.plainKeys == Tryz.prog.plainKeys)) = true := by kernel_rfl
theorem jbare_23 : (Rows.coreBareRow.shortTexts.isNone) = true := by kernel_rfl
theorem jbare_26 : ((Rows.coreBareRow.lifted == Tryz.prog.liftsFinal)) = true := by kernel_rfl
theorem jbare_27 : ((Tryz.prog.make == some Rows.coreBareRow.make)) = true := by kernel_rfl
theorem jbare_28 : ((Rows.coreBareRow.kinds == (if Rows.coreBareRow.domain.isEmpty then [] else Tryz.f3.params.toList.map fun t => match Tryz.prog.underlying t with | some (.int k) => some k | _ => none))) = true := by kernel_rfl
theorem jbare_29 : ((Rows.coreBareRow.pinned == Rows.coreBareRow.pinnedBy)) = true := by kernel_rfl
theorem jbare_30 : ((Rows.coreBareRow.veiled == (Tryz.f3.params.toList ++ Rows.coreBareSpec.plain.varTypes Tryz.prog ++ Tryz.f3.resultTypes.toList).any (Tryz.prog.veiledRec ·))) = true := by kernel_rfl
theorem jbare_31 : (Rows.coreBareRow.veiledFits Tryz.prog Tryz.f3.params.toList (Tryz.f3.params.toList ++ Rows.coreBareSpec.plain.varTypes Tryz.prog ++ Tryz.f3.resultTypes.toList)) = true := by kernel_rfl
theorem joined_bare : joinedFacts Tryz.prog 3 Tryz.f3 Rows.coreBareSpec Rows.coreBareRow = true := by
  unfold joinedFacts
  exact qcm (qcm (qcm (qcm (qcm (qcm (qcm (qcm (qcm (qcm (qcm (qcm (qcm (qcm (qcm (qcm (qcm (qcm (qcm (qcm (qcm (qcm (qcm (qcm (qcm (qcm (qcm (qcm (qcm (qcm (qcm jbare_0 jp_1) jp_2) jbare_3) jbare_4) jbare_5) jp_6) jbare_7) jp_8) jbare_9) jbare_10) jbare_11) jbare_12) jbare_13) jbare_14) jbare_15) jbare_16) jbare_17) jbare_18) jbare_19) jbare_20) jbare_21) jbare_22) jbare_23) jp_24) jp_25) jbare_26) jbare_27) jbare_28) jbare_29) jbare_30) jbare_31
set_option maxRecDepth 100000 in
theorem bare_row : Rows.CoreBareSaid :=
  OpenClaim.holds_of_wide 3 Tryz.f3 rfl rfl rfl rfl rfl rfl rfl ⟨rfl, rfl, rfl, rfl, rfl⟩ rfl rfl rfl rfl rfl (by kernel_rfl) Tryz.func3 joined_bare
    (of_decide_eq_true (by kernel_rfl)) (by unfold Func.isWrapper; rw [if_neg (of_decide_eq_false (by kernel_rfl))]; exact ⟨rfl, rfl⟩)
    (fun os started H enc _ => bare_lifted os started H enc)
set_option maxRecDepth 100000 in
theorem bare_holds : Rows.CoreBareCardSaid :=
  Claim7.holds_tied_plain_at .later [] [.data, .data, .data, .sentinel] true (true, "18995f68f6560fd214c994a02204b59b9428f2edfd34da2264ab90a05641e128") true
    bare_row (fun _ h => by cases h) (by kernel_rfl) (fun _ h => by cases h) coreBare_row_tie rfl ⟨rfl, rfl⟩ (by kernel_rfl) rfl
    (fun f fn hf hfn => by
      obtain rfl : f = 3 := Option.some.inj ((show Tryz.prog.funcNamed Tryz.f3.name = some 3 by kernel_rfl).symm.trans hf) |>.symm
      obtain rfl : fn = Tryz.f3 := (Option.some.inj (Tryz.func3.symm.trans hfn)).symm
      exact ⟨by kernel_rfl, fun j t ht => by
        rw [Tryz.params3] at ht
        match j, ht with
        | 0, ht =>
          obtain rfl : t = 22 := by simpa using ht.symm
          exact (show Tryz.prog.wantsStandIn 22 = false by kernel_rfl)
        | i + 1, ht => simp at ht⟩)
    (by kernel_rfl)
#print axioms bare_holds
end Go.Proofs.YtgoedlagdbgcbaaGreatDoor
