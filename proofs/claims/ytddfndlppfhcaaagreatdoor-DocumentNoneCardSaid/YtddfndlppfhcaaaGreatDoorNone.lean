/-
  DocumentNone: a nil document has nothing.
  For every input the law returns true, and leaves its arguments as they were. Conditions: the package variables of the library that the row lists hold at the start what the text of the library lays (the card ties them).
-/
import Derived.Test.YtddfndlppfhcaaaGreatDoorK24
import Derived.Test.YtddfndlppfhcaaaGreatDoorCards
import Derived.Test.YtddfndlppfhcaaaGreatDoorTie
import Derived.SevenTiedAt
set_option linter.all false
namespace Go.Proofs.YtddfndlppfhcaaaGreatDoor
open Go Go.Ab Go.Ab.DocNone Go.Proofs Go.ChangeShapes Go.WideShapes Go.RowKit

set_option maxRecDepth 100000 in
theorem none_lifted (os : Os) (started : os.Started) (H : Type) (enc : TypeId × Value → H) :
    ReturnsInHanded {} Tryz.checked os 3 .any (fun w args => (Rows.documentNoneSpec.pre enc Tryz.prog Tryz.f3 [] false w args ∧ laidMetH Tryz.prog Rows.documentNoneRow.laid w) ∧ sizedMet enc Tryz.prog Tryz.f3 (OpenSpec.ofChange Rows.documentNoneSpec) false w args)
      (Rows.documentNoneSpec.post enc Tryz.prog Tryz.f3 false true false false) := by
  refine qs9 (C := Tryz.checked) (X := fun w _ => laidMetH Tryz.prog Rows.documentNoneRow.laid w) (fun _ _ _ hh h => h.of_heap hh) p_own started (by kernel_rfl) Tryz.func3
    (ChangeSpec.witness_at (enc := enc) (C := Tryz.checked) (os := os) (X := fun w _ => laidMetH Tryz.prog Rows.documentNoneRow.laid w) false (Qfq os) #[.int .i64 0, .int .i64 0, .string ⟨#[]⟩] 8 rfl (by kernel_rfl) (by kernel_rfl) (by kernel_rfl) (by kernel_rfl) (by kernel_rfl) (Qcj os _)) ?_
  intro W base args ds gs before hval0 hW hL hSh
  have hval : ∀ (j : Nat) t v, Tryz.f3.params[j]? = some t → args[j]? = some v → Value.okWide Tryz.prog W .any base t v := hval0
  have hW' := hW
  obtain ⟨p, q, hA0, hV, rfl, hfz, hnd⟩ := hW
  have hA : DataW.TrodAll enc Tryz.prog W 0 (fun _ => true) true Tryz.f3.params.toList args.toList ds p := hA0
  rw [Tryz.params3] at hA hval
  have hA2 := hA
  obtain ⟨v0, v1, v2, d0, d1, d2, p0, p1, p2, rfl, rfl, rfl, g0, g1, g2⟩ := trodAll_three hA
  obtain ⟨rfl, rfl⟩ := trodVars_none hV
  clear hA0 hval0
  simp only [List.append_nil] at hW'
  obtain ⟨us, hus, hrep⟩ := Qn8 (lp := fun _ => none) (I := fun b => b < W.heap.size) (fun _ h => h) (m := 12) (base := base) [.int .i64, .int .i64, .str] [3, 3, 9] _ _ _ (by kernel_rfl) (fun j t v h1 h2 => hval j t v (by simpa using h1) (by simpa using h2)) hA2
  obtain ⟨ha, hl, hr⟩ := told_none us hus
  have hc := law_done (g := 3) rfl ha hl hr (w := W) (fun _ h => h) (wd_of_laid hSh hL) hrep
  refine hc.mono fun e W' ⟨he, hw⟩ => ?_
  subst he
  refine ⟨_, rfl, _, _, _, [], _, [], hW', trodAll_mk1 (shut_bool Tryz.underlying4 true), Qhi hw.same (fun b hb => by simpa using hb) (m := 12) [.int .i64, .int .i64, .str] [3, 3, 9] _ _ _ (by kernel_rfl) hA2, rfl, qwx hw.os hw.output hw.same, fun h => by cases h⟩
set_option maxRecDepth 100000
theorem jnone_0 : (Rows.documentNoneRow.wf (OpenSpec.ofChange Rows.documentNoneSpec)) = true := by kernel_rfl
theorem jnone_3 : (Tryz.f3.params.all (Tryz.prog.readableRec ·)) = true := by kernel_rfl
theorem jnone_4 : (namedTie Tryz.prog Rows.documentNoneRow.named Rows.documentNoneSpec.vars) = true := by kernel_rfl
theorem jnone_5 : ((Rows.documentNoneRow.stops == [])) = true := by kernel_rfl
theorem jnone_7 : ((Rows.documentNoneRow.knobs == [])) = true := by kernel_rfl
theorem jnone_9 : ((Rows.documentNoneRow.inPlace == Tryz.prog.inPlace 3)) = true := by kernel_rfl
theorem jnone_10 : ((Rows.documentNoneRow.unfollowed == Tryz.prog.unfollowed 3)) = true := by kernel_rfl
theorem jnone_11 : ((Rows.documentNoneRow.recurses == Tryz.prog.recurses 3)) = true := by kernel_rfl
theorem jnone_12 : ((Rows.documentNoneRow.named == Tryz.prog.varsNamed 3)) = true := by kernel_rfl
theorem jnone_13 : ((Rows.documentNoneRow.maps == (Tryz.f3.params.toList ++ Rows.documentNoneSpec.plain.varTypes Tryz.prog).any (Tryz.prog.mapsRec ·))) = true := by kernel_rfl
theorem jnone_14 : ((Rows.documentNoneRow.ifaces == (Tryz.f3.params.toList ++ Rows.documentNoneSpec.plain.varTypes Tryz.prog).any (Tryz.prog.ifacesRec ·))) = true := by kernel_rfl
theorem jnone_15 : ((Rows.documentNoneRow.mapsOut == Tryz.prog.mapsAmong Tryz.f3.resultTypes.toList)) = true := by kernel_rfl
theorem jnone_16 : ((Rows.documentNoneRow.loops == (Tryz.f3.params.toList ++ Rows.documentNoneSpec.plain.varTypes Tryz.prog).any (Tryz.prog.loopsFrom ·))) = true := by kernel_rfl
theorem jnone_17 : ((Rows.documentNoneRow.wideKeys == (Tryz.f3.params.toList ++ Rows.documentNoneSpec.plain.varTypes Tryz.prog ++ Tryz.f3.resultTypes.toList).any (Tryz.prog.wideKeysFrom ·))) = true := by kernel_rfl
theorem jnone_18 : (Rows.documentNoneSpec.vars.all (Tryz.prog.varReadable ·)) = true := by kernel_rfl
theorem jnone_19 : (Tryz.f3.resultTypes.all (fun t => Tryz.prog.readableRec t && decide (t < Tryz.prog.types.size))) = true := by kernel_rfl
theorem jnone_20 : ((Rows.documentNoneRow.ifacesOut == Tryz.f3.resultTypes.toList.any (Tryz.prog.ifacesRec ·))) = true := by kernel_rfl
theorem jnone_21 : ((Rows.documentNoneRow.loopsOut == Tryz.f3.resultTypes.toList.any (Tryz.prog.loopsFrom ·))) = true := by kernel_rfl
theorem jnone_22 : ((Rows.documentNoneRow.plainKeys == Tryz.prog.plainKeys)) = true := by kernel_rfl
theorem jnone_23 : (Rows.documentNoneRow.shortTexts.isNone) = true := by kernel_rfl
theorem jnone_26 : ((Rows.documentNoneRow.lifted == Tryz.prog.liftsFinal)) = true := by kernel_rfl
theorem jnone_27 : ((Tryz.prog.make == some Rows.documentNoneRow.make)) = true := by kernel_rfl
theorem jnone_28 : ((Rows.documentNoneRow.kinds == (if Rows.documentNoneRow.domain.isEmpty then [] else Tryz.f3.params.toList.map fun t => match Tryz.prog.underlying t with | some (.int k) => some k | _ => none))) = true := by kernel_rfl
theorem jnone_29 : ((Rows.documentNoneRow.pinned == Rows.documentNoneRow.pinnedBy)) = true := by kernel_rfl
theorem jnone_30 : ((Rows.documentNoneRow.veiled == (Tryz.f3.params.toList ++ Rows.documentNoneSpec.plain.varTypes Tryz.prog ++ Tryz.f3.resultTypes.toList).any (Tryz.prog.veiledRec ·))) = true := by kernel_rfl
theorem jnone_31 : (Rows.documentNoneRow.veiledFits Tryz.prog Tryz.f3.params.toList (Tryz.f3.params.toList ++ Rows.documentNoneSpec.plain.varTypes Tryz.prog ++ Tryz.f3.resultTypes.toList)) = true := by kernel_rfl
theorem joined_none : joinedFacts Tryz.prog 3 Tryz.f3 Rows.documentNoneSpec Rows.documentNoneRow = true := by
  unfold joinedFacts
  exact qb6 (qb6 (qb6 (qb6 (qb6 (qb6 (qb6 (qb6 (qb6 (qb6 (qb6 (qb6 (qb6 (qb6 (qb6 (qb6 (qb6 (qb6 (qb6 (qb6 (qb6 (qb6 (qb6 (qb6 (qb6 (qb6 (qb6 (qb6 (qb6 (qb6 (qb6 jnone_0 jp_1) jp_2) jnone_3) jnone_4) jnone_5) jp_6) jnone_7) jp_8) jnone_9) jnone_10) jnone_11) jnone_12) jnone_13) jnone_14) jnone_15) jnone_16) jnone_17) jnone_18) jnone_19) jnone_20) jnone_21) jnone_22) jnone_23) jp_24) jp_25) jnone_26) jnone_27) jnone_28) jnone_29) jnone_30) jnone_31
set_option maxRecDepth 100000 in
theorem none_row : Rows.DocumentNoneSaid :=
  OpenClaim.holds_of_wide 3 Tryz.f3 rfl rfl rfl rfl rfl rfl rfl ⟨rfl, rfl, rfl, rfl, rfl⟩ rfl rfl rfl rfl rfl (by kernel_rfl) Tryz.func3 joined_none
    (of_decide_eq_true (by kernel_rfl)) (by unfold Func.isWrapper; rw [if_neg (of_decide_eq_false (by kernel_rfl))]; exact ⟨rfl, rfl⟩)
    (fun os started H enc _ => none_lifted os started H enc)
set_option maxRecDepth 100000 in
theorem none_holds : Rows.DocumentNoneCardSaid :=
  Claim7.holds_tied_plain_at .later [] [.data, .data, .data, .data, .handle, .sentinel, .sentinel, .sentinel, .sentinel, .sentinel, .pinned] true (true, "fe390a1edf2aa4c1bd5745f3f0f1bd5308ac644ac7fdaf205608dc83bc75f120") true
    none_row (fun _ h => by cases h) (by kernel_rfl) (fun _ h => by cases h) documentNone_row_tie rfl ⟨rfl, rfl⟩ (by kernel_rfl) rfl
    (fun f fn hf hfn => by
      obtain rfl : f = 3 := Option.some.inj ((show Tryz.prog.funcNamed Tryz.f3.name = some 3 by kernel_rfl).symm.trans hf) |>.symm
      obtain rfl : fn = Tryz.f3 := (Option.some.inj (Tryz.func3.symm.trans hfn)).symm
      exact ⟨by kernel_rfl, fun j t ht => by
        rw [Tryz.params3] at ht
        match j, ht with
        | 0, ht =>
          obtain rfl : t = 3 := by simpa using ht.symm
          exact (show Tryz.prog.wantsStandIn 3 = false by kernel_rfl)
        | 1, ht =>
          obtain rfl : t = 3 := by simpa using ht.symm
          exact (show Tryz.prog.wantsStandIn 3 = false by kernel_rfl)
        | 2, ht =>
          obtain rfl : t = 9 := by simpa using ht.symm
          exact (show Tryz.prog.wantsStandIn 9 = false by kernel_rfl)
        | i + 3, ht => simp at ht⟩)
    (by kernel_rfl)
#print axioms none_holds
end Go.Proofs.YtddfndlppfhcaaaGreatDoor
