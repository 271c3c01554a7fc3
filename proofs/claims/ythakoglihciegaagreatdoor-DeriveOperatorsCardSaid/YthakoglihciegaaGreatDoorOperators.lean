/-
  DeriveOperators: what operators make of functions is as the document has it.
  For every input the law returns true, and leaves its arguments as they were. Conditions: the package variables of the library that the row lists hold at the start what the text of the library lays (the card ties them).
-/
import Derived.Test.YthakoglihciegaaGreatDoorK14
import Derived.Test.YthakoglihciegaaGreatDoorCards
import Derived.Test.YthakoglihciegaaGreatDoorTie
import Derived.SevenTiedAt
set_option linter.all false
namespace Go.Proofs.YthakoglihciegaaGreatDoor
open Go Go.Ab Go.Ab.jF Go.Proofs Go.ChangeShapes Go.WideShapes Go.RowKit

set_option maxRecDepth 100000 in
theorem oG (os : Os) (started : os.Started) (zza : Type) (enc : TypeId × Value → zza) :
    ReturnsInHanded {} Tryz.checked os 3 .any (fun w args => (Rows.deriveOperatorsSpec.pre enc Tryz.prog Tryz.f3 [] false w args ∧ laidMetH Tryz.prog Rows.deriveOperatorsRow.laid w) ∧ sizedMet enc Tryz.prog Tryz.f3 (OpenSpec.ofChange Rows.deriveOperatorsSpec) false w args)
      (Rows.deriveOperatorsSpec.post enc Tryz.prog Tryz.f3 false true false false) := by
  refine ZA (C := Tryz.checked) (X := fun w _ => laidMetH Tryz.prog Rows.deriveOperatorsRow.laid w) (fun _ _ _ hh h => h.of_heap hh) p_own started (by kernel_rfl) Tryz.func3
    (ChangeSpec.witness_at (enc := enc) (C := Tryz.checked) (os := os) (X := fun w _ => laidMetH Tryz.prog Rows.deriveOperatorsRow.laid w) false (Xg os) #[.string ⟨#[]⟩, .agg #[.bool false, .bool false, .slice none 0 0]] 8 rfl (by kernel_rfl) (by kernel_rfl) (by kernel_rfl) (by kernel_rfl) (by kernel_rfl) (ZP os _)) ?_
  intro zzd base args ds gs before hval0 hW hL hSh
  have n7 : ∀ (j : Nat) t v, Tryz.f3.params[j]? = some t → args[j]? = some v → Value.okWide Tryz.prog zzd .any base t v := hval0
  have hW' := hW
  obtain ⟨p, q, hA0, hV, rfl, vU, mu⟩ := hW
  have hA : DataW.TrodAll enc Tryz.prog zzd 0 (fun _ => true) true Tryz.f3.params.toList args.toList ds p := hA0
  rw [Tryz.params3] at hA n7
  have hA2 := hA
  obtain ⟨v0, v1, d0, d1, p0, p1, rfl, rfl, rfl, g0, g1⟩ := trodAll_two hA
  obtain ⟨rfl, rfl⟩ := trodVars_none hV
  clear hA0 hval0
  simp only [List.append_nil] at hW'
  obtain ⟨us, zd, jS⟩ := YG (lp := fun _ => none) (I := fun b => b < zzd.heap.size) (fun _ h => h) (m := 12) (base := base) [.str, arrD] [9, 24] _ _ _ (by kernel_rfl) (fun j t v U O => n7 j t v (by simpa using U) (by simpa using O)) hA2
  obtain ⟨ha, hl, T⟩ := ZF us zd
  have hc := zbz (g := 3) rfl ha hl T (w := zzd) (fun _ h => h) (be hSh hL) jS
  refine hc.mono fun e W' ⟨he, hw⟩ => ?_
  subst he
  refine ⟨_, rfl, _, _, _, [], _, [], hW', trodAll_mk1 (shut_bool Tryz.underlying4 true), XI hw.same (fun b hb => by simpa using hb) (m := 12) [.str, arrD] [9, 24] _ _ _ (by kernel_rfl) hA2, rfl, ZC hw.os hw.output hw.same, fun h => by cases h⟩
set_option maxRecDepth 100000
theorem qy : (Rows.deriveOperatorsRow.wf (OpenSpec.ofChange Rows.deriveOperatorsSpec)) = true := by kernel_rfl
theorem qz : (Tryz.f3.params.all (Tryz.prog.readableRec ·)) = true := by kernel_rfl
theorem qA : (namedTie Tryz.prog Rows.deriveOperatorsRow.named Rows.deriveOperatorsSpec.vars) = true := by kernel_rfl
theorem qB : ((Rows.deriveOperatorsRow.stops == [])) = true := by kernel_rfl
theorem qC : ((Rows.deriveOperatorsRow.knobs == [])) = true := by kernel_rfl
theorem qD : ((Rows.deriveOperatorsRow.inPlace == Tryz.prog.inPlace 3)) = true := by kernel_rfl
theorem pI : ((Rows.deriveOperatorsRow.unfollowed == Tryz.prog.unfollowed 3)) = true := by kernel_rfl
theorem pJ : ((Rows.deriveOperatorsRow.recurses == Tryz.prog.recurses 3)) = true := by kernel_rfl
theorem pK : ((Rows.deriveOperatorsRow.named == Tryz.prog.varsNamed 3)) = true := by kernel_rfl
theorem pL : ((Rows.deriveOperatorsRow.maps == (Tryz.f3.params.toList ++ Rows.deriveOperatorsSpec.plain.varTypes Tryz.prog).any (Tryz.prog.mapsRec ·))) = true := by kernel_rfl
theorem pM : ((Rows.deriveOperatorsRow.ifaces == (Tryz.f3.params.toList ++ Rows.deriveOperatorsSpec.plain.varTypes Tryz.prog).any (Tryz.prog.ifacesRec ·))) = true := by kernel_rfl
theorem pN : ((Rows.deriveOperatorsRow.mapsOut == Tryz.prog.mapsAmong Tryz.f3.resultTypes.toList)) = true := by kernel_rfl
theorem pO : ((Rows.deriveOperatorsRow.loops == (Tryz.f3.params.toList ++ Rows.deriveOperatorsSpec.plain.varTypes Tryz.prog).any (Tryz.prog.loopsFrom ·))) = true := by kernel_rfl
theorem pP : ((Rows.deriveOperatorsRow.wideKeys == (Tryz.f3.params.toList ++ Rows.deriveOperatorsSpec.plain.varTypes Tryz.prog ++ Tryz.f3.resultTypes.toList).any (Tryz.prog.wideKeysFrom ·))) = true := by kernel_rfl
theorem pQ : (Rows.deriveOperatorsSpec.vars.all (Tryz.prog.varReadable ·)) = true := by kernel_rfl
theorem pR : (Tryz.f3.resultTypes.all (fun t => Tryz.prog.readableRec t && decide (t < Tryz.prog.types.size))) = true := by kernel_rfl
theorem pS : ((Rows.deriveOperatorsRow.ifacesOut == Tryz.f3.resultTypes.toList.any (Tryz.prog.ifacesRec ·))) = true := by kernel_rfl
theorem pT : ((Rows.deriveOperatorsRow.loopsOut == Tryz.f3.resultTypes.toList.any (Tryz.prog.loopsFrom ·))) = true := by kernel_rfl
theorem pU : ((Rows.deriveOperatorsRow.plainKeys == Tryz.prog.plainKeys)) = true := by kernel_rfl
theorem pV : (Rows.deriveOperatorsRow.shortTexts.isNone) = true := by kernel_rfl
theorem pW : ((Rows.deriveOperatorsRow.lifted == Tryz.prog.liftsFinal)) = true := by kernel_rfl
theorem pX : ((Tryz.prog.make == some Rows.deriveOperatorsRow.make)) = true := by kernel_rfl
theorem pY : ((Rows.deriveOperatorsRow.kinds == (if Rows.deriveOperatorsRow.domain.isEmpty then [] else Tryz.f3.params.toList.map fun t => match Tryz.prog.underlying t with | some (.int k) => some k | _ => none))) = true := by kernel_rfl
theorem pZ : ((Rows.deriveOperatorsRow.pinned == Rows.deriveOperatorsRow.pinnedBy)) = true := by kernel_rfl
theorem p6 : ((Rows.deriveOperatorsRow.veiled == (Tryz.f3.params.toList ++ Rows.deriveOperatorsSpec.plain.varTypes Tryz.prog ++ Tryz.f3.resultTypes.toList).any (Tryz.prog.veiledRec ·))) = true := by kernel_rfl
theorem p7 : (Rows.deriveOperatorsRow.veiledFits Tryz.prog Tryz.f3.params.toList (Tryz.f3.params.toList ++ Rows.deriveOperatorsSpec.plain.varTypes Tryz.prog ++ Tryz.f3.resultTypes.toList)) = true := by kernel_rfl
theorem oH : joinedFacts Tryz.prog 3 Tryz.f3 Rows.deriveOperatorsSpec Rows.deriveOperatorsRow = true := by
  unfold joinedFacts
  exact C7 (C7 (C7 (C7 (C7 (C7 (C7 (C7 (C7 (C7 (C7 (C7 (C7 (C7 (C7 (C7 (C7 (C7 (C7 (C7 (C7 (C7 (C7 (C7 (C7 (C7 (C7 (C7 (C7 (C7 (C7 qy jp_1) jp_2) qz) qA) qB) jp_6) qC) jp_8) qD) pI) pJ) pK) pL) pM) pN) pO) pP) pQ) pR) pS) pT) pU) pV) jp_24) jp_25) pW) pX) pY) pZ) p6) p7
set_option maxRecDepth 100000 in
theorem p8 : Rows.DeriveOperatorsSaid :=
  OpenClaim.holds_of_wide 3 Tryz.f3 rfl rfl rfl rfl rfl rfl rfl ⟨rfl, rfl, rfl, rfl, rfl⟩ rfl rfl rfl rfl rfl (by kernel_rfl) Tryz.func3 oH
    (of_decide_eq_true (by kernel_rfl)) (by unfold Func.isWrapper; rw [if_neg (of_decide_eq_false (by kernel_rfl))]; exact ⟨rfl, rfl⟩)
    (fun os started zza enc _ => oG os started zza enc)
set_option maxRecDepth 100000 in
theorem operators_holds : Rows.DeriveOperatorsCardSaid :=
  Claim7.holds_tied_plain_at .later [] [.data, .data, .data, .data, .handle, .sentinel, .sentinel, .pinned] true (true, "25aef5475b21d898c71a3f168c0ac53cbeef0f941642e619d4c9685e481d2ed0") true
    p8 (fun _ h => by cases h) (by kernel_rfl) (fun _ h => by cases h) deriveOperators_row_tie rfl ⟨rfl, rfl⟩ (by kernel_rfl) rfl
    (fun f fn hf oT => by
      obtain rfl : f = 3 := Option.some.inj ((show Tryz.prog.funcNamed Tryz.f3.name = some 3 by kernel_rfl).symm.trans hf) |>.symm
      obtain rfl : fn = Tryz.f3 := (Option.some.inj (Tryz.func3.symm.trans oT)).symm
      exact ⟨by kernel_rfl, fun j t ht => by
        rw [Tryz.params3] at ht
        match j, ht with
        | 0, ht =>
          obtain rfl : t = 9 := by simpa using ht.symm
          exact (show Tryz.prog.wantsStandIn 9 = false by kernel_rfl)
        | 1, ht =>
          obtain rfl : t = 24 := by simpa using ht.symm
          exact (show Tryz.prog.wantsStandIn 24 = false by kernel_rfl)
        | i + 2, ht => simp at ht⟩)
    (by kernel_rfl)
#print axioms operators_holds
end Go.Proofs.YthakoglihciegaaGreatDoor
