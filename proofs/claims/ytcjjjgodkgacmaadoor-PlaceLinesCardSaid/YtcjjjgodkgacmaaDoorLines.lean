/-
  PlaceLines: lines, their bytes, their ends.
  For every text and all numbers the law returns true, and leaves its arguments as they were. Conditions: the three package variables of the library that the row lists (unicode/utf8 first and acceptRanges, errors.errorType) hold at the start what the text of the library lays (the card ties it).
-/
import Derived.Test.YtcjjjgodkgacmaaDoorK05
import Derived.Test.YtcjjjgodkgacmaaDoorCards
import Derived.Test.YtcjjjgodkgacmaaDoorTie
import Derived.SevenTiedAt
set_option linter.all false
namespace Go.Proofs.YtcjjjgodkgacmaaDoor
open Go Go.Ab Go.Ab.Place Go.Proofs Go.ChangeShapes Go.WideShapes Go.RowKit

set_option maxRecDepth 100000 in
theorem lines_lifted (os : Os) (started : os.Started) (H : Type) (enc : TypeId × Value → H) :
    ReturnsInHanded {} Tryd.checked os 8 .any (fun w args => (Rows.placeLinesSpec.pre enc Tryd.prog Tryd.f8 [] false w args ∧ laidMetH Tryd.prog Rows.placeLinesRow.laid w) ∧ sizedMet enc Tryd.prog Tryd.f8 (OpenSpec.ofChange Rows.placeLinesSpec) false w args)
      (Rows.placeLinesSpec.post enc Tryd.prog Tryd.f8 false true false false) := by
  refine returnsInHanded_of_change_and (C := Tryd.checked) (X := fun w _ => laidMetH Tryd.prog Rows.placeLinesRow.laid w) (fun _ _ _ hh h => h.of_heap hh) p_own started (by kernel_rfl) Tryd.func8
    (ChangeSpec.witness_at (enc := enc) (C := Tryd.checked) (os := os) (X := fun w _ => laidMetH Tryd.prog Rows.placeLinesRow.laid w) false (laidWorld os) #[.string ⟨#[]⟩, .int .i64 0, .int .i64 0] 8 rfl (by kernel_rfl) (by kernel_rfl) (by kernel_rfl) (by kernel_rfl) (by kernel_rfl) (laidWorld_met os _)) ?_
  intro W base args ds gs before hval0 hW _ _ hL _
  have hval : ∀ (j : Nat) t v, Tryd.f8.params[j]? = some t → args[j]? = some v → Value.okWide Tryd.prog W .any base t v := hval0
  have hW' := hW
  obtain ⟨p, q, hA0, hV, rfl, hfz, hnd⟩ := hW
  have hA : DataW.TrodAll enc Tryd.prog W 0 (fun _ => true) true Tryd.f8.params.toList args.toList ds p := hA0
  rw [Tryd.params8] at hA hval
  obtain ⟨v0, v1, v2, d0, d1, d2, p0, p1, p2, rfl, rfl, rfl, g0, g1, g2⟩ := trodAll_three hA
  obtain ⟨rfl, rfl⟩ := trodVars_none hV
  obtain ⟨s, rfl, rfl, rfl, ws⟩ := ChangeMaps.open_string Tryd.underlying9 (hval 0 9 v0 rfl rfl) g0
  obtain ⟨a, rfl, rfl, rfl, wa⟩ := open_int Tryd.underlying3 (hval 1 3 v1 rfl rfl) g1
  obtain ⟨b, rfl, rfl, rfl, wb⟩ := open_int Tryd.underlying3 (hval 2 3 v2 rfl rfl) g2
  clear hA0 hval0
  simp only [List.append_nil] at hW'
  obtain ⟨l, rfl⟩ : ∃ l : List UInt8, s = ⟨l.toArray⟩ := ⟨s.data.toList, by cases s; simp⟩
  have hs : l.length ≤ 9223372036854775807 := by
    unfold maxLen at ws
    simpa [ByteArray.size] using ws
  refine (lines_calls (w := W) (fun _ h => h) (wd_of_vars (vars_of_laid hL)) l hs a b).mono fun e W' ⟨he, hw⟩ => ?_
  subst he
  refine ⟨_, rfl, _, _, _, [], [], [], hW', trodAll_mk1 (shut_bool Tryd.underlying4 true), trodAll_mk3 (ChangeMaps.shut_string Tryd.underlying9 ws) (shut_int Tryd.underlying3 wa) (shut_int Tryd.underlying3 wb), rfl, keptBut_of_same hw.os hw.output hw.same, fun h => by cases h⟩
set_option maxRecDepth 100000 in
theorem lines_row : Rows.PlaceLinesSaid :=
  OpenClaim.holds_of_wide 8 Tryd.f8 rfl rfl rfl rfl rfl rfl rfl ⟨rfl, rfl, rfl, rfl, rfl⟩ rfl rfl rfl rfl rfl (by kernel_rfl) Tryd.func8 (by kernel_rfl)
    (of_decide_eq_true (by kernel_rfl)) (by unfold Func.isWrapper; rw [if_neg (of_decide_eq_false (by kernel_rfl))]; exact ⟨rfl, rfl⟩)
    (fun os started H enc _ => lines_lifted os started H enc)
set_option maxRecDepth 100000 in
theorem lines_holds : Rows.PlaceLinesCardSaid :=
  Claim7.holds_tied_plain_at .later [] [.data, .handle, .pinned] true (true, "7e35dcc8974c6b84bbe74bf6cee6e38947e615f13603c6c2a568c1fbe3bc6a70") true
    lines_row (fun _ h => by cases h) (by kernel_rfl) (fun _ h => by cases h) placeLines_row_tie rfl ⟨rfl, rfl⟩ (by kernel_rfl) rfl
    (fun f fn hf hfn => by
      obtain rfl : f = 8 := Option.some.inj ((show Tryd.prog.funcNamed Tryd.f8.name = some 8 by kernel_rfl).symm.trans hf) |>.symm
      obtain rfl : fn = Tryd.f8 := (Option.some.inj (Tryd.func8.symm.trans hfn)).symm
      exact ⟨by kernel_rfl, fun j t ht => by
        rw [Tryd.params8] at ht
        have h3 : t = 9 ∨ t = 3 := by
          match j, ht with
          | 0, ht => exact .inl (by simpa using ht.symm)
          | 1, ht => exact .inr (by simpa using ht.symm)
          | 2, ht => exact .inr (by simpa using ht.symm)
          | i + 3, ht => simp at ht
        rcases h3 with rfl | rfl
        · exact (show Tryd.prog.wantsStandIn 9 = false by kernel_rfl)
        · exact (show Tryd.prog.wantsStandIn 3 = false by kernel_rfl)⟩)
    (by kernel_rfl)
#print axioms lines_holds
end Go.Proofs.YtcjjjgodkgacmaaDoor
