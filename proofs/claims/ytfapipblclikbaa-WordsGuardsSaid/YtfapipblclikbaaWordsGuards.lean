/-
  The statement: 'WordsGuards' answers true: whatever panics in what is guarded is recovered, with whatever, how deep; what was done ahead of it stays done. Conditions: none.
-/
import Derived.Test.YtfapipblclikbaaLawWordsGuards
import Derived.Test.YtfapipblclikbaaWhole
set_option linter.unusedVariables false
set_option linter.unusedSimpArgs false
namespace Go.Proofs.Ytfapipblclikbaa
open Go Go.Ev Go.ChangeShapes Go.WideShapes Go.ChangeAt Go.RowKit

theorem wordsGuards_f1 : (Rows.wordsGuardsRow.inPlace == Try.prog.inPlace 4) = true := by kernel_rfl
theorem wordsGuards_f2 : (Rows.wordsGuardsRow.unfollowed == Try.prog.unfollowed 4) = true := by kernel_rfl
theorem wordsGuards_f3 : (Rows.wordsGuardsRow.recurses == Try.prog.recurses 4) = true := by kernel_rfl
theorem wordsGuards_f4 : (Rows.wordsGuardsRow.named == Try.prog.varsNamed 4) = true := by kernel_rfl
theorem wordsGuards_facts : joinedFacts Try.prog 4 Try.f4 Rows.wordsGuardsSpec Rows.wordsGuardsRow = true := by
  unfold joinedFacts
  rw [whole_enter, whole_lifts, whole_make, whole_stops, wordsGuards_f1, wordsGuards_f2, wordsGuards_f3, wordsGuards_f4]
  kernel_rfl

set_option maxRecDepth 100000 in
theorem wordsGuards_lifted (os : Os) (started : os.Started) (H : Type) (enc : TypeId × Value → H) :
    ReturnsInHanded {} Try.checked os 4 .any (Rows.wordsGuardsSpec.pre6 enc Try.prog Try.f4 Rows.wordsGuardsRow.domain false) (Rows.wordsGuardsSpec.post enc Try.prog Try.f4 false true false false) := by
  refine returnsInHanded_of_change (C := Try.checked) ownKnob_no started (by kernel_rfl) Try.func4
    (ChangeSpec.witness6 (enc := enc) (C := Try.checked) false ⟨#[], #[.int .u8 0, .int .i64 0, .string ⟨#[]⟩], []⟩ 8 (by kernel_rfl) (by kernel_rfl) (by kernel_rfl) (by kernel_rfl)) ?_
  intro W base args ds gs before hval hW _ _
  refine post_of_walk laidOut_yes (by kernel_rfl) (tb := 4) rfl (by kernel_rfl) rfl (fun ds hl => ?_) hW (fun hz => ?_)
  · obtain ⟨d0, d1, d2, rfl⟩ := list3 hl
    exact ⟨rfl, rfl, rfl⟩
  · obtain ⟨v0, v1, v2, rfl⟩ := arr3 hz
    obtain ⟨a0, rfl, h0⟩ := int_of_okv (P := Try.prog) (t := 5) (k := .u8) (by kernel_rfl) (hval 0 _ v0 rfl rfl)
    obtain ⟨a1, rfl, h1⟩ := int_of_okv (P := Try.prog) (t := 3) (k := .i64) (by kernel_rfl) (hval 1 _ v1 rfl rfl)
    obtain ⟨a2, rfl⟩ := okWide_string (P := Try.prog) (t := 9) (by kernel_rfl) (hval 2 _ v2 rfl rfl)
    exact Ends.of_call (l_wordsguards a0 (u8_bd h0) a1 (i64_bd h1) a2)

theorem wordsGuards_holds : Rows.WordsGuardsSaid :=
  OpenClaim.holds_of_wide 4 Try.f4 rfl rfl rfl rfl rfl rfl rfl ⟨rfl, rfl, rfl, rfl, rfl⟩ rfl rfl rfl rfl rfl (by kernel_rfl) Try.func4 wordsGuards_facts
    (of_decide_eq_true (by kernel_rfl)) (by unfold Func.isWrapper; rw [if_neg (by decide +kernel)]; exact ⟨rfl, rfl⟩)
    (fun os started H enc _ => wordsGuards_lifted os started H enc)

end Go.Proofs.Ytfapipblclikbaa
