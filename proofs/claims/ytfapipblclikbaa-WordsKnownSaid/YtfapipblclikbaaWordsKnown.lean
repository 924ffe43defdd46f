/-
  The statement: 'WordsKnown' answers true: chapter 2's example; what is out of place panics, and is recovered. Conditions: none.
-/
import Derived.Test.YtfapipblclikbaaLawWordsKnown
import Derived.Test.YtfapipblclikbaaWhole
set_option linter.unusedVariables false
set_option linter.unusedSimpArgs false
namespace Go.Proofs.Ytfapipblclikbaa
open Go Go.Ev Go.ChangeShapes Go.WideShapes Go.ChangeAt Go.RowKit

theorem wordsKnown_f1 : (Rows.wordsKnownRow.inPlace == Try.prog.inPlace 6) = true := by kernel_rfl
theorem wordsKnown_f2 : (Rows.wordsKnownRow.unfollowed == Try.prog.unfollowed 6) = true := by kernel_rfl
theorem wordsKnown_f3 : (Rows.wordsKnownRow.recurses == Try.prog.recurses 6) = true := by kernel_rfl
theorem wordsKnown_f4 : (Rows.wordsKnownRow.named == Try.prog.varsNamed 6) = true := by kernel_rfl
theorem wordsKnown_facts : joinedFacts Try.prog 6 Try.f6 Rows.wordsKnownSpec Rows.wordsKnownRow = true := by
  unfold joinedFacts
  rw [whole_enter, whole_lifts, whole_make, whole_stops, wordsKnown_f1, wordsKnown_f2, wordsKnown_f3, wordsKnown_f4]
  kernel_rfl

set_option maxRecDepth 100000 in
theorem wordsKnown_lifted (os : Os) (started : os.Started) (H : Type) (enc : TypeId × Value → H) :
    ReturnsInHanded {} Try.checked os 6 .any (Rows.wordsKnownSpec.pre6 enc Try.prog Try.f6 Rows.wordsKnownRow.domain false) (Rows.wordsKnownSpec.post enc Try.prog Try.f6 false true false false) := by
  refine returnsInHanded_of_change (C := Try.checked) ownKnob_no started (by kernel_rfl) Try.func6
    (ChangeSpec.witness6 (enc := enc) (C := Try.checked) false ⟨#[], #[], []⟩ 8 (by kernel_rfl) (by kernel_rfl) (by kernel_rfl) (by kernel_rfl)) ?_
  intro W base args ds gs before hval hW _ _
  refine post_of_walk laidOut_yes (by kernel_rfl) (tb := 4) rfl (by kernel_rfl) rfl (fun ds hl => ?_) hW (fun hz => ?_)
  · obtain rfl := List.eq_nil_of_length_eq_zero hl
    exact ⟨rfl, rfl, rfl⟩
  · obtain rfl := arr0 hz
    exact Ends.of_call (l_wordsknown )

theorem wordsKnown_holds : Rows.WordsKnownSaid :=
  OpenClaim.holds_of_wide 6 Try.f6 rfl rfl rfl rfl rfl rfl rfl ⟨rfl, rfl, rfl, rfl, rfl⟩ rfl rfl rfl rfl rfl (by kernel_rfl) Try.func6 wordsKnown_facts
    (of_decide_eq_true (by kernel_rfl)) (by unfold Func.isWrapper; rw [if_neg (by decide +kernel)]; exact ⟨rfl, rfl⟩)
    (fun os started H enc _ => wordsKnown_lifted os started H enc)

end Go.Proofs.Ytfapipblclikbaa
