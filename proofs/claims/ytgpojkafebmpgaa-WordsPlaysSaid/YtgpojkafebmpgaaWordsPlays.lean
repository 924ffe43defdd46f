/-
  The statement: 'WordsPlays' answers true: whatever is loaded, stored, swapped, added, in place or out of it: each answer, all words, each step; what panics does nothing. Conditions: none.
-/
import Derived.Test.YtgpojkafebmpgaaLawWordsPlays
import Derived.Test.YtgpojkafebmpgaaWhole
set_option linter.unusedVariables false
set_option linter.unusedSimpArgs false
namespace Go.Proofs.Ytgpojkafebmpgaa
open Go Go.Ev Go.ChangeShapes Go.WideShapes Go.ChangeAt Go.RowKit

theorem wordsPlays_f1 : (Rows.wordsPlaysRow.inPlace == Try.prog.inPlace 3) = true := by kernel_rfl
theorem wordsPlays_f2 : (Rows.wordsPlaysRow.unfollowed == Try.prog.unfollowed 3) = true := by kernel_rfl
theorem wordsPlays_f3 : (Rows.wordsPlaysRow.recurses == Try.prog.recurses 3) = true := by kernel_rfl
theorem wordsPlays_f4 : (Rows.wordsPlaysRow.named == Try.prog.varsNamed 3) = true := by kernel_rfl
theorem wordsPlays_facts : joinedFacts Try.prog 3 Try.f3 Rows.wordsPlaysSpec Rows.wordsPlaysRow = true := by
  unfold joinedFacts
  rw [whole_enter, whole_lifts, whole_make, whole_stops, wordsPlays_f1, wordsPlays_f2, wordsPlays_f3, wordsPlays_f4]
  kernel_rfl

set_option maxRecDepth 100000 in
theorem wordsPlays_lifted (os : Os) (started : os.Started) (H : Type) (enc : TypeId × Value → H) :
    ReturnsInHanded {} Try.checked os 3 .any (Rows.wordsPlaysSpec.pre6 enc Try.prog Try.f3 Rows.wordsPlaysRow.domain false) (Rows.wordsPlaysSpec.post enc Try.prog Try.f3 false true false false) := by
  refine returnsInHanded_of_change (C := Try.checked) ownKnob_no started (by kernel_rfl) Try.func3
    (ChangeSpec.witness6 (enc := enc) (C := Try.checked) false ⟨#[], #[.slice none 0 0, .slice none 0 0], []⟩ 8 (by kernel_rfl) (by kernel_rfl) (by kernel_rfl) (by kernel_rfl)) ?_
  intro W base args ds gs before hval hW _ _
  refine post_of_walk laidOut_yes (by kernel_rfl) (tb := 4) rfl (by kernel_rfl) rfl (fun ds hl => ?_) hW (fun hz => ?_)
  · obtain ⟨d0, d1, rfl⟩ := list2 hl
    exact ⟨rfl, rfl, rfl⟩
  · obtain ⟨v0, v1, rfl⟩ := arr2 hz
    obtain ⟨d0, p0, hd0⟩ := whole_nth hW (j := 0) rfl rfl
    obtain ⟨a0, n0, c0, z0, rfl, hn0, hr0, hu0⟩ := ints_of (P := Try.prog) (e := 29) (k := .u64) (by kernel_rfl) (by kernel_rfl) (by kernel_rfl) (hval 0 _ v0 rfl rfl) hd0
    obtain ⟨d1, p1, hd1⟩ := whole_nth hW (j := 1) rfl rfl
    obtain ⟨a1, n1, c1, z1, rfl, hn1, hr1⟩ := deeds_of (P := Try.prog) (by kernel_rfl) Try.underlying31 (by kernel_rfl) rfl rfl rfl rfl rfl (by kernel_rfl) (by kernel_rfl) (by kernel_rfl) (by kernel_rfl) (by kernel_rfl) (by kernel_rfl) (by kernel_rfl) (by kernel_rfl) (by kernel_rfl) (by kernel_rfl) (hval 1 _ v1 rfl rfl) hd1
    exact Ends.of_call (l_wordsplays hn0 hr0 hu0 hn1 hr1)

theorem wordsPlays_holds : Rows.WordsPlaysSaid :=
  OpenClaim.holds_of_wide 3 Try.f3 rfl rfl rfl rfl rfl rfl rfl ⟨rfl, rfl, rfl, rfl, rfl⟩ rfl rfl rfl rfl rfl (by kernel_rfl) Try.func3 wordsPlays_facts
    (of_decide_eq_true (by kernel_rfl)) (by unfold Func.isWrapper; rw [if_neg (by decide +kernel)]; exact ⟨rfl, rfl⟩)
    (fun os started H enc _ => wordsPlays_lifted os started H enc)

end Go.Proofs.Ytgpojkafebmpgaa
