/-
  The statement: 'WordsOne' answers true: an access touches one word alone: all others stay; a swap that is not done touches none. Conditions: none.
-/
import Derived.Test.YtfapipblclikbaaLawWordsOne
import Derived.Test.YtfapipblclikbaaWhole
import Derived.Test.YtfapipblclikbaaRowV
set_option linter.unusedVariables false
set_option linter.unusedSimpArgs false
namespace Go.Proofs.Ytfapipblclikbaa
open Go Go.Ev Go.ChangeShapes Go.WideShapes Go.ChangeAt Go.RowKit

theorem wordsOne_f1 : (Rows.wordsOneRow.inPlace == Try.prog.inPlace 5) = true := by kernel_rfl
theorem wordsOne_f2 : (Rows.wordsOneRow.unfollowed == Try.prog.unfollowed 5) = true := by kernel_rfl
theorem wordsOne_f3 : (Rows.wordsOneRow.recurses == Try.prog.recurses 5) = true := by kernel_rfl
theorem wordsOne_f4 : (Rows.wordsOneRow.named == Try.prog.varsNamed 5) = true := by kernel_rfl
theorem wordsOne_facts : joinedFacts Try.prog 5 Try.f5 Rows.wordsOneSpec Rows.wordsOneRow = true := by
  unfold joinedFacts
  rw [whole_enter, whole_lifts, whole_make, whole_stops, wordsOne_f1, wordsOne_f2, wordsOne_f3, wordsOne_f4]
  kernel_rfl

set_option maxRecDepth 100000 in
theorem wordsOne_lifted (os : Os) (started : os.Started) (H : Type) (enc : TypeId × Value → H) :
    ReturnsInHanded {} Try.checked os 5 .any (Rows.wordsOneSpec.pre6 enc Try.prog Try.f5 Rows.wordsOneRow.domain false) (Rows.wordsOneSpec.post enc Try.prog Try.f5 false true false false) := by
  refine returnsInHanded_of_change (C := Try.checked) ownKnob_no started (by kernel_rfl) Try.func5
    (ChangeSpec.witness6 (enc := enc) (C := Try.checked) false ⟨#[], #[.slice none 0 0, .agg #[.int .i64 0, .int .i64 0, .int .i64 0, .int .u64 0, .int .u64 0]], []⟩ 8 (by kernel_rfl) (by kernel_rfl) (by kernel_rfl) (by kernel_rfl)) ?_
  intro W base args ds gs before hval hW _ _
  refine post_of_walk laidOut_yes (by kernel_rfl) (tb := 4) rfl (by kernel_rfl) rfl (fun ds hl => ?_) hW (fun hz => ?_)
  · obtain ⟨d0, d1, rfl⟩ := list2 hl
    exact ⟨rfl, rfl, rfl⟩
  · obtain ⟨v0, v1, rfl⟩ := arr2 hz
    obtain ⟨d0, p0, hd0⟩ := whole_nth hW (j := 0) rfl rfl
    obtain ⟨a0, n0, c0, z0, rfl, hn0, hr0, hu0⟩ := ints_of (P := Try.prog) (e := 26) (k := .u64) (by kernel_rfl) (by kernel_rfl) (by kernel_rfl) (hval 0 _ v0 rfl rfl) hd0
    obtain ⟨x1_0, x1_1, x1_2, x1_3, x1_4, rfl, h1_0, h1_1, h1_2, h1_3, h1_4⟩ := ints5_of_ok (P := Try.prog) (t0 := 3) (k0 := .i64) (t1 := 3) (k1 := .i64) (t2 := 3) (k2 := .i64) (t3 := 26) (k3 := .u64) (t4 := 26) (k4 := .u64) (by kernel_rfl) (by kernel_rfl) (by kernel_rfl) (by kernel_rfl) (by kernel_rfl) (by kernel_rfl) (by kernel_rfl) (by kernel_rfl) (hval 1 _ v1 rfl rfl)
    exact Ends.of_call (l_wordsone hn0 hr0 hu0 x1_0 x1_1 x1_2 x1_3 x1_4 (i64_bd h1_0) (i64_bd h1_1) (i64_bd h1_2) (u64_bd h1_3) (u64_bd h1_4))

theorem wordsOne_holds : Rows.WordsOneSaid :=
  OpenClaim.holds_of_wide 5 Try.f5 rfl rfl rfl rfl rfl rfl rfl ⟨rfl, rfl, rfl, rfl, rfl⟩ rfl rfl rfl rfl rfl (by kernel_rfl) Try.func5 wordsOne_facts
    (of_decide_eq_true (by kernel_rfl)) (by unfold Func.isWrapper; rw [if_neg (by decide +kernel)]; exact ⟨rfl, rfl⟩)
    (fun os started H enc _ => wordsOne_lifted os started H enc)

end Go.Proofs.Ytfapipblclikbaa
