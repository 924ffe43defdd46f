/-
  The statement: 'RunTwo' answers true: of two that look for rows of pages at the same time, whatever their turns, the rows have no page in common; who finds none gives all back; one of them finds its row. Conditions: none.
-/
import Derived.Test.YtbehnodllajnjaaLawRunTwo
import Derived.Test.YtbehnodllajnjaaWhole
import Derived.Test.YtbehnodllajnjaaRowV
set_option linter.unusedVariables false
set_option linter.unusedSimpArgs false
namespace Go.Proofs.Ytbehnodllajnjaa
open Go Go.Ev Go.ChangeShapes Go.WideShapes Go.ChangeAt Go.RowKit

theorem runTwo_f1 : (Rows.runTwoRow.inPlace == Try.prog.inPlace 4) = true := by kernel_rfl
theorem runTwo_f2 : (Rows.runTwoRow.unfollowed == Try.prog.unfollowed 4) = true := by kernel_rfl
theorem runTwo_f3 : (Rows.runTwoRow.recurses == Try.prog.recurses 4) = true := by kernel_rfl
theorem runTwo_f4 : (Rows.runTwoRow.named == Try.prog.varsNamed 4) = true := by kernel_rfl
theorem runTwo_facts : joinedFacts Try.prog 4 Try.f4 Rows.runTwoSpec Rows.runTwoRow = true := by
  unfold joinedFacts
  rw [whole_enter, whole_lifts, whole_make, whole_stops, runTwo_f1, runTwo_f2, runTwo_f3, runTwo_f4]
  kernel_rfl

set_option maxRecDepth 100000 in
theorem runTwo_lifted (os : Os) (started : os.Started) (H : Type) (enc : TypeId × Value → H) :
    ReturnsInHanded {} Try.checked os 4 .any (Rows.runTwoSpec.pre6 enc Try.prog Try.f4 Rows.runTwoRow.domain false) (Rows.runTwoSpec.post enc Try.prog Try.f4 false true false false) := by
  refine returnsInHanded_of_change (C := Try.checked) ownKnob_no started (by kernel_rfl) Try.func4
    (ChangeSpec.witness6 (enc := enc) (C := Try.checked) false ⟨#[], #[.int .u8 0, .agg #[.int .u8 0, .int .u8 0], .slice none 0 0], []⟩ 8 (by kernel_rfl) (by kernel_rfl) (by kernel_rfl) (by kernel_rfl)) ?_
  intro W base args ds gs before hval hW _ _
  refine post_of_walk laidOut_yes (by kernel_rfl) (tb := 4) rfl (by kernel_rfl) rfl (fun ds hl => ?_) hW (fun hz => ?_)
  · obtain ⟨d0, d1, d2, rfl⟩ := list3 hl
    exact ⟨rfl, rfl, rfl⟩
  · obtain ⟨v0, v1, v2, rfl⟩ := arr3 hz
    obtain ⟨a0, rfl, h0⟩ := int_of_okv (P := Try.prog) (t := 5) (k := .u8) (by kernel_rfl) (hval 0 _ v0 rfl rfl)
    obtain ⟨x1_0, x1_1, rfl, h1_0, h1_1⟩ := ints2_of_ok (P := Try.prog) (t0 := 5) (k0 := .u8) (t1 := 5) (k1 := .u8) (by kernel_rfl) (by kernel_rfl) (by kernel_rfl) (by kernel_rfl) (by kernel_rfl) (hval 1 _ v1 rfl rfl)
    obtain ⟨d2, p2, hd2⟩ := whole_nth hW (j := 2) rfl rfl
    obtain ⟨a2, n2, c2, z2, rfl, hn2, hr2⟩ := bools_of (P := Try.prog) (e := 4) (by kernel_rfl) (by kernel_rfl) (by kernel_rfl) (hval 2 _ v2 rfl rfl) hd2
    exact Ends.of_call (l_runtwo a0 (u8_bd h0) x1_0 x1_1 (u8_bd h1_0) (u8_bd h1_1) hn2 hr2)

theorem runTwo_holds : Rows.RunTwoSaid :=
  OpenClaim.holds_of_wide 4 Try.f4 rfl rfl rfl rfl rfl rfl rfl ⟨rfl, rfl, rfl, rfl, rfl⟩ rfl rfl rfl rfl rfl (by kernel_rfl) Try.func4 runTwo_facts
    (of_decide_eq_true (by kernel_rfl)) (by unfold Func.isWrapper; rw [if_neg (by decide +kernel)]; exact ⟨rfl, rfl⟩)
    (fun os started H enc _ => runTwo_lifted os started H enc)

end Go.Proofs.Ytbehnodllajnjaa
