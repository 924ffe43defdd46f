/-
  The statement: 'RunRows' answers true: of pages that are empty, full, or of open slots, the first row of so many that are not full is found; the pages ahead of it are empty then, if they were open. Conditions: none.
-/
import Derived.Test.YtbehnodllajnjaaLawRunRows
import Derived.Test.YtbehnodllajnjaaWhole
set_option linter.unusedVariables false
set_option linter.unusedSimpArgs false
namespace Go.Proofs.Ytbehnodllajnjaa
open Go Go.Ev Go.ChangeShapes Go.WideShapes Go.ChangeAt Go.RowKit

theorem runRows_f1 : (Rows.runRowsRow.inPlace == Try.prog.inPlace 3) = true := by kernel_rfl
theorem runRows_f2 : (Rows.runRowsRow.unfollowed == Try.prog.unfollowed 3) = true := by kernel_rfl
theorem runRows_f3 : (Rows.runRowsRow.recurses == Try.prog.recurses 3) = true := by kernel_rfl
theorem runRows_f4 : (Rows.runRowsRow.named == Try.prog.varsNamed 3) = true := by kernel_rfl
theorem runRows_facts : joinedFacts Try.prog 3 Try.f3 Rows.runRowsSpec Rows.runRowsRow = true := by
  unfold joinedFacts
  rw [whole_enter, whole_lifts, whole_make, whole_stops, runRows_f1, runRows_f2, runRows_f3, runRows_f4]
  kernel_rfl

set_option maxRecDepth 100000 in
theorem runRows_lifted (os : Os) (started : os.Started) (H : Type) (enc : TypeId × Value → H) :
    ReturnsInHanded {} Try.checked os 3 .any (Rows.runRowsSpec.pre6 enc Try.prog Try.f3 Rows.runRowsRow.domain false) (Rows.runRowsSpec.post enc Try.prog Try.f3 false true false false) := by
  refine returnsInHanded_of_change (C := Try.checked) ownKnob_no started (by kernel_rfl) Try.func3
    (ChangeSpec.witness6 (enc := enc) (C := Try.checked) false ⟨#[], #[.slice none 0 0, .int .u8 0], []⟩ 8 (by kernel_rfl) (by kernel_rfl) (by kernel_rfl) (by kernel_rfl)) ?_
  intro W base args ds gs before hval hW _ _
  refine post_of_walk laidOut_yes (by kernel_rfl) (tb := 4) rfl (by kernel_rfl) rfl (fun ds hl => ?_) hW (fun hz => ?_)
  · obtain ⟨d0, d1, rfl⟩ := list2 hl
    exact ⟨rfl, rfl, rfl⟩
  · obtain ⟨v0, v1, rfl⟩ := arr2 hz
    obtain ⟨d0, p0, hd0⟩ := whole_nth hW (j := 0) rfl rfl
    obtain ⟨a0, n0, c0, z0, rfl, hn0, hr0, hu0⟩ := ints_of (P := Try.prog) (e := 5) (k := .u8) (by kernel_rfl) (by kernel_rfl) (by kernel_rfl) (hval 0 _ v0 rfl rfl) hd0
    obtain ⟨a1, rfl, h1⟩ := int_of_okv (P := Try.prog) (t := 5) (k := .u8) (by kernel_rfl) (hval 1 _ v1 rfl rfl)
    exact Ends.of_call (l_runrows hn0 hr0 hu0 a1 (u8_bd h1))

theorem runRows_holds : Rows.RunRowsSaid :=
  OpenClaim.holds_of_wide 3 Try.f3 rfl rfl rfl rfl rfl rfl rfl ⟨rfl, rfl, rfl, rfl, rfl⟩ rfl rfl rfl rfl rfl (by kernel_rfl) Try.func3 runRows_facts
    (of_decide_eq_true (by kernel_rfl)) (by unfold Func.isWrapper; rw [if_neg (by decide +kernel)]; exact ⟨rfl, rfl⟩)
    (fun os started H enc _ => runRows_lifted os started H enc)

end Go.Proofs.Ytbehnodllajnjaa
