/-
  The statement: 'PlanFits' answers true: the class for so many words is the least that holds them; so is the row of pages; more words never take less. Conditions: none.
-/
import Derived.Test.YtiffdfjknibmpaaLawPlanFits
import Derived.Test.YtiffdfjknibmpaaFrame
set_option linter.unusedVariables false
set_option linter.unusedSimpArgs false
namespace Go.Proofs.Ytiffdfjknibmpaa
open Go Go.Ev Go.ChangeShapes Go.WideShapes Go.ChangeAt Go.RowKit

set_option maxRecDepth 100000 in
theorem planFits_lifted (os : Os) (started : os.Started) (H : Type) (enc : TypeId × Value → H) :
    ReturnsInHanded {} Try.checked os 5 .any (Rows.planFitsSpec.pre6 enc Try.prog Try.f5 Rows.planFitsRow.domain false) (Rows.planFitsSpec.post enc Try.prog Try.f5 false true false false) := by
  refine returnsInHanded_of_change (C := Try.checked) ownKnob_no started (by kernel_rfl) Try.func5
    (ChangeSpec.witness6 (enc := enc) (C := Try.checked) false ⟨#[], #[.int .u16 0, .int .u16 0], []⟩ 8 (by kernel_rfl) (by kernel_rfl) (by kernel_rfl) (by kernel_rfl)) ?_
  intro W base args ds gs before hval hW _ _
  refine post_of_walk laidOut_yes (by kernel_rfl) (tb := 4) rfl (by kernel_rfl) rfl (fun ds hl => ?_) hW (fun hz => ?_)
  · obtain ⟨d0, d1, rfl⟩ := list2 hl
    exact ⟨rfl, rfl, rfl⟩
  · obtain ⟨v0, v1, rfl⟩ := arr2 hz
    obtain ⟨a0, rfl, h01⟩ := int_of_okv (P := Try.prog) (t := 29) (k := .u16) (by kernel_rfl) (hval 0 _ v0 rfl rfl)
    obtain ⟨a1, rfl, h11⟩ := int_of_okv (P := Try.prog) (t := 29) (k := .u16) (by kernel_rfl) (hval 1 _ v1 rfl rfl)
    exact Ends.of_pure (p_planFits a0 a1 (u16_bd h01) (u16_bd h11)) W

theorem planFits_holds : Rows.PlanFitsSaid :=
  OpenClaim.holds_of_wide 5 Try.f5 rfl rfl rfl rfl rfl rfl rfl ⟨rfl, rfl, rfl, rfl, rfl⟩ rfl rfl rfl rfl rfl (by kernel_rfl) Try.func5 (by kernel_rfl)
    (of_decide_eq_true (by kernel_rfl)) (by unfold Func.isWrapper; rw [if_neg (by decide +kernel)]; exact ⟨rfl, rfl⟩)
    (fun os started H enc _ => planFits_lifted os started H enc)

end Go.Proofs.Ytiffdfjknibmpaa
