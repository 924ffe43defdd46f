/-
  The statement: 'PlanClasses' answers true: a class's slots fill a page; each address in a page of a class is in one slot; a block is never shorter than what was asked for, and less than twice it, or a page longer. Conditions: none.
-/
import Derived.Test.YtiffdfjknibmpaaLawPlanClasses
import Derived.Test.YtiffdfjknibmpaaFrame
set_option linter.unusedVariables false
set_option linter.unusedSimpArgs false
namespace Go.Proofs.Ytiffdfjknibmpaa
open Go Go.Ev Go.ChangeShapes Go.WideShapes Go.ChangeAt Go.RowKit

set_option maxRecDepth 100000 in
theorem planClasses_lifted (os : Os) (started : os.Started) (H : Type) (enc : TypeId × Value → H) :
    ReturnsInHanded {} Try.checked os 7 .any (Rows.planClassesSpec.pre6 enc Try.prog Try.f7 Rows.planClassesRow.domain false) (Rows.planClassesSpec.post enc Try.prog Try.f7 false true false false) := by
  refine returnsInHanded_of_change (C := Try.checked) ownKnob_no started (by kernel_rfl) Try.func7
    (ChangeSpec.witness6 (enc := enc) (C := Try.checked) false ⟨#[], #[.int .i64 0, .int .u8 0, .int .u8 0], []⟩ 8 (by kernel_rfl) (by kernel_rfl) (by kernel_rfl) (by kernel_rfl)) ?_
  intro W base args ds gs before hval hW _ _
  refine post_of_walk laidOut_yes (by kernel_rfl) (tb := 4) rfl (by kernel_rfl) rfl (fun ds hl => ?_) hW (fun hz => ?_)
  · obtain ⟨d0, d1, d2, rfl⟩ := list3 hl
    exact ⟨rfl, rfl, rfl⟩
  · obtain ⟨v0, v1, v2, rfl⟩ := arr3 hz
    obtain ⟨a0, rfl, h01⟩ := int_of_okv (P := Try.prog) (t := 3) (k := .i64) (by kernel_rfl) (hval 0 _ v0 rfl rfl)
    obtain ⟨a1, rfl, h11⟩ := int_of_okv (P := Try.prog) (t := 5) (k := .u8) (by kernel_rfl) (hval 1 _ v1 rfl rfl)
    obtain ⟨a2, rfl, h21⟩ := int_of_okv (P := Try.prog) (t := 5) (k := .u8) (by kernel_rfl) (hval 2 _ v2 rfl rfl)
    exact Ends.of_pure (p_planClasses a0 a1 a2 (i64_bd h01) (u8_bd h11) (u8_bd h21)) W

theorem planClasses_holds : Rows.PlanClassesSaid :=
  OpenClaim.holds_of_wide 7 Try.f7 rfl rfl rfl rfl rfl rfl rfl ⟨rfl, rfl, rfl, rfl, rfl⟩ rfl rfl rfl rfl rfl (by kernel_rfl) Try.func7 (by kernel_rfl)
    (of_decide_eq_true (by kernel_rfl)) (by unfold Func.isWrapper; rw [if_neg (by decide +kernel)]; exact ⟨rfl, rfl⟩)
    (fun os started H enc _ => planClasses_lifted os started H enc)

end Go.Proofs.Ytiffdfjknibmpaa
