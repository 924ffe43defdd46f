/-
  The statement: 'PlanApart' answers true: all places of a shape are apart, and fill its words from the first to the last. Conditions: none.
-/
import Derived.Test.YtiffdfjknibmpaaLawPlanApart
import Derived.Test.YtiffdfjknibmpaaFrame
set_option linter.unusedVariables false
set_option linter.unusedSimpArgs false
namespace Go.Proofs.Ytiffdfjknibmpaa
open Go Go.Ev Go.ChangeShapes Go.WideShapes Go.ChangeAt Go.RowKit

set_option maxRecDepth 100000 in
theorem planApart_lifted (os : Os) (started : os.Started) (H : Type) (enc : TypeId × Value → H) :
    ReturnsInHanded {} Try.checked os 8 .any (Rows.planApartSpec.pre6 enc Try.prog Try.f8 Rows.planApartRow.domain false) (Rows.planApartSpec.post enc Try.prog Try.f8 false true false false) := by
  refine returnsInHanded_of_change (C := Try.checked) ownKnob_no started (by kernel_rfl) Try.func8
    (ChangeSpec.witness6 (enc := enc) (C := Try.checked) false ⟨#[], #[.agg #[.int .i64 0, .int .i64 0, .int .i64 0]], []⟩ 8 (by kernel_rfl) (by kernel_rfl) (by kernel_rfl) (by kernel_rfl)) ?_
  intro W base args ds gs before hval hW _ _
  refine post_of_walk laidOut_yes (by kernel_rfl) (tb := 4) rfl (by kernel_rfl) rfl (fun ds hl => ?_) hW (fun hz => ?_)
  · obtain ⟨d0, rfl⟩ := list1 hl
    exact ⟨rfl, rfl, rfl⟩
  · obtain ⟨v0, rfl⟩ := arr1 hz
    obtain ⟨a0, b0, c0, rfl, h01, h02, h03⟩ := ints3_of_ok (P := Try.prog) (t0 := 3) (t1 := 3) (t2 := 3) (k0 := .i64) (k1 := .i64) (k2 := .i64) (by kernel_rfl) (by kernel_rfl) (by kernel_rfl) (by kernel_rfl) (by kernel_rfl) (by kernel_rfl) (hval 0 _ v0 rfl rfl)
    exact Ends.of_pure (p_planApart a0 b0 c0 (i64_bd h01) (i64_bd h02) (i64_bd h03)) W

theorem planApart_holds : Rows.PlanApartSaid :=
  OpenClaim.holds_of_wide 8 Try.f8 rfl rfl rfl rfl rfl rfl rfl ⟨rfl, rfl, rfl, rfl, rfl⟩ rfl rfl rfl rfl rfl (by kernel_rfl) Try.func8 (by kernel_rfl)
    (of_decide_eq_true (by kernel_rfl)) (by unfold Func.isWrapper; rw [if_neg (by decide +kernel)]; exact ⟨rfl, rfl⟩)
    (fun os started H enc _ => planApart_lifted os started H enc)

end Go.Proofs.Ytiffdfjknibmpaa
