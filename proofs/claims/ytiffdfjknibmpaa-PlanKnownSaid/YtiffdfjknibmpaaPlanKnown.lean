/-
  The statement: 'PlanKnown' answers true: chapter 3's examples, and what is none. Conditions: none.
-/
import Derived.Test.YtiffdfjknibmpaaLaw3
import Derived.Test.YtiffdfjknibmpaaFrame
set_option linter.unusedVariables false
set_option linter.unusedSimpArgs false
namespace Go.Proofs.Ytiffdfjknibmpaa
open Go Go.Ev Go.ChangeShapes Go.WideShapes Go.ChangeAt Go.RowKit

set_option maxRecDepth 100000 in
theorem planKnown_lifted (os : Os) (started : os.Started) (H : Type) (enc : TypeId × Value → H) :
    ReturnsInHanded {} Try.checked os 9 .any (Rows.planKnownSpec.pre6 enc Try.prog Try.f9 Rows.planKnownRow.domain false) (Rows.planKnownSpec.post enc Try.prog Try.f9 false true false false) := by
  refine returnsInHanded_of_change (C := Try.checked) ownKnob_no started (by kernel_rfl) Try.func9
    (ChangeSpec.witness6 (enc := enc) (C := Try.checked) false ⟨#[], #[], []⟩ 8 (by kernel_rfl) (by kernel_rfl) (by kernel_rfl) (by kernel_rfl)) ?_
  intro W base args ds gs before hval hW _ _
  refine post_of_walk laidOut_yes (by kernel_rfl) (tb := 4) rfl (by kernel_rfl) rfl (fun ds hl => ?_) hW (fun hz => ?_)
  · obtain rfl := List.eq_nil_of_length_eq_zero hl
    exact ⟨rfl, rfl, rfl⟩
  · obtain rfl := arr0 hz
    exact Ends.of_pure p_planKnown W

theorem planKnown_holds : Rows.PlanKnownSaid :=
  OpenClaim.holds_of_wide 9 Try.f9 rfl rfl rfl rfl rfl rfl rfl ⟨rfl, rfl, rfl, rfl, rfl⟩ rfl rfl rfl rfl rfl (by kernel_rfl) Try.func9 (by kernel_rfl)
    (of_decide_eq_true (by kernel_rfl)) (by unfold Func.isWrapper; rw [if_neg (by decide +kernel)]; exact ⟨rfl, rfl⟩)
    (fun os started H enc _ => planKnown_lifted os started H enc)

end Go.Proofs.Ytiffdfjknibmpaa
