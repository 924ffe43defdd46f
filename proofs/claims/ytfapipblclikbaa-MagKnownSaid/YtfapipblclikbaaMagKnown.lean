/-
  The statement: 'MagKnown' answers true: chapter 8's example; a magazine that is full, and one without entries. Conditions: none.
-/
import Derived.Test.YtfapipblclikbaaLawMagKnown
import Derived.Test.YtfapipblclikbaaWhole
set_option linter.unusedVariables false
set_option linter.unusedSimpArgs false
namespace Go.Proofs.Ytfapipblclikbaa
open Go Go.Ev Go.ChangeShapes Go.WideShapes Go.ChangeAt Go.RowKit

theorem magKnown_f1 : (Rows.magKnownRow.inPlace == Try.prog.inPlace 19) = true := by kernel_rfl
theorem magKnown_f2 : (Rows.magKnownRow.unfollowed == Try.prog.unfollowed 19) = true := by kernel_rfl
theorem magKnown_f3 : (Rows.magKnownRow.recurses == Try.prog.recurses 19) = true := by kernel_rfl
theorem magKnown_f4 : (Rows.magKnownRow.named == Try.prog.varsNamed 19) = true := by kernel_rfl
theorem magKnown_facts : joinedFacts Try.prog 19 Try.f19 Rows.magKnownSpec Rows.magKnownRow = true := by
  unfold joinedFacts
  rw [whole_enter, whole_lifts, whole_make, whole_stops, magKnown_f1, magKnown_f2, magKnown_f3, magKnown_f4]
  kernel_rfl

set_option maxRecDepth 100000 in
theorem magKnown_lifted (os : Os) (started : os.Started) (H : Type) (enc : TypeId × Value → H) :
    ReturnsInHanded {} Try.checked os 19 .any (Rows.magKnownSpec.pre6 enc Try.prog Try.f19 Rows.magKnownRow.domain false) (Rows.magKnownSpec.post enc Try.prog Try.f19 false true false false) := by
  refine returnsInHanded_of_change (C := Try.checked) ownKnob_no started (by kernel_rfl) Try.func19
    (ChangeSpec.witness6 (enc := enc) (C := Try.checked) false ⟨#[], #[], []⟩ 8 (by kernel_rfl) (by kernel_rfl) (by kernel_rfl) (by kernel_rfl)) ?_
  intro W base args ds gs before hval hW _ _
  refine post_of_walk laidOut_yes (by kernel_rfl) (tb := 4) rfl (by kernel_rfl) rfl (fun ds hl => ?_) hW (fun hz => ?_)
  · obtain rfl := List.eq_nil_of_length_eq_zero hl
    exact ⟨rfl, rfl, rfl⟩
  · obtain rfl := arr0 hz
    exact Ends.of_call (l_magknown )

theorem magKnown_holds : Rows.MagKnownSaid :=
  OpenClaim.holds_of_wide 19 Try.f19 rfl rfl rfl rfl rfl rfl rfl ⟨rfl, rfl, rfl, rfl, rfl⟩ rfl rfl rfl rfl rfl (by kernel_rfl) Try.func19 magKnown_facts
    (of_decide_eq_true (by kernel_rfl)) (by unfold Func.isWrapper; rw [if_neg (by decide +kernel)]; exact ⟨rfl, rfl⟩)
    (fun os started H enc _ => magKnown_lifted os started H enc)

end Go.Proofs.Ytfapipblclikbaa
