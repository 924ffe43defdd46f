/-
  The statement: 'BindHides' answers true: while a page is bound nobody gets its first slot, whoever looks when; of the others each is had once it is open, by one alone. Conditions: none.
-/
import Derived.Test.YtfapipblclikbaaLawBindHides
import Derived.Test.YtfapipblclikbaaWhole
import Derived.Test.YtfapipblclikbaaRowV
set_option linter.unusedVariables false
set_option linter.unusedSimpArgs false
namespace Go.Proofs.Ytfapipblclikbaa
open Go Go.Ev Go.ChangeShapes Go.WideShapes Go.ChangeAt Go.RowKit

theorem bindHides_f1 : (Rows.bindHidesRow.inPlace == Try.prog.inPlace 26) = true := by kernel_rfl
theorem bindHides_f2 : (Rows.bindHidesRow.unfollowed == Try.prog.unfollowed 26) = true := by kernel_rfl
theorem bindHides_f3 : (Rows.bindHidesRow.recurses == Try.prog.recurses 26) = true := by kernel_rfl
theorem bindHides_f4 : (Rows.bindHidesRow.named == Try.prog.varsNamed 26) = true := by kernel_rfl
theorem bindHides_facts : joinedFacts Try.prog 26 Try.f26 Rows.bindHidesSpec Rows.bindHidesRow = true := by
  unfold joinedFacts
  rw [whole_enter, whole_lifts, whole_make, whole_stops, bindHides_f1, bindHides_f2, bindHides_f3, bindHides_f4]
  kernel_rfl

set_option maxRecDepth 100000 in
theorem bindHides_lifted (os : Os) (started : os.Started) (H : Type) (enc : TypeId × Value → H) :
    ReturnsInHanded {} Try.checked os 26 .any (Rows.bindHidesSpec.pre6 enc Try.prog Try.f26 Rows.bindHidesRow.domain false) (Rows.bindHidesSpec.post enc Try.prog Try.f26 false true false false) := by
  refine returnsInHanded_of_change (C := Try.checked) ownKnob_no started (by kernel_rfl) Try.func26
    (ChangeSpec.witness6 (enc := enc) (C := Try.checked) false ⟨#[], #[.int .u8 0, .slice none 0 0], []⟩ 8 (by kernel_rfl) (by kernel_rfl) (by kernel_rfl) (by kernel_rfl)) ?_
  intro W base args ds gs before hval hW _ _
  refine post_of_walk laidOut_yes (by kernel_rfl) (tb := 4) rfl (by kernel_rfl) rfl (fun ds hl => ?_) hW (fun hz => ?_)
  · obtain ⟨d0, d1, rfl⟩ := list2 hl
    exact ⟨rfl, rfl, rfl⟩
  · obtain ⟨v0, v1, rfl⟩ := arr2 hz
    obtain ⟨a0, rfl, h0⟩ := int_of_okv (P := Try.prog) (t := 5) (k := .u8) (by kernel_rfl) (hval 0 _ v0 rfl rfl)
    obtain ⟨d1, p1, hd1⟩ := whole_nth hW (j := 1) rfl rfl
    obtain ⟨a1, n1, c1, z1, rfl, hn1, hr1⟩ := bools_of (P := Try.prog) (e := 4) (by kernel_rfl) (by kernel_rfl) (by kernel_rfl) (hval 1 _ v1 rfl rfl) hd1
    exact Ends.of_call (l_bindhides a0 (u8_bd h0) hn1 hr1)

theorem bindHides_holds : Rows.BindHidesSaid :=
  OpenClaim.holds_of_wide 26 Try.f26 rfl rfl rfl rfl rfl rfl rfl ⟨rfl, rfl, rfl, rfl, rfl⟩ rfl rfl rfl rfl rfl (by kernel_rfl) Try.func26 bindHides_facts
    (of_decide_eq_true (by kernel_rfl)) (by unfold Func.isWrapper; rw [if_neg (by decide +kernel)]; exact ⟨rfl, rfl⟩)
    (fun os started H enc _ => bindHides_lifted os started H enc)

end Go.Proofs.Ytfapipblclikbaa
