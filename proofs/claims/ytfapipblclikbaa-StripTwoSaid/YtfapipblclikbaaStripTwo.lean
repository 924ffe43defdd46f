/-
  The statement: 'StripTwo' answers true: of two that strip one page at most one gets it, however they take turns; where neither does all its slots are open again; a slot that a third one looks for meanwhile is had by one alone. Conditions: none.
-/
import Derived.Test.YtfapipblclikbaaLawStripTwo
import Derived.Test.YtfapipblclikbaaWhole
set_option linter.unusedVariables false
set_option linter.unusedSimpArgs false
namespace Go.Proofs.Ytfapipblclikbaa
open Go Go.Ev Go.ChangeShapes Go.WideShapes Go.ChangeAt Go.RowKit

theorem stripTwo_f1 : (Rows.stripTwoRow.inPlace == Try.prog.inPlace 25) = true := by kernel_rfl
theorem stripTwo_f2 : (Rows.stripTwoRow.unfollowed == Try.prog.unfollowed 25) = true := by kernel_rfl
theorem stripTwo_f3 : (Rows.stripTwoRow.recurses == Try.prog.recurses 25) = true := by kernel_rfl
theorem stripTwo_f4 : (Rows.stripTwoRow.named == Try.prog.varsNamed 25) = true := by kernel_rfl
theorem stripTwo_facts : joinedFacts Try.prog 25 Try.f25 Rows.stripTwoSpec Rows.stripTwoRow = true := by
  unfold joinedFacts
  rw [whole_enter, whole_lifts, whole_make, whole_stops, stripTwo_f1, stripTwo_f2, stripTwo_f3, stripTwo_f4]
  kernel_rfl

set_option maxRecDepth 100000 in
theorem stripTwo_lifted (os : Os) (started : os.Started) (H : Type) (enc : TypeId × Value → H) :
    ReturnsInHanded {} Try.checked os 25 .any (Rows.stripTwoSpec.pre6 enc Try.prog Try.f25 Rows.stripTwoRow.domain false) (Rows.stripTwoSpec.post enc Try.prog Try.f25 false true false false) := by
  refine returnsInHanded_of_change (C := Try.checked) ownKnob_no started (by kernel_rfl) Try.func25
    (ChangeSpec.witness6 (enc := enc) (C := Try.checked) false ⟨#[], #[.int .u8 0, .slice none 0 0], []⟩ 8 (by kernel_rfl) (by kernel_rfl) (by kernel_rfl) (by kernel_rfl)) ?_
  intro W base args ds gs before hval hW _ _
  refine post_of_walk laidOut_yes (by kernel_rfl) (tb := 4) rfl (by kernel_rfl) rfl (fun ds hl => ?_) hW (fun hz => ?_)
  · obtain ⟨d0, d1, rfl⟩ := list2 hl
    exact ⟨rfl, rfl, rfl⟩
  · obtain ⟨v0, v1, rfl⟩ := arr2 hz
    obtain ⟨a0, rfl, h0⟩ := int_of_okv (P := Try.prog) (t := 5) (k := .u8) (by kernel_rfl) (hval 0 _ v0 rfl rfl)
    obtain ⟨d1, p1, hd1⟩ := whole_nth hW (j := 1) rfl rfl
    obtain ⟨a1, n1, c1, z1, rfl, hn1, hr1, hu1⟩ := ints_of (P := Try.prog) (e := 5) (k := .u8) (by kernel_rfl) (by kernel_rfl) (by kernel_rfl) (hval 1 _ v1 rfl rfl) hd1
    exact Ends.of_call (l_striptwo a0 (u8_bd h0) hn1 hr1 hu1)

theorem stripTwo_holds : Rows.StripTwoSaid :=
  OpenClaim.holds_of_wide 25 Try.f25 rfl rfl rfl rfl rfl rfl rfl ⟨rfl, rfl, rfl, rfl, rfl⟩ rfl rfl rfl rfl rfl (by kernel_rfl) Try.func25 stripTwo_facts
    (of_decide_eq_true (by kernel_rfl)) (by unfold Func.isWrapper; rw [if_neg (by decide +kernel)]; exact ⟨rfl, rfl⟩)
    (fun os started H enc _ => stripTwo_lifted os started H enc)

end Go.Proofs.Ytfapipblclikbaa
