/-
  The statement: 'StripMany' answers true: of as many as like that strip one page, however they take turns, at most one has it; if none does it is as it was. Conditions: none.
-/
import Derived.Test.YtfapipblclikbaaLawStripMany
import Derived.Test.YtfapipblclikbaaWhole
set_option linter.unusedVariables false
set_option linter.unusedSimpArgs false
namespace Go.Proofs.Ytfapipblclikbaa
open Go Go.Ev Go.ChangeShapes Go.WideShapes Go.ChangeAt Go.RowKit

theorem stripMany_f1 : (Rows.stripManyRow.inPlace == Try.prog.inPlace 14) = true := by kernel_rfl
theorem stripMany_f2 : (Rows.stripManyRow.unfollowed == Try.prog.unfollowed 14) = true := by kernel_rfl
theorem stripMany_f3 : (Rows.stripManyRow.recurses == Try.prog.recurses 14) = true := by kernel_rfl
theorem stripMany_f4 : (Rows.stripManyRow.named == Try.prog.varsNamed 14) = true := by kernel_rfl
theorem stripMany_facts : joinedFacts Try.prog 14 Try.f14 Rows.stripManySpec Rows.stripManyRow = true := by
  unfold joinedFacts
  rw [whole_enter, whole_lifts, whole_make, whole_stops, stripMany_f1, stripMany_f2, stripMany_f3, stripMany_f4]
  kernel_rfl

set_option maxRecDepth 100000 in
theorem stripMany_lifted (os : Os) (started : os.Started) (H : Type) (enc : TypeId × Value → H) :
    ReturnsInHanded {} Try.checked os 14 .any (Rows.stripManySpec.pre6 enc Try.prog Try.f14 Rows.stripManyRow.domain false) (Rows.stripManySpec.post enc Try.prog Try.f14 false true false false) := by
  refine returnsInHanded_of_change (C := Try.checked) ownKnob_no started (by kernel_rfl) Try.func14
    (ChangeSpec.witness6 (enc := enc) (C := Try.checked) false ⟨#[], #[.int .u8 0, .int .u8 0, .slice none 0 0], []⟩ 8 (by kernel_rfl) (by kernel_rfl) (by kernel_rfl) (by kernel_rfl)) ?_
  intro W base args ds gs before hval hW _ _
  refine post_of_walk laidOut_yes (by kernel_rfl) (tb := 4) rfl (by kernel_rfl) rfl (fun ds hl => ?_) hW (fun hz => ?_)
  · obtain ⟨d0, d1, d2, rfl⟩ := list3 hl
    exact ⟨rfl, rfl, rfl⟩
  · obtain ⟨v0, v1, v2, rfl⟩ := arr3 hz
    obtain ⟨a0, rfl, h0⟩ := int_of_okv (P := Try.prog) (t := 5) (k := .u8) (by kernel_rfl) (hval 0 _ v0 rfl rfl)
    obtain ⟨a1, rfl, h1⟩ := int_of_okv (P := Try.prog) (t := 5) (k := .u8) (by kernel_rfl) (hval 1 _ v1 rfl rfl)
    obtain ⟨d2, p2, hd2⟩ := whole_nth hW (j := 2) rfl rfl
    obtain ⟨a2, n2, c2, z2, rfl, hn2, hr2, hu2⟩ := ints_of (P := Try.prog) (e := 5) (k := .u8) (by kernel_rfl) (by kernel_rfl) (by kernel_rfl) (hval 2 _ v2 rfl rfl) hd2
    exact Ends.of_call (l_stripmany a0 (u8_bd h0) a1 (u8_bd h1) hn2 hr2 hu2)

theorem stripMany_holds : Rows.StripManySaid :=
  OpenClaim.holds_of_wide 14 Try.f14 rfl rfl rfl rfl rfl rfl rfl ⟨rfl, rfl, rfl, rfl, rfl⟩ rfl rfl rfl rfl rfl (by kernel_rfl) Try.func14 stripMany_facts
    (of_decide_eq_true (by kernel_rfl)) (by unfold Func.isWrapper; rw [if_neg (by decide +kernel)]; exact ⟨rfl, rfl⟩)
    (fun os started H enc _ => stripMany_lifted os started H enc)

end Go.Proofs.Ytfapipblclikbaa
