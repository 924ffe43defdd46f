/-
  The statement: 'SeekMany' answers true: of many that seek at the same time, of whichever classes, from a blank heap, however they take turns: no two have a word in common; what each has is on its way, in a page of its class. Conditions: none.
-/
import Derived.Test.YtpdmeneigpipiaaLawSeekMany
import Derived.Test.YtpdmeneigpipiaaWhole
set_option linter.unusedVariables false
set_option linter.unusedSimpArgs false
namespace Go.Proofs.Ytpdmeneigpipiaa
open Go Go.Ev Go.ChangeShapes Go.WideShapes Go.ChangeAt Go.RowKit

theorem seekMany_f1 : (Rows.seekManyRow.inPlace == Try.prog.inPlace 3) = true := by kernel_rfl
theorem seekMany_f2 : (Rows.seekManyRow.unfollowed == Try.prog.unfollowed 3) = true := by kernel_rfl
theorem seekMany_f3 : (Rows.seekManyRow.recurses == Try.prog.recurses 3) = true := by kernel_rfl
theorem seekMany_f4 : (Rows.seekManyRow.named == Try.prog.varsNamed 3) = true := by kernel_rfl
theorem seekMany_facts : joinedFacts Try.prog 3 Try.f3 Rows.seekManySpec Rows.seekManyRow = true := by
  unfold joinedFacts
  rw [whole_enter, whole_lifts, whole_make, whole_stops, seekMany_f1, seekMany_f2, seekMany_f3, seekMany_f4]
  kernel_rfl

set_option maxRecDepth 100000 in
theorem seekMany_lifted (os : Os) (started : os.Started) (H : Type) (enc : TypeId × Value → H) :
    ReturnsInHanded {} Try.checked os 3 .any (Rows.seekManySpec.pre6 enc Try.prog Try.f3 Rows.seekManyRow.domain false) (Rows.seekManySpec.post enc Try.prog Try.f3 false true false false) := by
  refine returnsInHanded_of_change (C := Try.checked) ownKnob_no started (by kernel_rfl) Try.func3
    (ChangeSpec.witness6 (enc := enc) (C := Try.checked) false ⟨#[], #[.int .u8 0, .slice none 0 0, .slice none 0 0], []⟩ 8 (by kernel_rfl) (by kernel_rfl) (by kernel_rfl) (by kernel_rfl)) ?_
  intro W base args ds gs before hval hW _ _
  refine post_of_walk laidOut_yes (by kernel_rfl) (tb := 4) rfl (by kernel_rfl) rfl (fun ds hl => ?_) hW (fun hz => ?_)
  · obtain ⟨d0, d1, d2, rfl⟩ := list3 hl
    exact ⟨rfl, rfl, rfl⟩
  · obtain ⟨v0, v1, v2, rfl⟩ := arr3 hz
    obtain ⟨a0, rfl, h0⟩ := int_of_okv (P := Try.prog) (t := 5) (k := .u8) (by kernel_rfl) (hval 0 _ v0 rfl rfl)
    obtain ⟨d1, p1, hd1⟩ := whole_nth hW (j := 1) rfl rfl
    obtain ⟨a1, n1, c1, z1, rfl, hn1, hr1, hu1⟩ := ints_of (P := Try.prog) (e := 5) (k := .u8) (by kernel_rfl) (by kernel_rfl) (by kernel_rfl) (hval 1 _ v1 rfl rfl) hd1
    obtain ⟨d2, p2, hd2⟩ := whole_nth hW (j := 2) rfl rfl
    obtain ⟨a2, n2, c2, z2, rfl, hn2, hr2, hu2⟩ := ints_of (P := Try.prog) (e := 5) (k := .u8) (by kernel_rfl) (by kernel_rfl) (by kernel_rfl) (hval 2 _ v2 rfl rfl) hd2
    exact Ends.of_call (l_seekmany a0 (u8_bd h0) hn1 hr1 hu1 hn2 hr2 hu2)

theorem seekMany_holds : Rows.SeekManySaid :=
  OpenClaim.holds_of_wide 3 Try.f3 rfl rfl rfl rfl rfl rfl rfl ⟨rfl, rfl, rfl, rfl, rfl⟩ rfl rfl rfl rfl rfl (by kernel_rfl) Try.func3 seekMany_facts
    (of_decide_eq_true (by kernel_rfl)) (by unfold Func.isWrapper; rw [if_neg (by decide +kernel)]; exact ⟨rfl, rfl⟩)
    (fun os started H enc _ => seekMany_lifted os started H enc)

end Go.Proofs.Ytpdmeneigpipiaa
