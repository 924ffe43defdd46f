/-
  The statement: 'GiveTwo' answers true: of two that give the same block, whatever their turns, just one does; behind both its words are free, or in the magazine of who gave it. Conditions: none.
-/
import Derived.Test.YtbehnodllajnjaaLawGiveTwo
import Derived.Test.YtbehnodllajnjaaWhole
import Derived.Test.YtbehnodllajnjaaRowV
set_option linter.unusedVariables false
set_option linter.unusedSimpArgs false
namespace Go.Proofs.Ytbehnodllajnjaa
open Go Go.Ev Go.ChangeShapes Go.WideShapes Go.ChangeAt Go.RowKit

theorem giveTwo_f1 : (Rows.giveTwoRow.inPlace == Try.prog.inPlace 5) = true := by kernel_rfl
theorem giveTwo_f2 : (Rows.giveTwoRow.unfollowed == Try.prog.unfollowed 5) = true := by kernel_rfl
theorem giveTwo_f3 : (Rows.giveTwoRow.recurses == Try.prog.recurses 5) = true := by kernel_rfl
theorem giveTwo_f4 : (Rows.giveTwoRow.named == Try.prog.varsNamed 5) = true := by kernel_rfl
theorem giveTwo_facts : joinedFacts Try.prog 5 Try.f5 Rows.giveTwoSpec Rows.giveTwoRow = true := by
  unfold joinedFacts
  rw [whole_enter, whole_lifts, whole_make, whole_stops, giveTwo_f1, giveTwo_f2, giveTwo_f3, giveTwo_f4]
  kernel_rfl

set_option maxRecDepth 100000 in
theorem giveTwo_lifted (os : Os) (started : os.Started) (H : Type) (enc : TypeId × Value → H) :
    ReturnsInHanded {} Try.checked os 5 .any (Rows.giveTwoSpec.pre6 enc Try.prog Try.f5 Rows.giveTwoRow.domain false) (Rows.giveTwoSpec.post enc Try.prog Try.f5 false true false false) := by
  refine returnsInHanded_of_change (C := Try.checked) ownKnob_no started (by kernel_rfl) Try.func5
    (ChangeSpec.witness6 (enc := enc) (C := Try.checked) false ⟨#[], #[.int .u8 0, .int .u8 0, .slice none 0 0], []⟩ 8 (by kernel_rfl) (by kernel_rfl) (by kernel_rfl) (by kernel_rfl)) ?_
  intro W base args ds gs before hval hW _ _
  refine post_of_walk laidOut_yes (by kernel_rfl) (tb := 4) rfl (by kernel_rfl) rfl (fun ds hl => ?_) hW (fun hz => ?_)
  · obtain ⟨d0, d1, d2, rfl⟩ := list3 hl
    exact ⟨rfl, rfl, rfl⟩
  · obtain ⟨v0, v1, v2, rfl⟩ := arr3 hz
    obtain ⟨a0, rfl, h0⟩ := int_of_okv (P := Try.prog) (t := 5) (k := .u8) (by kernel_rfl) (hval 0 _ v0 rfl rfl)
    obtain ⟨a1, rfl, h1⟩ := int_of_okv (P := Try.prog) (t := 5) (k := .u8) (by kernel_rfl) (hval 1 _ v1 rfl rfl)
    obtain ⟨d2, p2, hd2⟩ := whole_nth hW (j := 2) rfl rfl
    obtain ⟨a2, n2, c2, z2, rfl, hn2, hr2⟩ := bools_of (P := Try.prog) (e := 4) (by kernel_rfl) (by kernel_rfl) (by kernel_rfl) (hval 2 _ v2 rfl rfl) hd2
    exact Ends.of_call (l_givetwo a0 (u8_bd h0) a1 (u8_bd h1) hn2 hr2)

theorem giveTwo_holds : Rows.GiveTwoSaid :=
  OpenClaim.holds_of_wide 5 Try.f5 rfl rfl rfl rfl rfl rfl rfl ⟨rfl, rfl, rfl, rfl, rfl⟩ rfl rfl rfl rfl rfl (by kernel_rfl) Try.func5 giveTwo_facts
    (of_decide_eq_true (by kernel_rfl)) (by unfold Func.isWrapper; rw [if_neg (by decide +kernel)]; exact ⟨rfl, rfl⟩)
    (fun os started H enc _ => giveTwo_lifted os started H enc)

end Go.Proofs.Ytbehnodllajnjaa
