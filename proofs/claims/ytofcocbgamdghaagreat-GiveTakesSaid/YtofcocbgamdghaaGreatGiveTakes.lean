/-
  The statement: 'GiveTakes' answers true: while one gives a block another one looks for one: however they take turns, it gets the block that is given only when it is given, and no word of it else. Conditions: none.
-/
import Derived.Test.YtofcocbgamdghaaGreatLawGiveTakes
import Derived.Test.YtofcocbgamdghaaGreatWhole
import Derived.Test.YtofcocbgamdghaaGreatRowV
set_option linter.unusedVariables false
set_option linter.unusedSimpArgs false
namespace Go.Proofs.YtofcocbgamdghaaGreat
open Go Go.Ev Go.ChangeShapes Go.WideShapes Go.ChangeAt Go.RowKit

theorem giveTakes_f1 : (Rows.giveTakesRow.inPlace == Tryz.prog.inPlace 3) = true := by kernel_rfl
theorem giveTakes_f2 : (Rows.giveTakesRow.unfollowed == Tryz.prog.unfollowed 3) = true := by kernel_rfl
theorem giveTakes_f3 : (Rows.giveTakesRow.recurses == Tryz.prog.recurses 3) = true := by kernel_rfl
theorem giveTakes_f4 : (Rows.giveTakesRow.named == Tryz.prog.varsNamed 3) = true := by kernel_rfl
theorem giveTakes_facts : joinedFacts Tryz.prog 3 Tryz.f3 Rows.giveTakesSpec Rows.giveTakesRow = true := by
  unfold joinedFacts
  rw [whole_enter, whole_lifts, whole_make, whole_stops, giveTakes_f1, giveTakes_f2, giveTakes_f3, giveTakes_f4]
  kernel_rfl

set_option maxRecDepth 100000 in
theorem giveTakes_lifted (os : Os) (started : os.Started) (H : Type) (enc : TypeId × Value → H) :
    ReturnsInHanded {} Tryz.checked os 3 .any (Rows.giveTakesSpec.pre6 enc Tryz.prog Tryz.f3 Rows.giveTakesRow.domain false) (Rows.giveTakesSpec.post enc Tryz.prog Tryz.f3 false true false false) := by
  refine returnsInHanded_of_change (C := Tryz.checked) ownKnob_no started (by kernel_rfl) Tryz.func3
    (ChangeSpec.witness6 (enc := enc) (C := Tryz.checked) false ⟨#[], #[.int .u8 0, .int .u16 0, .slice none 0 0], []⟩ 8 (by kernel_rfl) (by kernel_rfl) (by kernel_rfl) (by kernel_rfl)) ?_
  intro W base args ds gs before hval hW _ _
  refine post_of_walk laidOut_yes (by kernel_rfl) (tb := 4) rfl (by kernel_rfl) rfl (fun ds hl => ?_) hW (fun hz => ?_)
  · obtain ⟨d0, d1, d2, rfl⟩ := list3 hl
    exact ⟨rfl, rfl, rfl⟩
  · obtain ⟨v0, v1, v2, rfl⟩ := arr3 hz
    obtain ⟨a0, rfl, h0⟩ := int_of_okv (P := Tryz.prog) (t := 5) (k := .u8) (by kernel_rfl) (hval 0 _ v0 rfl rfl)
    obtain ⟨a1, rfl, h1⟩ := int_of_okv (P := Tryz.prog) (t := 22) (k := .u16) (by kernel_rfl) (hval 1 _ v1 rfl rfl)
    obtain ⟨d2, p2, hd2⟩ := whole_nth hW (j := 2) rfl rfl
    obtain ⟨a2, n2, c2, z2, rfl, hn2, hr2⟩ := bools_of (P := Tryz.prog) (e := 4) (by kernel_rfl) (by kernel_rfl) (by kernel_rfl) (hval 2 _ v2 rfl rfl) hd2
    exact Ends.of_call (l_givetakes a0 (u8_bd h0) a1 (u16_bd h1) hn2 hr2)

theorem giveTakes_holds : Rows.GiveTakesSaid :=
  OpenClaim.holds_of_wide 3 Tryz.f3 rfl rfl rfl rfl rfl rfl rfl ⟨rfl, rfl, rfl, rfl, rfl⟩ rfl rfl rfl rfl rfl (by kernel_rfl) Tryz.func3 giveTakes_facts
    (of_decide_eq_true (by kernel_rfl)) (by unfold Func.isWrapper; rw [if_neg (by decide +kernel)]; exact ⟨rfl, rfl⟩)
    (fun os started H enc _ => giveTakes_lifted os started H enc)

end Go.Proofs.YtofcocbgamdghaaGreat
