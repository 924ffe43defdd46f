/-
  The statement: 'TakeMany' answers true: of many that reserve whatever they like at the same time, and commit, however they take turns, no two blocks have a word in common; all is sound when all are done. Conditions: none.
-/
import Derived.Test.YtfdhilnaagpecaaGreatLawTakeMany
import Derived.Test.YtfdhilnaagpecaaGreatWhole
set_option linter.unusedVariables false
set_option linter.unusedSimpArgs false
namespace Go.Proofs.YtfdhilnaagpecaaGreat
open Go Go.Ev Go.ChangeShapes Go.WideShapes Go.ChangeAt Go.RowKit

theorem takeMany_f1 : (Rows.takeManyRow.inPlace == Tryz.prog.inPlace 3) = true := by kernel_rfl
theorem takeMany_f2 : (Rows.takeManyRow.unfollowed == Tryz.prog.unfollowed 3) = true := by kernel_rfl
theorem takeMany_f3 : (Rows.takeManyRow.recurses == Tryz.prog.recurses 3) = true := by kernel_rfl
theorem takeMany_f4 : (Rows.takeManyRow.named == Tryz.prog.varsNamed 3) = true := by kernel_rfl
theorem takeMany_facts : joinedFacts Tryz.prog 3 Tryz.f3 Rows.takeManySpec Rows.takeManyRow = true := by
  unfold joinedFacts
  rw [whole_enter, whole_lifts, whole_make, whole_stops, takeMany_f1, takeMany_f2, takeMany_f3, takeMany_f4]
  kernel_rfl

set_option maxRecDepth 100000 in
theorem takeMany_lifted (os : Os) (started : os.Started) (H : Type) (enc : TypeId × Value → H) :
    ReturnsInHanded {} Tryz.checked os 3 .any (Rows.takeManySpec.pre6 enc Tryz.prog Tryz.f3 Rows.takeManyRow.domain false) (Rows.takeManySpec.post enc Tryz.prog Tryz.f3 false true false false) := by
  refine returnsInHanded_of_change (C := Tryz.checked) ownKnob_no started (by kernel_rfl) Tryz.func3
    (ChangeSpec.witness6 (enc := enc) (C := Tryz.checked) false ⟨#[], #[.int .u8 0, .slice none 0 0, .slice none 0 0], []⟩ 8 (by kernel_rfl) (by kernel_rfl) (by kernel_rfl) (by kernel_rfl)) ?_
  intro W base args ds gs before hval hW _ _
  refine post_of_walk laidOut_yes (by kernel_rfl) (tb := 4) rfl (by kernel_rfl) rfl (fun ds hl => ?_) hW (fun hz => ?_)
  · obtain ⟨d0, d1, d2, rfl⟩ := list3 hl
    exact ⟨rfl, rfl, rfl⟩
  · obtain ⟨v0, v1, v2, rfl⟩ := arr3 hz
    obtain ⟨a0, rfl, h0⟩ := int_of_okv (P := Tryz.prog) (t := 5) (k := .u8) (by kernel_rfl) (hval 0 _ v0 rfl rfl)
    obtain ⟨d1, p1, hd1⟩ := whole_nth hW (j := 1) rfl rfl
    obtain ⟨a1, n1, c1, z1, rfl, hn1, hr1, hu1⟩ := ints_of (P := Tryz.prog) (e := 35) (k := .u16) (by kernel_rfl) (by kernel_rfl) (by kernel_rfl) (hval 1 _ v1 rfl rfl) hd1
    obtain ⟨d2, p2, hd2⟩ := whole_nth hW (j := 2) rfl rfl
    obtain ⟨a2, n2, c2, z2, rfl, hn2, hr2, hu2⟩ := ints_of (P := Tryz.prog) (e := 5) (k := .u8) (by kernel_rfl) (by kernel_rfl) (by kernel_rfl) (hval 2 _ v2 rfl rfl) hd2
    exact Ends.of_call (l_takemany a0 (u8_bd h0) hn1 hr1 hu1 hn2 hr2 hu2)

theorem takeMany_holds : Rows.TakeManySaid :=
  OpenClaim.holds_of_wide 3 Tryz.f3 rfl rfl rfl rfl rfl rfl rfl ⟨rfl, rfl, rfl, rfl, rfl⟩ rfl rfl rfl rfl rfl (by kernel_rfl) Tryz.func3 takeMany_facts
    (of_decide_eq_true (by kernel_rfl)) (by unfold Func.isWrapper; rw [if_neg (by decide +kernel)]; exact ⟨rfl, rfl⟩)
    (fun os started H enc _ => takeMany_lifted os started H enc)

end Go.Proofs.YtfdhilnaagpecaaGreat
