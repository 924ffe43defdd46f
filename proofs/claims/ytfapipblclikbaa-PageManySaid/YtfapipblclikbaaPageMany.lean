/-
  The statement: 'PageMany' answers true: of many that look for an empty page at the same time, from wherever on, however they take turns, no two get the same one; as many get one as there are, or all. Conditions: none.
-/
import Derived.Test.YtfapipblclikbaaLawPageMany
import Derived.Test.YtfapipblclikbaaWhole
import Derived.Test.YtfapipblclikbaaRowV
set_option linter.unusedVariables false
set_option linter.unusedSimpArgs false
namespace Go.Proofs.Ytfapipblclikbaa
open Go Go.Ev Go.ChangeShapes Go.WideShapes Go.ChangeAt Go.RowKit

theorem pageMany_f1 : (Rows.pageManyRow.inPlace == Try.prog.inPlace 9) = true := by kernel_rfl
theorem pageMany_f2 : (Rows.pageManyRow.unfollowed == Try.prog.unfollowed 9) = true := by kernel_rfl
theorem pageMany_f3 : (Rows.pageManyRow.recurses == Try.prog.recurses 9) = true := by kernel_rfl
theorem pageMany_f4 : (Rows.pageManyRow.named == Try.prog.varsNamed 9) = true := by kernel_rfl
theorem pageMany_facts : joinedFacts Try.prog 9 Try.f9 Rows.pageManySpec Rows.pageManyRow = true := by
  unfold joinedFacts
  rw [whole_enter, whole_lifts, whole_make, whole_stops, pageMany_f1, pageMany_f2, pageMany_f3, pageMany_f4]
  kernel_rfl

set_option maxRecDepth 100000 in
theorem pageMany_lifted (os : Os) (started : os.Started) (H : Type) (enc : TypeId × Value → H) :
    ReturnsInHanded {} Try.checked os 9 .any (Rows.pageManySpec.pre6 enc Try.prog Try.f9 Rows.pageManyRow.domain false) (Rows.pageManySpec.post enc Try.prog Try.f9 false true false false) := by
  refine returnsInHanded_of_change (C := Try.checked) ownKnob_no started (by kernel_rfl) Try.func9
    (ChangeSpec.witness6 (enc := enc) (C := Try.checked) false ⟨#[], #[.slice none 0 0, .slice none 0 0, .slice none 0 0], []⟩ 8 (by kernel_rfl) (by kernel_rfl) (by kernel_rfl) (by kernel_rfl)) ?_
  intro W base args ds gs before hval hW _ _
  refine post_of_walk laidOut_yes (by kernel_rfl) (tb := 4) rfl (by kernel_rfl) rfl (fun ds hl => ?_) hW (fun hz => ?_)
  · obtain ⟨d0, d1, d2, rfl⟩ := list3 hl
    exact ⟨rfl, rfl, rfl⟩
  · obtain ⟨v0, v1, v2, rfl⟩ := arr3 hz
    obtain ⟨d0, p0, hd0⟩ := whole_nth hW (j := 0) rfl rfl
    obtain ⟨a0, n0, c0, z0, rfl, hn0, hr0⟩ := bools_of (P := Try.prog) (e := 4) (by kernel_rfl) (by kernel_rfl) (by kernel_rfl) (hval 0 _ v0 rfl rfl) hd0
    obtain ⟨d1, p1, hd1⟩ := whole_nth hW (j := 1) rfl rfl
    obtain ⟨a1, n1, c1, z1, rfl, hn1, hr1, hu1⟩ := ints_of (P := Try.prog) (e := 5) (k := .u8) (by kernel_rfl) (by kernel_rfl) (by kernel_rfl) (hval 1 _ v1 rfl rfl) hd1
    obtain ⟨d2, p2, hd2⟩ := whole_nth hW (j := 2) rfl rfl
    obtain ⟨a2, n2, c2, z2, rfl, hn2, hr2, hu2⟩ := ints_of (P := Try.prog) (e := 5) (k := .u8) (by kernel_rfl) (by kernel_rfl) (by kernel_rfl) (hval 2 _ v2 rfl rfl) hd2
    exact Ends.of_call (l_pagemany hn0 hr0 hn1 hr1 hu1 hn2 hr2 hu2)

theorem pageMany_holds : Rows.PageManySaid :=
  OpenClaim.holds_of_wide 9 Try.f9 rfl rfl rfl rfl rfl rfl rfl ⟨rfl, rfl, rfl, rfl, rfl⟩ rfl rfl rfl rfl rfl (by kernel_rfl) Try.func9 pageMany_facts
    (of_decide_eq_true (by kernel_rfl)) (by unfold Func.isWrapper; rw [if_neg (by decide +kernel)]; exact ⟨rfl, rfl⟩)
    (fun os started H enc _ => pageMany_lifted os started H enc)

end Go.Proofs.Ytfapipblclikbaa
