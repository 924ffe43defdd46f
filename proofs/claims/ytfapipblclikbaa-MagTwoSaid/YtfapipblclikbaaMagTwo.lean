/-
  The statement: 'MagTwo' answers true: two that put and take at the same time, each in its own magazine, however they take turns, come to what they come to alone. Conditions: none.
-/
import Derived.Test.YtfapipblclikbaaLawMagTwo
import Derived.Test.YtfapipblclikbaaWhole
import Derived.Test.YtfapipblclikbaaRowV
set_option linter.unusedVariables false
set_option linter.unusedSimpArgs false
namespace Go.Proofs.Ytfapipblclikbaa
open Go Go.Ev Go.ChangeShapes Go.WideShapes Go.ChangeAt Go.RowKit

theorem magTwo_f1 : (Rows.magTwoRow.inPlace == Try.prog.inPlace 17) = true := by kernel_rfl
theorem magTwo_f2 : (Rows.magTwoRow.unfollowed == Try.prog.unfollowed 17) = true := by kernel_rfl
theorem magTwo_f3 : (Rows.magTwoRow.recurses == Try.prog.recurses 17) = true := by kernel_rfl
theorem magTwo_f4 : (Rows.magTwoRow.named == Try.prog.varsNamed 17) = true := by kernel_rfl
theorem magTwo_facts : joinedFacts Try.prog 17 Try.f17 Rows.magTwoSpec Rows.magTwoRow = true := by
  unfold joinedFacts
  rw [whole_enter, whole_lifts, whole_make, whole_stops, magTwo_f1, magTwo_f2, magTwo_f3, magTwo_f4]
  kernel_rfl

set_option maxRecDepth 100000 in
theorem magTwo_lifted (os : Os) (started : os.Started) (H : Type) (enc : TypeId × Value → H) :
    ReturnsInHanded {} Try.checked os 17 .any (Rows.magTwoSpec.pre6 enc Try.prog Try.f17 Rows.magTwoRow.domain false) (Rows.magTwoSpec.post enc Try.prog Try.f17 false true false false) := by
  refine returnsInHanded_of_change (C := Try.checked) ownKnob_no started (by kernel_rfl) Try.func17
    (ChangeSpec.witness6 (enc := enc) (C := Try.checked) false ⟨#[], #[.slice none 0 0, .agg #[.int .u8 0, .int .u8 0], .slice none 0 0], []⟩ 8 (by kernel_rfl) (by kernel_rfl) (by kernel_rfl) (by kernel_rfl)) ?_
  intro W base args ds gs before hval hW _ _
  refine post_of_walk laidOut_yes (by kernel_rfl) (tb := 4) rfl (by kernel_rfl) rfl (fun ds hl => ?_) hW (fun hz => ?_)
  · obtain ⟨d0, d1, d2, rfl⟩ := list3 hl
    exact ⟨rfl, rfl, rfl⟩
  · obtain ⟨v0, v1, v2, rfl⟩ := arr3 hz
    obtain ⟨d0, p0, hd0⟩ := whole_nth hW (j := 0) rfl rfl
    obtain ⟨a0, n0, c0, z0, rfl, hn0, hr0, hu0⟩ := ints_of (P := Try.prog) (e := 26) (k := .u64) (by kernel_rfl) (by kernel_rfl) (by kernel_rfl) (hval 0 _ v0 rfl rfl) hd0
    obtain ⟨x1_0, x1_1, rfl, h1_0, h1_1⟩ := ints2_of_ok (P := Try.prog) (t0 := 5) (k0 := .u8) (t1 := 5) (k1 := .u8) (by kernel_rfl) (by kernel_rfl) (by kernel_rfl) (by kernel_rfl) (by kernel_rfl) (hval 1 _ v1 rfl rfl)
    obtain ⟨d2, p2, hd2⟩ := whole_nth hW (j := 2) rfl rfl
    obtain ⟨a2, n2, c2, z2, rfl, hn2, hr2⟩ := bools_of (P := Try.prog) (e := 4) (by kernel_rfl) (by kernel_rfl) (by kernel_rfl) (hval 2 _ v2 rfl rfl) hd2
    exact Ends.of_call (l_magtwo hn0 hr0 hu0 x1_0 x1_1 (u8_bd h1_0) (u8_bd h1_1) hn2 hr2)

theorem magTwo_holds : Rows.MagTwoSaid :=
  OpenClaim.holds_of_wide 17 Try.f17 rfl rfl rfl rfl rfl rfl rfl ⟨rfl, rfl, rfl, rfl, rfl⟩ rfl rfl rfl rfl rfl (by kernel_rfl) Try.func17 magTwo_facts
    (of_decide_eq_true (by kernel_rfl)) (by unfold Func.isWrapper; rw [if_neg (by decide +kernel)]; exact ⟨rfl, rfl⟩)
    (fun os started H enc _ => magTwo_lifted os started H enc)

end Go.Proofs.Ytfapipblclikbaa
