/-
  The statement: 'AdoptTwo' answers true: of two that adopt the same dead one, whatever their turns, just one does; the other is told that it is busy, or done. Conditions: none.
-/
import Derived.Test.YtbehnodllajnjaaLawAdoptTwo
import Derived.Test.YtbehnodllajnjaaWhole
import Derived.Test.YtbehnodllajnjaaRowV
set_option linter.unusedVariables false
set_option linter.unusedSimpArgs false
namespace Go.Proofs.Ytbehnodllajnjaa
open Go Go.Ev Go.ChangeShapes Go.WideShapes Go.ChangeAt Go.RowKit

theorem adoptTwo_f1 : (Rows.adoptTwoRow.inPlace == Try.prog.inPlace 11) = true := by kernel_rfl
theorem adoptTwo_f2 : (Rows.adoptTwoRow.unfollowed == Try.prog.unfollowed 11) = true := by kernel_rfl
theorem adoptTwo_f3 : (Rows.adoptTwoRow.recurses == Try.prog.recurses 11) = true := by kernel_rfl
theorem adoptTwo_f4 : (Rows.adoptTwoRow.named == Try.prog.varsNamed 11) = true := by kernel_rfl
theorem adoptTwo_facts : joinedFacts Try.prog 11 Try.f11 Rows.adoptTwoSpec Rows.adoptTwoRow = true := by
  unfold joinedFacts
  rw [whole_enter, whole_lifts, whole_make, whole_stops, adoptTwo_f1, adoptTwo_f2, adoptTwo_f3, adoptTwo_f4]
  kernel_rfl

set_option maxRecDepth 100000 in
theorem adoptTwo_lifted (os : Os) (started : os.Started) (H : Type) (enc : TypeId × Value → H) :
    ReturnsInHanded {} Try.checked os 11 .any (Rows.adoptTwoSpec.pre6 enc Try.prog Try.f11 Rows.adoptTwoRow.domain false) (Rows.adoptTwoSpec.post enc Try.prog Try.f11 false true false false) := by
  refine returnsInHanded_of_change (C := Try.checked) ownKnob_no started (by kernel_rfl) Try.func11
    (ChangeSpec.witness6 (enc := enc) (C := Try.checked) false ⟨#[], #[.agg #[.int .i64 0, .int .i64 0, .int .i64 0], .slice none 0 0, .slice none 0 0], []⟩ 8 (by kernel_rfl) (by kernel_rfl) (by kernel_rfl) (by kernel_rfl)) ?_
  intro W base args ds gs before hval hW _ _
  refine post_of_walk laidOut_yes (by kernel_rfl) (tb := 4) rfl (by kernel_rfl) rfl (fun ds hl => ?_) hW (fun hz => ?_)
  · obtain ⟨d0, d1, d2, rfl⟩ := list3 hl
    exact ⟨rfl, rfl, rfl⟩
  · obtain ⟨v0, v1, v2, rfl⟩ := arr3 hz
    obtain ⟨x0_0, x0_1, x0_2, rfl, h0_0, h0_1, h0_2⟩ := ints3_of_ok (P := Try.prog) (t0 := 3) (k0 := .i64) (t1 := 3) (k1 := .i64) (t2 := 3) (k2 := .i64) (by kernel_rfl) (by kernel_rfl) (by kernel_rfl) (by kernel_rfl) (by kernel_rfl) (by kernel_rfl) (hval 0 _ v0 rfl rfl)
    obtain ⟨d1, p1, hd1⟩ := whole_nth hW (j := 1) rfl rfl
    obtain ⟨a1, n1, c1, z1, rfl, hn1, hr1, hu1⟩ := ints_of (P := Try.prog) (e := 29) (k := .u64) (by kernel_rfl) (by kernel_rfl) (by kernel_rfl) (hval 1 _ v1 rfl rfl) hd1
    obtain ⟨d2, p2, hd2⟩ := whole_nth hW (j := 2) rfl rfl
    obtain ⟨a2, n2, c2, z2, rfl, hn2, hr2⟩ := bools_of (P := Try.prog) (e := 4) (by kernel_rfl) (by kernel_rfl) (by kernel_rfl) (hval 2 _ v2 rfl rfl) hd2
    exact Ends.of_call (l_adopttwo x0_0 x0_1 x0_2 (i64_bd h0_0) (i64_bd h0_1) (i64_bd h0_2) hn1 hr1 hu1 hn2 hr2)

theorem adoptTwo_holds : Rows.AdoptTwoSaid :=
  OpenClaim.holds_of_wide 11 Try.f11 rfl rfl rfl rfl rfl rfl rfl ⟨rfl, rfl, rfl, rfl, rfl⟩ rfl rfl rfl rfl rfl (by kernel_rfl) Try.func11 adoptTwo_facts
    (of_decide_eq_true (by kernel_rfl)) (by unfold Func.isWrapper; rw [if_neg (by decide +kernel)]; exact ⟨rfl, rfl⟩)
    (fun os started H enc _ => adoptTwo_lifted os started H enc)

end Go.Proofs.Ytbehnodllajnjaa
