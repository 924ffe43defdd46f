/-
  The statement: 'RenewTwo' answers true: of two that renew the same block at the same time at most one does, however they take turns; behind both there is just one block in place of it, or it is as it was. Conditions: none.
-/
import Derived.Test.YtjmlapagmbldoaaGreatLawRenewTwo
import Derived.Test.YtjmlapagmbldoaaGreatWhole
import Derived.Test.YtjmlapagmbldoaaGreatRowV
set_option linter.unusedVariables false
set_option linter.unusedSimpArgs false
namespace Go.Proofs.YtjmlapagmbldoaaGreat
open Go Go.Ev Go.ChangeShapes Go.WideShapes Go.ChangeAt Go.RowKit

theorem renewTwo_f1 : (Rows.renewTwoRow.inPlace == Tryz.prog.inPlace 3) = true := by kernel_rfl
theorem renewTwo_f2 : (Rows.renewTwoRow.unfollowed == Tryz.prog.unfollowed 3) = true := by kernel_rfl
theorem renewTwo_f3 : (Rows.renewTwoRow.recurses == Tryz.prog.recurses 3) = true := by kernel_rfl
theorem renewTwo_f4 : (Rows.renewTwoRow.named == Tryz.prog.varsNamed 3) = true := by kernel_rfl
theorem renewTwo_facts : joinedFacts Tryz.prog 3 Tryz.f3 Rows.renewTwoSpec Rows.renewTwoRow = true := by
  unfold joinedFacts
  rw [whole_enter, whole_lifts, whole_make, whole_stops, renewTwo_f1, renewTwo_f2, renewTwo_f3, renewTwo_f4]
  kernel_rfl

set_option maxRecDepth 100000 in
theorem renewTwo_lifted (os : Os) (started : os.Started) (H : Type) (enc : TypeId × Value → H) :
    ReturnsInHanded {} Tryz.checked os 3 .any (Rows.renewTwoSpec.pre6 enc Tryz.prog Tryz.f3 Rows.renewTwoRow.domain false) (Rows.renewTwoSpec.post enc Tryz.prog Tryz.f3 false true false false) := by
  refine returnsInHanded_of_change (C := Tryz.checked) ownKnob_no started (by kernel_rfl) Tryz.func3
    (ChangeSpec.witness6 (enc := enc) (C := Tryz.checked) false ⟨#[], #[.int .u8 0, .agg #[.int .u16 0, .int .u16 0], .slice none 0 0], []⟩ 8 (by kernel_rfl) (by kernel_rfl) (by kernel_rfl) (by kernel_rfl)) ?_
  intro W base args ds gs before hval hW _ _
  refine post_of_walk laidOut_yes (by kernel_rfl) (tb := 4) rfl (by kernel_rfl) rfl (fun ds hl => ?_) hW (fun hz => ?_)
  · obtain ⟨d0, d1, d2, rfl⟩ := list3 hl
    exact ⟨rfl, rfl, rfl⟩
  · obtain ⟨v0, v1, v2, rfl⟩ := arr3 hz
    obtain ⟨a0, rfl, h0⟩ := int_of_okv (P := Tryz.prog) (t := 5) (k := .u8) (by kernel_rfl) (hval 0 _ v0 rfl rfl)
    obtain ⟨x1_0, x1_1, rfl, h1_0, h1_1⟩ := ints2_of_ok (P := Tryz.prog) (t0 := 22) (k0 := .u16) (t1 := 22) (k1 := .u16) (by kernel_rfl) (by kernel_rfl) (by kernel_rfl) (by kernel_rfl) (by kernel_rfl) (hval 1 _ v1 rfl rfl)
    obtain ⟨d2, p2, hd2⟩ := whole_nth hW (j := 2) rfl rfl
    obtain ⟨a2, n2, c2, z2, rfl, hn2, hr2⟩ := bools_of (P := Tryz.prog) (e := 4) (by kernel_rfl) (by kernel_rfl) (by kernel_rfl) (hval 2 _ v2 rfl rfl) hd2
    exact Ends.of_call (l_renewtwo a0 (u8_bd h0) x1_0 x1_1 (u16_bd h1_0) (u16_bd h1_1) hn2 hr2)

theorem renewTwo_holds : Rows.RenewTwoSaid :=
  OpenClaim.holds_of_wide 3 Tryz.f3 rfl rfl rfl rfl rfl rfl rfl ⟨rfl, rfl, rfl, rfl, rfl⟩ rfl rfl rfl rfl rfl (by kernel_rfl) Tryz.func3 renewTwo_facts
    (of_decide_eq_true (by kernel_rfl)) (by unfold Func.isWrapper; rw [if_neg (by decide +kernel)]; exact ⟨rfl, rfl⟩)
    (fun os started H enc _ => renewTwo_lifted os started H enc)

end Go.Proofs.YtjmlapagmbldoaaGreat
