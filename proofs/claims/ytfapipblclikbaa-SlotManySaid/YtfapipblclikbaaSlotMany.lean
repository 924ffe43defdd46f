/-
  The statement: 'SlotMany' answers true: of many that look for a slot of a class at the same time, however they take turns, no two get the same one; as many get one as there are open ones, or all. Conditions: none.
-/
import Derived.Test.YtfapipblclikbaaLawSlotMany
import Derived.Test.YtfapipblclikbaaWhole
set_option linter.unusedVariables false
set_option linter.unusedSimpArgs false
namespace Go.Proofs.Ytfapipblclikbaa
open Go Go.Ev Go.ChangeShapes Go.WideShapes Go.ChangeAt Go.RowKit

theorem slotMany_f1 : (Rows.slotManyRow.inPlace == Try.prog.inPlace 22) = true := by kernel_rfl
theorem slotMany_f2 : (Rows.slotManyRow.unfollowed == Try.prog.unfollowed 22) = true := by kernel_rfl
theorem slotMany_f3 : (Rows.slotManyRow.recurses == Try.prog.recurses 22) = true := by kernel_rfl
theorem slotMany_f4 : (Rows.slotManyRow.named == Try.prog.varsNamed 22) = true := by kernel_rfl
theorem slotMany_facts : joinedFacts Try.prog 22 Try.f22 Rows.slotManySpec Rows.slotManyRow = true := by
  unfold joinedFacts
  rw [whole_enter, whole_lifts, whole_make, whole_stops, slotMany_f1, slotMany_f2, slotMany_f3, slotMany_f4]
  kernel_rfl

set_option maxRecDepth 100000 in
theorem slotMany_lifted (os : Os) (started : os.Started) (H : Type) (enc : TypeId × Value → H) :
    ReturnsInHanded {} Try.checked os 22 .any (Rows.slotManySpec.pre6 enc Try.prog Try.f22 Rows.slotManyRow.domain false) (Rows.slotManySpec.post enc Try.prog Try.f22 false true false false) := by
  refine returnsInHanded_of_change (C := Try.checked) ownKnob_no started (by kernel_rfl) Try.func22
    (ChangeSpec.witness6 (enc := enc) (C := Try.checked) false ⟨#[], #[.int .u16 0, .agg #[.int .u8 0, .int .u8 0], .slice none 0 0], []⟩ 8 (by kernel_rfl) (by kernel_rfl) (by kernel_rfl) (by kernel_rfl)) ?_
  intro W base args ds gs before hval hW _ _
  refine post_of_walk laidOut_yes (by kernel_rfl) (tb := 4) rfl (by kernel_rfl) rfl (fun ds hl => ?_) hW (fun hz => ?_)
  · obtain ⟨d0, d1, d2, rfl⟩ := list3 hl
    exact ⟨rfl, rfl, rfl⟩
  · obtain ⟨v0, v1, v2, rfl⟩ := arr3 hz
    obtain ⟨a0, rfl, h0⟩ := int_of_okv (P := Try.prog) (t := 82) (k := .u16) (by kernel_rfl) (hval 0 _ v0 rfl rfl)
    obtain ⟨x1_0, x1_1, rfl, h1_0, h1_1⟩ := ints2_of_ok (P := Try.prog) (t0 := 5) (k0 := .u8) (t1 := 5) (k1 := .u8) (by kernel_rfl) (by kernel_rfl) (by kernel_rfl) (by kernel_rfl) (by kernel_rfl) (hval 1 _ v1 rfl rfl)
    obtain ⟨d2, p2, hd2⟩ := whole_nth hW (j := 2) rfl rfl
    obtain ⟨a2, n2, c2, z2, rfl, hn2, hr2, hu2⟩ := ints_of (P := Try.prog) (e := 5) (k := .u8) (by kernel_rfl) (by kernel_rfl) (by kernel_rfl) (hval 2 _ v2 rfl rfl) hd2
    exact Ends.of_call (l_slotmany a0 (u16_bd h0) x1_0 x1_1 (u8_bd h1_0) (u8_bd h1_1) hn2 hr2 hu2)

theorem slotMany_holds : Rows.SlotManySaid :=
  OpenClaim.holds_of_wide 22 Try.f22 rfl rfl rfl rfl rfl rfl rfl ⟨rfl, rfl, rfl, rfl, rfl⟩ rfl rfl rfl rfl rfl (by kernel_rfl) Try.func22 slotMany_facts
    (of_decide_eq_true (by kernel_rfl)) (by unfold Func.isWrapper; rw [if_neg (by decide +kernel)]; exact ⟨rfl, rfl⟩)
    (fun os started H enc _ => slotMany_lifted os started H enc)

end Go.Proofs.Ytfapipblclikbaa
