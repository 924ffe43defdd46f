/-
  The statement: 'SlotLoses' answers true: where another one takes each slot between the look and the swap a claimer finds none. Conditions: none.
-/
import Derived.Test.YtfapipblclikbaaLawSlotLoses
import Derived.Test.YtfapipblclikbaaWhole
set_option linter.unusedVariables false
set_option linter.unusedSimpArgs false
namespace Go.Proofs.Ytfapipblclikbaa
open Go Go.Ev Go.ChangeShapes Go.WideShapes Go.ChangeAt Go.RowKit

theorem slotLoses_f1 : (Rows.slotLosesRow.inPlace == Try.prog.inPlace 21) = true := by kernel_rfl
theorem slotLoses_f2 : (Rows.slotLosesRow.unfollowed == Try.prog.unfollowed 21) = true := by kernel_rfl
theorem slotLoses_f3 : (Rows.slotLosesRow.recurses == Try.prog.recurses 21) = true := by kernel_rfl
theorem slotLoses_f4 : (Rows.slotLosesRow.named == Try.prog.varsNamed 21) = true := by kernel_rfl
theorem slotLoses_facts : joinedFacts Try.prog 21 Try.f21 Rows.slotLosesSpec Rows.slotLosesRow = true := by
  unfold joinedFacts
  rw [whole_enter, whole_lifts, whole_make, whole_stops, slotLoses_f1, slotLoses_f2, slotLoses_f3, slotLoses_f4]
  kernel_rfl

set_option maxRecDepth 100000 in
theorem slotLoses_lifted (os : Os) (started : os.Started) (H : Type) (enc : TypeId × Value → H) :
    ReturnsInHanded {} Try.checked os 21 .any (Rows.slotLosesSpec.pre6 enc Try.prog Try.f21 Rows.slotLosesRow.domain false) (Rows.slotLosesSpec.post enc Try.prog Try.f21 false true false false) := by
  refine returnsInHanded_of_change (C := Try.checked) ownKnob_no started (by kernel_rfl) Try.func21
    (ChangeSpec.witness6 (enc := enc) (C := Try.checked) false ⟨#[], #[.int .u8 0, .int .u16 0], []⟩ 8 (by kernel_rfl) (by kernel_rfl) (by kernel_rfl) (by kernel_rfl)) ?_
  intro W base args ds gs before hval hW _ _
  refine post_of_walk laidOut_yes (by kernel_rfl) (tb := 4) rfl (by kernel_rfl) rfl (fun ds hl => ?_) hW (fun hz => ?_)
  · obtain ⟨d0, d1, rfl⟩ := list2 hl
    exact ⟨rfl, rfl, rfl⟩
  · obtain ⟨v0, v1, rfl⟩ := arr2 hz
    obtain ⟨a0, rfl, h0⟩ := int_of_okv (P := Try.prog) (t := 5) (k := .u8) (by kernel_rfl) (hval 0 _ v0 rfl rfl)
    obtain ⟨a1, rfl, h1⟩ := int_of_okv (P := Try.prog) (t := 82) (k := .u16) (by kernel_rfl) (hval 1 _ v1 rfl rfl)
    exact Ends.of_call (l_slotloses a0 (u8_bd h0) a1 (u16_bd h1))

theorem slotLoses_holds : Rows.SlotLosesSaid :=
  OpenClaim.holds_of_wide 21 Try.f21 rfl rfl rfl rfl rfl rfl rfl ⟨rfl, rfl, rfl, rfl, rfl⟩ rfl rfl rfl rfl rfl (by kernel_rfl) Try.func21 slotLoses_facts
    (of_decide_eq_true (by kernel_rfl)) (by unfold Func.isWrapper; rw [if_neg (by decide +kernel)]; exact ⟨rfl, rfl⟩)
    (fun os started H enc _ => slotLoses_lifted os started H enc)

end Go.Proofs.Ytfapipblclikbaa
