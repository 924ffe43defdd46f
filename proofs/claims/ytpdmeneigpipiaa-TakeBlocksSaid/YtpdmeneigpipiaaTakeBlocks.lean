/-
  The statement: 'TakeBlocks' answers true: each block has its place and its length: slots of one page lie one beside the other, and fill it. Conditions: none.
-/
import Derived.Test.YtpdmeneigpipiaaLawTakeBlocks
import Derived.Test.YtpdmeneigpipiaaWhole
set_option linter.unusedVariables false
set_option linter.unusedSimpArgs false
namespace Go.Proofs.Ytpdmeneigpipiaa
open Go Go.Ev Go.ChangeShapes Go.WideShapes Go.ChangeAt Go.RowKit

theorem takeBlocks_f1 : (Rows.takeBlocksRow.inPlace == Try.prog.inPlace 4) = true := by kernel_rfl
theorem takeBlocks_f2 : (Rows.takeBlocksRow.unfollowed == Try.prog.unfollowed 4) = true := by kernel_rfl
theorem takeBlocks_f3 : (Rows.takeBlocksRow.recurses == Try.prog.recurses 4) = true := by kernel_rfl
theorem takeBlocks_f4 : (Rows.takeBlocksRow.named == Try.prog.varsNamed 4) = true := by kernel_rfl
theorem takeBlocks_facts : joinedFacts Try.prog 4 Try.f4 Rows.takeBlocksSpec Rows.takeBlocksRow = true := by
  unfold joinedFacts
  rw [whole_enter, whole_lifts, whole_make, whole_stops, takeBlocks_f1, takeBlocks_f2, takeBlocks_f3, takeBlocks_f4]
  kernel_rfl

set_option maxRecDepth 100000 in
theorem takeBlocks_lifted (os : Os) (started : os.Started) (H : Type) (enc : TypeId × Value → H) :
    ReturnsInHanded {} Try.checked os 4 .any (Rows.takeBlocksSpec.pre6 enc Try.prog Try.f4 Rows.takeBlocksRow.domain false) (Rows.takeBlocksSpec.post enc Try.prog Try.f4 false true false false) := by
  refine returnsInHanded_of_change (C := Try.checked) ownKnob_no started (by kernel_rfl) Try.func4
    (ChangeSpec.witness6 (enc := enc) (C := Try.checked) false ⟨#[], #[.int .u8 0, .int .u8 0, .int .u8 0], []⟩ 8 (by kernel_rfl) (by kernel_rfl) (by kernel_rfl) (by kernel_rfl)) ?_
  intro W base args ds gs before hval hW _ _
  refine post_of_walk laidOut_yes (by kernel_rfl) (tb := 4) rfl (by kernel_rfl) rfl (fun ds hl => ?_) hW (fun hz => ?_)
  · obtain ⟨d0, d1, d2, rfl⟩ := list3 hl
    exact ⟨rfl, rfl, rfl⟩
  · obtain ⟨v0, v1, v2, rfl⟩ := arr3 hz
    obtain ⟨a0, rfl, h0⟩ := int_of_okv (P := Try.prog) (t := 5) (k := .u8) (by kernel_rfl) (hval 0 _ v0 rfl rfl)
    obtain ⟨a1, rfl, h1⟩ := int_of_okv (P := Try.prog) (t := 5) (k := .u8) (by kernel_rfl) (hval 1 _ v1 rfl rfl)
    obtain ⟨a2, rfl, h2⟩ := int_of_okv (P := Try.prog) (t := 5) (k := .u8) (by kernel_rfl) (hval 2 _ v2 rfl rfl)
    exact Ends.of_call (l_takeblocks a0 (u8_bd h0) a1 (u8_bd h1) a2 (u8_bd h2))

theorem takeBlocks_holds : Rows.TakeBlocksSaid :=
  OpenClaim.holds_of_wide 4 Try.f4 rfl rfl rfl rfl rfl rfl rfl ⟨rfl, rfl, rfl, rfl, rfl⟩ rfl rfl rfl rfl rfl (by kernel_rfl) Try.func4 takeBlocks_facts
    (of_decide_eq_true (by kernel_rfl)) (by unfold Func.isWrapper; rw [if_neg (by decide +kernel)]; exact ⟨rfl, rfl⟩)
    (fun os started H enc _ => takeBlocks_lifted os started H enc)

end Go.Proofs.Ytpdmeneigpipiaa
