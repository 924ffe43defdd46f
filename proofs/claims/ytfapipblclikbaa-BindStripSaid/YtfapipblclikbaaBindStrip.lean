/-
  The statement: 'BindStrip' answers true: a page that was bound, its first slot given back, can be stripped and bound to any other class. Conditions: none.
-/
import Derived.Test.YtfapipblclikbaaLawBindStrip
import Derived.Test.YtfapipblclikbaaWhole
set_option linter.unusedVariables false
set_option linter.unusedSimpArgs false
namespace Go.Proofs.Ytfapipblclikbaa
open Go Go.Ev Go.ChangeShapes Go.WideShapes Go.ChangeAt Go.RowKit

theorem bindStrip_f1 : (Rows.bindStripRow.inPlace == Try.prog.inPlace 27) = true := by kernel_rfl
theorem bindStrip_f2 : (Rows.bindStripRow.unfollowed == Try.prog.unfollowed 27) = true := by kernel_rfl
theorem bindStrip_f3 : (Rows.bindStripRow.recurses == Try.prog.recurses 27) = true := by kernel_rfl
theorem bindStrip_f4 : (Rows.bindStripRow.named == Try.prog.varsNamed 27) = true := by kernel_rfl
theorem bindStrip_facts : joinedFacts Try.prog 27 Try.f27 Rows.bindStripSpec Rows.bindStripRow = true := by
  unfold joinedFacts
  rw [whole_enter, whole_lifts, whole_make, whole_stops, bindStrip_f1, bindStrip_f2, bindStrip_f3, bindStrip_f4]
  kernel_rfl

set_option maxRecDepth 100000 in
theorem bindStrip_lifted (os : Os) (started : os.Started) (H : Type) (enc : TypeId × Value → H) :
    ReturnsInHanded {} Try.checked os 27 .any (Rows.bindStripSpec.pre6 enc Try.prog Try.f27 Rows.bindStripRow.domain false) (Rows.bindStripSpec.post enc Try.prog Try.f27 false true false false) := by
  refine returnsInHanded_of_change (C := Try.checked) ownKnob_no started (by kernel_rfl) Try.func27
    (ChangeSpec.witness6 (enc := enc) (C := Try.checked) false ⟨#[], #[.int .u8 0, .int .u8 0], []⟩ 8 (by kernel_rfl) (by kernel_rfl) (by kernel_rfl) (by kernel_rfl)) ?_
  intro W base args ds gs before hval hW _ _
  refine post_of_walk laidOut_yes (by kernel_rfl) (tb := 4) rfl (by kernel_rfl) rfl (fun ds hl => ?_) hW (fun hz => ?_)
  · obtain ⟨d0, d1, rfl⟩ := list2 hl
    exact ⟨rfl, rfl, rfl⟩
  · obtain ⟨v0, v1, rfl⟩ := arr2 hz
    obtain ⟨a0, rfl, h0⟩ := int_of_okv (P := Try.prog) (t := 5) (k := .u8) (by kernel_rfl) (hval 0 _ v0 rfl rfl)
    obtain ⟨a1, rfl, h1⟩ := int_of_okv (P := Try.prog) (t := 5) (k := .u8) (by kernel_rfl) (hval 1 _ v1 rfl rfl)
    exact Ends.of_call (l_bindstrip a0 (u8_bd h0) a1 (u8_bd h1))

theorem bindStrip_holds : Rows.BindStripSaid :=
  OpenClaim.holds_of_wide 27 Try.f27 rfl rfl rfl rfl rfl rfl rfl ⟨rfl, rfl, rfl, rfl, rfl⟩ rfl rfl rfl rfl rfl (by kernel_rfl) Try.func27 bindStrip_facts
    (of_decide_eq_true (by kernel_rfl)) (by unfold Func.isWrapper; rw [if_neg (by decide +kernel)]; exact ⟨rfl, rfl⟩)
    (fun os started H enc _ => bindStrip_lifted os started H enc)

end Go.Proofs.Ytfapipblclikbaa
