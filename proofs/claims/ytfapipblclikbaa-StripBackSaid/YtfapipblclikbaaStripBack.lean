/-
  The statement: 'StripBack' answers true: a page with any slot that is not open is not held, and its slots are as they were; who strips does a swap for each slot up to that, and a store for each that it gives back. Conditions: none.
-/
import Derived.Test.YtfapipblclikbaaLawStripBack
import Derived.Test.YtfapipblclikbaaWhole
set_option linter.unusedVariables false
set_option linter.unusedSimpArgs false
namespace Go.Proofs.Ytfapipblclikbaa
open Go Go.Ev Go.ChangeShapes Go.WideShapes Go.ChangeAt Go.RowKit

theorem stripBack_f1 : (Rows.stripBackRow.inPlace == Try.prog.inPlace 13) = true := by kernel_rfl
theorem stripBack_f2 : (Rows.stripBackRow.unfollowed == Try.prog.unfollowed 13) = true := by kernel_rfl
theorem stripBack_f3 : (Rows.stripBackRow.recurses == Try.prog.recurses 13) = true := by kernel_rfl
theorem stripBack_f4 : (Rows.stripBackRow.named == Try.prog.varsNamed 13) = true := by kernel_rfl
theorem stripBack_facts : joinedFacts Try.prog 13 Try.f13 Rows.stripBackSpec Rows.stripBackRow = true := by
  unfold joinedFacts
  rw [whole_enter, whole_lifts, whole_make, whole_stops, stripBack_f1, stripBack_f2, stripBack_f3, stripBack_f4]
  kernel_rfl

set_option maxRecDepth 100000 in
theorem stripBack_lifted (os : Os) (started : os.Started) (H : Type) (enc : TypeId × Value → H) :
    ReturnsInHanded {} Try.checked os 13 .any (Rows.stripBackSpec.pre6 enc Try.prog Try.f13 Rows.stripBackRow.domain false) (Rows.stripBackSpec.post enc Try.prog Try.f13 false true false false) := by
  refine returnsInHanded_of_change (C := Try.checked) ownKnob_no started (by kernel_rfl) Try.func13
    (ChangeSpec.witness6 (enc := enc) (C := Try.checked) false ⟨#[], #[.int .u8 0, .int .u16 0], []⟩ 8 (by kernel_rfl) (by kernel_rfl) (by kernel_rfl) (by kernel_rfl)) ?_
  intro W base args ds gs before hval hW _ _
  refine post_of_walk laidOut_yes (by kernel_rfl) (tb := 4) rfl (by kernel_rfl) rfl (fun ds hl => ?_) hW (fun hz => ?_)
  · obtain ⟨d0, d1, rfl⟩ := list2 hl
    exact ⟨rfl, rfl, rfl⟩
  · obtain ⟨v0, v1, rfl⟩ := arr2 hz
    obtain ⟨a0, rfl, h0⟩ := int_of_okv (P := Try.prog) (t := 5) (k := .u8) (by kernel_rfl) (hval 0 _ v0 rfl rfl)
    obtain ⟨a1, rfl, h1⟩ := int_of_okv (P := Try.prog) (t := 82) (k := .u16) (by kernel_rfl) (hval 1 _ v1 rfl rfl)
    exact Ends.of_call (l_stripback a0 (u8_bd h0) a1 (u16_bd h1))

theorem stripBack_holds : Rows.StripBackSaid :=
  OpenClaim.holds_of_wide 13 Try.f13 rfl rfl rfl rfl rfl rfl rfl ⟨rfl, rfl, rfl, rfl, rfl⟩ rfl rfl rfl rfl rfl (by kernel_rfl) Try.func13 stripBack_facts
    (of_decide_eq_true (by kernel_rfl)) (by unfold Func.isWrapper; rw [if_neg (by decide +kernel)]; exact ⟨rfl, rfl⟩)
    (fun os started H enc _ => stripBack_lifted os started H enc)

end Go.Proofs.Ytfapipblclikbaa
