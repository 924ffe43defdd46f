/-
  The statement: 'PageTurns' answers true: who is the only one left goes on as it would alone. Conditions: none.
-/
import Derived.Test.YtfapipblclikbaaLawPageTurns
import Derived.Test.YtfapipblclikbaaWhole
set_option linter.unusedVariables false
set_option linter.unusedSimpArgs false
namespace Go.Proofs.Ytfapipblclikbaa
open Go Go.Ev Go.ChangeShapes Go.WideShapes Go.ChangeAt Go.RowKit

theorem pageTurns_f1 : (Rows.pageTurnsRow.inPlace == Try.prog.inPlace 10) = true := by kernel_rfl
theorem pageTurns_f2 : (Rows.pageTurnsRow.unfollowed == Try.prog.unfollowed 10) = true := by kernel_rfl
theorem pageTurns_f3 : (Rows.pageTurnsRow.recurses == Try.prog.recurses 10) = true := by kernel_rfl
theorem pageTurns_f4 : (Rows.pageTurnsRow.named == Try.prog.varsNamed 10) = true := by kernel_rfl
theorem pageTurns_facts : joinedFacts Try.prog 10 Try.f10 Rows.pageTurnsSpec Rows.pageTurnsRow = true := by
  unfold joinedFacts
  rw [whole_enter, whole_lifts, whole_make, whole_stops, pageTurns_f1, pageTurns_f2, pageTurns_f3, pageTurns_f4]
  kernel_rfl

set_option maxRecDepth 100000 in
theorem pageTurns_lifted (os : Os) (started : os.Started) (H : Type) (enc : TypeId × Value → H) :
    ReturnsInHanded {} Try.checked os 10 .any (Rows.pageTurnsSpec.pre6 enc Try.prog Try.f10 Rows.pageTurnsRow.domain false) (Rows.pageTurnsSpec.post enc Try.prog Try.f10 false true false false) := by
  refine returnsInHanded_of_change (C := Try.checked) ownKnob_no started (by kernel_rfl) Try.func10
    (ChangeSpec.witness6 (enc := enc) (C := Try.checked) false ⟨#[], #[.int .u8 0, .int .u8 0, .agg #[.int .u8 0, .int .u8 0]], []⟩ 8 (by kernel_rfl) (by kernel_rfl) (by kernel_rfl) (by kernel_rfl)) ?_
  intro W base args ds gs before hval hW _ _
  refine post_of_walk laidOut_yes (by kernel_rfl) (tb := 4) rfl (by kernel_rfl) rfl (fun ds hl => ?_) hW (fun hz => ?_)
  · obtain ⟨d0, d1, d2, rfl⟩ := list3 hl
    exact ⟨rfl, rfl, rfl⟩
  · obtain ⟨v0, v1, v2, rfl⟩ := arr3 hz
    obtain ⟨a0, rfl, h0⟩ := int_of_okv (P := Try.prog) (t := 5) (k := .u8) (by kernel_rfl) (hval 0 _ v0 rfl rfl)
    obtain ⟨a1, rfl, h1⟩ := int_of_okv (P := Try.prog) (t := 5) (k := .u8) (by kernel_rfl) (hval 1 _ v1 rfl rfl)
    obtain ⟨x2_0, x2_1, rfl, h2_0, h2_1⟩ := ints2_of_ok (P := Try.prog) (t0 := 5) (k0 := .u8) (t1 := 5) (k1 := .u8) (by kernel_rfl) (by kernel_rfl) (by kernel_rfl) (by kernel_rfl) (by kernel_rfl) (hval 2 _ v2 rfl rfl)
    exact Ends.of_call (l_pageturns a0 (u8_bd h0) a1 (u8_bd h1) x2_0 x2_1 (u8_bd h2_0) (u8_bd h2_1))

theorem pageTurns_holds : Rows.PageTurnsSaid :=
  OpenClaim.holds_of_wide 10 Try.f10 rfl rfl rfl rfl rfl rfl rfl ⟨rfl, rfl, rfl, rfl, rfl⟩ rfl rfl rfl rfl rfl (by kernel_rfl) Try.func10 pageTurns_facts
    (of_decide_eq_true (by kernel_rfl)) (by unfold Func.isWrapper; rw [if_neg (by decide +kernel)]; exact ⟨rfl, rfl⟩)
    (fun os started H enc _ => pageTurns_lifted os started H enc)

end Go.Proofs.Ytfapipblclikbaa
