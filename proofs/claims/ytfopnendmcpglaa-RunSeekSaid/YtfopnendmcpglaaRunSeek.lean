/-
  The statement: 'RunSeek' answers true: of one that looks for a row of pages and one that looks for a slot at the same time, however they take turns, neither has a word of the other; one of them finds what it looks for, if the heap is empty and great enough. Conditions: none.
-/
import Derived.Test.YtfopnendmcpglaaLawRunSeek
import Derived.Test.YtfopnendmcpglaaWhole
import Derived.Test.YtfopnendmcpglaaRowV
set_option linter.unusedVariables false
set_option linter.unusedSimpArgs false
namespace Go.Proofs.Ytfopnendmcpglaa
open Go Go.Ev Go.ChangeShapes Go.WideShapes Go.ChangeAt Go.RowKit

theorem runSeek_f1 : (Rows.runSeekRow.inPlace == Try.prog.inPlace 11) = true := by kernel_rfl
theorem runSeek_f2 : (Rows.runSeekRow.unfollowed == Try.prog.unfollowed 11) = true := by kernel_rfl
theorem runSeek_f3 : (Rows.runSeekRow.recurses == Try.prog.recurses 11) = true := by kernel_rfl
theorem runSeek_f4 : (Rows.runSeekRow.named == Try.prog.varsNamed 11) = true := by kernel_rfl
theorem runSeek_facts : joinedFacts Try.prog 11 Try.f11 Rows.runSeekSpec Rows.runSeekRow = true := by
  unfold joinedFacts
  rw [whole_enter, whole_lifts, whole_make, whole_stops, runSeek_f1, runSeek_f2, runSeek_f3, runSeek_f4]
  kernel_rfl

set_option maxRecDepth 100000 in
theorem runSeek_lifted (os : Os) (started : os.Started) (H : Type) (enc : TypeId × Value → H) :
    ReturnsInHanded {} Try.checked os 11 .any (Rows.runSeekSpec.pre6 enc Try.prog Try.f11 Rows.runSeekRow.domain false) (Rows.runSeekSpec.post enc Try.prog Try.f11 false true false false) := by
  refine returnsInHanded_of_change (C := Try.checked) ownKnob_no started (by kernel_rfl) Try.func11
    (ChangeSpec.witness6 (enc := enc) (C := Try.checked) false ⟨#[], #[.int .u8 0, .agg #[.int .u8 0, .int .u8 0], .slice none 0 0], []⟩ 8 (by kernel_rfl) (by kernel_rfl) (by kernel_rfl) (by kernel_rfl)) ?_
  intro W base args ds gs before hval hW _ _
  refine post_of_walk laidOut_yes (by kernel_rfl) (tb := 4) rfl (by kernel_rfl) rfl (fun ds hl => ?_) hW (fun hz => ?_)
  · obtain ⟨d0, d1, d2, rfl⟩ := list3 hl
    exact ⟨rfl, rfl, rfl⟩
  · obtain ⟨v0, v1, v2, rfl⟩ := arr3 hz
    obtain ⟨a0, rfl, h0⟩ := int_of_okv (P := Try.prog) (t := 5) (k := .u8) (by kernel_rfl) (hval 0 _ v0 rfl rfl)
    obtain ⟨x1_0, x1_1, rfl, h1_0, h1_1⟩ := ints2_of_ok (P := Try.prog) (t0 := 5) (k0 := .u8) (t1 := 5) (k1 := .u8) (by kernel_rfl) (by kernel_rfl) (by kernel_rfl) (by kernel_rfl) (by kernel_rfl) (hval 1 _ v1 rfl rfl)
    obtain ⟨d2, p2, hd2⟩ := whole_nth hW (j := 2) rfl rfl
    obtain ⟨a2, n2, c2, z2, rfl, hn2, hr2⟩ := bools_of (P := Try.prog) (e := 4) (by kernel_rfl) (by kernel_rfl) (by kernel_rfl) (hval 2 _ v2 rfl rfl) hd2
    exact Ends.of_call (l_runseek a0 (u8_bd h0) x1_0 x1_1 (u8_bd h1_0) (u8_bd h1_1) hn2 hr2)

theorem runSeek_holds : Rows.RunSeekSaid :=
  OpenClaim.holds_of_wide 11 Try.f11 rfl rfl rfl rfl rfl rfl rfl ⟨rfl, rfl, rfl, rfl, rfl⟩ rfl rfl rfl rfl rfl (by kernel_rfl) Try.func11 runSeek_facts
    (of_decide_eq_true (by kernel_rfl)) (by unfold Func.isWrapper; rw [if_neg (by decide +kernel)]; exact ⟨rfl, rfl⟩)
    (fun os started H enc _ => runSeek_lifted os started H enc)

end Go.Proofs.Ytfopnendmcpglaa
