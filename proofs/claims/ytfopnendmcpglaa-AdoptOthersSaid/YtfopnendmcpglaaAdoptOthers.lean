/-
  The statement: 'AdoptOthers' answers true: in a sound heap an adoption touches nothing that others hold, nor any block: their words are as they were. Conditions: none.
-/
import Derived.Test.YtfopnendmcpglaaLawAdoptOthers
import Derived.Test.YtfopnendmcpglaaWhole
set_option linter.unusedVariables false
set_option linter.unusedSimpArgs false
namespace Go.Proofs.Ytfopnendmcpglaa
open Go Go.Ev Go.ChangeShapes Go.WideShapes Go.ChangeAt Go.RowKit

theorem adoptOthers_f1 : (Rows.adoptOthersRow.inPlace == Try.prog.inPlace 6) = true := by kernel_rfl
theorem adoptOthers_f2 : (Rows.adoptOthersRow.unfollowed == Try.prog.unfollowed 6) = true := by kernel_rfl
theorem adoptOthers_f3 : (Rows.adoptOthersRow.recurses == Try.prog.recurses 6) = true := by kernel_rfl
theorem adoptOthers_f4 : (Rows.adoptOthersRow.named == Try.prog.varsNamed 6) = true := by kernel_rfl
theorem adoptOthers_facts : joinedFacts Try.prog 6 Try.f6 Rows.adoptOthersSpec Rows.adoptOthersRow = true := by
  unfold joinedFacts
  rw [whole_enter, whole_lifts, whole_make, whole_stops, adoptOthers_f1, adoptOthers_f2, adoptOthers_f3, adoptOthers_f4]
  kernel_rfl

set_option maxRecDepth 100000 in
theorem adoptOthers_lifted (os : Os) (started : os.Started) (H : Type) (enc : TypeId × Value → H) :
    ReturnsInHanded {} Try.checked os 6 .any (Rows.adoptOthersSpec.pre6 enc Try.prog Try.f6 Rows.adoptOthersRow.domain false) (Rows.adoptOthersSpec.post enc Try.prog Try.f6 false true false false) := by
  refine returnsInHanded_of_change (C := Try.checked) ownKnob_no started (by kernel_rfl) Try.func6
    (ChangeSpec.witness6 (enc := enc) (C := Try.checked) false ⟨#[], #[.agg #[.int .i64 0, .int .i64 0, .int .i64 0], .slice none 0 0], []⟩ 8 (by kernel_rfl) (by kernel_rfl) (by kernel_rfl) (by kernel_rfl)) ?_
  intro W base args ds gs before hval hW _ _
  refine post_of_walk laidOut_yes (by kernel_rfl) (tb := 4) rfl (by kernel_rfl) rfl (fun ds hl => ?_) hW (fun hz => ?_)
  · obtain ⟨d0, d1, rfl⟩ := list2 hl
    exact ⟨rfl, rfl, rfl⟩
  · obtain ⟨v0, v1, rfl⟩ := arr2 hz
    obtain ⟨x0_0, x0_1, x0_2, rfl, h0_0, h0_1, h0_2⟩ := ints3_of_ok (P := Try.prog) (t0 := 3) (k0 := .i64) (t1 := 3) (k1 := .i64) (t2 := 3) (k2 := .i64) (by kernel_rfl) (by kernel_rfl) (by kernel_rfl) (by kernel_rfl) (by kernel_rfl) (by kernel_rfl) (hval 0 _ v0 rfl rfl)
    obtain ⟨d1, p1, hd1⟩ := whole_nth hW (j := 1) rfl rfl
    obtain ⟨a1, n1, c1, z1, rfl, hn1, hr1, hu1⟩ := ints_of (P := Try.prog) (e := 46) (k := .u64) (by kernel_rfl) (by kernel_rfl) (by kernel_rfl) (hval 1 _ v1 rfl rfl) hd1
    exact Ends.of_call (l_adoptothers x0_0 x0_1 x0_2 (i64_bd h0_0) (i64_bd h0_1) (i64_bd h0_2) hn1 hr1 hu1)

theorem adoptOthers_holds : Rows.AdoptOthersSaid :=
  OpenClaim.holds_of_wide 6 Try.f6 rfl rfl rfl rfl rfl rfl rfl ⟨rfl, rfl, rfl, rfl, rfl⟩ rfl rfl rfl rfl rfl (by kernel_rfl) Try.func6 adoptOthers_facts
    (of_decide_eq_true (by kernel_rfl)) (by unfold Func.isWrapper; rw [if_neg (by decide +kernel)]; exact ⟨rfl, rfl⟩)
    (fun os started H enc _ => adoptOthers_lifted os started H enc)

end Go.Proofs.Ytfopnendmcpglaa
