/-
  The statement: 'AdoptStates' answers true: what an adoption is told hangs on the two statuses alone, as they are when it looks. Conditions: none.
-/
import Derived.Test.YtbehnodllajnjaaLawAdoptStates
import Derived.Test.YtbehnodllajnjaaWhole
set_option linter.unusedVariables false
set_option linter.unusedSimpArgs false
namespace Go.Proofs.Ytbehnodllajnjaa
open Go Go.Ev Go.ChangeShapes Go.WideShapes Go.ChangeAt Go.RowKit

theorem adoptStates_f1 : (Rows.adoptStatesRow.inPlace == Try.prog.inPlace 12) = true := by kernel_rfl
theorem adoptStates_f2 : (Rows.adoptStatesRow.unfollowed == Try.prog.unfollowed 12) = true := by kernel_rfl
theorem adoptStates_f3 : (Rows.adoptStatesRow.recurses == Try.prog.recurses 12) = true := by kernel_rfl
theorem adoptStates_f4 : (Rows.adoptStatesRow.named == Try.prog.varsNamed 12) = true := by kernel_rfl
theorem adoptStates_facts : joinedFacts Try.prog 12 Try.f12 Rows.adoptStatesSpec Rows.adoptStatesRow = true := by
  unfold joinedFacts
  rw [whole_enter, whole_lifts, whole_make, whole_stops, adoptStates_f1, adoptStates_f2, adoptStates_f3, adoptStates_f4]
  kernel_rfl

set_option maxRecDepth 100000 in
theorem adoptStates_lifted (os : Os) (started : os.Started) (H : Type) (enc : TypeId × Value → H) :
    ReturnsInHanded {} Try.checked os 12 .any (Rows.adoptStatesSpec.pre6 enc Try.prog Try.f12 Rows.adoptStatesRow.domain false) (Rows.adoptStatesSpec.post enc Try.prog Try.f12 false true false false) := by
  refine returnsInHanded_of_change (C := Try.checked) ownKnob_no started (by kernel_rfl) Try.func12
    (ChangeSpec.witness6 (enc := enc) (C := Try.checked) false ⟨#[], #[.agg #[.int .i64 0, .int .i64 0, .int .i64 0], .slice none 0 0, .agg #[.int .u8 0, .int .u8 0, .int .u8 0]], []⟩ 8 (by kernel_rfl) (by kernel_rfl) (by kernel_rfl) (by kernel_rfl)) ?_
  intro W base args ds gs before hval hW _ _
  refine post_of_walk laidOut_yes (by kernel_rfl) (tb := 4) rfl (by kernel_rfl) rfl (fun ds hl => ?_) hW (fun hz => ?_)
  · obtain ⟨d0, d1, d2, rfl⟩ := list3 hl
    exact ⟨rfl, rfl, rfl⟩
  · obtain ⟨v0, v1, v2, rfl⟩ := arr3 hz
    obtain ⟨x0_0, x0_1, x0_2, rfl, h0_0, h0_1, h0_2⟩ := ints3_of_ok (P := Try.prog) (t0 := 3) (k0 := .i64) (t1 := 3) (k1 := .i64) (t2 := 3) (k2 := .i64) (by kernel_rfl) (by kernel_rfl) (by kernel_rfl) (by kernel_rfl) (by kernel_rfl) (by kernel_rfl) (hval 0 _ v0 rfl rfl)
    obtain ⟨d1, p1, hd1⟩ := whole_nth hW (j := 1) rfl rfl
    obtain ⟨a1, n1, c1, z1, rfl, hn1, hr1, hu1⟩ := ints_of (P := Try.prog) (e := 29) (k := .u64) (by kernel_rfl) (by kernel_rfl) (by kernel_rfl) (hval 1 _ v1 rfl rfl) hd1
    obtain ⟨x2_0, x2_1, x2_2, rfl, h2_0, h2_1, h2_2⟩ := ints3_of_ok (P := Try.prog) (t0 := 5) (k0 := .u8) (t1 := 5) (k1 := .u8) (t2 := 5) (k2 := .u8) (by kernel_rfl) (by kernel_rfl) (by kernel_rfl) (by kernel_rfl) (by kernel_rfl) (by kernel_rfl) (hval 2 _ v2 rfl rfl)
    exact Ends.of_call (l_adoptstates x0_0 x0_1 x0_2 (i64_bd h0_0) (i64_bd h0_1) (i64_bd h0_2) hn1 hr1 hu1 x2_0 x2_1 x2_2 (u8_bd h2_0) (u8_bd h2_1) (u8_bd h2_2))

theorem adoptStates_holds : Rows.AdoptStatesSaid :=
  OpenClaim.holds_of_wide 12 Try.f12 rfl rfl rfl rfl rfl rfl rfl ⟨rfl, rfl, rfl, rfl, rfl⟩ rfl rfl rfl rfl rfl (by kernel_rfl) Try.func12 adoptStates_facts
    (of_decide_eq_true (by kernel_rfl)) (by unfold Func.isWrapper; rw [if_neg (by decide +kernel)]; exact ⟨rfl, rfl⟩)
    (fun os started H enc _ => adoptStates_lifted os started H enc)

end Go.Proofs.Ytbehnodllajnjaa
