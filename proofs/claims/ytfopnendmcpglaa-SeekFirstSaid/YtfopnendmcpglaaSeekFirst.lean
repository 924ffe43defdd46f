/-
  The statement: 'SeekFirst' answers true: in a sound heap, alone, whether a slot is found does not hang on the page from which on it is looked for; it is found just where there is one in the magazine, an open one, an empty page, or one whose slots are all open. Conditions: none.
-/
import Derived.Test.YtfopnendmcpglaaLawSeekFirst
import Derived.Test.YtfopnendmcpglaaWhole
set_option linter.unusedVariables false
set_option linter.unusedSimpArgs false
namespace Go.Proofs.Ytfopnendmcpglaa
open Go Go.Ev Go.ChangeShapes Go.WideShapes Go.ChangeAt Go.RowKit

theorem seekFirst_f1 : (Rows.seekFirstRow.inPlace == Try.prog.inPlace 10) = true := by kernel_rfl
theorem seekFirst_f2 : (Rows.seekFirstRow.unfollowed == Try.prog.unfollowed 10) = true := by kernel_rfl
theorem seekFirst_f3 : (Rows.seekFirstRow.recurses == Try.prog.recurses 10) = true := by kernel_rfl
theorem seekFirst_f4 : (Rows.seekFirstRow.named == Try.prog.varsNamed 10) = true := by kernel_rfl
theorem seekFirst_facts : joinedFacts Try.prog 10 Try.f10 Rows.seekFirstSpec Rows.seekFirstRow = true := by
  unfold joinedFacts
  rw [whole_enter, whole_lifts, whole_make, whole_stops, seekFirst_f1, seekFirst_f2, seekFirst_f3, seekFirst_f4]
  kernel_rfl

set_option maxRecDepth 100000 in
theorem seekFirst_lifted (os : Os) (started : os.Started) (H : Type) (enc : TypeId × Value → H) :
    ReturnsInHanded {} Try.checked os 10 .any (Rows.seekFirstSpec.pre6 enc Try.prog Try.f10 Rows.seekFirstRow.domain false) (Rows.seekFirstSpec.post enc Try.prog Try.f10 false true false false) := by
  refine returnsInHanded_of_change (C := Try.checked) ownKnob_no started (by kernel_rfl) Try.func10
    (ChangeSpec.witness6 (enc := enc) (C := Try.checked) false ⟨#[], #[.agg #[.int .i64 0, .int .i64 0, .int .i64 0], .slice none 0 0, .agg #[.int .i64 0, .int .i64 0, .int .i64 0]], []⟩ 8 (by kernel_rfl) (by kernel_rfl) (by kernel_rfl) (by kernel_rfl)) ?_
  intro W base args ds gs before hval hW _ _
  refine post_of_walk laidOut_yes (by kernel_rfl) (tb := 4) rfl (by kernel_rfl) rfl (fun ds hl => ?_) hW (fun hz => ?_)
  · obtain ⟨d0, d1, d2, rfl⟩ := list3 hl
    exact ⟨rfl, rfl, rfl⟩
  · obtain ⟨v0, v1, v2, rfl⟩ := arr3 hz
    obtain ⟨x0_0, x0_1, x0_2, rfl, h0_0, h0_1, h0_2⟩ := ints3_of_ok (P := Try.prog) (t0 := 3) (k0 := .i64) (t1 := 3) (k1 := .i64) (t2 := 3) (k2 := .i64) (by kernel_rfl) (by kernel_rfl) (by kernel_rfl) (by kernel_rfl) (by kernel_rfl) (by kernel_rfl) (hval 0 _ v0 rfl rfl)
    obtain ⟨d1, p1, hd1⟩ := whole_nth hW (j := 1) rfl rfl
    obtain ⟨a1, n1, c1, z1, rfl, hn1, hr1, hu1⟩ := ints_of (P := Try.prog) (e := 46) (k := .u64) (by kernel_rfl) (by kernel_rfl) (by kernel_rfl) (hval 1 _ v1 rfl rfl) hd1
    obtain ⟨x2_0, x2_1, x2_2, rfl, h2_0, h2_1, h2_2⟩ := ints3_of_ok (P := Try.prog) (t0 := 3) (k0 := .i64) (t1 := 3) (k1 := .i64) (t2 := 3) (k2 := .i64) (by kernel_rfl) (by kernel_rfl) (by kernel_rfl) (by kernel_rfl) (by kernel_rfl) (by kernel_rfl) (hval 2 _ v2 rfl rfl)
    exact Ends.of_call (l_seekfirst x0_0 x0_1 x0_2 (i64_bd h0_0) (i64_bd h0_1) (i64_bd h0_2) hn1 hr1 hu1 x2_0 x2_1 x2_2 (i64_bd h2_0) (i64_bd h2_1) (i64_bd h2_2))

theorem seekFirst_holds : Rows.SeekFirstSaid :=
  OpenClaim.holds_of_wide 10 Try.f10 rfl rfl rfl rfl rfl rfl rfl ⟨rfl, rfl, rfl, rfl, rfl⟩ rfl rfl rfl rfl rfl (by kernel_rfl) Try.func10 seekFirst_facts
    (of_decide_eq_true (by kernel_rfl)) (by unfold Func.isWrapper; rw [if_neg (by decide +kernel)]; exact ⟨rfl, rfl⟩)
    (fun os started H enc _ => seekFirst_lifted os started H enc)

end Go.Proofs.Ytfopnendmcpglaa
