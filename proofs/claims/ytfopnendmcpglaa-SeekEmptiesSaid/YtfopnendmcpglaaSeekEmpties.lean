/-
  The statement: 'SeekEmpties' answers true: in a heap that is bound to other classes a slot is found just where a page has no slot that is not open; it is that page then that is bound anew. Conditions: none.
-/
import Derived.Test.YtfopnendmcpglaaLawSeekEmpties
import Derived.Test.YtfopnendmcpglaaWhole
import Derived.Test.YtfopnendmcpglaaRowV
set_option linter.unusedVariables false
set_option linter.unusedSimpArgs false
namespace Go.Proofs.Ytfopnendmcpglaa
open Go Go.Ev Go.ChangeShapes Go.WideShapes Go.ChangeAt Go.RowKit

theorem seekEmpties_f1 : (Rows.seekEmptiesRow.inPlace == Try.prog.inPlace 7) = true := by kernel_rfl
theorem seekEmpties_f2 : (Rows.seekEmptiesRow.unfollowed == Try.prog.unfollowed 7) = true := by kernel_rfl
theorem seekEmpties_f3 : (Rows.seekEmptiesRow.recurses == Try.prog.recurses 7) = true := by kernel_rfl
theorem seekEmpties_f4 : (Rows.seekEmptiesRow.named == Try.prog.varsNamed 7) = true := by kernel_rfl
theorem seekEmpties_facts : joinedFacts Try.prog 7 Try.f7 Rows.seekEmptiesSpec Rows.seekEmptiesRow = true := by
  unfold joinedFacts
  rw [whole_enter, whole_lifts, whole_make, whole_stops, seekEmpties_f1, seekEmpties_f2, seekEmpties_f3, seekEmpties_f4]
  kernel_rfl

set_option maxRecDepth 100000 in
theorem seekEmpties_lifted (os : Os) (started : os.Started) (H : Type) (enc : TypeId × Value → H) :
    ReturnsInHanded {} Try.checked os 7 .any (Rows.seekEmptiesSpec.pre6 enc Try.prog Try.f7 Rows.seekEmptiesRow.domain false) (Rows.seekEmptiesSpec.post enc Try.prog Try.f7 false true false false) := by
  refine returnsInHanded_of_change (C := Try.checked) ownKnob_no started (by kernel_rfl) Try.func7
    (ChangeSpec.witness6 (enc := enc) (C := Try.checked) false ⟨#[], #[.slice none 0 0, .slice none 0 0, .agg #[.int .u8 0, .int .u8 0]], []⟩ 8 (by kernel_rfl) (by kernel_rfl) (by kernel_rfl) (by kernel_rfl)) ?_
  intro W base args ds gs before hval hW _ _
  refine post_of_walk laidOut_yes (by kernel_rfl) (tb := 4) rfl (by kernel_rfl) rfl (fun ds hl => ?_) hW (fun hz => ?_)
  · obtain ⟨d0, d1, d2, rfl⟩ := list3 hl
    exact ⟨rfl, rfl, rfl⟩
  · obtain ⟨v0, v1, v2, rfl⟩ := arr3 hz
    obtain ⟨d0, p0, hd0⟩ := whole_nth hW (j := 0) rfl rfl
    obtain ⟨a0, n0, c0, z0, rfl, hn0, hr0, hu0⟩ := ints_of (P := Try.prog) (e := 5) (k := .u8) (by kernel_rfl) (by kernel_rfl) (by kernel_rfl) (hval 0 _ v0 rfl rfl) hd0
    obtain ⟨d1, p1, hd1⟩ := whole_nth hW (j := 1) rfl rfl
    obtain ⟨a1, n1, c1, z1, rfl, hn1, hr1⟩ := bools_of (P := Try.prog) (e := 4) (by kernel_rfl) (by kernel_rfl) (by kernel_rfl) (hval 1 _ v1 rfl rfl) hd1
    obtain ⟨x2_0, x2_1, rfl, h2_0, h2_1⟩ := ints2_of_ok (P := Try.prog) (t0 := 5) (k0 := .u8) (t1 := 5) (k1 := .u8) (by kernel_rfl) (by kernel_rfl) (by kernel_rfl) (by kernel_rfl) (by kernel_rfl) (hval 2 _ v2 rfl rfl)
    exact Ends.of_call (l_seekempties hn0 hr0 hu0 hn1 hr1 x2_0 x2_1 (u8_bd h2_0) (u8_bd h2_1))

theorem seekEmpties_holds : Rows.SeekEmptiesSaid :=
  OpenClaim.holds_of_wide 7 Try.f7 rfl rfl rfl rfl rfl rfl rfl ⟨rfl, rfl, rfl, rfl, rfl⟩ rfl rfl rfl rfl rfl (by kernel_rfl) Try.func7 seekEmpties_facts
    (of_decide_eq_true (by kernel_rfl)) (by unfold Func.isWrapper; rw [if_neg (by decide +kernel)]; exact ⟨rfl, rfl⟩)
    (fun os started H enc _ => seekEmpties_lifted os started H enc)

end Go.Proofs.Ytfopnendmcpglaa
