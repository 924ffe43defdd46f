/-
  The statement: 'SeekOwn' answers true: who has a slot of the class in its magazine takes that, with nothing else looked at, in as many steps as there are entries up to it, and one. Conditions: none.
-/
import Derived.Test.YtfopnendmcpglaaLawSeekOwn
import Derived.Test.YtfopnendmcpglaaWhole
set_option linter.unusedVariables false
set_option linter.unusedSimpArgs false
namespace Go.Proofs.Ytfopnendmcpglaa
open Go Go.Ev Go.ChangeShapes Go.WideShapes Go.ChangeAt Go.RowKit

theorem seekOwn_f1 : (Rows.seekOwnRow.inPlace == Try.prog.inPlace 9) = true := by kernel_rfl
theorem seekOwn_f2 : (Rows.seekOwnRow.unfollowed == Try.prog.unfollowed 9) = true := by kernel_rfl
theorem seekOwn_f3 : (Rows.seekOwnRow.recurses == Try.prog.recurses 9) = true := by kernel_rfl
theorem seekOwn_f4 : (Rows.seekOwnRow.named == Try.prog.varsNamed 9) = true := by kernel_rfl
theorem seekOwn_facts : joinedFacts Try.prog 9 Try.f9 Rows.seekOwnSpec Rows.seekOwnRow = true := by
  unfold joinedFacts
  rw [whole_enter, whole_lifts, whole_make, whole_stops, seekOwn_f1, seekOwn_f2, seekOwn_f3, seekOwn_f4]
  kernel_rfl

set_option maxRecDepth 100000 in
theorem seekOwn_lifted (os : Os) (started : os.Started) (H : Type) (enc : TypeId × Value → H) :
    ReturnsInHanded {} Try.checked os 9 .any (Rows.seekOwnSpec.pre6 enc Try.prog Try.f9 Rows.seekOwnRow.domain false) (Rows.seekOwnSpec.post enc Try.prog Try.f9 false true false false) := by
  refine returnsInHanded_of_change (C := Try.checked) ownKnob_no started (by kernel_rfl) Try.func9
    (ChangeSpec.witness6 (enc := enc) (C := Try.checked) false ⟨#[], #[.slice none 0 0, .int .u8 0, .int .u8 0], []⟩ 8 (by kernel_rfl) (by kernel_rfl) (by kernel_rfl) (by kernel_rfl)) ?_
  intro W base args ds gs before hval hW _ _
  refine post_of_walk laidOut_yes (by kernel_rfl) (tb := 4) rfl (by kernel_rfl) rfl (fun ds hl => ?_) hW (fun hz => ?_)
  · obtain ⟨d0, d1, d2, rfl⟩ := list3 hl
    exact ⟨rfl, rfl, rfl⟩
  · obtain ⟨v0, v1, v2, rfl⟩ := arr3 hz
    obtain ⟨d0, p0, hd0⟩ := whole_nth hW (j := 0) rfl rfl
    obtain ⟨a0, n0, c0, z0, rfl, hn0, hr0, hu0⟩ := ints_of (P := Try.prog) (e := 5) (k := .u8) (by kernel_rfl) (by kernel_rfl) (by kernel_rfl) (hval 0 _ v0 rfl rfl) hd0
    obtain ⟨a1, rfl, h1⟩ := int_of_okv (P := Try.prog) (t := 5) (k := .u8) (by kernel_rfl) (hval 1 _ v1 rfl rfl)
    obtain ⟨a2, rfl, h2⟩ := int_of_okv (P := Try.prog) (t := 5) (k := .u8) (by kernel_rfl) (hval 2 _ v2 rfl rfl)
    exact Ends.of_call (l_seekown hn0 hr0 hu0 a1 (u8_bd h1) a2 (u8_bd h2))

theorem seekOwn_holds : Rows.SeekOwnSaid :=
  OpenClaim.holds_of_wide 9 Try.f9 rfl rfl rfl rfl rfl rfl rfl ⟨rfl, rfl, rfl, rfl, rfl⟩ rfl rfl rfl rfl rfl (by kernel_rfl) Try.func9 seekOwn_facts
    (of_decide_eq_true (by kernel_rfl)) (by unfold Func.isWrapper; rw [if_neg (by decide +kernel)]; exact ⟨rfl, rfl⟩)
    (fun os started H enc _ => seekOwn_lifted os started H enc)

end Go.Proofs.Ytfopnendmcpglaa
