/-
  The statement: 'RenewSelf' answers true: alone in a heap of 17 pages and more, without a magazine, a block of at most four pages is renewed to any other such length; renewed on and on it is always one block, with no word in common with the one ahead of it. Conditions: none.
-/
import Derived.Test.YtibeokgmfhfgjaaGreatLawRenewSelf
import Derived.Test.YtibeokgmfhfgjaaGreatWhole
set_option linter.unusedVariables false
set_option linter.unusedSimpArgs false
namespace Go.Proofs.YtibeokgmfhfgjaaGreat
open Go Go.Ev Go.ChangeShapes Go.WideShapes Go.ChangeAt Go.RowKit

theorem renewSelf_f1 : (Rows.renewSelfRow.inPlace == Tryz.prog.inPlace 3) = true := by kernel_rfl
theorem renewSelf_f2 : (Rows.renewSelfRow.unfollowed == Tryz.prog.unfollowed 3) = true := by kernel_rfl
theorem renewSelf_f3 : (Rows.renewSelfRow.recurses == Tryz.prog.recurses 3) = true := by kernel_rfl
theorem renewSelf_f4 : (Rows.renewSelfRow.named == Tryz.prog.varsNamed 3) = true := by kernel_rfl
theorem renewSelf_facts : joinedFacts Tryz.prog 3 Tryz.f3 Rows.renewSelfSpec Rows.renewSelfRow = true := by
  unfold joinedFacts
  rw [whole_enter, whole_lifts, whole_make, whole_stops, renewSelf_f1, renewSelf_f2, renewSelf_f3, renewSelf_f4]
  kernel_rfl

set_option maxRecDepth 100000 in
theorem renewSelf_lifted (os : Os) (started : os.Started) (H : Type) (enc : TypeId × Value → H) :
    ReturnsInHanded {} Tryz.checked os 3 .any (Rows.renewSelfSpec.pre6 enc Tryz.prog Tryz.f3 Rows.renewSelfRow.domain false) (Rows.renewSelfSpec.post enc Tryz.prog Tryz.f3 false true false false) := by
  refine returnsInHanded_of_change (C := Tryz.checked) ownKnob_no started (by kernel_rfl) Tryz.func3
    (ChangeSpec.witness6 (enc := enc) (C := Tryz.checked) false ⟨#[], #[.int .u8 0, .slice none 0 0], []⟩ 8 (by kernel_rfl) (by kernel_rfl) (by kernel_rfl) (by kernel_rfl)) ?_
  intro W base args ds gs before hval hW _ _
  refine post_of_walk laidOut_yes (by kernel_rfl) (tb := 4) rfl (by kernel_rfl) rfl (fun ds hl => ?_) hW (fun hz => ?_)
  · obtain ⟨d0, d1, rfl⟩ := list2 hl
    exact ⟨rfl, rfl, rfl⟩
  · obtain ⟨v0, v1, rfl⟩ := arr2 hz
    obtain ⟨a0, rfl, h0⟩ := int_of_okv (P := Tryz.prog) (t := 5) (k := .u8) (by kernel_rfl) (hval 0 _ v0 rfl rfl)
    obtain ⟨d1, p1, hd1⟩ := whole_nth hW (j := 1) rfl rfl
    obtain ⟨a1, n1, c1, z1, rfl, hn1, hr1, hu1⟩ := ints_of (P := Tryz.prog) (e := 40) (k := .u16) (by kernel_rfl) (by kernel_rfl) (by kernel_rfl) (hval 1 _ v1 rfl rfl) hd1
    exact Ends.of_call (l_renewself a0 (u8_bd h0) hn1 hr1 hu1)

theorem renewSelf_holds : Rows.RenewSelfSaid :=
  OpenClaim.holds_of_wide 3 Tryz.f3 rfl rfl rfl rfl rfl rfl rfl ⟨rfl, rfl, rfl, rfl, rfl⟩ rfl rfl rfl rfl rfl (by kernel_rfl) Tryz.func3 renewSelf_facts
    (of_decide_eq_true (by kernel_rfl)) (by unfold Func.isWrapper; rw [if_neg (by decide +kernel)]; exact ⟨rfl, rfl⟩)
    (fun os started H enc _ => renewSelf_lifted os started H enc)

end Go.Proofs.YtibeokgmfhfgjaaGreat
