/-
  The statement: 'GiveRemote' answers true: who bound the page keeps what it gives in its magazine as long as there is a place; another one's goes back to the page at once; each in the steps for that. Conditions: none.
-/
import Derived.Test.YtbehnodllajnjaaLawGiveRemote
import Derived.Test.YtbehnodllajnjaaWhole
import Derived.Test.YtbehnodllajnjaaRowV
set_option linter.unusedVariables false
set_option linter.unusedSimpArgs false
namespace Go.Proofs.Ytbehnodllajnjaa
open Go Go.Ev Go.ChangeShapes Go.WideShapes Go.ChangeAt Go.RowKit

theorem giveRemote_f1 : (Rows.giveRemoteRow.inPlace == Try.prog.inPlace 6) = true := by kernel_rfl
theorem giveRemote_f2 : (Rows.giveRemoteRow.unfollowed == Try.prog.unfollowed 6) = true := by kernel_rfl
theorem giveRemote_f3 : (Rows.giveRemoteRow.recurses == Try.prog.recurses 6) = true := by kernel_rfl
theorem giveRemote_f4 : (Rows.giveRemoteRow.named == Try.prog.varsNamed 6) = true := by kernel_rfl
theorem giveRemote_facts : joinedFacts Try.prog 6 Try.f6 Rows.giveRemoteSpec Rows.giveRemoteRow = true := by
  unfold joinedFacts
  rw [whole_enter, whole_lifts, whole_make, whole_stops, giveRemote_f1, giveRemote_f2, giveRemote_f3, giveRemote_f4]
  kernel_rfl

set_option maxRecDepth 100000 in
theorem giveRemote_lifted (os : Os) (started : os.Started) (H : Type) (enc : TypeId × Value → H) :
    ReturnsInHanded {} Try.checked os 6 .any (Rows.giveRemoteSpec.pre6 enc Try.prog Try.f6 Rows.giveRemoteRow.domain false) (Rows.giveRemoteSpec.post enc Try.prog Try.f6 false true false false) := by
  refine returnsInHanded_of_change (C := Try.checked) ownKnob_no started (by kernel_rfl) Try.func6
    (ChangeSpec.witness6 (enc := enc) (C := Try.checked) false ⟨#[], #[.int .u8 0, .bool false, .slice none 0 0], []⟩ 8 (by kernel_rfl) (by kernel_rfl) (by kernel_rfl) (by kernel_rfl)) ?_
  intro W base args ds gs before hval hW _ _
  refine post_of_walk laidOut_yes (by kernel_rfl) (tb := 4) rfl (by kernel_rfl) rfl (fun ds hl => ?_) hW (fun hz => ?_)
  · obtain ⟨d0, d1, d2, rfl⟩ := list3 hl
    exact ⟨rfl, rfl, rfl⟩
  · obtain ⟨v0, v1, v2, rfl⟩ := arr3 hz
    obtain ⟨a0, rfl, h0⟩ := int_of_okv (P := Try.prog) (t := 5) (k := .u8) (by kernel_rfl) (hval 0 _ v0 rfl rfl)
    obtain ⟨a1, rfl⟩ := okWide_bool (P := Try.prog) (t := 4) (by kernel_rfl) (hval 1 _ v1 rfl rfl)
    obtain ⟨d2, p2, hd2⟩ := whole_nth hW (j := 2) rfl rfl
    obtain ⟨a2, n2, c2, z2, rfl, hn2, hr2⟩ := bools_of (P := Try.prog) (e := 4) (by kernel_rfl) (by kernel_rfl) (by kernel_rfl) (hval 2 _ v2 rfl rfl) hd2
    exact Ends.of_call (l_giveremote a0 (u8_bd h0) a1 hn2 hr2)

theorem giveRemote_holds : Rows.GiveRemoteSaid :=
  OpenClaim.holds_of_wide 6 Try.f6 rfl rfl rfl rfl rfl rfl rfl ⟨rfl, rfl, rfl, rfl, rfl⟩ rfl rfl rfl rfl rfl (by kernel_rfl) Try.func6 giveRemote_facts
    (of_decide_eq_true (by kernel_rfl)) (by unfold Func.isWrapper; rw [if_neg (by decide +kernel)]; exact ⟨rfl, rfl⟩)
    (fun os started H enc _ => giveRemote_lifted os started H enc)

end Go.Proofs.Ytbehnodllajnjaa
