/-
 The statement: 'TopFillUp' answers true: one alone that asks for blocks of one length till there is none left has as many as go into the heap; having given all back it can do so again. Conditions: none.
-/
import Derived.Test.YtkjpgikjcfhckaaGreatFillUp
import Derived.Test.YtkjpgikjcfhckaaGreatWhole
set_option linter.unusedVariables false
set_option linter.unusedSimpArgs false
namespace Go.Proofs.YtkjpgikjcfhckaaGreat
open Go Go.Ev Go.ChangeShapes Go.WideShapes Go.ChangeAt Go.RowKit

theorem topFillUp_f1:(Rows.topFillUpRow.inPlace == Tryz.prog.inPlace 7)=true:=by kernel_rfl
theorem topFillUp_f2:(Rows.topFillUpRow.unfollowed == Tryz.prog.unfollowed 7)=true:=by kernel_rfl
theorem topFillUp_f3:(Rows.topFillUpRow.recurses == Tryz.prog.recurses 7)=true:=by kernel_rfl
theorem topFillUp_f4:(Rows.topFillUpRow.named == Tryz.prog.varsNamed 7)=true:=by kernel_rfl
theorem topFillUp_facts:joinedFacts Tryz.prog 7 Tryz.f7 Rows.topFillUpSpec Rows.topFillUpRow=true:=by
 unfold joinedFacts
 rw[whole_enter,whole_lifts,whole_make,whole_stops,topFillUp_f1,topFillUp_f2,topFillUp_f3,topFillUp_f4]
 kernel_rfl

set_option maxRecDepth 100000 in
theorem topFillUp_lifted (os:Os) (started:os.Started) (H:Type) (enc:TypeId×Value→H) :
  ReturnsInHanded {} Tryz.checked os 7 .any (Rows.topFillUpSpec.pre6 enc Tryz.prog Tryz.f7 Rows.topFillUpRow.domain false) (Rows.topFillUpSpec.post enc Tryz.prog Tryz.f7 false true false false):=by
 refine returnsInHanded_of_change (C:=Tryz.checked) ownKnob_no started (by kernel_rfl) Tryz.func7
  (ChangeSpec.witness6 (enc:=enc) (C:=Tryz.checked) false ⟨#[],#[.int .u8 0,.agg #[.int .u16 0,.int .u16 0],.float .f64 0],[]⟩ 8 (by kernel_rfl) (by kernel_rfl) (by kernel_rfl) (by kernel_rfl)) ?_
 intro W base args ds gs before hval hW _ _
 refine post_of_walk laidOut_yes (by kernel_rfl) (tb:=4) rfl (by kernel_rfl) rfl (fun ds hl=>?_) hW (fun hz=>?_)
 ·obtain⟨d0,d1,d2,rfl⟩:=list3 hl
  exact⟨rfl,rfl,rfl⟩
 ·obtain⟨v0,v1,v2,rfl⟩:=arr3 hz
  obtain⟨a0,rfl,h0⟩:=int_of_okv (P:=Tryz.prog) (t:=5) (k:=.u8) (by kernel_rfl) (hval 0 _ v0 rfl rfl)
  obtain⟨x1_0,x1_1,rfl,h1_0,h1_1⟩:=ints2_of_ok (P:=Tryz.prog) (t0:=73) (k0:=.u16) (t1:=73) (k1:=.u16) (by kernel_rfl) (by kernel_rfl) (by kernel_rfl) (by kernel_rfl) (by kernel_rfl) (hval 1 _ v1 rfl rfl)
  obtain⟨x2_0,rfl⟩:=float_of_okv (P:=Tryz.prog) (t:=35) (k:=.f64) (by kernel_rfl) (hval 2 _ v2 rfl rfl)
  exact Ends.of_call (l_topfillup a0 (u8_bd h0) x1_0 x1_1 (u16_bd h1_0) (u16_bd h1_1) x2_0)

theorem topFillUp_holds:Rows.TopFillUpSaid:=
 OpenClaim.holds_of_wide 7 Tryz.f7 rfl rfl rfl rfl rfl rfl rfl ⟨rfl,rfl,rfl,rfl,rfl⟩ rfl rfl rfl rfl rfl (by kernel_rfl) Tryz.func7 topFillUp_facts
  (of_decide_eq_true (by kernel_rfl)) (by unfold Func.isWrapper;rw[if_neg (by decide +kernel)];exact⟨rfl,rfl⟩)
  (fun os started H enc _=>topFillUp_lifted os started H enc)

end Go.Proofs.YtkjpgikjcfhckaaGreat
