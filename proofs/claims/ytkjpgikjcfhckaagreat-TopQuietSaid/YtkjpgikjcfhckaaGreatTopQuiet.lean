/-
 The statement: 'TopQuiet' answers true: when nobody has an operation, and nobody is dead and not adopted, all that is held are slots in magazines: so many words, and no page. Conditions: none.
-/
import Derived.Test.YtkjpgikjcfhckaaGreatQtX
import Derived.Test.YtkjpgikjcfhckaaGreatWhole
set_option linter.unusedVariables false
set_option linter.unusedSimpArgs false
namespace Go.Proofs.YtkjpgikjcfhckaaGreat
open Go Go.Ev Go.ChangeShapes Go.WideShapes Go.ChangeAt Go.RowKit

theorem topQuiet_f1:(Rows.topQuietRow.inPlace == Tryz.prog.inPlace 6)=true:=by kernel_rfl
theorem topQuiet_f2:(Rows.topQuietRow.unfollowed == Tryz.prog.unfollowed 6)=true:=by kernel_rfl
theorem topQuiet_f3:(Rows.topQuietRow.recurses == Tryz.prog.recurses 6)=true:=by kernel_rfl
theorem topQuiet_f4:(Rows.topQuietRow.named == Tryz.prog.varsNamed 6)=true:=by kernel_rfl
theorem topQuiet_facts:joinedFacts Tryz.prog 6 Tryz.f6 Rows.topQuietSpec Rows.topQuietRow=true:=by
 unfold joinedFacts
 rw[whole_enter,whole_lifts,whole_make,whole_stops,topQuiet_f1,topQuiet_f2,topQuiet_f3,topQuiet_f4]
 kernel_rfl

set_option maxRecDepth 100000 in
theorem topQuiet_lifted (os:Os) (started:os.Started) (H:Type) (enc:TypeId×Value→H) :
  ReturnsInHanded {} Tryz.checked os 6 .any (Rows.topQuietSpec.pre6 enc Tryz.prog Tryz.f6 Rows.topQuietRow.domain false) (Rows.topQuietSpec.post enc Tryz.prog Tryz.f6 false true false false):=by
 refine returnsInHanded_of_change (C:=Tryz.checked) ownKnob_no started (by kernel_rfl) Tryz.func6
  (ChangeSpec.witness6 (enc:=enc) (C:=Tryz.checked) false ⟨#[],#[.agg #[.int .i64 0,.int .i64 0,.int .i64 0],.slice none 0 0],[]⟩ 8 (by kernel_rfl) (by kernel_rfl) (by kernel_rfl) (by kernel_rfl)) ?_
 intro W base args ds gs before hval hW _ _
 refine post_of_walk laidOut_yes (by kernel_rfl) (tb:=4) rfl (by kernel_rfl) rfl (fun ds hl=>?_) hW (fun hz=>?_)
 ·obtain⟨d0,d1,rfl⟩:=list2 hl
  exact⟨rfl,rfl,rfl⟩
 ·obtain⟨v0,v1,rfl⟩:=arr2 hz
  obtain⟨x0_0,x0_1,x0_2,rfl,h0_0,h0_1,h0_2⟩:=ints3_of_ok (P:=Tryz.prog) (t0:=3) (k0:=.i64) (t1:=3) (k1:=.i64) (t2:=3) (k2:=.i64) (by kernel_rfl) (by kernel_rfl) (by kernel_rfl) (by kernel_rfl) (by kernel_rfl) (by kernel_rfl) (hval 0 _ v0 rfl rfl)
  obtain⟨d1,p1,hd1⟩:=whole_nth hW (j:=1) rfl rfl
  obtain⟨a1,n1,c1,z1,rfl,hn1,hr1⟩:=choices_of (P:=Tryz.prog) (by kernel_rfl) Tryz.underlying39 (by kernel_rfl) rfl rfl rfl rfl (by kernel_rfl) (by kernel_rfl) (by kernel_rfl) (by kernel_rfl) (by kernel_rfl) (by kernel_rfl) Tryz.underlying34 (by kernel_rfl) rfl rfl rfl (by kernel_rfl) (by kernel_rfl) (by kernel_rfl) (by kernel_rfl) (by kernel_rfl) (by kernel_rfl) (hval 1 _ v1 rfl rfl) hd1
  exact Ends.of_call (l_topquiet x0_0 x0_1 x0_2 (i64_bd h0_0) (i64_bd h0_1) (i64_bd h0_2) hn1 hr1)

theorem topQuiet_holds:Rows.TopQuietSaid:=
 OpenClaim.holds_of_wide 6 Tryz.f6 rfl rfl rfl rfl rfl rfl rfl ⟨rfl,rfl,rfl,rfl,rfl⟩ rfl rfl rfl rfl rfl (by kernel_rfl) Tryz.func6 topQuiet_facts
  (of_decide_eq_true (by kernel_rfl)) (by unfold Func.isWrapper;rw[if_neg (by decide +kernel)];exact⟨rfl,rfl⟩)
  (fun os started H enc _=>topQuiet_lifted os started H enc)

end Go.Proofs.YtkjpgikjcfhckaaGreat
