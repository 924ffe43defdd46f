/-
 The statement: 'TopBias' answers true: from where a client begins to look says nothing of whether it gets a block when it is alone. Conditions: none.
-/
import Derived.Test.YtkjpgikjcfhckaaGreatBias
import Derived.Test.YtkjpgikjcfhckaaGreatWhole
set_option linter.unusedVariables false
set_option linter.unusedSimpArgs false
namespace Go.Proofs.YtkjpgikjcfhckaaGreat
open Go Go.Ev Go.ChangeShapes Go.WideShapes Go.ChangeAt Go.RowKit

theorem topBias_f1:(Rows.topBiasRow.inPlace == Tryz.prog.inPlace 8)=true:=by kernel_rfl
theorem topBias_f2:(Rows.topBiasRow.unfollowed == Tryz.prog.unfollowed 8)=true:=by kernel_rfl
theorem topBias_f3:(Rows.topBiasRow.recurses == Tryz.prog.recurses 8)=true:=by kernel_rfl
theorem topBias_f4:(Rows.topBiasRow.named == Tryz.prog.varsNamed 8)=true:=by kernel_rfl
theorem topBias_facts:joinedFacts Tryz.prog 8 Tryz.f8 Rows.topBiasSpec Rows.topBiasRow=true:=by
 unfold joinedFacts
 rw[whole_enter,whole_lifts,whole_make,whole_stops,topBias_f1,topBias_f2,topBias_f3,topBias_f4]
 kernel_rfl

set_option maxRecDepth 100000 in
theorem topBias_lifted (os:Os) (started:os.Started) (H:Type) (enc:TypeId×Value→H) :
  ReturnsInHanded {} Tryz.checked os 8 .any (Rows.topBiasSpec.pre6 enc Tryz.prog Tryz.f8 Rows.topBiasRow.domain false) (Rows.topBiasSpec.post enc Tryz.prog Tryz.f8 false true false false):=by
 refine returnsInHanded_of_change (C:=Tryz.checked) ownKnob_no started (by kernel_rfl) Tryz.func8
  (ChangeSpec.witness6 (enc:=enc) (C:=Tryz.checked) false ⟨#[],#[.agg #[.int .i64 0,.int .i64 0,.int .i64 0],.slice none 0 0,.agg #[.float .f64 0,.float .f64 0]],[]⟩ 8 (by kernel_rfl) (by kernel_rfl) (by kernel_rfl) (by kernel_rfl)) ?_
 intro W base args ds gs before hval hW _ _
 refine post_of_walk laidOut_yes (by kernel_rfl) (tb:=4) rfl (by kernel_rfl) rfl (fun ds hl=>?_) hW (fun hz=>?_)
 ·obtain⟨d0,d1,d2,rfl⟩:=list3 hl
  exact⟨rfl,rfl,rfl⟩
 ·obtain⟨v0,v1,v2,rfl⟩:=arr3 hz
  obtain⟨x0_0,x0_1,x0_2,rfl,h0_0,h0_1,h0_2⟩:=ints3_of_ok (P:=Tryz.prog) (t0:=3) (k0:=.i64) (t1:=3) (k1:=.i64) (t2:=3) (k2:=.i64) (by kernel_rfl) (by kernel_rfl) (by kernel_rfl) (by kernel_rfl) (by kernel_rfl) (by kernel_rfl) (hval 0 _ v0 rfl rfl)
  obtain⟨d1,p1,hd1⟩:=whole_nth hW (j:=1) rfl rfl
  obtain⟨a1,n1,c1,z1,rfl,hn1,hr1⟩:=ops_of (P:=Tryz.prog) (by kernel_rfl) Tryz.underlying34 (by kernel_rfl) rfl rfl rfl (by kernel_rfl) (by kernel_rfl) (by kernel_rfl) (by kernel_rfl) (by kernel_rfl) (by kernel_rfl) (hval 1 _ v1 rfl rfl) hd1
  obtain⟨x2_0,x2_1,rfl⟩:=floats2_of_ok (P:=Tryz.prog) (t0:=35) (t1:=35) (k0:=.f64) (k1:=.f64) (by kernel_rfl) (by kernel_rfl) (by kernel_rfl) (by kernel_rfl) (by kernel_rfl) (hval 2 _ v2 rfl rfl)
  exact Ends.of_call (l_topbias x0_0 x0_1 x0_2 (i64_bd h0_0) (i64_bd h0_1) (i64_bd h0_2) hn1 hr1 x2_0 x2_1)

theorem topBias_holds:Rows.TopBiasSaid:=
 OpenClaim.holds_of_wide 8 Tryz.f8 rfl rfl rfl rfl rfl rfl rfl ⟨rfl,rfl,rfl,rfl,rfl⟩ rfl rfl rfl rfl rfl (by kernel_rfl) Tryz.func8 topBias_facts
  (of_decide_eq_true (by kernel_rfl)) (by unfold Func.isWrapper;rw[if_neg (by decide +kernel)];exact⟨rfl,rfl⟩)
  (fun os started H enc _=>topBias_lifted os started H enc)

end Go.Proofs.YtkjpgikjcfhckaaGreat
