/-
 The statement: 'TopTwins' answers true: a world that is played beside another one is not touched by it; played again it goes the same way. Conditions: none.
-/
import Derived.Test.YtjhgpoajcopciaaGreatTwins
import Derived.Test.YtjhgpoajcopciaaGreatWhole
set_option linter.unusedVariables false
set_option linter.unusedSimpArgs false
namespace Go.Proofs.YtjhgpoajcopciaaGreat
open Go Go.Ev Go.ChangeShapes Go.WideShapes Go.ChangeAt Go.RowKit

theorem topTwins_f1:(Rows.topTwinsRow.inPlace == Tryz.prog.inPlace 3)=true:=by kernel_rfl
theorem topTwins_f2:(Rows.topTwinsRow.unfollowed == Tryz.prog.unfollowed 3)=true:=by kernel_rfl
theorem topTwins_f3:(Rows.topTwinsRow.recurses == Tryz.prog.recurses 3)=true:=by kernel_rfl
theorem topTwins_f4:(Rows.topTwinsRow.named == Tryz.prog.varsNamed 3)=true:=by kernel_rfl
theorem topTwins_facts:joinedFacts Tryz.prog 3 Tryz.f3 Rows.topTwinsSpec Rows.topTwinsRow=true:=by
 unfold joinedFacts
 rw[whole_enter,whole_lifts,whole_make,whole_stops,topTwins_f1,topTwins_f2,topTwins_f3,topTwins_f4]
 kernel_rfl

set_option maxRecDepth 100000 in
theorem topTwins_lifted (os:Os) (started:os.Started) (H:Type) (enc:TypeId×Value→H) :
  ReturnsInHanded {} Tryz.checked os 3 .any (Rows.topTwinsSpec.pre6 enc Tryz.prog Tryz.f3 Rows.topTwinsRow.domain false) (Rows.topTwinsSpec.post enc Tryz.prog Tryz.f3 false true false false):=by
 refine returnsInHanded_of_change (C:=Tryz.checked) ownKnob_no started (by kernel_rfl) Tryz.func3
  (ChangeSpec.witness6 (enc:=enc) (C:=Tryz.checked) false ⟨#[],#[.agg #[.int .i64 0,.int .i64 0,.int .i64 0],.slice none 0 0,.slice none 0 0],[]⟩ 8 (by kernel_rfl) (by kernel_rfl) (by kernel_rfl) (by kernel_rfl)) ?_
 intro W base args ds gs before hval hW _ _
 refine post_of_walk laidOut_yes (by kernel_rfl) (tb:=4) rfl (by kernel_rfl) rfl (fun ds hl=>?_) hW (fun hz=>?_)
 ·obtain⟨d0,d1,d2,rfl⟩:=list3 hl
  exact⟨rfl,rfl,rfl⟩
 ·obtain⟨v0,v1,v2,rfl⟩:=arr3 hz
  obtain⟨x0_0,x0_1,x0_2,rfl,h0_0,h0_1,h0_2⟩:=ints3_of_ok (P:=Tryz.prog) (t0:=3) (k0:=.i64) (t1:=3) (k1:=.i64) (t2:=3) (k2:=.i64) (by kernel_rfl) (by kernel_rfl) (by kernel_rfl) (by kernel_rfl) (by kernel_rfl) (by kernel_rfl) (hval 0 _ v0 rfl rfl)
  obtain⟨d1,p1,hd1⟩:=whole_nth hW (j:=1) rfl rfl
  obtain⟨a1,n1,c1,z1,rfl,hn1,hr1⟩:=choices_of (P:=Tryz.prog) (by kernel_rfl) Tryz.underlying39 (by kernel_rfl) rfl rfl rfl rfl (by kernel_rfl) (by kernel_rfl) (by kernel_rfl) (by kernel_rfl) (by kernel_rfl) (by kernel_rfl) Tryz.underlying34 (by kernel_rfl) rfl rfl rfl (by kernel_rfl) (by kernel_rfl) (by kernel_rfl) (by kernel_rfl) (by kernel_rfl) (by kernel_rfl) (hval 1 _ v1 rfl rfl) hd1
  obtain⟨d2,p2,hd2⟩:=whole_nth hW (j:=2) rfl rfl
  obtain⟨a2,n2,c2,z2,rfl,hn2,hr2⟩:=choices_of (P:=Tryz.prog) (by kernel_rfl) Tryz.underlying39 (by kernel_rfl) rfl rfl rfl rfl (by kernel_rfl) (by kernel_rfl) (by kernel_rfl) (by kernel_rfl) (by kernel_rfl) (by kernel_rfl) Tryz.underlying34 (by kernel_rfl) rfl rfl rfl (by kernel_rfl) (by kernel_rfl) (by kernel_rfl) (by kernel_rfl) (by kernel_rfl) (by kernel_rfl) (hval 2 _ v2 rfl rfl) hd2
  exact Ends.of_call (l_toptwins x0_0 x0_1 x0_2 (i64_bd h0_0) (i64_bd h0_1) (i64_bd h0_2) hn1 hr1 hn2 hr2)

theorem topTwins_holds:Rows.TopTwinsSaid:=
 OpenClaim.holds_of_wide 3 Tryz.f3 rfl rfl rfl rfl rfl rfl rfl ⟨rfl,rfl,rfl,rfl,rfl⟩ rfl rfl rfl rfl rfl (by kernel_rfl) Tryz.func3 topTwins_facts
  (of_decide_eq_true (by kernel_rfl)) (by unfold Func.isWrapper;rw[if_neg (by decide +kernel)];exact⟨rfl,rfl⟩)
  (fun os started H enc _=>topTwins_lifted os started H enc)

end Go.Proofs.YtjhgpoajcopciaaGreat
