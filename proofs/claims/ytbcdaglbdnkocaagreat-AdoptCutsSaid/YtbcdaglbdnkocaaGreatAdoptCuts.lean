/-
 The statement: 'AdoptCuts' answers true: one that is killed at any step of what it does, in a blank heap or a sound one, and adopted: nothing of it is held, what is free is what was free and what it had. Conditions: none.
-/
import Derived.Test.YtbcdaglbdnkocaaGreatLawAdoptCuts
import Derived.Test.YtbcdaglbdnkocaaGreatWhole
set_option linter.unusedVariables false
set_option linter.unusedSimpArgs false
namespace Go.Proofs.YtbcdaglbdnkocaaGreat
open Go Go.Ev Go.ChangeShapes Go.WideShapes Go.ChangeAt Go.RowKit

theorem adoptCuts_f1:(Rows.adoptCutsRow.inPlace == Tryz.prog.inPlace 3)=true:=by kernel_rfl
theorem adoptCuts_f2:(Rows.adoptCutsRow.unfollowed == Tryz.prog.unfollowed 3)=true:=by kernel_rfl
theorem adoptCuts_f3:(Rows.adoptCutsRow.recurses == Tryz.prog.recurses 3)=true:=by kernel_rfl
theorem adoptCuts_f4:(Rows.adoptCutsRow.named == Tryz.prog.varsNamed 3)=true:=by kernel_rfl
theorem adoptCuts_facts:joinedFacts Tryz.prog 3 Tryz.f3 Rows.adoptCutsSpec Rows.adoptCutsRow=true:=by
 unfold joinedFacts
 rw[whole_enter,whole_lifts,whole_make,whole_stops,adoptCuts_f1,adoptCuts_f2,adoptCuts_f3,adoptCuts_f4]
 kernel_rfl

set_option maxRecDepth 100000 in
theorem adoptCuts_lifted (os:Os) (started:os.Started) (H:Type) (enc:TypeId×Value→H) :
  ReturnsInHanded {} Tryz.checked os 3 .any (Rows.adoptCutsSpec.pre6 enc Tryz.prog Tryz.f3 Rows.adoptCutsRow.domain false) (Rows.adoptCutsSpec.post enc Tryz.prog Tryz.f3 false true false false):=by
 refine returnsInHanded_of_change (C:=Tryz.checked) ownKnob_no started (by kernel_rfl) Tryz.func3
  (ChangeSpec.witness6 (enc:=enc) (C:=Tryz.checked) false ⟨#[],#[.agg #[.int .i64 0,.int .i64 0,.int .i64 0],.slice none 0 0,.agg #[.int .i64 0,.int .i64 0,.int .i64 0,.int .i64 0]],[]⟩ 8 (by kernel_rfl) (by kernel_rfl) (by kernel_rfl) (by kernel_rfl)) ?_
 intro W base args ds gs before hval hW _ _
 refine post_of_walk laidOut_yes (by kernel_rfl) (tb:=4) rfl (by kernel_rfl) rfl (fun ds hl=>?_) hW (fun hz=>?_)
 ·obtain⟨d0,d1,d2,rfl⟩:=list3 hl
  exact⟨rfl,rfl,rfl⟩
 ·obtain⟨v0,v1,v2,rfl⟩:=arr3 hz
  obtain⟨x0_0,x0_1,x0_2,rfl,h0_0,h0_1,h0_2⟩:=ints3_of_ok (P:=Tryz.prog) (t0:=3) (k0:=.i64) (t1:=3) (k1:=.i64) (t2:=3) (k2:=.i64) (by kernel_rfl) (by kernel_rfl) (by kernel_rfl) (by kernel_rfl) (by kernel_rfl) (by kernel_rfl) (hval 0 _ v0 rfl rfl)
  obtain⟨d1,p1,hd1⟩:=whole_nth hW (j:=1) rfl rfl
  obtain⟨a1,n1,c1,z1,rfl,hn1,hr1,hu1⟩:=ints_of (P:=Tryz.prog) (e:=30) (k:=.u64) (by kernel_rfl) (by kernel_rfl) (by kernel_rfl) (hval 1 _ v1 rfl rfl) hd1
  obtain⟨x2_0,x2_1,x2_2,x2_3,rfl,h2_0,h2_1,h2_2,h2_3⟩:=ints4_of_ok (P:=Tryz.prog) (t0:=3) (k0:=.i64) (t1:=3) (k1:=.i64) (t2:=3) (k2:=.i64) (t3:=3) (k3:=.i64) (by kernel_rfl) (by kernel_rfl) (by kernel_rfl) (by kernel_rfl) (by kernel_rfl) (by kernel_rfl) (by kernel_rfl) (hval 2 _ v2 rfl rfl)
  exact Ends.of_call (l_adoptcuts x0_0 x0_1 x0_2 (i64_bd h0_0) (i64_bd h0_1) (i64_bd h0_2) hn1 hr1 hu1 x2_0 x2_1 x2_2 x2_3 (i64_bd h2_0) (i64_bd h2_1) (i64_bd h2_2) (i64_bd h2_3))

theorem adoptCuts_holds:Rows.AdoptCutsSaid:=
 OpenClaim.holds_of_wide 3 Tryz.f3 rfl rfl rfl rfl rfl rfl rfl ⟨rfl,rfl,rfl,rfl,rfl⟩ rfl rfl rfl rfl rfl (by kernel_rfl) Tryz.func3 adoptCuts_facts
  (of_decide_eq_true (by kernel_rfl)) (by unfold Func.isWrapper;rw[if_neg (by decide +kernel)];exact⟨rfl,rfl⟩)
  (fun os started H enc _=>adoptCuts_lifted os started H enc)

end Go.Proofs.YtbcdaglbdnkocaaGreat
