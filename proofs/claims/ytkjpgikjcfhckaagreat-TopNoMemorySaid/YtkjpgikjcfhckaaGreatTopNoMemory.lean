/-
 The statement: 'TopNoMemory' answers true: who is told that there is no memory: another one claimed a slot of the class, or a page, since its first step, or there was nothing of what it asked for at its first step. Conditions: none.
-/
import Derived.Test.YtkjpgikjcfhckaaGreatNmX
import Derived.Test.YtkjpgikjcfhckaaGreatWhole
set_option linter.unusedVariables false
set_option linter.unusedSimpArgs false
namespace Go.Proofs.YtkjpgikjcfhckaaGreat
open Go Go.Ev Go.ChangeShapes Go.WideShapes Go.ChangeAt Go.RowKit

theorem topNoMemory_f1:(Rows.topNoMemoryRow.inPlace == Tryz.prog.inPlace 5)=true:=by kernel_rfl
theorem topNoMemory_f2:(Rows.topNoMemoryRow.unfollowed == Tryz.prog.unfollowed 5)=true:=by kernel_rfl
theorem topNoMemory_f3:(Rows.topNoMemoryRow.recurses == Tryz.prog.recurses 5)=true:=by kernel_rfl
theorem topNoMemory_f4:(Rows.topNoMemoryRow.named == Tryz.prog.varsNamed 5)=true:=by kernel_rfl
theorem topNoMemory_facts:joinedFacts Tryz.prog 5 Tryz.f5 Rows.topNoMemorySpec Rows.topNoMemoryRow=true:=by
 unfold joinedFacts
 rw[whole_enter,whole_lifts,whole_make,whole_stops,topNoMemory_f1,topNoMemory_f2,topNoMemory_f3,topNoMemory_f4]
 kernel_rfl

set_option maxRecDepth 100000 in
theorem topNoMemory_lifted (os:Os) (started:os.Started) (H:Type) (enc:TypeId×Value→H) :
  ReturnsInHanded {} Tryz.checked os 5 .any (Rows.topNoMemorySpec.pre6 enc Tryz.prog Tryz.f5 Rows.topNoMemoryRow.domain false) (Rows.topNoMemorySpec.post enc Tryz.prog Tryz.f5 false true false false):=by
 refine returnsInHanded_of_change (C:=Tryz.checked) ownKnob_no started (by kernel_rfl) Tryz.func5
  (ChangeSpec.witness6 (enc:=enc) (C:=Tryz.checked) false ⟨#[],#[.agg #[.int .i64 0,.int .i64 0,.int .i64 0],.slice none 0 0],[]⟩ 8 (by kernel_rfl) (by kernel_rfl) (by kernel_rfl) (by kernel_rfl)) ?_
 intro W base args ds gs before hval hW _ _
 refine post_of_walk laidOut_yes (by kernel_rfl) (tb:=4) rfl (by kernel_rfl) rfl (fun ds hl=>?_) hW (fun hz=>?_)
 ·obtain⟨d0,d1,rfl⟩:=list2 hl
  exact⟨rfl,rfl,rfl⟩
 ·obtain⟨v0,v1,rfl⟩:=arr2 hz
  obtain⟨x0_0,x0_1,x0_2,rfl,h0_0,h0_1,h0_2⟩:=ints3_of_ok (P:=Tryz.prog) (t0:=3) (k0:=.i64) (t1:=3) (k1:=.i64) (t2:=3) (k2:=.i64) (by kernel_rfl) (by kernel_rfl) (by kernel_rfl) (by kernel_rfl) (by kernel_rfl) (by kernel_rfl) (hval 0 _ v0 rfl rfl)
  obtain⟨d1,p1,hd1⟩:=whole_nth hW (j:=1) rfl rfl
  obtain⟨a1,n1,c1,z1,rfl,hn1,hr1⟩:=choices_of (P:=Tryz.prog) (by kernel_rfl) Tryz.underlying39 (by kernel_rfl) rfl rfl rfl rfl (by kernel_rfl) (by kernel_rfl) (by kernel_rfl) (by kernel_rfl) (by kernel_rfl) (by kernel_rfl) Tryz.underlying34 (by kernel_rfl) rfl rfl rfl (by kernel_rfl) (by kernel_rfl) (by kernel_rfl) (by kernel_rfl) (by kernel_rfl) (by kernel_rfl) (hval 1 _ v1 rfl rfl) hd1
  exact Ends.of_call (l_topnomemory x0_0 x0_1 x0_2 (i64_bd h0_0) (i64_bd h0_1) (i64_bd h0_2) hn1 hr1)

theorem topNoMemory_holds:Rows.TopNoMemorySaid:=
 OpenClaim.holds_of_wide 5 Tryz.f5 rfl rfl rfl rfl rfl rfl rfl ⟨rfl,rfl,rfl,rfl,rfl⟩ rfl rfl rfl rfl rfl (by kernel_rfl) Tryz.func5 topNoMemory_facts
  (of_decide_eq_true (by kernel_rfl)) (by unfold Func.isWrapper;rw[if_neg (by decide +kernel)];exact⟨rfl,rfl⟩)
  (fun os started H enc _=>topNoMemory_lifted os started H enc)

end Go.Proofs.YtkjpgikjcfhckaaGreat
