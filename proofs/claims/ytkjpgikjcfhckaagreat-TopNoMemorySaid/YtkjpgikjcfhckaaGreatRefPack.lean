/-
 The document's readers of words, and its small helpers, as pure functions. Conditions: none.
-/
import Derived.Test.YtkjpgikjcfhckaaGreatCodeX
import Derived.Test.YtkjpgikjcfhckaaGreatPack
import Derived.Test.YtkjpgikjcfhckaaGreatCode
open Nat renaming reduceAdd→xA,reduceMul→xB,reduceSub→xC,reduceEqDiff→xD,reduceBEq→xE,reduceLeDiff→xF,reduceLT→xG
open Int renaming reduceAdd→xH,reduceMul→xI,reduceSub→xJ,reduceLT→xK,reduceLE→xL,reduceToNat→xM,reduceEq→xN,reduceNe→xO,reduceBEq→xP,reduceBNe→xQ
set_option linter.unusedVariables false
set_option linter.unusedSimpArgs false
set_option maxRecDepth 8000
namespace Go.Proofs.YtkjpgikjcfhckaaGreat
open Go Go.Ev Go.Pl Go.Ma

theorem q_readen (s:Sh) {w:Int} (hw:U w):PureC Tryz.prog 24 #[.agg #[.int .i64 s.p,.int .i64 s.c,.int .i64 s.m],.int .u64 w] (.tuple #[.agg #[.int .i64 (enP s w),.int .i64 (enS s w),.int .i64 (enK s w)],.bool (okEn s w)]):=by
 refine PureC.of mixed Tryz.func24 (by kernel_rfl) tr24 (by show 2≤_;decide) fun W H=>?_
 simp only[↓DD,UU,xA]
 refine newB_intro fun x hx f1 f2=>?_
 refine newB_intro fun y hy f3 f4=>?_
 have nxy:(x=y)=False:=f3 x (by rw[upd_same];rfl)
 have nyx:(y=x)=False:=f4 x (by rw[upd_same];rfl)
 have a1:bits .and .u64 (w / 16) 255=pt w 16:=and255 (U_div hw 16 (by decide))
 have a2:bits .and .u64 (w / 4096) 255=pt w 4096:=and255 (U_div hw 4096 (by decide))
 have a3:bits .and .u64 (w / 1048576) 255=pt w 1048576:=and255 (U_div hw 1048576 (by decide))
 have b1:w64 (pt w 16)=pt w 16:=w64_byte
 have b2:w64 (pt w 4096)=pt w 4096:=w64_byte
 have b3:w64 (pt w 1048576)=pt w 1048576:=w64_byte
 simp only[shr4,shr12,shr20,a1,a2,a3,wrap_w64,b1,b2,b3,↓DD,UU,xA,xE,xL,xM]
 refine newB_intro fun z hz f5 f6=>?_
 have nxz:(x=z)=False:=f5 x (by rw[is_upd,upd_same];simp)
 have nzx:(z=x)=False:=f6 x (by rw[is_upd,upd_same];simp)
 have nyz:(y=z)=False:=f5 y (by rw[upd_same];rfl)
 have nzy:(z=y)=False:=f6 y (by rw[upd_same];rfl)
 by_cases e1:putEn (pt w 16) (pt w 4096) (pt w 1048576)=w
 ·have g1:(putEn (pt w 16) (pt w 4096) (pt w 1048576) != w)=false:=by simp [e1]
  by_cases e2:page s.p s.c s.m (pt w 16)<0
  ·have hok:okEn s w=false:=by unfold okEn;simp [e1];omega
   simp only[u_puten,u_page,g1,decide_eq_true e2,nxy,nxz,nyz,↓DD,UU,↓reduceIte,xA,xC,xE,xF]
   simp only[enP,enS,enK,hok,Bool.false_eq_true,if_false]
   exact⟨trivial,(((((Sep.one H).new f1 _).new f3 _).new f5 _).p1.set _).tail.tail.tail.head⟩
  ·have g2:decide (page s.p s.c s.m (pt w 16)<0)=false:=decide_eq_false e2
   by_cases e3:pt w 4096<slots (pt w 1048576)
   ·have g3:decide (slots (pt w 1048576)≤pt w 4096)=false:=decide_eq_false (by omega)
    have hok:okEn s w=true:=by unfold okEn;rw[decide_eq_true e1,decide_eq_true e3,decide_eq_true (by omega:0≤page s.p s.c s.m (pt w 16))];rfl
    simp only[u_puten,u_page,u_slots,g1,g2,g3,nxy,nxz,nyz,↓DD,UU,↓reduceIte,xA,xC,xE,xF]
    simp only[enP,enS,enK,hok,if_true]
    exact⟨trivial,(((((Sep.one H).new f1 _).new f3 _).new f5 _).p1.set _).tail.tail.tail.head⟩
   ·have g3:decide (slots (pt w 1048576)≤pt w 4096)=true:=decide_eq_true (by omega)
    have hok:okEn s w=false:=by unfold okEn;rw[decide_eq_false e3,Bool.and_false,Bool.and_false]
    simp only[u_puten,u_page,u_slots,g1,g2,g3,nxy,nxz,nyz,↓DD,UU,↓reduceIte,xA,xC,xE,xF]
    simp only[enP,enS,enK,hok,Bool.false_eq_true,if_false]
    exact⟨trivial,(((((Sep.one H).new f1 _).new f3 _).new f5 _).p1.set _).tail.tail.tail.head⟩
 ·have g1:(putEn (pt w 16) (pt w 4096) (pt w 1048576) != w)=true:=by simp [e1]
  have hok:okEn s w=false:=by unfold okEn;simp [e1]
  simp only[u_puten,g1,nyz,↓DD,UU,↓reduceIte,xA,xC,xE,xF]
  simp only[enP,enS,enK,hok,Bool.false_eq_true,if_false]
  exact⟨trivial,(((((Sep.one H).new f1 _).new f3 _).new f5 _).p1.set _).tail.tail.tail.head⟩
theorem u_readen (s:Sh) {w:Int} (hw:U w):pv Tryz.prog 24 #[.agg #[.int .i64 s.p,.int .i64 s.c,.int .i64 s.m],.int .u64 w] = some (.tuple #[.agg #[.int .i64 (enP s w),.int .i64 (enS s w),.int .i64 (enK s w)],.bool (okEn s w)]):=pv_of (q_readen s hw)

end Go.Proofs.YtkjpgikjcfhckaaGreat
