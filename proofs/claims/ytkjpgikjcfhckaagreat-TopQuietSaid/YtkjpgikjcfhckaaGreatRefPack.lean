/-
 The document's readers of words, and its small helpers, as pure functions. Conditions: none.
-/
import Derived.Test.YtkjpgikjcfhckaaGreatCodeX
import Derived.Test.YtkjpgikjcfhckaaGreatPack
import Derived.Test.YtkjpgikjcfhckaaGreatCode
open Nat renaming reduceAdd→xA,reduceMul→xB,reduceSub→xC,reduceEqDiff→xD,reduceBEq→xE,reduceLeDiff→xF,reduceLT→xG
open Int renaming reduceAdd→xH,reduceMul→xI,reduceSub→xJ,reduceLT→xK,reduceLE→xL,reduceToNat→xM,reduceEq→xN,reduceNe→xO,reduceBEq→xP,reduceBNe→xQ
set_option linter.unusedVariables false
set_option linter.unusedSimpArgs false
set_option maxRecDepth 8000
namespace Go.Proofs.YtkjpgikjcfhckaaGreat
open Go Go.Ev Go.Pl Go.Ma

theorem q_readen (s:Sh) {w:Int} (hw:U w):PureC Tryz.prog 24 #[.agg #[.int .i64 s.p,.int .i64 s.c,.int .i64 s.m],.int .u64 w] (.tuple #[.agg #[.int .i64 (enP s w),.int .i64 (enS s w),.int .i64 (enK s w)],.bool (okEn s w)]):=by
 refine PureC.of mixed Tryz.func24 (by kernel_rfl) tr24 (by show 2≤_;decide) fun W H=>?_
 simp only[↓DD,UU,xA]
 refine newB_intro fun x hx f1 f2=>?_
 refine newB_intro fun y hy f3 f4=>?_
 have nxy:(x=y)=False:=f3 x (by rw[upd_same];rfl)
 have nyx:(y=x)=False:=f4 x (by rw[upd_same];rfl)
 have a1:bits .and .u64 (w / 16) 255=pt w 16:=and255 (U_div hw 16 (by decide))
 have a2:bits .and .u64 (w / 4096) 255=pt w 4096:=and255 (U_div hw 4096 (by decide))
 have a3:bits .and .u64 (w / 1048576) 255=pt w 1048576:=and255 (U_div hw 1048576 (by decide))
 have b1:w64 (pt w 16)=pt w 16:=w64_byte
 have b2:w64 (pt w 4096)=pt w 4096:=w64_byte
 have b3:w64 (pt w 1048576)=pt w 1048576:=w64_byte
 simp only[shr4,shr12,shr20,a1,a2,a3,wrap_w64,b1,b2,b3,↓DD,UU,xA,xE,xL,xM]
 refine newB_intro fun z hz f5 f6=>?_
 have nxz:(x=z)=False:=f5 x (by rw[is_upd,upd_same];simp)
 have nzx:(z=x)=False:=f6 x (by rw[is_upd,upd_same];simp)
 have nyz:(y=z)=False:=f5 y (by rw[upd_same];rfl)
 have nzy:(z=y)=False:=f6 y (by rw[upd_same];rfl)
 by_cases e1:putEn (pt w 16) (pt w 4096) (pt w 1048576)=w
 ·have g1:(putEn (pt w 16) (pt w 4096) (pt w 1048576) != w)=false:=by simp [e1]
  by_cases e2:page s.p s.c s.m (pt w 16)<0
  ·have hok:okEn s w=false:=by unfold okEn;simp [e1];omega
   simp only[u_puten,u_page,g1,decide_eq_true e2,nxy,nxz,nyz,↓DD,UU,↓reduceIte,xA,xC,xE,xF]
   simp only[enP,enS,enK,hok,Bool.false_eq_true,if_false]
   exact⟨trivial,(((((Sep.one H).new f1 _).new f3 _).new f5 _).p1.set _).tail.tail.tail.head⟩
  ·have g2:decide (page s.p s.c s.m (pt w 16)<0)=false:=decide_eq_false e2
   by_cases e3:pt w 4096<slots (pt w 1048576)
   ·have g3:decide (slots (pt w 1048576)≤pt w 4096)=false:=decide_eq_false (by omega)
    have hok:okEn s w=true:=by unfold okEn;rw[decide_eq_true e1,decide_eq_true e3,decide_eq_true (by omega:0≤page s.p s.c s.m (pt w 16))];rfl
    simp only[u_puten,u_page,u_slots,g1,g2,g3,nxy,nxz,nyz,↓DD,UU,↓reduceIte,xA,xC,xE,xF]
    simp only[enP,enS,enK,hok,if_true]
    exact⟨trivial,(((((Sep.one H).new f1 _).new f3 _).new f5 _).p1.set _).tail.tail.tail.head⟩
   ·have g3:decide (slots (pt w 1048576)≤pt w 4096)=true:=decide_eq_true (by omega)
    have hok:okEn s w=false:=by unfold okEn;rw[decide_eq_false e3,Bool.and_false,Bool.and_false]
    simp only[u_puten,u_page,u_slots,g1,g2,g3,nxy,nxz,nyz,↓DD,UU,↓reduceIte,xA,xC,xE,xF]
    simp only[enP,enS,enK,hok,Bool.false_eq_true,if_false]
    exact⟨trivial,(((((Sep.one H).new f1 _).new f3 _).new f5 _).p1.set _).tail.tail.tail.head⟩
 ·have g1:(putEn (pt w 16) (pt w 4096) (pt w 1048576) != w)=true:=by simp [e1]
  have hok:okEn s w=false:=by unfold okEn;simp [e1]
  simp only[u_puten,g1,nyz,↓DD,UU,↓reduceIte,xA,xC,xE,xF]
  simp only[enP,enS,enK,hok,Bool.false_eq_true,if_false]
  exact⟨trivial,(((((Sep.one H).new f1 _).new f3 _).new f5 _).p1.set _).tail.tail.tail.head⟩
theorem u_readen (s:Sh) {w:Int} (hw:U w):pv Tryz.prog 24 #[.agg #[.int .i64 s.p,.int .i64 s.c,.int .i64 s.m],.int .u64 w] = some (.tuple #[.agg #[.int .i64 (enP s w),.int .i64 (enS s w),.int .i64 (enK s w)],.bool (okEn s w)]):=pv_of (q_readen s hw)

theorem q_readpg (s:Sh) (i:Int) {w:Int} (hw:U w):PureC Tryz.prog 27 #[.agg #[.int .i64 s.p,.int .i64 s.c,.int .i64 s.m],.int .i64 i,.int .u64 w] (.tuple #[.agg #[.int .i64 (pgK s i w),.int .i64 (pgA s i w),.int .i64 (pgB s i w)],.bool (okPg s i w)]):=by
 refine PureC.of mixed Tryz.func27 (by kernel_rfl) tr27 (by show 3≤_;decide) fun W H=>?_
 simp only[↓DD,UU,xA]
 refine newB_intro fun x hx f1 f2=>?_
 refine newB_intro fun y hy f3 f4=>?_
 have nxy:(x=y)=False:=f3 x (by rw[upd_same];rfl)
 have nyx:(y=x)=False:=f4 x (by rw[upd_same];rfl)
 have a0:bits .and .u64 w 15=w % 16:=and15 hw
 have a1:bits .and .u64 (w / 16) 255=pt w 16:=and255 (U_div hw 16 (by decide))
 have a2:bits .and .u64 (w / 4096) 255=pt w 4096:=and255 (U_div hw 4096 (by decide))
 have b0:w64 (w % 16)=w % 16:=w64_nib
 have b1:w64 (pt w 16)=pt w 16:=w64_byte
 have b2:w64 (pt w 4096)=pt w 4096:=w64_byte
 simp only[shr4,shr12,a0,a1,a2,wrap_w64,b0,b1,b2,↓DD,UU,xA,xE,xL,xM]
 refine newB_intro fun z hz f5 f6=>?_
 have nxz:(x=z)=False:=f5 x (by rw[is_upd,upd_same];simp)
 have nzx:(z=x)=False:=f6 x (by rw[is_upd,upd_same];simp)
 have nyz:(y=z)=False:=f5 y (by rw[upd_same];rfl)
 have nzy:(z=y)=False:=f6 y (by rw[upd_same];rfl)
 by_cases e1:putPg (w % 16) (pt w 16) (pt w 4096)=w
 rotate_left
 ·have g1:(putPg (w % 16) (pt w 16) (pt w 4096) != w)=true:=by simp [e1]
  have hok:okPg s i w=false:=by unfold okPg;simp [e1]
  simp only[u_putpg,g1,nyz,↓DD,UU,↓reduceIte,xA,xC,xE,xF]
  simp only[pgK,pgA,pgB,hok,Bool.false_eq_true,if_false]
  exact⟨trivial,(((((Sep.one H).new f1 _).new f3 _).new f5 _).p1.set _).tail.tail.tail.head⟩
 have g1:(putPg (w % 16) (pt w 16) (pt w 4096) != w)=false:=by simp [e1]
 by_cases e2:page s.p s.c s.m i<0
 ·have hok:okPg s i w=false:=by unfold okPg;simp [e1];omega
  simp only[u_putpg,u_page,g1,decide_eq_true e2,nxy,nxz,nyz,↓DD,UU,↓reduceIte,xA,xC,xE,xF]
  simp only[pgK,pgA,pgB,hok,Bool.false_eq_true,if_false]
  exact⟨trivial,(((((Sep.one H).new f1 _).new f3 _).new f5 _).p1.set _).tail.tail.tail.head⟩
 obtain⟨hm,h0,h1⟩:may s.p s.c s.m=true∧0≤i∧i<s.p:=by
  have:=(page_lt0 s.p s.c s.m i);exact Decidable.not_not.1 fun h=>e2 (this.2 h)
 obtain⟨m1,m2,m3,m4,m5,m6⟩:=(may_iff _ _ _).1 hm
 have g2:decide (page s.p s.c s.m i<0)=false:=decide_eq_false e2
 have hok:okPg s i w=fits s i (w % 16) (pt w 16) (pt w 4096):=by unfold okPg;rw[decide_eq_true e1,decide_eq_true (by omega:0≤page s.p s.c s.m i)];rfl
 have hb:=pt_bd w 16
 have w1:w64 (i+pt w 16)=i+pt w 16:=w64_eq (by omega) (by omega)
 have w2:w64 (i - pt w 16)=i - pt w 16:=w64_eq (by omega) (by omega)
 have c3:decide (i+pt w 16≤s.p)=decide (pt w 16≤s.p - i):=decide_eq_decide.2 (by omega)
 have c4:decide (i - pt w 16<8)=decide (i - 8<pt w 16):=decide_eq_decide.2 (by omega)
 have fin:∀ (ok:Bool),fits s i (w % 16) (pt w 16) (pt w 4096)=ok→okPg s i w=ok∧pgK s i w=(if ok then w % 16 else 0)∧pgA s i w=(if ok then pt w 16 else 0)∧pgB s i w=(if ok then pt w 4096 else 0):=fun ok h=>by
  subst h;refine⟨hok,?_,?_,?_⟩<;>simp only[pgK,pgA,pgB,hok]
 by_cases k1:w % 16=1
 ·have q1:(w % 16 == 1)=true:=by simp [k1]
  cases hf:decide (pt w 16<s.c)
  all_goals
   obtain⟨e5,e6,e7,e8⟩:=fin _ (by unfold fits;rw[if_pos k1,hf])
   rw[e5,e6,e7,e8]
   simp only[u_putpg,u_page,g1,g2,q1,hf,nxy,nxz,nyz,↓DD,UU,↓reduceIte,xA,xC,xE,xF]
   exact(((((Sep.one H).new f1 _).new f3 _).new f5 _).p1.set _).tail.tail.tail.head
 have q1:(w % 16 == 1)=false:=by simp [k1]
 by_cases k2:w % 16=2
 ·have q2:(w % 16 == 2)=true:=by simp [k2]
  cases hf:decide (pt w 16<4)<;>cases hf':decide (pt w 4096<s.c)
  all_goals
   obtain⟨e5,e6,e7,e8⟩:=fin _ (by unfold fits;rw[if_neg k1,if_pos k2,hf,hf'])
   rw[e5,e6,e7,e8]
   simp only[u_putpg,u_page,g1,g2,q1,q2,hf,hf',nxy,nxz,nyz,Bool.and_false,Bool.and_self,↓DD,UU,↓reduceIte,xA,xC,xE,xF]
   exact(((((Sep.one H).new f1 _).new f3 _).new f5 _).p1.set _).tail.tail.tail.head
 have q2:(w % 16 == 2)=false:=by simp [k2]
 by_cases k3:w % 16=3
 ·have q3:(w % 16 == 3)=true:=by simp [k3]
  cases hf:decide (1≤pt w 16)<;>cases hf':decide (pt w 16≤8)<;>cases hg:decide (pt w 16≤s.p - i)
  all_goals
   obtain⟨e5,e6,e7,e8⟩:=fin _ (by unfold fits;rw[if_neg k1,if_neg k2,if_pos k3,hf,hf',hg])
   rw[e5,e6,e7,e8]
   simp only[u_putpg,u_page,g1,g2,q1,q2,q3,wrap_w64,w1,c3,hf,hf',hg,nxy,nxz,nyz,Bool.and_false,Bool.and_self,↓DD,UU,↓reduceIte,xA,xC,xE,xF]
   exact(((((Sep.one H).new f1 _).new f3 _).new f5 _).p1.set _).tail.tail.tail.head
 have q3:(w % 16 == 3)=false:=by simp [k3]
 by_cases k4:w % 16=4
 ·have q4:(w % 16 == 4)=true:=by simp [k4]
  cases hf:decide (pt w 16<i)<;>cases hf':decide (i - 8<pt w 16)
  all_goals
   obtain⟨e5,e6,e7,e8⟩:=fin _ (by unfold fits;rw[if_neg k1,if_neg k2,if_neg k3,if_pos k4,hf,hf'])
   rw[e5,e6,e7,e8]
   simp only[u_putpg,u_page,g1,g2,q1,q2,q3,q4,wrap_w64,w2,c4,hf,hf',nxy,nxz,nyz,Bool.and_false,Bool.and_self,↓DD,UU,↓reduceIte,xA,xC,xE,xF]
   exact(((((Sep.one H).new f1 _).new f3 _).new f5 _).p1.set _).tail.tail.tail.head
 have q4:(w % 16 == 4)=false:=by simp [k4]
 obtain⟨e5,e6,e7,e8⟩:=fin true (by unfold fits;rw[if_neg k1,if_neg k2,if_neg k3,if_neg k4])
 rw[e5,e6,e7,e8]
 simp only[u_putpg,u_page,g1,g2,q1,q2,q3,q4,nxy,nxz,nyz,↓DD,UU,↓reduceIte,xA,xC,xE,xF]
 exact(((((Sep.one H).new f1 _).new f3 _).new f5 _).p1.set _).tail.tail.tail.head
theorem u_readpg (s:Sh) (i:Int) {w:Int} (hw:U w):pv Tryz.prog 27 #[.agg #[.int .i64 s.p,.int .i64 s.c,.int .i64 s.m],.int .i64 i,.int .u64 w] = some (.tuple #[.agg #[.int .i64 (pgK s i w),.int .i64 (pgA s i w),.int .i64 (pgB s i w)],.bool (okPg s i w)]):=pv_of (q_readpg s i hw)

end Go.Proofs.YtkjpgikjcfhckaaGreat
