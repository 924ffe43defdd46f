/-
 What a status's word says: the program's and the document's, as pure functions. Conditions: none.
-/
import Derived.Test.YtkjpgikjcfhckaaGreatRefPack
import Derived.Test.YtkjpgikjcfhckaaGreatMaHeap
open Nat renaming reduceAdd→xA,reduceMul→xB,reduceSub→xC,reduceEqDiff→xD,reduceBEq→xE,reduceLeDiff→xF,reduceLT→xG
open Int renaming reduceAdd→xH,reduceMul→xI,reduceSub→xJ,reduceLT→xK,reduceLE→xL,reduceToNat→xM,reduceEq→xN,reduceNe→xO,reduceBEq→xP,reduceBNe→xQ
set_option linter.unusedVariables false
set_option linter.unusedSimpArgs false
set_option maxRecDepth 8000
namespace Go.Proofs.YtkjpgikjcfhckaaGreat
open Go Go.Ev Go.Pl Go.Ma

theorem putSt_no {k a:Int} (h:¬ (0≤k∧k≤4∧0≤a∧a≤255∧(k≠3→a=0))):putSt k a=0:=if_neg h
theorem p_putst (k a:Int):PureC Tryz.prog 92 #[.int .i64 k,.int .i64 a] (.int .u64 (putSt k a)):=by
 refine PureC.of mixed Tryz.func92 (by kernel_rfl) tr92 (by show 2≤_;decide) fun W H=>?_
 by_cases h1:k<0
 ·have e0:putSt k a=0:=putSt_no (by omega)
  simp only[decide_eq_true h1,e0,↓DD,UU,xA,xE];exact Sub.refl H
 have e1:=decide_eq_false h1
 by_cases h2:4<k
 ·have e0:putSt k a=0:=putSt_no (by omega)
  simp only[e1,decide_eq_true h2,e0,↓DD,UU,xA,xE];exact Sub.refl H
 have e2:=decide_eq_false h2
 by_cases h3:k=3
 ·have g1:(k != 3)=false:=by simp [h3]
  simp only[e1,e2,g1,↓DD,UU,xA,xE]
  refine newB_intro fun y hy f3 f4=>?_
  refine callT_of (c_put1 k a (by omega) (upd_same ..)) ?_
  rintro v H' ⟨rfl,rfl⟩
  simp only[↓DD,UU,xA]
  refine⟨?_,(Sub.refl H).new f3⟩
  congr 1;unfold putSt;by_cases hr:0≤a∧a≤255
  ·rw[if_pos hr,if_pos (by omega)]
  ·rw[if_neg hr,if_neg (by omega)]
 ·have g1:(k != 3)=true:=by simp [h3]
  by_cases h4:a=0
  ·have g2:(a != 0)=false:=by simp [h4]
   simp only[e1,e2,g1,g2,↓DD,UU,xA,xE]
   refine newB_intro fun y hy f3 f4=>?_
   refine callT_of (c_put1 k a (by omega) (upd_same ..)) ?_
   rintro v H' ⟨rfl,rfl⟩
   simp only[↓DD,UU,xA]
   refine⟨?_,(Sub.refl H).new f3⟩
   congr 1;unfold putSt;rw[if_pos (by omega),if_pos (by omega)]
  ·have g2:(a != 0)=true:=by simp [h4]
   have e0:putSt k a=0:=putSt_no (by omega)
   simp only[e1,e2,g1,g2,e0,↓DD,UU,xA,xE];exact Sub.refl H
theorem v_putst (k a:Int):pv Tryz.prog 92 #[.int .i64 k,.int .i64 a] = some (.int .u64 (putSt k a)):=pv_of (p_putst k a)
theorem p_readst {w:Int} (hw:U w):PureC Tryz.prog 75 #[.int .u64 w] (.tuple #[.int .i64 (stK w),.int .i64 (stB w)]):=by
 refine PureC.of mixed Tryz.func75 (by kernel_rfl) tr75 (by show 1≤_;decide) fun W H=>?_
 by_cases e1:putSt (w % 16) (pt w 16)=w
 ·have g1:(putSt (w % 16) (pt w 16) != w)=false:=by simp [e1]
  have k1:stK w=w % 16:=if_pos e1
  have k2:stB w=pt w 16:=if_pos e1
  simp only[v_kind hw,v_part0 hw,v_putst,g1,k1,k2,↓DD,UU,xE]
  exact Sub.refl H
 ·have g1:(putSt (w % 16) (pt w 16) != w)=true:=by simp [e1]
  have k1:stK w=0:=if_neg e1
  have k2:stB w=0:=if_neg e1
  simp only[v_kind hw,v_part0 hw,v_putst,g1,k1,k2,↓DD,UU,xE]
  exact Sub.refl H
theorem v_readst {w:Int} (hw:U w):pv Tryz.prog 75 #[.int .u64 w] = some (.tuple #[.int .i64 (stK w),.int .i64 (stB w)]):=pv_of (p_readst hw)
end Go.Proofs.YtkjpgikjcfhckaaGreat
