/-
 The functions of package cap, and those of the reference for chapter 19, as the same pure functions. Conditions: none.
-/
import Derived.Test.YtkjpgikjcfhckaaGreatRefPlan
open Nat renaming reduceAdd→xA,reduceMul→xB,reduceSub→xC,reduceEqDiff→xD,reduceBEq→xE,reduceLeDiff→xF,reduceLT→xG
open Int renaming reduceAdd→xH,reduceMul→xI,reduceSub→xJ,reduceLT→xK,reduceLE→xL,reduceToNat→xM,reduceEq→xN,reduceNe→xO,reduceBEq→xP,reduceBNe→xQ
set_option linter.unusedVariables false
set_option linter.unusedSimpArgs false
namespace Go.Proofs.YtkjpgikjcfhckaaGreat
open Go Go.Ev Go.Pl

def steps (p c m:Int):Int:=if may p c m then 110*p+4*m+60 else 0
def leak (p c m:Int):Int:=if may p c m then 32*m+1024 else 0
def bad0 (p c m cl k a n:Int):Bool:=(k == 4 && (decide (status p c m a<0) || a == cl)) || ((k == 1 || k == 3) && !fine n) || ((k == 2 || k == 3) && !there p c m a)
def nomem (p k n:Int):Bool:=(k == 1 || k == 3) && (large n && decide (p<pages n))
def errno (p c m cl k a n:Int):Int:=if bad0 p c m cl k a n then 1 else if nomem p k n then 3 else 0
def atonce (p c m cl k a n:Int):Bool:=bad0 p c m cl k a n || nomem p k n
def capOf (p c m k a n:Int):Int:=if atonce p c m (-1) k a n || decide (k<1) || decide (4<k) then 0 else steps p c m

theorem p_steps (p c m:Int):PureC Tryz.prog 64 #[.agg #[.int .i64 p,.int .i64 c,.int .i64 m]] (.int .i64 (steps p c m)):=by
 refine PureC.of mixed Tryz.func64 (by kernel_rfl) tr64 (by show 1≤_;decide) fun W H=>?_
 simp only[↓DD,UU]
 refine newB_intro fun b hb h1 h2=>?_
 have hsub:∀ o,Sub H (upd H b o):=fun o=>(Sub.refl H).new h1
 cases h:may p c m
 ·simp only[v_may,h,↓DD,UU,↓reduceIte,xA,xC,xE,xF]
  simp [steps,h,hsub]
 ·have hm:=(may_iff _ _ _).1 h
  have e1:w64 (110*p)=110*p:=w64_eq (by omega) (by omega)
  have e2:w64 (4*m)=4*m:=w64_eq (by omega) (by omega)
  have e3:w64 (110*p+4*m)=110*p+4*m:=w64_eq (by omega) (by omega)
  have e4:w64 (110*p+4*m+60)=110*p+4*m+60:=w64_eq (by omega) (by omega)
  simp only[v_may,h,wrap_w64,e1,e2,e3,e4,↓DD,UU,↓reduceIte,xA,xC,xE,xF]
  simp [steps,h,hsub]
theorem v_steps (p c m:Int):pv Tryz.prog 64 #[.agg #[.int .i64 p,.int .i64 c,.int .i64 m]] = some (.int .i64 (steps p c m)):=pv_of (p_steps p c m)
theorem kinds (k:Int):k=1∨k=2∨k=3∨k=4∨((k == 1)=false∧(k == 2)=false∧(k == 3)=false∧(k == 4)=false):=by
 by_cases h1:k=1
 ·exact .inl h1
 ·by_cases h2:k=2
  ·exact .inr (.inl h2)
  ·by_cases h3:k=3
   ·exact .inr (.inr (.inl h3))
   ·by_cases h4:k=4
    ·exact .inr (.inr (.inr (.inl h4)))
    ·exact .inr (.inr (.inr (.inr ⟨by simpa using h1,by simpa using h2,by simpa using h3,by simpa using h4⟩)))

theorem p_atonce (p c m cl k a n:Int):PureC Tryz.prog 88 #[.agg #[.int .i64 p,.int .i64 c,.int .i64 m],.int .i64 cl,.agg #[.int .i64 k,.int .i64 a,.int .i64 n]] (.tuple #[.int .i64 (errno p c m cl k a n),.bool (atonce p c m cl k a n)]):=by
 refine PureC.of mixed Tryz.func88 (by kernel_rfl) tr88 (by show 3≤_;decide) fun W H=>?_
 simp only[↓DD,UU,xA]
 refine newB_intro fun b hb h1 h2=>?_
 have hsub:∀ o,Sub H (upd H b o):=fun o=>(Sub.refl H).new h1
 simp only[↓DD,UU,xA,xE]
 refine newB_intro fun b' hb' h1' h2'=>?_
 have hsub':∀ o o',Sub H (upd (upd H b o) b' o'):=fun o o'=>(hsub o).new (fun k hk=>h1' k (by unfold upd at hk ⊢;split<;>simp_all))
 have hne:(b=b')=False:=h1' b (by unfold upd;simp)
 have hne':(b'=b)=False:=h2' b (by unfold upd;simp)
 rcases kinds k with rfl | rfl | rfl | rfl |⟨k1,k2,k3,k4⟩
 all_goals
  simp only[v_length,v_split,v_run,v_status,Int.reduceBEq, *,↓DD,UU,↓reduceIte,xA,xC,xE,xF,xP]
  repeat' (refine both_intro (fun g=>?_) (fun g=>?_)<;>simp only[v_run, *,↓DD,UU,↓reduceIte,xA,xE])
  all_goals simp [errno,atonce,bad0,nomem, *]
theorem v_atonce (p c m cl k a n:Int):pv Tryz.prog 88 #[.agg #[.int .i64 p,.int .i64 c,.int .i64 m],.int .i64 cl,.agg #[.int .i64 k,.int .i64 a,.int .i64 n]] = some (.tuple #[.int .i64 (errno p c m cl k a n),.bool (atonce p c m cl k a n)]):=pv_of (p_atonce p c m cl k a n)
end Go.Proofs.YtkjpgikjcfhckaaGreat
