/-
 The reference's functions for chapter 3, as the same pure functions. Conditions: none.
-/
import Derived.Test.YtkjpgikjcfhckaaGreatPlan
open Nat renaming reduceAdd→xA,reduceMul→xB,reduceSub→xC,reduceEqDiff→xD,reduceBEq→xE,reduceLeDiff→xF,reduceLT→xG
open Int renaming reduceAdd→xH,reduceMul→xI,reduceSub→xJ,reduceLT→xK,reduceLE→xL,reduceToNat→xM,reduceEq→xN,reduceNe→xO,reduceBEq→xP,reduceBNe→xQ
set_option linter.unusedVariables false
set_option linter.unusedSimpArgs false
namespace Go.Proofs.YtkjpgikjcfhckaaGreat
open Go Go.Ev Go.Pl

theorem q_may (p c m:Int):PureC Tryz.prog 34 #[.agg #[.int .i64 p,.int .i64 c,.int .i64 m]] (.bool (may p c m)):=by
 refine PureC.of mixed Tryz.func34 (by kernel_rfl) tr34 (by show 1≤_;decide) fun W H=>?_
 simp only[↓DD,UU]
 refine newB_intro fun b hb h1 h2=>?_
 have hsub:∀ o,Sub H (upd H b o):=fun o=>(Sub.refl H).new h1
 simp only[↓DD,UU,↓reduceIte,xE,eq_self]
 repeat' (refine both_intro (fun g=>?_) (fun g=>?_)<;>simp only[g,↓DD,UU,↓reduceIte,xE,eq_self])
 all_goals
  refine⟨congrArg Value.bool ?_,hsub _⟩
  simp only[decide_eq_true_eq,decide_eq_false_iff_not]at *
  first
   | (rw[eq_comm,may_iff];omega)
   | (rw[eq_comm,may_no];omega)
   | (rw[Bool.eq_iff_iff,may_iff,decide_eq_true_eq];omega)
theorem u_may (p c m:Int):pv Tryz.prog 34 #[.agg #[.int .i64 p,.int .i64 c,.int .i64 m]] = some (.bool (may p c m)):=pv_of (q_may p c m)

def classJ (n:Int) (H:Hp) (F':Fr) (H':Hp):Prop:=∃ k:Int,0≤k∧k≤cls n∧gt F' 4=.int .i64 k∧gt F' 0=.int .i64 n∧H'=H
theorem q_words (p c m:Int):PureC Tryz.prog 80 #[.agg #[.int .i64 p,.int .i64 c,.int .i64 m]] (.int .i64 (words p c m)):=by
 refine PureC.of mixed Tryz.func80 (by kernel_rfl) tr80 (by show 1≤_;decide) fun W H=>?_
 simp only[↓DD,UU]
 refine newB_intro fun b hb h1 h2=>?_
 have hsub:∀ o,Sub H (upd H b o):=fun o=>(Sub.refl H).new h1
 cases h:may p c m
 ·simp only[u_may,h,↓DD,UU,↓reduceIte,xA,xC,xE,xF,eq_self]
  simp [words,h,hsub]
 ·have hm:=(may_iff _ _ _).1 h
  have hb:=mul_bd c m (by omega) (by omega) (by omega) (by omega)
  have e1:w64 (c+p)=c+p:=w64_eq (by omega) (by omega)
  have e2:w64 (16*p)=p*16:=by rw[w64_eq (by omega) (by omega)];omega
  have e3:w64 (c+p+p*16)=c+p+p*16:=w64_eq (by omega) (by omega)
  have e4:w64 (c*m)=c*m:=w64_eq (by omega) (by omega)
  have e5:w64 (c+p+p*16+c*m)=c+p+p*16+c*m:=w64_eq (by omega) (by omega)
  simp only[u_may,h,wrap_w64,e1,e2,e3,e4,e5,↓DD,UU,↓reduceIte,xA,xC,xE,xF,eq_self]
  simp [words,h,hsub]
theorem u_words (p c m:Int):pv Tryz.prog 80 #[.agg #[.int .i64 p,.int .i64 c,.int .i64 m]] = some (.int .i64 (words p c m)):=pv_of (q_words p c m)

end Go.Proofs.YtkjpgikjcfhckaaGreat
