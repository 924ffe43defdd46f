/-
 The reference's functions for chapter 3, as the same pure functions. Conditions: none.
-/
import Derived.Test.YtkjpgikjcfhckaaGreatPlan
open Nat renaming reduceAdd→xA,reduceMul→xB,reduceSub→xC,reduceEqDiff→xD,reduceBEq→xE,reduceLeDiff→xF,reduceLT→xG
open Int renaming reduceAdd→xH,reduceMul→xI,reduceSub→xJ,reduceLT→xK,reduceLE→xL,reduceToNat→xM,reduceEq→xN,reduceNe→xO,reduceBEq→xP,reduceBNe→xQ
set_option linter.unusedVariables false
set_option linter.unusedSimpArgs false
namespace Go.Proofs.YtkjpgikjcfhckaaGreat
open Go Go.Ev Go.Pl

theorem q_may (p c m:Int):PureC Tryz.prog 34 #[.agg #[.int .i64 p,.int .i64 c,.int .i64 m]] (.bool (may p c m)):=by
 refine PureC.of mixed Tryz.func34 (by kernel_rfl) tr34 (by show 1≤_;decide) fun W H=>?_
 simp only[↓DD,UU]
 refine newB_intro fun b hb h1 h2=>?_
 have hsub:∀ o,Sub H (upd H b o):=fun o=>(Sub.refl H).new h1
 simp only[↓DD,UU,↓reduceIte,xE]
 repeat' (refine both_intro (fun g=>?_) (fun g=>?_)<;>simp only[g,↓DD,UU,↓reduceIte,xE])
 all_goals
  refine⟨congrArg Value.bool ?_,hsub _⟩
  simp only[decide_eq_true_eq,decide_eq_false_iff_not]at *
  first
   | (rw[eq_comm,may_iff];omega)
   | (rw[eq_comm,may_no];omega)
   | (rw[Bool.eq_iff_iff,may_iff,decide_eq_true_eq];omega)
theorem u_may (p c m:Int):pv Tryz.prog 34 #[.agg #[.int .i64 p,.int .i64 c,.int .i64 m]] = some (.bool (may p c m)):=pv_of (q_may p c m)

theorem q_size (k:Int):PureC Tryz.prog 26 #[.int .i64 k] (.int .i64 (size k)):=by
 refine PureC.of mixed Tryz.func26 (by kernel_rfl) tr26 (by show 1≤_;decide) fun W H=>?_
 cases h:within k 0 3
 ·have hk:=(win_no _ _ _).1 h
  simp only[↓DD,UU,xE]
  repeat' (refine both_intro (fun g=>?_) (fun g=>?_)<;>simp only[g,↓DD,UU,xE])
  all_goals
   simp only[decide_eq_true_eq,decide_eq_false_iff_not]at *
   first
    | exact⟨by rw[size_no h],Sub.refl H⟩
    | (exfalso;omega)
 ·rcases class_cases h with rfl | rfl | rfl | rfl
  all_goals
   simp only[Int.reduceLT,Int.reduceLE,decide_false,↓DD,UU,xE,xK,xL]
   first | exact⟨by decide,congrArg (Value.int .i64) (by decide),Sub.refl H⟩| exact⟨congrArg (Value.int .i64) (by decide),Sub.refl H⟩
theorem u_size (k:Int):pv Tryz.prog 26 #[.int .i64 k] = some (.int .i64 (size k)):=pv_of (q_size k)

theorem q_slots (k:Int):PureC Tryz.prog 30 #[.int .i64 k] (.int .i64 (slots k)):=by
 refine PureC.of mixed Tryz.func30 (by kernel_rfl) tr30 (by show 1≤_;decide) fun W H=>?_
 cases h:within k 0 3
 ·have hk:=(win_no _ _ _).1 h
  simp only[↓DD,UU,xE]
  repeat' (refine both_intro (fun g=>?_) (fun g=>?_)<;>simp only[g,↓DD,UU,xE])
  all_goals
   simp only[decide_eq_true_eq,decide_eq_false_iff_not]at *
   first
    | exact⟨by rw[slots_no h],Sub.refl H⟩
    | (exfalso;omega)
 ·rcases class_cases h with rfl | rfl | rfl | rfl
  all_goals
   simp only[Int.reduceLT,Int.reduceLE,decide_false,↓DD,UU,xE,xK,xL]
   first | exact⟨by decide,congrArg (Value.int .i64) (by decide),Sub.refl H⟩| exact⟨congrArg (Value.int .i64) (by decide),Sub.refl H⟩
theorem u_slots (k:Int):pv Tryz.prog 30 #[.int .i64 k] = some (.int .i64 (slots k)):=pv_of (q_slots k)

def classJ (n:Int) (H:Hp) (F':Fr) (H':Hp):Prop:=∃ k:Int,0≤k∧k≤cls n∧gt F' 4=.int .i64 k∧gt F' 0=.int .i64 n∧H'=H
theorem q_words (p c m:Int):PureC Tryz.prog 80 #[.agg #[.int .i64 p,.int .i64 c,.int .i64 m]] (.int .i64 (words p c m)):=by
 refine PureC.of mixed Tryz.func80 (by kernel_rfl) tr80 (by show 1≤_;decide) fun W H=>?_
 simp only[↓DD,UU]
 refine newB_intro fun b hb h1 h2=>?_
 have hsub:∀ o,Sub H (upd H b o):=fun o=>(Sub.refl H).new h1
 cases h:may p c m
 ·simp only[u_may,h,↓DD,UU,↓reduceIte,xA,xC,xE,xF]
  simp [words,h,hsub]
 ·have hm:=(may_iff _ _ _).1 h
  have hb:=mul_bd c m (by omega) (by omega) (by omega) (by omega)
  have e1:w64 (c+p)=c+p:=w64_eq (by omega) (by omega)
  have e2:w64 (16*p)=p*16:=by rw[w64_eq (by omega) (by omega)];omega
  have e3:w64 (c+p+p*16)=c+p+p*16:=w64_eq (by omega) (by omega)
  have e4:w64 (c*m)=c*m:=w64_eq (by omega) (by omega)
  have e5:w64 (c+p+p*16+c*m)=c+p+p*16+c*m:=w64_eq (by omega) (by omega)
  simp only[u_may,h,wrap_w64,e1,e2,e3,e4,e5,↓DD,UU,↓reduceIte,xA,xC,xE,xF]
  simp [words,h,hsub]
theorem u_words (p c m:Int):pv Tryz.prog 80 #[.agg #[.int .i64 p,.int .i64 c,.int .i64 m]] = some (.int .i64 (words p c m)):=pv_of (q_words p c m)

theorem q_status (p c m i:Int):PureC Tryz.prog 68 #[.agg #[.int .i64 p,.int .i64 c,.int .i64 m],.int .i64 i] (.int .i64 (status p c m i)):=by
 refine PureC.of mixed Tryz.func68 (by kernel_rfl) tr68 (by show 2≤_;decide) fun W H=>?_
 simp only[↓DD,UU,xA]
 refine newB_intro fun b hb h1 h2=>?_
 have hsub:∀ o,Sub H (upd H b o):=fun o=>(Sub.refl H).new h1
 cases h:may p c m
 ·simp only[u_may,h,↓DD,UU,↓reduceIte,xA,xC,xE,xF]
  exact⟨by rw[status_no (by simp [h])],hsub _⟩
 ·simp only[u_may,h,↓DD,UU,↓reduceIte,xA,xC,xE,xF]
  repeat' (refine both_intro (fun g=>?_) (fun g=>?_)<;>simp only[g,↓DD,UU,↓reduceIte,xA,xE])
  all_goals
   simp only[decide_eq_true_eq,decide_eq_false_iff_not]at *
   refine⟨congrArg (Value.int .i64) ?_,hsub _⟩
   first
    | rw[status_no (by omega)]
    | rw[status_yes h (by omega) (by omega)]
theorem u_status (p c m i:Int):pv Tryz.prog 68 #[.agg #[.int .i64 p,.int .i64 c,.int .i64 m],.int .i64 i] = some (.int .i64 (status p c m i)):=pv_of (q_status p c m i)

theorem q_page (p c m i:Int):PureC Tryz.prog 28 #[.agg #[.int .i64 p,.int .i64 c,.int .i64 m],.int .i64 i] (.int .i64 (page p c m i)):=by
 refine PureC.of mixed Tryz.func28 (by kernel_rfl) tr28 (by show 2≤_;decide) fun W H=>?_
 simp only[↓DD,UU,xA]
 refine newB_intro fun b hb h1 h2=>?_
 have hsub:∀ o,Sub H (upd H b o):=fun o=>(Sub.refl H).new h1
 cases h:may p c m
 ·simp only[u_may,h,↓DD,UU,↓reduceIte,xA,xC,xE,xF]
  exact⟨by rw[page_no (by simp [h])],hsub _⟩
 ·have hm:=(may_iff _ _ _).1 h
  simp only[u_may,h,↓DD,UU,↓reduceIte,xA,xC,xE,xF]
  repeat' (refine both_intro (fun g=>?_) (fun g=>?_)<;>simp only[g,↓DD,UU,↓reduceIte,xA,xE])
  all_goals
   simp only[decide_eq_true_eq,decide_eq_false_iff_not]at *
   refine⟨congrArg (Value.int .i64) ?_,hsub _⟩
   first
    | rw[page_no (by omega)]
    | rw[page_yes h (by omega) (by omega),wrap_w64,w64_eq (by omega) (by omega)]
theorem u_page (p c m i:Int):pv Tryz.prog 28 #[.agg #[.int .i64 p,.int .i64 c,.int .i64 m],.int .i64 i] = some (.int .i64 (page p c m i)):=pv_of (q_page p c m i)

theorem q_mag (p c m i j:Int):PureC Tryz.prog 25 #[.agg #[.int .i64 p,.int .i64 c,.int .i64 m],.int .i64 i,.int .i64 j] (.int .i64 (mag p c m i j)):=by
  refine PureC.of mixed Tryz.func25 (by kernel_rfl) tr25 (by show 3≤_;decide) fun W H=>?_
  simp only[↓DD,UU,xA]
  refine newB_intro fun b hb h1 h2=>?_
  have hsub:∀ o,Sub H (upd H b o):=fun o=>(Sub.refl H).new h1
  by_cases hp:may p c m=true∧0≤i∧i<c
  · obtain⟨h,hi⟩:=hp
    have hm:=(may_iff _ _ _).1 h
    have hb:=mul_bd i m (by omega) (by omega) (by omega) (by omega)
    have hcm:m*i=i*m:=Int.mul_comm _ _
    have d:decide (status p c m i<0)=false:=by rw[decide_eq_false_iff_not,status_lt0];exact fun x=>x ⟨h,hi⟩
    simp only[u_status,d,↓DD,UU,↓reduceIte,xA,xC,xE,xF]
    repeat' (refine both_intro (fun g=>?_) (fun g=>?_)<;>simp only[g,hcm,↓DD,UU,↓reduceIte,xA,xE])
    all_goals
      simp only[decide_eq_true_eq,decide_eq_false_iff_not]at *
      refine⟨congrArg (Value.int .i64) ?_,hsub _⟩
      first
        | rw[mag_no (by omega)]
        | (rw [mag_yes h (by omega) (by omega) (by omega) (by omega)]
           simp only[wrap_w64]
           rw[w64_eq (n:=c+p) (by omega) (by omega),w64_eq (n:=16*p) (by omega) (by omega),w64_eq (n:=c+p+16*p) (by omega) (by omega),w64_eq (n:=i*m) (by omega) (by omega),w64_eq (n:=c+p+16*p+i*m) (by omega) (by omega),w64_eq (by omega) (by omega)]
           omega)
  · have d:decide (status p c m i<0)=true:=by rw[decide_eq_true_eq,status_lt0];exact hp
    simp only[u_status,d,↓DD,UU,↓reduceIte,xA,xC,xE,xF]
    exact⟨by rw[mag_no (fun x=>hp ⟨x.1,x.2.1,x.2.2.1⟩)],hsub _⟩
theorem u_mag (p c m i j:Int):pv Tryz.prog 25 #[.agg #[.int .i64 p,.int .i64 c,.int .i64 m],.int .i64 i,.int .i64 j] = some (.int .i64 (mag p c m i j)):=pv_of (q_mag p c m i j)

end Go.Proofs.YtkjpgikjcfhckaaGreat
