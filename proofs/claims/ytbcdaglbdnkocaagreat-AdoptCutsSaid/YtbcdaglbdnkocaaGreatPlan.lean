/-
 The functions of package plan as pure functions of their arguments. Conditions: none.
-/
import Derived.Test.YtbcdaglbdnkocaaGreatCode
import Derived.Test.YtbcdaglbdnkocaaGreatPl
import Derived.Test.YtbcdaglbdnkocaaGreatSimp
open Nat renaming reduceAdd→xA,reduceMul→xB,reduceSub→xC,reduceEqDiff→xD,reduceBEq→xE,reduceLeDiff→xF,reduceLT→xG
open Int renaming reduceAdd→xH,reduceMul→xI,reduceSub→xJ,reduceLT→xK,reduceLE→xL,reduceToNat→xM,reduceEq→xN,reduceNe→xO,reduceBEq→xP,reduceBNe→xQ
set_option linter.unusedVariables false
set_option linter.unusedSimpArgs false
namespace Go.Proofs.YtbcdaglbdnkocaaGreat
open Go Go.Ev Go.Pl

theorem p_within (n lo hi:Int):PureC Tryz.prog 101 #[.int .i64 n,.int .i64 lo,.int .i64 hi] (.bool (within n lo hi)):=by
 refine PureC.of mixed Tryz.func101 (by kernel_rfl) tr101 (by show 3≤_;decide) fun W H=>?_
 simp only[↓DD,UU,↓reduceIte,xA,xB,xC,xD,xE,xF,xG,xH,xI,xJ,xK,xL,xM,xN,xO,xP,xQ,ne_eq,eq_self]
 refine both_intro (fun h=>?_) (fun h=>?_)<;>simp only[h,↓DD,UU,↓reduceIte,xA,xB,xC,xD,xE,xF,xG,xH,xI,xJ,xK,xL,xM,xN,xO,xP,xQ,ne_eq,eq_self]
 all_goals simp [within,Sub.refl,h]
theorem v_within (n lo hi:Int):pv Tryz.prog 101 #[.int .i64 n,.int .i64 lo,.int .i64 hi] = some (.bool (within n lo hi)):=pv_of (p_within n lo hi)

theorem p_may (p c m:Int):PureC Tryz.prog 100 #[.agg #[.int .i64 p,.int .i64 c,.int .i64 m]] (.bool (may p c m)):=by
 refine PureC.of mixed Tryz.func100 (by kernel_rfl) tr100 (by show 1≤_;decide) fun W H=>?_
 simp only[↓DD,UU,↓reduceIte,xA,xB,xC,xD,xE,xF,xG,xH,xI,xJ,xK,xL,xM,xN,xO,xP,xQ,ne_eq,eq_self]
 refine newB_intro fun b hb h1 h2=>?_
 have hsub:∀ o,Sub H (upd H b o):=fun o=>(Sub.refl H).new h1
 simp only[v_within,↓DD,UU,↓reduceIte,xA,xB,xC,xD,xE,xF,xG,xH,xI,xJ,xK,xL,xM,xN,xO,xP,xQ,ne_eq,eq_self]
 refine both_intro (fun h=>?_) (fun h=>?_)<;>simp only[h,v_within,↓DD,UU,↓reduceIte,xA,xB,xC,xD,xE,xF,xG,xH,xI,xJ,xK,xL,xM,xN,xO,xP,xQ,ne_eq,eq_self]
 ·refine both_intro (fun h=>?_) (fun h=>?_)<;>simp only[h,v_within,↓DD,UU,↓reduceIte,xA,xB,xC,xD,xE,xF,xG,xH,xI,xJ,xK,xL,xM,xN,xO,xP,xQ,ne_eq,eq_self]
  all_goals simp [may,hsub, *]
 ·simp [may,hsub, *]
theorem v_may (p c m:Int):pv Tryz.prog 100 #[.agg #[.int .i64 p,.int .i64 c,.int .i64 m]] = some (.bool (may p c m)):=pv_of (p_may p c m)


theorem p_slots (k:Int):PureC Tryz.prog 143 #[.int .i64 k] (.int .i64 (slots k)):=by
 refine PureC.of mixed Tryz.func143 (by kernel_rfl) tr143 (by show 1≤_;decide) fun W H=>?_
 cases h:within k 0 3
 ·simp only[v_within,h,↓DD,UU,↓reduceIte,xA,xB,xC,xD,xE,xF,xG,xH,xI,xJ,xK,xL,xM,xN,xO,xP,xQ,ne_eq,eq_self]
  simp [slots_no h,Sub.refl]
 ·rcases class_cases h with rfl | rfl | rfl | rfl
  all_goals
   simp only[v_within,h,↓DD,UU,↓reduceIte,xA,xB,xC,xD,xE,xF,xG,xH,xI,xJ,xK,xL,xM,xN,xO,xP,xQ,ne_eq,eq_self]
   exact⟨congrArg (Value.int .i64) (by decide),Sub.refl H⟩
theorem v_slots (k:Int):pv Tryz.prog 143 #[.int .i64 k] = some (.int .i64 (slots k)):=pv_of (p_slots k)

def classI (n:Int) (H:Hp) (F':Fr) (H':Hp):Prop:=∃ k:Int,0≤k∧k≤cls n∧gt F' 4=.int .i64 k∧gt F' 0=.int .i64 n∧H'=H


theorem p_status (p c m i:Int):PureC Tryz.prog 52 #[.agg #[.int .i64 p,.int .i64 c,.int .i64 m],.int .i64 i] (.int .i64 (status p c m i)):=by
 refine PureC.of mixed Tryz.func52 (by kernel_rfl) tr52 (by show 2≤_;decide) fun W H=>?_
 simp only[↓DD,UU,↓reduceIte,xA,xB,xC,xD,xE,xF,xG,xH,xI,xJ,xK,xL,xM,xN,xO,xP,xQ,ne_eq,eq_self]
 refine newB_intro fun b hb h1 h2=>?_
 have hsub:∀ o,Sub H (upd H b o):=fun o=>(Sub.refl H).new h1
 cases h:may p c m
 ·simp only[v_may,h,↓DD,UU,↓reduceIte,xA,xB,xC,xD,xE,xF,xG,xH,xI,xJ,xK,xL,xM,xN,xO,xP,xQ,ne_eq,eq_self]
  simp [status,h,hsub]
 ·have hm:=(may_iff _ _ _).1 h
  have e1:w64 (c - 1)=c - 1:=w64_eq (by omega) (by omega)
  cases h2:within i 0 (c - 1)
  all_goals
   simp only[v_may,v_within,h,h2,wrap_w64,e1,↓DD,UU,↓reduceIte,xA,xB,xC,xD,xE,xF,xG,xH,xI,xJ,xK,xL,xM,xN,xO,xP,xQ,ne_eq,eq_self]
   simp [status,h,h2,hsub]
theorem v_status (p c m i:Int):pv Tryz.prog 52 #[.agg #[.int .i64 p,.int .i64 c,.int .i64 m],.int .i64 i] = some (.int .i64 (status p c m i)):=pv_of (p_status p c m i)

theorem p_page (p c m i:Int):PureC Tryz.prog 112 #[.agg #[.int .i64 p,.int .i64 c,.int .i64 m],.int .i64 i] (.int .i64 (page p c m i)):=by
 refine PureC.of mixed Tryz.func112 (by kernel_rfl) tr112 (by show 2≤_;decide) fun W H=>?_
 simp only[↓DD,UU,↓reduceIte,xA,xB,xC,xD,xE,xF,xG,xH,xI,xJ,xK,xL,xM,xN,xO,xP,xQ,ne_eq,eq_self]
 refine newB_intro fun b hb h1 h2=>?_
 have hsub:∀ o,Sub H (upd H b o):=fun o=>(Sub.refl H).new h1
 cases h:may p c m
 ·simp only[v_may,h,↓DD,UU,↓reduceIte,xA,xB,xC,xD,xE,xF,xG,xH,xI,xJ,xK,xL,xM,xN,xO,xP,xQ,ne_eq,eq_self]
  simp [page,h,hsub]
 ·have hm:=(may_iff _ _ _).1 h
  have e1:w64 (p - 1)=p - 1:=w64_eq (by omega) (by omega)
  cases h2:within i 0 (p - 1)
  ·simp only[v_may,v_within,h,h2,wrap_w64,e1,↓DD,UU,↓reduceIte,xA,xB,xC,xD,xE,xF,xG,xH,xI,xJ,xK,xL,xM,xN,xO,xP,xQ,ne_eq,eq_self]
   simp [page,h,h2,hsub]
  ·have hi:=(win_iff _ _ _).1 h2
   have e2:w64 (c+i)=c+i:=w64_eq (by omega) (by omega)
   simp only[v_may,v_within,h,h2,wrap_w64,e1,e2,↓DD,UU,↓reduceIte,xA,xB,xC,xD,xE,xF,xG,xH,xI,xJ,xK,xL,xM,xN,xO,xP,xQ,ne_eq,eq_self]
   simp [page,h,h2,hsub]
theorem v_page (p c m i:Int):pv Tryz.prog 112 #[.agg #[.int .i64 p,.int .i64 c,.int .i64 m],.int .i64 i] = some (.int .i64 (page p c m i)):=pv_of (p_page p c m i)

theorem p_slot (p c m i j:Int):PureC Tryz.prog 113 #[.agg #[.int .i64 p,.int .i64 c,.int .i64 m],.int .i64 i,.int .i64 j] (.int .i64 (slot p c m i j)):=by
 refine PureC.of mixed Tryz.func113 (by kernel_rfl) tr113 (by show 3≤_;decide) fun W H=>?_
 simp only[↓DD,UU,↓reduceIte,xA,xB,xC,xD,xE,xF,xG,xH,xI,xJ,xK,xL,xM,xN,xO,xP,xQ,ne_eq,eq_self]
 refine newB_intro fun b hb h1 h2=>?_
 have hsub:∀ o,Sub H (upd H b o):=fun o=>(Sub.refl H).new h1
 cases h:may p c m
 ·simp only[v_may,h,↓DD,UU,↓reduceIte,xA,xB,xC,xD,xE,xF,xG,xH,xI,xJ,xK,xL,xM,xN,xO,xP,xQ,ne_eq,eq_self]
  simp [slot,h,hsub]
 ·have hm:=(may_iff _ _ _).1 h
  have e1:w64 (p - 1)=p - 1:=w64_eq (by omega) (by omega)
  cases h2:within i 0 (p - 1)
  ·simp only[v_may,v_within,h,h2,wrap_w64,e1,↓DD,UU,↓reduceIte,xA,xB,xC,xD,xE,xF,xG,xH,xI,xJ,xK,xL,xM,xN,xO,xP,xQ,ne_eq,eq_self]
   simp [slot,h,h2,hsub]
  ·have hi:=(win_iff _ _ _).1 h2
   cases h3:within j 0 15
   ·simp only[v_may,v_within,h,h2,h3,wrap_w64,e1,↓DD,UU,↓reduceIte,xA,xB,xC,xD,xE,xF,xG,xH,xI,xJ,xK,xL,xM,xN,xO,xP,xQ,ne_eq,eq_self]
    simp [slot,h,h2,h3,hsub]
   ·have hj:=(win_iff _ _ _).1 h3
    have e2:w64 (c+p)=c+p:=w64_eq (by omega) (by omega)
    have e3:w64 (i*16)=i*16:=w64_eq (by omega) (by omega)
    have e4:w64 (c+p+i*16)=c+p+i*16:=w64_eq (by omega) (by omega)
    have e5:w64 (c+p+i*16+j)=c+p+i*16+j:=w64_eq (by omega) (by omega)
    simp only[v_may,v_within,h,h2,h3,wrap_w64,e1,e2,e3,e4,e5,↓DD,UU,↓reduceIte,xA,xB,xC,xD,xE,xF,xG,xH,xI,xJ,xK,xL,xM,xN,xO,xP,xQ,ne_eq,eq_self]
    simp [slot,h,h2,h3,hsub]
theorem v_slot (p c m i j:Int):pv Tryz.prog 113 #[.agg #[.int .i64 p,.int .i64 c,.int .i64 m],.int .i64 i,.int .i64 j] = some (.int .i64 (slot p c m i j)):=pv_of (p_slot p c m i j)

theorem p_mag (p c m i j:Int):PureC Tryz.prog 65 #[.agg #[.int .i64 p,.int .i64 c,.int .i64 m],.int .i64 i,.int .i64 j] (.int .i64 (mag p c m i j)):=by
 refine PureC.of mixed Tryz.func65 (by kernel_rfl) tr65 (by show 3≤_;decide) fun W H=>?_
 simp only[↓DD,UU,↓reduceIte,xA,xB,xC,xD,xE,xF,xG,xH,xI,xJ,xK,xL,xM,xN,xO,xP,xQ,ne_eq,eq_self]
 refine newB_intro fun b hb h1 h2=>?_
 have hsub:∀ o,Sub H (upd H b o):=fun o=>(Sub.refl H).new h1
 cases h:may p c m
 ·simp only[v_may,h,↓DD,UU,↓reduceIte,xA,xB,xC,xD,xE,xF,xG,xH,xI,xJ,xK,xL,xM,xN,xO,xP,xQ,ne_eq,eq_self]
  simp [mag,h,hsub]
 ·have hm:=(may_iff _ _ _).1 h
  have e1:w64 (c - 1)=c - 1:=w64_eq (by omega) (by omega)
  have e1':w64 (m - 1)=m - 1:=w64_eq (by omega) (by omega)
  cases h2:within i 0 (c - 1)
  ·simp only[v_may,v_within,h,h2,wrap_w64,e1,e1',↓DD,UU,↓reduceIte,xA,xB,xC,xD,xE,xF,xG,xH,xI,xJ,xK,xL,xM,xN,xO,xP,xQ,ne_eq,eq_self]
   simp [mag,h,h2,hsub]
  ·have hi:=(win_iff _ _ _).1 h2
   cases h3:within j 0 (m - 1)
   ·simp only[v_may,v_within,h,h2,h3,wrap_w64,e1,e1',↓DD,UU,↓reduceIte,xA,xB,xC,xD,xE,xF,xG,xH,xI,xJ,xK,xL,xM,xN,xO,xP,xQ,ne_eq,eq_self]
    simp [mag,h,h2,h3,hsub]
   ·have hj:=(win_iff _ _ _).1 h3
    have hb:=mul_bd i m (by omega) (by omega) (by omega) (by omega)
    have e2:w64 (c+p)=c+p:=w64_eq (by omega) (by omega)
    have e3:w64 (p*16)=p*16:=w64_eq (by omega) (by omega)
    have e4:w64 (c+p+p*16)=c+p+p*16:=w64_eq (by omega) (by omega)
    have e5:w64 (i*m)=i*m:=w64_eq (by omega) (by omega)
    have e6:w64 (c+p+p*16+i*m)=c+p+p*16+i*m:=w64_eq (by omega) (by omega)
    have e7:w64 (c+p+p*16+i*m+j)=c+p+p*16+i*m+j:=w64_eq (by omega) (by omega)
    simp only[v_may,v_within,h,h2,h3,wrap_w64,e1,e1',e2,e3,e4,e5,e6,e7,↓DD,UU,↓reduceIte,xA,xB,xC,xD,xE,xF,xG,xH,xI,xJ,xK,xL,xM,xN,xO,xP,xQ,ne_eq,eq_self]
    simp [mag,h,h2,h3,hsub]
theorem v_mag (p c m i j:Int):pv Tryz.prog 65 #[.agg #[.int .i64 p,.int .i64 c,.int .i64 m],.int .i64 i,.int .i64 j] = some (.int .i64 (mag p c m i j)):=pv_of (p_mag p c m i j)



end Go.Proofs.YtbcdaglbdnkocaaGreat
