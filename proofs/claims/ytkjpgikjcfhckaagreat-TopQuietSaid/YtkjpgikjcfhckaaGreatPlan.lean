/-
 The functions of package plan as pure functions of their arguments. Conditions: none.
-/
import Derived.Test.YtkjpgikjcfhckaaGreatCode
import Derived.Test.YtkjpgikjcfhckaaGreatPl
import Derived.Test.YtkjpgikjcfhckaaGreatSimp
open Nat renaming reduceAdd→xA,reduceMul→xB,reduceSub→xC,reduceEqDiff→xD,reduceBEq→xE,reduceLeDiff→xF,reduceLT→xG
open Int renaming reduceAdd→xH,reduceMul→xI,reduceSub→xJ,reduceLT→xK,reduceLE→xL,reduceToNat→xM,reduceEq→xN,reduceNe→xO,reduceBEq→xP,reduceBNe→xQ
set_option linter.unusedVariables false
set_option linter.unusedSimpArgs false
namespace Go.Proofs.YtkjpgikjcfhckaaGreat
open Go Go.Ev Go.Pl

theorem p_within (n lo hi:Int):PureC Tryz.prog 81 #[.int .i64 n,.int .i64 lo,.int .i64 hi] (.bool (within n lo hi)):=by
 refine PureC.of mixed Tryz.func81 (by kernel_rfl) tr81 (by show 3≤_;decide) fun W H=>?_
 simp only[↓DD,UU,xA,xE]
 refine both_intro (fun h=>?_) (fun h=>?_)<;>simp only[h,↓DD,UU,xA,xE]
 all_goals simp [within,Sub.refl,h]
theorem v_within (n lo hi:Int):pv Tryz.prog 81 #[.int .i64 n,.int .i64 lo,.int .i64 hi] = some (.bool (within n lo hi)):=pv_of (p_within n lo hi)

theorem p_may (p c m:Int):PureC Tryz.prog 53 #[.agg #[.int .i64 p,.int .i64 c,.int .i64 m]] (.bool (may p c m)):=by
 refine PureC.of mixed Tryz.func53 (by kernel_rfl) tr53 (by show 1≤_;decide) fun W H=>?_
 simp only[↓DD,UU]
 refine newB_intro fun b hb h1 h2=>?_
 have hsub:∀ o,Sub H (upd H b o):=fun o=>(Sub.refl H).new h1
 simp only[v_within,↓DD,UU,↓reduceIte,xE]
 refine both_intro (fun h=>?_) (fun h=>?_)<;>simp only[h,v_within,↓DD,UU,↓reduceIte,xE]
 ·refine both_intro (fun h=>?_) (fun h=>?_)<;>simp only[h,v_within,↓DD,UU,↓reduceIte,xE]
  all_goals simp [may, *]
 ·simp [may, *]
theorem v_may (p c m:Int):pv Tryz.prog 53 #[.agg #[.int .i64 p,.int .i64 c,.int .i64 m]] = some (.bool (may p c m)):=pv_of (p_may p c m)

theorem p_size (k:Int):PureC Tryz.prog 73 #[.int .i64 k] (.int .i64 (size k)):=by
 refine PureC.of mixed Tryz.func73 (by kernel_rfl) tr73 (by show 1≤_;decide) fun W H=>?_
 cases h:within k 0 3
 ·simp only[v_within,h,↓DD,UU,xE]
  simp [size_no h,Sub.refl]
 ·rcases class_cases h with rfl | rfl | rfl | rfl
  all_goals
   simp only[v_within,h,↓DD,UU,xE,xL,xM]
   exact⟨congrArg (Value.int .i64) (by decide),Sub.refl H⟩
theorem v_size (k:Int):pv Tryz.prog 73 #[.int .i64 k] = some (.int .i64 (size k)):=pv_of (p_size k)

theorem p_slots (k:Int):PureC Tryz.prog 70 #[.int .i64 k] (.int .i64 (slots k)):=by
 refine PureC.of mixed Tryz.func70 (by kernel_rfl) tr70 (by show 1≤_;decide) fun W H=>?_
 cases h:within k 0 3
 ·simp only[v_within,h,↓DD,UU,xE]
  simp [slots_no h,Sub.refl]
 ·rcases class_cases h with rfl | rfl | rfl | rfl
  all_goals
   simp only[v_within,h,↓DD,UU,xE,xL,xM]
   exact⟨congrArg (Value.int .i64) (by decide),Sub.refl H⟩
theorem v_slots (k:Int):pv Tryz.prog 70 #[.int .i64 k] = some (.int .i64 (slots k)):=pv_of (p_slots k)

def classI (n:Int) (H:Hp) (F':Fr) (H':Hp):Prop:=∃ k:Int,0≤k∧k≤cls n∧gt F' 4=.int .i64 k∧gt F' 0=.int .i64 n∧H'=H
theorem p_class (n:Int):PureC Tryz.prog 128 #[.int .i64 n] (.tuple #[.int .i64 (cls n),.bool (small n)]):=by
 refine PureC.of mixed Tryz.func128 (by kernel_rfl) tr128 (by show 1≤_;decide) fun W H=>?_
 cases h:within n 1 32
 ·simp only[v_within,h,↓DD,UU,xE]
  simp [cls,small,h,Sub.refl]
 ·have hs:small n=true:=h
  have hb:=cls_bd n
  simp only[v_within,h,↓DD,UU,xE]
  refine loop_intro (classI n H) (fun F' _=>(3 - iv (gt F' 4)).toNat) ⟨0,by omega,by omega,rfl,rfl,rfl⟩ ?_
  rintro F' H' ⟨k,h0,h1,e4,e0,rfl⟩
  have hf:=cls_first hs h0 h1
  by_cases hk:k<cls n
  ·have hd:decide (size k<n)=true:=by rw[decide_eq_true_eq];exact hf.2 hk
   have hw:w64 (k+1)=k+1:=w64_eq (by omega) (by omega)
   simp only[e4,e0,v_size,hd,wrap_w64,hw,↓DD,UU,xE]
   exact⟨⟨k+1,by omega,by omega,by simp [gt],by simp [gt,e0],rfl⟩,by simp [iv];omega⟩
  ·have hd:decide (size k<n)=false:=by rw[decide_eq_false_iff_not];exact fun x=>hk (hf.1 x)
   simp only[e4,e0,v_size,hd,↓DD,UU,xE]
   have:k=cls n:=by omega
   subst this
   exact⟨by rw[hs],Sub.refl _⟩
theorem v_class (n:Int):pv Tryz.prog 128 #[.int .i64 n] = some (.tuple #[.int .i64 (cls n),.bool (small n)]):=pv_of (p_class n)

theorem p_run (n:Int):PureC Tryz.prog 113 #[.int .i64 n] (.tuple #[.int .i64 (pages n),.bool (large n)]):=by
 refine PureC.of mixed Tryz.func113 (by kernel_rfl) tr113 (by show 1≤_;decide) fun W H=>?_
 cases h:within n 33 512
 ·simp only[v_within,h,↓DD,UU,xE]
  simp [pages,large,h,Sub.refl]
 ·have hb:=(win_iff _ _ _).1 h
  have hl:large n=true:=h
  have w1:w64 (n - 1)=n - 1:=w64_eq (by omega) (by omega)
  have hs:Int.fdiv (n - 1) (2 ^ min 6 IntKind.i64.bits)=(n - 1) / 64:=by
   rw[show((2:Int) ^ min 6 IntKind.i64.bits)=64 by decide,Int.fdiv_eq_ediv_of_nonneg _ (by decide)]
  have w2:w64 ((n - 1) / 64+1)=(n - 1) / 64+1:=w64_eq (by omega) (by omega)
  simp only[v_within,h,wrap_w64,w1,hs,w2,↓DD,UU,xE,xL,xM]
  simp [pages,hl,Sub.refl]
theorem v_run (n:Int):pv Tryz.prog 113 #[.int .i64 n] = some (.tuple #[.int .i64 (pages n),.bool (large n)]):=pv_of (p_run n)

theorem shl6 {n:Int} (h:-100000≤n) (h':n≤100000):IntKind.i64.wrap (n*2 ^ min 6 IntKind.i64.bits)=n*64:=by
 rw[show((2:Int) ^ min 6 IntKind.i64.bits)=64 by decide]
 exact w64_eq (by omega) (by omega)
theorem shr6 (n:Int):Int.fdiv n (2 ^ min 6 IntKind.i64.bits)=n / 64:=by
 rw[show((2:Int) ^ min 6 IntKind.i64.bits)=64 by decide,Int.fdiv_eq_ediv_of_nonneg _ (by decide)]

theorem p_length (n:Int):PureC Tryz.prog 112 #[.int .i64 n] (.tuple #[.int .i64 (len n),.bool (fine n)]):=by
 refine PureC.of mixed Tryz.func112 (by kernel_rfl) tr112 (by show 1≤_;decide) fun W H=>?_
 have hp:=pages_bd n
 have hs:=shl6 (n:=pages n) (by omega) (by omega)
 cases h:small n
 ·simp only[v_class,v_run,h,hs,↓DD,UU,xE,xL,xM]
  simp [len,fine,h,Sub.refl]
 ·simp only[v_class,v_size,h,↓DD,UU,xE]
  simp [len,fine,h,Sub.refl]
theorem v_length (n:Int):pv Tryz.prog 112 #[.int .i64 n] = some (.tuple #[.int .i64 (len n),.bool (fine n)]):=pv_of (p_length n)

theorem p_words (p c m:Int):PureC Tryz.prog 78 #[.agg #[.int .i64 p,.int .i64 c,.int .i64 m]] (.int .i64 (words p c m)):=by
 refine PureC.of mixed Tryz.func78 (by kernel_rfl) tr78 (by show 1≤_;decide) fun W H=>?_
 simp only[↓DD,UU]
 refine newB_intro fun b hb h1 h2=>?_
 have hsub:∀ o,Sub H (upd H b o):=fun o=>(Sub.refl H).new h1
 cases h:may p c m
 ·simp only[v_may,h,↓DD,UU,↓reduceIte,xA,xC,xE,xF]
  simp [words,h,hsub]
 ·have hm:=(may_iff _ _ _).1 h
  have hb:=mul_bd c m (by omega) (by omega) (by omega) (by omega)
  have e1:w64 (c+p)=c+p:=w64_eq (by omega) (by omega)
  have e2:w64 (p*16)=p*16:=w64_eq (by omega) (by omega)
  have e3:w64 (c+p+p*16)=c+p+p*16:=w64_eq (by omega) (by omega)
  have e4:w64 (c*m)=c*m:=w64_eq (by omega) (by omega)
  have e5:w64 (c+p+p*16+c*m)=c+p+p*16+c*m:=w64_eq (by omega) (by omega)
  simp only[v_may,h,wrap_w64,e1,e2,e3,e4,e5,↓DD,UU,↓reduceIte,xA,xC,xE,xF]
  simp [words,h,hsub]
theorem v_words (p c m:Int):pv Tryz.prog 78 #[.agg #[.int .i64 p,.int .i64 c,.int .i64 m]] = some (.int .i64 (words p c m)):=pv_of (p_words p c m)

theorem p_status (p c m i:Int):PureC Tryz.prog 40 #[.agg #[.int .i64 p,.int .i64 c,.int .i64 m],.int .i64 i] (.int .i64 (status p c m i)):=by
 refine PureC.of mixed Tryz.func40 (by kernel_rfl) tr40 (by show 2≤_;decide) fun W H=>?_
 simp only[↓DD,UU,xA]
 refine newB_intro fun b hb h1 h2=>?_
 have hsub:∀ o,Sub H (upd H b o):=fun o=>(Sub.refl H).new h1
 cases h:may p c m
 ·simp only[v_may,h,↓DD,UU,↓reduceIte,xA,xC,xE,xF]
  simp [status,h,hsub]
 ·have hm:=(may_iff _ _ _).1 h
  have e1:w64 (c - 1)=c - 1:=w64_eq (by omega) (by omega)
  cases h2:within i 0 (c - 1)
  all_goals
   simp only[v_may,v_within,h,h2,wrap_w64,e1,↓DD,UU,↓reduceIte,xA,xC,xE,xF]
   simp [status,h,h2,hsub]
theorem v_status (p c m i:Int):pv Tryz.prog 40 #[.agg #[.int .i64 p,.int .i64 c,.int .i64 m],.int .i64 i] = some (.int .i64 (status p c m i)):=pv_of (p_status p c m i)

theorem p_page (p c m i:Int):PureC Tryz.prog 94 #[.agg #[.int .i64 p,.int .i64 c,.int .i64 m],.int .i64 i] (.int .i64 (page p c m i)):=by
 refine PureC.of mixed Tryz.func94 (by kernel_rfl) tr94 (by show 2≤_;decide) fun W H=>?_
 simp only[↓DD,UU,xA]
 refine newB_intro fun b hb h1 h2=>?_
 have hsub:∀ o,Sub H (upd H b o):=fun o=>(Sub.refl H).new h1
 cases h:may p c m
 ·simp only[v_may,h,↓DD,UU,↓reduceIte,xA,xC,xE,xF]
  simp [page,h,hsub]
 ·have hm:=(may_iff _ _ _).1 h
  have e1:w64 (p - 1)=p - 1:=w64_eq (by omega) (by omega)
  cases h2:within i 0 (p - 1)
  ·simp only[v_may,v_within,h,h2,wrap_w64,e1,↓DD,UU,↓reduceIte,xA,xC,xE,xF]
   simp [page,h,h2,hsub]
  ·have hi:=(win_iff _ _ _).1 h2
   have e2:w64 (c+i)=c+i:=w64_eq (by omega) (by omega)
   simp only[v_may,v_within,h,h2,wrap_w64,e1,e2,↓DD,UU,↓reduceIte,xA,xC,xE,xF]
   simp [page,h,h2,hsub]
theorem v_page (p c m i:Int):pv Tryz.prog 94 #[.agg #[.int .i64 p,.int .i64 c,.int .i64 m],.int .i64 i] = some (.int .i64 (page p c m i)):=pv_of (p_page p c m i)

theorem p_slot (p c m i j:Int):PureC Tryz.prog 101 #[.agg #[.int .i64 p,.int .i64 c,.int .i64 m],.int .i64 i,.int .i64 j] (.int .i64 (slot p c m i j)):=by
 refine PureC.of mixed Tryz.func101 (by kernel_rfl) tr101 (by show 3≤_;decide) fun W H=>?_
 simp only[↓DD,UU,xA]
 refine newB_intro fun b hb h1 h2=>?_
 have hsub:∀ o,Sub H (upd H b o):=fun o=>(Sub.refl H).new h1
 cases h:may p c m
 ·simp only[v_may,h,↓DD,UU,↓reduceIte,xA,xC,xE,xF]
  simp [slot,h,hsub]
 ·have hm:=(may_iff _ _ _).1 h
  have e1:w64 (p - 1)=p - 1:=w64_eq (by omega) (by omega)
  cases h2:within i 0 (p - 1)
  ·simp only[v_may,v_within,h,h2,wrap_w64,e1,↓DD,UU,↓reduceIte,xA,xC,xE,xF]
   simp [slot,h,h2,hsub]
  ·have hi:=(win_iff _ _ _).1 h2
   cases h3:within j 0 15
   ·simp only[v_may,v_within,h,h2,h3,wrap_w64,e1,↓DD,UU,↓reduceIte,xA,xC,xE,xF]
    simp [slot,h,h2,h3,hsub]
   ·have hj:=(win_iff _ _ _).1 h3
    have e2:w64 (c+p)=c+p:=w64_eq (by omega) (by omega)
    have e3:w64 (i*16)=i*16:=w64_eq (by omega) (by omega)
    have e4:w64 (c+p+i*16)=c+p+i*16:=w64_eq (by omega) (by omega)
    have e5:w64 (c+p+i*16+j)=c+p+i*16+j:=w64_eq (by omega) (by omega)
    simp only[v_may,v_within,h,h2,h3,wrap_w64,e1,e2,e3,e4,e5,↓DD,UU,↓reduceIte,xA,xC,xE,xF]
    simp [slot,h,h2,h3,hsub]
theorem v_slot (p c m i j:Int):pv Tryz.prog 101 #[.agg #[.int .i64 p,.int .i64 c,.int .i64 m],.int .i64 i,.int .i64 j] = some (.int .i64 (slot p c m i j)):=pv_of (p_slot p c m i j)

theorem p_mag (p c m i j:Int):PureC Tryz.prog 222 #[.agg #[.int .i64 p,.int .i64 c,.int .i64 m],.int .i64 i,.int .i64 j] (.int .i64 (mag p c m i j)):=by
 refine PureC.of mixed Tryz.func222 (by kernel_rfl) tr222 (by show 3≤_;decide) fun W H=>?_
 simp only[↓DD,UU,xA]
 refine newB_intro fun b hb h1 h2=>?_
 have hsub:∀ o,Sub H (upd H b o):=fun o=>(Sub.refl H).new h1
 cases h:may p c m
 ·simp only[v_may,h,↓DD,UU,↓reduceIte,xA,xC,xE,xF]
  simp [mag,h,hsub]
 ·have hm:=(may_iff _ _ _).1 h
  have e1:w64 (c - 1)=c - 1:=w64_eq (by omega) (by omega)
  have e1':w64 (m - 1)=m - 1:=w64_eq (by omega) (by omega)
  cases h2:within i 0 (c - 1)
  ·simp only[v_may,v_within,h,h2,wrap_w64,e1,↓DD,UU,↓reduceIte,xA,xC,xE,xF]
   simp [mag,h,h2,hsub]
  ·have hi:=(win_iff _ _ _).1 h2
   cases h3:within j 0 (m - 1)
   ·simp only[v_may,v_within,h,h2,h3,wrap_w64,e1,e1',↓DD,UU,↓reduceIte,xA,xC,xE,xF]
    simp [mag,h,h2,h3,hsub]
   ·have hj:=(win_iff _ _ _).1 h3
    have hb:=mul_bd i m (by omega) (by omega) (by omega) (by omega)
    have e2:w64 (c+p)=c+p:=w64_eq (by omega) (by omega)
    have e3:w64 (p*16)=p*16:=w64_eq (by omega) (by omega)
    have e4:w64 (c+p+p*16)=c+p+p*16:=w64_eq (by omega) (by omega)
    have e5:w64 (i*m)=i*m:=w64_eq (by omega) (by omega)
    have e6:w64 (c+p+p*16+i*m)=c+p+p*16+i*m:=w64_eq (by omega) (by omega)
    have e7:w64 (c+p+p*16+i*m+j)=c+p+p*16+i*m+j:=w64_eq (by omega) (by omega)
    simp only[v_may,v_within,h,h2,h3,wrap_w64,e1,e1',e2,e3,e4,e5,e6,e7,↓DD,UU,↓reduceIte,xA,xC,xE,xF]
    simp [mag,h,h2,h3,hsub]
theorem v_mag (p c m i j:Int):pv Tryz.prog 222 #[.agg #[.int .i64 p,.int .i64 c,.int .i64 m],.int .i64 i,.int .i64 j] = some (.int .i64 (mag p c m i j)):=pv_of (p_mag p c m i j)

theorem and63 {a:Int} (h:0≤a) (h':a≤100000):bits .and .i64 a 63=a % 64:=by
 obtain⟨n,rfl⟩:=Int.eq_ofNat_of_zero_le h
 unfold bits
 have e:(BitVec.ofInt IntKind.i64.bits (n:Int) &&& BitVec.ofInt IntKind.i64.bits 63).toNat=n % 64:=by
  show(BitVec.ofInt 64 (n:Int) &&& BitVec.ofInt 64 63).toNat=n % 64
  rw[BitVec.toNat_and]
  have e1:(BitVec.ofInt 64 (n:Int)).toNat=n:=by
   rw[BitVec.ofInt_natCast,BitVec.toNat_ofNat];omega
  rw[e1,show(BitVec.ofInt 64 63).toNat=2 ^ 6 - 1 from by decide,Nat.and_two_pow_sub_one_eq_mod]
 simp only[e]
 rw[wrap_w64,w64_eq (by omega) (by omega)]
 omega

theorem p_split (p c m a:Int):PureC Tryz.prog 74 #[.agg #[.int .i64 p,.int .i64 c,.int .i64 m],.int .i64 a] (.tuple #[.int .i64 (sp p c m a),.int .i64 (so p c m a),.bool (there p c m a)]):=by
 refine PureC.of mixed Tryz.func74 (by kernel_rfl) tr74 (by show 2≤_;decide) fun W H=>?_
 simp only[↓DD,UU,xA]
 refine newB_intro fun b hb h1 h2=>?_
 have hsub:∀ o,Sub H (upd H b o):=fun o=>(Sub.refl H).new h1
 cases h:may p c m
 ·simp only[v_may,h,↓DD,UU,↓reduceIte,xA,xC,xE,xF]
  simp [sp,so,there,h,hsub]
 ·have hm:=(may_iff _ _ _).1 h
  have e0:=shl6 (n:=p) (by omega) (by omega)
  have e1:w64 (p*64 - 1)=p*64 - 1:=w64_eq (by omega) (by omega)
  cases h2:within a 0 (p*64 - 1)
  ·simp only[v_may,v_within,h,h2,e0,wrap_w64,e1,↓DD,UU,↓reduceIte,xA,xC,xE,xF,xL,xM]
   simp [sp,so,there,h,h2,hsub]
  ·have hi:=(win_iff _ _ _).1 h2
   have e2:=and63 (a:=a) (by omega) (by omega)
   simp only[v_may,v_within,h,h2,e0,wrap_w64,e1,e2,shr6,↓DD,UU,↓reduceIte,xA,xC,xE,xF,xL,xM]
   simp [sp,so,there,h,h2,hsub]
theorem v_split (p c m a:Int):pv Tryz.prog 74 #[.agg #[.int .i64 p,.int .i64 c,.int .i64 m],.int .i64 a] = some (.tuple #[.int .i64 (sp p c m a),.int .i64 (so p c m a),.bool (there p c m a)]):=pv_of (p_split p c m a)

theorem p_address (p i k:Int) (hp:0≤p) (hp':p≤64) (hi:0≤i) (hi':i≤64):PureC Tryz.prog 72 #[.int .i64 p,.int .i64 i,.int .i64 k] (.int .i64 (p*64+i*size k)):=by
 refine PureC.of mixed Tryz.func72 (by kernel_rfl) tr72 (by show 3≤_;decide) fun W H=>?_
 have hs:=size_bd k
 have hb:0≤i*size k∧i*size k≤2048:=⟨Int.mul_nonneg hi hs.1,by have:=Int.mul_le_mul hi' hs.2 hs.1 (by decide:(0:Int)≤64);omega⟩
 have e0:=shl6 (n:=p) (by omega) (by omega)
 have e1:w64 (i*size k)=i*size k:=w64_eq (by omega) (by omega)
 have e2:w64 (p*64+i*size k)=p*64+i*size k:=w64_eq (by omega) (by omega)
 simp only[v_size,e0,wrap_w64,e1,e2,↓DD,UU,xA,xE,xL,xM]
 exact Sub.refl H
theorem v_address {p i:Int} (k:Int) (hp:0≤p) (hp':p≤64) (hi:0≤i) (hi':i≤64):pv Tryz.prog 72 #[.int .i64 p,.int .i64 i,.int .i64 k] = some (.int .i64 (p*64+i*size k)):=pv_of (p_address p i k hp hp' hi hi')
end Go.Proofs.YtkjpgikjcfhckaaGreat
